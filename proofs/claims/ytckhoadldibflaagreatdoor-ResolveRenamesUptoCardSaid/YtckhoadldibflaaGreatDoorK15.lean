/-
  Several texts in one: V6, V7, V8. No condition.
-/
import Derived.Test.YtckhoadldibflaaGreatDoorK01
import Derived.Test.YtckhoadldibflaaGreatDoorK14
import Derived.KernelRfl
set_option linter.unusedVariables false
set_option linter.unusedSimpArgs false
namespace Go.Proofs.YtckhoadldibflaaGreatDoor
open Go Go.Aw
set_option maxHeartbeats 1600000
set_option maxRecDepth 20000

theorem Zu (st:PS)(bp:Nat)(D:Int)(hD:0≤D)(E:PS→Syn×PS)(hFE:Cq E)(hE:∀(st:PS) (bp:Nat),okD (D+1) st→Bc Tryz.prog 164 bp 223 (cP st) (cP (E st).2) [.val (.pointer (some ⟨bp,0,none⟩))] (.agg (cSyn (E st).1)))(hO:okD D st):Bc Tryz.prog 316 bp 223 (cP st) (cP ((Jh E st).2)) [.val (.pointer (some ⟨bp,0,none⟩))] (.agg (cSyn (Jh E st).1)):=by
 intro H;refine Bp.body (n:=8) tok Tryz.func316 rfl rfl rfl ?_;refine Ae (Ed Kz fun b2=>Bs (Qp Bm (Qp Bm (Qp (Bn (l:=[.val _]) (l':=[]) rfl rfl) ?_))));refine Qp (Ny (es:=sumL.map cSg) tok (⟨fun cs=>cs=Na,by simp [globals],fun _ h=>h⟩) rfl rfl rfl rfl rfl rfl rfl rfl rfl) ?_;refine Rt (Cu rfl ((cY st bp D hD 322 (by kernel_rfl) [.val (.pointer (some ⟨bp,0,none⟩))] [] (In E) (bT hFE) (fun s ho=>p_unit s bp D hD E hFE hE ho) hO sumL (by decide) (by decide)).at (k:=1) (H2:=_::_::_) rfl rfl)) ?_;refine Bt 0 Au (_::_::_) (Rb ?_);refine ⟨.inr rfl,[.agg Au],.cons (.box _ _ _ 0 _ _ _ _ rfl rfl rfl rfl rfl rfl) <| .nil,_,.cons _ (.refl _),?_⟩;refine ⟨rfl,rfl⟩
theorem qS (st:PS)(bp:Nat)(D:Int)(hD:0≤D)(E:PS→Syn×PS)(hFE:Cq E)(hE:∀(st:PS) (bp:Nat),okD (D+1) st→Bc Tryz.prog 164 bp 223 (cP st) (cP (E st).2) [.val (.pointer (some ⟨bp,0,none⟩))] (.agg (cSyn (E st).1)))(hO:okD D st):Bc Tryz.prog 306 bp 223 (cP st) (cP ((M2 E st).2)) [.val (.pointer (some ⟨bp,0,none⟩))] (.agg (cSyn (M2 E st).1)):=by
 intro H;have hO2:=(Zq hFE).okD hD hO;have hS:=hO2.1;refine Bp.body (n:=65) tok Tryz.func306 rfl rfl rfl ?_;refine Ae (Ed Kz fun b2=>Bs (Qp Bm (lV ((Zu st bp D hD E hFE hE hO).at (k:=1) (H2:=_::_::_) rfl rfl) (Ed Kz fun b3=>?_))));refine Bt 0 Au (_::_::_::_) ?_;refine AOL.ghost (GS.freeze (t:=3) 0 rfl rfl) ?_;refine Re (AW.block (Ae (Qp Bm ?_)));refine Rt (Cu rfl ((Df _ _ _ (by simpa using hS) (by decide)).at (k:=1) (H2:=_::_::_) rfl rfl)) ?_;refine Qp A0 (Ag (Aq (fun hc1=>?_) fun hc1=>?_))
 ·
  try simp only [Dp,Eo] at hc1
  refine AW.ghost (GS.Aai (H2:=_::_::_) 1 rfl (congrArg cP (E5 hc1)) rfl) ?_;refine AW.seq ?_;refine Ol ?_;refine Qn 0 rfl (B0 Au) (Qn 1 rfl Bm (Qn 3 rfl (Qf [Iq _]) (Qn 4 rfl Bi ?_)));refine O0 2 rfl (Cu rfl ((Zu (adv (Jh E st).2) bp D hD E hFE hE (by simpa using hO2)).at (k:=1) (H2:=_::_::_) rfl rfl)) ?_;refine Qn 5 rfl (Qc rfl (Jm _ _ _ _)) ?_;refine O0 6 rfl (Bf (k:=0) (v:=.agg _) (cs':=Au) (H2:=_::_::_) tok rfl rfl rfl rfl (rfl) rfl rfl rfl rfl) ?_;refine Hs ?_;refine Bh (AW.ret (Db (Be ?_)));refine ⟨.inr rfl,[.agg Au],.cons (.box _ _ _ 0 _ _ _ _ rfl rfl rfl rfl rfl rfl) <| .nil,_,.cons _ (.refl _),?_⟩;refine ⟨?_,congrArg (fun c=>HO.box bp 223 c::H) ?_⟩
  ·
   try simp only [Ai,M2,cSyn,Dn,C8,Ba,hc1,↓reduceIte,Bz,Ew,Ef]
   try rfl
  try simp only [cP,M2,hc1,↓reduceIte,Bz,Ew,Ef]
  try rfl
 try simp only [Dp,Eo] at hc1
 refine AW.ghost (GS.Aai (H2:=_::_::_) 1 rfl (congrArg cP (Fy hc1)) rfl) ?_;refine Ae (Qp Bm ?_);refine Rt (Cu rfl ((Df _ _ _ (by simpa using hS) (by decide)).at (k:=1) (H2:=_::_::_) rfl rfl)) ?_;refine Qp A0 (Ag (Aq (fun hc2=>?_) fun hc2=>?_))
 ·
  try simp only [Dp,Eo] at hc2
  refine AW.ghost (GS.Aai (H2:=_::_::_) 1 rfl (congrArg cP (E5 hc2)) rfl) ?_;refine AW.seq ?_;refine Ol ?_;refine Qn 0 rfl (B0 Au) (Qn 1 rfl Bm (Qn 3 rfl (Qf [Iq _]) (Qn 4 rfl Bi ?_)));refine O0 2 rfl (Cu rfl ((Zu (adv (Jh E st).2) bp D hD E hFE hE (by simpa using hO2)).at (k:=1) (H2:=_::_::_) rfl rfl)) ?_;refine Qn 5 rfl (Qc rfl (Jm _ _ _ _)) ?_;refine O0 6 rfl (Bf (k:=0) (v:=.agg _) (cs':=Au) (H2:=_::_::_) tok rfl rfl rfl rfl (rfl) rfl rfl rfl rfl) ?_;refine Hs ?_;refine Bh (AW.ret (Db (Be ?_)));refine ⟨.inr rfl,[.agg Au],.cons (.box _ _ _ 0 _ _ _ _ rfl rfl rfl rfl rfl rfl) <| .nil,_,.cons _ (.refl _),?_⟩;refine ⟨?_,congrArg (fun c=>HO.box bp 223 c::H) ?_⟩
  ·
   try simp only [Ai,M2,cSyn,Dn,C8,Ba,hc1,hc2,↓reduceIte,Bz,Ew,Ef]
   try rfl
  try simp only [cP,M2,hc1,hc2,↓reduceIte,Bz,Ew,Ef]
  try rfl
 try simp only [Dp,Eo] at hc2
 refine AW.ghost (GS.Aai (H2:=_::_::_) 1 rfl (congrArg cP (Fy hc2)) rfl) ?_;refine Ae (Qp Bm ?_);refine Rt (Cu rfl ((Df _ _ _ (by simpa using hS) (by decide)).at (k:=1) (H2:=_::_::_) rfl rfl)) ?_;refine Qp A0 (Ag (Aq (fun hc3=>?_) fun hc3=>?_))
 ·
  try simp only [Dp,Eo] at hc3
  refine AW.ghost (GS.Aai (H2:=_::_::_) 1 rfl (congrArg cP (E5 hc3)) rfl) ?_;refine AW.seq ?_;refine Ol ?_;refine Qn 0 rfl Bm (Qn 2 rfl (B0 Au) (Qn 3 rfl (Qf [Iq _]) (Qn 4 rfl Bi ?_)));refine O0 1 rfl (Cu rfl ((Zu (adv (Jh E st).2) bp D hD E hFE hE (by simpa using hO2)).at (k:=1) (H2:=_::_::_) rfl rfl)) ?_;refine Qn 5 rfl (Qc rfl (Jm _ _ _ _)) ?_;refine O0 6 rfl (Bf (k:=0) (v:=.agg _) (cs':=Au) (H2:=_::_::_) tok rfl rfl rfl rfl (rfl) rfl rfl rfl rfl) ?_;refine Hs ?_;refine Bh (AW.ret (Db (Be ?_)));refine ⟨.inr rfl,[.agg Au],.cons (.box _ _ _ 0 _ _ _ _ rfl rfl rfl rfl rfl rfl) <| .nil,_,.cons _ (.refl _),?_⟩;refine ⟨?_,congrArg (fun c=>HO.box bp 223 c::H) ?_⟩
  ·
   try simp only [Ai,M2,cSyn,Dn,C8,Ba,hc1,hc2,hc3,↓reduceIte,Bz,Ew,Ef]
   try rfl
  try simp only [cP,M2,hc1,hc2,hc3,↓reduceIte,Bz,Ew,Ef]
  try rfl
 try simp only [Dp,Eo] at hc3
 refine AW.ghost (GS.Aai (H2:=_::_::_) 1 rfl (congrArg cP (Fy hc3)) rfl) ?_;refine Ae (Qp Bm ?_);refine Rt (Cu rfl ((Df _ _ _ (by simpa using hS) (by decide)).at (k:=1) (H2:=_::_::_) rfl rfl)) ?_;refine Qp A0 (Ag (Aq (fun hc4=>?_) fun hc4=>?_))
 ·
  try simp only [Dp,Eo] at hc4
  refine AW.ghost (GS.Aai (H2:=_::_::_) 1 rfl (congrArg cP (E5 hc4)) rfl) ?_;refine AW.seq ?_;refine Ol ?_;refine Qn 0 rfl Bm (Qn 2 rfl (B0 Au) (Qn 3 rfl (Qf [Iq _]) (Qn 4 rfl Bi ?_)));refine O0 1 rfl (Cu rfl ((Zu (adv (Jh E st).2) bp D hD E hFE hE (by simpa using hO2)).at (k:=1) (H2:=_::_::_) rfl rfl)) ?_;refine Qn 5 rfl (Qc rfl (Jm _ _ _ _)) ?_;refine O0 6 rfl (Bf (k:=0) (v:=.agg _) (cs':=Au) (H2:=_::_::_) tok rfl rfl rfl rfl (rfl) rfl rfl rfl rfl) ?_;refine Hs ?_;refine Bh (AW.ret (Db (Be ?_)));refine ⟨.inr rfl,[.agg Au],.cons (.box _ _ _ 0 _ _ _ _ rfl rfl rfl rfl rfl rfl) <| .nil,_,.cons _ (.refl _),?_⟩;refine ⟨?_,congrArg (fun c=>HO.box bp 223 c::H) ?_⟩
  ·
   try simp only [Ai,M2,cSyn,Dn,C8,Ba,hc1,hc2,hc3,hc4,↓reduceIte,Bz,Ew,Ef]
   try rfl
  try simp only [cP,M2,hc1,hc2,hc3,hc4,↓reduceIte,Bz,Ew,Ef]
  try rfl
 try simp only [Dp,Eo] at hc4
 refine AW.ghost (GS.Aai (H2:=_::_::_) 1 rfl (congrArg cP (Fy hc4)) rfl) ?_;refine Ae (Qp Bm ?_);refine Rt (Cu rfl ((Df _ _ _ (by simpa using hS) (by decide)).at (k:=1) (H2:=_::_::_) rfl rfl)) ?_;refine Qp A0 (Ag (Aq (fun hc5=>?_) fun hc5=>?_))
 ·
  try simp only [Dp,Eo] at hc5
  refine AW.ghost (GS.Aai (H2:=_::_::_) 1 rfl (congrArg cP (E5 hc5)) rfl) ?_;refine AW.seq ?_;refine Ol ?_;refine Qn 0 rfl (B0 Au) (Qn 1 rfl Bm (Qn 3 rfl (Qf [Iq _]) (Qn 4 rfl Bi ?_)));refine O0 2 rfl (Cu rfl ((Zu (adv (Jh E st).2) bp D hD E hFE hE (by simpa using hO2)).at (k:=1) (H2:=_::_::_) rfl rfl)) ?_;refine Qn 5 rfl (Qc rfl (Jm _ _ _ _)) ?_;refine O0 6 rfl (Bf (k:=0) (v:=.agg _) (cs':=Au) (H2:=_::_::_) tok rfl rfl rfl rfl (rfl) rfl rfl rfl rfl) ?_;refine Hs ?_;refine Bh (AW.ret (Db (Be ?_)));refine ⟨.inr rfl,[.agg Au],.cons (.box _ _ _ 0 _ _ _ _ rfl rfl rfl rfl rfl rfl) <| .nil,_,.cons _ (.refl _),?_⟩;refine ⟨?_,congrArg (fun c=>HO.box bp 223 c::H) ?_⟩
  ·
   try simp only [Ai,M2,cSyn,Dn,C8,Ba,hc1,hc2,hc3,hc4,hc5,↓reduceIte,Bz,Ew,Ef]
   try rfl
  try simp only [cP,M2,hc1,hc2,hc3,hc4,hc5,↓reduceIte,Bz,Ew,Ef]
  try rfl
 try simp only [Dp,Eo] at hc5
 refine AW.ghost (GS.Aai (H2:=_::_::_) 1 rfl (congrArg cP (Fy hc5)) rfl) ?_;refine Ae (Qp Bm ?_);refine Rt (Cu rfl ((Df _ _ _ (by simpa using hS) (by decide)).at (k:=1) (H2:=_::_::_) rfl rfl)) ?_;refine Qp A0 (Ag (Aq (fun hc6=>?_) fun hc6=>?_))
 ·
  try simp only [Dp,Eo] at hc6
  refine AW.ghost (GS.Aai (H2:=_::_::_) 1 rfl (congrArg cP (E5 hc6)) rfl) ?_;refine AW.seq ?_;refine Ol ?_;refine Qn 0 rfl (B0 Au) (Qn 1 rfl Bm (Qn 3 rfl (Qf [Iq _]) (Qn 4 rfl Bi (Qn 7 rfl (Qf [Iq _]) (Qn 8 rfl Bi ?_)))));refine O0 2 rfl (Cu rfl ((Zu (adv (Jh E st).2) bp D hD E hFE hE (by simpa using hO2)).at (k:=1) (H2:=_::_::_) rfl rfl)) ?_;refine Qn 5 rfl (Qc rfl (Jm _ _ _ _)) (Qn 6 rfl (Aj (es:=[Au]) tok rfl rfl rfl rfl rfl rfl rfl rfl rfl) (Qn 9 rfl (E4 Au) ?_));refine O0 10 rfl (Bf (k:=0) (v:=.agg _) (cs':=Au) (H2:=_::_::_) tok rfl rfl rfl rfl (rfl) rfl rfl rfl rfl) ?_;refine Hs ?_;refine Bh (AW.ret (Db (Be ?_)));refine ⟨.inr rfl,[.agg Au],.cons (.box _ _ _ 0 _ _ _ _ rfl rfl rfl rfl rfl rfl) <| .nil,_,.cons _ (.refl _),?_⟩;refine ⟨?_,congrArg (fun c=>HO.box bp 223 c::H) ?_⟩
  ·
   try simp only [Ai,M2,cSyn,Dn,C8,Ba,hc1,hc2,hc3,hc4,hc5,hc6,↓reduceIte,Bz,Ew,Ef]
   try rfl
  try simp only [cP,M2,hc1,hc2,hc3,hc4,hc5,hc6,↓reduceIte,Bz,Ew,Ef]
  try rfl
 try simp only [Dp,Eo] at hc6
 refine AW.ghost (GS.Aai (H2:=_::_::_) 1 rfl (congrArg cP (Fy hc6)) rfl) ?_;refine Rf (Ae (Qp (B0 Au) ?_));refine Bt 0 Au (_::_::_) (Rb ?_);refine ⟨.inr rfl,[.agg Au],.cons (.box _ _ _ 0 _ _ _ _ rfl rfl rfl rfl rfl rfl) <| .nil,_,.cons _ (.refl _),?_⟩;refine ⟨?_,congrArg (fun c=>HO.box bp 223 c::H) ?_⟩
 ·
  try simp only [Ai,M2,cSyn,Dn,C8,Ba,hc1,hc2,hc3,hc4,hc5,hc6,↓reduceIte,Bz,Ew,Ef]
  try rfl
 try simp only [cP,M2,hc1,hc2,hc3,hc4,hc5,hc6,↓reduceIte,Bz,Ew,Ef]
 try rfl
theorem p_not_1 (st:PS)(bp:Nat)(z:Syn)(bo:Nat)(R:List HO)(D:Int)(hD:0≤D)(E:PS→Syn×PS)(hFE:Cq E)(hE:∀(st:PS) (bp:Nat),okD (D+1) st→Bc Tryz.prog 164 bp 223 (cP st) (cP (E st).2) [.val (.pointer (some ⟨bp,0,none⟩))] (.agg (cSyn (E st).1)))(N:PS→Syn×PS)(hFN:Cq N)(hN:∀(st:PS) (bp:Nat),okD (D+1) st→Bc Tryz.prog 288 bp 223 (cP st) (cP (N st).2) [.val (.pointer (some ⟨bp,0,none⟩))] (.agg (cSyn (N st).1)))(hO:okD (D+1) st):Bp Tryz.prog 307 (.box bp 223 (cP st) :: .box bo 25 (cSyn z)::R) [.ptr [.val (.pointer (some ⟨bp,0,none⟩))],.val (.pointer (some ⟨bo,0,none⟩))] (fun r H'=>r = .tuple []∧H' = .box bp 223 (cP (N st).2) :: .box bo 25 (cSyn { z with kids:=[(N st).1] })::R):=by
 refine Bp.body (n:=6) tok Tryz.func307 rfl rfl rfl ?_;refine AW.region (Qp Il (lV ((hN st bp hO).at (k:=0) (H2:=_::_::_) rfl rfl) (Qp (Aj (es:=[Au]) tok rfl rfl rfl rfl rfl rfl rfl rfl rfl) (Qp B7 ?_))));refine Bt 1 Au (_::_::_) (AOL.nil ?_);refine ⟨.inl rfl,[],.nil,_,.refl _,?_⟩;exact ⟨rfl,congrArg (fun l=>HO.box bp 223 (cP (N st).2)::HO.box bo 25 [.int .i64 z.kind,.str z.text,.str z.name,.int .i64 z.num,.sl 6 l,.int .i64 z.pos]::R) (by rw [Dn,C8,Ba])⟩
theorem uW (st:PS)(bp:Nat)(D:Int)(hD:0≤D)(E:PS→Syn×PS)(hFE:Cq E)(hE:∀(st:PS) (bp:Nat),okD (D+1) st→Bc Tryz.prog 164 bp 223 (cP st) (cP (E st).2) [.val (.pointer (some ⟨bp,0,none⟩))] (.agg (cSyn (E st).1)))(N:PS→Syn×PS)(hFN:Cq N)(hN:∀(st:PS) (bp:Nat),okD (D+1) st→Bc Tryz.prog 288 bp 223 (cP st) (cP (N st).2) [.val (.pointer (some ⟨bp,0,none⟩))] (.agg (cSyn (N st).1)))(hO:okD D st):Bc Tryz.prog 288 bp 223 (cP st) (cP ((Wq E N st).2)) [.val (.pointer (some ⟨bp,0,none⟩))] (.agg (cSyn (Wq E N st).1)):=by
 intro H;have hS:=hO.1;refine Bp.body (n:=16) tok Tryz.func288 rfl rfl rfl ?_;refine Ae (Qp (Tr (v:=.val _) (cs:=[_]) rfl rfl rfl) (Ed Kz fun b2=>Ag (Bk (Qp Il ?_))));refine AOL.Aae (Cj (k:=1) (by kernel_rfl) rfl rfl (zS _ _ _ (by simpa using hS) (by decide))) rfl rfl ?_;refine Qp Et (Ag (Aq (fun hc1=>?_) fun hc1=>?_))
 ·
  try simp only [Dp,Eo] at hc1
  refine Ae (Qp Il (lV ((qS st bp D hD E hFE hE hO).at (k:=1) (H2:=_::_::_) rfl rfl) ?_));refine Bt 0 Au (_::_::_) (Rc ?_);refine ⟨.inr rfl,[.agg Au],.cons (.box _ _ _ 0 _ _ _ _ rfl rfl rfl rfl rfl rfl) <| .nil,_,.cons _ (.refl _),?_⟩;refine ⟨?_,congrArg (fun c=>HO.box bp 223 c::H) ?_⟩
  ·
   try simp only [Ai,Wq,cSyn,Dn,C8,Ba,hc1,↓reduceIte,Bz,Ew,Ef]
   try rfl
  try simp only [cP,Wq,hc1,↓reduceIte,Bz,Ew,Ef]
  try rfl
 try simp only [Dp,Eo] at hc1
 refine Bg (Ae (Qp Il ?_));refine AOL.Aae (Cj (k:=1) (by kernel_rfl) rfl rfl (J4 _ _)) rfl rfl ?_;refine Qp (E4 Au) (Ed Kz fun b3=>?_);refine Bt 0 Au (_::_::_::_) (Bs (Qp Il (Qp (Bn (l:=[]) (l':=[.ptr _,.val _]) rfl rfl) ?_)));refine Rt (Cu rfl (Bp.front2 (R:=_::_) 0 1 rfl rfl rfl (Us (fun z s=>({ z with kids:=[(N s).1] },(N s).2)) ⟨18,[],[],0,[],Cy st⟩ st bp b3 _ 307 (by kernel_rfl) [] [.ptr [.val (.pointer (some ⟨bp,0,none⟩))],.val (.pointer (some ⟨b3,0,none⟩))] (Wb hc1) hS (fun hb=>p_not_1 _ bp ⟨18,[],[],0,[],Cy st⟩ b3 _ D hD E hFE hE N hFN hN (X2 hD hO hb))))) ?_;refine Bs (AOL.Aae (Ax (k:=1) (l:=Au) tok rfl rfl rfl rfl rfl) rfl rfl ?_);refine Bt 2 Au (_::_::_::_) (Rb ?_);refine ⟨.inr rfl,[.agg Au],.cons (.box _ _ _ 2 _ _ _ _ rfl rfl rfl rfl rfl rfl) <| .nil,_,.cons_cons _ (.cons _ (.cons _ (.refl _))),?_⟩;refine ⟨?_,congrArg (fun c=>HO.box bp 223 c::H) ?_⟩
 ·
  try simp only [Ai,Wq,cSyn,Dn,C8,Ba,hc1,↓reduceIte,Bz,Ew,Ef]
  try rfl
 try simp only [cP,Wq,hc1,↓reduceIte,Bz,Ew,Ef]
 try rfl
theorem p_and (st:PS)(bp:Nat)(D:Int)(hD:0≤D)(E:PS→Syn×PS)(hFE:Cq E)(hE:∀(st:PS) (bp:Nat),okD (D+1) st→Bc Tryz.prog 164 bp 223 (cP st) (cP (E st).2) [.val (.pointer (some ⟨bp,0,none⟩))] (.agg (cSyn (E st).1)))(N:PS→Syn×PS)(hFN:Cq N)(hN:∀(st:PS) (bp:Nat),okD (D+1) st→Bc Tryz.prog 288 bp 223 (cP st) (cP (N st).2) [.val (.pointer (some ⟨bp,0,none⟩))] (.agg (cSyn (N st).1)))(hO:okD D st):Bc Tryz.prog 230 bp 223 (cP st) (cP ((andP E N st).2)) [.val (.pointer (some ⟨bp,0,none⟩))] (.agg (cSyn (andP E N st).1)):=by
 intro H;refine Bp.body (n:=8) tok Tryz.func230 rfl rfl rfl ?_;refine Ae (Ed Kz fun b2=>Bs (Qp Bm (Qp Bm (Qp (Bn (l:=[.val _]) (l':=[]) rfl rfl) ?_))));refine Qp (Ny (es:=andL.map cSg) tok (⟨fun cs=>cs=Nb,by simp [globals],fun _ h=>h⟩) rfl rfl rfl rfl rfl rfl rfl rfl rfl) ?_;refine Rt (Cu rfl ((cY st bp D hD 288 (by kernel_rfl) [.val (.pointer (some ⟨bp,0,none⟩))] [] (Wq E N) (Pb hFE hFN) (fun s ho=>uW s bp D hD E hFE hE N hFN hN ho) hO andL (by decide) (by decide)).at (k:=1) (H2:=_::_::_) rfl rfl)) ?_;refine Bt 0 Au (_::_::_) (Rb ?_);refine ⟨.inr rfl,[.agg Au],.cons (.box _ _ _ 0 _ _ _ _ rfl rfl rfl rfl rfl rfl) <| .nil,_,.cons _ (.refl _),?_⟩;refine ⟨rfl,rfl⟩
theorem sP (st:PS)(bp:Nat)(D:Int)(hD:0≤D)(E:PS→Syn×PS)(hFE:Cq E)(hE:∀(st:PS) (bp:Nat),okD (D+1) st→Bc Tryz.prog 164 bp 223 (cP st) (cP (E st).2) [.val (.pointer (some ⟨bp,0,none⟩))] (.agg (cSyn (E st).1)))(N:PS→Syn×PS)(hFN:Cq N)(hN:∀(st:PS) (bp:Nat),okD (D+1) st→Bc Tryz.prog 288 bp 223 (cP st) (cP (N st).2) [.val (.pointer (some ⟨bp,0,none⟩))] (.agg (cSyn (N st).1)))(hO:okD D st):Bc Tryz.prog 164 bp 223 (cP st) (cP ((orP E N st).2)) [.val (.pointer (some ⟨bp,0,none⟩))] (.agg (cSyn (orP E N st).1)):=by
 intro H;refine Bp.body (n:=8) tok Tryz.func164 rfl rfl rfl ?_;refine Ae (Ed Kz fun b2=>Bs (Qp Bm (Qp Bm (Qp (Bn (l:=[.val _]) (l':=[]) rfl rfl) ?_))));refine Qp (Ny (es:=orL.map cSg) tok (⟨fun cs=>cs=O8,by simp [globals],fun _ h=>h⟩) rfl rfl rfl rfl rfl rfl rfl rfl rfl) ?_;refine Rt (Cu rfl ((cY st bp D hD 230 (by kernel_rfl) [.val (.pointer (some ⟨bp,0,none⟩))] [] (andP E N) (Nn (Pb hFE hFN) andL) (fun s ho=>p_and s bp D hD E hFE hE N hFN hN ho) hO orL (by decide) (by decide)).at (k:=1) (H2:=_::_::_) rfl rfl)) ?_;refine Bt 0 Au (_::_::_) (Rb ?_);refine ⟨.inr rfl,[.agg Au],.cons (.box _ _ _ 0 _ _ _ _ rfl rfl rfl rfl rfl rfl) <| .nil,_,.cons _ (.refl _),?_⟩;refine ⟨rfl,rfl⟩
theorem Qj {st:PS}(h:okD (64+1) st):False:=by have:=h.2.1;have:=h.2.2;omega
theorem oC:∀(n:Nat),n≤64→(∀(st:PS) (bp:Nat),okD (64-(n:Int)) st→Bc Tryz.prog 288 bp 223 (cP st) (cP ((Ry n).1 st).2) [.val (.pointer (some ⟨bp,0,none⟩))] (.agg (cSyn ((Ry n).1 st).1)))∧(∀(st:PS) (bp:Nat),okD (64-(n:Int)) st→Bc Tryz.prog 164 bp 223 (cP st) (cP ((Ry n).2 st).2) [.val (.pointer (some ⟨bp,0,none⟩))] (.agg (cSyn ((Ry n).2 st).1)))
  | 0,_=>⟨fun st bp hO=>uW st bp 64 (by decide) D2 Gk (fun _ _ h=>(Qj h).elim) D2 Gk (fun _ _ h=>(Qj h).elim) hO,fun st bp hO=>sP st bp 64 (by decide) D2 Gk (fun _ _ h=>(Qj h).elim) D2 Gk (fun _ _ h=>(Qj h).elim) hO⟩
  | n+1,hn=>by
    have ih:=oC n (by omega);have e:∀st,okD (64-((n+1:Nat):Int)+1) st→okD (64-(n:Int)) st:=fun st h=>⟨h.1,by have:=h.2.1;omega,h.2.2⟩
    have hD:0≤64-((n+1:Nat):Int):=by omega
    exact ⟨fun st bp hO=>uW st bp _ hD (Ry n).2 (Iv n).2 (fun s b h=>ih.2 s b (e s h)) (Ry n).1 (Iv n).1 (fun s b h=>ih.1 s b (e s h)) hO,fun st bp hO=>sP st bp _ hD (Ry n).2 (Iv n).2 (fun s b h=>ih.2 s b (e s h)) (Ry n).1 (Iv n).1 (fun s b h=>ih.1 s b (e s h)) hO⟩

set_option maxHeartbeats 1600000
set_option maxRecDepth 20000

theorem Yz {D:Int}(hD:0≤D){st:PS}(h:okD D st):okD 0 st:=⟨h.1,by have:=h.2.1;omega,h.2.2⟩
theorem Xc {D:Int}(hD:0≤D){st:PS}(h:okD D st):mC st:=⟨by have:=h.2.1;omega,h.2.2⟩
theorem Qh {D:Int}{a b:PS}(h:okD D a)(g:I5 a b):okD D b:=(U5 g.1 g.2.2).2 h
abbrev mV (z:Syn)(v:Value)(es:List (List AV)):List AV:=[.int .i64 z.kind,.str z.text,.str z.name,.int .i64 z.num,.row v 6 es,.int .i64 z.pos]
theorem oH (st:PS)(bp:Nat)(E:PS→Syn×PS)(hFE:Cq E)(hE:∀(st:PS) (bp:Nat),okD 0 st→Bc Tryz.prog 164 bp 223 (cP st) (cP (E st).2) [.val (.pointer (some ⟨bp,0,none⟩))] (.agg (cSyn (E st).1)))(hO:okD 0 st):Bc Tryz.prog 228 bp 223 (cP st) (cP ((J9 E st).2)) [.val (.pointer (some ⟨bp,0,none⟩))] (.agg (cSyn (J9 E st).1)):=by
 intro H;have hS:=hO.1;refine Bp.body (n:=18) tok Tryz.func228 rfl rfl rfl ?_;refine Ae (Ed Kz fun b2=>Bs (Qp Bm ?_));refine AOL.Aae (Cj (k:=1) (by kernel_rfl) rfl rfl (J4 _ _)) rfl rfl ?_;refine Qp Bm ?_;refine Rt (Cu rfl ((N5 _ _ (by simpa using hS)).at (k:=1) (H2:=_::_::_) rfl rfl)) ?_;refine Qp Bm ?_;refine Rt (Cu rfl ((N5 _ _ (by simpa using hS)).at (k:=1) (H2:=_::_::_) rfl rfl)) ?_;refine Qp (E4 Au) (Ed Kz fun b3=>?_);refine Bt 0 Au (_::_::_::_) (Ag (Bk (Qp Bm ?_)));refine Rt (Cu rfl ((Df _ _ _ (by simpa using hS) (by decide)).at (k:=2) (H2:=_::_::_::_) rfl rfl)) ?_;refine Ag (Aq (fun hc1=>?_) fun hc1=>?_)
 ·
  try simp only [Dp,Eo] at hc1
  refine AW.ghost (GS.Aai (H2:=_::_::_::_) 2 rfl (congrArg cP (E5 hc1)) rfl) ?_;refine AW.region (Qp Bm ?_);refine Rt (Cu rfl ((hE _ bp (by simpa using hO)).at (k:=2) (H2:=_::_::_::_) rfl rfl)) ?_;refine Qp (Aj (es:=[Au]) tok rfl rfl rfl rfl rfl rfl rfl rfl rfl) (Qp B7 ?_);refine Bt 0 Au (_::_::_::_) (Bs (AOL.Aae (Ax (k:=0) (l:=Au) tok rfl rfl rfl rfl rfl) rfl rfl ?_));refine Bt 1 Au (_::_::_::_) (Rb ?_);refine ⟨.inr rfl,[.agg Au],.cons (.box _ _ _ 1 _ _ _ _ rfl rfl rfl rfl rfl rfl) <| .nil,_,.cons _ (.cons _ (.refl _)),?_⟩;refine ⟨?_,congrArg (fun c=>HO.box bp 223 c::H) ?_⟩
  ·
   try simp only [Ai,J9,cSyn,Dn,C8,Ba,hc1,↓reduceIte,Bz,Ew,Ef]
   try rfl
  try simp only [cP,J9,hc1,↓reduceIte,Bz,Ew,Ef]
  try rfl
 try simp only [Dp,Eo] at hc1
 refine AW.ghost (GS.Aai (H2:=_::_::_::_) 2 rfl (congrArg cP (Fy hc1)) rfl) ?_;refine Bg (Ae (AOL.Aae (Ax (k:=0) (l:=Au) tok rfl rfl rfl rfl rfl) rfl rfl ?_));refine Bt 1 Au (_::_::_::_) (Rb ?_);refine ⟨.inr rfl,[.agg Au],.cons (.box _ _ _ 1 _ _ _ _ rfl rfl rfl rfl rfl rfl) <| .nil,_,.cons _ (.cons _ (.refl _)),?_⟩;refine ⟨?_,congrArg (fun c=>HO.box bp 223 c::H) ?_⟩
 ·
  try simp only [Ai,J9,cSyn,Dn,C8,Ba,hc1,↓reduceIte,Bz,Ew,Ef]
  try rfl
 try simp only [cP,J9,hc1,↓reduceIte,Bz,Ew,Ef]
 try rfl
theorem p_form2 (st:PS)(bp:Nat)(z:Syn)(bo:Nat)(v:Value)(es:List (List AV))(he:es=z.kids.map Cl)(hz:z.kids.length≤1000)(R:List HO)(E:PS→Syn×PS)(hFE:Cq E)(hE:∀(st:PS) (bp:Nat),okD 0 st→Bc Tryz.prog 164 bp 223 (cP st) (cP (E st).2) [.val (.pointer (some ⟨bp,0,none⟩))] (.agg (cSyn (E st).1)))(hO:okD 0 st):Bp Tryz.prog 283 (.box bp 223 (cP st) :: .box bo 25 (mV z v es) :: .row v es.length 25 6::R) [.val (.pointer (some ⟨bp,0,none⟩)),.val (.pointer (some ⟨bo,0,none⟩))] (fun r H'=>r = .tuple []∧∃v' es',es'=(Gd E D2 10 z st).1.kids.map Cl∧H' = .box bp 223 (cP (Gd E D2 10 z st).2) :: .box bo 25 (mV (Gd E D2 10 z st).1 v' es') :: .row v' es'.length 25 6::R):=by
 have hS:=hO.1;have hsc:∀c∈es,Bb c=true:=by rw [he];exact Sv _
 have hel:es.length≤1000:=by rw [he,Dx];exact hz
 refine Bp.body (n:=18) tok Tryz.func283 rfl rfl rfl ?_;refine AW.ghostPost (Ae (Qp Bm ?_));refine Rt (Cu rfl ((Dc _ _ _ (by simpa using hS) (by decide)).at (k:=0) (H2:=_::_::_::_) rfl rfl)) ?_;refine Ag ?_;refine AW.draw mixed (fun H'=>_∈H') (B4 (i:=1) rfl) (by kernel_rfl) ?_;refine Qn 0 rfl Bm (Qn 1 rfl (Af rfl) (Qn 2 rfl B7 (Qn 3 rfl (OpP.Aah (fun k=>Ad (k:=k) (c:=.row _ _ _) tok rfl rfl rfl rfl) (fun _ h=>h)) ?_)));refine Qn 4 rfl Bm (Qn 6 rfl (Hk tok rfl rfl rfl rfl) (Qn 7 rfl (Jp tok rfl rfl rfl rfl rfl rfl rfl rfl rfl) ?_));refine Gz.eff _ _ 5 _ _ rfl (by kernel_rfl) rfl rfl (Cu rfl ((oH (Ce Co st) bp E hFE hE (by simpa using hO)).at (k:=0) (H2:=_::_::_::_) rfl rfl)) (by rintro _ _ ⟨rfl,rfl⟩;simp) ?_;rintro _ _ ⟨rfl,rfl⟩;refine Gz.sync (fun _=>True) _ _ 8 _ _ rfl (by kernel_rfl) rfl rfl (Qq (k:=2) tok rfl rfl rfl rfl rfl rfl rfl rfl (Gu rfl) rfl (hsc) (by simp;omega) (by simp [maxLen];omega)) (by kernel_rfl) (fun _ _ _=>trivial) ?_;rintro _ _ ⟨ba14,ca14,rfl,rfl⟩;refine Qn 9 rfl (C2 (o':=es.length*6) tok rfl rfl rfl rfl rfl (by omega) (by omega) (by simp)) ?_;refine Qn 11 rfl (Af rfl) (Qn 12 rfl B7 ?_);refine Gz.two _ _ 10 13 _ _ _ _ rfl rfl (by kernel_rfl) rfl rfl rfl rfl (Hd (k:=2) (v:=.agg _) (H2:=_::_::_::_) tok rfl rfl rfl rfl (by simp) (by simp) rfl rfl rfl rfl) (Bf (k:=1) (v:=.val _) (cs':=Au) (H2:=_::_::_::_) tok rfl rfl rfl rfl (rfl) rfl rfl rfl rfl) (by rintro _ _ ⟨rfl,rfl⟩;trivial) (by rintro _ _ ⟨rfl,rfl⟩;trivial) ?_ ?_
 ·
  rintro _ _ ⟨rfl,rfl⟩;refine O0 13 rfl (Bf (k:=1) (v:=.val _) (cs':=Au) (H2:=_::_::_::_) tok rfl rfl rfl rfl (rfl) rfl rfl rfl rfl) ?_;refine Hs ?_;refine ⟨_,GS.appCell (H2:=_::_::_::_) 2 1 4 rfl (by simp) rfl rfl rfl rfl,.inl rfl,[],.nil,_,.refl _,?_⟩;exact ⟨rfl,_,_,J2 he,rfl⟩
 rintro _ _ ⟨rfl,rfl⟩;refine O0 10 rfl (Hd (k:=2) (v:=.agg _) (H2:=_::_::_::_) tok rfl rfl rfl rfl (by simp) (by simp) rfl rfl rfl rfl) ?_;refine Hs ?_;refine ⟨_,GS.appCell (H2:=_::_::_::_) 2 1 4 rfl (by simp) rfl rfl rfl rfl,.inl rfl,[],.nil,_,.refl _,?_⟩;exact ⟨rfl,_,_,J2 he,rfl⟩
theorem p_form1 (st:PS)(bp:Nat)(z:Syn)(bo:Nat)(v:Value)(es:List (List AV))(he:es=z.kids.map Cl)(hz:z.kids.length≤1000)(R:List HO):Bp Tryz.prog 282 (.box bp 223 (cP st) :: .box bo 25 (mV z v es) :: .row v es.length 25 6::R) [.val (.pointer (some ⟨bp,0,none⟩)),.val (.pointer (some ⟨bo,0,none⟩))] (fun r H'=>r = .tuple []∧∃v' es',es'=(Gd D2 D2 9 z st).1.kids.map Cl∧H' = .box bp 223 (cP (Gd D2 D2 9 z st).2) :: .box bo 25 (mV (Gd D2 D2 9 z st).1 v' es') :: .row v' es'.length 25 6::R):=by
 refine Bp.body (n:=4) tok Tryz.func282 rfl rfl rfl ?_;refine AW.skip ?_;refine ⟨.inl rfl,[],.nil,_,.refl _,?_⟩;exact ⟨rfl,_,_,he,rfl⟩
theorem p_form3 (st:PS)(bp:Nat)(z:Syn)(bo:Nat)(v:Value)(es:List (List AV))(he:es=z.kids.map Cl)(hz:z.kids.length≤1000)(R:List HO)(hS:O1 st):Bp Tryz.prog 284 (.box bp 223 (cP st) :: .box bo 25 (mV z v es) :: .row v es.length 25 6::R) [.val (.pointer (some ⟨bp,0,none⟩)),.val (.pointer (some ⟨bo,0,none⟩))] (fun r H'=>r = .tuple []∧∃v' es',es'=(Gd D2 D2 11 z st).1.kids.map Cl∧H' = .box bp 223 (cP (Gd D2 D2 11 z st).2) :: .box bo 25 (mV (Gd D2 D2 11 z st).1 v' es') :: .row v' es'.length 25 6::R):=by
 refine Bp.body (n:=11) tok Tryz.func284 rfl rfl rfl ?_;refine Ae (Qp Bm ?_);refine Rt (Cu rfl ((Dc _ _ _ (by simpa using hS) (by decide)).at (k:=0) (H2:=_::_::_::_) rfl rfl)) ?_;refine Ag (AW.region (Qp Bm (Qp Bm ?_)));refine Rt (Cu rfl ((Yy _ _ (by simpa using hS)).at (k:=0) (H2:=_::_::_::_) rfl rfl)) ?_;refine Qp (Af rfl) (Qp B7 ?_);refine Bt 1 Au (_::_::_::_) (AOL.nil ?_);refine ⟨.inl rfl,[],.nil,_,.refl _,?_⟩;exact ⟨rfl,_,_,he,rfl⟩
theorem p_form4 (st:PS)(bp:Nat)(z:Syn)(bo:Nat)(v:Value)(es:List (List AV))(he:es=z.kids.map Cl)(hz:z.kids.length≤1000)(R:List HO)(E:PS→Syn×PS)(hFE:Cq E)(hE:∀(st:PS) (bp:Nat),okD 0 st→Bc Tryz.prog 164 bp 223 (cP st) (cP (E st).2) [.val (.pointer (some ⟨bp,0,none⟩))] (.agg (cSyn (E st).1)))(hO:okD 0 st):Bp Tryz.prog 286 (.box bp 223 (cP st) :: .box bo 25 (mV z v es) :: .row v es.length 25 6::R) [.val (.pointer (some ⟨bp,0,none⟩)),.val (.pointer (some ⟨bo,0,none⟩))] (fun r H'=>r = .tuple []∧∃v' es',es'=(Gd E D2 12 z st).1.kids.map Cl∧H' = .box bp 223 (cP (Gd E D2 12 z st).2) :: .box bo 25 (mV (Gd E D2 12 z st).1 v' es') :: .row v' es'.length 25 6::R):=by
 have hS:=hO.1;have hsc:∀c∈es,Bb c=true:=by rw [he];exact Sv _
 have hel:es.length≤1000:=by rw [he,Dx];exact hz
 refine Bp.body (n:=18) tok Tryz.func286 rfl rfl rfl ?_;refine AW.ghostPost (Ae (Qp Bm ?_));refine Rt (Cu rfl ((Dc _ _ _ (by simpa using hS) (by decide)).at (k:=0) (H2:=_::_::_::_) rfl rfl)) ?_;refine Ag ?_;refine AW.draw mixed (fun H'=>_∈H') (B4 (i:=1) rfl) (by kernel_rfl) ?_;refine Qn 0 rfl Bm (Qn 1 rfl (Af rfl) (Qn 2 rfl B7 (Qn 3 rfl (OpP.Aah (fun k=>Ad (k:=k) (c:=.row _ _ _) tok rfl rfl rfl rfl) (fun _ h=>h)) ?_)));refine Qn 4 rfl Bm (Qn 6 rfl (Hk tok rfl rfl rfl rfl) (Qn 7 rfl (Jp tok rfl rfl rfl rfl rfl rfl rfl rfl rfl) ?_));refine Gz.eff _ _ 5 _ _ rfl (by kernel_rfl) rfl rfl (Cu rfl ((hE (Ce Co st) bp (by simpa using hO)).at (k:=0) (H2:=_::_::_::_) rfl rfl)) (by rintro _ _ ⟨rfl,rfl⟩;simp) ?_;rintro _ _ ⟨rfl,rfl⟩;refine Gz.sync (fun _=>True) _ _ 8 _ _ rfl (by kernel_rfl) rfl rfl (Qq (k:=2) tok rfl rfl rfl rfl rfl rfl rfl rfl (Gu rfl) rfl (hsc) (by simp;omega) (by simp [maxLen];omega)) (by kernel_rfl) (fun _ _ _=>trivial) ?_;rintro _ _ ⟨ba14,ca14,rfl,rfl⟩;refine Qn 9 rfl (C2 (o':=es.length*6) tok rfl rfl rfl rfl rfl (by omega) (by omega) (by simp)) ?_;refine Qn 11 rfl (Af rfl) (Qn 12 rfl B7 ?_);refine Gz.two _ _ 10 13 _ _ _ _ rfl rfl (by kernel_rfl) rfl rfl rfl rfl (Hd (k:=2) (v:=.agg _) (H2:=_::_::_::_) tok rfl rfl rfl rfl (by simp) (by simp) rfl rfl rfl rfl) (Bf (k:=1) (v:=.val _) (cs':=Au) (H2:=_::_::_::_) tok rfl rfl rfl rfl (rfl) rfl rfl rfl rfl) (by rintro _ _ ⟨rfl,rfl⟩;trivial) (by rintro _ _ ⟨rfl,rfl⟩;trivial) ?_ ?_
 ·
  rintro _ _ ⟨rfl,rfl⟩;refine O0 13 rfl (Bf (k:=1) (v:=.val _) (cs':=Au) (H2:=_::_::_::_) tok rfl rfl rfl rfl (rfl) rfl rfl rfl rfl) ?_;refine Hs ?_;refine ⟨_,GS.appCell (H2:=_::_::_::_) 2 1 4 rfl (by simp) rfl rfl rfl rfl,.inl rfl,[],.nil,_,.refl _,?_⟩;exact ⟨rfl,_,_,J2 he,rfl⟩
 rintro _ _ ⟨rfl,rfl⟩;refine O0 10 rfl (Hd (k:=2) (v:=.agg _) (H2:=_::_::_::_) tok rfl rfl rfl rfl (by simp) (by simp) rfl rfl rfl rfl) ?_;refine Hs ?_;refine ⟨_,GS.appCell (H2:=_::_::_::_) 2 1 4 rfl (by simp) rfl rfl rfl rfl,.inl rfl,[],.nil,_,.refl _,?_⟩;exact ⟨rfl,_,_,J2 he,rfl⟩
abbrev Tf (T:PS→Syn×PS)(st:PS):Syn×PS:=T (Ce Co st)
theorem rN (st:PS)(bp:Nat)(z:Syn)(bo:Nat)(v:Value)(es:List (List AV))(he:es=z.kids.map Cl)(hz:z.kids.length≤1000)(R:List HO)(D:Int)(hD:0≤D)(T:PS→Syn×PS)(hFT:Cq T)(hT:∀(st:PS) (bp:Nat),okD D st→Bc Tryz.prog 162 bp 223 (cP st) (cP (T st).2) [.val (.pointer (some ⟨bp,0,none⟩))] (.agg (cSyn (T st).1)))(hO:okD D st):Bp Tryz.prog 281 (.box bp 223 (cP st) :: .box bo 25 (mV z v es) :: .row v es.length 25 6::R) [.val (.pointer (some ⟨bp,0,none⟩)),.val (.pointer (some ⟨bo,0,none⟩))] (fun r H'=>r = .tuple []∧∃v' es',es'=(fB T z st).1.kids.map Cl∧H' = .box bp 223 (cP (fB T z st).2) :: .box bo 25 (mV (fB T z st).1 v' es') :: .row v' es'.length 25 6::R):=by
 have hS:=hO.1;have hsc:∀c∈es,Bb c=true:=by rw [he];exact Sv _
 have hel:es.length≤1000:=by rw [he,Dx];exact hz
 have hO1:okD D (Ce Co st):=by simpa using hO
 have hO3:okD D (Tf T st).2:=hFT.okD hD hO1;refine Bp.body (n:=32) tok Tryz.func281 rfl rfl rfl ?_;refine AW.ghostPost (Ae (Qp Bm ?_));refine Rt (Cu rfl ((Dc _ _ _ (by simpa using hS) (by decide)).at (k:=0) (H2:=_::_::_::_) rfl rfl)) ?_;refine Ag ?_;refine AW.Aak (fun (q:Value)=>(⟨[(0,.val (.pointer (some ⟨bp,0,none⟩))),(1,.val (.pointer (some ⟨bo,0,none⟩)))],.box bp 223 (cP (Tf T st).2) :: .box bo 25 (mV z q (es ++ [cSyn (Tf T st).1])) :: .row q (es ++ [cSyn (Tf T st).1]).length 25 6::R,32⟩:St)) (fun q=>True) ?_ ?_
 ·
  refine AW.draw mixed (fun H'=>_∈H') (B4 (i:=1) rfl) (by kernel_rfl) ?_;refine Qn 0 rfl Bm (Qn 1 rfl (Af rfl) (Qn 2 rfl B7 (Qn 3 rfl (OpP.Aah (fun k=>Ad (k:=k) (c:=.row _ _ _) tok rfl rfl rfl rfl) (fun _ h=>h)) ?_)));refine Qn 4 rfl Bm (Qn 6 rfl (Hk tok rfl rfl rfl rfl) (Qn 7 rfl (Jp tok rfl rfl rfl rfl rfl rfl rfl rfl rfl) ?_));refine Gz.eff _ _ 5 _ _ rfl (by kernel_rfl) rfl rfl (Cu rfl ((hT (Ce Co st) bp hO1).at (k:=0) (H2:=_::_::_::_) rfl rfl)) (by rintro _ _ ⟨rfl,rfl⟩;simp) ?_;rintro _ _ ⟨rfl,rfl⟩;refine Gz.sync (fun _=>True) _ _ 8 _ _ rfl (by kernel_rfl) rfl rfl (Qq (k:=2) tok rfl rfl rfl rfl rfl rfl rfl rfl (Gu rfl) rfl (hsc) (by simp;omega) (by simp [maxLen];omega)) (by kernel_rfl) (fun _ _ _=>trivial) ?_;rintro _ _ ⟨ba14,ca14,rfl,rfl⟩;refine Qn 9 rfl (C2 (o':=es.length*6) tok rfl rfl rfl rfl rfl (by omega) (by omega) (by simp)) ?_;refine Qn 11 rfl (Af rfl) (Qn 12 rfl B7 ?_);refine Gz.two _ _ 10 13 _ _ _ _ rfl rfl (by kernel_rfl) rfl rfl rfl rfl (Hd (k:=2) (v:=.agg _) (H2:=_::_::_::_) tok rfl rfl rfl rfl (by simp) (by simp) rfl rfl rfl rfl) (Bf (k:=1) (v:=.val _) (cs':=Au) (H2:=_::_::_::_) tok rfl rfl rfl rfl (rfl) rfl rfl rfl rfl) (by rintro _ _ ⟨rfl,rfl⟩;trivial) (by rintro _ _ ⟨rfl,rfl⟩;trivial) ?_ ?_
  ·
   rintro _ _ ⟨rfl,rfl⟩;refine O0 13 rfl (Bf (k:=1) (v:=.val _) (cs':=Au) (H2:=_::_::_::_) tok rfl rfl rfl rfl (rfl) rfl rfl rfl rfl) ?_;refine Hs ?_;refine Bh ?_;refine ⟨.slice (some ⟨ba14,0,none⟩) (es.length+1) ca14,?_,GS.trans (GS.appCell (H2:=_::_::_::_) 2 1 4 rfl (by simp) rfl rfl rfl rfl) Cs⟩
   trivial
  rintro _ _ ⟨rfl,rfl⟩;refine O0 10 rfl (Hd (k:=2) (v:=.agg _) (H2:=_::_::_::_) tok rfl rfl rfl rfl (by simp) (by simp) rfl rfl rfl rfl) ?_;refine Hs ?_;refine Bh ?_;refine ⟨.slice (some ⟨ba14,0,none⟩) (es.length+1) ca14,?_,GS.trans (GS.appCell (H2:=_::_::_::_) 2 1 4 rfl (by simp) rfl rfl rfl rfl) Cs⟩
  trivial
 rintro q _;refine AW.block ?_;refine AW.Aag (fun (p:Nat×PS×List Syn×List (List AV)×Value)=>(⟨[(0,.val (.pointer (some ⟨bp,0,none⟩))),(1,.val (.pointer (some ⟨bo,0,none⟩)))],.box bp 223 (cP p.2.1) :: .box bo 25 (mV z p.2.2.2.2 p.2.2.2.1) :: .row p.2.2.2.2 p.2.2.2.1.length 25 6::R,32⟩:St)) (fun p=>p.2.2.2.1=p.2.2.1.map Cl∧okD D p.2.1∧A8 p.2.1≤p.1∧p.2.2.1.length≤p.2.1.pos+1002∧Jc T (A8 (Tf T st).2) (Tf T st).2 (z.kids ++ [(Tf T st).1])=Jc T p.1 p.2.1 p.2.2.1) (fun p=>p.1) ((A8 (Tf T st).2,(Tf T st).2,z.kids ++ [(Tf T st).1],es ++ [cSyn (Tf T st).1],q)) ?_ Cs ?_
 · exact ⟨J2 he,hO3,C4 _,by simp only [D9,Zl];omega,rfl⟩
 rintro p hR;have hes:p.2.2.2.1=p.2.2.1.map Cl:=hR.1;have hO2:okD D p.2.1:=hR.2.1;have hS:=hO2.1;have hfu:A8 p.2.1≤p.1:=hR.2.2.1;have hn:0<p.1:=by unfold A8 at hfu;omega
 have hol:p.2.2.1.length≤p.2.1.pos+1002:=hR.2.2.2.1;have hsc2:∀c∈p.2.2.2.1,Bb c=true:=by rw [hes];exact Sv _
 have hel2:p.2.2.2.1.length=p.2.2.1.length:=by rw [hes,Dx]
 refine Bk (Qp Bm ?_);refine Rt (Cu rfl ((Df _ _ _ (by simpa using hS) (by decide)).at (k:=0) (H2:=_::_::_::_) rfl rfl)) ?_;refine Ag (Aq (fun hc1=>?_) fun hc1=>?_)
 ·
  try simp only [Dp,Eo] at hc1
  have hlt:=Wb hc1;have hml:=hS.1;have hFa:=hFT (adv p.2.1) (by have:=hO2.2.1;show (0:Int)≤p.2.1.depth;omega) hO2.2.2;have hps:p.2.1.pos+1≤(T (adv p.2.1)).2.pos:=hFa.2.1;have hts:(T (adv p.2.1)).2.toks=p.2.1.toks:=hFa.1;refine AW.ghost (GS.Aai (H2:=_::_::_::_) 0 rfl (congrArg cP (E5 hc1)) rfl) ?_;refine Bg (AW.block ?_);refine AW.draw mixed (fun H'=>_∈H') (B4 (i:=1) rfl) (by kernel_rfl) ?_;refine Qn 0 rfl Bm (Qn 1 rfl (Af rfl) (Qn 2 rfl B7 (Qn 3 rfl (OpP.Aah (fun k=>Ad (k:=k) (c:=.row _ _ _) tok rfl rfl rfl rfl) (fun _ h=>h)) ?_)));refine Qn 4 rfl Bm (Qn 6 rfl (Hk tok rfl rfl rfl rfl) (Qn 7 rfl (Jp tok rfl rfl rfl rfl rfl rfl rfl rfl rfl) ?_));refine Gz.eff _ _ 5 _ _ rfl (by kernel_rfl) rfl rfl (Cu rfl ((hT _ bp (by simpa using hO2)).at (k:=0) (H2:=_::_::_::_) rfl rfl)) (by rintro _ _ ⟨rfl,rfl⟩;simp) ?_;rintro _ _ ⟨rfl,rfl⟩;refine Gz.sync (fun _=>True) _ _ 8 _ _ rfl (by kernel_rfl) rfl rfl (Qq (k:=2) tok rfl rfl rfl rfl rfl rfl rfl rfl (Gu rfl) rfl (hsc2) (by simp;omega) (by simp [maxLen];omega)) (by kernel_rfl) (fun _ _ _=>trivial) ?_;rintro _ _ ⟨ba28,ca28,rfl,rfl⟩;refine Qn 9 rfl (C2 (o':=p.2.2.2.1.length*6) tok rfl rfl rfl rfl rfl (by omega) (by omega) (by simp)) ?_;refine Qn 11 rfl (Af rfl) (Qn 12 rfl B7 ?_);refine Gz.two _ _ 10 13 _ _ _ _ rfl rfl (by kernel_rfl) rfl rfl rfl rfl (Hd (k:=2) (v:=.agg _) (H2:=_::_::_::_) tok rfl rfl rfl rfl (by simp) (by simp) rfl rfl rfl rfl) (Bf (k:=1) (v:=.val _) (cs':=Au) (H2:=_::_::_::_) tok rfl rfl rfl rfl (rfl) rfl rfl rfl rfl) (by rintro _ _ ⟨rfl,rfl⟩;trivial) (by rintro _ _ ⟨rfl,rfl⟩;trivial) ?_ ?_
  ·
   rintro _ _ ⟨rfl,rfl⟩;refine O0 13 rfl (Bf (k:=1) (v:=.val _) (cs':=Au) (H2:=_::_::_::_) tok rfl rfl rfl rfl (rfl) rfl rfl rfl rfl) ?_;refine Hs ?_;refine I6 (Bh ?_);refine ⟨(p.1-1,(T (adv p.2.1)).2,p.2.2.1 ++ [(T (adv p.2.1)).1],p.2.2.2.1 ++ [cSyn (T (adv p.2.1)).1],.slice (some ⟨ba28,0,none⟩) (p.2.2.2.1.length+1) ca28),?_,?_,GS.trans (GS.appCell (H2:=_::_::_::_) 2 1 4 rfl (by simp) rfl rfl rfl rfl) Cs⟩
   · exact ⟨J2 hes,hFT.okD hD (by simpa using hO2),by unfold A8 at hfu ⊢;rw [hts];simp only;omega,by simp only [D9,Zl];omega,hR.2.2.2.2.trans (by rw [Lf hn,if_pos hc1])⟩
   simp only;omega
  rintro _ _ ⟨rfl,rfl⟩;refine O0 10 rfl (Hd (k:=2) (v:=.agg _) (H2:=_::_::_::_) tok rfl rfl rfl rfl (by simp) (by simp) rfl rfl rfl rfl) ?_;refine Hs ?_;refine I6 (Bh ?_);refine ⟨(p.1-1,(T (adv p.2.1)).2,p.2.2.1 ++ [(T (adv p.2.1)).1],p.2.2.2.1 ++ [cSyn (T (adv p.2.1)).1],.slice (some ⟨ba28,0,none⟩) (p.2.2.2.1.length+1) ca28),?_,?_,GS.trans (GS.appCell (H2:=_::_::_::_) 2 1 4 rfl (by simp) rfl rfl rfl rfl) Cs⟩
  · exact ⟨J2 hes,hFT.okD hD (by simpa using hO2),by unfold A8 at hfu ⊢;rw [hts];simp only;omega,by simp only [D9,Zl];omega,hR.2.2.2.2.trans (by rw [Lf hn,if_pos hc1])⟩
  simp only;omega
 try simp only [Dp,Eo] at hc1
 refine AW.ghost (GS.Aai (H2:=_::_::_::_) 0 rfl (congrArg cP (Fy hc1)) rfl) ?_;refine AW.exit ?_;refine Bq (Bq (Sm ?_));refine ⟨_,GS.refl _,.inl rfl,[],.nil,_,.refl _,?_⟩
 have h9:fB T z st=({ z with kids:=p.2.2.1 },p.2.1):=by
  have h8:Jc T (A8 (Tf T st).2) (Tf T st).2 (z.kids ++ [(Tf T st).1])=(p.2.2.1,p.2.1):=hR.2.2.2.2.trans (by rw [Lf hn,iN hc1]);unfold fB;simp only;rw [h8]
 exact ⟨rfl,p.2.2.2.2,p.2.2.2.1,by rw [h9];exact hes,by rw [h9]⟩
set_option maxHeartbeats 1600000
set_option maxRecDepth 20000

def yB:List (List AV):=[[.str Ru,.int .i64 6,.fn (.func 281) [] []],[.str Rs,.int .i64 7,.fn (.func 281) [] []],[.str Rr,.int .i64 8,.fn (.func 281) [] []],[.str Lr,.int .i64 9,.fn (.func 282) [] []],[.str Jr,.int .i64 10,.fn (.func 283) [] []],[.str Ht,.int .i64 11,.fn (.func 284) [] []],[.str Ha,.int .i64 12,.fn (.func 286) [] []]]
theorem wT  : Ap Tryz.prog 225 [] (.sl 3 yB):=by
 refine Ap.body (n:=9) tok Tryz.func225 rfl rfl rfl fun H=>?_
 refine Ae (Qp (Ck (z:=3) rfl) (Bs (Qp (E4 jH) (Qp (E4 jH) (Qp (E4 jH) (Qp (E4 jH) (Qp (E4 jH) (Qp (E4 jH) (Qp (E4 jH) (Qp (Aj (es:=[jH,jH,jH,jH,jH,jH,jH]) tok rfl rfl rfl rfl rfl rfl rfl rfl rfl) (Qp eN (Rb (Qr (.sl _ _) ?_)))))))))))));rfl
def Sk (fn:Nat)(E T:PS→Syn×PS)(D:Int)(k:Int):Prop:=∀(st:PS) (bp:Nat) (z:Syn) (bo:Nat) (v:Value) (es:List (List AV)) (he:es=z.kids.map Cl) (hz:z.kids.length≤1000) (R:List HO),okD D st→Bp Tryz.prog fn (.box bp 223 (cP st) :: .box bo 25 (mV z v es) :: .row v es.length 25 6::R) [.val (.pointer (some ⟨bp,0,none⟩)),.val (.pointer (some ⟨bo,0,none⟩))] (fun r H'=>r = .tuple []∧∃v' es',es'=(Gd E T k z st).1.kids.map Cl∧H' = .box bp 223 (cP (Gd E T k z st).2) :: .box bo 25 (mV (Gd E T k z st).1 v' es') :: .row v' es'.length 25 6::R)
theorem N6 (D:Int)(hD:0≤D)(T:PS→Syn×PS)(hFT:Cq T)(hT:∀(st:PS) (bp:Nat),okD D st→Bc Tryz.prog 162 bp 223 (cP st) (cP (T st).2) [.val (.pointer (some ⟨bp,0,none⟩))] (.agg (cSyn (T st).1)))(E:PS→Syn×PS)(k:Int)(h:k≤8):Sk 281 E T D k:=fun st bp z bo v es he hz R hO=>by
 have e:Gd E T k z st=fB T z st:=by unfold Gd;rw [if_pos (decide_eq_true h)]
 rw [e];exact rN st bp z bo v es he hz R D hD T hFT hT hO
theorem qC (D:Int)(E T:PS→Syn×PS):Sk 282 E T D 9:=fun st bp z bo v es he hz R hO=>p_form1 st bp z bo v es he hz R
theorem kI (E:PS→Syn×PS)(hFE:Cq E)(hE:∀(st:PS) (bp:Nat),okD 0 st→Bc Tryz.prog 164 bp 223 (cP st) (cP (E st).2) [.val (.pointer (some ⟨bp,0,none⟩))] (.agg (cSyn (E st).1)))(D:Int)(hD:0≤D)(T:PS→Syn×PS):Sk 283 E T D 10:=fun st bp z bo v es he hz R hO=>p_form2 st bp z bo v es he hz R E hFE hE (Yz hD hO)
theorem fH (D:Int)(E T:PS→Syn×PS):Sk 284 E T D 11:=fun st bp z bo v es he hz R hO=>p_form3 st bp z bo v es he hz R hO.1
theorem mL (E:PS→Syn×PS)(hFE:Cq E)(hE:∀(st:PS) (bp:Nat),okD 0 st→Bc Tryz.prog 164 bp 223 (cP st) (cP (E st).2) [.val (.pointer (some ⟨bp,0,none⟩))] (.agg (cSyn (E st).1)))(D:Int)(hD:0≤D)(T:PS→Syn×PS):Sk 286 E T D 12:=fun st bp z bo v es he hz R hO=>p_form4 st bp z bo v es he hz R E hFE hE (Yz hD hO)
theorem rZ (E:PS→Syn×PS)(hFE:Cq E)(hE:∀(st:PS) (bp:Nat),okD 0 st→Bc Tryz.prog 164 bp 223 (cP st) (cP (E st).2) [.val (.pointer (some ⟨bp,0,none⟩))] (.agg (cSyn (E st).1)))(D:Int)(hD:0≤D)(T:PS→Syn×PS)(hFT:Cq T)(hT:∀(st:PS) (bp:Nat),okD D st→Bc Tryz.prog 162 bp 223 (cP st) (cP (T st).2) [.val (.pointer (some ⟨bp,0,none⟩))] (.agg (cSyn (T st).1)))(k:Nat)(hk:k<7):∃(x:Am×Int) (fn:Nat),formL[k]? = some x∧yB[k]? = some [.str x.1,.int .i64 x.2,.fn (.func fn) [] []]∧Sj Tryz.prog fn=true∧x.1.length≤1048576∧Sk fn E T D x.2:=by
 match k,hk with
 | 0,_=>exact ⟨_,_,rfl,rfl,by kernel_rfl,by decide,N6 D hD T hFT hT E 6 (by decide)⟩
 | 1,_=>exact ⟨_,_,rfl,rfl,by kernel_rfl,by decide,N6 D hD T hFT hT E 7 (by decide)⟩
 | 2,_=>exact ⟨_,_,rfl,rfl,by kernel_rfl,by decide,N6 D hD T hFT hT E 8 (by decide)⟩
 | 3,_=>exact ⟨_,_,rfl,rfl,by kernel_rfl,by decide,qC D E T⟩
 | 4,_=>exact ⟨_,_,rfl,rfl,by kernel_rfl,by decide,kI E hFE hE D hD T⟩
 | 5,_=>exact ⟨_,_,rfl,rfl,by kernel_rfl,by decide,fH D E T⟩
 | 6,_=>exact ⟨_,_,rfl,rfl,by kernel_rfl,by decide,mL E hFE hE D hD T⟩
def oX (E T:PS→Syn×PS)(k:Int)(z:Syn)(s:PS):Syn×PS:=((Gd E T k { z with kids:=[(T (Ce Dt s)).1] } (T (Ce Dt s)).2).1,Ce F2 (Gd E T k { z with kids:=[(T (Ce Dt s)).1] } (T (Ce Dt s)).2).2)

theorem gP (st:PS)(bp:Nat)(z:Syn)(bo:Nat)(R:List HO)(E:PS→Syn×PS)(hFE:Cq E)(hE:∀(st:PS) (bp:Nat),okD 0 st→Bc Tryz.prog 164 bp 223 (cP st) (cP (E st).2) [.val (.pointer (some ⟨bp,0,none⟩))] (.agg (cSyn (E st).1)))(D:Int)(hD:0≤D)(T:PS→Syn×PS)(hFT:Cq T)(hT:∀(st:PS) (bp:Nat),okD (D+1) st→Bc Tryz.prog 162 bp 223 (cP st) (cP (T st).2) [.val (.pointer (some ⟨bp,0,none⟩))] (.agg (cSyn (T st).1)))(w:Am)(k:Int)(fn:Nat)(hfn:Sj Tryz.prog fn=true)(hr:Sk fn E T (D+1) k)(hO:okD (D+1) st):Bp Tryz.prog 227 (.box bp 223 (cP st) :: .box bo 25 (cSyn z)::R) [.ptr [.val (.pointer (some ⟨bp,0,none⟩))],.val (.pointer (some ⟨bo,0,none⟩)),.ptr [.str w,.int .i64 k,.fn (.func fn) [] []]] (fun r H'=>r = .tuple []∧H' = .box bp 223 (cP (oX E T k z st).2) :: .box bo 25 (cSyn (oX E T k z st).1)::R):=by
 have hS:=hO.1;have hO1:okD (D+1) (Ce Dt st):=by simpa using hO
 have hO2:=hFT.okD (by omega) hO1;have hO4:okD (D+1) (Gd E T k { z with kids:=[(T (Ce Dt st)).1] } (T (Ce Dt st)).2).2:=Qh hO2 (aV hFE hFT k { z with kids:=[(T (Ce Dt st)).1] } (Xc (by omega) hO2));refine Bp.body (n:=15) tok Tryz.func227 rfl rfl rfl ?_;refine AW.ghostPost (Ae (Qp Il ?_));refine Rt (Cu rfl ((Dc _ _ _ (by simpa using hS) (by decide)).at (k:=0) (H2:=_::_::_) rfl rfl)) ?_;refine Bs (Qp Il (lV ((hT (Ce Dt st) bp hO1).at (k:=0) (H2:=_::_::_) rfl rfl) (Qe (F4 (es:=[Au]) tok rfl rfl rfl rfl rfl rfl rfl rfl rfl) ?_)));rintro _ _ ⟨v7,rfl,rfl⟩;refine Qp B7 ?_;refine Bt 2 Au (_::_::_::_) (Bs (Qp (Qf [_]) (Qp (Dj (c:=.fn _ _ _) tok rfl rfl rfl) (Qp Il ?_))));refine Qe (Ix (hfn) rfl rfl rfl (Bp.front2 (R:=_::_) 2 1 rfl rfl rfl (hr (T (Ce Dt st)).2 bp { z with kids:=[(T (Ce Dt st)).1] } bo _ _ (by rw [Dn,C8,Ba]) (by simp) _ hO2))) ?_;rintro _ _ ⟨rfl,v2,e2,rfl,rfl⟩;have hS:=hO4.1;refine Ag (AW.region (Qp Il ?_));refine Rt (Cu rfl ((Dc _ _ _ (by simpa using hS) (by decide)).at (k:=0) (H2:=_::_::_::_) rfl rfl)) ?_;refine AOL.nil ?_;refine ⟨_,GS.cell (H2:=_::_::_::_) 1 4 rfl rfl rfl rfl Lh,.inl rfl,[],.nil,_,.cons_cons _ (.cons_cons _ (.cons _ (.refl _))),?_⟩;exact ⟨rfl,rfl⟩
theorem bJ (st:PS)(bp:Nat)(E:PS→Syn×PS)(hFE:Cq E)(hE:∀(st:PS) (bp:Nat),okD 0 st→Bc Tryz.prog 164 bp 223 (cP st) (cP (E st).2) [.val (.pointer (some ⟨bp,0,none⟩))] (.agg (cSyn (E st).1)))(D:Int)(hD:0≤D)(T:PS→Syn×PS)(hFT:Cq T)(hT:∀(st:PS) (bp:Nat),okD (D+1) st→Bc Tryz.prog 162 bp 223 (cP st) (cP (T st).2) [.val (.pointer (some ⟨bp,0,none⟩))] (.agg (cSyn (T st).1)))(hO:okD D st):Bc Tryz.prog 162 bp 223 (cP st) (cP ((Z3 E T st).2)) [.val (.pointer (some ⟨bp,0,none⟩))] (.agg (cSyn (Z3 E T st).1)):=by
 intro H;have hS:=hO.1;refine Bp.body (n:=29) tok Tryz.func162 rfl rfl rfl ?_;refine Ae (Qp (Tr (v:=.val _) (cs:=[_]) rfl rfl rfl) (Ed Kz fun b2=>Ag (Bk (Qp (Qc rfl (wT )) (Qp (Ah (n:=7) tok rfl rfl rfl (rfl)) (Qp Ao (Ag (AW.block ?_))))))));refine AW.Aag (fun (k:Nat)=>(⟨[(1,.ptr [.val (.pointer (some ⟨bp,0,none⟩))]),(2,.val (.pointer (some ⟨b2,0,none⟩))),(6,.sl 3 yB),(7,.int .i64 7),(8,.int .i64 (k:Int))],.box b2 25 (cSyn Mz) :: .box bp 223 (cP st)::H,29⟩:St)) (fun k=>k≤7∧∀j y,j<k→formL[j]? = some y→Hn y.1 st=false) (fun k=>7-k) (0) ?_ Cs ?_
 · exact ⟨E2 _,fun j y hj=>absurd hj (Nat.not_lt_zero _)⟩
 rintro k hR;refine Ae (Qp Bx (Re (Aq (fun hc1=>?_) fun hc1=>?_)))
 ·
  try simp only [Dp,Eo] at hc1
  have hk:k<7:=by have:=Ir hc1;omega
  refine (rZ E hFE hE (D+1) (by omega) T hFT hT k hk).elim fun x hx0=>hx0.elim fun fn hx3=>?_
  have hx:=hx3.1;have hx2:=hx3.2.1;have hfn:=hx3.2.2.1;have hwx:=hx3.2.2.2.1;have hrk:=hx3.2.2.2.2;refine Bg (AW.seq (AW.block (Ae ?_)));refine Qp (Aa (c:=[.str x.1,.int .i64 x.2,.fn (.func fn) [] []]) tok rfl rfl rfl rfl rfl rfl (by omega) (hx2)) ?_;refine Qp (B0 jH) (Ed [.str [],.int .i64 0,.val .nilFunc] fun b4=>?_);refine Bt 0 jH (_::_::_::_) ?_;refine AOL.ghost (GS.freeze (t:=4) 0 rfl rfl) ?_;refine Ag (Bk (Qp Il (Qp (Qf jH) (Qp Hc ?_))));refine AOL.Aae (Cj (k:=1) (by kernel_rfl) rfl rfl (zS _ _ _ (by simpa using hS) (by assumption))) rfl rfl ?_;refine Qp Et (Ag (Aq (fun hc2=>?_) fun hc2=>?_))
  ·
   try simp only [Dp,Eo] at hc2
   refine AW.exit (Ri (AW.region (Qp E9 (Qp Ao (Ag ?_)))));refine ⟨k+1,?_,?_,Cs⟩
   · exact ⟨hk,fun j y hj hy=>by rcases Nat.lt_succ_iff_lt_or_eq.1 hj with h | rfl;exact hR.2 j y h hy;rw [hx] at hy;cases hy;exact hc2⟩
   omega
  try simp only [Dp,Eo] at hc2
  have hfd:formL.find? (fun f=>Hn f.1 st)=some x:=Ti hR.2 hx hc2;refine Bg (AW.seq ?_);refine AW.draw mixed (fun H'=>_∈H') (B4 (i:=1) rfl) (by kernel_rfl) ?_;refine Qn 0 rfl (Qf [Iq _,_]) (Qn 1 rfl Bi (Qn 2 rfl Il ?_));refine Qn 3 rfl (OpP.Aah (fun k=>Cj (k:=k) (by kernel_rfl) rfl rfl (J4 _ _)) (fun _ h=>h)) ?_;refine Qn 4 rfl (E4 Au) ?_;refine Gz.eff _ _ 5 _ _ rfl (by kernel_rfl) rfl rfl (Kq (l:=Kz) (by kernel_rfl)) (by rintro _ _ ⟨b5,rfl,rfl⟩;simp) ?_;rintro _ _ ⟨b5,rfl,rfl⟩;refine Gz.last _ _ 6 _ _ rfl (by kernel_rfl) rfl rfl (Bf (k:=0) (v:=.agg _) (cs':=Au) (H2:=_::_::_::_) tok rfl rfl rfl rfl (rfl) rfl rfl rfl rfl) (by kernel_rfl) ?_;rintro _ _ ⟨rfl,rfl⟩;refine Bh (Ae (Qp Il (Qp (Bn (l:=[]) (l':=[.ptr _,.val _,.ptr _]) rfl rfl) ?_)));refine Rt (Cu rfl (Bp.front2 (R:=_::_) 0 1 rfl rfl rfl (Us (oX E T x.2) ⟨x.2,[],[],0,[],Cy st⟩ st bp b5 _ 227 (by kernel_rfl) [] [.ptr [.val (.pointer (some ⟨bp,0,none⟩))],.val (.pointer (some ⟨b5,0,none⟩)),.ptr [.str x.1,.int .i64 x.2,.fn (.func fn) [] []]] (Wb hc2) hS (fun hb=>gP _ bp ⟨x.2,[],[],0,[],Cy st⟩ b5 _ E hFE hE D hD T hFT hT x.1 x.2 fn hfn hrk (X2 hD hO hb))))) ?_;refine Bs (AOL.Aae (Ax (k:=1) (l:=Au) tok rfl rfl rfl rfl rfl) rfl rfl ?_);refine Bt 2 Au (_::_::_::_) (Ra (Be (Db (Be ?_))));refine ⟨.inr rfl,[.agg Au],.cons (.box _ _ _ 2 _ _ _ _ rfl rfl rfl rfl rfl rfl) <| .nil,_,.cons_cons _ (.cons _ (.cons _ (.refl _))),?_⟩;have h9:Z3 E T st=L4 (oX E T x.2) ⟨x.2,[],[],0,[],Cy st⟩ st:=by unfold Z3;rw [hfd];rfl
  exact ⟨by rw [h9];rfl,congrArg (fun s=>HO.box bp 223 (cP s)::H) (by rw [h9])⟩
 try simp only [Dp,Eo] at hc1
 have hkn:¬k<7:=by have:=Lt hc1;omega
 have hfd:formL.find? (fun f=>Hn f.1 st)=none:=Y4 (k:=k) hkn hR.2;refine AW.exit ?_;refine Bq (Ri (Ae (Qp Il ?_)));refine lV ((oH st bp E hFE hE (Yz hD hO)).at (k:=1) (H2:=_::_::_) rfl rfl) ?_;refine Bt 0 Au (_::_::_) (Rb ?_);refine ⟨.inr rfl,[.agg Au],.cons (.box _ _ _ 0 _ _ _ _ rfl rfl rfl rfl rfl rfl) <| .nil,_,.cons _ (.refl _),?_⟩;have h9:Z3 E T st=J9 E st:=by unfold Z3;rw [hfd]
 exact ⟨by rw [h9];rfl,congrArg (fun s=>HO.box bp 223 (cP s)::H) (by rw [h9])⟩
theorem nQ (E:PS→Syn×PS)(hFE:Cq E)(hE:∀(st:PS) (bp:Nat),okD 0 st→Bc Tryz.prog 164 bp 223 (cP st) (cP (E st).2) [.val (.pointer (some ⟨bp,0,none⟩))] (.agg (cSyn (E st).1))):∀(n:Nat),n≤64→∀(st:PS) (bp:Nat),okD (64-(n:Int)) st→Bc Tryz.prog 162 bp 223 (cP st) (cP (pN E n st).2) [.val (.pointer (some ⟨bp,0,none⟩))] (.agg (cSyn (pN E n st).1))
  | 0,_=>fun st bp hO=>bJ st bp E hFE hE 64 (by decide) D2 Gk (fun _ _ h=>(Qj h).elim) hO
  | n+1,hn=>fun st bp hO=>by
    have ih:=nQ E hFE hE n (by omega);exact bJ st bp E hFE hE (64-((n+1:Nat):Int)) (by omega) (pN E n) (U2 hFE n) (fun s b h=>ih s b ⟨h.1,by have:=h.2.1;omega,h.2.2⟩) hO
theorem W0:Cq EE:=(Iv 64).2
theorem nA:Cq TT:=U2 W0 64
theorem p_EE (st:PS)(bp:Nat)(h:okD 0 st):Bc Tryz.prog 164 bp 223 (cP st) (cP (EE st).2) [.val (.pointer (some ⟨bp,0,none⟩))] (.agg (cSyn (EE st).1)):=(oC 64 (C4 _)).2 st bp h
theorem p_TT (st:PS)(bp:Nat)(h:okD 0 st):Bc Tryz.prog 162 bp 223 (cP st) (cP (TT st).2) [.val (.pointer (some ⟨bp,0,none⟩))] (.agg (cSyn (TT st).1)):=nQ EE W0 p_EE 64 (C4 _) st bp h

end Go.Proofs.YtckhoadldibflaaGreatDoor
