/-
  Several texts in one: Y8d, Y9b, Y10, Y11, Y12. No condition.
-/
import Derived.Test.YtkddpedfbicbeaaGreatDoorK01
import Derived.Test.YtkddpedfbicbeaaGreatDoorK09
import Derived.Test.YtkddpedfbicbeaaGreatDoorK17
import Derived.KernelRfl
import Derived.Test.YtkddpedfbicbeaaGreatDoorK10
set_option linter.unusedVariables false
set_option linter.unusedSimpArgs false
namespace Go.Proofs.YtkddpedfbicbeaaGreatDoor
open Go Go.Aw
set_option maxHeartbeats 1600000
set_option maxRecDepth 20000

theorem vL (n:Nat)(bs:List Bd)(hm:∀b∈bs,-Jp≤b.most∧b.most≤Jp)(hW:(I6 (zn n bs) != 0)=false→decide ((El (zn n bs)).2<0)=false→Nd n bs=true)(hE:decide ((El (zn n bs)).2<0)=true):Ax Tryz.prog 145 [.agg (Tv (zn n bs))] (.tuple [.bool (Ew (zn n bs)).ok,.sl 1 ((Ew (zn n bs)).values.map cI),.junk,.int .i64 (Ew (zn n bs)).err]):=by
 refine Ax.body (n:=41) Ai Tryz.func145 rfl rfl rfl fun H=>?_
 refine Ah (Qp (Fz [Iq _,_]) (Qp Bg (Qp N5 (Qp N5 (Qp Av (Ag (AW.seq (Ah (Qp (Ck [Iq _,_]) ?_)))))))))
 refine Qp (Qc rfl (pV (zn n bs))) ?_
 refine Qp Av (Df (Qp A2 (Qp Cq (Ag (A5 (fun hc1=>?_) fun hc1=>?_)))))
 ·
  refine Ah (Qp A2 (Qp Bg ?_))
  refine Qp (B2 (z:=1) rfl) ?_
  refine Qp (B2 (z:=1) rfl) ?_
  refine Qp Av ?_
  refine AOL.ghost (GS.weaken (sl':=[(2,_),(3,_),(5,_)]) ⟨rfl,rfl,rfl,trivial⟩ (.refl _)) ?_
  refine Ag (Dr ?_)
  refine ⟨.inr rfl,[.bool _,.sl _ _,.junk,Iq _],.cons (.tmp _ _ rfl) <| .cons (.tmp _ _ rfl) <| .cons (.tmp _ _ rfl) <| .cons (.tmp _ _ rfl) <| .nil,.refl _,?_⟩
  exact Eq.trans rfl (congrArg (fun q:So=>AV.tuple [.bool q.ok,.sl 1 (q.values.map cI),.junk,.int .i64 q.err]) (Vw hc1)).symm
 ·
  have hz:=oA hc1 hm
  have hn1:=hz.n1
  have hn64:=hz.n64
  have hok:=mV hz
  have hi0:=hok.ix (Int.le_refl 0) (by omega)
  refine Bz (Ah (Qp (Ck [Iq _,_]) ?_))
  refine Qe (Fp (by kernel_rfl) rfl rfl ((pD n bs hz (fun h=>absurd (hE.symm.trans h) (by decide)) _).mono' (fun r K h=>Eq.mp (if_pos hE) h))) ?_
  rintro _ _ ⟨b18,rfl,rfl⟩
  refine Qp Mt (Qp Qxv (Qp Qxv (Qp N5 (Qp N5 (Ag (AW.seq (Ah (Qp H8 ?_))))))))
  refine Qp (rA Ai rfl rfl rfl) ?_
  refine Ag (A5 (fun hc2=>?_) fun hc2=>?_)
  ·
   cases hc2
  ·
   refine Bz (Ah (Qp H8 ?_))
   refine Qp (B9 Ai rfl rfl rfl rfl rfl (Int.le_refl 0) (by omega) (rfl)) ?_
   refine AOL.Abs (A0 (k:=0) (c:=.int .i64 (Ey (El (zn n bs)).1.sums 0)) Ai rfl rfl rfl (Wq (Int.le_refl 0) (by rw [hok.s];omega))) rfl rfl ?_
   refine Qp Av (Ag (AW.seq (Ah (Qp H8 ?_))))
   refine Qp (aD Ai rfl rfl rfl) ?_
   refine Qp A2 (Ag (AW.block ?_))
   refine AW.Abo (fun (p:Nat)=>(⟨[(7,.val (.slice (some ⟨b18,0,none⟩) n n)),(9,.int .i64 (Ey (El (zn n bs)).1.sums 0)),(28,.int .i64 (n:Int)),(29,.int .i64 (p:Int))],.box b18 3 (bI (Wn (El (zn n bs)).1.sums p))::H,41⟩:St)) (fun (p:Nat)=>p≤n) (fun (p:Nat)=>n-p) (0) ?_ (GS.weaken ⟨rfl,rfl,rfl,rfl,trivial⟩ (.refl _)) ?_
   · exact Nat.zero_le _
   ·
    rintro p hR
    refine Ah (Qp Cj (Ag (AW.seq (A5 (fun hc3=>?_) fun hc3=>?_))))
    ·
     have hlt:p<n:=by have:=of_decide_eq_true hc3;omega
     have hi1:=hok.ix (k:=(p:Int)) (by omega) (by omega)
     refine Bz (AW.seq (AW.block (Ah (Qp A2 (Qp Av (Ag (AW.region (Qp H8 (Qp A2 ?_)))))))))
     refine Qp (B9 (o':=(p:Int).toNat) Ai rfl rfl rfl rfl rfl (by omega) (by omega) (dL _)) ?_
     refine AOL.Abs (A0 (k:=0) (c:=.int .i64 (Ey (El (zn n bs)).1.sums (p:Int))) Ai rfl rfl rfl ((Wq (k:=(p:Int)) (by omega) (by rw [Wx (by rw [hok.s];omega),hok.s];omega)).trans (congrArg (fun v=>some (AV.int .i64 v)) (subL_at (by rw [hok.s];exact hlt))))) rfl rfl ?_
     refine Qp A2 ?_
     refine Qp (aU rfl rfl rfl (by constructor <;> omega)) ?_
     refine Qp (B9 (o':=p) Ai rfl rfl rfl rfl rfl (by omega) (by omega) (dL _)) ?_
     refine Qe (C6 (k:=0) (v:=Iq _) (cs':=bI (Wn (El (zn n bs)).1.sums (p+1))) (H2:=_::_) Ai rfl rfl rfl rfl rfl rfl (dZ (by rw [Wx (by rw [hok.s];omega),hok.s];exact hlt)) ((dW (by rw [Wx (by rw [hok.s];omega),hok.s];exact hlt)).trans (congrArg bI (vO (by rw [hok.s];exact hlt)))) rfl) ?_
     rintro _ _ ⟨rfl,rfl⟩
     refine AOL.nil (Bs (Ae (AW.region (Qp Fw (Qp A2 (Ag ?_))))))
     refine ⟨p+1,?_,?_,GS.weaken ⟨rfl,rfl,rfl,rfl,trivial⟩ (.refl _)⟩
     · exact hlt
     · omega
    ·
     have hkn:(El (zn n bs)).1.sums.length≤p:=by rw [hok.s];have:=of_decide_eq_false hc3;omega
     refine AW.exit ?_
     refine A8 (A8 (Bw (Ae (Ah (Qp H8 (Qp Bg (Qp N5 (Qp N5 (Qp Av ?_)))))))))
     refine AOL.ghost (GS.freezeSl (t:=3) (z:=1) (es:=((El (zn n bs)).1.sums.map (fun v=>v-Ey (El (zn n bs)).1.sums 0)).map cI) 0 rfl rfl ((bI_flat _).trans (congrArg bI (qW hkn).symm)) (by rw [List.length_map,List.length_map];exact hok.s.symm) (Nat.le_refl _) (by unfold maxLen;omega) (wV (fun _=>rfl) _) Aa9) ?_
     refine AOL.ghost (GS.weaken (sl':=[(2,_),(3,_),(5,_)]) ⟨rfl,rfl,rfl,trivial⟩ (.refl _)) ?_
     refine Ag (AW.ret ?_)
     refine ⟨.inr rfl,[.bool _,.sl _ _,.junk,Iq _],.cons (.tmp _ _ rfl) <| .cons (.tmp _ _ rfl) <| .cons (.tmp _ _ rfl) <| .cons (.tmp _ _ rfl) <| .nil,.refl _,?_⟩
     exact Eq.trans rfl (congrArg (fun q:So=>AV.tuple [.bool q.ok,.sl 1 (q.values.map cI),.junk,.int .i64 q.err]) (V1 hc1 hE)).symm
theorem xX (n:Nat)(bs:List Bd)(hm:∀b∈bs,-Jp≤b.most∧b.most≤Jp)(hW:(I6 (zn n bs) != 0)=false→decide ((El (zn n bs)).2<0)=false→Nd n bs=true)(hE:decide ((El (zn n bs)).2<0)=false):Ax Tryz.prog 145 [.agg (Tv (zn n bs))] (.tuple [.bool (Ew (zn n bs)).ok,.sl 1 ((Ew (zn n bs)).values.map cI),.junk,.int .i64 (Ew (zn n bs)).err]):=by
 refine Ax.body (n:=41) Ai Tryz.func145 rfl rfl rfl fun H=>?_
 refine Ah (Qp (Fz [Iq _,_]) (Qp Bg ?_))
 refine Qp (B2 (z:=1) rfl) ?_
 refine Qp (B2 (z:=1) rfl) ?_
 refine Qp Av (Ag (AW.seq (Ah (Qp (Ck [Iq _,_]) ?_))))
 refine Qp (Qc rfl (pV (zn n bs))) ?_
 refine Qp Av (Df (Qp A2 (Qp Cq (Ag (A5 (fun hc1=>?_) fun hc1=>?_)))))
 ·
  refine Ah (Qp A2 (Qp Bg ?_))
  refine Qp (B2 (z:=1) rfl) ?_
  refine Qp (B2 (z:=1) rfl) ?_
  refine Qp Av ?_
  refine AOL.ghost (GS.weaken (sl':=[(2,_),(3,_),(5,_)]) ⟨rfl,rfl,rfl,trivial⟩ (.refl _)) ?_
  refine Ag (Dr ?_)
  refine ⟨.inr rfl,[.bool _,.sl _ _,.junk,Iq _],.cons (.tmp _ _ rfl) <| .cons (.tmp _ _ rfl) <| .cons (.tmp _ _ rfl) <| .cons (.tmp _ _ rfl) <| .nil,.refl _,?_⟩
  exact Eq.trans rfl (congrArg (fun q:So=>AV.tuple [.bool q.ok,.sl 1 (q.values.map cI),.junk,.int .i64 q.err]) (Vw hc1)).symm
 ·
  have hz:=oA hc1 hm
  refine Bz (Ah (Qp (Ck [Iq _,_]) ?_))
  refine Qe (Fp (by kernel_rfl) rfl rfl ((pD n bs hz (fun h=>hW hc1 h) _).mono' (fun r K h=>Eq.mp (if_neg (by rw [hE];decide)) h))) ?_
  rintro _ _ ⟨es,hne,rfl,rfl⟩
  refine Qp Mt (Qp Qxv (Qp zU (Qp N5 (Qp V2 (Ag (AW.seq (Ah (Qp C4 ?_))))))))
  refine Qp (sT Ai rfl hne rfl rfl) ?_
  refine Ag (A5 (fun hc2=>?_) fun hc2=>?_)
  ·
   refine Ah (Qp C4 (Qp Bg ?_))
   refine Qp (B2 (z:=1) rfl) ?_
   refine Qp V2 (Qp Av ?_)
   refine AOL.ghost (GS.weaken (sl':=[(2,_),(3,_),(5,_)]) ⟨rfl,rfl,rfl,trivial⟩ (.refl _)) ?_
   refine Ag (Dr ?_)
   refine ⟨.inr rfl,[.bool _,.sl _ _,.junk,Iq _],.cons (.tmp _ _ rfl) <| .cons (.tmp _ _ rfl) <| .cons (.tmp _ _ rfl) <| .cons (.tmp _ _ rfl) <| .nil,.refl _,?_⟩
   exact Eq.trans rfl (congrArg (fun q:So=>AV.tuple [.bool q.ok,.sl 1 (q.values.map cI),.junk,.int .i64 q.err]) (dP hc1 hE)).symm
  ·
   cases hc2
theorem Aa2 (n:Nat)(bs:List Bd)(hm:∀b∈bs,-Jp≤b.most∧b.most≤Jp)(hW:(I6 (zn n bs) != 0)=false→decide ((El (zn n bs)).2<0)=false→Nd n bs=true):Ax Tryz.prog 145 [.agg (Tv (zn n bs))] (.tuple [.bool (Ew (zn n bs)).ok,.sl 1 ((Ew (zn n bs)).values.map cI),.junk,.int .i64 (Ew (zn n bs)).err]):=by
 cases hE:decide ((El (zn n bs)).2<0) with
 | true=>exact vL n bs hm hW hE
 | false=>exact xX n bs hm hW hE

set_option maxHeartbeats 1600000
set_option maxRecDepth 20000

theorem sN (T:List Sc)(V:List Va)(l:List Lit)(hlk:U6 T V l)(H:List HO):Du Tryz.prog 144 H [.agg (Cp T V),.sl 9 (l.map G2)] (fun r H'=>∃m,r = .tuple [.val (.map (some m)),.bool (Eh T V l).2]∧H' = .kmap m (wE (Eh T V l).1)::H):=by
 refine Du.body (n:=20) Ai Tryz.func144 rfl rfl rfl ?_
 refine Ah (Qp (Fz [_,_]) ?_)
 refine Qp (bA (v:=.sl _ _) (cs:=[_]) rfl rfl rfl) ?_
 refine Qp N5 (Qp Bg (Df ?_))
 refine Qe (Mw) ?_
 rintro _ _ ⟨b9,rfl,rfl⟩
 refine Qe (Al (l:=[.val (.map none)]) (by kernel_rfl)) ?_
 rintro _ _ ⟨b6,rfl,rfl⟩
 refine Cn 0 [_] (_::_::_) (Df ?_)
 refine Qp (Bf (l:=[]) (l':=[.ptr _,.ptr _,.val _]) rfl rfl) ?_
 refine Qp (C1 (v:=.fn _ _ _) rfl) ?_
 refine Df ?_
 refine Qp (Bk (v:=.fn _ _ _) rfl) ?_
 refine Qp (Bf (l:=[]) (l':=[.val _]) rfl rfl) ?_
 refine Qe (Ja (by kernel_rfl) rfl rfl rfl (Du.front2 (R:=_) 1 0 rfl rfl rfl (Abi T V l hlk b6 b9 _))) ?_
 rintro _ _ ⟨rfl,rfl⟩
 refine Qp Bg (Ag (AW.seq ?_))
 refine AW.draw mixed (fun H'=>_∈H') (List.mem_of_getElem? (i:=0) rfl) (by kernel_rfl) ?_
 refine Qn 0 rfl (OpP.Abr (fun k=>A0 (k:=k) (c:=.val _) Ai rfl rfl rfl rfl) (fun _ h=>h)) ?_
 refine Qn 1 rfl Br (Qn 2 rfl Br ?_)
 refine Ju.pure _ _ 3 _ _ rfl (by kernel_rfl) (by kernel_rfl) rfl (.opt _ (.fn _ _ _) [] rfl (tK.all trivial) (fun hG=>Bk (v:=.fn _ _ _) rfl) rfl) ?_
 refine Ju.effg _ _ 4 _ _ [(17,_)] _ _ rfl (by kernel_rfl) rfl rfl (tK.all ⟨Ent.Abm _ _,trivial⟩) (fun hG=>Ja (by kernel_rfl) rfl rfl rfl (Du.front2 (R:=_) 1 0 rfl rfl rfl (Aa3 T V l hlk b6 b9 (I8 T V l []).1 (dF l [] Vx) _))) (fun hG=>rfl) (List.mem_of_getElem? (i:=0) rfl) ?_
 refine Qn 5 rfl Ez (Qn 6 rfl N5 (Qn 7 rfl Bg ?_))
 refine Ju.done _ _ (by kernel_rfl) ?_
 refine Ae (AW.ret ?_)
 refine ⟨.inr rfl,[.val _,.bool _],.cons (.tmp _ _ rfl) <| .cons (.tmp _ _ rfl) <| .nil,_,.cons _ (.refl _),?_⟩
 exact ⟨b9,rfl,rfl⟩
theorem xQ (T:List Sc)(V:List Va)(l:List Lit)(hlk:U6 T V l)(hs:SOLV T V l):Ax Tryz.prog 145 [.agg (Tv (C7 T V l))] (.tuple [.bool (Ew (C7 T V l)).ok,.sl 1 ((Ew (C7 T V l)).values.map cI),.junk,.int .i64 (Ew (C7 T V l)).err]):=
 Aa2 (zN T V l) (C7 T V l).bs (Pz hlk) hs
theorem zW (T:List Sc)(V:List Va)(l:List Lit)(hlk:U6 T V l)(hll:l.length≤4096)(hs:SOLV T V l)(H:List HO):Du Tryz.prog 103 H [.agg (Cp T V),.sl 9 (l.map G2)] (fun r H'=>∃m mo,(Rt (C7 T V l)=true→mo=some m)∧r = .tuple [.agg [.ptr (sJ T V l),.sl 1 ((Lv T V l).map cI),.val (.map mo)],.bool (Ze T V l)]∧H' = .kmap m (wE (Eh T V l).1)::H):=by
 refine Du.body (n:=45) Ai Tryz.func103 rfl rfl rfl ?_
 refine Ah (Qp (Fz [_,_]) ?_)
 refine Qe (Al (l:=[.val (.pointer none),.sl 1 [],.val (.map none)]) (by kernel_rfl)) ?_
 rintro _ _ ⟨b4,rfl,rfl⟩
 refine Qp Bg (Df (Qp (Ck [_,_]) (Qp C4 ?_)))
 refine Qp (Qc rfl (iL T V l hll hlk)) ?_
 refine Qp Qap (Df (Qp (Ck [_,_]) (Qp C4 ?_)))
 refine Qe (Fp (by kernel_rfl) rfl rfl (sN T V l hlk _)) ?_
 rintro _ _ ⟨m,rfl,rfl⟩
 refine Qp Mt (Qp Qxv (Qp gF (Qp N5 (Qp Bg (Ag (AW.seq (Ah (Qp zR ?_))))))))
 refine Qp (Qc rfl (kF T V l)) ?_
 refine Qp Gj (Ag (A5 (fun hc1=>?_) fun hc1=>?_))
 ·
  refine Ah (Qp zR (Qp (Eo [_,_,_]) (Cn 1 [_,_,_] (_::_::_) (Qp Bg (Ag (Dr ?_))))))
  refine ⟨.inr rfl,[.agg [_,_,_],.bool _],.cons (.box _ _ _ 1 _ _ _ _ rfl rfl rfl rfl rfl rfl) <| .cons (.tmp _ _ rfl) <| .nil,_,.cons_cons _ (.cons _ (.refl _)),?_⟩
  exact ⟨m,_,fun h=>absurd ((Bool.not_eq_true' _).mp hc1) (by rw [h];decide),Eq.trans rfl (congrArg (fun q:List Int×Bool=>AV.tuple [.agg [.ptr (sJ T V l),.sl 1 (q.1.map cI),.val (.map none)],.bool q.2]) (Prod.ext (solV_1 hc1) (vQ hc1):(Lv T V l,Ze T V l)=([],true))).symm,rfl⟩
 ·
  refine Bz (Ah (Qp zR ?_))
  refine Qp (Gw rfl) ?_
  refine Qp (Qf [Iq _,_,_,_]) (Qp (Ck [Iq _,_]) ?_)
  refine Qp (Qc rfl (xQ T V l hlk hs)) ?_
  refine Qp Mt (Qp gF (Qp zU ?_))
  refine Qp (Cc (v:=.junk) rfl rfl) ?_
  refine Qp Jo (Qp Bg (Qp V2 ?_))
  refine Qp (C1 (v:=.junk) rfl) ?_
  refine Qp Av (Df (Qp zR (Qp C4 (Qp H8 (Qp (Eo [_,_,_]) (Qp Br (Qp Br (Qg [] Qw Br (Qp Ez ?_)))))))))
  refine Cn 1 [_,_,_] (_::_::_) (Qp Bg (Ag (AW.ret ?_)))
  refine ⟨.inr rfl,[.agg [_,_,_],.bool _],.cons (.box _ _ _ 1 _ _ _ _ rfl rfl rfl rfl rfl rfl) <| .cons (.tmp _ _ rfl) <| .nil,_,.cons_cons _ (.cons _ (.refl _)),?_⟩
  exact ⟨m,_,fun _=>rfl,Eq.trans rfl (congrArg (fun q:List Int×Bool=>AV.tuple [.agg [.ptr (sJ T V l),.sl 1 (q.1.map cI),.val (.map (some m))],.bool q.2]) (Prod.ext (mP hc1) (eH hc1):(Lv T V l,Ze T V l)=(_,_))).symm,rfl⟩
theorem rH (T:List Sc)(V:List Va)(l:List Lit)(hlk:U6 T V l)(hll:l.length≤1048576)(v:List Int)(mo:Option Nat):Ax Tryz.prog 104 [.agg (Cp T V),.sl 9 (l.map G2),.agg [.ptr (sJ T V l),.sl 1 (v.map cI),.val (.map mo)]] (.bool (Ln T V l)):=by
 refine Ax.body (n:=29) Ai Tryz.func104 rfl rfl rfl fun H=>?_
 refine Ah (Qp (Fz [_,_]) (Qp (Fz [_,_,_]) (Qp Bg (Ag (AW.seq (Ah (Qp C4 ?_)))))))
 refine Qp (Ak (n:=l.length) Ai rfl rfl rfl (by simp)) ?_
 refine Qp A2 (Ag (AW.block ?_))
 refine AW.Abo (fun (k:Nat)=>(⟨[(1,.sl 9 (l.map G2)),(3,.ptr (Cp T V)),(5,.ptr [.ptr (sJ T V l),.sl 1 (v.map cI),.val (.map mo)]),(9,.sl 9 (l.map G2)),(10,.int .i64 l.length),(11,.int .i64 (k:Int))],H,29⟩:St)) (fun (k:Nat)=>k≤l.length∧(l.take k).all (fun c=>Cz T V c.cond)=true) (fun (k:Nat)=>l.length-k) (0) ?_ (GS.weaken ⟨rfl,rfl,rfl,rfl,rfl,rfl,trivial⟩ (.refl _)) ?_
 · simp
 ·
  rintro k hR
  refine Ah (Qp Cj (Ag (AW.seq (A5 (fun hc1=>?_) fun hc1=>?_))))
  ·
   obtain ⟨c,hc⟩:=B4 hc1
   have hlt:=Bb hc
   have hcm:=List.mem_of_getElem? hc
   have hck:=(hlk c hcm).1
   have hcs:=Nat.le_trans (hlk c hcm).2 (by decide:64≤1048576)
   refine Bz (AW.seq (AW.block (Ah ?_)))
   refine Qp (Af (c:=[Iq _,_,Iq _,Iq _,Iq _,Iq _,Iq _,.str _,.bool _]) Ai rfl rfl rfl rfl rfl rfl (by omega) (Bj hc)) ?_
   refine Qp (Ck [Iq _,_,Iq _,Iq _,Iq _,Iq _,Iq _,.str _,.bool _]) ?_
   refine Qe (Al (l:=[.int .i64 0,.sl 8 [],.int .i64 0,.int .i64 0,.int .i64 0,.int .i64 0,.int .i64 0,.str [],.bool false]) (by kernel_rfl)) ?_
   rintro _ _ ⟨b8,rfl,rfl⟩
   refine Cn 0 [Iq _,_,Iq _,Iq _,Iq _,Iq _,Iq _,.str _,.bool _] (_::_) ?_
   refine AOL.ghost (GS.Abn (t:=8) 0 rfl rfl) ?_
   refine Df (Qp (Ck [_,_]) (Qp (Qf [Iq _,_,Iq _,Iq _,Iq _,Iq _,Iq _,.str _,.bool _]) (Qp Dy ?_)))
   refine Qp (Qc rfl (Sh T V c.cond hck hcs)) ?_
   refine Qp Gj (Ag (A5 (fun hc2=>?_) fun hc2=>?_))
   ·
    refine Ah (Qp Bg (Ag (AW.ret (Bc (Aj (Aj (Bc (Aj ?_))))))))
    refine Qr (.bool _) ?_
    exact Eq.trans rfl (congrArg AV.bool (Aag hc ((Bool.not_eq_true' _).mp hc2))).symm
   ·
    refine AW.skip (Bs (Ae (AW.region (Qp Fw (Qp A2 (Ag ?_))))))
    refine ⟨k+1,?_,?_,GS.weaken ⟨rfl,rfl,rfl,rfl,rfl,rfl,trivial⟩ (.refl _)⟩
    · exact ⟨hlt,by rw [Cr hc,List.all_append,hR.2];simpa using hc2⟩
    · omega
  ·
   have hte:=C2 hc1
   have hall:=hR.2
   rw [hte] at hall
   refine AW.exit ?_
   refine A8 (A8 (Bw (Ae (Ah (Qp (Qf [_,_,_]) (Qp Qlp ?_))))))
   refine Qp (Qc rfl (kF T V l)) ?_
   refine Qp Br (Qg [] Qw C4 ?_)
   refine AOL.Abp (y:=Iq _) _ [(25,_)] rfl (tK.all ⟨Ent.Abm _ _,trivial⟩) (fun hG=>Ak (n:=l.length) Ai rfl rfl rfl (by simp)) rfl ?_
   refine Qg [(26,_)] Qw Nu (Qp Ez (Qp Bg (Ag (AW.ret ?_))))
   refine Qr (.bool _) ?_
   exact Eq.trans rfl (congrArg AV.bool (xO hall)).symm

set_option maxHeartbeats 1600000
set_option maxRecDepth 20000

theorem qF (T:List Sc)(V:List Va)(bo:Nat)(v:Value)(l:Es)(hev:evOK T V (l.map Prod.fst))(t:Tm)(ht:tmOK T V t)(ho1:t.op=1)(s:Fq)(R:List HO):Du Tryz.prog 147 (Zh bo v l R) [.agg (Ia t),.str s,.val (.pointer (some ⟨bo,0,none⟩))] (fun r H'=>r = .tuple []∧H'=Zh bo v (l.modify t.v.toNat fun p=>(Vy p.1 t.field.toNat (fun y=>{ y with text:=s }),p.2)) R):=by
 refine Du.body (n:=16) Ai Tryz.func147 rfl rfl rfl ?_
 refine AW.ghostPost ?_
 refine Ah (Qp (Fz [Iq _,Iq _,Iq _]) (Ag ?_))
 refine (mF hev ht).elim fun e he=>he.elim fun u hu=>?_
 have hj:=hu.1
 have hel:=hu.2.1
 have hll:=hu.2.2
 have hv0:=ht.v0
 have hv1:=ht.v1
 have hfr:=ht.f ho1
 refine (oR ht ho1 hel).elim fun y hy=>?_
 have hyl:=Bb hy
 refine AW.ghost (GS.perm (lQ hj)) ?_
 refine AW.unbuf (v:=u) (es:=e.values.map cV) (E:=28) (z:=3) 0 rfl (W0 hy) fun bi capi Ji hui hcapi hcmi hJi hzi=>?_
 subst hui
 refine AW.unbuf (v:=v) (es:=l.map Cu) (E:=67) (z:=5) 1 rfl (W0 hj) fun bb cap J hub hcap hcm hJ hzo=>?_
 subst hub
 have hrow:(l.map Cu)[t.v.toNat]? = some (Cu (e,.slice (some ⟨bi,0,none⟩) (e.values.map cV).length capi)):=by rw [List.getElem?_map,hj];rfl
 refine AW.draw mixed (fun H'=>_∈H'∧_∈H') ⟨(List.mem_of_getElem? (i:=2) rfl),(List.mem_of_getElem? (i:=1) rfl)⟩ (by kernel_rfl) ?_
 refine Qn 0 rfl (OpP.Abr (fun k=>A0 (k:=k) (c:=.val _) Ai rfl rfl rfl rfl) (fun _ h=>h.1)) ?_
 refine Qn 1 rfl (Qf [Iq _,Iq _]) (Qn 2 rfl Bt ?_)
 refine Qn 3 rfl (B9 (o':=t.v.toNat*5) Ai rfl rfl rfl rfl rfl (hv0) (by rw [List.length_map];omega) (Nat.zero_add _)) ?_
 refine Qn 4 rfl Ip ?_
 refine Qn 5 rfl (OpP.Abr (fun k=>A0 (k:=k) (c:=.val (.slice (some ⟨bi,0,none⟩) (e.values.map cV).length capi)) Ai rfl rfl rfl (Xb (o:=4) (J2 l) hrow rfl)) (fun _ h=>h.2)) ?_
 refine Qn 6 rfl (Qf [Iq _]) (Qn 7 rfl Bt (Qn 8 rfl eJ ?_))
 refine Qn 9 rfl (B9 (o':=t.field.toNat*3) Ai rfl rfl rfl rfl rfl (hfr.1) (by rw [List.length_map];omega) (Nat.zero_add _)) ?_
 refine Qn 10 rfl Ip ?_
 refine Ju.last _ _ 11 _ _ rfl (by kernel_rfl) rfl rfl (C6 (k:=0) (v:=.str _) (cs':=_) (H2:=_::_::_::_) Ai rfl rfl rfl rfl rfl rfl (Ue (o:=2) (Oo _) (by rw [List.getElem?_map,hy];rfl) (by decide)) (Ry (o:=2) (e:=cV y) (x:=.str s) (Oo _) (by rw [List.getElem?_map,hy];rfl) (by decide)) rfl) (by kernel_rfl) ?_
 rintro _ _ ⟨rfl,rfl⟩
 refine ⟨_,uF hj hy (f:=fun y=>{ y with text:=s }) rfl hcap hcm hJ hcapi hcmi hJi,.inl rfl,[],.nil,_,.refl _,?_⟩
 exact ⟨rfl,rfl⟩

set_option maxHeartbeats 6400000
set_option maxRecDepth 20000

theorem d_name (T:List Sc)(V:List Va)(l:List Lit)(hlk:U6 T V l)(hll:l.length≤4096)(m:Nat)(w:Wm)(hw:Rp w)(bo:Nat)(v:Value)(l0:Es)(hev:evOK T V (l0.map Prod.fst))(R:List HO):Du Tryz.prog 146 (Zh bo v l0 (.kmap m (wE w)::R)) [.agg (Cp T V),.sl 9 (l.map G2),.val (.map (some m)),.fn (.func 147) [] [.val (.pointer (some ⟨bo,0,none⟩))]] (fun r H'=>∃l',l'.map Prod.fst=bS T V w l (l0.map Prod.fst)∧evOK T V (l'.map Prod.fst)∧r = .tuple []∧H'=Zh bo v l' (.kmap m (wE w)::R)):=by
 refine Du.perm (mI (pre:=[.kmap m (wE w)])).symm ?_
 refine Du.body (n:=126) Ai Tryz.func146 rfl rfl rfl ?_
 refine AW.ghostPost ?_
 refine Ah (Qp (Fz [_,_]) (Df ?_))
 refine Qe (Rn) ?_
 rintro _ _ ⟨b22,rfl,rfl⟩
 refine Qp N5 (Df (Qp N5 ?_))
 refine AOL.ghost (GS.row (t:=9) 214 5 rfl) ?_
 refine Ag (AW.seq (Ah (Qp C4 ?_)))
 refine Qp (Ak (n:=l.length) Ai rfl rfl rfl (by simp)) ?_
 refine Qp A2 (Ag (AW.block ?_))
 refine AW.Abo (fun (p:Nat×Um×List Wd×Value×List (List AV))=>(⟨[(2,.val (.map (some m))),(3,.fn (.func 147) [] [.val (.pointer (some ⟨bo,0,none⟩))]),(4,.ptr (Cp T V)),(8,.val (.map (some b22))),(9,.row p.2.2.2.1 5 p.2.2.2.2),(23,.sl 9 (l.map G2)),(24,.int .i64 l.length),(25,.int .i64 (p.1:Int))],.row p.2.2.2.1 p.2.2.2.2.length 214 5 :: .smap b22 (sE p.2.1) :: .kmap m (wE w)::Zh bo v l0 R,126⟩:St)) (fun (p:Nat×Um×List Wd×Value×List (List AV))=>p.1≤l.length∧Hc T V (l.take p.1)=(p.2.1,p.2.2.1)∧(∀x∈p.2.2.1,wdOK T V x)∧p.2.1.length≤2*p.1∧p.2.2.1.length≤2*p.1∧p.2.2.2.2=p.2.2.1.map Ld) (fun (p:Nat×Um×List Wd×Value×List (List AV))=>l.length-p.1) ((0,[],[],.slice none 0 0,[])) ?_ (GS.weaken ⟨rfl,rfl,rfl,rfl,rfl,rfl,rfl,rfl,trivial⟩ (.refl _)) ?_
 · exact ⟨Nat.zero_le _,rfl,fun x hx=>(by cases hx),Nat.le_refl _,Nat.le_refl _,rfl⟩
 ·
  rintro p hR
  have hE:=hR.2.2.2.2.2
  refine Ah (Qp Cj (Ag (AW.seq (A5 (fun hc1=>?_) fun hc1=>?_))))
  ·
   obtain ⟨c,hc⟩:=B4 hc1
   have hlt:=Bb hc
   have hcm:=List.mem_of_getElem? hc
   have hck:=(hlk c hcm).1
   have hcs:=Nat.le_trans (hlk c hcm).2 (by decide:64≤1048576)
   refine Bz (AW.seq (AW.block (Ah ?_)))
   refine Qp (Af (c:=[Iq _,_,Iq _,Iq _,Iq _,Iq _,Iq _,.str _,.bool _]) Ai rfl rfl rfl rfl rfl rfl (by omega) (Bj hc)) ?_
   refine Qp (Ck [Iq _,_,Iq _,Iq _,Iq _,Iq _,Iq _,.str _,.bool _]) ?_
   refine Qe (Al (l:=[.int .i64 0,.sl 8 [],.int .i64 0,.int .i64 0,.int .i64 0,.int .i64 0,.int .i64 0,.str [],.bool false]) (by kernel_rfl)) ?_
   rintro _ _ ⟨b11,rfl,rfl⟩
   refine Cn 0 [Iq _,_,Iq _,Iq _,Iq _,Iq _,Iq _,.str _,.bool _] (_::_::_::_::_::_::_) ?_
   refine AOL.ghost (GS.Abn (t:=11) 0 rfl rfl) ?_
   refine Ag (AW.seq (Ah (Qp (Ck [_,_]) (Qp (Qf [Iq _,_,Iq _,Iq _,Iq _,Iq _,Iq _,.str _,.bool _]) (Qp Dy ?_)))))
   refine Qp (Qc rfl (Ss T V c.cond hck)) ?_
   refine Qp Gj (Qp Br (Qg [] Qw (Ck [_,_]) (Qg [] Qw (Qf [Iq _,_,Iq _,Iq _,Iq _,Iq _,Iq _,.str _,.bool _]) (Qg [(36,_)] Qw Dy ?_))))
   refine AOL.Abp (y:=.bool _) _ [(35,_),(37,_)] rfl (tK.all ⟨Ent.Abm _ _,Ent.Abm _ _,trivial⟩) (fun hG=>C5 (by kernel_rfl) rfl rfl (Sh T V c.cond hck hcs)) rfl ?_
   refine Qg [(38,_)] Qw Gj (Qp E2 (Ag (A5 (fun hc2=>?_) fun hc2=>?_)))
   ·
    refine AW.exit ?_
    refine A8 (Bw (Ae (AW.region (Qp Fw (Qp A2 (Ag ?_))))))
    refine ⟨(p.1+1,p.2),?_,?_,GS.weaken ⟨rfl,rfl,rfl,rfl,rfl,rfl,rfl,rfl,trivial⟩ (.refl _)⟩
    · exact ⟨hlt,by unfold Hc;rw [Cr hc,List.foldl_append];exact (congrArg (fun z=>T1 T V z c) hR.2.1).trans (Rw hc2),hR.2.2.1,by have:=hR.2.2.2.1;simp only;omega,by have:=hR.2.2.2.2.1;simp only;omega,hE⟩
    · simp only;omega
   ·
    have h2a:=Rs hck hc2
    have hal:=h2a.1
    refine Bz (Ah (Qp (Qf [Iq _,_,Iq _,Iq _,Iq _,Iq _,Iq _,.str _,.bool _]) (Qp (Qf [_,Iq _,Iq _,Iq _,Iq _,Iq _,.str _,.bool _]) (Qp Dk ?_))))
    refine Qp (Ak (n:=c.cond.args.length) Ai rfl rfl rfl (by simp)) ?_
    refine Qp A2 (Ag (AW.block ?_))
    refine AW.Abo (fun (q:Nat×Um×List Wd×Value×List (List AV))=>(⟨[(2,.val (.map (some m))),(3,.fn (.func 147) [] [.val (.pointer (some ⟨bo,0,none⟩))]),(4,.ptr (Cp T V)),(8,.val (.map (some b22))),(9,.row q.2.2.2.1 5 q.2.2.2.2),(23,.sl 9 (l.map G2)),(24,.int .i64 l.length),(25,.int .i64 (p.1:Int)),(43,.sl 8 (c.cond.args.map Fu)),(44,.int .i64 c.cond.args.length),(45,.int .i64 (q.1:Int))],.row q.2.2.2.1 q.2.2.2.2.length 214 5 :: .smap b22 (sE q.2.1) :: .kmap m (wE w)::Zh bo v l0 R,126⟩:St)) (fun (q:Nat×Um×List Wd×Value×List (List AV))=>q.1≤c.cond.args.length∧c.cond.args.foldl Xj (p.2.1,p.2.2.1)=(c.cond.args.drop q.1).foldl Xj (q.2.1,q.2.2.1)∧(∀x∈q.2.2.1,wdOK T V x)∧q.2.1.length≤p.2.1.length+q.1∧q.2.2.1.length≤p.2.2.1.length+q.1∧q.2.2.2.2=q.2.2.1.map Ld) (fun (q:Nat×Um×List Wd×Value×List (List AV))=>c.cond.args.length-q.1) ((0,p.2)) ?_ (GS.weaken ⟨rfl,rfl,rfl,rfl,rfl,rfl,rfl,rfl,rfl,rfl,rfl,trivial⟩ (.refl _)) ?_
    · exact ⟨Nat.zero_le _,rfl,hR.2.2.1,Nat.le_refl _,Nat.le_refl _,hE⟩
    ·
     rintro q hQ
     have hb1:=hR.2.2.2.1
     have hb2:=hR.2.2.2.2.1
     have hb3:=hQ.2.2.2.1
     have hb4:=hQ.2.2.2.2.1
     have hF:=hQ.2.2.2.2.2
     have hsc:∀c∈q.2.2.2.2,Bh c=true:=by rw [hF];exact cWd_sc _
     have hql:q.2.2.2.2.length=q.2.2.1.length:=by rw [hF];simp
     refine Ah (Qp Cj (Ag (AW.seq (A5 (fun hc3=>?_) fun hc3=>?_))))
     ·
      obtain ⟨a,ha⟩:=B4 hc3
      have hlta:=Bb ha
      have ham:=List.mem_of_getElem? ha
      refine Bz (AW.seq (AW.block (Ah ?_)))
      refine Qp (Af (c:=[Iq _,_,Iq _,Iq _,Iq _,Iq _,Iq _,.str _]) Ai rfl rfl rfl rfl rfl rfl (by omega) (E9 ha)) ?_
      refine Qp Dy ?_
      refine Qe (Al (l:=[.int .i64 0,.sl 8 [],.int .i64 0,.int .i64 0,.int .i64 0,.int .i64 0,.int .i64 0,.str []]) (by kernel_rfl)) ?_
      rintro _ _ ⟨b13,rfl,rfl⟩
      refine Cn 0 [Iq _,_,Iq _,Iq _,Iq _,Iq _,Iq _,.str _] (_::_::_::_::_::_::_) ?_
      refine AOL.ghost (GS.Abn (t:=13) 0 rfl rfl) ?_
      refine Df (Qp Dy ?_)
      refine Qp (Qc rfl (Og a)) ?_
      refine Qe (Al (l:=[.bool false,.str [],.int .i64 0,.int .i64 0,.int .i64 0]) (by kernel_rfl)) ?_
      rintro _ _ ⟨b14,rfl,rfl⟩
      refine Cn 0 [.bool _,.str _,Iq _,Iq _,Iq _] (_::_::_::_::_::_::_) ?_
      refine AOL.ghost (GS.Abn (t:=14) 0 rfl rfl) ?_
      refine Df (Qp H8 (Qp (Qf [.str _,Iq _,Iq _,Iq _]) (Qp Vp (Qp H8 (Qp (Qf [.str _,Iq _,Iq _,Iq _]) (Qp Vp ?_))))))
      refine AOL.Abs (oD (i:=1) Ai rfl rfl rfl rfl rfl rfl (by kernel_rfl) rfl rfl) rfl rfl ?_
      refine Qp Br (Qg [] Qw (Qf [.bool _,.str _,Iq _,Iq _,Iq _]) (Qg [(59,_)] Qw kC (Qp E2 ?_)))
      refine Qe (xF (i:=1) (H2:=_::_::_::_::_::_) Ai rfl rfl rfl rfl rfl rfl rfl rfl rfl) ?_
      rintro _ _ ⟨rfl,rfl⟩
      refine Ag (AW.region ?_)
      refine Qp (Bk (v:=.row _ _ _) rfl) ?_
      refine Qp (Ck [.bool _,.str _,Iq _,Iq _,Iq _]) ?_
      refine Qp (A1 (es:=[[.bool _,.str _,Iq _,Iq _,Iq _]]) Ai rfl rfl rfl rfl rfl rfl rfl rfl rfl) ?_
      refine Qe (Dm (k:=0) Ai rfl rfl rfl rfl rfl rfl rfl rfl (He rfl) (hsc) (by simp;omega) (by simp [maxLen];omega)) ?_
      rintro _ _ ⟨v65,rfl,rfl⟩
      refine Qp (C1 (v:=.row _ _ _) rfl) ?_
      refine AOL.nil (Bs (Ae (AW.region (Qp Fw (Qp A2 (Ag ?_))))))
      refine ⟨(q.1+1,Tn q.2.1 (Ca a).text (Fe q.2.1 (Ca a).text||(Ca a).const),q.2.2.1 ++ [Ca a],v65,q.2.2.2.2 ++ [Ld (Ca a)]),?_,?_,GS.weaken ⟨rfl,rfl,rfl,rfl,rfl,rfl,rfl,rfl,rfl,rfl,rfl,trivial⟩ (.refl _)⟩
      · exact ⟨hlta,hQ.2.1.trans (aH ha),fun x hx=>(List.mem_append.1 hx).elim (hQ.2.2.1 x) (fun h=>by rw [List.mem_singleton.1 h];exact pA (A3 hck ham) (h2a.2 a ham)),by have:=Xk q.2.1 (Ca a).text (Fe q.2.1 (Ca a).text||(Ca a).const);simp only;omega,by simp only [List.length_append,List.length_singleton];omega,by simp only;rw [hF,List.map_append];rfl⟩
      · simp only;omega
     ·
      have hde:=Dh hc3
      have hfo:=hQ.2.1
      rw [hde] at hfo
      refine AW.exit ?_
      refine A8 (A8 (Bw (Bs (Ae (AW.region (Qp Fw (Qp A2 (Ag ?_))))))))
      refine ⟨(p.1+1,q.2),?_,?_,GS.weaken ⟨rfl,rfl,rfl,rfl,rfl,rfl,rfl,rfl,trivial⟩ (.refl _)⟩
      · exact ⟨hlt,by unfold Hc;rw [Cr hc,List.foldl_append];exact (congrArg (fun z=>T1 T V z c) hR.2.1).trans ((Mh hc2).trans hfo),hQ.2.2.1,by have:=hR.2.2.2.1;have:=hQ.2.2.2.1;have:=hQ.1;simp only;omega,by have:=hR.2.2.2.2.1;have:=hQ.2.2.2.2.1;have:=hQ.1;simp only;omega,hQ.2.2.2.2.2⟩
      · simp only;omega
  ·
   have hte:=C2 hc1
   have hcol:=hR.2.1
   rw [hte] at hcol
   have hwds:=hR.2.2.1
   have hUl:=hR.2.2.2.1
   have hAl:=hR.2.2.2.2.1
   refine AW.exit ?_
   refine A8 (A8 (Bw (Ae (Ah ?_))))
   refine Qe (Mw) ?_
   rintro _ _ ⟨b68,rfl,rfl⟩
   refine Qp N5 (Df ?_)
   refine Qp (Bk (v:=.row _ _ _) rfl) ?_
   refine Qp (L9 (n:=p.2.2.1.length) Ai rfl rfl rfl (by rw [hE];simp)) ?_
   refine Qp A2 (Ag (AW.block ?_))
   refine AW.Abo (fun (o:Nat×Um×Nm×Es)=>(⟨[(2,.val (.map (some m))),(3,.fn (.func 147) [] [.val (.pointer (some ⟨bo,0,none⟩))]),(8,.val (.map (some b22))),(15,.val (.map (some b68))),(69,.row p.2.2.2.1 5 p.2.2.2.2),(70,.int .i64 p.2.2.1.length),(71,.int .i64 (o.1:Int))],.kmap b68 (nE o.2.2.1) :: .row p.2.2.2.1 p.2.2.2.2.length 214 5 :: .smap b22 (sE o.2.1) :: .kmap m (wE w)::Zh bo v o.2.2.2 R,126⟩:St)) (fun (o:Nat×Um×Nm×Es)=>o.1≤p.2.2.1.length∧p.2.2.1.foldl (H6 w) (p.2.1,[],l0.map Prod.fst)=(p.2.2.1.drop o.1).foldl (H6 w) (o.2.1,o.2.2.1,o.2.2.2.map Prod.fst)∧evOK T V (o.2.2.2.map Prod.fst)∧o.2.1.length≤p.2.1.length+o.1) (fun (o:Nat×Um×Nm×Es)=>p.2.2.1.length-o.1) ((0,p.2.1,[],l0)) ?_ (GS.weaken ⟨rfl,rfl,rfl,rfl,rfl,rfl,rfl,trivial⟩ (.refl _)) ?_
   · exact ⟨Nat.zero_le _,rfl,hev,Nat.le_refl _⟩
   ·
    rintro o hO
    refine Ah (Qp Cj (Ag (AW.seq (A5 (fun hc4=>?_) fun hc4=>?_))))
    ·
     obtain ⟨x,hx⟩:=B4 hc4
     have hltx:=Bb hx
     have hxm:=List.mem_of_getElem? hx
     have hwx:=hwds x hxm
     have hno:=hO.2.1
     rw [aH hx] at hno
     have hevo:=hO.2.2.1
     have hUo:=hO.2.2.2
     refine Bz (AW.seq (AW.block (Ah ?_)))
     refine Qp (Kp (c:=[.bool _,.str _,Iq _,Iq _,Iq _]) Ai rfl rfl rfl rfl rfl rfl (by omega) (by rw [hE];exact Bj hx)) ?_
     refine Qp (Ck [.bool _,.str _,Iq _,Iq _,Iq _]) ?_
     refine Qe (Al (l:=[.bool false,.str [],.int .i64 0,.int .i64 0,.int .i64 0]) (by kernel_rfl)) ?_
     rintro _ _ ⟨b17,rfl,rfl⟩
     refine Cn 0 [.bool _,.str _,Iq _,Iq _,Iq _] (_::_::_::_::_::_::_::_) ?_
     refine AOL.ghost (GS.Abn (t:=17) 0 rfl rfl) ?_
     refine Df (Qp H8 (Qp (Ck [.bool _,.str _,Iq _,Iq _,Iq _]) ?_))
     refine AOL.Abs (S8 (ho:=.kmap m (wE w)) (KK:=fun H=>H[3]? = some (.kmap m (wE w))) (by kernel_rfl) rfl rfl (Sx m w hw x) (fun _ h=>List.mem_of_getElem? h)) rfl rfl ?_
     refine Qe (Al (l:=[.bool false,.str [],.int .i64 0,.int .i64 0,.int .i64 0]) (by kernel_rfl)) ?_
     rintro _ _ ⟨b18,rfl,rfl⟩
     refine Cn 0 [.bool _,.str _,Iq _,Iq _,Iq _] (_::_::_::_::_::_::_::_) ?_
     refine AOL.ghost (GS.Abn (t:=18) 0 rfl rfl) ?_
     refine Ag ?_
     refine AW.cut (fun (t:Um×Nm)=>(⟨[(2,.val (.map (some m))),(3,.fn (.func 147) [] [.val (.pointer (some ⟨bo,0,none⟩))]),(8,.val (.map (some b22))),(15,.val (.map (some b68))),(69,.row p.2.2.2.1 5 p.2.2.2.2),(70,.int .i64 p.2.2.1.length),(71,.int .i64 (o.1:Int)),(17,.ptr (Ld x)),(18,.ptr (Ld (Ce w x)))],.kmap b68 (nE t.2) :: .row p.2.2.2.1 p.2.2.2.2.length 214 5 :: .smap b22 (sE t.1) :: .kmap m (wE w)::Zh bo v o.2.2.2 R,126⟩:St)) (fun (t:Um×Nm)=>t=Z4 o.2.1 o.2.2.1 (Ce w x)) ?_ ?_
     ·
      refine Ah (Qp H8 (Qp (Ck [.bool _,.str _,Iq _,Iq _,Iq _]) ?_))
      refine AOL.Abs (P2 (i:=0) (eq:=Js (Ce w x)) Ai rfl rfl rfl rfl rfl (by kernel_rfl) rfl rfl (rfl) (aM (Ce w x) _) (look_n (Ce w x) _) (has_n (Ce w x) _)) rfl rfl ?_
      refine Qp Mt (Qp Qxt (Qp gF (Qp Qat (Qp Bg (Df (Qp Br (Qp Gj (Ag (A5 (fun hc5=>?_) fun hc5=>?_)))))))))
      ·
       have hnn:=gR hc5
       refine Ah (Qp H8 (Qp (Ck [.bool _,.str _,Iq _,Iq _,Iq _]) (Qp (Qf [.str _,Iq _,Iq _,Iq _]) (Qp Vp ?_))))
       refine Qe (Aav (i:=0) (H2:=_::_::_::_::_::_::_) Ai rfl rfl rfl rfl rfl rfl rfl rfl hnn rfl) ?_
       rintro _ _ ⟨rfl,rfl⟩
       refine Ag (AW.seq (Ah (Qp Av (Ag (AW.block ?_)))))
       refine AW.Abo (fun (z:Nat×Fq)=>(⟨[(2,.val (.map (some m))),(3,.fn (.func 147) [] [.val (.pointer (some ⟨bo,0,none⟩))]),(8,.val (.map (some b22))),(15,.val (.map (some b68))),(69,.row p.2.2.2.1 5 p.2.2.2.2),(70,.int .i64 p.2.2.1.length),(71,.int .i64 (o.1:Int)),(17,.ptr (Ld x)),(18,.ptr (Ld (Ce w x))),(21,.int .i64 (z.1:Int))],.kmap b68 (nE (o.2.2.1 ++ [((Ce w x),z.2)])) :: .row p.2.2.2.1 p.2.2.2.2.length 214 5 :: .smap b22 (sE o.2.1) :: .kmap m (wE w)::Zh bo v o.2.2.2 R,126⟩:St)) (fun (z:Nat×Fq)=>nmI o.2.1 (Ce w x) z.1 z.2) (fun (z:Nat×Fq)=>o.2.1.length+2-z.1) ((0,(Ce w x).text)) ?_ (GS.weaken ⟨rfl,rfl,rfl,rfl,rfl,rfl,rfl,rfl,rfl,rfl,trivial⟩ (.refl _)) ?_
       · exact .inl ⟨rfl,rfl⟩
       ·
        rintro z hz
        refine AW.seq (Ah (Qp (Qf [.bool _,.str _,Iq _,Iq _,Iq _]) (Qp kC (Qp Gj (Qp Br (Qg [] Qw A2 (Qg [(94,_)] Qw A7 (Qg [(95,_)] Qw Br (Qg [] Qw H8 ?_)))))))))
        refine Qg [] Qw H8 (Qg [] Qw (Ck [.bool _,.str _,Iq _,Iq _,Iq _]) ?_)
        refine AOL.gk (y:=.str _) _ [(98,_),(99,_)] rfl (tK.all ⟨Ent.Abm _ _,Ent.Abm _ _,trivial⟩) (fun hG=>Jc (i:=0) (eq:=Js (Ce w x)) Ai rfl rfl rfl rfl rfl (by kernel_rfl) rfl rfl (rfl) (aM (Ce w x) _) (eI (Tg hnn))) rfl rfl ?_
        refine AOL.gk (y:=.bool _) _ [(97,_),(100,_)] rfl (tK.all ⟨Ent.Abm _ _,Ent.Abm _ _,trivial⟩) (fun hG=>oD (i:=2) Ai rfl rfl rfl rfl rfl rfl (by kernel_rfl) rfl rfl) rfl rfl ?_
        refine Qg [(96,_),(101,_)] Qw E2 (Qp Ez (Ag (A5 (fun hc6=>?_) fun hc6=>?_)))
        ·
         have h6:=Bool.and_eq_true_iff.mp hc6
         have hrc:(Ce w x).const=false:=(Bool.not_eq_true' _).mp h6.1
         have h6b:z.1=0∨Fe o.2.1 z.2=true:=by have:=h6.2;simp at this;omega
         have hzl:=nm_len hz
         refine Bz (AW.seq (AW.block ?_))
         refine AW.draw mixed (fun _=>True) trivial (by kernel_rfl) ?_
         refine Qn 0 rfl H8 (Qn 1 rfl (Ck [.bool _,.str _,Iq _,Iq _,Iq _]) (Qn 2 rfl A2 ?_))
         refine Qn 3 rfl (Qc rfl (kItoa _ (by omega) (by omega))) ?_
         refine Qn 4 rfl (qZ rfl rfl rfl (by have h8:=Go.Lib.itoa_length_le (z.1:Int) (by omega) (by omega);simp only [List.length_append,List.length_cons,List.length_nil,maxLen];omega)) ?_
         refine Ju.eff _ _ 5 _ _ rfl (by kernel_rfl) rfl rfl (Aab (i:=0) (H2:=_::_::_::_::_::_::_) Ai rfl rfl rfl rfl rfl rfl rfl rfl hnn rfl) (fun _ _ _=>trivial) ?_
         rintro _ _ ⟨rfl,rfl⟩
         refine Ju.done _ _ (by kernel_rfl) ?_
         refine Bs (Ae (AW.region (Qp A2 (Qp Fw (Qp Av (Ag ?_))))))
         refine ⟨(z.1+1,wN z.1),?_,?_,GS.weaken ⟨rfl,rfl,rfl,rfl,rfl,rfl,rfl,rfl,rfl,rfl,trivial⟩ (.refl _)⟩
         · exact Aar hz hrc h6b
         · simp only;omega
        ·
         have hnm:=Abd hz (by simpa using hc6)
         refine AW.exit ?_
         refine A8 (A8 (Bw (Ae (AW.region (Qp H8 (Qp H8 (Qp (Ck [.bool _,.str _,Iq _,Iq _,Iq _]) ?_)))))))
         refine AOL.Abs (Jc (i:=0) (eq:=Js (Ce w x)) Ai rfl rfl rfl rfl rfl (by kernel_rfl) rfl rfl (rfl) (aM (Ce w x) _) (eI (Tg hnn))) rfl rfl ?_
         refine Qe (xF (i:=2) (H2:=_::_::_::_::_::_::_) Ai rfl rfl rfl rfl rfl rfl rfl rfl rfl) ?_
         rintro _ _ ⟨rfl,rfl⟩
         refine Ag ?_
         refine ⟨(Tn o.2.1 z.2 true,o.2.2.1 ++ [((Ce w x),z.2)]),?_,GS.weaken ⟨rfl,rfl,rfl,rfl,rfl,rfl,rfl,rfl,rfl,trivial⟩ (.refl _)⟩
         exact (by rw [cR hnn,hnm])
      ·
       refine Bz ?_
       refine ⟨(o.2.1,o.2.2.1),?_,GS.weaken ⟨rfl,rfl,rfl,rfl,rfl,rfl,rfl,rfl,rfl,trivial⟩ (.refl _)⟩
       exact (cF hc5).symm
     ·
      rintro t hT
      have hgs:Ii t.2 (Ce w x)=some (nmT o.2.1 o.2.2.1 (Ce w x)):=by rw [hT];exact eG _ _ _
      refine Ah (Qp (Qf [.bool _,.str _,Iq _,Iq _,Iq _]) (Qp kC (Qp Gj (Ag (A5 (fun hc7=>?_) fun hc7=>?_)))))
      ·
       have hxc:x.const=false:=(Bool.not_eq_true' _).mp hc7
       refine AW.draw mixed (fun H'=>_∈H') (List.mem_of_getElem? (i:=0) rfl) (by kernel_rfl) ?_
       refine Qn 0 rfl (Bk (v:=.fn _ _ _) rfl) ?_
       refine Qn 1 rfl (Qf [Iq _,Iq _,Iq _]) (Qn 2 rfl (Ck [Iq _,Iq _,Iq _]) (Qn 3 rfl H8 (Qn 4 rfl (Ck [.bool _,.str _,Iq _,Iq _,Iq _]) ?_)))
       refine Qn 5 rfl (OpP.Abr (fun k=>Jc (i:=k) (eq:=Js (Ce w x)) Ai rfl rfl rfl rfl rfl (by kernel_rfl) rfl rfl (rfl) (aM (Ce w x) _) (eI hgs)) (fun _ h=>h)) ?_
       refine Ju.last _ _ 6 _ _ rfl (by kernel_rfl) rfl rfl (Ja (by kernel_rfl) rfl rfl rfl (wS (pre:=[_,_,_,_]) (qF T V bo v o.2.2.2 hevo x.field (hwx hxc).1 (hwx hxc).2 (nmT o.2.1 o.2.2.1 (Ce w x)) _))) (by kernel_rfl) ?_
       rintro _ _ ⟨rfl,rfl⟩
       refine Bs (Ae (AW.region (Qp Fw (Qp A2 (Ag ?_)))))
       refine ⟨(o.1+1,t.1,t.2,o.2.2.2.modify x.field.v.toNat fun p=>(Vy p.1 x.field.field.toNat (fun y=>{ y with text:=nmT o.2.1 o.2.2.1 (Ce w x) }),p.2)),?_,?_,GS.weaken ⟨rfl,rfl,rfl,rfl,rfl,rfl,rfl,trivial⟩ (.refl _)⟩
       · exact ⟨hltx,hno.trans (congrArg (List.foldl (H6 w) · _) (nm_f hT hxc)),by rw [gO];exact mY hevo _ _,by have:=bX o.2.1 o.2.2.1 (Ce w x);rw [←hT] at this;simp only;omega⟩
       · simp only;omega
      ·
       have hxc:x.const=true:=(Bool.not_eq_false' _).mp hc7
       refine AW.skip (Bs (Ae (AW.region (Qp Fw (Qp A2 (Ag ?_))))))
       refine ⟨(o.1+1,t.1,t.2,o.2.2.2),?_,?_,GS.weaken ⟨rfl,rfl,rfl,rfl,rfl,rfl,rfl,trivial⟩ (.refl _)⟩
       · exact ⟨hltx,hno.trans (congrArg (List.foldl (H6 w) · _) (nm_c hT hxc)),hevo,by have:=bX o.2.1 o.2.2.1 (Ce w x);rw [←hT] at this;simp only;omega⟩
       · simp only;omega
    ·
     have hde:=Dh hc4
     have hfin:=hO.2.1
     rw [hde] at hfin
     refine AW.exit ?_
     refine A8 (A8 (Bw ?_))
     refine ⟨_,GS.trans (GS.weaken (sl':=[]) (H':=.kmap m (wE w)::Zh bo v _ R) trivial (.cons _ (.cons _ (.cons _ (.refl _))))) (GS.perm (mI (pre:=[.kmap m (wE w)]))),.inl rfl,[],.nil,_,.refl _,?_⟩
     exact ⟨o.2.2.2,(by unfold bS;rw [hcol,hfin];rfl),hO.2.2.1,rfl,rfl⟩

set_option maxHeartbeats 6400000
set_option maxRecDepth 20000

theorem vX (T:List Sc)(V:List Va)(hty:Jv T V)(hst:∀s∈T,Jn s)(hvl:V.length≤1048576)(l:List Lit)(hlk:U6 T V l)(hll:l.length≤4096)(m:Nat)(w:Wm)(hw:Rp w)(vals:List Int)(hvs:(Cg T V l).ts.length+1≤vals.length)(H:List HO):Du Tryz.prog 105 (.kmap m (wE w)::H) [.agg (Cp T V),.sl 9 (l.map G2),.agg [.ptr (sJ T V l),.sl 1 (vals.map cI),.val (.map (some m))]] (fun r H'=>r = .sl 5 ((vS T V w l vals).map Ou)∧H' = .kmap m (wE w)::H):=by
 have hgl:=(Lw hlk).len
 refine Du.body (n:=102) Ai Tryz.func105 rfl rfl rfl ?_
 refine Ah (Qp (Fz [_,_]) (Qp (Fz [_,_,_]) ?_))
 refine Qp (B2 (z:=5) rfl) ?_
 refine Df ?_
 refine Qe (Al (l:=[.val (.slice none 0 0)]) (by kernel_rfl)) ?_
 rintro _ _ ⟨b7,rfl,rfl⟩
 refine AOL.ghost (GS.buf 67 5) ?_
 refine Ag (AW.seq (Ah (Qp (Qf [_]) (Qp Dk ?_))))
 refine Qp (Ak (n:=V.length) Ai rfl rfl rfl (by simp)) ?_
 refine Qp A2 (Ag (AW.block ?_))
 refine AW.Abo (fun (p:Nat×Value×Es)=>(⟨[(1,.sl 9 (l.map G2)),(3,.ptr (Cp T V)),(5,.ptr [.ptr (sJ T V l),.sl 1 (vals.map cI),.val (.map (some m))]),(7,.val (.pointer (some ⟨b7,0,none⟩))),(16,.sl 2 (V.map Uw)),(17,.int .i64 V.length),(18,.int .i64 (p.1:Int))],.buf p.2.1 (p.2.2.map Cu) 67 5 :: .box b7 58 [.val p.2.1]::(p.2.2.map F6++(.kmap m (wE w)::H)),102⟩:St)) (fun (p:Nat×Value×Es)=>p.1≤V.length∧p.2.2.map Prod.fst=H0 T 0 (V.take p.1)) (fun (p:Nat×Value×Es)=>V.length-p.1) ((0,.slice none 0 0,[])) ?_ (GS.weaken ⟨rfl,rfl,rfl,rfl,rfl,rfl,rfl,trivial⟩ (.refl _)) ?_
 · exact ⟨Nat.zero_le _,rfl⟩
 ·
  rintro ⟨k1,v1,l1⟩ hR
  have hk1:k1≤V.length:=hR.1
  have hl1:l1.length=k1:=by have:=congrArg List.length hR.2;rw [P0,List.length_take] at this;simp at this;omega
  refine Ah (Qp Cj (Ag (AW.seq (A5 (fun hc1=>?_) fun hc1=>?_))))
  ·
   obtain ⟨va,hva⟩:=B4 hc1
   have hlt:=Bb hva
   have hvm:=List.mem_of_getElem? hva
   have hvt:=hty va hvm
   refine (pM hty hvm).elim fun sc hsc=>?_
   have hfl:=(hst sc (List.mem_of_getElem? hsc)).2.1
   refine Bz (AW.seq (AW.block (Ah (Qp A2 ?_))))
   refine Qp (Af (c:=[.str _,Iq _]) Ai rfl rfl rfl rfl rfl rfl (by omega) (Bj hva)) ?_
   refine Qp (Ck [.str _,Iq _]) ?_
   refine Qe (Al (l:=[.str [],.int .i64 0]) (by kernel_rfl)) ?_
   rintro _ _ ⟨b9,rfl,rfl⟩
   refine Qp Av (Cn 0 [.str _,Iq _] (_::_::_::_) ?_)
   refine AOL.ghost (GS.Abn (t:=9) 0 rfl rfl) ?_
   refine Df (Qp A2 (Qp (Qf [Iq _]) (Qp Bt ?_)))
   refine Qp (Od (l0:=[.int .i64 0,.int .i64 0,.int .i64 0,.int .i64 0,.val (.slice none 0 0)]) (l:=[Iq _,Iq _,Iq _,Iq _,_]) Ai rfl rfl (by kernel_rfl) rfl) ?_
   refine Qe (Al (l:=[.int .i64 0,.int .i64 0,.int .i64 0,.int .i64 0,.val (.slice none 0 0)]) (by kernel_rfl)) ?_
   rintro _ _ ⟨b10,rfl,rfl⟩
   refine Cn 0 [Iq _,Iq _,Iq _,Iq _,_] (_::_::_::_) ?_
   refine AOL.ghost (GS.buf 28 3) ?_
   refine Ag (AW.seq (Ah (Qp (Qf [_,_]) (Qp Dk (Qp (Qf [Iq _]) (Qp Bt ?_))))))
   refine Qp (Af (c:=[.str _,_]) Ai rfl rfl rfl rfl rfl rfl (hvt.1) (Bj hsc)) ?_
   refine Qp (Qf [_]) (Qp Dk ?_)
   refine Qp (Ak (n:=sc.fields.length) Ai rfl rfl rfl (by simp)) ?_
   refine Qp A2 (Ag (AW.block ?_))
   refine AW.Abo (fun (q:Nat×Value×List (List AV))=>(⟨[(1,.sl 9 (l.map G2)),(3,.ptr (Cp T V)),(5,.ptr [.ptr (sJ T V l),.sl 1 (vals.map cI),.val (.map (some m))]),(7,.val (.pointer (some ⟨b7,0,none⟩))),(8,.int .i64 (k1:Int)),(10,.val (.pointer (some ⟨b10,0,none⟩))),(16,.sl 2 (V.map Uw)),(17,.int .i64 V.length),(18,.int .i64 (k1:Int)),(33,.sl 2 (sc.fields.map cFi)),(34,.int .i64 sc.fields.length),(35,.int .i64 (q.1:Int))],.buf q.2.1 q.2.2 28 3 :: .box b10 67 [.int .i64 0,.int .i64 (k1:Int),.int .i64 va.type,.int .i64 0,.val q.2.1] :: .buf v1 (l1.map Cu) 67 5 :: .box b7 58 [.val v1]::(l1.map F6++(.kmap m (wE w)::H)),102⟩:St)) (fun (q:Nat×Value×List (List AV))=>q.1≤sc.fields.length∧q.2.2=((sc.fields.take q.1).map zV).map cV) (fun (q:Nat×Value×List (List AV))=>sc.fields.length-q.1) ((0,.slice none 0 0,[])) ?_ (GS.weaken ⟨rfl,rfl,rfl,rfl,rfl,rfl,rfl,rfl,rfl,rfl,rfl,rfl,trivial⟩ (.refl _)) ?_
   · exact ⟨Nat.zero_le _,rfl⟩
   ·
    rintro q hQ
    have hql:q.2.2.length≤q.1:=by rw [hQ.2];simp;omega
    refine Ah (Qp Cj (Ag (AW.seq (A5 (fun hc2=>?_) fun hc2=>?_))))
    ·
     obtain ⟨f,hf⟩:=B4 hc2
     have hltf:=Bb hf
     refine Bz (AW.seq (AW.block (Ah ?_)))
     refine Qp (Af (c:=[.str _,Iq _]) Ai rfl rfl rfl rfl rfl rfl (by omega) (Bj hf)) ?_
     refine Qp (Ck [.str _,Iq _]) ?_
     refine Qe (Al (l:=[.str [],.int .i64 0]) (by kernel_rfl)) ?_
     rintro _ _ ⟨b12,rfl,rfl⟩
     refine Cn 0 [.str _,Iq _] (_::_::_::_::_::_) ?_
     refine AOL.ghost (GS.Abn (t:=12) 0 rfl rfl) ?_
     refine Ag (AW.region (Qp Ip ?_))
     refine AOL.Abs (A0 (k:=1) (c:=.val _) Ai rfl rfl rfl rfl) rfl rfl ?_
     refine Qp (Qf [Iq _]) (Qp Bt (Qp (Eo [Iq _,Iq _,.str _]) ?_))
     refine Qp (A1 (es:=[[Iq _,Iq _,.str _]]) Ai rfl rfl rfl rfl rfl rfl rfl rfl rfl) ?_
     refine Qe (La.bufs (Uu (k:=0) Ai rfl rfl rfl rfl rfl rfl rfl rfl (rfl) (by simp;omega) (by simp [maxLen];omega))) ?_
     rintro _ _ ⟨⟨v45,rfl,rfl⟩,hbs45⟩
     have hu2:=hbs45 v45 _ _ _ (List.mem_of_getElem? (i:=0) rfl)
     refine Qp Ip ?_
     refine Qe (C6 (k:=1) (v:=.val _) (cs':=[Iq _,Iq _,Iq _,Iq _,_]) (H2:=_::_::_::_::_) Ai rfl rfl rfl rfl ((by simp [Dc,Bh,Nt,hu2])) rfl rfl rfl rfl) ?_
     rintro _ _ ⟨rfl,rfl⟩
     refine AOL.nil (Bs (Ae (AW.region (Qp Fw (Qp A2 (Ag ?_))))))
     refine ⟨(q.1+1,v45,q.2.2 ++ [cV (zV f)]),?_,?_,GS.weaken ⟨rfl,rfl,rfl,rfl,rfl,rfl,rfl,rfl,rfl,rfl,rfl,rfl,trivial⟩ (.refl _)⟩
     · exact ⟨hltf,by simp only;rw [Cr hf,List.map_append,List.map_append,hQ.2];rfl⟩
     · simp only;omega
    ·
     have htf:=C2 hc2
     have hE:=hQ.2
     rw [htf] at hE
     have hrows:q.2.2=(Zb T k1 va).values.map cV:=hE.trans (congrArg (List.map cV) (iF hsc).symm)
     refine AW.exit ?_
     refine A8 (A8 (Bw (Ae ?_)))
     refine AW.bufOne 0 rfl fun hu=>?_
     refine AW.region ?_
     refine AOL.Abs (A0 (k:=3) (c:=.val _) Ai rfl rfl rfl rfl) rfl rfl ?_
     refine AOL.Abs (B1 (k:=1) (l:=[Iq _,Iq _,Iq _,Iq _,_]) Ai rfl rfl rfl rfl rfl) rfl rfl ?_
     refine Qp (A1 (es:=[[Iq _,Iq _,Iq _,Iq _,_]]) Ai rfl rfl rfl rfl rfl rfl (lit1 rfl rfl (by simp [Bh,Nt,hu])) rfl rfl) ?_
     refine Qe (La.bufs (Uu (k:=2) Ai rfl rfl rfl rfl rfl rfl rfl rfl ((by simp [Bh,Nt,hu])) (by simp;omega) (by simp [maxLen];omega))) ?_
     rintro _ _ ⟨⟨v51,rfl,rfl⟩,hbs51⟩
     have hu3:=hbs51 v51 _ _ _ (List.mem_of_getElem? (i:=2) rfl)
     refine Qe (C6 (k:=3) (v:=.val _) (cs':=[_]) (H2:=_::_::_::_::_) Ai rfl rfl rfl rfl ((by simp [Dc,Bh,Nt,hu3])) rfl rfl rfl rfl) ?_
     rintro _ _ ⟨rfl,rfl⟩
     refine AOL.nil (Bs (Ae (AW.region (Qp Fw (Qp A2 (Ag ?_))))))
     refine ⟨(k1+1,v51,l1 ++ [(Zb T k1 va,q.2.1)]),?_,?_,GS.trans (GS.perm (Aaa (e:=Zb T k1 va) hrows)) (GS.weaken ⟨rfl,rfl,rfl,rfl,rfl,rfl,rfl,trivial⟩ (.cons _ (.refl _)))⟩
     · exact ⟨hlt,by simp only;rw [Cr hva,jK,List.map_append,hR.2,List.length_take,Nat.min_eq_left hk1,Nat.zero_add];rfl⟩
     · simp only;omega
  ·
   have hte:=C2 hc1
   have hbe:=hR.2
   rw [hte] at hbe
   have hvlen:l1.length=V.length:=by have:=congrArg List.length hbe;rw [P0] at this;simpa using this
   refine AW.exit ?_
   refine A8 (A8 (Bw (Ae (AW.seq (Ah (Qp (Qf [_,_,_]) (Qp Qlp ?_)))))))
   refine Qp (Gw rfl) ?_
   refine Qp (Qf [_,_]) (Qp Dk ?_)
   refine Qp (Ak (n:=(Cg T V l).ts.length) Ai rfl rfl rfl (by simp)) ?_
   refine Qp A2 (Ag (AW.block ?_))
   refine AW.Abo (fun (o:Nat×Es)=>(⟨[(1,.sl 9 (l.map G2)),(3,.ptr (Cp T V)),(5,.ptr [.ptr (sJ T V l),.sl 1 (vals.map cI),.val (.map (some m))]),(7,.val (.pointer (some ⟨b7,0,none⟩))),(57,.sl 3 ((Cg T V l).ts.map Ia)),(58,.int .i64 (Cg T V l).ts.length),(59,.int .i64 (o.1:Int))],.buf v1 (o.2.map Cu) 67 5 :: .box b7 58 [.val v1]::(o.2.map F6++(.kmap m (wE w)::H)),102⟩:St)) (fun (o:Nat×Es)=>o.1≤(Cg T V l).ts.length∧Gs vals 0 (Cg T V l).ts (H0 T 0 V)=Gs vals o.1 ((Cg T V l).ts.drop o.1) (o.2.map Prod.fst)∧evOK T V (o.2.map Prod.fst)) (fun (o:Nat×Es)=>(Cg T V l).ts.length-o.1) ((0,l1)) ?_ (GS.weaken ⟨rfl,rfl,rfl,rfl,rfl,rfl,rfl,trivial⟩ (.refl _)) ?_
   · exact ⟨Nat.zero_le _,by simp only;rw [hbe];rfl,by simp only;rw [hbe];exact mK⟩
   ·
    rintro ⟨k2,l2⟩ hO
    refine Ah (Qp Cj (Ag (AW.seq (A5 (fun hc3=>?_) fun hc3=>?_))))
    ·
     obtain ⟨t,ht⟩:=B4 hc3
     have hltt:=Bb ht
     have htm:=mH hlk t (List.mem_of_getElem? ht)
     refine Bz (AW.seq (AW.block (Ah (Qp A2 ?_))))
     refine Qp (Af (c:=[Iq _,Iq _,Iq _]) Ai rfl rfl rfl rfl rfl rfl (by omega) (Bj ht)) ?_
     refine Qp (Ck [Iq _,Iq _,Iq _]) ?_
     refine Qe (Al (l:=[.int .i64 0,.int .i64 0,.int .i64 0]) (by kernel_rfl)) ?_
     rintro _ _ ⟨b14,rfl,rfl⟩
     refine Qp Av (Cn 0 [Iq _,Iq _,Iq _] (_::_::_::_) ?_)
     refine AOL.ghost (GS.Abn (t:=14) 0 rfl rfl) ?_
     refine Df (Qp (Qf [Iq _,Iq _,Iq _]) (Qp Bt (Qp A7 (Ag (A5 (fun hc4=>?_) fun hc4=>?_)))))
     ·
      refine (mF hO.2.2 htm).elim fun e he=>he.elim fun u hu=>?_
      have hj:=hu.1
      have hel:=hu.2.1
      have hll9:l2.length=V.length:=hu.2.2
      have hv0:=htm.v0
      have hv1:=htm.v1
      refine AW.unbuf (v:=v1) (es:=l2.map Cu) (E:=67) (z:=5) 0 rfl (W0 hj) fun bb cap J hub hcap hcm hJ hzo=>?_
      subst hub
      have hrow:(l2.map Cu)[t.v.toNat]? = some (Cu (e,u)):=by rw [List.getElem?_map,hj];rfl
      refine AW.draw mixed (fun H'=>_∈H') (List.mem_of_getElem? (i:=1) rfl) (by kernel_rfl) ?_
      refine Qn 0 rfl (OpP.Abr (fun k=>A0 (k:=k) (c:=.val _) Ai rfl rfl rfl rfl) (fun _ h=>h)) ?_
      refine Qn 1 rfl (Qf [Iq _,Iq _]) (Qn 2 rfl Bt (Qn 3 rfl (Qf [_,_]) (Qn 4 rfl Dk (Qn 5 rfl A2 (Qn 6 rfl Fw ?_)))))
      refine Qn 7 rfl (Af (c:=[Iq _]) Ai rfl rfl rfl rfl rfl rfl (by omega) (nM (by omega))) ?_
      refine Qn 8 rfl Bt ?_
      refine Qn 9 rfl (B9 (o':=t.v.toNat*5) Ai rfl rfl rfl rfl rfl (hv0) (by rw [List.length_map];omega) (Nat.zero_add _)) ?_
      refine Qn 10 rfl Ip ?_
      refine Ju.last _ _ 11 _ _ rfl (by kernel_rfl) rfl rfl (C6 (k:=0) (v:=Iq _) (cs':=_) (H2:=_::_::_) Ai rfl rfl rfl rfl rfl rfl (Ue (o:=3) (J2 _) hrow (by decide)) (Ry (o:=3) (e:=Cu (e,u)) (J2 _) hrow (by decide)) rfl) (by kernel_rfl) ?_
      rintro _ _ ⟨rfl,rfl⟩
      refine Bs (Ae (AW.region (Qp Fw (Qp A2 (Ag ?_)))))
      refine ⟨(k2+1,l2.modify t.v.toNat fun p=>({ p.1 with time:=Ey vals ((k2:Int)+1) },p.2)),?_,?_,GS.trans (evTime hj hcap hcm hJ) (GS.weaken ⟨rfl,rfl,rfl,rfl,rfl,rfl,rfl,trivial⟩ (.refl _))⟩
      · exact ⟨hltt,hO.2.1.trans ((W7 ht).trans (congrArg (Gs vals (k2+1) _) (aT hc4).symm)),by simp only;rw [aT hc4];exact Wf hO.2.2 t _⟩
      · simp only;omega
     ·
      refine (mF hO.2.2 htm).elim fun e he=>he.elim fun u hu=>?_
      have hj:=hu.1
      have hel:=hu.2.1
      have hll9:l2.length=V.length:=hu.2.2
      have hv0:=htm.v0
      have hv1:=htm.v1
      have ho1:t.op=1:=htm.op.resolve_right (by simpa using hc4)
      have hfr:=htm.f ho1
      refine (oR htm ho1 hel).elim fun y hy=>?_
      have hyl:=Bb hy
      refine AW.ghost (GS.perm (lQ hj)) ?_
      refine AW.unbuf (v:=u) (es:=e.values.map cV) (E:=28) (z:=3) 0 rfl (W0 hy) fun bi capi Ji hui hcapi hcmi hJi hzi=>?_
      subst hui
      refine AW.unbuf (v:=v1) (es:=l2.map Cu) (E:=67) (z:=5) 1 rfl (W0 hj) fun bb cap J hub hcap hcm hJ hzo=>?_
      subst hub
      have hrow:(l2.map Cu)[t.v.toNat]? = some (Cu (e,.slice (some ⟨bi,0,none⟩) (e.values.map cV).length capi)):=by rw [List.getElem?_map,hj];rfl
      refine AW.draw mixed (fun H'=>_∈H'∧_∈H') ⟨(List.mem_of_getElem? (i:=2) rfl),(List.mem_of_getElem? (i:=1) rfl)⟩ (by kernel_rfl) ?_
      refine Qn 0 rfl (OpP.Abr (fun k=>A0 (k:=k) (c:=.val _) Ai rfl rfl rfl rfl) (fun _ h=>h.1)) ?_
      refine Qn 1 rfl (Qf [Iq _,Iq _]) (Qn 2 rfl Bt ?_)
      refine Qn 3 rfl (B9 (o':=t.v.toNat*5) Ai rfl rfl rfl rfl rfl (hv0) (by rw [List.length_map];omega) (Nat.zero_add _)) ?_
      refine Qn 4 rfl Ip ?_
      refine Qn 5 rfl (OpP.Abr (fun k=>A0 (k:=k) (c:=.val (.slice (some ⟨bi,0,none⟩) (e.values.map cV).length capi)) Ai rfl rfl rfl (Xb (o:=4) (J2 l2) hrow rfl)) (fun _ h=>h.2)) ?_
      refine Qn 6 rfl (Qf [Iq _]) (Qn 7 rfl Bt (Qn 8 rfl (Qf [_,_]) (Qn 9 rfl Dk (Qn 10 rfl A2 (Qn 11 rfl Fw ?_)))))
      refine Qn 12 rfl (Af (c:=[Iq _]) Ai rfl rfl rfl rfl rfl rfl (by omega) (nM (by omega))) ?_
      refine Qn 13 rfl Bt ?_
      refine Qn 14 rfl (B9 (o':=t.field.toNat*3) Ai rfl rfl rfl rfl rfl (hfr.1) (by rw [List.length_map];omega) (Nat.zero_add _)) ?_
      refine Qn 15 rfl Ip ?_
      refine Ju.last _ _ 16 _ _ rfl (by kernel_rfl) rfl rfl (C6 (k:=0) (v:=Iq _) (cs':=_) (H2:=_::_::_::_) Ai rfl rfl rfl rfl rfl rfl (Ue (o:=1) (Oo _) (by rw [List.getElem?_map,hy];rfl) (by decide)) (Ry (o:=1) (e:=cV y) (x:=.int .i64 (Ey vals ((k2:Int)+1))) (Oo _) (by rw [List.getElem?_map,hy];rfl) (by decide)) rfl) (by kernel_rfl) ?_
      rintro _ _ ⟨rfl,rfl⟩
      refine Bs (Ae (AW.region (Qp Fw (Qp A2 (Ag ?_)))))
      refine ⟨(k2+1,l2.modify t.v.toNat fun p=>(Vy p.1 t.field.toNat (fun y=>{ y with num:=Ey vals ((k2:Int)+1) }),p.2)),?_,?_,GS.trans (uF hj hy (f:=fun y=>{ y with num:=Ey vals ((k2:Int)+1) }) rfl hcap hcm hJ hcapi hcmi hJi) (GS.weaken ⟨rfl,rfl,rfl,rfl,rfl,rfl,rfl,trivial⟩ (.refl _))⟩
      · exact ⟨hltt,hO.2.1.trans ((W7 ht).trans (congrArg (Gs vals (k2+1) _) (iJ hc4).symm)),by simp only;rw [iJ hc4];exact Wf hO.2.2 t _⟩
      · simp only;omega
    ·
     have hde:=Dh hc3
     have hnum:=hO.2.1
     rw [hde] at hnum
     refine AW.exit ?_
     refine A8 (A8 (Bw (Ae (Ah (Qp (Ck [_,_]) (Qp C4 (Qp (Qf [_]) (Qp Qlv ?_))))))))
     refine Qp (Bf (l:=[]) (l':=[.val _]) rfl rfl) ?_
     refine Qe (Fp (by kernel_rfl) rfl rfl (d_name T V l hlk hll m w hw b7 v1 l2 hO.2.2 _)) ?_
     rintro _ _ ⟨l3,hl3,hev3,rfl,rfl⟩
     refine Df ?_
     refine AOL.Abs (A0 (k:=1) (c:=.val _) Ai rfl rfl rfl rfl) rfl rfl ?_
     refine Qp N5 ?_
     refine AOL.ghost (GS.freezeEvs (t:=6) rfl) ?_
     refine Ag (AW.ret ?_)
     refine ⟨.inr rfl,[.sl _ _],.cons (.tmp _ _ rfl) <| .nil,_,.cons _ (.refl _),?_⟩
     exact ⟨congrArg (fun q:List Ev=>AV.sl 5 (q.map Ou)) (hl3.trans (congrArg (bS T V w l) hnum.symm)),rfl⟩

end Go.Proofs.YtkddpedfbicbeaaGreatDoor
