/-
  Several texts in one: Y8d, Y9b, Y10, Y11, Y12. No condition.
-/
import Derived.Test.YtkddpedfbicbeaaGreatDoorK01
import Derived.Test.YtkddpedfbicbeaaGreatDoorK09
import Derived.Test.YtkddpedfbicbeaaGreatDoorK17
import Derived.KernelRfl
import Derived.Test.YtkddpedfbicbeaaGreatDoorK10
set_option linter.unusedVariables false
set_option linter.unusedSimpArgs false
namespace Go.Proofs.YtkddpedfbicbeaaGreatDoor
open Go Go.Aw
set_option maxHeartbeats 1600000
set_option maxRecDepth 20000

theorem vF (n:Nat)(bs:List Bd)(hm:∀b∈bs,-Jp≤b.most∧b.most≤Jp)(hW:(I6 (zn n bs) != 0)=false→decide ((Em (zn n bs)).2<0)=false→Np n bs=true)(hE:decide ((Em (zn n bs)).2<0)=true):Ax Tryz.prog 145 [.agg (T6 (zn n bs))] (.tuple [.bool (Ew (zn n bs)).ok,.sl 1 ((Ew (zn n bs)).values.map cI),.junk,.int .i64 (Ew (zn n bs)).err]):=by
 refine Ax.body (n:=41) Ai Tryz.func145 rfl rfl rfl fun H=>?_
 refine Ah (Qp (F5 [Iq _,_]) (Qp Bg (Qp N8 (Qp N8 (Qp Av (Ag (AW.seq (Ah (Qp (Cm [Iq _,_]) ?_)))))))))
 refine Qp (Qc rfl (pP (zn n bs))) ?_
 refine Qp Av (Dh (Qp A2 (Qp Ct (Ag (A5 (fun hc1=>?_) fun hc1=>?_)))))
 ·
  refine Ah (Qp A2 (Qp Bg ?_))
  refine Qp (B2 (z:=1) rfl) ?_
  refine Qp (B2 (z:=1) rfl) ?_
  refine Qp Av ?_
  refine AOL.ghost (GS.weaken (sl':=[(2,_),(3,_),(5,_)]) ⟨rfl,rfl,rfl,trivial⟩ (.refl _)) ?_
  refine Ag (Du ?_)
  refine ⟨.inr rfl,[.bool _,.sl _ _,.junk,Iq _],.cons (.tmp _ _ rfl) <| .cons (.tmp _ _ rfl) <| .cons (.tmp _ _ rfl) <| .cons (.tmp _ _ rfl) <| .nil,.refl _,?_⟩
  exact Eq.trans rfl (congrArg (fun q:So=>AV.tuple [.bool q.ok,.sl 1 (q.values.map cI),.junk,.int .i64 q.err]) (Wl hc1)).symm
 ·
  have hz:=nV hc1 hm
  have hn1:=hz.n1
  have hn64:=hz.n64
  have hok:=kZ hz
  have hi0:=hok.ix (Int.le_refl 0) (by omega)
  refine Bz (Ah (Qp (Cm [Iq _,_]) ?_))
  refine Qe (Fr (by kernel_rfl) rfl rfl ((pD n bs hz (fun h=>absurd (hE.symm.trans h) (by decide)) _).mono' (fun r K h=>Eq.mp (if_pos hE) h))) ?_
  rintro _ _ ⟨b18,rfl,rfl⟩
  refine Qp Mx (Qp Qxv (Qp Qxv (Qp N8 (Qp N8 (Ag (AW.seq (Ah (Qp H4 ?_))))))))
  refine Qp (qJ Ai rfl rfl rfl) ?_
  refine Ag (A5 (fun hc2=>?_) fun hc2=>?_)
  ·
   cases hc2
  ·
   refine Bz (Ah (Qp H4 ?_))
   refine Qp (Ca Ai rfl rfl rfl rfl rfl (Int.le_refl 0) (by omega) (rfl)) ?_
   refine AOL.Aa9 (A0 (k:=0) (c:=.int .i64 (E2 (Em (zn n bs)).1.sums 0)) Ai rfl rfl rfl (Wt (Int.le_refl 0) (by rw [hok.s];omega))) rfl rfl ?_
   refine Qp Av (Ag (AW.seq (Ah (Qp H4 ?_))))
   refine Qp (bG Ai rfl rfl rfl) ?_
   refine Qp A2 (Ag (AW.block ?_))
   refine AW.Aa5 (fun (p:Nat)=>(⟨[(7,.val (.slice (some ⟨b18,0,none⟩) n n)),(9,.int .i64 (E2 (Em (zn n bs)).1.sums 0)),(28,.int .i64 (n:Int)),(29,.int .i64 (p:Int))],.box b18 3 (bI (Ym (Em (zn n bs)).1.sums p))::H,41⟩:St)) (fun (p:Nat)=>p≤n) (fun (p:Nat)=>n-p) (0) ?_ (GS.weaken ⟨rfl,rfl,rfl,rfl,trivial⟩ (.refl _)) ?_
   · exact Nat.zero_le _
   ·
    rintro p hR
    refine Ah (Qp Cl (Ag (AW.seq (A5 (fun hc3=>?_) fun hc3=>?_))))
    ·
     have hlt:p<n:=by have:=of_decide_eq_true hc3;omega
     have hi1:=hok.ix (k:=(p:Int)) (by omega) (by omega)
     refine Bz (AW.seq (AW.block (Ah (Qp A2 (Qp Av (Ag (AW.region (Qp H4 (Qp A2 ?_)))))))))
     refine Qp (Ca (o':=(p:Int).toNat) Ai rfl rfl rfl rfl rfl (by omega) (by omega) (dG _)) ?_
     refine AOL.Aa9 (A0 (k:=0) (c:=.int .i64 (E2 (Em (zn n bs)).1.sums (p:Int))) Ai rfl rfl rfl ((Wt (k:=(p:Int)) (by omega) (by rw [Xs (by rw [hok.s];omega),hok.s];omega)).trans (congrArg (fun v=>some (AV.int .i64 v)) (subL_at (by rw [hok.s];exact hlt))))) rfl rfl ?_
     refine Qp A2 ?_
     refine Qp (aA rfl rfl rfl (by constructor <;> omega)) ?_
     refine Qp (Ca (o':=p) Ai rfl rfl rfl rfl rfl (by omega) (by omega) (dG _)) ?_
     refine Qe (C7 (k:=0) (v:=Iq _) (cs':=bI (Ym (Em (zn n bs)).1.sums (p+1))) (H2:=_::_) Ai rfl rfl rfl rfl rfl rfl (eJ (by rw [Xs (by rw [hok.s];omega),hok.s];exact hlt)) ((dA (by rw [Xs (by rw [hok.s];omega),hok.s];exact hlt)).trans (congrArg bI (uX (by rw [hok.s];exact hlt)))) rfl) ?_
     rintro _ _ ⟨rfl,rfl⟩
     refine AOL.nil (Bs (Ae (AW.region (Qp Fx (Qp A2 (Ag ?_))))))
     refine ⟨p+1,?_,?_,GS.weaken ⟨rfl,rfl,rfl,rfl,trivial⟩ (.refl _)⟩
     · exact hlt
     · omega
    ·
     have hkn:(Em (zn n bs)).1.sums.length≤p:=by rw [hok.s];have:=of_decide_eq_false hc3;omega
     refine AW.exit ?_
     refine A8 (A8 (Bw (Ae (Ah (Qp H4 (Qp Bg (Qp N8 (Qp N8 (Qp Av ?_)))))))))
     refine AOL.ghost (GS.freezeSl (t:=3) (z:=1) (es:=((Em (zn n bs)).1.sums.map (fun v=>v-E2 (Em (zn n bs)).1.sums 0)).map cI) 0 rfl rfl ((bI_flat _).trans (congrArg bI (rZ hkn).symm)) (by rw [List.length_map,List.length_map];exact hok.s.symm) (Nat.le_refl _) (by unfold maxLen;omega) (vT (fun _=>rfl) _) slot_is) ?_
     refine AOL.ghost (GS.weaken (sl':=[(2,_),(3,_),(5,_)]) ⟨rfl,rfl,rfl,trivial⟩ (.refl _)) ?_
     refine Ag (AW.ret ?_)
     refine ⟨.inr rfl,[.bool _,.sl _ _,.junk,Iq _],.cons (.tmp _ _ rfl) <| .cons (.tmp _ _ rfl) <| .cons (.tmp _ _ rfl) <| .cons (.tmp _ _ rfl) <| .nil,.refl _,?_⟩
     exact Eq.trans rfl (congrArg (fun q:So=>AV.tuple [.bool q.ok,.sl 1 (q.values.map cI),.junk,.int .i64 q.err]) (V5 hc1 hE)).symm
theorem yC (n:Nat)(bs:List Bd)(hm:∀b∈bs,-Jp≤b.most∧b.most≤Jp)(hW:(I6 (zn n bs) != 0)=false→decide ((Em (zn n bs)).2<0)=false→Np n bs=true)(hE:decide ((Em (zn n bs)).2<0)=false):Ax Tryz.prog 145 [.agg (T6 (zn n bs))] (.tuple [.bool (Ew (zn n bs)).ok,.sl 1 ((Ew (zn n bs)).values.map cI),.junk,.int .i64 (Ew (zn n bs)).err]):=by
 refine Ax.body (n:=41) Ai Tryz.func145 rfl rfl rfl fun H=>?_
 refine Ah (Qp (F5 [Iq _,_]) (Qp Bg ?_))
 refine Qp (B2 (z:=1) rfl) ?_
 refine Qp (B2 (z:=1) rfl) ?_
 refine Qp Av (Ag (AW.seq (Ah (Qp (Cm [Iq _,_]) ?_))))
 refine Qp (Qc rfl (pP (zn n bs))) ?_
 refine Qp Av (Dh (Qp A2 (Qp Ct (Ag (A5 (fun hc1=>?_) fun hc1=>?_)))))
 ·
  refine Ah (Qp A2 (Qp Bg ?_))
  refine Qp (B2 (z:=1) rfl) ?_
  refine Qp (B2 (z:=1) rfl) ?_
  refine Qp Av ?_
  refine AOL.ghost (GS.weaken (sl':=[(2,_),(3,_),(5,_)]) ⟨rfl,rfl,rfl,trivial⟩ (.refl _)) ?_
  refine Ag (Du ?_)
  refine ⟨.inr rfl,[.bool _,.sl _ _,.junk,Iq _],.cons (.tmp _ _ rfl) <| .cons (.tmp _ _ rfl) <| .cons (.tmp _ _ rfl) <| .cons (.tmp _ _ rfl) <| .nil,.refl _,?_⟩
  exact Eq.trans rfl (congrArg (fun q:So=>AV.tuple [.bool q.ok,.sl 1 (q.values.map cI),.junk,.int .i64 q.err]) (Wl hc1)).symm
 ·
  have hz:=nV hc1 hm
  refine Bz (Ah (Qp (Cm [Iq _,_]) ?_))
  refine Qe (Fr (by kernel_rfl) rfl rfl ((pD n bs hz (fun h=>hW hc1 h) _).mono' (fun r K h=>Eq.mp (if_neg (by rw [hE];decide)) h))) ?_
  rintro _ _ ⟨es,hne,rfl,rfl⟩
  refine Qp Mx (Qp Qxv (Qp Qxs (Qp N8 (Qp Vy (Ag (AW.seq (Ah (Qp C6 ?_))))))))
  refine Qp (sW Ai rfl hne rfl rfl) ?_
  refine Ag (A5 (fun hc2=>?_) fun hc2=>?_)
  ·
   refine Ah (Qp C6 (Qp Bg ?_))
   refine Qp (B2 (z:=1) rfl) ?_
   refine Qp Vy (Qp Av ?_)
   refine AOL.ghost (GS.weaken (sl':=[(2,_),(3,_),(5,_)]) ⟨rfl,rfl,rfl,trivial⟩ (.refl _)) ?_
   refine Ag (Du ?_)
   refine ⟨.inr rfl,[.bool _,.sl _ _,.junk,Iq _],.cons (.tmp _ _ rfl) <| .cons (.tmp _ _ rfl) <| .cons (.tmp _ _ rfl) <| .cons (.tmp _ _ rfl) <| .nil,.refl _,?_⟩
   exact Eq.trans rfl (congrArg (fun q:So=>AV.tuple [.bool q.ok,.sl 1 (q.values.map cI),.junk,.int .i64 q.err]) (dQ hc1 hE)).symm
  ·
   cases hc2
theorem f_Solve (n:Nat)(bs:List Bd)(hm:∀b∈bs,-Jp≤b.most∧b.most≤Jp)(hW:(I6 (zn n bs) != 0)=false→decide ((Em (zn n bs)).2<0)=false→Np n bs=true):Ax Tryz.prog 145 [.agg (T6 (zn n bs))] (.tuple [.bool (Ew (zn n bs)).ok,.sl 1 ((Ew (zn n bs)).values.map cI),.junk,.int .i64 (Ew (zn n bs)).err]):=by
 cases hE:decide ((Em (zn n bs)).2<0) with
 | true=>exact vF n bs hm hW hE
 | false=>exact yC n bs hm hW hE

set_option maxHeartbeats 1600000
set_option maxRecDepth 20000

theorem sL (T:List Sc)(V:List Va)(l:List Lit)(hlk:Vk T V l)(H:List HO):Dx Tryz.prog 144 H [.agg (Cq T V),.sl 9 (l.map G5)] (fun r H'=>∃m,r = .tuple [.val (.map (some m)),.bool (Ej T V l).2]∧H' = .kmap m (wE (Ej T V l).1)::H):=by
 refine Dx.body (n:=20) Ai Tryz.func144 rfl rfl rfl ?_
 refine Ah (Qp (F5 [_,_]) ?_)
 refine Qp (bC (v:=.sl _ _) (cs:=[_]) rfl rfl rfl) ?_
 refine Qp N8 (Qp Bg (Dh ?_))
 refine Qe (Nc) ?_
 rintro _ _ ⟨b9,rfl,rfl⟩
 refine Qe (Al (l:=[.val (.map none)]) (by kernel_rfl)) ?_
 rintro _ _ ⟨b6,rfl,rfl⟩
 refine Co 0 [_] (_::_::_) (Dh ?_)
 refine Qp (Bf (l:=[]) (l':=[.ptr _,.ptr _,.val _]) rfl rfl) ?_
 refine Qp (C3 (v:=.fn _ _ _) rfl) ?_
 refine Dh ?_
 refine Qp (Bl (v:=.fn _ _ _) rfl) ?_
 refine Qp (Bf (l:=[]) (l':=[.val _]) rfl rfl) ?_
 refine Qe (Jm (by kernel_rfl) rfl rfl rfl (Dx.front2 (R:=_) 1 0 rfl rfl rfl (d_eachT T V l hlk b6 b9 _))) ?_
 rintro _ _ ⟨rfl,rfl⟩
 refine Qp Bg (Ag (AW.seq ?_))
 refine AW.draw mixed (fun H'=>_∈H') (List.mem_of_getElem? (i:=0) rfl) (by kernel_rfl) ?_
 refine Qn 0 rfl (OpP.Aa8 (fun k=>A0 (k:=k) (c:=.val _) Ai rfl rfl rfl rfl) (fun _ h=>h)) ?_
 refine Qn 1 rfl Br (Qn 2 rfl Br ?_)
 refine Jx.pure _ _ 3 _ _ rfl (by kernel_rfl) (by kernel_rfl) rfl (.opt _ (.fn _ _ _) [] rfl (sF.all trivial) (fun hG=>Bl (v:=.fn _ _ _) rfl) rfl) ?_
 refine Jx.effg _ _ 4 _ _ [(17,_)] _ _ rfl (by kernel_rfl) rfl rfl (sF.all ⟨Ent.Aa3 _ _,trivial⟩) (fun hG=>Jm (by kernel_rfl) rfl rfl rfl (Dx.front2 (R:=_) 1 0 rfl rfl rfl (Aac T V l hlk b6 b9 (Jb T V l []).1 (cL l [] V9) _))) (fun hG=>rfl) (List.mem_of_getElem? (i:=0) rfl) ?_
 refine Qn 5 rfl E3 (Qn 6 rfl N8 (Qn 7 rfl Bg ?_))
 refine Jx.done _ _ (by kernel_rfl) ?_
 refine Ae (AW.ret ?_)
 refine ⟨.inr rfl,[.val _,.bool _],.cons (.tmp _ _ rfl) <| .cons (.tmp _ _ rfl) <| .nil,_,.cons _ (.refl _),?_⟩
 exact ⟨b9,rfl,rfl⟩
theorem uM (T:List Sc)(V:List Va)(l:List Lit)(hlk:Vk T V l)(hs:SOLV T V l):Ax Tryz.prog 145 [.agg (T6 (C9 T V l))] (.tuple [.bool (Ew (C9 T V l)).ok,.sl 1 ((Ew (C9 T V l)).values.map cI),.junk,.int .i64 (Ew (C9 T V l)).err]):=
 f_Solve (zN T V l) (C9 T V l).bs (Px hlk) hs
theorem Aa0 (T:List Sc)(V:List Va)(l:List Lit)(hlk:Vk T V l)(hll:l.length≤4096)(hs:SOLV T V l)(H:List HO):Dx Tryz.prog 103 H [.agg (Cq T V),.sl 9 (l.map G5)] (fun r H'=>∃m mo,(Ja (C9 T V l)=true→mo=some m)∧r = .tuple [.agg [.ptr (tE T V l),.sl 1 ((Ln T V l).map cI),.val (.map mo)],.bool (Qq T V l)]∧H' = .kmap m (wE (Ej T V l).1)::H):=by
 refine Dx.body (n:=45) Ai Tryz.func103 rfl rfl rfl ?_
 refine Ah (Qp (F5 [_,_]) ?_)
 refine Qe (Al (l:=[.val (.pointer none),.sl 1 [],.val (.map none)]) (by kernel_rfl)) ?_
 rintro _ _ ⟨b4,rfl,rfl⟩
 refine Qp Bg (Dh (Qp (Cm [_,_]) (Qp C6 ?_)))
 refine Qp (Qc rfl (fH T V l hll hlk)) ?_
 refine Qp Qap (Dh (Qp (Cm [_,_]) (Qp C6 ?_)))
 refine Qe (Fr (by kernel_rfl) rfl rfl (sL T V l hlk _)) ?_
 rintro _ _ ⟨m,rfl,rfl⟩
 refine Qp Mx (Qp Qxv (Qp kA (Qp N8 (Qp Bg (Ag (AW.seq (Ah (Qp zQ ?_))))))))
 refine Qp (Qc rfl (lX T V l)) ?_
 refine Qp Gt (Ag (A5 (fun hc1=>?_) fun hc1=>?_))
 ·
  refine Ah (Qp zQ (Qp (Et [_,_,_]) (Co 1 [_,_,_] (_::_::_) (Qp Bg (Ag (Du ?_))))))
  refine ⟨.inr rfl,[.agg [_,_,_],.bool _],.cons (.box _ _ _ 1 _ _ _ _ rfl rfl rfl rfl rfl rfl) <| .cons (.tmp _ _ rfl) <| .nil,_,.cons_cons _ (.cons _ (.refl _)),?_⟩
  exact ⟨m,_,fun h=>absurd ((Bool.not_eq_true' _).mp hc1) (by rw [h];decide),Eq.trans rfl (congrArg (fun q:List Int×Bool=>AV.tuple [.agg [.ptr (tE T V l),.sl 1 (q.1.map cI),.val (.map none)],.bool q.2]) (Prod.ext (solV_1 hc1) (uJ hc1):(Ln T V l,Qq T V l)=([],true))).symm,rfl⟩
 ·
  refine Bz (Ah (Qp zQ ?_))
  refine Qp (G2 rfl) ?_
  refine Qp (Qf [Iq _,_,_,_]) (Qp (Cm [Iq _,_]) ?_)
  refine Qp (Qc rfl (uM T V l hlk hs)) ?_
  refine Qp Mx (Qp kA (Qp Qxs ?_))
  refine Qp (Cd (v:=.junk) rfl rfl) ?_
  refine Qp Jq (Qp Bg (Qp Vy ?_))
  refine Qp (C3 (v:=.junk) rfl) ?_
  refine Qp Av (Dh (Qp zQ (Qp C6 (Qp H4 (Qp (Et [_,_,_]) (Qp Br (Qp Br (Qg [] Qw Br (Qp E3 ?_)))))))))
  refine Co 1 [_,_,_] (_::_::_) (Qp Bg (Ag (AW.ret ?_)))
  refine ⟨.inr rfl,[.agg [_,_,_],.bool _],.cons (.box _ _ _ 1 _ _ _ _ rfl rfl rfl rfl rfl rfl) <| .cons (.tmp _ _ rfl) <| .nil,_,.cons_cons _ (.cons _ (.refl _)),?_⟩
  exact ⟨m,_,fun _=>rfl,Eq.trans rfl (congrArg (fun q:List Int×Bool=>AV.tuple [.agg [.ptr (tE T V l),.sl 1 (q.1.map cI),.val (.map (some m))],.bool q.2]) (Prod.ext (lJ hc1) (bR hc1):(Ln T V l,Qq T V l)=(_,_))).symm,rfl⟩
theorem rG (T:List Sc)(V:List Va)(l:List Lit)(hlk:Vk T V l)(hll:l.length≤1048576)(v:List Int)(mo:Option Nat):Ax Tryz.prog 104 [.agg (Cq T V),.sl 9 (l.map G5),.agg [.ptr (tE T V l),.sl 1 (v.map cI),.val (.map mo)]] (.bool (Lw T V l)):=by
 refine Ax.body (n:=29) Ai Tryz.func104 rfl rfl rfl fun H=>?_
 refine Ah (Qp (F5 [_,_]) (Qp (F5 [_,_,_]) (Qp Bg (Ag (AW.seq (Ah (Qp C6 ?_)))))))
 refine Qp (Ak (n:=l.length) Ai rfl rfl rfl (by simp)) ?_
 refine Qp A2 (Ag (AW.block ?_))
 refine AW.Aa5 (fun (k:Nat)=>(⟨[(1,.sl 9 (l.map G5)),(3,.ptr (Cq T V)),(5,.ptr [.ptr (tE T V l),.sl 1 (v.map cI),.val (.map mo)]),(9,.sl 9 (l.map G5)),(10,.int .i64 l.length),(11,.int .i64 (k:Int))],H,29⟩:St)) (fun (k:Nat)=>k≤l.length∧(l.take k).all (fun c=>B7 T V c.cond)=true) (fun (k:Nat)=>l.length-k) (0) ?_ (GS.weaken ⟨rfl,rfl,rfl,rfl,rfl,rfl,trivial⟩ (.refl _)) ?_
 · simp
 ·
  rintro k hR
  refine Ah (Qp Cl (Ag (AW.seq (A5 (fun hc1=>?_) fun hc1=>?_))))
  ·
   obtain ⟨c,hc⟩:=B4 hc1
   have hlt:=Bb hc
   have hcm:=List.mem_of_getElem? hc
   have hck:=(hlk c hcm).1
   have hcs:=Nat.le_trans (hlk c hcm).2 (by decide:64≤1048576)
   refine Bz (AW.seq (AW.block (Ah ?_)))
   refine Qp (Af (c:=[Iq _,_,Iq _,Iq _,Iq _,Iq _,Iq _,.str _,.bool _]) Ai rfl rfl rfl rfl rfl rfl (by omega) (Bj hc)) ?_
   refine Qp (Cm [Iq _,_,Iq _,Iq _,Iq _,Iq _,Iq _,.str _,.bool _]) ?_
   refine Qe (Al (l:=[.int .i64 0,.sl 8 [],.int .i64 0,.int .i64 0,.int .i64 0,.int .i64 0,.int .i64 0,.str [],.bool false]) (by kernel_rfl)) ?_
   rintro _ _ ⟨b8,rfl,rfl⟩
   refine Co 0 [Iq _,_,Iq _,Iq _,Iq _,Iq _,Iq _,.str _,.bool _] (_::_) ?_
   refine AOL.ghost (GS.Aa4 (t:=8) 0 rfl rfl) ?_
   refine Dh (Qp (Cm [_,_]) (Qp (Qf [Iq _,_,Iq _,Iq _,Iq _,Iq _,Iq _,.str _,.bool _]) (Qp D1 ?_)))
   refine Qp (Qc rfl (Sx T V c.cond hck hcs)) ?_
   refine Qp Gt (Ag (A5 (fun hc2=>?_) fun hc2=>?_))
   ·
    refine Ah (Qp Bg (Ag (AW.ret (Bc (Aj (Aj (Bc (Aj ?_))))))))
    refine Qr (.bool _) ?_
    exact Eq.trans rfl (congrArg AV.bool (cert_no hc ((Bool.not_eq_true' _).mp hc2))).symm
   ·
    refine AW.skip (Bs (Ae (AW.region (Qp Fx (Qp A2 (Ag ?_))))))
    refine ⟨k+1,?_,?_,GS.weaken ⟨rfl,rfl,rfl,rfl,rfl,rfl,trivial⟩ (.refl _)⟩
    · exact ⟨hlt,by rw [Cu hc,List.all_append,hR.2];simpa using hc2⟩
    · omega
  ·
   have hte:=C5 hc1
   have hall:=hR.2
   rw [hte] at hall
   refine AW.exit ?_
   refine A8 (A8 (Bw (Ae (Ah (Qp (Qf [_,_,_]) (Qp Qlp ?_))))))
   refine Qp (Qc rfl (lX T V l)) ?_
   refine Qp Br (Qg [] Qw C6 ?_)
   refine AOL.Aa6 (y:=Iq _) _ [(25,_)] rfl (sF.all ⟨Ent.Aa3 _ _,trivial⟩) (fun hG=>Ak (n:=l.length) Ai rfl rfl rfl (by simp)) rfl ?_
   refine Qg [(26,_)] Qw Ng (Qp E3 (Qp Bg (Ag (AW.ret ?_))))
   refine Qr (.bool _) ?_
   exact Eq.trans rfl (congrArg AV.bool (xM hall)).symm

set_option maxHeartbeats 1600000
set_option maxRecDepth 20000

theorem tH (T:List Sc)(V:List Va)(bo:Nat)(v:Value)(l:Es)(hev:evOK T V (l.map Prod.fst))(t:Tm)(ht:tmOK T V t)(ho1:t.op=1)(s:Ft)(R:List HO):Dx Tryz.prog 147 (Zg bo v l R) [.agg (Ib t),.str s,.val (.pointer (some ⟨bo,0,none⟩))] (fun r H'=>r = .tuple []∧H'=Zg bo v (l.modify t.v.toNat fun p=>(Wb p.1 t.field.toNat (fun y=>{ y with text:=s }),p.2)) R):=by
 refine Dx.body (n:=16) Ai Tryz.func147 rfl rfl rfl ?_
 refine AW.ghostPost ?_
 refine Ah (Qp (F5 [Iq _,Iq _,Iq _]) (Ag ?_))
 refine (kG hev ht).elim fun e he=>he.elim fun u hu=>?_
 have hj:=hu.1
 have hel:=hu.2.1
 have hll:=hu.2.2
 have hv0:=ht.v0
 have hv1:=ht.v1
 have hfr:=ht.f ho1
 refine (pX ht ho1 hel).elim fun y hy=>?_
 have hyl:=Bb hy
 refine AW.ghost (GS.perm (lM hj)) ?_
 refine AW.unbuf (v:=u) (es:=e.values.map cV) (E:=28) (z:=3) 0 rfl (X8 hy) fun bi capi Ji hui hcapi hcmi hJi hzi=>?_
 subst hui
 refine AW.unbuf (v:=v) (es:=l.map Cx) (E:=67) (z:=5) 1 rfl (X8 hj) fun bb cap J hub hcap hcm hJ hzo=>?_
 subst hub
 have hrow:(l.map Cx)[t.v.toNat]? = some (Cx (e,.slice (some ⟨bi,0,none⟩) (e.values.map cV).length capi)):=by rw [List.getElem?_map,hj];rfl
 refine AW.draw mixed (fun H'=>_∈H'∧_∈H') ⟨(List.mem_of_getElem? (i:=2) rfl),(List.mem_of_getElem? (i:=1) rfl)⟩ (by kernel_rfl) ?_
 refine Qn 0 rfl (OpP.Aa8 (fun k=>A0 (k:=k) (c:=.val _) Ai rfl rfl rfl rfl) (fun _ h=>h.1)) ?_
 refine Qn 1 rfl (Qf [Iq _,Iq _]) (Qn 2 rfl Bt ?_)
 refine Qn 3 rfl (Ca (o':=t.v.toNat*5) Ai rfl rfl rfl rfl rfl (hv0) (by rw [List.length_map];omega) (Nat.zero_add _)) ?_
 refine Qn 4 rfl Ir ?_
 refine Qn 5 rfl (OpP.Aa8 (fun k=>A0 (k:=k) (c:=.val (.slice (some ⟨bi,0,none⟩) (e.values.map cV).length capi)) Ai rfl rfl rfl (Yx (o:=4) (J1 l) hrow rfl)) (fun _ h=>h.2)) ?_
 refine Qn 6 rfl (Qf [Iq _]) (Qn 7 rfl Bt (Qn 8 rfl eM ?_))
 refine Qn 9 rfl (Ca (o':=t.field.toNat*3) Ai rfl rfl rfl rfl rfl (hfr.1) (by rw [List.length_map];omega) (Nat.zero_add _)) ?_
 refine Qn 10 rfl Ir ?_
 refine Jx.last _ _ 11 _ _ rfl (by kernel_rfl) rfl rfl (C7 (k:=0) (v:=.str _) (cs':=_) (H2:=_::_::_::_) Ai rfl rfl rfl rfl rfl rfl (Tu (o:=2) (Ov _) (by rw [List.getElem?_map,hy];rfl) (by decide)) (Sa (o:=2) (e:=cV y) (x:=.str s) (Ov _) (by rw [List.getElem?_map,hy];rfl) (by decide)) rfl) (by kernel_rfl) ?_
 rintro _ _ ⟨rfl,rfl⟩
 refine ⟨_,uU hj hy (f:=fun y=>{ y with text:=s }) rfl hcap hcm hJ hcapi hcmi hJi,.inl rfl,[],.nil,_,.refl _,?_⟩
 exact ⟨rfl,rfl⟩

set_option maxHeartbeats 6400000
set_option maxRecDepth 20000

theorem d_name (T:List Sc)(V:List Va)(l:List Lit)(hlk:Vk T V l)(hll:l.length≤4096)(m:Nat)(w:Wm)(hw:Rv w)(bo:Nat)(v:Value)(l0:Es)(hev:evOK T V (l0.map Prod.fst))(R:List HO):Dx Tryz.prog 146 (Zg bo v l0 (.kmap m (wE w)::R)) [.agg (Cq T V),.sl 9 (l.map G5),.val (.map (some m)),.fn (.func 147) [] [.val (.pointer (some ⟨bo,0,none⟩))]] (fun r H'=>∃l',l'.map Prod.fst=eI T V w l (l0.map Prod.fst)∧evOK T V (l'.map Prod.fst)∧r = .tuple []∧H'=Zg bo v l' (.kmap m (wE w)::R)):=by
 refine Dx.perm (kI (pre:=[.kmap m (wE w)])).symm ?_
 refine Dx.body (n:=126) Ai Tryz.func146 rfl rfl rfl ?_
 refine AW.ghostPost ?_
 refine Ah (Qp (F5 [_,_]) (Dh ?_))
 refine Qe (Rn) ?_
 rintro _ _ ⟨b22,rfl,rfl⟩
 refine Qp N8 (Dh (Qp N8 ?_))
 refine AOL.ghost (GS.row (t:=9) 214 5 rfl) ?_
 refine Ag (AW.seq (Ah (Qp C6 ?_)))
 refine Qp (Ak (n:=l.length) Ai rfl rfl rfl (by simp)) ?_
 refine Qp A2 (Ag (AW.block ?_))
 refine AW.Aa5 (fun (p:Nat×Um×List Wd×Value×List (List AV))=>(⟨[(2,.val (.map (some m))),(3,.fn (.func 147) [] [.val (.pointer (some ⟨bo,0,none⟩))]),(4,.ptr (Cq T V)),(8,.val (.map (some b22))),(9,.row p.2.2.2.1 5 p.2.2.2.2),(23,.sl 9 (l.map G5)),(24,.int .i64 l.length),(25,.int .i64 (p.1:Int))],.row p.2.2.2.1 p.2.2.2.2.length 214 5 :: .smap b22 (sE p.2.1) :: .kmap m (wE w)::Zg bo v l0 R,126⟩:St)) (fun (p:Nat×Um×List Wd×Value×List (List AV))=>p.1≤l.length∧Hh T V (l.take p.1)=(p.2.1,p.2.2.1)∧(∀x∈p.2.2.1,wdOK T V x)∧p.2.1.length≤2*p.1∧p.2.2.1.length≤2*p.1∧p.2.2.2.2=p.2.2.1.map Ld) (fun (p:Nat×Um×List Wd×Value×List (List AV))=>l.length-p.1) ((0,[],[],.slice none 0 0,[])) ?_ (GS.weaken ⟨rfl,rfl,rfl,rfl,rfl,rfl,rfl,rfl,trivial⟩ (.refl _)) ?_
 · exact ⟨Nat.zero_le _,rfl,fun x hx=>(by cases hx),Nat.le_refl _,Nat.le_refl _,rfl⟩
 ·
  rintro p hR
  have hE:=hR.2.2.2.2.2
  refine Ah (Qp Cl (Ag (AW.seq (A5 (fun hc1=>?_) fun hc1=>?_))))
  ·
   obtain ⟨c,hc⟩:=B4 hc1
   have hlt:=Bb hc
   have hcm:=List.mem_of_getElem? hc
   have hck:=(hlk c hcm).1
   have hcs:=Nat.le_trans (hlk c hcm).2 (by decide:64≤1048576)
   refine Bz (AW.seq (AW.block (Ah ?_)))
   refine Qp (Af (c:=[Iq _,_,Iq _,Iq _,Iq _,Iq _,Iq _,.str _,.bool _]) Ai rfl rfl rfl rfl rfl rfl (by omega) (Bj hc)) ?_
   refine Qp (Cm [Iq _,_,Iq _,Iq _,Iq _,Iq _,Iq _,.str _,.bool _]) ?_
   refine Qe (Al (l:=[.int .i64 0,.sl 8 [],.int .i64 0,.int .i64 0,.int .i64 0,.int .i64 0,.int .i64 0,.str [],.bool false]) (by kernel_rfl)) ?_
   rintro _ _ ⟨b11,rfl,rfl⟩
   refine Co 0 [Iq _,_,Iq _,Iq _,Iq _,Iq _,Iq _,.str _,.bool _] (_::_::_::_::_::_::_) ?_
   refine AOL.ghost (GS.Aa4 (t:=11) 0 rfl rfl) ?_
   refine Ag (AW.seq (Ah (Qp (Cm [_,_]) (Qp (Qf [Iq _,_,Iq _,Iq _,Iq _,Iq _,Iq _,.str _,.bool _]) (Qp D1 ?_)))))
   refine Qp (Qc rfl (R3 T V c.cond hck)) ?_
   refine Qp Gt (Qp Br (Qg [] Qw (Cm [_,_]) (Qg [] Qw (Qf [Iq _,_,Iq _,Iq _,Iq _,Iq _,Iq _,.str _,.bool _]) (Qg [(36,_)] Qw D1 ?_))))
   refine AOL.Aa6 (y:=.bool _) _ [(35,_),(37,_)] rfl (sF.all ⟨Ent.Aa3 _ _,Ent.Aa3 _ _,trivial⟩) (fun hG=>C8 (by kernel_rfl) rfl rfl (Sx T V c.cond hck hcs)) rfl ?_
   refine Qg [(38,_)] Qw Gt (Qp E5 (Ag (A5 (fun hc2=>?_) fun hc2=>?_)))
   ·
    refine AW.exit ?_
    refine A8 (Bw (Ae (AW.region (Qp Fx (Qp A2 (Ag ?_))))))
    refine ⟨(p.1+1,p.2),?_,?_,GS.weaken ⟨rfl,rfl,rfl,rfl,rfl,rfl,rfl,rfl,trivial⟩ (.refl _)⟩
    · exact ⟨hlt,by unfold Hh;rw [Cu hc,List.foldl_append];exact (congrArg (fun z=>Un T V z c) hR.2.1).trans (Tc hc2),hR.2.2.1,by have:=hR.2.2.2.1;simp only;omega,by have:=hR.2.2.2.2.1;simp only;omega,hE⟩
    · simp only;omega
   ·
    have h2a:=Te hck hc2
    have hal:=h2a.1
    refine Bz (Ah (Qp (Qf [Iq _,_,Iq _,Iq _,Iq _,Iq _,Iq _,.str _,.bool _]) (Qp (Qf [_,Iq _,Iq _,Iq _,Iq _,Iq _,.str _,.bool _]) (Qp Dm ?_))))
    refine Qp (Ak (n:=c.cond.args.length) Ai rfl rfl rfl (by simp)) ?_
    refine Qp A2 (Ag (AW.block ?_))
    refine AW.Aa5 (fun (q:Nat×Um×List Wd×Value×List (List AV))=>(⟨[(2,.val (.map (some m))),(3,.fn (.func 147) [] [.val (.pointer (some ⟨bo,0,none⟩))]),(4,.ptr (Cq T V)),(8,.val (.map (some b22))),(9,.row q.2.2.2.1 5 q.2.2.2.2),(23,.sl 9 (l.map G5)),(24,.int .i64 l.length),(25,.int .i64 (p.1:Int)),(43,.sl 8 (c.cond.args.map Fv)),(44,.int .i64 c.cond.args.length),(45,.int .i64 (q.1:Int))],.row q.2.2.2.1 q.2.2.2.2.length 214 5 :: .smap b22 (sE q.2.1) :: .kmap m (wE w)::Zg bo v l0 R,126⟩:St)) (fun (q:Nat×Um×List Wd×Value×List (List AV))=>q.1≤c.cond.args.length∧c.cond.args.foldl Yi (p.2.1,p.2.2.1)=(c.cond.args.drop q.1).foldl Yi (q.2.1,q.2.2.1)∧(∀x∈q.2.2.1,wdOK T V x)∧q.2.1.length≤p.2.1.length+q.1∧q.2.2.1.length≤p.2.2.1.length+q.1∧q.2.2.2.2=q.2.2.1.map Ld) (fun (q:Nat×Um×List Wd×Value×List (List AV))=>c.cond.args.length-q.1) ((0,p.2)) ?_ (GS.weaken ⟨rfl,rfl,rfl,rfl,rfl,rfl,rfl,rfl,rfl,rfl,rfl,trivial⟩ (.refl _)) ?_
    · exact ⟨Nat.zero_le _,rfl,hR.2.2.1,Nat.le_refl _,Nat.le_refl _,hE⟩
    ·
     rintro q hQ
     have hb1:=hR.2.2.2.1
     have hb2:=hR.2.2.2.2.1
     have hb3:=hQ.2.2.2.1
     have hb4:=hQ.2.2.2.2.1
     have hF:=hQ.2.2.2.2.2
     have hsc:∀c∈q.2.2.2.2,Bh c=true:=by rw [hF];exact cWd_sc _
     have hql:q.2.2.2.2.length=q.2.2.1.length:=by rw [hF];simp
     refine Ah (Qp Cl (Ag (AW.seq (A5 (fun hc3=>?_) fun hc3=>?_))))
     ·
      obtain ⟨a,ha⟩:=B4 hc3
      have hlta:=Bb ha
      have ham:=List.mem_of_getElem? ha
      refine Bz (AW.seq (AW.block (Ah ?_)))
      refine Qp (Af (c:=[Iq _,_,Iq _,Iq _,Iq _,Iq _,Iq _,.str _]) Ai rfl rfl rfl rfl rfl rfl (by omega) (Fb ha)) ?_
      refine Qp D1 ?_
      refine Qe (Al (l:=[.int .i64 0,.sl 8 [],.int .i64 0,.int .i64 0,.int .i64 0,.int .i64 0,.int .i64 0,.str []]) (by kernel_rfl)) ?_
      rintro _ _ ⟨b13,rfl,rfl⟩
      refine Co 0 [Iq _,_,Iq _,Iq _,Iq _,Iq _,Iq _,.str _] (_::_::_::_::_::_::_) ?_
      refine AOL.ghost (GS.Aa4 (t:=13) 0 rfl rfl) ?_
      refine Dh (Qp D1 ?_)
      refine Qp (Qc rfl (Or a)) ?_
      refine Qe (Al (l:=[.bool false,.str [],.int .i64 0,.int .i64 0,.int .i64 0]) (by kernel_rfl)) ?_
      rintro _ _ ⟨b14,rfl,rfl⟩
      refine Co 0 [.bool _,.str _,Iq _,Iq _,Iq _] (_::_::_::_::_::_::_) ?_
      refine AOL.ghost (GS.Aa4 (t:=14) 0 rfl rfl) ?_
      refine Dh (Qp H4 (Qp (Qf [.str _,Iq _,Iq _,Iq _]) (Qp Vu (Qp H4 (Qp (Qf [.str _,Iq _,Iq _,Iq _]) (Qp Vu ?_))))))
      refine AOL.Aa9 (oF (i:=1) Ai rfl rfl rfl rfl rfl rfl (by kernel_rfl) rfl rfl) rfl rfl ?_
      refine Qp Br (Qg [] Qw (Qf [.bool _,.str _,Iq _,Iq _,Iq _]) (Qg [(59,_)] Qw kE (Qp E5 ?_)))
      refine Qe (yB (i:=1) (H2:=_::_::_::_::_::_) Ai rfl rfl rfl rfl rfl rfl rfl rfl rfl) ?_
      rintro _ _ ⟨rfl,rfl⟩
      refine Ag (AW.region ?_)
      refine Qp (Bl (v:=.row _ _ _) rfl) ?_
      refine Qp (Cm [.bool _,.str _,Iq _,Iq _,Iq _]) ?_
      refine Qp (A1 (es:=[[.bool _,.str _,Iq _,Iq _,Iq _]]) Ai rfl rfl rfl rfl rfl rfl rfl rfl rfl) ?_
      refine Qe (Dn (k:=0) Ai rfl rfl rfl rfl rfl rfl rfl rfl (Hg rfl) (hsc) (by simp;omega) (by simp [maxLen];omega)) ?_
      rintro _ _ ⟨v65,rfl,rfl⟩
      refine Qp (C3 (v:=.row _ _ _) rfl) ?_
      refine AOL.nil (Bs (Ae (AW.region (Qp Fx (Qp A2 (Ag ?_))))))
      refine ⟨(q.1+1,Uc q.2.1 (Cb a).text (Ff q.2.1 (Cb a).text||(Cb a).const),q.2.2.1 ++ [Cb a],v65,q.2.2.2.2 ++ [Ld (Cb a)]),?_,?_,GS.weaken ⟨rfl,rfl,rfl,rfl,rfl,rfl,rfl,rfl,rfl,rfl,rfl,trivial⟩ (.refl _)⟩
      · exact ⟨hlta,hQ.2.1.trans (Z6 ha),fun x hx=>(List.mem_append.1 hx).elim (hQ.2.2.1 x) (fun h=>by rw [List.mem_singleton.1 h];exact nK (A3 hck ham) (h2a.2 a ham)),by have:=Xq q.2.1 (Cb a).text (Ff q.2.1 (Cb a).text||(Cb a).const);simp only;omega,by simp only [List.length_append,List.length_singleton];omega,by simp only;rw [hF,List.map_append];rfl⟩
      · simp only;omega
     ·
      have hde:=Di hc3
      have hfo:=hQ.2.1
      rw [hde] at hfo
      refine AW.exit ?_
      refine A8 (A8 (Bw (Bs (Ae (AW.region (Qp Fx (Qp A2 (Ag ?_))))))))
      refine ⟨(p.1+1,q.2),?_,?_,GS.weaken ⟨rfl,rfl,rfl,rfl,rfl,rfl,rfl,rfl,trivial⟩ (.refl _)⟩
      · exact ⟨hlt,by unfold Hh;rw [Cu hc,List.foldl_append];exact (congrArg (fun z=>Un T V z c) hR.2.1).trans ((Mh hc2).trans hfo),hQ.2.2.1,by have:=hR.2.2.2.1;have:=hQ.2.2.2.1;have:=hQ.1;simp only;omega,by have:=hR.2.2.2.2.1;have:=hQ.2.2.2.2.1;have:=hQ.1;simp only;omega,hQ.2.2.2.2.2⟩
      · simp only;omega
  ·
   have hte:=C5 hc1
   have hcol:=hR.2.1
   rw [hte] at hcol
   have hwds:=hR.2.2.1
   have hUl:=hR.2.2.2.1
   have hAl:=hR.2.2.2.2.1
   refine AW.exit ?_
   refine A8 (A8 (Bw (Ae (Ah ?_))))
   refine Qe (Nc) ?_
   rintro _ _ ⟨b68,rfl,rfl⟩
   refine Qp N8 (Dh ?_)
   refine Qp (Bl (v:=.row _ _ _) rfl) ?_
   refine Qp (Mt (n:=p.2.2.1.length) Ai rfl rfl rfl (by rw [hE];simp)) ?_
   refine Qp A2 (Ag (AW.block ?_))
   refine AW.Aa5 (fun (o:Nat×Um×Nm×Es)=>(⟨[(2,.val (.map (some m))),(3,.fn (.func 147) [] [.val (.pointer (some ⟨bo,0,none⟩))]),(8,.val (.map (some b22))),(15,.val (.map (some b68))),(69,.row p.2.2.2.1 5 p.2.2.2.2),(70,.int .i64 p.2.2.1.length),(71,.int .i64 (o.1:Int))],.kmap b68 (nE o.2.2.1) :: .row p.2.2.2.1 p.2.2.2.2.length 214 5 :: .smap b22 (sE o.2.1) :: .kmap m (wE w)::Zg bo v o.2.2.2 R,126⟩:St)) (fun (o:Nat×Um×Nm×Es)=>o.1≤p.2.2.1.length∧p.2.2.1.foldl (H7 w) (p.2.1,[],l0.map Prod.fst)=(p.2.2.1.drop o.1).foldl (H7 w) (o.2.1,o.2.2.1,o.2.2.2.map Prod.fst)∧evOK T V (o.2.2.2.map Prod.fst)∧o.2.1.length≤p.2.1.length+o.1) (fun (o:Nat×Um×Nm×Es)=>p.2.2.1.length-o.1) ((0,p.2.1,[],l0)) ?_ (GS.weaken ⟨rfl,rfl,rfl,rfl,rfl,rfl,rfl,trivial⟩ (.refl _)) ?_
   · exact ⟨Nat.zero_le _,rfl,hev,Nat.le_refl _⟩
   ·
    rintro o hO
    refine Ah (Qp Cl (Ag (AW.seq (A5 (fun hc4=>?_) fun hc4=>?_))))
    ·
     obtain ⟨x,hx⟩:=B4 hc4
     have hltx:=Bb hx
     have hxm:=List.mem_of_getElem? hx
     have hwx:=hwds x hxm
     have hno:=hO.2.1
     rw [Z6 hx] at hno
     have hevo:=hO.2.2.1
     have hUo:=hO.2.2.2
     refine Bz (AW.seq (AW.block (Ah ?_)))
     refine Qp (Kp (c:=[.bool _,.str _,Iq _,Iq _,Iq _]) Ai rfl rfl rfl rfl rfl rfl (by omega) (by rw [hE];exact Bj hx)) ?_
     refine Qp (Cm [.bool _,.str _,Iq _,Iq _,Iq _]) ?_
     refine Qe (Al (l:=[.bool false,.str [],.int .i64 0,.int .i64 0,.int .i64 0]) (by kernel_rfl)) ?_
     rintro _ _ ⟨b17,rfl,rfl⟩
     refine Co 0 [.bool _,.str _,Iq _,Iq _,Iq _] (_::_::_::_::_::_::_::_) ?_
     refine AOL.ghost (GS.Aa4 (t:=17) 0 rfl rfl) ?_
     refine Dh (Qp H4 (Qp (Cm [.bool _,.str _,Iq _,Iq _,Iq _]) ?_))
     refine AOL.Aa9 (S4 (ho:=.kmap m (wE w)) (KK:=fun H=>H[3]? = some (.kmap m (wE w))) (by kernel_rfl) rfl rfl (Sz m w hw x) (fun _ h=>List.mem_of_getElem? h)) rfl rfl ?_
     refine Qe (Al (l:=[.bool false,.str [],.int .i64 0,.int .i64 0,.int .i64 0]) (by kernel_rfl)) ?_
     rintro _ _ ⟨b18,rfl,rfl⟩
     refine Co 0 [.bool _,.str _,Iq _,Iq _,Iq _] (_::_::_::_::_::_::_::_) ?_
     refine AOL.ghost (GS.Aa4 (t:=18) 0 rfl rfl) ?_
     refine Ag ?_
     refine AW.cut (fun (t:Um×Nm)=>(⟨[(2,.val (.map (some m))),(3,.fn (.func 147) [] [.val (.pointer (some ⟨bo,0,none⟩))]),(8,.val (.map (some b22))),(15,.val (.map (some b68))),(69,.row p.2.2.2.1 5 p.2.2.2.2),(70,.int .i64 p.2.2.1.length),(71,.int .i64 (o.1:Int)),(17,.ptr (Ld x)),(18,.ptr (Ld (Cf w x)))],.kmap b68 (nE t.2) :: .row p.2.2.2.1 p.2.2.2.2.length 214 5 :: .smap b22 (sE t.1) :: .kmap m (wE w)::Zg bo v o.2.2.2 R,126⟩:St)) (fun (t:Um×Nm)=>t=aW o.2.1 o.2.2.1 (Cf w x)) ?_ ?_
     ·
      refine Ah (Qp H4 (Qp (Cm [.bool _,.str _,Iq _,Iq _,Iq _]) ?_))
      refine AOL.Aa9 (P3 (i:=0) (eq:=Jt (Cf w x)) Ai rfl rfl rfl rfl rfl (by kernel_rfl) rfl rfl (rfl) (aS (Cf w x) _) (look_n (Cf w x) _) (has_n (Cf w x) _)) rfl rfl ?_
      refine Qp Mx (Qp Qxt (Qp kA (Qp Qat (Qp Bg (Dh (Qp Br (Qp Gt (Ag (A5 (fun hc5=>?_) fun hc5=>?_)))))))))
      ·
       have hnn:=fD hc5
       refine Ah (Qp H4 (Qp (Cm [.bool _,.str _,Iq _,Iq _,Iq _]) (Qp (Qf [.str _,Iq _,Iq _,Iq _]) (Qp Vu ?_))))
       refine Qe (Aay (i:=0) (H2:=_::_::_::_::_::_::_) Ai rfl rfl rfl rfl rfl rfl rfl rfl hnn rfl) ?_
       rintro _ _ ⟨rfl,rfl⟩
       refine Ag (AW.seq (Ah (Qp Av (Ag (AW.block ?_)))))
       refine AW.Aa5 (fun (z:Nat×Ft)=>(⟨[(2,.val (.map (some m))),(3,.fn (.func 147) [] [.val (.pointer (some ⟨bo,0,none⟩))]),(8,.val (.map (some b22))),(15,.val (.map (some b68))),(69,.row p.2.2.2.1 5 p.2.2.2.2),(70,.int .i64 p.2.2.1.length),(71,.int .i64 (o.1:Int)),(17,.ptr (Ld x)),(18,.ptr (Ld (Cf w x))),(21,.int .i64 (z.1:Int))],.kmap b68 (nE (o.2.2.1 ++ [((Cf w x),z.2)])) :: .row p.2.2.2.1 p.2.2.2.2.length 214 5 :: .smap b22 (sE o.2.1) :: .kmap m (wE w)::Zg bo v o.2.2.2 R,126⟩:St)) (fun (z:Nat×Ft)=>nmI o.2.1 (Cf w x) z.1 z.2) (fun (z:Nat×Ft)=>o.2.1.length+2-z.1) ((0,(Cf w x).text)) ?_ (GS.weaken ⟨rfl,rfl,rfl,rfl,rfl,rfl,rfl,rfl,rfl,rfl,trivial⟩ (.refl _)) ?_
       · exact .inl ⟨rfl,rfl⟩
       ·
        rintro z hz
        refine AW.seq (Ah (Qp (Qf [.bool _,.str _,Iq _,Iq _,Iq _]) (Qp kE (Qp Gt (Qp Br (Qg [] Qw A2 (Qg [(94,_)] Qw A7 (Qg [(95,_)] Qw Br (Qg [] Qw H4 ?_)))))))))
        refine Qg [] Qw H4 (Qg [] Qw (Cm [.bool _,.str _,Iq _,Iq _,Iq _]) ?_)
        refine AOL.gk (y:=.str _) _ [(98,_),(99,_)] rfl (sF.all ⟨Ent.Aa3 _ _,Ent.Aa3 _ _,trivial⟩) (fun hG=>Jj (i:=0) (eq:=Jt (Cf w x)) Ai rfl rfl rfl rfl rfl (by kernel_rfl) rfl rfl (rfl) (aS (Cf w x) _) (dN (Ul hnn))) rfl rfl ?_
        refine AOL.gk (y:=.bool _) _ [(97,_),(100,_)] rfl (sF.all ⟨Ent.Aa3 _ _,Ent.Aa3 _ _,trivial⟩) (fun hG=>oF (i:=2) Ai rfl rfl rfl rfl rfl rfl (by kernel_rfl) rfl rfl) rfl rfl ?_
        refine Qg [(96,_),(101,_)] Qw E5 (Qp E3 (Ag (A5 (fun hc6=>?_) fun hc6=>?_)))
        ·
         have h6:=Bool.and_eq_true_iff.mp hc6
         have hrc:(Cf w x).const=false:=(Bool.not_eq_true' _).mp h6.1
         have h6b:z.1=0∨Ff o.2.1 z.2=true:=by have:=h6.2;simp at this;omega
         have hzl:=nm_len hz
         refine Bz (AW.seq (AW.block ?_))
         refine AW.draw mixed (fun _=>True) trivial (by kernel_rfl) ?_
         refine Qn 0 rfl H4 (Qn 1 rfl (Cm [.bool _,.str _,Iq _,Iq _,Iq _]) (Qn 2 rfl A2 ?_))
         refine Qn 3 rfl (Qc rfl (kItoa _ (by omega) (by omega))) ?_
         refine Qn 4 rfl (sS rfl rfl rfl (by have h8:=Go.Lib.itoa_length_le (z.1:Int) (by omega) (by omega);simp only [List.length_append,List.length_cons,List.length_nil,maxLen];omega)) ?_
         refine Jx.eff _ _ 5 _ _ rfl (by kernel_rfl) rfl rfl (Aat (i:=0) (H2:=_::_::_::_::_::_::_) Ai rfl rfl rfl rfl rfl rfl rfl rfl hnn rfl) (fun _ _ _=>trivial) ?_
         rintro _ _ ⟨rfl,rfl⟩
         refine Jx.done _ _ (by kernel_rfl) ?_
         refine Bs (Ae (AW.region (Qp A2 (Qp Fx (Qp Av (Ag ?_))))))
         refine ⟨(z.1+1,wN z.1),?_,?_,GS.weaken ⟨rfl,rfl,rfl,rfl,rfl,rfl,rfl,rfl,rfl,rfl,trivial⟩ (.refl _)⟩
         · exact Aax hz hrc h6b
         · simp only;omega
        ·
         have hnm:=nm_done hz (by simpa using hc6)
         refine AW.exit ?_
         refine A8 (A8 (Bw (Ae (AW.region (Qp H4 (Qp H4 (Qp (Cm [.bool _,.str _,Iq _,Iq _,Iq _]) ?_)))))))
         refine AOL.Aa9 (Jj (i:=0) (eq:=Jt (Cf w x)) Ai rfl rfl rfl rfl rfl (by kernel_rfl) rfl rfl (rfl) (aS (Cf w x) _) (dN (Ul hnn))) rfl rfl ?_
         refine Qe (yB (i:=2) (H2:=_::_::_::_::_::_::_) Ai rfl rfl rfl rfl rfl rfl rfl rfl rfl) ?_
         rintro _ _ ⟨rfl,rfl⟩
         refine Ag ?_
         refine ⟨(Uc o.2.1 z.2 true,o.2.2.1 ++ [((Cf w x),z.2)]),?_,GS.weaken ⟨rfl,rfl,rfl,rfl,rfl,rfl,rfl,rfl,rfl,trivial⟩ (.refl _)⟩
         exact (by rw [dL hnn,hnm])
      ·
       refine Bz ?_
       refine ⟨(o.2.1,o.2.2.1),?_,GS.weaken ⟨rfl,rfl,rfl,rfl,rfl,rfl,rfl,rfl,rfl,trivial⟩ (.refl _)⟩
       exact (bQ hc5).symm
     ·
      rintro t hT
      have hgs:Ic t.2 (Cf w x)=some (nmT o.2.1 o.2.2.1 (Cf w x)):=by rw [hT];exact cG _ _ _
      refine Ah (Qp (Qf [.bool _,.str _,Iq _,Iq _,Iq _]) (Qp kE (Qp Gt (Ag (A5 (fun hc7=>?_) fun hc7=>?_)))))
      ·
       have hxc:x.const=false:=(Bool.not_eq_true' _).mp hc7
       refine AW.draw mixed (fun H'=>_∈H') (List.mem_of_getElem? (i:=0) rfl) (by kernel_rfl) ?_
       refine Qn 0 rfl (Bl (v:=.fn _ _ _) rfl) ?_
       refine Qn 1 rfl (Qf [Iq _,Iq _,Iq _]) (Qn 2 rfl (Cm [Iq _,Iq _,Iq _]) (Qn 3 rfl H4 (Qn 4 rfl (Cm [.bool _,.str _,Iq _,Iq _,Iq _]) ?_)))
       refine Qn 5 rfl (OpP.Aa8 (fun k=>Jj (i:=k) (eq:=Jt (Cf w x)) Ai rfl rfl rfl rfl rfl (by kernel_rfl) rfl rfl (rfl) (aS (Cf w x) _) (dN hgs)) (fun _ h=>h)) ?_
       refine Jx.last _ _ 6 _ _ rfl (by kernel_rfl) rfl rfl (Jm (by kernel_rfl) rfl rfl rfl (xI (pre:=[_,_,_,_]) (tH T V bo v o.2.2.2 hevo x.field (hwx hxc).1 (hwx hxc).2 (nmT o.2.1 o.2.2.1 (Cf w x)) _))) (by kernel_rfl) ?_
       rintro _ _ ⟨rfl,rfl⟩
       refine Bs (Ae (AW.region (Qp Fx (Qp A2 (Ag ?_)))))
       refine ⟨(o.1+1,t.1,t.2,o.2.2.2.modify x.field.v.toNat fun p=>(Wb p.1 x.field.field.toNat (fun y=>{ y with text:=nmT o.2.1 o.2.2.1 (Cf w x) }),p.2)),?_,?_,GS.weaken ⟨rfl,rfl,rfl,rfl,rfl,rfl,rfl,trivial⟩ (.refl _)⟩
       · exact ⟨hltx,hno.trans (congrArg (List.foldl (H7 w) · _) (nm_f hT hxc)),by rw [gN];exact nW hevo _ _,by have:=dM o.2.1 o.2.2.1 (Cf w x);rw [←hT] at this;simp only;omega⟩
       · simp only;omega
      ·
       have hxc:x.const=true:=(Bool.not_eq_false' _).mp hc7
       refine AW.skip (Bs (Ae (AW.region (Qp Fx (Qp A2 (Ag ?_))))))
       refine ⟨(o.1+1,t.1,t.2,o.2.2.2),?_,?_,GS.weaken ⟨rfl,rfl,rfl,rfl,rfl,rfl,rfl,trivial⟩ (.refl _)⟩
       · exact ⟨hltx,hno.trans (congrArg (List.foldl (H7 w) · _) (nm_c hT hxc)),hevo,by have:=dM o.2.1 o.2.2.1 (Cf w x);rw [←hT] at this;simp only;omega⟩
       · simp only;omega
    ·
     have hde:=Di hc4
     have hfin:=hO.2.1
     rw [hde] at hfin
     refine AW.exit ?_
     refine A8 (A8 (Bw ?_))
     refine ⟨_,GS.trans (GS.weaken (sl':=[]) (H':=.kmap m (wE w)::Zg bo v _ R) trivial (.cons _ (.cons _ (.cons _ (.refl _))))) (GS.perm (kI (pre:=[.kmap m (wE w)]))),.inl rfl,[],.nil,_,.refl _,?_⟩
     exact ⟨o.2.2.2,(by unfold eI;rw [hcol,hfin];rfl),hO.2.2.1,rfl,rfl⟩

set_option maxHeartbeats 6400000
set_option maxRecDepth 20000

theorem uW (T:List Sc)(V:List Va)(hty:Jv T V)(hst:∀s∈T,Jn s)(hvl:V.length≤1048576)(l:List Lit)(hlk:Vk T V l)(hll:l.length≤4096)(m:Nat)(w:Wm)(hw:Rv w)(vals:List Int)(hvs:(Ci T V l).ts.length+1≤vals.length)(H:List HO):Dx Tryz.prog 105 (.kmap m (wE w)::H) [.agg (Cq T V),.sl 9 (l.map G5),.agg [.ptr (tE T V l),.sl 1 (vals.map cI),.val (.map (some m))]] (fun r H'=>r = .sl 5 ((yS T V w l vals).map Oo)∧H' = .kmap m (wE w)::H):=by
 have hgl:=(Lp hlk).len
 refine Dx.body (n:=102) Ai Tryz.func105 rfl rfl rfl ?_
 refine Ah (Qp (F5 [_,_]) (Qp (F5 [_,_,_]) ?_))
 refine Qp (B2 (z:=5) rfl) ?_
 refine Dh ?_
 refine Qe (Al (l:=[.val (.slice none 0 0)]) (by kernel_rfl)) ?_
 rintro _ _ ⟨b7,rfl,rfl⟩
 refine AOL.ghost (GS.buf 67 5) ?_
 refine Ag (AW.seq (Ah (Qp (Qf [_]) (Qp Dm ?_))))
 refine Qp (Ak (n:=V.length) Ai rfl rfl rfl (by simp)) ?_
 refine Qp A2 (Ag (AW.block ?_))
 refine AW.Aa5 (fun (p:Nat×Value×Es)=>(⟨[(1,.sl 9 (l.map G5)),(3,.ptr (Cq T V)),(5,.ptr [.ptr (tE T V l),.sl 1 (vals.map cI),.val (.map (some m))]),(7,.val (.pointer (some ⟨b7,0,none⟩))),(16,.sl 2 (V.map U8)),(17,.int .i64 V.length),(18,.int .i64 (p.1:Int))],.buf p.2.1 (p.2.2.map Cx) 67 5 :: .box b7 58 [.val p.2.1]::(p.2.2.map Ga++(.kmap m (wE w)::H)),102⟩:St)) (fun (p:Nat×Value×Es)=>p.1≤V.length∧p.2.2.map Prod.fst=Hz T 0 (V.take p.1)) (fun (p:Nat×Value×Es)=>V.length-p.1) ((0,.slice none 0 0,[])) ?_ (GS.weaken ⟨rfl,rfl,rfl,rfl,rfl,rfl,rfl,trivial⟩ (.refl _)) ?_
 · exact ⟨Nat.zero_le _,rfl⟩
 ·
  rintro ⟨k1,v1,l1⟩ hR
  have hk1:k1≤V.length:=hR.1
  have hl1:l1.length=k1:=by have:=congrArg List.length hR.2;rw [Qd,List.length_take] at this;simp at this;omega
  refine Ah (Qp Cl (Ag (AW.seq (A5 (fun hc1=>?_) fun hc1=>?_))))
  ·
   obtain ⟨va,hva⟩:=B4 hc1
   have hlt:=Bb hva
   have hvm:=List.mem_of_getElem? hva
   have hvt:=hty va hvm
   refine (nI hty hvm).elim fun sc hsc=>?_
   have hfl:=(hst sc (List.mem_of_getElem? hsc)).2.1
   refine Bz (AW.seq (AW.block (Ah (Qp A2 ?_))))
   refine Qp (Af (c:=[.str _,Iq _]) Ai rfl rfl rfl rfl rfl rfl (by omega) (Bj hva)) ?_
   refine Qp (Cm [.str _,Iq _]) ?_
   refine Qe (Al (l:=[.str [],.int .i64 0]) (by kernel_rfl)) ?_
   rintro _ _ ⟨b9,rfl,rfl⟩
   refine Qp Av (Co 0 [.str _,Iq _] (_::_::_::_) ?_)
   refine AOL.ghost (GS.Aa4 (t:=9) 0 rfl rfl) ?_
   refine Dh (Qp A2 (Qp (Qf [Iq _]) (Qp Bt ?_)))
   refine Qp (Pg (l0:=[.int .i64 0,.int .i64 0,.int .i64 0,.int .i64 0,.val (.slice none 0 0)]) (l:=[Iq _,Iq _,Iq _,Iq _,_]) Ai rfl rfl (by kernel_rfl) rfl) ?_
   refine Qe (Al (l:=[.int .i64 0,.int .i64 0,.int .i64 0,.int .i64 0,.val (.slice none 0 0)]) (by kernel_rfl)) ?_
   rintro _ _ ⟨b10,rfl,rfl⟩
   refine Co 0 [Iq _,Iq _,Iq _,Iq _,_] (_::_::_::_) ?_
   refine AOL.ghost (GS.buf 28 3) ?_
   refine Ag (AW.seq (Ah (Qp (Qf [_,_]) (Qp Dm (Qp (Qf [Iq _]) (Qp Bt ?_))))))
   refine Qp (Af (c:=[.str _,_]) Ai rfl rfl rfl rfl rfl rfl (hvt.1) (Bj hsc)) ?_
   refine Qp (Qf [_]) (Qp Dm ?_)
   refine Qp (Ak (n:=sc.fields.length) Ai rfl rfl rfl (by simp)) ?_
   refine Qp A2 (Ag (AW.block ?_))
   refine AW.Aa5 (fun (q:Nat×Value×List (List AV))=>(⟨[(1,.sl 9 (l.map G5)),(3,.ptr (Cq T V)),(5,.ptr [.ptr (tE T V l),.sl 1 (vals.map cI),.val (.map (some m))]),(7,.val (.pointer (some ⟨b7,0,none⟩))),(8,.int .i64 (k1:Int)),(10,.val (.pointer (some ⟨b10,0,none⟩))),(16,.sl 2 (V.map U8)),(17,.int .i64 V.length),(18,.int .i64 (k1:Int)),(33,.sl 2 (sc.fields.map cFi)),(34,.int .i64 sc.fields.length),(35,.int .i64 (q.1:Int))],.buf q.2.1 q.2.2 28 3 :: .box b10 67 [.int .i64 0,.int .i64 (k1:Int),.int .i64 va.type,.int .i64 0,.val q.2.1] :: .buf v1 (l1.map Cx) 67 5 :: .box b7 58 [.val v1]::(l1.map Ga++(.kmap m (wE w)::H)),102⟩:St)) (fun (q:Nat×Value×List (List AV))=>q.1≤sc.fields.length∧q.2.2=((sc.fields.take q.1).map zV).map cV) (fun (q:Nat×Value×List (List AV))=>sc.fields.length-q.1) ((0,.slice none 0 0,[])) ?_ (GS.weaken ⟨rfl,rfl,rfl,rfl,rfl,rfl,rfl,rfl,rfl,rfl,rfl,rfl,trivial⟩ (.refl _)) ?_
   · exact ⟨Nat.zero_le _,rfl⟩
   ·
    rintro q hQ
    have hql:q.2.2.length≤q.1:=by rw [hQ.2];simp;omega
    refine Ah (Qp Cl (Ag (AW.seq (A5 (fun hc2=>?_) fun hc2=>?_))))
    ·
     obtain ⟨f,hf⟩:=B4 hc2
     have hltf:=Bb hf
     refine Bz (AW.seq (AW.block (Ah ?_)))
     refine Qp (Af (c:=[.str _,Iq _]) Ai rfl rfl rfl rfl rfl rfl (by omega) (Bj hf)) ?_
     refine Qp (Cm [.str _,Iq _]) ?_
     refine Qe (Al (l:=[.str [],.int .i64 0]) (by kernel_rfl)) ?_
     rintro _ _ ⟨b12,rfl,rfl⟩
     refine Co 0 [.str _,Iq _] (_::_::_::_::_::_) ?_
     refine AOL.ghost (GS.Aa4 (t:=12) 0 rfl rfl) ?_
     refine Ag (AW.region (Qp Ir ?_))
     refine AOL.Aa9 (A0 (k:=1) (c:=.val _) Ai rfl rfl rfl rfl) rfl rfl ?_
     refine Qp (Qf [Iq _]) (Qp Bt (Qp (Et [Iq _,Iq _,.str _]) ?_))
     refine Qp (A1 (es:=[[Iq _,Iq _,.str _]]) Ai rfl rfl rfl rfl rfl rfl rfl rfl rfl) ?_
     refine Qe (Le.bufs (Vg (k:=0) Ai rfl rfl rfl rfl rfl rfl rfl rfl (rfl) (by simp;omega) (by simp [maxLen];omega))) ?_
     rintro _ _ ⟨⟨v45,rfl,rfl⟩,hbs45⟩
     have hu2:=hbs45 v45 _ _ _ (List.mem_of_getElem? (i:=0) rfl)
     refine Qp Ir ?_
     refine Qe (C7 (k:=1) (v:=.val _) (cs':=[Iq _,Iq _,Iq _,Iq _,_]) (H2:=_::_::_::_::_) Ai rfl rfl rfl rfl ((by simp [De,Bh,Nu,hu2])) rfl rfl rfl rfl) ?_
     rintro _ _ ⟨rfl,rfl⟩
     refine AOL.nil (Bs (Ae (AW.region (Qp Fx (Qp A2 (Ag ?_))))))
     refine ⟨(q.1+1,v45,q.2.2 ++ [cV (zV f)]),?_,?_,GS.weaken ⟨rfl,rfl,rfl,rfl,rfl,rfl,rfl,rfl,rfl,rfl,rfl,rfl,trivial⟩ (.refl _)⟩
     · exact ⟨hltf,by simp only;rw [Cu hf,List.map_append,List.map_append,hQ.2];rfl⟩
     · simp only;omega
    ·
     have htf:=C5 hc2
     have hE:=hQ.2
     rw [htf] at hE
     have hrows:q.2.2=(Zh T k1 va).values.map cV:=hE.trans (congrArg (List.map cV) (iH hsc).symm)
     refine AW.exit ?_
     refine A8 (A8 (Bw (Ae ?_)))
     refine AW.bufOne 0 rfl fun hu=>?_
     refine AW.region ?_
     refine AOL.Aa9 (A0 (k:=3) (c:=.val _) Ai rfl rfl rfl rfl) rfl rfl ?_
     refine AOL.Aa9 (B1 (k:=1) (l:=[Iq _,Iq _,Iq _,Iq _,_]) Ai rfl rfl rfl rfl rfl) rfl rfl ?_
     refine Qp (A1 (es:=[[Iq _,Iq _,Iq _,Iq _,_]]) Ai rfl rfl rfl rfl rfl rfl (lit1 rfl rfl (by simp [Bh,Nu,hu])) rfl rfl) ?_
     refine Qe (Le.bufs (Vg (k:=2) Ai rfl rfl rfl rfl rfl rfl rfl rfl ((by simp [Bh,Nu,hu])) (by simp;omega) (by simp [maxLen];omega))) ?_
     rintro _ _ ⟨⟨v51,rfl,rfl⟩,hbs51⟩
     have hu3:=hbs51 v51 _ _ _ (List.mem_of_getElem? (i:=2) rfl)
     refine Qe (C7 (k:=3) (v:=.val _) (cs':=[_]) (H2:=_::_::_::_::_) Ai rfl rfl rfl rfl ((by simp [De,Bh,Nu,hu3])) rfl rfl rfl rfl) ?_
     rintro _ _ ⟨rfl,rfl⟩
     refine AOL.nil (Bs (Ae (AW.region (Qp Fx (Qp A2 (Ag ?_))))))
     refine ⟨(k1+1,v51,l1 ++ [(Zh T k1 va,q.2.1)]),?_,?_,GS.trans (GS.perm (ev_push (e:=Zh T k1 va) hrows)) (GS.weaken ⟨rfl,rfl,rfl,rfl,rfl,rfl,rfl,trivial⟩ (.cons _ (.refl _)))⟩
     · exact ⟨hlt,by simp only;rw [Cu hva,gI,List.map_append,hR.2,List.length_take,Nat.min_eq_left hk1,Nat.zero_add];rfl⟩
     · simp only;omega
  ·
   have hte:=C5 hc1
   have hbe:=hR.2
   rw [hte] at hbe
   have hvlen:l1.length=V.length:=by have:=congrArg List.length hbe;rw [Qd] at this;simpa using this
   refine AW.exit ?_
   refine A8 (A8 (Bw (Ae (AW.seq (Ah (Qp (Qf [_,_,_]) (Qp Qlp ?_)))))))
   refine Qp (G2 rfl) ?_
   refine Qp (Qf [_,_]) (Qp Dm ?_)
   refine Qp (Ak (n:=(Ci T V l).ts.length) Ai rfl rfl rfl (by simp)) ?_
   refine Qp A2 (Ag (AW.block ?_))
   refine AW.Aa5 (fun (o:Nat×Es)=>(⟨[(1,.sl 9 (l.map G5)),(3,.ptr (Cq T V)),(5,.ptr [.ptr (tE T V l),.sl 1 (vals.map cI),.val (.map (some m))]),(7,.val (.pointer (some ⟨b7,0,none⟩))),(57,.sl 3 ((Ci T V l).ts.map Ib)),(58,.int .i64 (Ci T V l).ts.length),(59,.int .i64 (o.1:Int))],.buf v1 (o.2.map Cx) 67 5 :: .box b7 58 [.val v1]::(o.2.map Ga++(.kmap m (wE w)::H)),102⟩:St)) (fun (o:Nat×Es)=>o.1≤(Ci T V l).ts.length∧G4 vals 0 (Ci T V l).ts (Hz T 0 V)=G4 vals o.1 ((Ci T V l).ts.drop o.1) (o.2.map Prod.fst)∧evOK T V (o.2.map Prod.fst)) (fun (o:Nat×Es)=>(Ci T V l).ts.length-o.1) ((0,l1)) ?_ (GS.weaken ⟨rfl,rfl,rfl,rfl,rfl,rfl,rfl,trivial⟩ (.refl _)) ?_
   · exact ⟨Nat.zero_le _,by simp only;rw [hbe];rfl,by simp only;rw [hbe];exact mS⟩
   ·
    rintro ⟨k2,l2⟩ hO
    refine Ah (Qp Cl (Ag (AW.seq (A5 (fun hc3=>?_) fun hc3=>?_))))
    ·
     obtain ⟨t,ht⟩:=B4 hc3
     have hltt:=Bb ht
     have htm:=kK hlk t (List.mem_of_getElem? ht)
     refine Bz (AW.seq (AW.block (Ah (Qp A2 ?_))))
     refine Qp (Af (c:=[Iq _,Iq _,Iq _]) Ai rfl rfl rfl rfl rfl rfl (by omega) (Bj ht)) ?_
     refine Qp (Cm [Iq _,Iq _,Iq _]) ?_
     refine Qe (Al (l:=[.int .i64 0,.int .i64 0,.int .i64 0]) (by kernel_rfl)) ?_
     rintro _ _ ⟨b14,rfl,rfl⟩
     refine Qp Av (Co 0 [Iq _,Iq _,Iq _] (_::_::_::_) ?_)
     refine AOL.ghost (GS.Aa4 (t:=14) 0 rfl rfl) ?_
     refine Dh (Qp (Qf [Iq _,Iq _,Iq _]) (Qp Bt (Qp A7 (Ag (A5 (fun hc4=>?_) fun hc4=>?_)))))
     ·
      refine (kG hO.2.2 htm).elim fun e he=>he.elim fun u hu=>?_
      have hj:=hu.1
      have hel:=hu.2.1
      have hll9:l2.length=V.length:=hu.2.2
      have hv0:=htm.v0
      have hv1:=htm.v1
      refine AW.unbuf (v:=v1) (es:=l2.map Cx) (E:=67) (z:=5) 0 rfl (X8 hj) fun bb cap J hub hcap hcm hJ hzo=>?_
      subst hub
      have hrow:(l2.map Cx)[t.v.toNat]? = some (Cx (e,u)):=by rw [List.getElem?_map,hj];rfl
      refine AW.draw mixed (fun H'=>_∈H') (List.mem_of_getElem? (i:=1) rfl) (by kernel_rfl) ?_
      refine Qn 0 rfl (OpP.Aa8 (fun k=>A0 (k:=k) (c:=.val _) Ai rfl rfl rfl rfl) (fun _ h=>h)) ?_
      refine Qn 1 rfl (Qf [Iq _,Iq _]) (Qn 2 rfl Bt (Qn 3 rfl (Qf [_,_]) (Qn 4 rfl Dm (Qn 5 rfl A2 (Qn 6 rfl Fx ?_)))))
      refine Qn 7 rfl (Af (c:=[Iq _]) Ai rfl rfl rfl rfl rfl rfl (by omega) (pF (by omega))) ?_
      refine Qn 8 rfl Bt ?_
      refine Qn 9 rfl (Ca (o':=t.v.toNat*5) Ai rfl rfl rfl rfl rfl (hv0) (by rw [List.length_map];omega) (Nat.zero_add _)) ?_
      refine Qn 10 rfl Ir ?_
      refine Jx.last _ _ 11 _ _ rfl (by kernel_rfl) rfl rfl (C7 (k:=0) (v:=Iq _) (cs':=_) (H2:=_::_::_) Ai rfl rfl rfl rfl rfl rfl (Tu (o:=3) (J1 _) hrow (by decide)) (Sa (o:=3) (e:=Cx (e,u)) (J1 _) hrow (by decide)) rfl) (by kernel_rfl) ?_
      rintro _ _ ⟨rfl,rfl⟩
      refine Bs (Ae (AW.region (Qp Fx (Qp A2 (Ag ?_)))))
      refine ⟨(k2+1,l2.modify t.v.toNat fun p=>({ p.1 with time:=E2 vals ((k2:Int)+1) },p.2)),?_,?_,GS.trans (evTime hj hcap hcm hJ) (GS.weaken ⟨rfl,rfl,rfl,rfl,rfl,rfl,rfl,trivial⟩ (.refl _))⟩
      · exact ⟨hltt,hO.2.1.trans ((Xm ht).trans (congrArg (G4 vals (k2+1) _) (aI hc4).symm)),by simp only;rw [aI hc4];exact Wj hO.2.2 t _⟩
      · simp only;omega
     ·
      refine (kG hO.2.2 htm).elim fun e he=>he.elim fun u hu=>?_
      have hj:=hu.1
      have hel:=hu.2.1
      have hll9:l2.length=V.length:=hu.2.2
      have hv0:=htm.v0
      have hv1:=htm.v1
      have ho1:t.op=1:=htm.op.resolve_right (by simpa using hc4)
      have hfr:=htm.f ho1
      refine (pX htm ho1 hel).elim fun y hy=>?_
      have hyl:=Bb hy
      refine AW.ghost (GS.perm (lM hj)) ?_
      refine AW.unbuf (v:=u) (es:=e.values.map cV) (E:=28) (z:=3) 0 rfl (X8 hy) fun bi capi Ji hui hcapi hcmi hJi hzi=>?_
      subst hui
      refine AW.unbuf (v:=v1) (es:=l2.map Cx) (E:=67) (z:=5) 1 rfl (X8 hj) fun bb cap J hub hcap hcm hJ hzo=>?_
      subst hub
      have hrow:(l2.map Cx)[t.v.toNat]? = some (Cx (e,.slice (some ⟨bi,0,none⟩) (e.values.map cV).length capi)):=by rw [List.getElem?_map,hj];rfl
      refine AW.draw mixed (fun H'=>_∈H'∧_∈H') ⟨(List.mem_of_getElem? (i:=2) rfl),(List.mem_of_getElem? (i:=1) rfl)⟩ (by kernel_rfl) ?_
      refine Qn 0 rfl (OpP.Aa8 (fun k=>A0 (k:=k) (c:=.val _) Ai rfl rfl rfl rfl) (fun _ h=>h.1)) ?_
      refine Qn 1 rfl (Qf [Iq _,Iq _]) (Qn 2 rfl Bt ?_)
      refine Qn 3 rfl (Ca (o':=t.v.toNat*5) Ai rfl rfl rfl rfl rfl (hv0) (by rw [List.length_map];omega) (Nat.zero_add _)) ?_
      refine Qn 4 rfl Ir ?_
      refine Qn 5 rfl (OpP.Aa8 (fun k=>A0 (k:=k) (c:=.val (.slice (some ⟨bi,0,none⟩) (e.values.map cV).length capi)) Ai rfl rfl rfl (Yx (o:=4) (J1 l2) hrow rfl)) (fun _ h=>h.2)) ?_
      refine Qn 6 rfl (Qf [Iq _]) (Qn 7 rfl Bt (Qn 8 rfl (Qf [_,_]) (Qn 9 rfl Dm (Qn 10 rfl A2 (Qn 11 rfl Fx ?_)))))
      refine Qn 12 rfl (Af (c:=[Iq _]) Ai rfl rfl rfl rfl rfl rfl (by omega) (pF (by omega))) ?_
      refine Qn 13 rfl Bt ?_
      refine Qn 14 rfl (Ca (o':=t.field.toNat*3) Ai rfl rfl rfl rfl rfl (hfr.1) (by rw [List.length_map];omega) (Nat.zero_add _)) ?_
      refine Qn 15 rfl Ir ?_
      refine Jx.last _ _ 16 _ _ rfl (by kernel_rfl) rfl rfl (C7 (k:=0) (v:=Iq _) (cs':=_) (H2:=_::_::_::_) Ai rfl rfl rfl rfl rfl rfl (Tu (o:=1) (Ov _) (by rw [List.getElem?_map,hy];rfl) (by decide)) (Sa (o:=1) (e:=cV y) (x:=.int .i64 (E2 vals ((k2:Int)+1))) (Ov _) (by rw [List.getElem?_map,hy];rfl) (by decide)) rfl) (by kernel_rfl) ?_
      rintro _ _ ⟨rfl,rfl⟩
      refine Bs (Ae (AW.region (Qp Fx (Qp A2 (Ag ?_)))))
      refine ⟨(k2+1,l2.modify t.v.toNat fun p=>(Wb p.1 t.field.toNat (fun y=>{ y with num:=E2 vals ((k2:Int)+1) }),p.2)),?_,?_,GS.trans (uU hj hy (f:=fun y=>{ y with num:=E2 vals ((k2:Int)+1) }) rfl hcap hcm hJ hcapi hcmi hJi) (GS.weaken ⟨rfl,rfl,rfl,rfl,rfl,rfl,rfl,trivial⟩ (.refl _))⟩
      · exact ⟨hltt,hO.2.1.trans ((Xm ht).trans (congrArg (G4 vals (k2+1) _) (gU hc4).symm)),by simp only;rw [gU hc4];exact Wj hO.2.2 t _⟩
      · simp only;omega
    ·
     have hde:=Di hc3
     have hnum:=hO.2.1
     rw [hde] at hnum
     refine AW.exit ?_
     refine A8 (A8 (Bw (Ae (Ah (Qp (Cm [_,_]) (Qp C6 (Qp (Qf [_]) (Qp Qlv ?_))))))))
     refine Qp (Bf (l:=[]) (l':=[.val _]) rfl rfl) ?_
     refine Qe (Fr (by kernel_rfl) rfl rfl (d_name T V l hlk hll m w hw b7 v1 l2 hO.2.2 _)) ?_
     rintro _ _ ⟨l3,hl3,hev3,rfl,rfl⟩
     refine Dh ?_
     refine AOL.Aa9 (A0 (k:=1) (c:=.val _) Ai rfl rfl rfl rfl) rfl rfl ?_
     refine Qp N8 ?_
     refine AOL.ghost (GS.freezeEvs (t:=6) rfl) ?_
     refine Ag (AW.ret ?_)
     refine ⟨.inr rfl,[.sl _ _],.cons (.tmp _ _ rfl) <| .nil,_,.cons _ (.refl _),?_⟩
     exact ⟨congrArg (fun q:List Ev=>AV.sl 5 (q.map Oo)) (hl3.trans (congrArg (eI T V w l) hnum.symm)),rfl⟩

end Go.Proofs.YtkddpedfbicbeaaGreatDoor
