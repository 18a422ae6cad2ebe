/-
  Several texts in one: Y8d, Y9b, Y10. No condition.
-/
import Derived.Test.YtkddpedfbicbeaaGreatDoorAz
import Derived.Test.YtkddpedfbicbeaaGreatDoorK19
import Derived.Test.YtkddpedfbicbeaaGreatDoorK35
import Derived.KernelRfl
import Derived.Test.YtkddpedfbicbeaaGreatDoorY9
import Derived.Test.YtkddpedfbicbeaaGreatDoorK20
set_option linter.unusedVariables false
set_option linter.unusedSimpArgs false
namespace Go.Proofs.YtkddpedfbicbeaaGreatDoor
open Go Go.Aw
set_option maxHeartbeats 1600000
set_option maxRecDepth 20000

theorem uZ (n:Nat)(bs:List Bd)(hm:∀b∈bs,-Jo≤b.most∧b.most≤Jo)(hW:(I4 (zn n bs) != 0)=false→decide ((Ek (zn n bs)).2<0)=false→Nv n bs=true)(hE:decide ((Ek (zn n bs)).2<0)=true):Av Tryz.prog 145 [.agg (Tw (zn n bs))] (.tuple [.bool (Ew (zn n bs)).ok,.sl 1 ((Ew (zn n bs)).values.map cI),.junk,.int .i64 (Ew (zn n bs)).err]):=by
 refine Av.body (n:=41) Ai Tryz.func145 rfl rfl rfl fun H=>?_
 refine Ah (Qp (F5 [Iq _,_]) (Qp Be (Qp N8 (Qp N8 (Qp At (Ag (AW.seq (Ah (Qp (Ck [Iq _,_]) ?_)))))))))
 refine Qp (Qc rfl (oR (zn n bs))) ?_
 refine Qp At (Df (Qp A0 (Qp Cr (Ag (A3 (fun hc1=>?_) fun hc1=>?_)))))
 ·
  refine Ah (Qp A0 (Qp Be ?_))
  refine Qp (B0 (z:=1) rfl) ?_
  refine Qp (B0 (z:=1) rfl) ?_
  refine Qp At ?_
  refine AOL.ghost (GS.weaken (sl':=[(2,_),(3,_),(5,_)]) ⟨rfl,rfl,rfl,trivial⟩ (.refl _)) ?_
  refine Ag (Dr ?_)
  refine ⟨.inr rfl,[.bool _,.sl _ _,.junk,Iq _],.cons (.tmp _ _ rfl) <| .cons (.tmp _ _ rfl) <| .cons (.tmp _ _ rfl) <| .cons (.tmp _ _ rfl) <| .nil,.refl _,?_⟩
  exact Eq.trans rfl (congrArg (fun q:So=>AV.tuple [.bool q.ok,.sl 1 (q.values.map cI),.junk,.int .i64 q.err]) (Wf hc1)).symm
 ·
  have hz:=pI hc1 hm
  have hn1:=hz.n1
  have hn64:=hz.n64
  have hok:=kQ hz
  have hi0:=hok.ix (Int.le_refl 0) (by omega)
  refine Bx (Ah (Qp (Ck [Iq _,_]) ?_))
  refine Qe (Fo (by kernel_rfl) rfl rfl ((oX n bs hz (fun h=>absurd (hE.symm.trans h) (by decide)) _).mono' (fun r K h=>Eq.mp (if_pos hE) h))) ?_
  rintro _ _ ⟨b18,rfl,rfl⟩
  refine Qp Mv (Qp Qxv (Qp Qxv (Qp N8 (Qp N8 (Ag (AW.seq (Ah (Qp H0 ?_))))))))
  refine Qp (qQ Ai rfl rfl rfl) ?_
  refine Ag (A3 (fun hc2=>?_) fun hc2=>?_)
  ·
   cases hc2
  ·
   refine Bx (Ah (Qp H0 ?_))
   refine Qp (B8 Ai rfl rfl rfl rfl rfl (Int.le_refl 0) (by omega) (rfl)) ?_
   refine AOL.Aai (Ax (k:=0) (c:=.int .i64 (E0 (Ek (zn n bs)).1.sums 0)) Ai rfl rfl rfl (Yg (Int.le_refl 0) (by rw [hok.s];omega))) rfl rfl ?_
   refine Qp At (Ag (AW.seq (Ah (Qp H0 ?_))))
   refine Qp (Zm Ai rfl rfl rfl) ?_
   refine Qp A0 (Ag (AW.block ?_))
   refine AW.Aae (fun (p:Nat)=>(⟨[(7,.val (.slice (some ⟨b18,0,none⟩) n n)),(9,.int .i64 (E0 (Ek (zn n bs)).1.sums 0)),(28,.int .i64 (n:Int)),(29,.int .i64 (p:Int))],.box b18 3 (bI (Ys (Ek (zn n bs)).1.sums p))::H,41⟩:St)) (fun (p:Nat)=>p≤n) (fun (p:Nat)=>n-p) (0) ?_ (GS.weaken ⟨rfl,rfl,rfl,rfl,trivial⟩ (.refl _)) ?_
   · exact Nat.zero_le _
   ·
    rintro p hR
    refine Ah (Qp Cj (Ag (AW.seq (A3 (fun hc3=>?_) fun hc3=>?_))))
    ·
     have hlt:p<n:=by have:=of_decide_eq_true hc3;omega
     have hi1:=hok.ix (k:=(p:Int)) (by omega) (by omega)
     refine Bx (AW.seq (AW.block (Ah (Qp A0 (Qp At (Ag (AW.region (Qp H0 (Qp A0 ?_)))))))))
     refine Qp (B8 (o':=(p:Int).toNat) Ai rfl rfl rfl rfl rfl (by omega) (by omega) (bX _)) ?_
     refine AOL.Aai (Ax (k:=0) (c:=.int .i64 (E0 (Ek (zn n bs)).1.sums (p:Int))) Ai rfl rfl rfl ((Yg (k:=(p:Int)) (by omega) (by rw [Wq (by rw [hok.s];omega),hok.s];omega)).trans (congrArg (fun v=>some (AV.int .i64 v)) (subL_at (by rw [hok.s];exact hlt))))) rfl rfl ?_
     refine Qp A0 ?_
     refine Qp (Z5 rfl rfl rfl (by constructor <;> omega)) ?_
     refine Qp (B8 (o':=p) Ai rfl rfl rfl rfl rfl (by omega) (by omega) (bX _)) ?_
     refine Qe (C6 (k:=0) (v:=Iq _) (cs':=bI (Ys (Ek (zn n bs)).1.sums (p+1))) (H2:=_::_) Ai rfl rfl rfl rfl rfl rfl (dU (by rw [Wq (by rw [hok.s];omega),hok.s];exact hlt)) ((bP (by rw [Wq (by rw [hok.s];omega),hok.s];exact hlt)).trans (congrArg bI (yQ (by rw [hok.s];exact hlt)))) rfl) ?_
     rintro _ _ ⟨rfl,rfl⟩
     refine AOL.nil (Bq (Ae (AW.region (Qp Fv (Qp A0 (Ag ?_))))))
     refine ⟨p+1,?_,?_,GS.weaken ⟨rfl,rfl,rfl,rfl,trivial⟩ (.refl _)⟩
     · exact hlt
     · omega
    ·
     have hkn:(Ek (zn n bs)).1.sums.length≤p:=by rw [hok.s];have:=of_decide_eq_false hc3;omega
     refine AW.exit ?_
     refine A6 (A6 (Bv (Ae (Ah (Qp H0 (Qp Be (Qp N8 (Qp N8 (Qp At ?_)))))))))
     refine AOL.ghost (GS.freezeSl (t:=3) (z:=1) (es:=((Ek (zn n bs)).1.sums.map (fun v=>v-E0 (Ek (zn n bs)).1.sums 0)).map cI) 0 rfl rfl ((bI_flat _).trans (congrArg bI (qB hkn).symm)) (by rw [List.length_map,List.length_map];exact hok.s.symm) (Nat.le_refl _) (by unfold maxLen;omega) (xY (fun _=>rfl) _) slot_is) ?_
     refine AOL.ghost (GS.weaken (sl':=[(2,_),(3,_),(5,_)]) ⟨rfl,rfl,rfl,trivial⟩ (.refl _)) ?_
     refine Ag (AW.ret ?_)
     refine ⟨.inr rfl,[.bool _,.sl _ _,.junk,Iq _],.cons (.tmp _ _ rfl) <| .cons (.tmp _ _ rfl) <| .cons (.tmp _ _ rfl) <| .cons (.tmp _ _ rfl) <| .nil,.refl _,?_⟩
     exact Eq.trans rfl (congrArg (fun q:So=>AV.tuple [.bool q.ok,.sl 1 (q.values.map cI),.junk,.int .i64 q.err]) (We hc1 hE)).symm
theorem vC (n:Nat)(bs:List Bd)(hm:∀b∈bs,-Jo≤b.most∧b.most≤Jo)(hW:(I4 (zn n bs) != 0)=false→decide ((Ek (zn n bs)).2<0)=false→Nv n bs=true)(hE:decide ((Ek (zn n bs)).2<0)=false):Av Tryz.prog 145 [.agg (Tw (zn n bs))] (.tuple [.bool (Ew (zn n bs)).ok,.sl 1 ((Ew (zn n bs)).values.map cI),.junk,.int .i64 (Ew (zn n bs)).err]):=by
 refine Av.body (n:=41) Ai Tryz.func145 rfl rfl rfl fun H=>?_
 refine Ah (Qp (F5 [Iq _,_]) (Qp Be ?_))
 refine Qp (B0 (z:=1) rfl) ?_
 refine Qp (B0 (z:=1) rfl) ?_
 refine Qp At (Ag (AW.seq (Ah (Qp (Ck [Iq _,_]) ?_))))
 refine Qp (Qc rfl (oR (zn n bs))) ?_
 refine Qp At (Df (Qp A0 (Qp Cr (Ag (A3 (fun hc1=>?_) fun hc1=>?_)))))
 ·
  refine Ah (Qp A0 (Qp Be ?_))
  refine Qp (B0 (z:=1) rfl) ?_
  refine Qp (B0 (z:=1) rfl) ?_
  refine Qp At ?_
  refine AOL.ghost (GS.weaken (sl':=[(2,_),(3,_),(5,_)]) ⟨rfl,rfl,rfl,trivial⟩ (.refl _)) ?_
  refine Ag (Dr ?_)
  refine ⟨.inr rfl,[.bool _,.sl _ _,.junk,Iq _],.cons (.tmp _ _ rfl) <| .cons (.tmp _ _ rfl) <| .cons (.tmp _ _ rfl) <| .cons (.tmp _ _ rfl) <| .nil,.refl _,?_⟩
  exact Eq.trans rfl (congrArg (fun q:So=>AV.tuple [.bool q.ok,.sl 1 (q.values.map cI),.junk,.int .i64 q.err]) (Wf hc1)).symm
 ·
  have hz:=pI hc1 hm
  refine Bx (Ah (Qp (Ck [Iq _,_]) ?_))
  refine Qe (Fo (by kernel_rfl) rfl rfl ((oX n bs hz (fun h=>hW hc1 h) _).mono' (fun r K h=>Eq.mp (if_neg (by rw [hE];decide)) h))) ?_
  rintro _ _ ⟨es,hne,rfl,rfl⟩
  refine Qp Mv (Qp Qxv (Qp Qxs (Qp N8 (Qp Wj (Ag (AW.seq (Ah (Qp C4 ?_))))))))
  refine Qp (sM Ai rfl hne rfl rfl) ?_
  refine Ag (A3 (fun hc2=>?_) fun hc2=>?_)
  ·
   refine Ah (Qp C4 (Qp Be ?_))
   refine Qp (B0 (z:=1) rfl) ?_
   refine Qp Wj (Qp At ?_)
   refine AOL.ghost (GS.weaken (sl':=[(2,_),(3,_),(5,_)]) ⟨rfl,rfl,rfl,trivial⟩ (.refl _)) ?_
   refine Ag (Dr ?_)
   refine ⟨.inr rfl,[.bool _,.sl _ _,.junk,Iq _],.cons (.tmp _ _ rfl) <| .cons (.tmp _ _ rfl) <| .cons (.tmp _ _ rfl) <| .cons (.tmp _ _ rfl) <| .nil,.refl _,?_⟩
   exact Eq.trans rfl (congrArg (fun q:So=>AV.tuple [.bool q.ok,.sl 1 (q.values.map cI),.junk,.int .i64 q.err]) (dX hc1 hE)).symm
  ·
   cases hc2
theorem f_Solve (n:Nat)(bs:List Bd)(hm:∀b∈bs,-Jo≤b.most∧b.most≤Jo)(hW:(I4 (zn n bs) != 0)=false→decide ((Ek (zn n bs)).2<0)=false→Nv n bs=true):Av Tryz.prog 145 [.agg (Tw (zn n bs))] (.tuple [.bool (Ew (zn n bs)).ok,.sl 1 ((Ew (zn n bs)).values.map cI),.junk,.int .i64 (Ew (zn n bs)).err]):=by
 cases hE:decide ((Ek (zn n bs)).2<0) with
 | true=>exact uZ n bs hm hW hE
 | false=>exact vC n bs hm hW hE

set_option maxHeartbeats 1600000
set_option maxRecDepth 20000

theorem rQ (T:List Sc)(V:List Va)(l:List Lit)(hlk:Ve T V l)(H:List HO):Dv Tryz.prog 144 H [.agg (Co T V),.sl 9 (l.map G3)] (fun r H'=>∃m,r = .tuple [.val (.map (some m)),.bool (Ef T V l).2]∧H' = .kmap m (wE (Ef T V l).1)::H):=by
 refine Dv.body (n:=20) Ai Tryz.func144 rfl rfl rfl ?_
 refine Ah (Qp (F5 [_,_]) ?_)
 refine Qp (Z3 (v:=.sl _ _) (cs:=[_]) rfl rfl rfl) ?_
 refine Qp N8 (Qp Be (Df ?_))
 refine Qe (Mz) ?_
 rintro _ _ ⟨b9,rfl,rfl⟩
 refine Qe (Al (l:=[.val (.map none)]) (by kernel_rfl)) ?_
 rintro _ _ ⟨b6,rfl,rfl⟩
 refine Cm 0 [_] (_::_::_) ?_
 refine Df ?_
 refine Qp (Bc (l:=[]) (l':=[.ptr _,.ptr _,.val _]) rfl rfl) ?_
 refine Qp (C2 (v:=.fn _ _ _) rfl) ?_
 refine Df ?_
 refine Qp (Bj (v:=.fn _ _ _) rfl) ?_
 refine Qp (Bc (l:=[]) (l':=[.val _]) rfl rfl) ?_
 refine Qe (Je (by kernel_rfl) rfl rfl rfl (Dv.front2 (R:=_) 1 0 rfl rfl rfl (d_eachT T V l hlk b6 b9 _))) ?_
 rintro _ _ ⟨rfl,rfl⟩
 refine Qp Be (Ag (AW.seq ?_))
 refine AW.draw mixed (fun H'=>_∈H') (List.mem_of_getElem? (i:=0) rfl) (by kernel_rfl) ?_
 refine Qn 0 rfl (OpP.Aah (fun k=>Ax (k:=k) (c:=.val _) Ai rfl rfl rfl rfl) (fun _ h=>h)) ?_
 refine Qn 1 rfl Bp (Qn 2 rfl Bp ?_)
 refine Jv.pure _ _ 3 _ _ rfl (by kernel_rfl) (by kernel_rfl) rfl (.opt _ (.fn _ _ _) [] rfl (rX.all trivial) (fun hG=>Bj (v:=.fn _ _ _) rfl) rfl) ?_
 refine Jv.effg _ _ 4 _ _ [(17,_)] _ _ rfl (by kernel_rfl) rfl rfl (rX.all ⟨Ent.Aac _ _,trivial⟩) (fun hG=>Je (by kernel_rfl) rfl rfl rfl (Dv.front2 (R:=_) 1 0 rfl rfl rfl (d_eachF T V l hlk b6 b9 (I9 T V l []).1 (bO l [] Vw) _))) (fun hG=>rfl) (List.mem_of_getElem? (i:=0) rfl) ?_
 refine Qn 5 rfl E1 (Qn 6 rfl N8 (Qn 7 rfl Be ?_))
 refine Jv.done _ _ (by kernel_rfl) ?_
 refine Ae (AW.ret ?_)
 refine ⟨.inr rfl,[.val _,.bool _],.cons (.tmp _ _ rfl) <| .cons (.tmp _ _ rfl) <| .nil,_,.cons _ (.refl _),?_⟩
 exact ⟨b9,rfl,rfl⟩
theorem xX (T:List Sc)(V:List Va)(l:List Lit)(hlk:Ve T V l)(hs:SOLV T V l):Av Tryz.prog 145 [.agg (Tw (C5 T V l))] (.tuple [.bool (Ew (C5 T V l)).ok,.sl 1 ((Ew (C5 T V l)).values.map cI),.junk,.int .i64 (Ew (C5 T V l)).err]):=
 f_Solve (zN T V l) (C5 T V l).bs (P9 hlk) hs
theorem zO (T:List Sc)(V:List Va)(l:List Lit)(hlk:Ve T V l)(hll:l.length≤4096)(hs:SOLV T V l)(H:List HO):Dv Tryz.prog 103 H [.agg (Co T V),.sl 9 (l.map G3)] (fun r H'=>∃m mo,(I8 (C5 T V l)=true→mo=some m)∧r = .tuple [.agg [.ptr (rK T V l),.sl 1 ((Li T V l).map cI),.val (.map mo)],.bool (Qk T V l)]∧H' = .kmap m (wE (Ef T V l).1)::H):=by
 refine Dv.body (n:=45) Ai Tryz.func103 rfl rfl rfl ?_
 refine Ah (Qp (F5 [_,_]) ?_)
 refine Qe (Al (l:=[.val (.pointer none),.sl 1 [],.val (.map none)]) (by kernel_rfl)) ?_
 rintro _ _ ⟨b4,rfl,rfl⟩
 refine Qp Be (Df (Qp (Ck [_,_]) (Qp C4 ?_)))
 refine Qp (Qc rfl (iE T V l hll hlk)) ?_
 refine Qp Qap (Df (Qp (Ck [_,_]) (Qp C4 ?_)))
 refine Qe (Fo (by kernel_rfl) rfl rfl (rQ T V l hlk _)) ?_
 rintro _ _ ⟨m,rfl,rfl⟩
 refine Qp Mv (Qp Qxv (Qp eN (Qp N8 (Qp Be (Ag (AW.seq (Ah (Qp zH ?_))))))))
 refine Qp (Qc rfl (mL T V l)) ?_
 refine Qp Ge (Ag (A3 (fun hc1=>?_) fun hc1=>?_))
 ·
  refine Ah (Qp zH (Qp (Ep [_,_,_]) ?_))
  refine Cm 1 [_,_,_] (_::_::_) ?_
  refine Qp Be (Ag (Dr ?_))
  refine ⟨.inr rfl,[.agg [_,_,_],.bool _],.cons (.box _ _ _ 1 _ _ _ _ rfl rfl rfl rfl rfl rfl) <| .cons (.tmp _ _ rfl) <| .nil,_,.cons_cons _ (.cons _ (.refl _)),?_⟩
  exact ⟨m,_,fun h=>absurd ((Bool.not_eq_true' _).mp hc1) (by rw [h];decide),Eq.trans rfl (congrArg (fun q:List Int×Bool=>AV.tuple [.agg [.ptr (rK T V l),.sl 1 (q.1.map cI),.val (.map none)],.bool q.2]) (Prod.ext (solV_1 hc1) (uJ hc1):(Li T V l,Qk T V l)=([],true))).symm,rfl⟩
 ·
  refine Bx (Ah (Qp zH ?_))
  refine Qp (Gz rfl) ?_
  refine Qp (Qf [Iq _,_,_,_]) (Qp (Ck [Iq _,_]) ?_)
  refine Qp (Qc rfl (xX T V l hlk hs)) ?_
  refine Qp Mv (Qp eN (Qp Qxs ?_))
  refine Qp (Cb (v:=.junk) rfl rfl) ?_
  refine Qp Jn (Qp Be (Qp Wj ?_))
  refine Qp (C2 (v:=.junk) rfl) ?_
  refine Qp At (Df (Qp zH (Qp C4 (Qp H0 (Qp (Ep [_,_,_]) (Qp Bp (Qp Bp (Qg [] Qw Bp (Qp E1 ?_)))))))))
  refine Cm 1 [_,_,_] (_::_::_) ?_
  refine Qp Be (Ag (AW.ret ?_))
  refine ⟨.inr rfl,[.agg [_,_,_],.bool _],.cons (.box _ _ _ 1 _ _ _ _ rfl rfl rfl rfl rfl rfl) <| .cons (.tmp _ _ rfl) <| .nil,_,.cons_cons _ (.cons _ (.refl _)),?_⟩
  exact ⟨m,_,fun _=>rfl,Eq.trans rfl (congrArg (fun q:List Int×Bool=>AV.tuple [.agg [.ptr (rK T V l),.sl 1 (q.1.map cI),.val (.map (some m))],.bool q.2]) (Prod.ext (lP hc1) (dC hc1):(Li T V l,Qk T V l)=(_,_))).symm,rfl⟩
theorem tF (T:List Sc)(V:List Va)(l:List Lit)(hlk:Ve T V l)(hll:l.length≤1048576)(v:List Int)(mo:Option Nat):Av Tryz.prog 104 [.agg (Co T V),.sl 9 (l.map G3),.agg [.ptr (rK T V l),.sl 1 (v.map cI),.val (.map mo)]] (.bool (Lj T V l)):=by
 refine Av.body (n:=29) Ai Tryz.func104 rfl rfl rfl fun H=>?_
 refine Ah (Qp (F5 [_,_]) (Qp (F5 [_,_,_]) (Qp Be (Ag (AW.seq (Ah (Qp C4 ?_)))))))
 refine Qp (Ak (n:=l.length) Ai rfl rfl rfl (by simp)) ?_
 refine Qp A0 (Ag (AW.block ?_))
 refine AW.Aae (fun (k:Nat)=>(⟨[(1,.sl 9 (l.map G3)),(3,.ptr (Co T V)),(5,.ptr [.ptr (rK T V l),.sl 1 (v.map cI),.val (.map mo)]),(9,.sl 9 (l.map G3)),(10,.int .i64 l.length),(11,.int .i64 (k:Int))],H,29⟩:St)) (fun (k:Nat)=>k≤l.length∧(l.take k).all (fun c=>B5 T V c.cond)=true) (fun (k:Nat)=>l.length-k) (0) ?_ (GS.weaken ⟨rfl,rfl,rfl,rfl,rfl,rfl,trivial⟩ (.refl _)) ?_
 · simp
 ·
  rintro k hR
  refine Ah (Qp Cj (Ag (AW.seq (A3 (fun hc1=>?_) fun hc1=>?_))))
  ·
   obtain ⟨c,hc⟩:=B2 hc1
   have hlt:=A9 hc
   have hcm:=List.mem_of_getElem? hc
   have hck:=(hlk c hcm).1
   have hcs:=Nat.le_trans (hlk c hcm).2 (by decide:64≤1048576)
   refine Bx (AW.seq (AW.block (Ah ?_)))
   refine Qp (Af (c:=[Iq _,_,Iq _,Iq _,Iq _,Iq _,Iq _,.str _,.bool _]) Ai rfl rfl rfl rfl rfl rfl (by omega) (Bh hc)) ?_
   refine Qp (Ck [Iq _,_,Iq _,Iq _,Iq _,Iq _,Iq _,.str _,.bool _]) ?_
   refine Qe (Al (l:=[.int .i64 0,.sl 8 [],.int .i64 0,.int .i64 0,.int .i64 0,.int .i64 0,.int .i64 0,.str [],.bool false]) (by kernel_rfl)) ?_
   rintro _ _ ⟨b8,rfl,rfl⟩
   refine Cm 0 [Iq _,_,Iq _,Iq _,Iq _,Iq _,Iq _,.str _,.bool _] (_::_) ?_
   refine AOL.ghost (GS.Aad (t:=8) 0 rfl rfl) ?_
   refine Df (Qp (Ck [_,_]) (Qp (Qf [Iq _,_,Iq _,Iq _,Iq _,Iq _,Iq _,.str _,.bool _]) (Qp D0 ?_)))
   refine Qp (Qc rfl (R4 T V c.cond hck hcs)) ?_
   refine Qp Ge (Ag (A3 (fun hc2=>?_) fun hc2=>?_))
   ·
    refine Ah (Qp Be (Ag (AW.ret (Ba (Aj (Aj (Ba (Aj ?_))))))))
    refine Qr (.bool _) ?_
    exact Eq.trans rfl (congrArg AV.bool (zL hc ((Bool.not_eq_true' _).mp hc2))).symm
   ·
    refine AW.skip (Bq (Ae (AW.region (Qp Fv (Qp A0 (Ag ?_))))))
    refine ⟨k+1,?_,?_,GS.weaken ⟨rfl,rfl,rfl,rfl,rfl,rfl,trivial⟩ (.refl _)⟩
    · exact ⟨hlt,by rw [Cq hc,List.all_append,hR.2];simpa using hc2⟩
    · omega
  ·
   have hte:=C3 hc1
   have hall:=hR.2
   rw [hte] at hall
   refine AW.exit ?_
   refine A6 (A6 (Bv (Ae (Ah (Qp (Qf [_,_,_]) (Qp Qlp ?_))))))
   refine Qp (Qc rfl (mL T V l)) ?_
   refine Qp Bp (Qg [] Qw C4 ?_)
   refine AOL.Aaf (y:=Iq _) _ [(25,_)] rfl (rX.all ⟨Ent.Aac _ _,trivial⟩) (fun hG=>Ak (n:=l.length) Ai rfl rfl rfl (by simp)) rfl ?_
   refine Qg [(26,_)] Qw Nx (Qp E1 (Qp Be (Ag (AW.ret ?_))))
   refine Qr (.bool _) ?_
   exact Eq.trans rfl (congrArg AV.bool (yW hall)).symm

set_option maxHeartbeats 1600000
set_option maxRecDepth 20000

theorem pU (T:List Sc)(V:List Va)(bo:Nat)(v:Value)(l:Es)(hev:evOK T V (l.map Prod.fst))(t:Tm)(ht:tmOK T V t)(ho1:t.op=1)(s:Fr)(R:List HO):Dv Tryz.prog 147 (Y4 bo v l R) [.agg (H9 t),.str s,.val (.pointer (some ⟨bo,0,none⟩))] (fun r H'=>r = .tuple []∧H'=Y4 bo v (l.modify t.v.toNat fun p=>(V3 p.1 t.field.toNat (fun y=>{ y with text:=s }),p.2)) R):=by
 refine Dv.body (n:=16) Ai Tryz.func147 rfl rfl rfl ?_
 refine AW.ghostPost ?_
 refine Ah (Qp (F5 [Iq _,Iq _,Iq _]) (Ag ?_))
 refine (mI hev ht).elim fun e he=>he.elim fun u hu=>?_
 have hj:=hu.1
 have hel:=hu.2.1
 have hll:=hu.2.2
 have hv0:=ht.v0
 have hv1:=ht.v1
 have hfr:=ht.f ho1
 refine (oB ht ho1 hel).elim fun y hy=>?_
 have hyl:=A9 hy
 refine AW.ghost (GS.perm (lF hj)) ?_
 refine AW.unbuf (v:=u) (es:=e.values.map cV) (E:=28) (z:=3) 0 rfl (Wr hy) fun bi capi Ji hui hcapi hcmi hJi hzi=>?_
 subst hui
 refine AW.unbuf (v:=v) (es:=l.map Cv) (E:=67) (z:=5) 1 rfl (Wr hj) fun bb cap J hub hcap hcm hJ hzo=>?_
 subst hub
 have hrow:(l.map Cv)[t.v.toNat]? = some (Cv (e,.slice (some ⟨bi,0,none⟩) (e.values.map cV).length capi)):=by rw [List.getElem?_map,hj];rfl
 refine AW.draw mixed (fun H'=>_∈H'∧_∈H') ⟨(List.mem_of_getElem? (i:=2) rfl),(List.mem_of_getElem? (i:=1) rfl)⟩ (by kernel_rfl) ?_
 refine Qn 0 rfl (OpP.Aah (fun k=>Ax (k:=k) (c:=.val _) Ai rfl rfl rfl rfl) (fun _ h=>h.1)) ?_
 refine Qn 1 rfl (Qf [Iq _,Iq _]) (Qn 2 rfl Bs ?_)
 refine Qn 3 rfl (B8 (o':=t.v.toNat*5) Ai rfl rfl rfl rfl rfl (hv0) (by rw [List.length_map];omega) (Nat.zero_add _)) ?_
 refine Qn 4 rfl Ir ?_
 refine Qn 5 rfl (OpP.Aah (fun k=>Ax (k:=k) (c:=.val (.slice (some ⟨bi,0,none⟩) (e.values.map cV).length capi)) Ai rfl rfl rfl (Xj (o:=4) (J2 l) hrow rfl)) (fun _ h=>h.2)) ?_
 refine Qn 6 rfl (Qf [Iq _]) (Qn 7 rfl Bs (Qn 8 rfl eE ?_))
 refine Qn 9 rfl (B8 (o':=t.field.toNat*3) Ai rfl rfl rfl rfl rfl (hfr.1) (by rw [List.length_map];omega) (Nat.zero_add _)) ?_
 refine Qn 10 rfl Ir ?_
 refine Jv.last _ _ 11 _ _ rfl (by kernel_rfl) rfl rfl (C6 (k:=0) (v:=.str _) (cs':=_) (H2:=_::_::_::_) Ai rfl rfl rfl rfl rfl rfl (Tx (o:=2) (Pg _) (by rw [List.getElem?_map,hy];rfl) (by decide)) (R9 (o:=2) (e:=cV y) (x:=.str s) (Pg _) (by rw [List.getElem?_map,hy];rfl) (by decide)) rfl) (by kernel_rfl) ?_
 rintro _ _ ⟨rfl,rfl⟩
 refine ⟨_,uT hj hy (f:=fun y=>{ y with text:=s }) rfl hcap hcm hJ hcapi hcmi hJi,.inl rfl,[],.nil,_,.refl _,?_⟩
 exact ⟨rfl,rfl⟩

end Go.Proofs.YtkddpedfbicbeaaGreatDoor
