/-
  Several texts in one: Y8d, Y9b, Y10. No condition.
-/
import Derived.Test.YtkddpedfbicbeaaGreatDoorAz
import Derived.Test.YtkddpedfbicbeaaGreatDoorK20
import Derived.Test.YtkddpedfbicbeaaGreatDoorK36
import Derived.KernelRfl
import Derived.Test.YtkddpedfbicbeaaGreatDoorY9
import Derived.Test.YtkddpedfbicbeaaGreatDoorK21
set_option linter.unusedVariables false
set_option linter.unusedSimpArgs false
namespace Go.Proofs.YtkddpedfbicbeaaGreatDoor
open Go Go.Aw
set_option maxHeartbeats 1600000
set_option maxRecDepth 20000

theorem wR (n:Nat)(bs:List Bd)(hm:∀b∈bs,-Jm≤b.most∧b.most≤Jm)(hW:(I1 (zn n bs) != 0)=false→decide ((Ed (zn n bs)).2<0)=false→Nx n bs=true)(hE:decide ((Ed (zn n bs)).2<0)=true):Ar Tryz.prog 145 [.agg (Th (zn n bs))] (.tuple [.bool (Er (zn n bs)).ok,.sl 1 ((Er (zn n bs)).values.map cI),.junk,.int .i64 (Er (zn n bs)).err]):=by
 refine Ar.body (n:=41) Ai Tryz.func145 rfl rfl rfl fun H=>?_
 refine Ah (Qp (Fx [Iq _,_]) (Qp Bc (Qp Oc (Qp Oc (Qp Ap (Ag (AW.seq (Ah (Qp (Cd [Iq _,_]) ?_)))))))))
 refine Qp (Qc rfl (oH (zn n bs))) ?_
 refine Qp Ap (Db (Qp Az (Qp Ci (Ag (A2 (fun hc1=>?_) fun hc1=>?_)))))
 ·
  refine Ah (Qp Az (Qp Bc ?_))
  refine Qp (Bz (z:=1) rfl) ?_
  refine Qp (Bz (z:=1) rfl) ?_
  refine Qp Ap ?_
  refine AOL.ghost (GS.weaken (sl':=[(2,_),(3,_),(5,_)]) ⟨rfl,rfl,rfl,trivial⟩ (.refl _)) ?_
  refine Ag (Dq ?_)
  refine ⟨.inr rfl,[.bool _,.sl _ _,.junk,Iq _],.cons (.tmp _ _ rfl) <| .cons (.tmp _ _ rfl) <| .cons (.tmp _ _ rfl) <| .cons (.tmp _ _ rfl) <| .nil,.refl _,?_⟩
  exact Eq.trans rfl (congrArg (fun q:So=>AV.tuple [.bool q.ok,.sl 1 (q.values.map cI),.junk,.int .i64 q.err]) (V8 hc1)).symm
 ·
  have hz:=mR hc1 hm
  have hn1:=hz.n1
  have hn64:=hz.n64
  have hok:=kI hz
  have hi0:=hok.ix (Int.le_refl 0) (by omega)
  refine Bv (Ah (Qp (Cd [Iq _,_]) ?_))
  refine Qe (Fp (by kernel_rfl) rfl rfl ((nH n bs hz (fun h=>absurd (hE.symm.trans h) (by decide)) _).mono' (fun r K h=>Eq.mp (if_pos hE) h))) ?_
  rintro _ _ ⟨b18,rfl,rfl⟩
  refine Qp Lv (Qp Qxv (Qp Qxv (Qp Oc (Qp Oc (Ag (AW.seq (Ah (Qp Hw ?_))))))))
  refine Qp (pQ Ai rfl rfl rfl) ?_
  refine Ag (A2 (fun hc2=>?_) fun hc2=>?_)
  ·
   cases hc2
  ·
   refine Bv (Ah (Qp Hw ?_))
   refine Qp (B7 Ai rfl rfl rfl rfl rfl (Int.le_refl 0) (by omega) (rfl)) ?_
   refine AOL.Aay (At (k:=0) (c:=.int .i64 (Eu (Ed (zn n bs)).1.sums 0)) Ai rfl rfl rfl (Yz (Int.le_refl 0) (by rw [hok.s];omega))) rfl rfl ?_
   refine Qp Ap (Ag (AW.seq (Ah (Qp Hw ?_))))
   refine Qp (aQ Ai rfl rfl rfl) ?_
   refine Qp Az (Ag (AW.block ?_))
   refine AW.Aau (fun (p:Nat)=>(⟨[(7,.val (.slice (some ⟨b18,0,none⟩) n n)),(9,.int .i64 (Eu (Ed (zn n bs)).1.sums 0)),(28,.int .i64 (n:Int)),(29,.int .i64 (p:Int))],.box b18 3 (bI (Yu (Ed (zn n bs)).1.sums p))::H,41⟩:St)) (fun (p:Nat)=>p≤n) (fun (p:Nat)=>n-p) (0) ?_ (GS.weaken ⟨rfl,rfl,rfl,rfl,trivial⟩ (.refl _)) ?_
   · exact Nat.zero_le _
   ·
    rintro p hR
    refine Ah (Qp Cf (Ag (AW.seq (A2 (fun hc3=>?_) fun hc3=>?_))))
    ·
     have hlt:p<n:=by have:=of_decide_eq_true hc3;omega
     have hi1:=hok.ix (k:=(p:Int)) (by omega) (by omega)
     refine Bv (AW.seq (AW.block (Ah (Qp Az (Qp Ap (Ag (AW.region (Qp Hw (Qp Az ?_)))))))))
     refine Qp (B7 (o':=(p:Int).toNat) Ai rfl rfl rfl rfl rfl (by omega) (by omega) (cC _)) ?_
     refine AOL.Aay (At (k:=0) (c:=.int .i64 (Eu (Ed (zn n bs)).1.sums (p:Int))) Ai rfl rfl rfl ((Yz (k:=(p:Int)) (by omega) (by rw [Yt (by rw [hok.s];omega),hok.s];omega)).trans (congrArg (fun v=>some (AV.int .i64 v)) (zQ (by rw [hok.s];exact hlt))))) rfl rfl ?_
     refine Qp Az ?_
     refine Qp (Z9 rfl rfl rfl (by constructor <;> omega)) ?_
     refine Qp (B7 (o':=p) Ai rfl rfl rfl rfl rfl (by omega) (by omega) (cC _)) ?_
     refine Qe (C6 (k:=0) (v:=Iq _) (cs':=bI (Yu (Ed (zn n bs)).1.sums (p+1))) (H2:=_::_) Ai rfl rfl rfl rfl rfl rfl (dV (by rw [Yt (by rw [hok.s];omega),hok.s];exact hlt)) ((bG (by rw [Yt (by rw [hok.s];omega),hok.s];exact hlt)).trans (congrArg bI (yI (by rw [hok.s];exact hlt)))) rfl) ?_
     rintro _ _ ⟨rfl,rfl⟩
     refine AOL.nil (Bp (Ae (AW.region (Qp Fu (Qp Az (Ag ?_))))))
     refine ⟨p+1,?_,?_,GS.weaken ⟨rfl,rfl,rfl,rfl,trivial⟩ (.refl _)⟩
     · exact hlt
     · omega
    ·
     have hkn:(Ed (zn n bs)).1.sums.length≤p:=by rw [hok.s];have:=of_decide_eq_false hc3;omega
     refine AW.exit ?_
     refine A3 (A3 (Bq (Ae (Ah (Qp Hw (Qp Bc (Qp Oc (Qp Oc (Qp Ap ?_)))))))))
     refine AOL.ghost (GS.freezeSl (t:=3) (z:=1) (es:=((Ed (zn n bs)).1.sums.map (fun v=>v-Eu (Ed (zn n bs)).1.sums 0)).map cI) 0 rfl rfl ((bI_flat _).trans (congrArg bI (sL hkn).symm)) (by rw [List.length_map,List.length_map];exact hok.s.symm) (Nat.le_refl _) (by unfold maxLen;omega) (uG (fun _=>rfl) _) slot_is) ?_
     refine AOL.ghost (GS.weaken (sl':=[(2,_),(3,_),(5,_)]) ⟨rfl,rfl,rfl,trivial⟩ (.refl _)) ?_
     refine Ag (AW.ret ?_)
     refine ⟨.inr rfl,[.bool _,.sl _ _,.junk,Iq _],.cons (.tmp _ _ rfl) <| .cons (.tmp _ _ rfl) <| .cons (.tmp _ _ rfl) <| .cons (.tmp _ _ rfl) <| .nil,.refl _,?_⟩
     exact Eq.trans rfl (congrArg (fun q:So=>AV.tuple [.bool q.ok,.sl 1 (q.values.map cI),.junk,.int .i64 q.err]) (V7 hc1 hE)).symm
theorem vW (n:Nat)(bs:List Bd)(hm:∀b∈bs,-Jm≤b.most∧b.most≤Jm)(hW:(I1 (zn n bs) != 0)=false→decide ((Ed (zn n bs)).2<0)=false→Nx n bs=true)(hE:decide ((Ed (zn n bs)).2<0)=false):Ar Tryz.prog 145 [.agg (Th (zn n bs))] (.tuple [.bool (Er (zn n bs)).ok,.sl 1 ((Er (zn n bs)).values.map cI),.junk,.int .i64 (Er (zn n bs)).err]):=by
 refine Ar.body (n:=41) Ai Tryz.func145 rfl rfl rfl fun H=>?_
 refine Ah (Qp (Fx [Iq _,_]) (Qp Bc ?_))
 refine Qp (Bz (z:=1) rfl) ?_
 refine Qp (Bz (z:=1) rfl) ?_
 refine Qp Ap (Ag (AW.seq (Ah (Qp (Cd [Iq _,_]) ?_))))
 refine Qp (Qc rfl (oH (zn n bs))) ?_
 refine Qp Ap (Db (Qp Az (Qp Ci (Ag (A2 (fun hc1=>?_) fun hc1=>?_)))))
 ·
  refine Ah (Qp Az (Qp Bc ?_))
  refine Qp (Bz (z:=1) rfl) ?_
  refine Qp (Bz (z:=1) rfl) ?_
  refine Qp Ap ?_
  refine AOL.ghost (GS.weaken (sl':=[(2,_),(3,_),(5,_)]) ⟨rfl,rfl,rfl,trivial⟩ (.refl _)) ?_
  refine Ag (Dq ?_)
  refine ⟨.inr rfl,[.bool _,.sl _ _,.junk,Iq _],.cons (.tmp _ _ rfl) <| .cons (.tmp _ _ rfl) <| .cons (.tmp _ _ rfl) <| .cons (.tmp _ _ rfl) <| .nil,.refl _,?_⟩
  exact Eq.trans rfl (congrArg (fun q:So=>AV.tuple [.bool q.ok,.sl 1 (q.values.map cI),.junk,.int .i64 q.err]) (V8 hc1)).symm
 ·
  have hz:=mR hc1 hm
  refine Bv (Ah (Qp (Cd [Iq _,_]) ?_))
  refine Qe (Fp (by kernel_rfl) rfl rfl ((nH n bs hz (fun h=>hW hc1 h) _).mono' (fun r K h=>Eq.mp (if_neg (by rw [hE];decide)) h))) ?_
  rintro _ _ ⟨es,hne,rfl,rfl⟩
  refine Qp Lv (Qp Qxv (Qp Qxs (Qp Oc (Qp Xa (Ag (AW.seq (Ah (Qp C5 ?_))))))))
  refine Qp (sX Ai rfl hne rfl rfl) ?_
  refine Ag (A2 (fun hc2=>?_) fun hc2=>?_)
  ·
   refine Ah (Qp C5 (Qp Bc ?_))
   refine Qp (Bz (z:=1) rfl) ?_
   refine Qp Xa (Qp Ap ?_)
   refine AOL.ghost (GS.weaken (sl':=[(2,_),(3,_),(5,_)]) ⟨rfl,rfl,rfl,trivial⟩ (.refl _)) ?_
   refine Ag (Dq ?_)
   refine ⟨.inr rfl,[.bool _,.sl _ _,.junk,Iq _],.cons (.tmp _ _ rfl) <| .cons (.tmp _ _ rfl) <| .cons (.tmp _ _ rfl) <| .cons (.tmp _ _ rfl) <| .nil,.refl _,?_⟩
   exact Eq.trans rfl (congrArg (fun q:So=>AV.tuple [.bool q.ok,.sl 1 (q.values.map cI),.junk,.int .i64 q.err]) (cK hc1 hE)).symm
  ·
   cases hc2
theorem f_Solve (n:Nat)(bs:List Bd)(hm:∀b∈bs,-Jm≤b.most∧b.most≤Jm)(hW:(I1 (zn n bs) != 0)=false→decide ((Ed (zn n bs)).2<0)=false→Nx n bs=true):Ar Tryz.prog 145 [.agg (Th (zn n bs))] (.tuple [.bool (Er (zn n bs)).ok,.sl 1 ((Er (zn n bs)).values.map cI),.junk,.int .i64 (Er (zn n bs)).err]):=by
 cases hE:decide ((Ed (zn n bs)).2<0) with
 | true=>exact wR n bs hm hW hE
 | false=>exact vW n bs hm hW hE

set_option maxHeartbeats 1600000
set_option maxRecDepth 20000

theorem rY (T:List Sc)(V:List Va)(l:List Lit)(hlk:Un T V l)(H:List HO):Dr Tryz.prog 144 H [.agg (Cj T V),.sl 9 (l.map Gw)] (fun r H'=>∃m,r = .tuple [.val (.map (some m)),.bool (Eg T V l).2]∧H' = .kmap m (wE (Eg T V l).1)::H):=by
 refine Dr.body (n:=20) Ai Tryz.func144 rfl rfl rfl ?_
 refine Ah (Qp (Fx [_,_]) ?_)
 refine Qp (aO (v:=.sl _ _) (cs:=[_]) rfl rfl rfl) ?_
 refine Qp Oc (Qp Bc (Db ?_))
 refine Qe (Nr) ?_
 rintro _ _ ⟨b9,rfl,rfl⟩
 refine Qe (Aj (l:=[.val (.map none)]) (by kernel_rfl)) ?_
 rintro _ _ ⟨b6,rfl,rfl⟩
 refine Cq 0 [_] (_::_::_) ?_
 refine Db ?_
 refine Qp (Be (l:=[]) (l':=[.ptr _,.ptr _,.val _]) rfl rfl) ?_
 refine Qp (C8 (v:=.fn _ _ _) rfl) ?_
 refine Db ?_
 refine Qp (Bk (v:=.fn _ _ _) rfl) ?_
 refine Qp (Be (l:=[]) (l':=[.val _]) rfl rfl) ?_
 refine Qe (Jh (by kernel_rfl) rfl rfl rfl (Dr.front2 (R:=_) 1 0 rfl rfl rfl (zY T V l hlk b6 b9 _))) ?_
 rintro _ _ ⟨rfl,rfl⟩
 refine Qp Bc (Ag (AW.seq ?_))
 refine AW.draw mixed (fun H'=>_∈H') (List.mem_of_getElem? (i:=0) rfl) (by kernel_rfl) ?_
 refine Qn 0 rfl (OpP.Aax (fun k=>At (k:=k) (c:=.val _) Ai rfl rfl rfl rfl) (fun _ h=>h)) ?_
 refine Qn 1 rfl Bm (Qn 2 rfl Bm ?_)
 refine Js.pure _ _ 3 _ _ rfl (by kernel_rfl) (by kernel_rfl) rfl (.opt _ (.fn _ _ _) [] rfl (sB.all trivial) (fun hG=>Bk (v:=.fn _ _ _) rfl) rfl) ?_
 refine Js.effg _ _ 4 _ _ [(17,_)] _ _ rfl (by kernel_rfl) rfl rfl (sB.all ⟨tO.self _ _,trivial⟩) (fun hG=>Jh (by kernel_rfl) rfl rfl rfl (Dr.front2 (R:=_) 1 0 rfl rfl rfl (Aad T V l hlk b6 b9 (Jb T V l []).1 (dG l [] Vz) _))) (fun hG=>rfl) (List.mem_of_getElem? (i:=0) rfl) ?_
 refine Qn 5 rfl Em (Qn 6 rfl Oc (Qn 7 rfl Bc ?_))
 refine Js.done _ _ (by kernel_rfl) ?_
 refine Ae (AW.ret ?_)
 refine ⟨.inr rfl,[.val _,.bool _],.cons (.tmp _ _ rfl) <| .cons (.tmp _ _ rfl) <| .nil,_,.cons _ (.refl _),?_⟩
 exact ⟨b9,rfl,rfl⟩
theorem uV (T:List Sc)(V:List Va)(l:List Lit)(hlk:Un T V l)(hs:SOLV T V l):Ar Tryz.prog 145 [.agg (Th (C2 T V l))] (.tuple [.bool (Er (C2 T V l)).ok,.sl 1 ((Er (C2 T V l)).values.map cI),.junk,.int .i64 (Er (C2 T V l)).err]):=
 f_Solve (zN T V l) (C2 T V l).bs (Pz hlk) hs
theorem zL (T:List Sc)(V:List Va)(l:List Lit)(hlk:Un T V l)(hll:l.length≤4096)(hs:SOLV T V l)(H:List HO):Dr Tryz.prog 103 H [.agg (Cj T V),.sl 9 (l.map Gw)] (fun r H'=>∃m mo,(In (C2 T V l)=true→mo=some m)∧r = .tuple [.agg [.ptr (rO T V l),.sl 1 ((Lu T V l).map cI),.val (.map mo)],.bool (Qb T V l)]∧H' = .kmap m (wE (Eg T V l).1)::H):=by
 refine Dr.body (n:=45) Ai Tryz.func103 rfl rfl rfl ?_
 refine Ah (Qp (Fx [_,_]) ?_)
 refine Qe (Aj (l:=[.val (.pointer none),.sl 1 [],.val (.map none)]) (by kernel_rfl)) ?_
 rintro _ _ ⟨b4,rfl,rfl⟩
 refine Qp Bc (Db (Qp (Cd [_,_]) (Qp C5 ?_)))
 refine Qp (Qc rfl (fR T V l hll hlk)) ?_
 refine Qp Qap (Db (Qp (Cd [_,_]) (Qp C5 ?_)))
 refine Qe (Fp (by kernel_rfl) rfl rfl (rY T V l hlk _)) ?_
 rintro _ _ ⟨m,rfl,rfl⟩
 refine Qp Lv (Qp Qxv (Qp dK (Qp Oc (Qp Bc (Ag (AW.seq (Ah (Qp zG ?_))))))))
 refine Qp (Qc rfl (kQ T V l)) ?_
 refine Qp Ge (Ag (A2 (fun hc1=>?_) fun hc1=>?_))
 ·
  refine Ah (Qp zG (Qp (El [_,_,_]) ?_))
  refine Cq 1 [_,_,_] (_::_::_) ?_
  refine Qp Bc (Ag (Dq ?_))
  refine ⟨.inr rfl,[.agg [_,_,_],.bool _],.cons (.box _ _ _ 1 _ _ _ _ rfl rfl rfl rfl rfl rfl) <| .cons (.tmp _ _ rfl) <| .nil,_,.cons_cons _ (.cons _ (.refl _)),?_⟩
  exact ⟨m,_,fun h=>absurd ((Bool.not_eq_true' _).mp hc1) (by rw [h];decide),Eq.trans rfl (congrArg (fun q:List Int×Bool=>AV.tuple [.agg [.ptr (rO T V l),.sl 1 (q.1.map cI),.val (.map none)],.bool q.2]) (Prod.ext (solV_1 hc1) (yM hc1):(Lu T V l,Qb T V l)=([],true))).symm,rfl⟩
 ·
  refine Bv (Ah (Qp zG ?_))
  refine Qp (Gt rfl) ?_
  refine Qp (Qf [Iq _,_,_,_]) (Qp (Cd [Iq _,_]) ?_)
  refine Qp (Qc rfl (uV T V l hlk hs)) ?_
  refine Qp Lv (Qp dK (Qp Qxs ?_))
  refine Qp (Ch (v:=.junk) rfl rfl) ?_
  refine Qp Ih (Qp Bc (Qp Xa ?_))
  refine Qp (C8 (v:=.junk) rfl) ?_
  refine Qp Ap (Db (Qp zG (Qp C5 (Qp Hw (Qp (El [_,_,_]) (Qp Bm (Qp Bm (Qg [] Qw Bm (Qp Em ?_)))))))))
  refine Cq 1 [_,_,_] (_::_::_) ?_
  refine Qp Bc (Ag (AW.ret ?_))
  refine ⟨.inr rfl,[.agg [_,_,_],.bool _],.cons (.box _ _ _ 1 _ _ _ _ rfl rfl rfl rfl rfl rfl) <| .cons (.tmp _ _ rfl) <| .nil,_,.cons_cons _ (.cons _ (.refl _)),?_⟩
  exact ⟨m,_,fun _=>rfl,Eq.trans rfl (congrArg (fun q:List Int×Bool=>AV.tuple [.agg [.ptr (rO T V l),.sl 1 (q.1.map cI),.val (.map (some m))],.bool q.2]) (Prod.ext (kH hc1) (cN hc1):(Lu T V l,Qb T V l)=(_,_))).symm,rfl⟩
theorem tA (T:List Sc)(V:List Va)(l:List Lit)(hlk:Un T V l)(hll:l.length≤1048576)(v:List Int)(mo:Option Nat):Ar Tryz.prog 104 [.agg (Cj T V),.sl 9 (l.map Gw),.agg [.ptr (rO T V l),.sl 1 (v.map cI),.val (.map mo)]] (.bool (Jq T V l)):=by
 refine Ar.body (n:=29) Ai Tryz.func104 rfl rfl rfl fun H=>?_
 refine Ah (Qp (Fx [_,_]) (Qp (Fx [_,_,_]) (Qp Bc (Ag (AW.seq (Ah (Qp C5 ?_)))))))
 refine Qp (Ak (n:=l.length) Ai rfl rfl rfl (by simp)) ?_
 refine Qp Az (Ag (AW.block ?_))
 refine AW.Aau (fun (k:Nat)=>(⟨[(1,.sl 9 (l.map Gw)),(3,.ptr (Cj T V)),(5,.ptr [.ptr (rO T V l),.sl 1 (v.map cI),.val (.map mo)]),(9,.sl 9 (l.map Gw)),(10,.int .i64 l.length),(11,.int .i64 (k:Int))],H,29⟩:St)) (fun (k:Nat)=>k≤l.length∧(l.take k).all (fun c=>Bt T V c.cond)=true) (fun (k:Nat)=>l.length-k) (0) ?_ (GS.weaken ⟨rfl,rfl,rfl,rfl,rfl,rfl,trivial⟩ (.refl _)) ?_
 · simp
 ·
  rintro k hR
  refine Ah (Qp Cf (Ag (AW.seq (A2 (fun hc1=>?_) fun hc1=>?_))))
  ·
   obtain ⟨c,hc⟩:=B1 hc1
   have hlt:=A8 hc
   have hcm:=List.mem_of_getElem? hc
   have hck:=(hlk c hcm).1
   have hcs:=Nat.le_trans (hlk c hcm).2 (by decide:64≤1048576)
   refine Bv (AW.seq (AW.block (Ah ?_)))
   refine Qp (Af (c:=[Iq _,_,Iq _,Iq _,Iq _,Iq _,Iq _,.str _,.bool _]) Ai rfl rfl rfl rfl rfl rfl (by omega) (Bg hc)) ?_
   refine Qp (Cd [Iq _,_,Iq _,Iq _,Iq _,Iq _,Iq _,.str _,.bool _]) ?_
   refine Qe (Aj (l:=[.int .i64 0,.sl 8 [],.int .i64 0,.int .i64 0,.int .i64 0,.int .i64 0,.int .i64 0,.str [],.bool false]) (by kernel_rfl)) ?_
   rintro _ _ ⟨b8,rfl,rfl⟩
   refine Cq 0 [Iq _,_,Iq _,Iq _,Iq _,Iq _,Iq _,.str _,.bool _] (_::_) ?_
   refine AOL.ghost (GS.Aat (t:=8) 0 rfl rfl) ?_
   refine Db (Qp (Cd [_,_]) (Qp (Qf [Iq _,_,Iq _,Iq _,Iq _,Iq _,Iq _,.str _,.bool _]) (Qp Dh ?_)))
   refine Qp (Qc rfl (Ph T V c.cond hck hcs)) ?_
   refine Qp Ge (Ag (A2 (fun hc2=>?_) fun hc2=>?_))
   ·
    refine Ah (Qp Bc (Ag (AW.ret (A9 (Al (Al (A9 (Al ?_))))))))
    refine Qr (.bool _) ?_
    exact Eq.trans rfl (congrArg AV.bool (cert_no hc ((Bool.not_eq_true' _).mp hc2))).symm
   ·
    refine AW.skip (Bp (Ae (AW.region (Qp Fu (Qp Az (Ag ?_))))))
    refine ⟨k+1,?_,?_,GS.weaken ⟨rfl,rfl,rfl,rfl,rfl,rfl,trivial⟩ (.refl _)⟩
    · exact ⟨hlt,by rw [Cm hc,List.all_append,hR.2];simpa using hc2⟩
    · omega
  ·
   have hte:=Cv hc1
   have hall:=hR.2
   rw [hte] at hall
   refine AW.exit ?_
   refine A3 (A3 (Bq (Ae (Ah (Qp (Qf [_,_,_]) (Qp Qlp ?_))))))
   refine Qp (Qc rfl (kQ T V l)) ?_
   refine Qp Bm (Qg [] Qw C5 ?_)
   refine AOL.Aav (y:=Iq _) _ [(25,_)] rfl (sB.all ⟨tO.self _ _,trivial⟩) (fun hG=>Ak (n:=l.length) Ai rfl rfl rfl (by simp)) rfl ?_
   refine Qg [(26,_)] Qw Mt (Qp Em (Qp Bc (Ag (AW.ret ?_))))
   refine Qr (.bool _) ?_
   exact Eq.trans rfl (congrArg AV.bool (wL hall)).symm

set_option maxHeartbeats 1600000
set_option maxRecDepth 20000

theorem qL (T:List Sc)(V:List Va)(bo:Nat)(v:Value)(l:Es)(hev:evOK T V (l.map Prod.fst))(t:Tm)(ht:tmOK T V t)(ho1:t.op=1)(s:Ft)(R:List HO):Dr Tryz.prog 147 (Zb bo v l R) [.agg (Hz t),.str s,.val (.pointer (some ⟨bo,0,none⟩))] (fun r H'=>r = .tuple []∧H'=Zb bo v (l.modify t.v.toNat fun p=>(Wi p.1 t.field.toNat (fun y=>{ y with text:=s }),p.2)) R):=by
 refine Dr.body (n:=16) Ai Tryz.func147 rfl rfl rfl ?_
 refine AW.ghostPost ?_
 refine Ah (Qp (Fx [Iq _,Iq _,Iq _]) (Ag ?_))
 refine (kM hev ht).elim fun e he=>he.elim fun u hu=>?_
 have hj:=hu.1
 have hel:=hu.2.1
 have hll:=hu.2.2
 have hv0:=ht.v0
 have hv1:=ht.v1
 have hfr:=ht.f ho1
 refine (oF ht ho1 hel).elim fun y hy=>?_
 have hyl:=A8 hy
 refine AW.ghost (GS.perm (mD hj)) ?_
 refine AW.unbuf (v:=u) (es:=e.values.map cV) (E:=28) (z:=3) 0 rfl (Yn hy) fun bi capi Ji hui hcapi hcmi hJi hzi=>?_
 subst hui
 refine AW.unbuf (v:=v) (es:=l.map Cw) (E:=67) (z:=5) 1 rfl (Yn hj) fun bb cap J hub hcap hcm hJ hzo=>?_
 subst hub
 have hrow:(l.map Cw)[t.v.toNat]? = some (Cw (e,.slice (some ⟨bi,0,none⟩) (e.values.map cV).length capi)):=by rw [List.getElem?_map,hj];rfl
 refine AW.draw mixed (fun H'=>_∈H'∧_∈H') ⟨(List.mem_of_getElem? (i:=2) rfl),(List.mem_of_getElem? (i:=1) rfl)⟩ (by kernel_rfl) ?_
 refine Qn 0 rfl (OpP.Aax (fun k=>At (k:=k) (c:=.val _) Ai rfl rfl rfl rfl) (fun _ h=>h.1)) ?_
 refine Qn 1 rfl (Qf [Iq _,Iq _]) (Qn 2 rfl Br ?_)
 refine Qn 3 rfl (B7 (o':=t.v.toNat*5) Ai rfl rfl rfl rfl rfl (hv0) (by rw [List.length_map];omega) (Nat.zero_add _)) ?_
 refine Qn 4 rfl Iu ?_
 refine Qn 5 rfl (OpP.Aax (fun k=>At (k:=k) (c:=.val (.slice (some ⟨bi,0,none⟩) (e.values.map cV).length capi)) Ai rfl rfl rfl (Xe (o:=4) (Jy l) hrow rfl)) (fun _ h=>h.2)) ?_
 refine Qn 6 rfl (Qf [Iq _]) (Qn 7 rfl Br (Qn 8 rfl eD ?_))
 refine Qn 9 rfl (B7 (o':=t.field.toNat*3) Ai rfl rfl rfl rfl rfl (hfr.1) (by rw [List.length_map];omega) (Nat.zero_add _)) ?_
 refine Qn 10 rfl Iu ?_
 refine Js.last _ _ 11 _ _ rfl (by kernel_rfl) rfl rfl (C6 (k:=0) (v:=.str _) (cs':=_) (H2:=_::_::_::_) Ai rfl rfl rfl rfl rfl rfl (T8 (o:=2) (O2 _) (by rw [List.getElem?_map,hy];rfl) (by decide)) (S7 (o:=2) (e:=cV y) (x:=.str s) (O2 _) (by rw [List.getElem?_map,hy];rfl) (by decide)) rfl) (by kernel_rfl) ?_
 rintro _ _ ⟨rfl,rfl⟩
 refine ⟨_,wK hj hy (f:=fun y=>{ y with text:=s }) rfl hcap hcm hJ hcapi hcmi hJi,.inl rfl,[],.nil,_,.refl _,?_⟩
 exact ⟨rfl,rfl⟩

end Go.Proofs.YtkddpedfbicbeaaGreatDoor
