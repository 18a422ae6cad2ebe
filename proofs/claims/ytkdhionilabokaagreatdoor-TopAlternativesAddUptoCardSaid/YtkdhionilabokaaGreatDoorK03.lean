/-
  Several texts in one: EW13, EW2, EW3, EW5, EW6, EW8, EW9, EW10, EW14, EW18, EW20, Shelm, Pb, Ay, At. No condition.
-/
import Derived.Test.YtkdhionilabokaaGreatDoorK02
import Derived.Test.YtkdhionilabokaaGreatDoorK01
import Derived.KernelRfl
import Derived.Shelf.Bits.Mul64
import Derived.Test.YtkdhionilabokaaGreatDoorProg
import Derived.IntWalk
import Derived.Test.YtkdhionilabokaaGreatDoorAx
set_option linter.unusedVariables false
set_option linter.unusedSimpArgs false
set_option maxHeartbeats 1600000
set_option maxRecDepth 20000
namespace Go.Proofs.YtkdhionilabokaaGreatDoor
open Go Go.Aw
theorem To {a b:Ex}(h:Nf a b=false):a.args.length=b.args.length:=by
 simp [Nf] at h;omega
theorem wE (a b:Ex)(hs:B3 a<=1048576):Al Tryz.prog 115 [.agg (cE a),.agg (cE b)] (.bool (Kn a b)):=by
 revert b hs
 induction a using Ex.ind
 rename_i a ih;intro b hs;have hal:=Lh a hs;refine F8 67 Tryz.func115 rfl fun H=>?_
 refine Bv (Qp Th (Qp Th (Qp C5 (Dt (F7 (Qp R5 (Qp C0 (Qp R5 (Qp C0 (Qp Dl (Qp Cp (Qg [] Qw Wg (Qg [(12,_)] Qw C0 (Qg [] Qw Wg (Qg [(14,_)] Qw C0 ?_)))))))))))))));refine Qg [(13,_),(15,_)] Yw Dl (Qp Fz (Qp Cp (Qg [] Qw T4 (Qg [(19,_)] Qw C0 (Qg [] Qw T4 (Qg [(21,_)] Qw C0 (Qg [(20,_),(22,_)] Yw Dl (Qp Fz (Qp Cp (Qg [] Qw Qq (Qg [(26,_)] Qw C0 (Qg [] Qw Qq (Qg [(28,_)] Qw C0 ?_)))))))))))));refine Qg [(27,_),(29,_)] Yw Dl (Qp Fz (Qp Cp (Qg [] Qw Ml (Qg [(33,_)] Qw (Ee B5) (Qg [] Qw Ml (Qg [(35,_)] Qw (Ee B5) (Qg [(34,_),(36,_)] Yw (Hs Ai rfl rfl rfl rfl rfl) (Qp Fz (Qp Cp (Qg [] Qw T3 (Qg [(40,_)] Qw J7 ?_)))))))))));refine Yh [(41,_)] Qw (fun hG=>Ki a.args.length rfl rfl (by simp)) ?_;refine Qg [] Qw T3 (Qg [(43,_)] Qw J7 ?_);refine Yh [(44,_)] Qw (fun hG=>Ki b.args.length rfl rfl (by simp)) ?_;refine Qg [(42,_),(45,_)] Yw Dl (Qp Fz (Ef (fun hc1=>?_) fun hc1=>?_))
 .
  have hh:Nf a b=true:=by simpa [Nf] using hc1
  refine Bv (Qp C5 (Rc (Qr (.bool _) ?_)));rw [Mh,if_pos hh];rfl
 have hh:Nf a b=false:=by simpa [Nf] using hc1
 have hlen:=To hh;refine Dw (F7 (Qp Bk (Dt (AW.block ?_))));refine AW.loopS (fun (p:Nat)=>(⟨[(2,.ptr (cE a)),(3,.ptr (cE b)),(5,.int .i64 (p:Int))],H,67⟩:St)) (fun p=>p<=a.args.length/\Ru a.args b.args=Ru (a.args.drop p) (b.args.drop p)) (fun p=>a.args.length-p) (0) ?_ Kx ?_
 . exact ⟨Bn _,rfl⟩
 rintro p hR;refine F7 (Qp Ca (Qp T3 (Qp J7 ?_)));refine Qp (Ki a.args.length rfl rfl (by simp)) ?_;refine Qp Fw (Ef (fun hc2=>?_) fun hc2=>?_)
 .
  obtain ⟨x,hx⟩:=Dd hc2;have hlt:=Bj hx;have hm:=A0 hx;obtain ⟨y,hy⟩:∃y,b.args[p]? = some y:=⟨_,List.getElem?_eq_getElem (by omega)⟩;refine Dw (AW.seq (AW.block (AW.seq ?_)));refine lT ?_;refine Qn 0 rfl T3 (Qn 1 rfl J7 (Qn 2 rfl Ca ?_));refine Qn 3 rfl (Lq Ll rfl rfl (by omega) (Ii hx)) ?_;refine Qn 4 rfl Ld (Qn 5 rfl T3 (Qn 6 rfl J7 (Qn 7 rfl Ca ?_)));refine Qn 8 rfl (Lq Ll rfl rfl (by omega) (Ii hy)) ?_;refine Qn 9 rfl Ld ?_;refine Qn 10 rfl (Qc rfl (ih x hm y (by have:=Hb hm;omega))) ?_;refine Qn 11 rfl Ik ?_;refine lK ?_;refine Aa (Gd (fun hc3=>Bv (Qp C5 (Ra (Ap (Cn (Ap (Qr (.bool _) ?_))))))) fun hc3=>Rf (AW.region (Qp Ca (Qp Mm (Qp Bk (Dt ?_))))))
  . rw [Mh,if_neg (by simp [hh]),hR.2,Bf hx,Bf hy];show _=AV.bool (if (!Kn x y)=true then false else _);rw [if_pos hc3];rfl
  refine ⟨p+1,?_,?_,Kx⟩
  . exact ⟨hlt,by rw [hR.2,Bf hx,Bf hy,Ru];simp [hc3]⟩
  omega
 have hd:=Gb hc2;refine AW.exit ?_;refine A1 (Ri (Bv (Qp C5 (Rb ?_))));refine Qr (.bool _) ?_;rw [Mh,if_neg (by simp [hh]),hR.2,hd];rfl
theorem c127  : Al Tryz.prog 269 [] (.agg (cV v0)):=by
 refine F8 2 Tryz.func269 rfl fun H=>?_
 refine Bv (Hy L7 fun b0=>Gw (Qp (Lg B5) ?_));refine Eu 0 B5 (_::_) (Rb ?_);refine Yx [.agg B5] (Zb 0) S1 ?_;rfl
theorem c128 (v w:Vl):Al Tryz.prog 270 [.ptr (cV v),.ptr (cV w)] (.agg (cV (Nu 1 v w))):=by
 refine F8 9 Tryz.func270 rfl fun H=>?_
 refine Bv (Hy L7 fun b2=>Gw (Qp Wh (Qp C0 (Qp Wh (Qp C0 (Qp (Xz rfl rfl) (Qp (Lg B5) ?_)))))));refine Eu 0 B5 (_::_) (Rb ?_);refine Yx [.agg B5] (Zb 0) S1 ?_;rfl
theorem c129 (v w:Vl):Al Tryz.prog 271 [.ptr (cV v),.ptr (cV w)] (.agg (cV (Nu 2 v w))):=by
 refine F8 9 Tryz.func271 rfl fun H=>?_
 refine Bv (Hy L7 fun b2=>Gw (Qp Wh (Qp C0 (Qp Wh (Qp C0 (Qp (P_min rfl rfl) (Qp (Lg B5) ?_)))))));refine Eu 0 B5 (_::_) (Rb ?_);refine Yx [.agg B5] (Zb 0) S1 ?_;rfl
theorem c130 (v w:Vl):Al Tryz.prog 272 [.ptr (cV v),.ptr (cV w)] (.agg (cV (Nu 3 v w))):=by
 refine F8 9 Tryz.func272 rfl fun H=>?_
 refine Bv (Hy L7 fun b2=>Gw (Qp Wh (Qp C0 (Qp Wh (Qp C0 (Qp (Ws rfl rfl) (Qp (Lg B5) ?_)))))));refine Eu 0 B5 (_::_) (Rb ?_);refine Yx [.agg B5] (Zb 0) S1 ?_;rfl
theorem c131 (v:Vl):Al Tryz.prog 273 [.ptr (cV v)] (.agg (cV v)):=by
 refine F8 3 Tryz.func273 rfl fun H=>?_
 refine Bv (Hy L7 fun b1=>Gw (Qp (Ee B5) ?_));refine Eu 0 B5 (_::_) (Rb ?_);refine Yx [.agg B5] (Zb 0) S1 ?_;rfl
theorem c132 (v:Vl):Al Tryz.prog 274 [.ptr (cV v)] (.agg (cV v)):=by
 refine F8 3 Tryz.func274 rfl fun H=>?_
 refine Bv (Hy L7 fun b1=>Gw (Qp (Ee B5) ?_));refine Eu 0 B5 (_::_) (Rb ?_);refine Yx [.agg B5] (Zb 0) S1 ?_;rfl
theorem xS (v w:Vl):Al Tryz.prog 266 [.int .i64 0,.agg (cV v),.agg (cV w)] (.agg (cV (Nu 0 v w))):=by
 refine F8 16 Tryz.func266 rfl fun H=>?_
 refine Bv (Qp (Ji B5) (Qp (Ji B5) (Hy L7 fun b6=>Gw (Qp (A3 (l:=[]) (l':=[.ptr _,.ptr _]) rfl rfl) (Qp (A3 (l:=[]) (l':=[.ptr _,.ptr _]) rfl rfl) (Qp (A3 (l:=[]) (l':=[.ptr _,.ptr _]) rfl rfl) (Qp (A3 (l:=[]) (l':=[.ptr _]) rfl rfl) (Qp (A3 (l:=[]) (l':=[.ptr _]) rfl rfl) (Qp (Ij (l:=[_,_,_,_,_,_]) Ai rfl rfl rfl rfl) (Qp Ca ?_))))))))));refine Qp (Gz (c:=_) Ai rfl rfl rfl rfl rfl rfl rfl (by omega) (by omega) (rfl)) ?_;refine Qp (Fy (by kernel_rfl) rfl rfl rfl (c127)) ?_;refine Eu 0 B5 (_::_) (Rb ?_);refine Yx [.agg B5] (Zb 0) S1 ?_;rfl
theorem xT (v w:Vl):Al Tryz.prog 266 [.int .i64 1,.agg (cV v),.agg (cV w)] (.agg (cV (Nu 1 v w))):=by
 refine F8 16 Tryz.func266 rfl fun H=>?_
 refine Bv (Qp (Ji B5) (Qp (Ji B5) (Hy L7 fun b6=>Gw (Qp (A3 (l:=[]) (l':=[.ptr _,.ptr _]) rfl rfl) (Qp (A3 (l:=[]) (l':=[.ptr _,.ptr _]) rfl rfl) (Qp (A3 (l:=[]) (l':=[.ptr _,.ptr _]) rfl rfl) (Qp (A3 (l:=[]) (l':=[.ptr _]) rfl rfl) (Qp (A3 (l:=[]) (l':=[.ptr _]) rfl rfl) (Qp (Ij (l:=[_,_,_,_,_,_]) Ai rfl rfl rfl rfl) (Qp Ca ?_))))))))));refine Qp (Gz (c:=_) Ai rfl rfl rfl rfl rfl rfl rfl (by omega) (by omega) (rfl)) ?_;refine Qp (Fy (by kernel_rfl) rfl rfl rfl (c128 v w)) ?_;refine Eu 0 B5 (_::_) (Rb ?_);refine Yx [.agg B5] (Zb 0) S1 ?_;rfl
theorem xU (v w:Vl):Al Tryz.prog 266 [.int .i64 2,.agg (cV v),.agg (cV w)] (.agg (cV (Nu 2 v w))):=by
 refine F8 16 Tryz.func266 rfl fun H=>?_
 refine Bv (Qp (Ji B5) (Qp (Ji B5) (Hy L7 fun b6=>Gw (Qp (A3 (l:=[]) (l':=[.ptr _,.ptr _]) rfl rfl) (Qp (A3 (l:=[]) (l':=[.ptr _,.ptr _]) rfl rfl) (Qp (A3 (l:=[]) (l':=[.ptr _,.ptr _]) rfl rfl) (Qp (A3 (l:=[]) (l':=[.ptr _]) rfl rfl) (Qp (A3 (l:=[]) (l':=[.ptr _]) rfl rfl) (Qp (Ij (l:=[_,_,_,_,_,_]) Ai rfl rfl rfl rfl) (Qp Ca ?_))))))))));refine Qp (Gz (c:=_) Ai rfl rfl rfl rfl rfl rfl rfl (by omega) (by omega) (rfl)) ?_;refine Qp (Fy (by kernel_rfl) rfl rfl rfl (c129 v w)) ?_;refine Eu 0 B5 (_::_) (Rb ?_);refine Yx [.agg B5] (Zb 0) S1 ?_;rfl
theorem xV (v w:Vl):Al Tryz.prog 266 [.int .i64 3,.agg (cV v),.agg (cV w)] (.agg (cV (Nu 3 v w))):=by
 refine F8 16 Tryz.func266 rfl fun H=>?_
 refine Bv (Qp (Ji B5) (Qp (Ji B5) (Hy L7 fun b6=>Gw (Qp (A3 (l:=[]) (l':=[.ptr _,.ptr _]) rfl rfl) (Qp (A3 (l:=[]) (l':=[.ptr _,.ptr _]) rfl rfl) (Qp (A3 (l:=[]) (l':=[.ptr _,.ptr _]) rfl rfl) (Qp (A3 (l:=[]) (l':=[.ptr _]) rfl rfl) (Qp (A3 (l:=[]) (l':=[.ptr _]) rfl rfl) (Qp (Ij (l:=[_,_,_,_,_,_]) Ai rfl rfl rfl rfl) (Qp Ca ?_))))))))));refine Qp (Gz (c:=_) Ai rfl rfl rfl rfl rfl rfl rfl (by omega) (by omega) (rfl)) ?_;refine Qp (Fy (by kernel_rfl) rfl rfl rfl (c130 v w)) ?_;refine Eu 0 B5 (_::_) (Rb ?_);refine Yx [.agg B5] (Zb 0) S1 ?_;rfl
theorem xW (v w:Vl):Al Tryz.prog 266 [.int .i64 4,.agg (cV v),.agg (cV w)] (.agg (cV (Nu 4 v w))):=by
 refine F8 16 Tryz.func266 rfl fun H=>?_
 refine Bv (Qp (Ji B5) (Qp (Ji B5) (Hy L7 fun b6=>Gw (Qp (A3 (l:=[]) (l':=[.ptr _,.ptr _]) rfl rfl) (Qp (A3 (l:=[]) (l':=[.ptr _,.ptr _]) rfl rfl) (Qp (A3 (l:=[]) (l':=[.ptr _,.ptr _]) rfl rfl) (Qp (A3 (l:=[]) (l':=[.ptr _]) rfl rfl) (Qp (A3 (l:=[]) (l':=[.ptr _]) rfl rfl) (Qp (Ij (l:=[_,_,_,_,_,_]) Ai rfl rfl rfl rfl) (Qp Ca ?_))))))))));refine Qp (Gz (c:=_) Ai rfl rfl rfl rfl rfl rfl rfl (by omega) (by omega) (rfl)) ?_;refine Qp (Fy (by kernel_rfl) rfl rfl rfl (c131 v)) ?_;refine Eu 0 B5 (_::_) (Rb ?_);refine Yx [.agg B5] (Zb 0) S1 ?_;rfl
theorem xX (v w:Vl):Al Tryz.prog 266 [.int .i64 5,.agg (cV v),.agg (cV w)] (.agg (cV (Nu 5 v w))):=by
 refine F8 16 Tryz.func266 rfl fun H=>?_
 refine Bv (Qp (Ji B5) (Qp (Ji B5) (Hy L7 fun b6=>Gw (Qp (A3 (l:=[]) (l':=[.ptr _,.ptr _]) rfl rfl) (Qp (A3 (l:=[]) (l':=[.ptr _,.ptr _]) rfl rfl) (Qp (A3 (l:=[]) (l':=[.ptr _,.ptr _]) rfl rfl) (Qp (A3 (l:=[]) (l':=[.ptr _]) rfl rfl) (Qp (A3 (l:=[]) (l':=[.ptr _]) rfl rfl) (Qp (Ij (l:=[_,_,_,_,_,_]) Ai rfl rfl rfl rfl) (Qp Ca ?_))))))))));refine Qp (Gz (c:=_) Ai rfl rfl rfl rfl rfl rfl rfl (by omega) (by omega) (rfl)) ?_;refine Qp (Fy (by kernel_rfl) rfl rfl rfl (c132 w)) ?_;refine Eu 0 B5 (_::_) (Rb ?_);refine Yx [.agg B5] (Zb 0) S1 ?_;rfl
theorem c125 (k:Int)(v w:Vl)(h:Gg k=true):Al Tryz.prog 266 [.int .i64 k,.agg (cV v),.agg (cV w)] (.agg (cV (Nu k v w))):=by
 simp only [Gg,Cq,Di] at h;have:k=0\/k=1\/k=2\/k=3\/k=4\/k=5:=by omega
 rcases this with rfl | rfl | rfl | rfl | rfl | rfl
 . exact xS v w
 . exact xT v w
 . exact xU v w
 . exact xV v w
 . exact xW v w
 exact xX v w
theorem c118 (a c:Ac)(h:Gg a.kind=true):Al Tryz.prog 259 [.agg (Uw a),.agg (Uw c)] (.agg (Uw (Gq a c))):=by
  refine F8 30 Tryz.func259 rfl fun H=>?_
  refine AW.seq (AW.region (Qp (Ji R6) (Qp (Ji R6) (Hy gfy fun b4=>AOL.nil (Aa (AW.seq (AW.block (AW.seq (AW.region (Qp Qq (Qp C0 (Qp Cl (Qp C5 (AOL.nil (Aa (Gd (fun hc1=>?_) fun hc1=>?_))))))))))))))))
  . skip
    refine AW.seq (AW.region (Qp (Ee R6) ?_));refine Eu 0 R6 (_::_) ?_;refine AOL.nil (Aa (AW.ret (Cn (Ap ?_))));refine Yx [.agg R6] (Zb 0) S1 ?_
    try simp only [Dk,Aq] at *
    first
      | (simp only [Aj,Gq,Uw,cV];(first | rw [if_pos hc1] | skip);first | done | rfl)
      | (try simp only [Bu,Bb] at *
         first
         | (simp only [Aj,Gq,Uw,cV, *,A2,↓reduceIte,A5,A6,Bl,A7,Bo,Aq,Be,A9,Bz,Bs];done)
         | (simp [Aj,Gq,Uw,cV, *];done)
         | (simp_all [Aj,Gq,Uw,cV];done))
      | skip
  . skip
    refine AW.seq (AW.region (Qp Qq (Qp C0 (Qp Cl (Qp C5 (AOL.nil (Aa (Gd (fun hc2=>?_) fun hc2=>?_))))))))
    . skip
      refine AW.seq (AW.region (Qp (Ee R6) ?_));refine Eu 0 R6 (_::_) ?_;refine AOL.nil (Aa (AW.ret (Cn (Ap ?_))));refine Yx [.agg R6] (Zb 0) S1 ?_
      try simp only [Dk,Aq] at *
      first
        | (simp only [Aj,Gq,Uw,cV];(first | rw [iN hc1] | skip);(first | rw [if_pos hc2] | skip);first | done | rfl)
        | (try simp only [Bu,Bb] at *
           first
           | (simp only [Aj,Gq,Uw,cV, *,A2,↓reduceIte,A5,A6,Bl,A7,Bo,Aq,Be,A9,Bz,Bs];done)
           | (simp [Aj,Gq,Uw,cV, *];done)
           | (simp_all [Aj,Gq,Uw,cV];done))
        | skip
    . skip
      refine Rf (AW.seq ?_);refine lT ?_;refine Qn 0 rfl T4 (Qn 1 rfl C0 (Qn 2 rfl Qq (Qn 3 rfl C0 (Qn 4 rfl Qq (Qn 5 rfl C0 ?_)))));refine Qn 6 rfl (Xz rfl rfl) ?_;refine Qn 7 rfl T4 (Qn 8 rfl C0 (Qn 9 rfl Ml (Qn 10 rfl (Ee B5) (Qn 11 rfl Ml (Qn 12 rfl (Ee B5) ?_)))));refine Qn 13 rfl (Qc rfl (c125 a.kind a.val c.val h)) ?_;refine Qn 14 rfl (Lg R6) ?_;refine Seg 15 rfl (Yst 0 (.agg _) R6 (_::_) rfl) ?_;refine lK ?_;refine Aa (AW.ret ?_);refine Yx [.agg R6] (Zb 0) S1 ?_
      try simp only [Dk,Aq] at *
      first
        | (simp only [Aj,Gq,Uw,cV];(first | rw [iN hc1] | skip);(first | rw [iN hc2] | skip);first | done | rfl)
        | (try simp only [Bu,Bb] at *
           first
           | (simp only [Aj,Gq,Uw,cV, *,A2,↓reduceIte,A5,A6,Bl,A7,Bo,Aq,Be,A9,Bz,Bs];done)
           | (simp [Aj,Gq,Uw,cV, *];done)
           | (simp_all [Aj,Gq,Uw,cV];done))
        | skip
theorem c126 (a:Ac):Al Tryz.prog 267 [.agg (Uw a)] (.int .i64 (C8 a)):=by
  refine F8 77 Tryz.func267 rfl fun H=>?_
  refine AW.seq (AW.region (Qp (Ji R6) (Qp Bk (AOL.nil (Aa (AW.seq (AW.block (AW.seq (AW.region (Qp T4 (Qp C0 (Qp (Qc rfl (c114 a.kind)) (Qp Ik (Qp C5 (AOL.nil (Aa (Gd (fun hc1=>?_) fun hc1=>?_)))))))))))))))))
  . skip
    refine AW.seq (AW.region (Qp Bk (AOL.nil (Aa (AW.ret (Cn (Ap ?_)))))));refine Qr (Iq _) ?_
    try simp only [Dk,Aq] at *
    first
      | (simp only [Aj,C8];(first | rw [if_pos hc1] | skip);first | done | rfl)
      | (try simp only [Bu,Bb] at *
         first
         | (simp only [Aj,C8,isV0, *,A2,↓reduceIte,A5,A6,Bl,A7,Bo,Aq,Be,A9,Bz,Bs];done)
         | (simp [Aj,C8,isV0, *];done)
         | (simp_all [Aj,C8,isV0];done))
      | skip
  . skip
    refine AW.seq (AW.region (Qp Qq (Qp C0 (Qp Fw (Qp Cp (Qg [] Qw Qq (Qg [(15,_)] Qw C0 (Qg [(16,_)] Qw Kl (Qp Fz ?_)))))))));refine Qp C5 (AOL.nil (Aa (Gd (fun hc2=>?_) fun hc2=>?_)))
    . skip
      refine AW.seq (AW.region (Qp Bk (AOL.nil (Aa (AW.ret (Cn (Ap ?_)))))));refine Qr (Iq _) ?_
      try simp only [Dk,Aq] at *
      first
        | (simp only [Aj,C8];(first | rw [iN hc1] | skip);(first | rw [if_pos hc2] | skip);first | done | rfl)
        | (try simp only [Bu,Bb] at *
           first
           | (simp only [Aj,C8,isV0, *,A2,↓reduceIte,A5,A6,Bl,A7,Bo,Aq,Be,A9,Bz,Bs];done)
           | (simp [Aj,C8,isV0, *];done)
           | (simp_all [Aj,C8,isV0];done))
        | skip
    . skip
      refine Rf (AW.seq (AW.region (Qp C5 (AOL.nil (Aa (AW.seq (AW.block ?_)))))));refine AW.seq (AW.region (Qp Qq (Qp C0 (Qp Cl (Qp Cp (Qg [] Qw T4 (Qg [(35,_)] Qw C0 (Qg [(36,_)] Qw Cl (Qp Fz ?_)))))))));refine Qp C5 (AOL.nil (Aa (Gd (fun hc3=>?_) fun hc3=>?_)))
      . skip
        refine AW.region (Qp Ml (Qp (Ee B5) (Qp (Lg B5) ?_)));refine Qp (Oo Ai rfl rfl rfl rfl rfl) ?_;refine Qp C5 (Rk (AW.seq (AW.seq (AW.region (Qp Cp (Qp Ik (AOL.nil ?_)))))));refine Aa (Gd (fun hc4=>?_) fun hc4=>?_)
        . skip
          refine AW.seq (AW.region (Qp Bk (AOL.nil (Aa (Nm ?_)))));refine Qr (Iq _) ?_
          try simp only [Dk,Aq] at *
          first
            | (simp only [Aj,C8];(first | rw [iN hc1] | skip);(first | rw [iN hc2] | skip);(first | rw [if_pos hc3] | skip);(first | rw [if_pos hc4] | skip);first | done | rfl)
            | (try simp only [Bu,Bb] at *
               first
               | (simp only [Aj,C8,isV0, *,A2,↓reduceIte,A5,A6,Bl,A7,Bo,Aq,Be,A9,Bz,Bs];done)
               | (simp [Aj,C8,isV0, *];done)
               | (simp_all [Aj,C8,isV0];done))
            | skip
        . skip
          refine Dw (AW.seq (AW.region (Qp Bk (AOL.nil (Aa (AW.ret ?_))))));refine Qr (Iq _) ?_
          try simp only [Dk,Aq] at *
          first
            | (simp only [Aj,C8];(first | rw [iN hc1] | skip);(first | rw [iN hc2] | skip);(first | rw [if_pos hc3] | skip);(first | rw [iN hc4] | skip);first | done | rfl)
            | (try simp only [Bu,Bb] at *
               first
               | (simp only [Aj,C8,isV0, *,A2,↓reduceIte,A5,A6,Bl,A7,Bo,Aq,Be,A9,Bz,Bs];done)
               | (simp [Aj,C8,isV0, *];done)
               | (simp_all [Aj,C8,isV0];done))
            | skip
      . skip
        refine AW.seq (AW.region (Qp T4 (Qp C0 (Qp Cl (Qp C5 (AOL.nil (Aa (Gd (fun hc5=>?_) fun hc5=>?_))))))))
        . skip
          refine AW.seq (AW.region (Qp Qq (Qp C0 ?_)));refine Qp (fV rfl rfl rfl (by have j0:=hc2;simp only [Fv,Cq,Jh,Di] at j0;constructor <;> omega)) ?_;refine Qp Bk (AOL.nil (Aa (AW.region (Qp Ml (Qp Ml (Qp C0 (Qp Cl (Qp Cp (Qg [] Qw Ml ?_)))))))));refine Qg [(55,_)] Qw Qf7 (Qg [(56,_)] Qw Qlt ?_);refine Qg [(57,_)] Qw (jJ rfl rfl) ?_;refine Qp Iz (Qp Cp (Qg [] Qw Ml (Qg [(61,_)] Qw Wh (Qg [(62,_)] Qw C0 (Qg [] Qw Ca ?_)))));refine Yh [(64,_)] Qw (fun hG=>P_neg rfl rfl (by have j0:=hc2;simp only [Fv,Cq,Jh,Di] at j0;constructor <;> omega)) ?_;refine Qg [(63,_),(65,_)] Yw Nj ?_;refine Qp Iz (Qp Cp (Qg [] Qw Ml (Qg [(69,_)] Qw Wh (Qg [(70,_)] Qw C0 (Qg [] Qw Ca ?_)))));refine Qg [(71,_),(72,_)] Yw Z0 ?_;refine Qp Iz (Qp C5 (Rk (AW.seq (AW.seq (AW.region (Qp Cp (Qp Ik ?_)))))));refine AOL.nil (Aa (Gd (fun hc6=>?_) fun hc6=>?_))
          . skip
            refine AW.seq (AW.region (Qp Bk (AOL.nil (Aa (Nm ?_)))));refine Qr (Iq _) ?_
            try simp only [Dk,Aq] at *
            first
              | (simp only [Aj,C8];(first | rw [iN hc1] | skip);(first | rw [iN hc2] | skip);(first | rw [iN hc3] | skip);(first | rw [if_pos hc5] | skip);(first | rw [if_pos hc6] | skip);first | done | rfl)
              | (try simp only [Bu,Bb] at *
                 first
                 | (simp only [Aj,C8,isV0, *,A2,↓reduceIte,A5,A6,Bl,A7,Bo,Aq,Be,A9,Bz,Bs];done)
                 | (simp [Aj,C8,isV0, *];done)
                 | (simp_all [Aj,C8,isV0];done))
              | skip
          . skip
            refine Dw (AW.seq (AW.region (Qp Bk (AOL.nil (Aa (AW.ret ?_))))));refine Qr (Iq _) ?_
            try simp only [Dk,Aq] at *
            first
              | (simp only [Aj,C8];(first | rw [iN hc1] | skip);(first | rw [iN hc2] | skip);(first | rw [iN hc3] | skip);(first | rw [if_pos hc5] | skip);(first | rw [iN hc6] | skip);first | done | rfl)
              | (try simp only [Bu,Bb] at *
                 first
                 | (simp only [Aj,C8,isV0, *,A2,↓reduceIte,A5,A6,Bl,A7,Bo,Aq,Be,A9,Bz,Bs];done)
                 | (simp [Aj,C8,isV0, *];done)
                 | (simp_all [Aj,C8,isV0];done))
              | skip
        . skip
          refine AW.region (Qp Ml (Qp (Ee B5) ?_));refine Qp (Qc rfl (c94 a.val)) ?_;refine Qp Cl (Qp Cp (Qg [] Qw T4 (Qg [(24,_)] Qw C0 (Qg [] Qw Ml (Qg [(26,_)] Qw (Ee B5) ?_)))));refine Qg [(25,_),(27,_)] Yw (Qc rfl (c124 a.kind a.val)) ?_;refine Qp Iz (Qp C5 (Rk (AW.seq (AW.seq (AW.region (Qp Cp (Qp Ik ?_)))))));refine AOL.nil (Aa (Gd (fun hc7=>?_) fun hc7=>?_))
          . skip
            refine AW.seq (AW.region (Qp Bk (AOL.nil (Aa (Nm ?_)))));refine Qr (Iq _) ?_
            try simp only [Dk,Aq] at *
            first
              | (simp only [Aj,C8];(first | rw [iN hc1] | skip);(first | rw [iN hc2] | skip);(first | rw [iN hc3] | skip);(first | rw [iN hc5] | skip);(first | rw [if_pos hc7] | skip);first | done | rfl)
              | (try simp only [Bu,Bb] at *
                 first
                 | (simp only [Aj,C8,isV0, *,A2,↓reduceIte,A5,A6,Bl,A7,Bo,Aq,Be,A9,Bz,Bs];done)
                 | (simp [Aj,C8,isV0, *];done)
                 | (simp_all [Aj,C8,isV0];done))
              | skip
          . skip
            refine Dw (AW.seq (AW.region (Qp Bk (AOL.nil (Aa (AW.ret ?_))))));refine Qr (Iq _) ?_
            try simp only [Dk,Aq] at *
            first
              | (simp only [Aj,C8];(first | rw [iN hc1] | skip);(first | rw [iN hc2] | skip);(first | rw [iN hc3] | skip);(first | rw [iN hc5] | skip);(first | rw [iN hc7] | skip);first | done | rfl)
              | (try simp only [Bu,Bb] at *
                 first
                 | (simp only [Aj,C8,isV0, *,A2,↓reduceIte,A5,A6,Bl,A7,Bo,Aq,Be,A9,Bz,Bs];done)
                 | (simp [Aj,C8,isV0, *];done)
                 | (simp_all [Aj,C8,isV0];done))
              | skip
theorem c120 (a:Ac)(o:Vl):Al Tryz.prog 261 [.agg (Uw a),.agg (cV o)] (.tuple [.agg (cV (D8 a o).1),.int .i64 (D8 a o).2]):=by
  refine F8 41 Tryz.func261 rfl fun H=>?_
  refine AW.seq (AW.region (Qp (Ji R6) (Qp (Ji B5) (Hy L7 fun b4=>Qp Bk (AOL.nil (Aa (AW.seq (AW.seq (AW.region (Qp (Ee R6) (Qp (Qc rfl (c126 a)) (Qp Bk (AOL.nil (Aa (AW.seq (AW.region (Qp Ca (Qp Dl (AOL.nil (Aa (Gd (fun hc1=>?_) fun hc1=>?_)))))))))))))))))))))
  . skip
    refine AW.seq (AW.region (Qp (Lg B5) (Qp Ca ?_)));refine Eu 0 B5 (_::_) ?_;refine Qp Bk (AOL.nil (Aa (Nm ?_)));refine Yx [.agg B5,Iq _] (Zc 0) S1 ?_
    try simp only [Dk,Aq] at *
    first
      | (simp only [Aj,D8,cV,v0];(first | rw [if_pos hc1] | skip);first | done | rfl)
      | (try simp only [Bu,Bb] at *
         first
         | (simp only [Aj,D8,cV,v0, *,A2,↓reduceIte,A5,A6,Bl,A7,Bo,Aq,Be,A9,Bz,Bs];done)
         | (simp [Aj,D8,cV,v0, *];done)
         | (simp_all [Aj,D8,cV,v0];done))
      | skip
  . skip
    refine Dw (AW.seq (AW.seq (AW.region (Qp T4 (Qp C0 (Qp (Ee B5) ?_))))));refine Qp (Qc rfl (c115 a.kind o)) ?_;refine Qp Bk (AOL.nil (Aa (AW.seq (AW.region (Qp Ca (Qp Dl (AOL.nil (Aa (Gd (fun hc2=>?_) fun hc2=>?_)))))))))
    . skip
      refine AW.seq (AW.region (Qp (Lg B5) (Qp Ca ?_)));refine Eu 0 B5 (_::_) ?_;refine Qp Bk (AOL.nil (Aa (Nm ?_)));refine Yx [.agg B5,Iq _] (Zc 0) S1 ?_
      try simp only [Dk,Aq] at *
      first
        | (simp only [Aj,D8,cV,v0];(first | rw [iN hc1] | skip);(first | rw [if_pos hc2] | skip);first | done | rfl)
        | (try simp only [Bu,Bb] at *
           first
           | (simp only [Aj,D8,cV,v0, *,A2,↓reduceIte,A5,A6,Bl,A7,Bo,Aq,Be,A9,Bz,Bs];done)
           | (simp [Aj,D8,cV,v0, *];done)
           | (simp_all [Aj,D8,cV,v0];done))
        | skip
    . skip
      refine Dw (AW.seq (AW.block (AW.seq (AW.region (Qp T4 (Qp C0 (Qp Cl (Qp C5 (AOL.nil ?_)))))))));refine Aa (Gd (fun hc3=>?_) fun hc3=>?_)
      . skip
        refine AW.seq (AW.region (Qp Qq (Qp C0 (Qp (Lg B5) ?_))));refine Eu 0 B5 (_::_) ?_;refine Qp Bk (AOL.nil (Aa (AW.ret (Cn (Ap ?_)))));refine Yx [.agg B5,Iq _] (Zc 0) S1 ?_
        try simp only [Dk,Aq] at *
        first
          | (simp only [Aj,D8,cV,v0];(first | rw [iN hc1] | skip);(first | rw [iN hc2] | skip);(first | rw [if_pos hc3] | skip);first | done | rfl)
          | (try simp only [Bu,Bb] at *
             first
             | (simp only [Aj,D8,cV,v0, *,A2,↓reduceIte,A5,A6,Bl,A7,Bo,Aq,Be,A9,Bz,Bs];done)
             | (simp [Aj,D8,cV,v0, *];done)
             | (simp_all [Aj,D8,cV,v0];done))
          | skip
      . skip
        refine AW.seq (AW.region (Qp Qq (Qp C0 (Qp Cl (Qp Cp (Qg [] Qw T4 (Qg [(34,_)] Qw C0 (Qg [(35,_)] Qw Dl (Qp Iz ?_)))))))));refine Qp C5 (AOL.nil (Aa (Gd (fun hc4=>?_) fun hc4=>?_)))
        . skip
          refine AW.seq (AW.region (Qp (Ee B5) ?_));refine Eu 0 B5 (_::_) ?_;refine Qp Bk (AOL.nil (Aa (AW.ret (Cn (Ap ?_)))));refine Yx [.agg B5,Iq _] (Zc 0) S1 ?_
          try simp only [Dk,Aq] at *
          first
            | (simp only [Aj,D8,cV,v0];(first | rw [iN hc1] | skip);(first | rw [iN hc2] | skip);(first | rw [iN hc3] | skip);(first | rw [if_pos hc4] | skip);first | done | rfl)
            | (try simp only [Bu,Bb] at *
               first
               | (simp only [Aj,D8,cV,v0, *,A2,↓reduceIte,A5,A6,Bl,A7,Bo,Aq,Be,A9,Bz,Bs];done)
               | (simp [Aj,D8,cV,v0, *];done)
               | (simp_all [Aj,D8,cV,v0];done))
            | skip
        . skip
          refine Rf (AW.seq (AW.region (Qp Ml (Qp (Ee B5) ?_))));refine Eu 0 B5 (_::_) ?_;refine Qp Bk (AOL.nil (Aa (AW.ret ?_)));refine Yx [.agg B5,Iq _] (Zc 0) S1 ?_
          try simp only [Dk,Aq] at *
          first
            | (simp only [Aj,D8,cV,v0];(first | rw [iN hc1] | skip);(first | rw [iN hc2] | skip);(first | rw [iN hc3] | skip);(first | rw [iN hc4] | skip);first | done | rfl)
            | (try simp only [Bu,Bb] at *
               first
               | (simp only [Aj,D8,cV,v0, *,A2,↓reduceIte,A5,A6,Bl,A7,Bo,Aq,Be,A9,Bz,Bs];done)
               | (simp [Aj,D8,cV,v0, *];done)
               | (simp_all [Aj,D8,cV,v0];done))
            | skip
theorem c117 (k:Int)(a:Ac)(v:Vl)(h:Gg a.kind=true):Al Tryz.prog 258 [.agg (Uw a),.agg (cV v),.ptr [.int .i64 k]] (.agg (Uw (Tq k a v))):=by
 refine F8 13 Tryz.func258 rfl fun H=>?_
 refine Bv (Qp (Ji R6) (Qp (Ji B5) (Hy gfy fun b5=>Re ?_)));refine lT ?_;refine Qn 0 rfl (Ee R6) (Qn 1 rfl C0 (Qn 2 rfl C0 (Qn 3 rfl (Ee B5) (Qn 4 rfl (Qc rfl (c119 k v)) (Qn 5 rfl (Lg R6) (Qn 6 rfl (Qc rfl (c118 a ⟨k,1,Jd k v⟩ h)) ?_))))));refine Seg 7 rfl (Yst 0 (.agg _) R6 (_::_) rfl) ?_;refine lK ?_;refine Aa (AW.ret ?_);refine Yx [.agg R6] (Zb 0) S1 ?_;rfl
theorem c116 (k:Int)(hk:Gg k=true)(a:Ac)(l:List Vl)(h:Gg a.kind=true):Al Tryz.prog 257 [.agg (Uw a),.sl 3 (l.map cV),.fn (.func 258) [] [.ptr [.int .i64 k]]] (.agg (Uw (l.foldl (Tq k) a))):=by
 refine F8 21 Tryz.func257 rfl fun H=>?_
 refine Bv (Qe (fU (v:=.agg _) (cs:=R6) rfl rfl (rfl)) ?_);rintro _ _ ⟨b3,rfl,rfl⟩;refine Hy gfy fun b6=>Dt (F7 (Qp Oq ?_))
 refine Qp (Ki l.length rfl rfl (by simp)) ?_;refine Qp Ca (Dt (AW.block (AW.sllen 9 rfl fun hlen=>?_)));simp only [B1,maxLen] at hlen;refine AW.loopS (fun (p:Nat×Ac)=>(⟨[(2,.fn (.func 258) [] [.ptr [.int .i64 k]]),(9,.sl 3 (l.map cV)),(10,.int .i64 l.length),(11,.int .i64 (p.1:Int)),(3,.val (.pointer (some ⟨b3,0,none⟩))),(6,.val (.pointer (some ⟨b6,0,none⟩)))],.box b6 287 gfy :: .box b3 287 (Uw p.2)::H,21⟩:St)) (fun p=>p.1<=l.length/\l.foldl (Tq k) a=(l.drop p.1).foldl (Tq k) p.2/\Gg p.2.kind=true) (fun p=>l.length-p.1) ((0,a)) ?_ Kx ?_
 . exact ⟨Bn _,by simp,h⟩
 rintro p hR;refine Bv (Qp Fw (Re (Gd (fun hc1=>?_) fun hc1=>?_)))
 .
  obtain ⟨v,hv⟩:=Dd hc1;have hlt:=Bj hv;refine Dw (AW.seq (AW.block (Bv ?_)));refine Qp (Lq B5 rfl rfl (by omega) (Co hv)) ?_;refine Qp (Ee B5) (Hy L7 fun b8=>?_);refine Eu 0 B5 (_::_::_::_) ?_;refine Wd 8 0 rfl ?_;refine Dt (AW.region (Qp (Ae (v:=.fn _ _ _) rfl) ?_));refine rP 1 R6 rfl ?_;refine Qp (Ee B5) ?_;refine Qp (Fy (by kernel_rfl) rfl rfl rfl (c117 k p.2 v hR.2.2)) ?_;refine Eu 1 R6 (_::_::_) ?_;refine Rk (AW.region (Qp Mm (Qp Ca (Dt ?_))));refine ⟨(p.1+1,Tq k p.2 v),?_,?_,Kx⟩
  . exact ⟨Bj hv,by rw [hR.2.1,Bf hv];rfl,lF k _ v hR.2.2 hk⟩
  have:=Bj hv;first | omega | (simp only;omega)
 have hd:=Gb hc1;refine AW.exit ?_;refine A1 (Ri (Bv ?_));refine rP 1 R6 rfl ?_;refine Eu 0 R6 (_::_::_) ?_;refine Rb ?_;refine Yx [.agg R6] (Zb 0) S2 ?_;show AV.agg (Uw _)=_;rw [hR.2.1,hd];rfl
theorem c106 (k:Int)(l:List Vl)(o:Vl):Al Tryz.prog 243 [.int .i64 k,.sl 3 (l.map cV),.agg (cV o)] (.tuple [.agg (cV (ofS k l o).1),.int .i64 (ofS k l o).2]):=by
  refine F8 46 Tryz.func243 rfl fun H=>?_
  refine AW.seq (AW.region (Qp (Bt (v:=Iq _) (cs:=[Iq _]) rfl rfl rfl) (Qp (Ji B5) (Hy L7 fun b6=>Qp Bk (AOL.nil (Aa (AW.seq (AW.block (AW.seq (AW.region (Qp C0 (Qp (Qc rfl (c114 k)) (Qp Ik (Qp C5 (AOL.nil (Aa (Gd (fun hc1=>?_) fun hc1=>?_)))))))))))))))))
  . skip
    refine AW.seq (AW.region (Qp (Lg B5) ?_));refine Eu 0 B5 (_::_) ?_;refine Qp Bk (AOL.nil (Aa (AW.ret (Cn (Ap ?_)))));refine Yx [.agg B5,Iq _] (Zc 0) S1 ?_
    try simp only [Dk,Aq] at *
    first
      | (simp only [Aj,ofS,cV,v0];(first | rw [if_pos hc1] | skip);first | done | rfl)
      | (try simp only [Bu,Bb] at *
         first
         | (simp only [Aj,ofS,cV,v0, *,A2,↓reduceIte,A5,A6,Bl,A7,Bo,Aq,Be,A9,Bz,Bs];done)
         | (simp [Aj,ofS,cV,v0, *];done)
         | (simp_all [Aj,ofS,cV,v0];done))
      | skip
  . skip
    have hkn:Gg k=true:=by simpa using hc1
    refine AW.seq (AW.region (Qp Oq ?_));refine Qp (Ki l.length rfl rfl (by simp)) ?_;refine Qp Kl (Qp C5 (AOL.nil (Aa (Gd (fun hc2=>?_) fun hc2=>?_))))
    . skip
      refine AW.seq (AW.region (Qp (Lg B5) ?_));refine Eu 0 B5 (_::_) ?_;refine Qp Bk (AOL.nil (Aa (AW.ret (Cn (Ap ?_)))));refine Yx [.agg B5,Iq _] (Zc 0) S1 ?_
      try simp only [Dk,Aq] at *
      first
        | (simp only [Aj,ofS,cV,v0];(first | rw [iN hc1] | skip);(first | rw [if_pos hc2] | skip);first | done | rfl)
        | (try simp only [Bu,Bb] at *
           first
           | (simp only [Aj,ofS,cV,v0, *,A2,↓reduceIte,A5,A6,Bl,A7,Bo,Aq,Be,A9,Bz,Bs];done)
           | (simp [Aj,ofS,cV,v0, *];done)
           | (simp_all [Aj,ofS,cV,v0];done))
        | skip
    . skip
      refine Rf (AW.seq (AW.seq (AW.region (Qp Oq ?_))));refine Qp (Ki l.length rfl rfl (by simp)) ?_;refine Qp Ca (AOL.nil (Aa (AW.block ?_)));have hlen:(l.length:Int)<=4096:=by simpa using hc2
      refine AW.loopS (fun (p:Nat)=>(⟨[(1,.sl 3 (l.map cV)),(3,.ptr [.int .i64 k]),(5,.ptr (cV o)),(22,.sl 3 (l.map cV)),(23,.int .i64 l.length),(24,.int .i64 (p:Int)),(6,.val (.pointer (some ⟨b6,0,none⟩)))],.box b6 25 L7::H,46⟩:St)) (fun p=>p<=l.length/\Ax (F0 k) l=Ax (F0 k) (l.drop p)) (fun p=>l.length-p) (0) ?_ Kx ?_
      . exact ⟨Bn _,by simp⟩
      . rintro p hR
        refine AW.seq (AW.region (Qp Fw (AOL.nil (Aa (AW.seq (Gd (fun hc3=>?_) fun hc3=>?_))))))
        . skip
          obtain ⟨v,hv⟩:=Dd hc3;have hlt:=Bj hv;refine Dw (AW.seq (AW.block (AW.seq (AW.region ?_))));refine Qp (Lq B5 rfl rfl (by omega) (Co hv)) ?_;refine Qp (Ee B5) ?_;refine Hy L7 fun b9=>?_
          refine Eu 0 B5 (_::_::_) ?_;refine Wd 9 0 rfl ?_;refine AOL.nil (Aa (AW.seq (AW.region (Qp C0 (Qp (Ee B5) ?_)))));refine Qp (Qc rfl (c115 k v)) ?_;refine Qp Bk (AOL.nil (Aa (AW.seq (AW.region (Qp Ca (Qp Dl (AOL.nil (Aa (Gd (fun hc4=>?_) fun hc4=>?_)))))))))
          . skip
            have hf:Ax (F0 k) l=F0 k v:=by rw [hR.2,Bf hv,Ax,if_pos hc4]
            refine AW.seq (AW.region (Qp (Lg B5) (Qp Ca ?_)));refine Eu 0 B5 (_::_) ?_;refine Qp Bk (AOL.nil (Aa (AW.ret (Rj (Ap ?_)))));refine Yx [.agg B5,Iq _] (Zc 0) S1 ?_;simp only [Bb] at hc1;have hc2':decide (4096<(l.length:Int))=false:=by simpa using hc2
            simp only [Aj,ofS,hf,hc1,hc2',hkn, *,A2,↓reduceIte,Bz];first | rfl | simp [nG,cV,v0]
          . skip
            refine Rf (AW.region (Qp Mm (Qp Ca (AOL.nil (Aa ?_)))));refine ⟨p+1,?_,?_,Kx⟩
            . exact ⟨Bj hv,by rw [hR.2,Bf hv,Ax,if_neg (by simpa using hc4)]⟩
            have:=Bj hv;first | omega | (simp only;omega)
        . skip
          have hd:=Gb hc3;have hf:Ax (F0 k) l=0:=by rw [hR.2,hd];rfl
          refine AW.exit ?_;refine A1 (Ri (AW.seq (AW.region (Qp C0 (Qp (Lg R6) (Qp Oq ?_))))));refine Qp (A3 (l:=[]) (l':=[.ptr _]) rfl rfl) ?_;refine Qp (Qc rfl (c116 k hkn ⟨k,0,v0⟩ l hkn)) ?_;refine Hy gfy fun b11=>?_
          refine Eu 0 R6 (_::_::_) ?_;refine Wd 11 0 rfl ?_;refine AOL.nil (Aa (AW.seq (AW.region (Qp (Ee R6) (Qp (Ee B5) ?_)))));refine Qp (Qc rfl (c120 (l.foldl (Tq k) ⟨k,0,v0⟩) o)) ?_;refine Qp (A4 (v:=.agg B5) rfl rfl) ?_;refine Qp Uq ?_;refine Eu 0 B5 (_::_) ?_;refine Qp Bk (AOL.nil (Aa (AW.ret ?_)));refine Yx [.agg B5,Iq _] (Zc 0) S1 ?_;simp only [Bb] at hc1;have hc2':decide (4096<(l.length:Int))=false:=by simpa using hc2
          simp only [Aj,ofS,hf,hc1,hc2',hkn, *,A2,↓reduceIte,Bz];first | rfl | simp [nG,cV,v0]
theorem c91 (x:Evr)(v:Int):Al Tryz.prog 231 [.agg (cX x),.int .i64 v] (.sl 5 ((Db x.vars v).map Ec)):=by
 refine F8 21 Tryz.func231 rfl fun H=>?_
 refine Bv (Qp (Ji gY) (Qp (Dg (z:=5) rfl) (Dt (F7 (Qp Ca (Qp Fw (Qp Cp (Qg [] Qw Ca (Qg [] Qw (Qf gY) (Qg [(9,_)] Qw (Qf gY) (Qg [(10,_)] Qw J7 ?_)))))))))));refine Yh [(11,_)] Qw (fun hG=>Ki x.vars.length rfl rfl (by simp)) ?_;refine Qg [(8,_),(12,_)] Yw Nj (Qp Fz (Ef (fun hc1=>Bv (Qp (Dg (z:=5) rfl) (Rc (Qr (.sl _ _) ?_)))) fun hc1=>?_))
 .
  simp only [Aj,Db];rw [if_pos hc1];rfl
 have hv:0<=v/\v<(x.vars.length:Int):=by simp at hc1;omega
 obtain ⟨l,hl⟩:=gZ hv.1 hv.2;refine Dw (Bv (Qp (Qf gY) (Qp (Qf gY) (Qp J7 (Qp Ca ?_)))));refine Qp (Lq [_] rfl rfl (hv.1) (Co hl)) (Qp J7 (Qp xL (Rb (Qr (.sl _ _) ?_))));simp only [Aj,Db];rw [if_neg (by simpa using hc1),hl];rfl
theorem c93 (e:Ev)(k:Int)(hk:0<=k):Al Tryz.prog 233 [.agg (Ec e),.int .i64 k] (.tuple [.agg (cV (Ge e k).1),.int .i64 (Ge e k).2]):=by
 refine F8 17 Tryz.func233 rfl fun H=>?_
 refine Bv (Qp (Ji dS) (Hy L7 fun b4=>Qp Bk (Dt (F7 (Qp Ca (Qp (Qf [_]) (Qp J7 ?_)))))));refine Qp (Ki e.values.length rfl rfl (by simp)) ?_;refine Qp Nj (Ef (fun hc1=>Bv (Qp (Lg B5) ?_)) fun hc1=>?_)
 .
  refine Eu 0 B5 (_::_) (Qp Bk (Rc ?_));refine Yx [.agg B5,Iq _] (Zc 0) S1 ?_;simp only [Aj,Ge];rw [if_pos hc1];rfl
 obtain ⟨v,hv⟩:=gZ (l:=e.values) hk (by simp at hc1;omega);refine Dw (Bv (Qp (Qf [_]) (Qp J7 (Qp Ca ?_))));refine Qp (Lq B5 rfl rfl (hk) (Co hv)) (Qp (Ee B5) ?_);refine Eu 0 B5 (_::_) (Qp Bk (Rb ?_));refine Yx [.agg B5,Iq _] (Zc 0) S1 ?_;simp only [Aj,Ge];rw [if_neg (by simpa using hc1),hv];rfl
theorem c92 (x:Evr)(hx:x.ok)(e:Ex)(hk:0<=e.field):Al Tryz.prog 232 [.agg (cX x),.agg (cE e)] (.tuple [.agg (cV (Tb x e).1),.int .i64 (Tb x e).2]):=by
 refine F8 44 Tryz.func232 rfl fun H=>?_
 refine Bv (Qp (Ji gY) (Qp Th (Hy L7 fun b4=>Qp Bk (Gw (Qp Qav ?_)))));refine AOL.ghost (GS.row (t:=6) 25 3 rfl) ?_;refine Dt (F7 (Qp (Ee gY) (Qp Wg (Qp C0 (Qp (Qc rfl (c91 x e.var)) ?_)))));refine Qp (Ki ((Db x.vars e.var).length) rfl rfl (by simp)) ?_;refine Qp Ca (Dt (AW.block ?_));have hlen:=W7 hx e.var;refine AW.loopS (fun (p:Nat×List (List AV)×Value)=>(⟨[(2,.ptr (cX x)),(3,.ptr (cE e)),(4,.val (.pointer (some ⟨b4,0,none⟩))),(6,.row p.2.2 3 p.2.1),(14,.sl 5 ((Db x.vars e.var).map Ec)),(15,.int .i64 (Db x.vars e.var).length),(16,.int .i64 (p.1:Int))],.row p.2.2 p.2.1.length 25 3 :: .box b4 25 L7::H,44⟩:St)) (fun p=>p.1<=(Db x.vars e.var).length/\Ax (fun v=>(Ge v e.field).2) (Db x.vars e.var)=Ax (fun v=>(Ge v e.field).2) ((Db x.vars e.var).drop p.1)/\p.2.1=(((Db x.vars e.var).take p.1).map fun v=>(Ge v e.field).1).map cV) (fun p=>(Db x.vars e.var).length-p.1) ((0,[],.slice none 0 0)) ?_ Kx ?_
 . exact ⟨Bn _,by simp,by simp⟩
 rintro p hR;have hsc:∀c∈p.2.1,Bm c=true:=by rw [hR.2.2];exact M3 fun _=>rfl
 refine Bv (Qp Fw (Re (Gd (fun hc1=>?_) fun hc1=>?_)))
 .
  obtain ⟨a,ha⟩:=Dd hc1;have hlt:=Bj ha;have hm:=A0 ha;refine Dw (AW.seq (AW.block (Bv ?_)));refine Qp (Lq dS rfl rfl (by omega) (Co ha)) ?_;refine Qp (Ee dS) (Hy [.int .i64 0,.int .i64 0,.int .i64 0,.int .i64 0,.sl 3 []] fun b8=>?_);refine Eu 0 dS (_::_::_::_) ?_;refine Wd 8 0 rfl ?_;refine Gw (Qp (Ee dS) (Qp T4 (Qp C0 (Qp (Qc rfl (c93 a e.field hk)) (Qp Z1 (Qp (A4 (v:=.agg B5) rfl rfl) (Qp Uq (Hy L7 fun b9=>?_))))))));refine Eu 0 B5 (_::_::_::_) (Qp Bk ?_);refine Wd 9 0 rfl ?_;refine Dt (F7 (Qp Ca (Qp Dl (Ef (fun hc2=>Bv (Qp (Lg B5) (Qp Ca ?_))) fun hc2=>Dw (AW.region (Qp (Ae (v:=.row _ _ _) rfl) (Qp (Ee B5) (Qp (Ybs [B5] rfl) ?_))))))))
  .
   refine Eu 1 B5 (_::_::_) (Qp Bk (Rc (Rj (Ap ?_))));refine Yx [.agg B5,Iq _] (Zc 1) S2 ?_;have hf:Ax (fun v=>(Ge v e.field).2) (Db x.vars e.var)=(Ge a e.field).2:=by rw [hR.2.1,Bf ha,Ax,if_pos hc2]
   simp only [Aj,Tb,hf,hc2,↓reduceIte];rfl
  refine Qe (Yad 0 rfl (Hn rfl) (hsc) (by simp [hR.2.2];omega) (by simp [hR.2.2,maxLen];omega)) ?_;rintro _ _ ⟨v34,rfl,rfl⟩;refine Qp (Ag (v:=.row _ _ _) rfl) (Rk (AW.region (Qp Mm (Qp Ca (Dt ?_)))));refine ⟨(p.1+1,p.2.1 ++ [cV (Ge a e.field).1],v34),?_,?_,Kx⟩
  . simp only;exact ⟨hlt,by rw [hR.2.1,Bf ha,Ax,if_neg (by simpa using hc2)],by rw [Cr ha,hR.2.2];simp⟩
  first | omega | (simp only;omega)
 have hte:=D3 hc1;have hd:=Gb hc1;have hf:Ax (fun v=>(Ge v e.field).2) (Db x.vars e.var)=0:=by rw [hR.2.1,hd];rfl
 obtain ⟨k,es,rv⟩:=p;simp only at hR hte;obtain rfl:es=((Db x.vars e.var).map fun v=>(Ge v e.field).1).map cV:=by rw [hR.2.2,hte]
 refine AW.exit ?_;refine A1 (Ri (Bv (Qp Qq (Qp C0 ?_))));refine AOL.ghost (GS.unrow 6 rfl) ?_;refine Qp Oq (Qp Ml (Qp (Ee B5) (Qp (Qc rfl (c106 e.kind ((Db x.vars e.var).map fun v=>(Ge v e.field).1) e.val)) ?_)));refine Qp (A4 (v:=.agg B5) rfl rfl) (Qp Uq ?_);refine Eu 1 B5 (_::_::_) (Qp Bk (Rb ?_));refine Yx [.agg B5,Iq _] (Zc 1) S2 ?_;simp only [Aj,Tb,hf];rfl
theorem c71 (op:Int)(ks:List Int):Al Tryz.prog 213 [.int .i64 op,.sl 1 (ks.map fun k=>[.int .i64 k])] (.int .i64 (O2 op ks)):=by
 refine F8 38 Tryz.func213 rfl fun H=>?_
 refine Bv (Qp Bk (Dt (F7 (Qp Oq ?_))));refine Qp (Ki ks.length rfl rfl (by simp)) ?_;refine Qp Ca (Dt (AW.block ?_));refine AW.sllen 8 rfl fun hlen=>?_
 simp only [B1,maxLen] at hlen;refine AW.loopS (fun (p:Nat)=>(⟨[(0,.int .i64 op),(1,.sl 1 (ks.map fun k=>[.int .i64 k])),(8,.sl 1 (ks.map fun k=>[.int .i64 k])),(9,.int .i64 ks.length),(10,.int .i64 (p:Int))],H,38⟩:St)) (fun p=>p<=ks.length/\O2 op ks=Ax (fun k=>if Kj op k (ks.headD 0) then 0 else 9) (ks.drop p)) (fun p=>ks.length-p) (0) ?_ Kx ?_
 . exact ⟨Bn _,rfl⟩
 rintro p hR;refine Bv (Qp Fw (Re (Gd (fun hc1=>?_) fun hc1=>?_)))
 .
  obtain ⟨a,ha⟩:=Dd hc1;have hlt:=Bj ha;have hm:=A0 ha;obtain ⟨a0,ha0⟩:∃a0,ks[0]? = some a0:=⟨_,List.getElem?_eq_getElem (by omega)⟩;have hhd:ks.headD 0=a0:=by cases ks <;> simp_all
  refine Dw (AW.seq (AW.block (Bv ?_)));refine Qp (Lq [Iq _] rfl rfl (by omega) (Co (f:=fun k=>[AV.int .i64 k]) ha)) ?_;refine Qp C0 (Qp Bk (Gw (Qp C5 (Dt ?_))));refine AW.cut (fun (_:Unit)=>(⟨[(0,.int .i64 op),(1,.sl 1 (ks.map fun k=>[.int .i64 k])),(8,.sl 1 (ks.map fun k=>[.int .i64 k])),(9,.int .i64 ks.length),(10,.int .i64 (p:Int)),(7,.bool (Kj op a a0))],H,38⟩:St)) (fun _=>True) ?_ ?_
  .
   refine Bv (Qp Ca (Dt (AW.block ?_)));refine AW.cut (fun (_:Unit)=>(⟨[(0,.int .i64 op),(1,.sl 1 (ks.map fun k=>[.int .i64 k])),(6,.int .i64 a),(7,.bool true),(8,.sl 1 (ks.map fun k=>[.int .i64 k])),(9,.int .i64 ks.length),(10,.int .i64 (p:Int)),(14,.int .i64 op),(15,.bool (op==5||op==6||op==7||op==8))],H,38⟩:St)) (fun _=>True) ?_ ?_
   .
    refine Bv (Qp Cl (Qp C5 (Ef (fun hc2=>?_) fun hc2=>?_)))
    .
     refine Dw ?_;refine ⟨(),?_,GS.weaken ⟨rfl,rfl,rfl,rfl,rfl,rfl,rfl,rfl,congrArg AV.bool (by simp [Kj, *]),trivial⟩ (.refl _)⟩
     trivial
    refine Bv (Qp Cl (Qp C5 (Ef (fun hc3=>?_) fun hc3=>?_)))
    .
     refine Dw ?_;refine ⟨(),?_,GS.weaken ⟨rfl,rfl,rfl,rfl,rfl,rfl,rfl,rfl,congrArg AV.bool (by simp [Kj, *]),trivial⟩ (.refl _)⟩
     trivial
    refine Bv (Qp Cl (Qp C5 (Ef (fun hc4=>?_) fun hc4=>?_)))
    .
     refine Dw ?_;refine ⟨(),?_,GS.weaken ⟨rfl,rfl,rfl,rfl,rfl,rfl,rfl,rfl,congrArg AV.bool (by simp [Kj, *]),trivial⟩ (.refl _)⟩
     trivial
    refine AW.region (Qp Cl (Qp C5 (Dt ?_)));refine ⟨(),?_,GS.weaken ⟨rfl,rfl,rfl,rfl,rfl,rfl,rfl,rfl,congrArg AV.bool (by simp [Kj, *]),trivial⟩ (.refl _)⟩
    trivial
   rintro _ _;refine Gd (fun hc5=>?_) fun hc5=>?_
   .
    refine AW.region (Qp Ca (Qp Cl (Qp C5 (Rk ?_))));refine ⟨(),?_,GS.weaken ⟨rfl,rfl,rfl,rfl,rfl,congrArg AV.bool (by simp [Kj, *]),trivial⟩ (.refl _)⟩
    trivial
   refine AW.cut (fun (_:Unit)=>(⟨[(0,.int .i64 op),(1,.sl 1 (ks.map fun k=>[.int .i64 k])),(6,.int .i64 a),(7,.bool true),(8,.sl 1 (ks.map fun k=>[.int .i64 k])),(9,.int .i64 ks.length),(10,.int .i64 (p:Int)),(14,.int .i64 op),(22,.bool (op==10||op==11||op==12))],H,38⟩:St)) (fun _=>True) ?_ ?_
   .
    refine Bv (Qp Cl (Qp C5 (Ef (fun hc6=>?_) fun hc6=>?_)))
    .
     refine Dw ?_;refine ⟨(),?_,GS.weaken ⟨rfl,rfl,rfl,rfl,rfl,rfl,rfl,rfl,congrArg AV.bool (by simp [Kj, *]),trivial⟩ (.refl _)⟩
     trivial
    refine Bv (Qp Cl (Qp C5 (Ef (fun hc7=>?_) fun hc7=>?_)))
    .
     refine Dw ?_;refine ⟨(),?_,GS.weaken ⟨rfl,rfl,rfl,rfl,rfl,rfl,rfl,rfl,congrArg AV.bool (by simp [Kj, *]),trivial⟩ (.refl _)⟩
     trivial
    refine AW.region (Qp Cl (Qp C5 (Dt ?_)));refine ⟨(),?_,GS.weaken ⟨rfl,rfl,rfl,rfl,rfl,rfl,rfl,rfl,congrArg AV.bool (by simp [Kj, *]),trivial⟩ (.refl _)⟩
    trivial
   rintro _ _;refine Gd (fun hc8=>?_) fun hc8=>?_
   .
    refine AW.region (Qp Ca (Qp Cl (Qp C5 (Rk ?_))));refine ⟨(),?_,GS.weaken ⟨rfl,rfl,rfl,rfl,rfl,congrArg AV.bool (by simp [Kj, *]),trivial⟩ (.refl _)⟩
    trivial
   refine Bv (Qp Cl (Qp C5 (Ef (fun hc9=>?_) fun hc9=>?_)))
   .
    refine AW.region (Qp Ca (Qp Oq ?_));refine Qp (Lq [Iq _] rfl rfl (by omega) (Co (f:=fun k=>[AV.int .i64 k]) ha0)) ?_;refine Qp C0 (Qp Cl (Qp C5 (Rk ?_)));refine ⟨(),?_,GS.weaken ⟨rfl,rfl,rfl,rfl,rfl,congrArg AV.bool (by simp [Kj, *]),trivial⟩ (.refl _)⟩
    trivial
   refine Rf ?_;refine ⟨(),?_,GS.weaken ⟨rfl,rfl,rfl,rfl,rfl,congrArg AV.bool (by simp [Kj, *]),trivial⟩ (.refl _)⟩
   trivial
  rintro _ _;refine Bv (Qp Cp (Qp Ik (Ef (fun hc10=>?_) fun hc10=>?_)))
  .
   have hok:Kj op a a0=false:=by simpa using hc10
   refine Bv (Qp Bk (Ra (Ap (Cn (Ap ?_)))));refine Qr (Iq _) ?_;simp only [Aj,AV.int.injEq,true_and];rw [hR.2,Bf ha,Ax,hhd];simp [hok]
  have hok:Kj op a a0=true:=by simpa using hc10
  refine Rf (AW.region (Qp Mm (Qp Ca (Dt ?_))));refine ⟨p+1,?_,?_,Kx⟩
  . exact ⟨hlt,by rw [hR.2,Bf ha,Ax,hhd];simp [hok]⟩
  first | omega | (simp only;omega)
 have hd:=Gb hc1;refine AW.exit ?_;refine A1 (Ri (Bv (Qp Bk (Rb ?_))));refine Qr (Iq _) ?_;simp only [Aj,AV.int.injEq,true_and];rw [hR.2,hd];rfl
theorem c65 (a b:Int):Al Tryz.prog 207 [.int .i64 a,.int .i64 b] (.agg (cV (Mo 7 a b))):=by
 refine F8 9 Tryz.func207 rfl fun H=>?_
 refine Bv (Hy L7 fun b4=>Gw (Qp Ca (Qp Ca (Qp Fw (Qp (Qc rfl (xY _)) ?_)))));refine Eu 0 B5 (_::_) (Rb ?_);refine Yx [.agg B5] (Zb 0) S1 ?_;rfl
theorem c66 (a b:Int):Al Tryz.prog 208 [.int .i64 a,.int .i64 b] (.agg (cV (Mo 8 a b))):=by
 refine F8 9 Tryz.func208 rfl fun H=>?_
 refine Bv (Hy L7 fun b4=>Gw (Qp Ca (Qp Ca (Qp Z0 (Qp (Qc rfl (xY _)) ?_)))));refine Eu 0 B5 (_::_) (Rb ?_);refine Yx [.agg B5] (Zb 0) S1 ?_;rfl
theorem c67 (a b:Int):Al Tryz.prog 209 [.int .i64 a,.int .i64 b] (.agg (cV (Mo 10 a b))):=by
 refine F8 12 Tryz.func209 rfl fun H=>?_
 refine Bv (Hy L7 fun b4=>Gw (Qp Ca (Qp Cl (Qp Cp (Qg [] Qw Ca (Qg [(8,_)] Qw Cl (Qp Iz (Qp (Qc rfl (xY _)) ?_))))))));refine Eu 0 B5 (_::_) (Rb ?_);refine Yx [.agg B5] (Zb 0) S1 ?_;rfl
theorem c68 (a b:Int):Al Tryz.prog 210 [.int .i64 a,.int .i64 b] (.agg (cV (Mo 11 a b))):=by
 refine F8 12 Tryz.func210 rfl fun H=>?_
 refine Bv (Hy L7 fun b4=>Gw (Qp Ca (Qp Cl (Qp Cp (Qg [] Qw Ca (Qg [(8,_)] Qw Cl (Qp Fz (Qp (Qc rfl (xY _)) ?_))))))));refine Eu 0 B5 (_::_) (Rb ?_);refine Yx [.agg B5] (Zb 0) S1 ?_;rfl
theorem c69 (a b:Int):Al Tryz.prog 211 [.int .i64 a,.int .i64 b] (.agg (cV (Mo 12 a b))):=by
 refine F8 8 Tryz.func211 rfl fun H=>?_
 refine Bv (Hy L7 fun b4=>Gw (Qp Ca (Qp Dl (Qp (Qc rfl (xY _)) ?_))));refine Eu 0 B5 (_::_) (Rb ?_);refine Yx [.agg B5] (Zb 0) S1 ?_;rfl
theorem c62 (n:Int):Al Tryz.prog 204 [.int .i64 n] (.agg (cV ⟨0,n,[]⟩)):=by
 refine F8 5 Tryz.func204 rfl fun H=>?_
 refine Bv (Hy L7 fun b2=>Gw (Qp Ca (Qp (Lg B5) ?_)));refine Eu 0 B5 (_::_) (Rb ?_);refine Yx [.agg B5] (Zb 0) S1 ?_;rfl
theorem c63 (a b:Int):Al Tryz.prog 205 [.int .i64 a,.int .i64 b,.ptr [.fn (.func 204) [] []]] (.agg (cV (Mo 5 a b))):=by
 refine F8 11 Tryz.func205 rfl fun H=>?_
 refine Bv (Hy L7 fun b5=>Gw (Qp (Af (c:=.fn _ _ _) Ai rfl rfl rfl) (Qp Ca (Qp Ca (Qp (Xz rfl rfl) ?_)))));refine Qp (Fy (by kernel_rfl) rfl rfl rfl (c62 _)) ?_;refine Eu 0 B5 (_::_) (Rb ?_);refine Yx [.agg B5] (Zb 0) S1 ?_;rfl
theorem c64 (a b:Int):Al Tryz.prog 206 [.int .i64 a,.int .i64 b,.ptr [.fn (.func 204) [] []]] (.agg (cV (Mo 6 a b))):=by
 refine F8 11 Tryz.func206 rfl fun H=>?_
 refine Bv (Hy L7 fun b5=>Gw (Qp (Af (c:=.fn _ _ _) Ai rfl rfl rfl) (Qp Ca (Qp Ca (Qp (Up rfl rfl) ?_)))));refine Qp (Fy (by kernel_rfl) rfl rfl rfl (c62 _)) ?_;refine Eu 0 B5 (_::_) (Rb ?_);refine Yx [.agg B5] (Zb 0) S1 ?_;rfl
theorem c39  : Al Tryz.prog 185 [] (.mapv OPS):=by
 refine F8 6 Tryz.func185 rfl fun H=>?_
 refine Bv (Qp Qav (Gw (Hy [.val .nilFunc] fun b1=>?_)));refine Eu 0 [_] (_::_) ?_;refine Wd 1 0 rfl ?_;refine Gw (Qe (jH) ?_);rintro _ _ ⟨b2,rfl,rfl⟩;refine Qp (A3 (l:=[]) (l':=[.ptr _]) rfl rfl) (Rt (Kw (i:=0) (x:=.fn _ _ _) (H2:=_::_) Ai rfl rfl rfl rfl rfl rfl rfl rfl rfl rfl) (Qp (A3 (l:=[]) (l':=[.ptr _]) rfl rfl) (Rt (Kw (i:=0) (x:=.fn _ _ _) (H2:=_::_) Ai rfl rfl rfl rfl rfl rfl rfl rfl rfl rfl) (Rt (Kw (i:=0) (x:=.fn _ _ _) (H2:=_::_) Ai rfl rfl rfl rfl rfl rfl rfl rfl rfl rfl) (Rt (Kw (i:=0) (x:=.fn _ _ _) (H2:=_::_) Ai rfl rfl rfl rfl rfl rfl rfl rfl rfl rfl) (Rt (Kw (i:=0) (x:=.fn _ _ _) (H2:=_::_) Ai rfl rfl rfl rfl rfl rfl rfl rfl rfl rfl) (Rt (Kw (i:=0) (x:=.fn _ _ _) (H2:=_::_) Ai rfl rfl rfl rfl rfl rfl rfl rfl rfl rfl) (Rt (Kw (i:=0) (x:=.fn _ _ _) (H2:=_::_) Ai rfl rfl rfl rfl rfl rfl rfl rfl rfl rfl) ?_))))))));refine AOL.ghost (GS.freezeMap (t:=2) 0 rfl rfl) ?_;refine Qp (Ae (v:=.mapv _) rfl) (Qp (Ag (v:=.mapv _) rfl) (Rb (Qr (.mapv _) ?_)));rfl
theorem c70 (x:Evr)(hx:x.ok)(e:Ex)(hk:0<=e.field):Al Tryz.prog 212 [.agg (cX x),.agg (cE e)] (.tuple [.agg (cV (Hh x e).1),.int .i64 (Hh x e).2]):=by
 refine F8 71 Tryz.func212 rfl fun H=>?_
 refine Bv (Qp (Ji gY) (Qp Th ?_));refine Hy L7 fun b4=>?_
 refine Qp Bk (Gw (Qp (Ee gY) (Qp Wg (Qp C0 ?_))));refine Qp (Qc rfl (c91 x e.var)) ?_;refine Qp xL (Dt (F7 (Qp R5 (Qp C0 (Dt (AW.block (Bv (Qp Cl ?_))))))));refine Qp C5 (Ef (fun hc1=>?_) fun hc1=>?_)
 .
  refine Bv (Qp Ml (Qp (Ee B5) ?_));refine Eu 0 B5 (_::_) ?_;refine Qp Bk (Ra ?_);refine Yx [.agg B5,Iq _] (Zc 0) S1 ?_;simp only [Aj,Hh,Kb]
  try simp only [hgd]
  (first | rw [if_pos hc1] | skip)
  first | done | rfl | (exfalso;simp_all;done) | skip
 refine Bv (Qp Cl (Qp C5 (Ef (fun hc2=>?_) fun hc2=>?_)))
 .
  refine Bv (Qp Oq ?_);refine Qp (Ki ((Db x.vars e.var).length) rfl rfl (by simp)) ?_;refine Qp (Lg B5) ?_;refine Eu 0 B5 (_::_) ?_;refine Qp Bk (Ra ?_);refine Yx [.agg B5,Iq _] (Zc 0) S1 ?_;simp only [Aj,Hh,Kb]
  try simp only [hgd]
  (first | rw [iN hc1] | skip);(first | rw [if_pos hc2] | skip)
  first | done | rfl | (exfalso;simp_all;done) | skip
 refine Bv (Qp Cl (Qp C5 (Ef (fun hc3=>?_) fun hc3=>?_)))
 .
  refine Bv (Qp (Ee gY) (Qp Ld ?_));refine Qp (Qc rfl (c92 x hx e hk)) ?_;refine Qp (A4 (v:=.agg B5) rfl rfl) ?_;refine Qp Uq ?_;refine Eu 0 B5 (_::_) ?_;refine Qp Bk (Ra ?_);refine Yx [.agg B5,Iq _] (Zc 0) S1 ?_;simp only [Aj,Hh,Kb]
  try simp only [hgd]
  (first | rw [iN hc1] | skip);(first | rw [iN hc2] | skip);(first | rw [if_pos hc3] | skip)
  first | done | rfl | (exfalso;simp_all;done) | skip
 refine Rf (Bv (Qp (Qf [Iq _,Iq _,Iq _,Iq _,_,_]) (Qp (Ee dS) ?_)));refine Hy [.int .i64 0,.int .i64 0,.int .i64 0,.int .i64 0,.sl 3 []] fun b7=>?_
 refine Eu 0 dS (_::_::_) ?_;refine Dt (F7 (Qp Wg (Qp C0 (Qp (Qf [Iq _,Iq _,Iq _,Iq _,Iq _,_,_]) (Qp C0 (Qp Dl (Ef (fun hc4=>?_) fun hc4=>?_)))))))
 .
  refine F7 (Qp Oq ?_);refine Qp (Ki ((Db x.vars e.var).length) rfl rfl (by simp)) ?_;refine Qp Cl (Ef (fun hc5=>?_) fun hc5=>?_)
  .
   refine Bv (Qp (Lg B5) ?_);refine Eu 1 B5 (_::_::_) ?_;refine Qp Bk (Rc (Ap ?_));refine Yx [.agg B5,Iq _] (Zc 1) S2 ?_;simp only [Aj,Hh,Kb]
   try simp only [hgd]
   (first | rw [iN hc1] | skip);(first | rw [iN hc2] | skip);(first | rw [iN hc3] | skip);(first | rw [if_pos hc4] | skip);(first | rw [if_pos hc5] | skip)
   first | done | rfl | (exfalso;simp_all;done) | skip
  have hlg:=oD hc5;have hle:=W7 hx e.var;have hne:(Db x.vars e.var).length≠0:=by simpa using hc5
  refine hlg.elim fun a hal=>?_
  have ha:=hal.1;have hl:=hal.2;have hgd:(Db x.vars e.var).getLast?.getD Hg=a:=by rw [hl];rfl
  refine Dw (AW.region (Qp Oq (Qp Oq ?_)));refine Qp (Ki ((Db x.vars e.var).length) rfl rfl (by simp)) ?_;refine Qp (Gj rfl rfl rfl (by constructor <;> omega)) ?_;refine Qp (Lq dS rfl rfl (by omega) (Co ha)) ?_;refine Qp (Ee dS) ?_;refine Eu 0 dS (_::_::_) ?_;refine Dt (F7 (Qp R5 (Qp C0 (Qp Cl (Ef (fun hc6=>?_) fun hc6=>?_)))))
  .
   refine Bv (Qp sC ?_);refine rQ 0 (Iq _) rfl ?_;refine Qp (Lg B5) ?_;refine Eu 1 B5 (_::_::_) ?_;refine Qp Bk (Rc ?_);refine Yx [.agg B5,Iq _] (Zc 1) S2 ?_;simp only [Aj,Hh,Kb]
   try simp only [hgd]
   (first | rw [iN hc1] | skip);(first | rw [iN hc2] | skip);(first | rw [iN hc3] | skip);(first | rw [if_pos hc4] | skip);(first | rw [iN hc5] | skip);(first | rw [if_pos hc6] | skip)
   first | done | rfl | (exfalso;simp_all;done) | skip
  refine Dw (Bv ?_);refine rP 0 dS rfl ?_;refine Qp T4 (Qp C0 ?_);refine Qp (Qc rfl (c93 _ e.field hk)) ?_;refine Qp Z1 ?_;refine Qp (A4 (v:=.agg B5) rfl rfl) ?_;refine Qp Uq ?_;refine Hy L7 fun b8=>?_
  refine Eu 0 B5 (_::_::_::_) ?_;refine Qp Bk ?_;refine Wd 8 0 rfl ?_;refine Dt (F7 (Qp Ca (Qp Cl (Ef (fun hc7=>?_) fun hc7=>?_))))
  .
   refine AW.region (Qp (Ee B5) ?_);refine Qp (Qc rfl (c94 _)) ?_;refine Qp Bk (Dt (F7 (Qp Ca (Qp Dl (Ef (fun hc8=>?_) fun hc8=>?_)))))
   .
    refine Bv (Qp (Lg B5) (Qp Ca ?_));refine Eu 1 B5 (_::_::_) ?_;refine Qp Bk (Rc ?_);refine Yx [.agg B5,Iq _] (Zc 1) S2 ?_;simp only [Aj,Hh,Kb]
    try simp only [hgd]
    (first | rw [iN hc1] | skip);(first | rw [iN hc2] | skip);(first | rw [iN hc3] | skip);(first | rw [if_pos hc4] | skip);(first | rw [iN hc5] | skip);(first | rw [iN hc6] | skip);(first | rw [if_pos hc7] | skip);(first | rw [if_pos hc8] | skip)
    first | done | rfl | (exfalso;simp_all;done) | skip
   refine Dw (Bv (Qp (Ee B5) ?_));refine Eu 1 B5 (_::_::_) ?_;refine Qp Bk (Rb ?_);refine Yx [.agg B5,Iq _] (Zc 1) S2 ?_;simp only [Aj,Hh,Kb]
   try simp only [hgd]
   (first | rw [iN hc1] | skip);(first | rw [iN hc2] | skip);(first | rw [iN hc3] | skip);(first | rw [if_pos hc4] | skip);(first | rw [iN hc5] | skip);(first | rw [iN hc6] | skip);(first | rw [if_pos hc7] | skip);(first | rw [iN hc8] | skip)
   first | done | rfl | (exfalso;simp_all;done) | skip
  refine Dw (F7 (Qp Ca (Qp Dl (Ef (fun hc9=>?_) fun hc9=>?_))))
  .
   refine Bv (Qp (Lg B5) (Qp Ca ?_));refine Eu 1 B5 (_::_::_) ?_;refine Qp Bk (Rc ?_);refine Yx [.agg B5,Iq _] (Zc 1) S2 ?_;simp only [Aj,Hh,Kb]
   try simp only [hgd]
   (first | rw [iN hc1] | skip);(first | rw [iN hc2] | skip);(first | rw [iN hc3] | skip);(first | rw [if_pos hc4] | skip);(first | rw [iN hc5] | skip);(first | rw [iN hc6] | skip);(first | rw [iN hc7] | skip);(first | rw [if_pos hc9] | skip)
   first | done | rfl | (exfalso;simp_all;done) | skip
  refine Dw (Bv (Qp (Ee B5) ?_));refine Eu 1 B5 (_::_::_) ?_;refine Qp Bk (Rb ?_);refine Yx [.agg B5,Iq _] (Zc 1) S2 ?_;simp only [Aj,Hh,Kb]
  try simp only [hgd]
  (first | rw [iN hc1] | skip);(first | rw [iN hc2] | skip);(first | rw [iN hc3] | skip);(first | rw [if_pos hc4] | skip);(first | rw [iN hc5] | skip);(first | rw [iN hc6] | skip);(first | rw [iN hc7] | skip);(first | rw [iN hc9] | skip)
  first | done | rfl | (exfalso;simp_all;done) | skip
 refine Dw (F7 (Qp R5 (Qp C0 (Qp Cl (Ef (fun hc10=>?_) fun hc10=>?_)))))
 .
  refine Bv (Qp sC ?_);refine rQ 0 (Iq _) rfl ?_;refine Qp (Lg B5) ?_;refine Eu 1 B5 (_::_::_) ?_;refine Qp Bk (Rc ?_);refine Yx [.agg B5,Iq _] (Zc 1) S2 ?_;simp only [Aj,Hh,Kb]
  try simp only [hgd]
  (first | rw [iN hc1] | skip);(first | rw [iN hc2] | skip);(first | rw [iN hc3] | skip);(first | rw [iN hc4] | skip);(first | rw [if_pos hc10] | skip)
  first | done | rfl | (exfalso;simp_all;done) | skip
 refine Dw (Bv ?_);refine rP 0 dS rfl ?_;refine Qp T4 (Qp C0 ?_);refine Qp (Qc rfl (c93 _ e.field hk)) ?_;refine Qp Z1 ?_;refine Qp (A4 (v:=.agg B5) rfl rfl) ?_;refine Qp Uq ?_;refine Hy L7 fun b8=>?_
 refine Eu 0 B5 (_::_::_::_) ?_;refine Qp Bk ?_;refine Wd 8 0 rfl ?_;refine Dt (F7 (Qp Ca (Qp Cl (Ef (fun hc11=>?_) fun hc11=>?_))))
 .
  refine AW.region (Qp (Ee B5) ?_);refine Qp (Qc rfl (c94 _)) ?_;refine Qp Bk (Dt (F7 (Qp Ca (Qp Dl (Ef (fun hc12=>?_) fun hc12=>?_)))))
  .
   refine Bv (Qp (Lg B5) (Qp Ca ?_));refine Eu 1 B5 (_::_::_) ?_;refine Qp Bk (Rc ?_);refine Yx [.agg B5,Iq _] (Zc 1) S2 ?_;simp only [Aj,Hh,Kb]
   try simp only [hgd]
   (first | rw [iN hc1] | skip);(first | rw [iN hc2] | skip);(first | rw [iN hc3] | skip);(first | rw [iN hc4] | skip);(first | rw [iN hc10] | skip);(first | rw [if_pos hc11] | skip);(first | rw [if_pos hc12] | skip)
   first | done | rfl | (exfalso;simp_all;done) | skip
  refine Dw (Bv (Qp (Ee B5) ?_));refine Eu 1 B5 (_::_::_) ?_;refine Qp Bk (Rb ?_);refine Yx [.agg B5,Iq _] (Zc 1) S2 ?_;simp only [Aj,Hh,Kb]
  try simp only [hgd]
  (first | rw [iN hc1] | skip);(first | rw [iN hc2] | skip);(first | rw [iN hc3] | skip);(first | rw [iN hc4] | skip);(first | rw [iN hc10] | skip);(first | rw [if_pos hc11] | skip);(first | rw [iN hc12] | skip)
  first | done | rfl | (exfalso;simp_all;done) | skip
 refine Dw (F7 (Qp Ca (Qp Dl (Ef (fun hc13=>?_) fun hc13=>?_))))
 .
  refine Bv (Qp (Lg B5) (Qp Ca ?_));refine Eu 1 B5 (_::_::_) ?_;refine Qp Bk (Rc ?_);refine Yx [.agg B5,Iq _] (Zc 1) S2 ?_;simp only [Aj,Hh,Kb]
  try simp only [hgd]
  (first | rw [iN hc1] | skip);(first | rw [iN hc2] | skip);(first | rw [iN hc3] | skip);(first | rw [iN hc4] | skip);(first | rw [iN hc10] | skip);(first | rw [iN hc11] | skip);(first | rw [if_pos hc13] | skip)
  first | done | rfl | (exfalso;simp_all;done) | skip
 refine Dw (Bv (Qp (Ee B5) ?_));refine Eu 1 B5 (_::_::_) ?_;refine Qp Bk (Rb ?_);refine Yx [.agg B5,Iq _] (Zc 1) S2 ?_;simp only [Aj,Hh,Kb]
 try simp only [hgd]
 (first | rw [iN hc1] | skip);(first | rw [iN hc2] | skip);(first | rw [iN hc3] | skip);(first | rw [iN hc4] | skip);(first | rw [iN hc10] | skip);(first | rw [iN hc11] | skip);(first | rw [iN hc13] | skip)
 first | done | rfl | (exfalso;simp_all;done) | skip
theorem uO (op:Int)(h:5<=op/\op<=12/\op≠9):∃f cap,Y0 OPS op=some (.fn (.func f) [] cap)/\Pe Tryz.prog f=true/\∀a b,Al Tryz.prog f (.int .i64 a :: .int .i64 b::cap) (.agg (cV (Mo op a b))):=by
 have h2:op=5\/op=6\/op=7\/op=8\/op=10\/op=11\/op=12:=by omega
 rcases h2 with rfl | rfl | rfl | rfl | rfl | rfl | rfl
 . exact ⟨205,_,rfl,by kernel_rfl,c63⟩
 . exact ⟨206,_,rfl,by kernel_rfl,c64⟩
 . exact ⟨207,_,rfl,by kernel_rfl,c65⟩
 . exact ⟨208,_,rfl,by kernel_rfl,c66⟩
 . exact ⟨209,_,rfl,by kernel_rfl,c67⟩
 . exact ⟨210,_,rfl,by kernel_rfl,c68⟩
 exact ⟨211,_,rfl,by kernel_rfl,c69⟩
theorem sZ {α:Type}{l:List α}(h:l.length≠0):∃a b,l[0]? = some a/\l[((l.length:Int)-1).toNat]? = some b/\∀d,l.headD d=a/\l.getLastD d=b:=by
 have e:((l.length:Int)-1).toNat=l.length-1:=by omega
 rw [e];refine ⟨l[0],l[l.length-1],List.getElem?_eq_getElem (by omega),List.getElem?_eq_getElem (by omega),fun d=>?_⟩;cases l with
 | nil=>simp at h
 | cons x r=>simp [List.getLastD_eq_getLast?,List.getLast?_eq_getElem?]
theorem c40 (x:Evr)(hx:x.ok)(e:Ex)(hn:Ej e=0)(hs:B3 e<=1048576):Al Tryz.prog 186 [.agg (cX x),.agg (cE e)] (.tuple [.agg (cV (Dh x e).1),.int .i64 (Dh x e).2]):=by
 revert hn hs
 induction e using Ex.ind
 rename_i e ih;intro hn hs;have hz:=Hi hn;have hfl:=eY hz.1;have hal:=Lh e hs;refine F8 85 Tryz.func186 rfl fun H=>?_
 refine Bv (Qp (Ji gY) (Qp Th (Hy L7 fun b4=>Qp Bk (Dt (F7 (Qp T3 (Qp J7 ?_)))))));refine Qp (Ki e.args.length rfl rfl (by simp)) ?_;refine Qp Cl (Ef (fun hc1=>Bv (Qp (Ee gY) (Qp Ld (Qp (Qc rfl (c70 x hx e hfl)) (Qp (A4 (v:=.agg B5) rfl rfl) (Qp Uq ?_)))))) fun hc1=>Dw (Bv (Qp Qav ?_)))
 .
  refine Eu 0 B5 (_::_) (Qp Bk (Rc ?_));refine Yx [.agg B5,Iq _] (Zc 0) S1 ?_;rw [J9 x e,if_pos (by simpa [List.isEmpty_iff] using hc1)];rfl
 refine AOL.ghost (GS.row (t:=6) 25 3 rfl) ?_;refine Gw (Qp Qav ?_);refine AOL.ghost (GS.row (t:=7) 3 1 rfl) ?_;refine Dt (F7 (Qp T3 (Qp J7 ?_)));refine Qp (Ki e.args.length rfl rfl (by simp)) ?_;refine Qp Ca (Dt (AW.block ?_));refine AW.loopS (fun (p:Nat×List (List AV)×Value×List (List AV)×Value)=>(⟨[(2,.ptr (cX x)),(3,.ptr (cE e)),(4,.val (.pointer (some ⟨b4,0,none⟩))),(6,.row p.2.2.1 3 p.2.1),(7,.row p.2.2.2.2 1 p.2.2.2.1),(23,.sl 8 (e.args.map Ju)),(24,.int .i64 e.args.length),(25,.int .i64 (p.1:Int))],.row p.2.2.2.2 p.2.2.2.1.length 3 1 :: .row p.2.2.1 p.2.1.length 25 3 :: .box b4 25 L7::H,85⟩:St)) (fun p=>p.1<=e.args.length/\Ax (fun a=>(Dh x a).2) e.args=Ax (fun a=>(Dh x a).2) (e.args.drop p.1)/\p.2.1=((e.args.take p.1).map (fun a=>(Dh x a).1)).map cV/\p.2.2.2.1=((e.args.take p.1).map (fun a=>(Dh x a).1.kind)).map (fun k=>[AV.int .i64 k])) (fun p=>e.args.length-p.1) ((0,[],.slice none 0 0,[],.slice none 0 0)) ?_ Kx ?_
 . exact ⟨Bn _,by simp,by simp,by simp⟩
 rintro p hR;have hsc:∀c∈p.2.1,Bm c=true:=by rw [hR.2.2.1];exact M3 fun _=>rfl
 have hsc2:∀c∈p.2.2.2.1,Bm c=true:=by rw [hR.2.2.2];exact M3 fun _=>rfl
 refine Bv (Qp Fw (Re (Gd (fun hc2=>?_) fun hc2=>?_)))
 .
  obtain ⟨a,ha⟩:=Dd hc2;have hlt:=Bj ha;have hm:=A0 ha;refine Dw (AW.seq (AW.block (Bv ?_)));refine Qp (Lq Ll rfl rfl (by omega) (Ii ha)) ?_;refine Qp Ld (Hy rR fun b9=>?_);refine Eu 0 Ll (_::_::_::_::_) ?_;refine Wd 9 0 rfl ?_;refine Gw (Qp (Ee gY) (Qp Ld ?_));refine Qp (Qc rfl (ih a hm (hz.2 a hm) (by have:=Hb hm;omega))) ?_;refine Qp Z1 (Qp (A4 (v:=.agg B5) rfl rfl) (Qp Uq (Hy L7 fun b10=>?_)));refine Eu 0 B5 (_::_::_::_::_) (Qp Bk ?_);refine Wd 10 0 rfl ?_;refine Dt (F7 (Qp Ca (Qp Dl (Ef (fun hc3=>Bv (Qp (Lg B5) (Qp Ca ?_))) fun hc3=>Dw ?_))))
  .
   refine Eu 2 B5 (_::_::_::_) (Qp Bk (Rc (Rj (Ap ?_))));refine Yx [.agg B5,Iq _] (Zc 2) S3 ?_;have hne:¬e.args.isEmpty=true:=by simpa [List.isEmpty_iff] using hc1
   have hfe:Ax (fun a=>(Dh x a).2) e.args=(Dh x a).2:=by rw [hR.2.1,Bf ha,Ax,if_pos hc3]
   rw [J9 x e,if_neg hne,hfe,if_pos hc3];rfl
  refine lT ?_;refine Qn 0 rfl (Ae (v:=.row _ _ _) rfl) (Qn 1 rfl (Ee B5) (Qn 2 rfl (Ybs [B5] rfl) (Qn 4 rfl (Ae (v:=.row _ _ _) rfl) (Qn 5 rfl Ml (Qn 6 rfl C0 (Qn 7 rfl (Ybs ([[Iq _]]) rfl) ?_))))));refine Sef 3 rfl (Yad 1 rfl (Hn rfl) (hsc) (by simp [hR.2.2.1];omega) (by simp [hR.2.2.1,maxLen];omega)) ?_;rintro _ _ ⟨v42,rfl,rfl⟩;refine Sef 8 rfl (Yad 0 rfl (Hn rfl) (hsc2) (by simp [hR.2.2.2];omega) (by simp [hR.2.2.2,maxLen];omega)) ?_;rintro _ _ ⟨v47,rfl,rfl⟩;refine Qn 9 rfl (Ag (v:=.row _ _ _) rfl) (Qn 10 rfl (Ag (v:=.row _ _ _) rfl) ?_);refine lK ?_;refine C9 (Aa (AW.region (Qp Mm (Qp Ca (Dt ?_)))));refine ⟨(p.1+1,p.2.1 ++ [cV (Dh x a).1],v42,p.2.2.2.1 ++ [[.int .i64 (Dh x a).1.kind]],v47),?_,?_,Kx⟩
  . simp only;exact ⟨hlt,by rw [hR.2.1,Bf ha,Ax,if_neg (by simpa using hc3)],by rw [Cr ha,hR.2.2.1];simp,by rw [Cr ha,hR.2.2.2];simp⟩
  first | omega | (simp only;omega)
 have hte:=D3 hc2;have hd:=Gb hc2;have hf:Ax (fun a=>(Dh x a).2) e.args=0:=by rw [hR.2.1,hd];rfl
 obtain ⟨k,es,rv,es2,rv2⟩:=p;simp only at hR hte;have h6:es=(e.args.map (fun a=>(Dh x a).1)).map cV:=by rw [hR.2.2.1,hte]
 have h7:es2=(e.args.map (fun a=>(Dh x a).1.kind)).map (fun k=>[AV.int .i64 k]):=by rw [hR.2.2.2,hte]
 subst h6;subst h7;refine AW.exit ?_;refine A1 (Ri (F7 (Qp R5 (Qp C0 ?_))));refine AOL.ghost (GS.unrow 7 rfl) ?_;refine AOL.ghost (GS.unrow 6 rfl) ?_;refine Qp Oq (Qp (Qc rfl (c71 e.op (e.args.map (fun a=>(Dh x a).1.kind)))) ?_);refine Qp Bk (Gw (Qp Ca (Qp Dl (Ef (fun hc4=>Bv (Qp (Lg B5) (Qp Ca ?_))) fun hc4=>?_))))
 .
  refine Eu 2 B5 (_::_::_::_) (Qp Bk (Rc ?_));refine Yx [.agg B5,Iq _] (Zc 2) S3 ?_;have hne:¬e.args.isEmpty=true:=by simpa [List.isEmpty_iff] using hc1
  have hk:(e.args.map (fun a=>(Dh x a).1)).map (·.kind)=e.args.map (fun a=>(Dh x a).1.kind):=by simp
  rw [J9 x e,if_neg hne,hf,if_neg (by decide),bW,hk,if_pos hc4];rfl
 have hsh:=Xj hz.1 hc1;have hl0:(e.args.map (fun a=>(Dh x a).1)).length≠0:=by simp;intro h0;rw [h0] at hc1;simp at hc1
 have hl4:(e.args.map (fun a=>(Dh x a).1)).length<=1048576:=by simpa using hal
 refine (sZ hl0).elim fun v hv=>hv.elim fun w hw=>?_
 have hv0:=hw.1;have hvl:=hw.2.1;have hvd:=hw.2.2;refine Dw (F7 (Qp R5 (Qp C0 (Qp Cl (Ef (fun hc5=>?_) fun hc5=>?_)))))
 .
  have h9:e.op=9:=by simpa using hc5
  have hl2:(e.args.map (fun a=>(Dh x a).1)).length=2:=by simp;omega
  have hv1:(e.args.map (fun a=>(Dh x a).1))[1]? = some w:=by rw [<-hvl,hl2];rfl
  refine AW.seq ?_;refine lT ?_;refine Qn 0 rfl Oq ?_;refine Qn 1 rfl (Lq B5 rfl rfl (by omega) (Co hv0)) ?_;refine Qn 2 rfl (Ee B5) (Qn 3 rfl Oq ?_);refine Qn 4 rfl (Lq B5 rfl rfl (by omega) (Co hv1)) ?_;refine Qn 5 rfl (Ee B5) (Qn 6 rfl (Oo Ai rfl rfl rfl rfl rfl) (Qn 7 rfl (Qc rfl (xY _)) ?_));refine Seg 8 rfl (Yst 2 (.agg _) B5 (_::_::_::_) rfl) ?_;refine Qn 9 rfl Bk ?_;refine lK ?_;refine Aa (Nm ?_);refine Yx [.agg B5,Iq _] (Zc 2) S3 ?_;have hne:¬e.args.isEmpty=true:=by simpa [List.isEmpty_iff] using hc1
  have hk:(e.args.map (fun a=>(Dh x a).1)).map (·.kind)=e.args.map (fun a=>(Dh x a).1.kind):=by simp
  rw [J9 x e,if_neg hne,hf,if_neg (by decide),bW,hk,iN hc4,(hvd v0).1];first
  | (rw [if_pos hc5,hv1];simp only [Aq];first | done | rfl)
  | (rw [iN hc5,(hvd v0).2] <;> rfl)
  | skip
 have h9:e.op≠9:=by simpa using hc5
 refine (uO e.op (by omega)).elim fun f hf1=>hf1.elim fun cap hf2=>?_
 have hmg:=hf2.1;have hfn:=hf2.2.1;have hap:=hf2.2.2;refine Dw (AW.seq ?_);refine lT ?_;refine Qn 0 rfl (Qf [_]) (Qn 1 rfl (Af (c:=.mapv _) Ai rfl rfl rfl) (Qn 2 rfl R5 (Qn 3 rfl C0 (Qn 4 rfl (lR Ai rfl rfl rfl rfl rfl rfl (hmg)) (Qn 5 rfl Oq ?_)))));refine Qn 6 rfl (Lq B5 rfl rfl (by omega) (Co hv0)) ?_;refine Qn 7 rfl Wh (Qn 8 rfl C0 (Qn 9 rfl Oq (Qn 10 rfl Oq ?_)));refine Qn 11 rfl (Ki ((e.args.map (fun a=>(Dh x a).1)).length) rfl rfl (by simp)) ?_;refine Qn 12 rfl (Gj rfl rfl rfl (by constructor <;> omega)) ?_;refine Qn 13 rfl (Lq B5 rfl rfl (by simp at hl0 ⊢;omega) (Co hvl)) ?_;refine Qn 14 rfl Wh (Qn 15 rfl C0 (Qn 16 rfl (Fy hfn rfl rfl rfl (hap _ _)) ?_));refine Seg 17 rfl (Yst 2 (.agg _) B5 (_::_::_::_) rfl) ?_;refine Qn 18 rfl Bk ?_;refine lK ?_;refine Aa (AW.ret ?_);refine Yx [.agg B5,Iq _] (Zc 2) S3 ?_;have hne:¬e.args.isEmpty=true:=by simpa [List.isEmpty_iff] using hc1
 have hk:(e.args.map (fun a=>(Dh x a).1)).map (·.kind)=e.args.map (fun a=>(Dh x a).1.kind):=by simp
 rw [J9 x e,if_neg hne,hf,if_neg (by decide),bW,hk,iN hc4,(hvd v0).1];first
 | (rw [if_pos hc5,hv1];simp only [Aq];first | done | rfl)
 | (rw [iN hc5,(hvd v0).2] <;> rfl)
 | skip
theorem Lj {e:Ex}(h:B8 e=0):Ej e=0:=by
 unfold B8 at h;split at h
 . cases h
 split at h
 . cases h
 exact h
theorem c14 (vars:List (List Ev))(own:Int)(ev:Ev)(hx:∀l∈vars,l.length<=1048576)(e:Ex)(hs:B3 e<=1048576):Al Tryz.prog 157 [.agg (cE e),.agg (sN vars),.int .i64 own,.agg (Ec ev)] (.tuple [.agg (cV (Uo ⟨vars,own,ev⟩ e).1),.int .i64 (Uo ⟨vars,own,ev⟩ e).2]):=by
 refine F8 26 Tryz.func157 rfl fun H=>?_
 refine Bv (Qp Th (Qp (Ji [_]) (Qp (Ji dS) (Hy L7 fun b8=>Qp Bk (Dt (F7 (Qp Ld (Qp (Qc rfl (mK e hs)) (Qp Bk (Gw (Qp Ca (Qp Dl (Ef (fun hc1=>Bv (Qp (Lg B5) (Qp Ca ?_))) fun hc1=>Dw (AW.seq ?_))))))))))))))
 .
  refine Eu 0 B5 (_::_) (Qp Bk (Rc ?_));refine Yx [.agg B5,Iq _] (Zc 0) S1 ?_;simp only [Aj,Uo]
  (first | rw [if_pos hc1] | skip)
  first | done | rfl
 refine lT ?_;refine Qn 0 rfl (Ee [_]) (Qn 1 rfl Ca (Qn 2 rfl (Ee dS) (Qn 3 rfl (Qc rfl (c39)) (Qn 4 rfl (Lg gY) (Qn 5 rfl Ld ?_)))));refine Qn 6 rfl (Qc rfl (c40 ⟨vars,own,ev⟩ hx e (Lj (by simpa using hc1)) hs)) ?_;refine Qn 7 rfl (A4 (v:=.agg B5) rfl rfl) (Qn 8 rfl Uq ?_);refine Seg 9 rfl (Yst 0 (.agg _) B5 (_::_) rfl) ?_;refine Qn 10 rfl Bk ?_;refine lK ?_;refine Aa (AW.ret ?_);refine Yx [.agg B5,Iq _] (Zc 0) S1 ?_;simp only [Aj,Uo]
 (first | rw [iN hc1] | skip)
 first | done | rfl
theorem c16 (vars:List (List Ev))(own:Int)(ev:Ev)(hx:∀l∈vars,l.length<=1048576)(e:Ex)(hs:B3 e<=1048576):Al Tryz.prog 124 [.agg (cE e),.agg (sN vars),.int .i64 own,.agg (Ec ev)] (.bool (Mn ⟨vars,own,ev⟩ e)):=by
 refine F8 26 Tryz.func124 rfl fun H=>?_
 refine Bv (Qp Th (Qp (Ji [_]) (Qp (Ji dS) (Qp C5 (Gw (Qp Ld (Qp (Ee [_]) (Qp Ca (Qp (Ee dS) (Qp (Qc rfl (c14 vars own ev hx e hs)) (Qp Z1 (Qp (A4 (v:=.agg B5) rfl rfl) (Qp Uq (Hy L7 fun b9=>?_))))))))))))));refine Eu 0 B5 (_::_) (Qp Bk ?_);refine Wd 9 0 rfl ?_;refine Re ?_;refine lT ?_;refine Qn 0 rfl Ca (Qn 1 rfl Cl (Qn 2 rfl Cp (Qo 3 rfl [] Qw (Ee B5) (Qo 4 rfl [] Qw (Qc rfl (xY true)) (Qo 5 rfl [(22,_),(23,_)] Yw (Oo Ai rfl rfl rfl rfl rfl) (Qn 6 rfl Iz (Qn 7 rfl C5 ?_)))))));refine lK ?_;refine Aa (AW.ret (Qr (.bool _) ?_));simp only [Aj,Mn];simp only [Aq]
theorem c43 (f:Ex->Ex)(fid:Nat)(first cap:List AV)(hb:Pe Tryz.prog fid=true)(Q:Ex->Prop)(hQ:∀e,Q e->∀a∈e.args,Q a)(hf:∀e,Q e->Al Tryz.prog fid (first ++ [.agg (cE (Lv f e))]++cap) (.agg (cE (f (Lv f e)))))(e:Ex)(he:Q e)(hs:B3 e<=1048576):Al Tryz.prog 82 [.agg (cE e),.fn (.func fid) first cap] (.agg (cE (Ig f e))):=by
 revert he hs
 induction e using Ex.ind
 rename_i e ih;intro he hs;have hal:=Lh e hs;refine F8 29 Tryz.func82 rfl fun H=>?_
 refine Bv (Qp Th (Hy rR fun b4=>Gw (Qp Ld (Hy rR fun b5=>?_))));refine Eu 0 Ll (_::_::_) (Gw (Qp sC ?_));refine Eu 0 Ll (_::_::_) ?_;refine AOL.ghost (GS.cellRow 0 1 27 8 rfl rfl rfl rfl) ?_;refine Dt (F7 (Qp T3 (Qp J7 ?_)));refine Qp (Ki e.args.length rfl rfl (by simp)) ?_;refine Qp Ca (Dt (AW.block ?_));refine AW.loopS (fun (p:Nat×List (List AV)×Value)=>(⟨[(1,.fn (.func fid) first cap),(2,.ptr (cE e)),(4,.val (.pointer (some ⟨b4,0,none⟩))),(5,.val (.pointer (some ⟨b5,0,none⟩))),(11,.sl 8 (e.args.map Ju)),(12,.int .i64 e.args.length),(13,.int .i64 (p.1:Int))],.row p.2.2 p.2.1.length 27 8 :: .box b5 27 [.int .i64 e.op,.row p.2.2 8 p.2.1,.int .i64 e.var,.int .i64 e.field,.int .i64 e.kind,.int .i64 e.val.kind,.int .i64 e.val.num,.str e.val.text] :: .box b4 27 rR::H,29⟩:St)) (fun p=>p.1<=e.args.length/\p.2.1=((e.args.take p.1).map (Ig f)).map Ju) (fun p=>e.args.length-p.1) ((0,[],.slice none 0 0)) ?_ Kx ?_
 . exact ⟨Bn _,by simp⟩
 rintro p hR;refine Bv (Qp Fw (Re (Gd (fun hc1=>?_) fun hc1=>?_)))
 .
  obtain ⟨a,ha⟩:=Dd hc1;have hlt:=Bj ha;have hm:=A0 ha;have hsc:∀c∈p.2.1,Bm c=true:=by rw [hR.2];exact M3 fun a=>by rw [T9];rfl
  refine Dw (AW.seq (AW.block (Bv ?_)));refine Qp (Lq Ll rfl rfl (by omega) (Ii ha)) ?_;refine Qp Ld (Hy rR fun b7=>?_);refine Eu 0 Ll (_::_::_::_::_) ?_;refine Wd 7 0 rfl ?_;refine Dt (Ydm 1 rfl (Qn 0 rfl sC (Qn 1 rfl (Ymb (.row _ _ _) rfl) (Qn 2 rfl Ld (Qn 3 rfl (Ae (v:=.fn _ _ _) rfl) ?_)))));refine Qn 4 rfl (Qc rfl (ih a hm (hQ e he a hm) (by have:=Hb hm;omega))) ?_;refine Qn 5 rfl (Ybs [Ll] rfl) ?_;refine Yef 6 rfl (Yad 0 rfl (Hn rfl) (hsc) (by simp [hR.2];omega) (by simp [hR.2,maxLen];omega)) (by rintro _ _ ⟨v23,rfl,rfl⟩;simp) ?_;rintro _ _ ⟨v23,rfl,rfl⟩;refine Qn 7 rfl sC ?_;refine Yla 8 rfl (Yst 1 (.row _ _ _) Ll (_::_::_::_) rfl) ?_;rintro _ _ ⟨rfl,rfl⟩;refine C9 (Aa (AW.region (Qp Mm (Qp Ca (Dt ?_)))));refine ⟨(p.1+1,p.2.1 ++ [cE (Ig f a)],v23),?_,?_,Kx⟩
  . simp only;exact ⟨hlt,by rw [Cr ha,hR.2];simp [T9]⟩
  first | omega | (simp only;omega)
 have hte:=D3 hc1;obtain ⟨k,es,rv⟩:=p;simp only at hR hte;obtain rfl:es=(e.args.map (Ig f)).map Ju:=by rw [hR.2,hte]
 refine AW.exit ?_;refine A1 (Ri (Bv ?_));refine Qp (Ae (v:=.fn _ _ _) rfl) ?_;refine AOL.ghost (GS.cell 1 1 rfl rfl rfl rfl Wa) ?_;refine rP 1 Ll rfl (Qp (Fy hb rfl rfl rfl (hf e he)) ?_);refine Eu 2 Ll (_::_::_::_) (Rb ?_);refine Yx [.agg Ll] (Zb 2) S3 ?_;rw [O3];rfl
def Gx (to:List Int):List (List AV):=to.map fun k=>[AV.int .i64 k]
theorem rC {to:List Int}{v:Int}(h0:0<=v)(h:v<(to.length:Int)):(Gx to)[v.toNat]? = some [.int .i64 (J8 to v)]:=by simp [Gx,Q7 h0 h]
def QR (to:List Int)(e:Ex):Prop:=Ej e=0/\D1 (D7 to) e=0
theorem sB (to:List Int)(e:Ex)(h:QR to e):∀a∈e.args,QR to a:=fun a ha=>⟨(Hi h.1).2 a ha,(K6 h.2).2 a ha⟩
theorem wF (a b:Ex)(hs:B3 a<=1048576):Al Tryz.prog 117 [.agg (cE a),.agg (cE b)] (.bool (Kn a b)):=by
 revert b hs
 induction a using Ex.ind
 rename_i a ih;intro b hs;have hal:=Lh a hs;refine F8 67 Tryz.func117 rfl fun H=>?_
 refine Bv (Qp Th (Qp Th (Qp C5 (Dt (F7 (Qp R5 (Qp C0 (Qp R5 (Qp C0 (Qp Dl (Qp Cp (Qg [] Qw Wg (Qg [(12,_)] Qw C0 (Qg [] Qw Wg (Qg [(14,_)] Qw C0 ?_)))))))))))))));refine Qg [(13,_),(15,_)] Yw Dl (Qp Fz (Qp Cp (Qg [] Qw T4 (Qg [(19,_)] Qw C0 (Qg [] Qw T4 (Qg [(21,_)] Qw C0 (Qg [(20,_),(22,_)] Yw Dl (Qp Fz (Qp Cp (Qg [] Qw Qq (Qg [(26,_)] Qw C0 (Qg [] Qw Qq (Qg [(28,_)] Qw C0 ?_)))))))))))));refine Qg [(27,_),(29,_)] Yw Dl (Qp Fz (Qp Cp (Qg [] Qw Ml (Qg [(33,_)] Qw (Ee B5) (Qg [] Qw Ml (Qg [(35,_)] Qw (Ee B5) (Qg [(34,_),(36,_)] Yw (Hs Ai rfl rfl rfl rfl rfl) (Qp Fz (Qp Cp (Qg [] Qw T3 (Qg [(40,_)] Qw J7 ?_)))))))))));refine Yh [(41,_)] Qw (fun hG=>Ki a.args.length rfl rfl (by simp)) ?_;refine Qg [] Qw T3 (Qg [(43,_)] Qw J7 ?_);refine Yh [(44,_)] Qw (fun hG=>Ki b.args.length rfl rfl (by simp)) ?_;refine Qg [(42,_),(45,_)] Yw Dl (Qp Fz (Ef (fun hc1=>?_) fun hc1=>?_))
 .
  have hh:Nf a b=true:=by simpa [Nf] using hc1
  refine Bv (Qp C5 (Rc (Qr (.bool _) ?_)));rw [Mh,if_pos hh];rfl
 have hh:Nf a b=false:=by simpa [Nf] using hc1
 have hlen:=To hh;refine Dw (F7 (Qp T3 (Qp J7 ?_)));refine Qp (Ki a.args.length rfl rfl (by simp)) ?_;refine Qp Ca (Dt (AW.block ?_));refine AW.loopS (fun (p:Nat)=>(⟨[(2,.ptr (cE a)),(3,.ptr (cE b)),(50,.int .i64 a.args.length),(51,.int .i64 (p:Int))],H,67⟩:St)) (fun p=>p<=a.args.length/\Ru a.args b.args=Ru (a.args.drop p) (b.args.drop p)) (fun p=>a.args.length-p) (0) ?_ Kx ?_
 . exact ⟨Bn _,rfl⟩
 rintro p hR;refine Bv (Qp Fw (Re (Gd (fun hc2=>?_) fun hc2=>?_)))
 .
  obtain ⟨x,hx⟩:=Dd hc2;have hlt:=Bj hx;have hm:=A0 hx;obtain ⟨y,hy⟩:∃y,b.args[p]? = some y:=⟨_,List.getElem?_eq_getElem (by omega)⟩;refine Dw (AW.seq (AW.block (Bv (Qp Ca (Qp Bk (Re ?_))))));refine lT ?_;refine Qn 0 rfl T3 (Qn 1 rfl J7 (Qn 2 rfl Ca ?_));refine Qn 3 rfl (Lq Ll rfl rfl (by omega) (Ii hx)) ?_;refine Qn 4 rfl Ld (Qn 5 rfl T3 (Qn 6 rfl J7 (Qn 7 rfl Ca ?_)));refine Qn 8 rfl (Lq Ll rfl rfl (by omega) (Ii hy)) ?_;refine Qn 9 rfl Ld ?_;refine Qn 10 rfl (Qc rfl (ih x hm y (by have:=Hb hm;omega))) ?_;refine Qn 11 rfl Ik ?_;refine lK ?_;refine Aa (Gd (fun hc3=>Bv (Qp C5 (Ra (Ap (Cn (Ap (Qr (.bool _) ?_))))))) fun hc3=>Rf (AW.region (Qp Mm (Qp Ca (Dt ?_)))))
  . rw [Mh,if_neg (by simp [hh]),hR.2,Bf hx,Bf hy];show _=AV.bool (if (!Kn x y)=true then false else _);rw [if_pos hc3];rfl
  refine ⟨p+1,?_,?_,Kx⟩
  . exact ⟨hlt,by rw [hR.2,Bf hx,Bf hy,Ru];simp [hc3]⟩
  omega
 have hd:=Gb hc2;refine AW.exit ?_;refine A1 (Ri (Bv (Qp C5 (Rb ?_))));refine Qr (.bool _) ?_;rw [Mh,if_neg (by simp [hh]),hR.2,hd];rfl
theorem c54 (to:List Int)(ht:to.length<=1048576)(e:Ex)(hn:Ej e=0):Al Tryz.prog 80 [.agg (cE e),.ptr [.sl 1 (Gx to)]] (.int .i64 (D7 to e)):=by
 have hv:=Me (Hi hn).1;refine F8 36 Tryz.func80 rfl fun H=>?_
 refine Bv (Qp Th (Qp Bk (Gw (Qp R5 (Qp C0 ?_)))));refine Qp (Qc rfl (gJ _)) (Qp Z1 (Qp jM (Qp jM (Qp C5 (Qp C5 (Re (AW.block (Bv (Qp Cp (Qp Ik (Qp C5 (Ef (fun hc1=>Bv (Qp Bk (Ra (Qr (Iq _) ?_)))) fun hc1=>Bv (Qp Wg (Qp C0 (Qp J7 ?_)))))))))))))))
 .
  simp only [Aj,D7]
  (first | rw [if_pos hc1] | skip)
  first | done | rfl
 refine Qp (Ki to.length rfl rfl (by simp [Gx])) ?_;refine Qp Nj (Qp C5 (Ef (fun hc2=>Bv (Qp Bk (Ra (Qr (Iq _) ?_)))) fun hc2=>?_))
 .
  simp only [Aj,D7]
  (first | rw [iN hc1] | skip);(first | rw [if_pos hc2] | skip)
  first | done | rfl
 have hlt:e.var<(to.length:Int):=by simpa using hc2
 refine Bv (Qp J7 (Qp Wg (Qp C0 ?_)));refine Qp (Lq [Iq _] rfl rfl (hv.1) (rC hv.1 hlt)) (Qp C0 (Qp Fw (Qp Cp (Qg [] Qw J7 (Qg [] Qw Wg (Qg [(30,_)] Qw C0 ?_))))));refine Qg [(29,_),(31,_)] (Yv rfl Es Es) (Lq [Iq _] rfl rfl (hv.1) (rC hv.1 hlt)) (Qg [(32,_)] Qw C0 (Qg [(33,_)] Qw Nj (Qp Fz (Qp C5 (Ef (fun hc3=>Bv (Qp Bk (Ra (Qr (Iq _) ?_)))) fun hc3=>Rf (Bv (Qp Bk (Rb (Qr (Iq _) ?_)))))))))
 .
  simp only [Aj,D7]
  (first | rw [iN hc1] | skip);(first | rw [iN hc2] | skip);(first | rw [if_pos hc3] | skip)
  first | done | rfl
 simp only [Aj,D7]
 (first | rw [iN hc1] | skip);(first | rw [iN hc2] | skip);(first | rw [iN hc3] | skip)
 first | done | rfl
theorem c55 (to:List Int)(ht:to.length<=1048576)(e:Ex)(hv:0<=e.var)(hl:(D4 e.op).1=true->e.var<(to.length:Int)):Al Tryz.prog 83 [.agg (cE e),.ptr [.sl 1 (Gx to)]] (.agg (cE (B0 to e))):=by
 refine F8 20 Tryz.func83 rfl fun H=>?_
 refine Bv (Qe (fU (v:=.agg _) (cs:=Ll) rfl rfl (rfl)) ?_);rintro _ _ ⟨b2,rfl,rfl⟩;refine Hy rR fun b3=>Dt (F7 (Qp sC (rQ 1 (Iq _) rfl (Qp (Qc rfl (gJ _)) (Qp Z1 (Qp jM (Qp jM (Qp C5 (Qp C5 (Gw (Qp Cp (Ef (fun hc1=>AW.region (Qp J7 (Qp sC ?_))) fun hc1=>Dw (Bv (rP 1 Ll rfl ?_))))))))))))))
 .
  refine rQ 1 (Iq _) rfl (Qp (Lq [Iq _] rfl rfl (hv) (rC hv (hl hc1))) (Qp C0 (Qp sC ?_)));refine Eu 1 Ll (_::_::_) (Gw (rP 1 Ll rfl ?_));refine Eu 0 Ll (_::_::_) (Rb ?_);refine Yx [.agg Ll] (Zb 0) S2 ?_;simp only [Aj,B0]
  (first | rw [if_pos hc1] | skip)
  first | done | rfl
 refine Eu 0 Ll (_::_::_) (Rb ?_);refine Yx [.agg Ll] (Zb 0) S2 ?_;simp only [Aj,B0]
 (first | rw [iN hc1] | skip)
 first | done | rfl
theorem c28 (to:List Int)(ht:to.length<=1048576)(e:Ex)(hs:B3 e<=1048576):Al Tryz.prog 43 [.agg (cE e),.sl 1 (Gx to)] (.tuple [.agg (cE (Fg e to).1),.int .i64 (Fg e to).2]):=by
 refine F8 24 Tryz.func43 rfl fun H=>?_
 refine Bv (Qp Th (Qp (Bt (v:=.sl _ _) (cs:=[_]) rfl rfl rfl) (Hy rR fun b4=>Qp Bk (Dt (F7 (Qp Ld (Qp (Qc rfl (mK e hs)) (Qp Bk (Gw (Qp Ca (Qp Dl (Ef (fun hc1=>Bv (Qp (Lg Ll) (Qp Ca ?_))) fun hc1=>?_))))))))))))
 .
  refine Eu 0 Ll (_::_) (Qp Bk (Rc ?_));refine Yx [.agg Ll,Iq _] (Zc 0) S1 ?_;simp only [Aj,Fg,Zj]
  (first | rw [if_pos hc1] | skip)
  first | done | rfl
 have hn:Ej e=0:=Lj (by simpa using hc1);refine Dw (Bv (Qp Ld (Qp (A3 (l:=[]) (l':=[.ptr _]) rfl rfl) ?_)));refine Qp (Qc rfl (wG 80 (by kernel_rfl) [.ptr [.sl 1 (Gx to)]] (D7 to) (fun a=>Ej a=0) (fun a h b hb=>(Hi h).2 b hb) (fun a h=>c54 to ht a h) e hn)) ?_;refine Qp Bk (Dt (F7 (Qp Ca (Qp Dl (Ef (fun hc2=>Bv (Qp (Lg Ll) (Qp Ca ?_))) fun hc2=>Dw (Bv (Qp Ld (Qp (A3 (l:=[]) (l':=[.ptr _]) rfl rfl) ?_))))))))
 .
  refine Eu 0 Ll (_::_) (Qp Bk (Rc ?_));refine Yx [.agg Ll,Iq _] (Zc 0) S1 ?_;simp only [Aj,Fg,Zj]
  (first | rw [iN hc1] | skip);(first | rw [if_pos hc2] | skip)
  first | done | rfl
 refine Qp (Qc rfl (c43 (B0 to) 83 [] [.ptr [.sl 1 (Gx to)]] (by kernel_rfl) (QR to) (sB to) (fun a h=>c55 to ht (Lv (B0 to) a) (Me (Hi h.1).1).1 (fun hu=>(P3 (K6 h.2).1 hu).1)) e ⟨hn,by simpa using hc2⟩ hs)) ?_;refine Eu 0 Ll (_::_) (Qp Bk (Rb ?_));refine Yx [.agg Ll,Iq _] (Zc 0) S1 ?_;simp only [Aj,Fg,Zj]
 (first | rw [iN hc1] | skip);(first | rw [iN hc2] | skip)
 first | done | rfl
theorem pC {l:List Ex}{k:Nat}{a:Ex}(h:l[k]? = some a):(l.take (k+1)).flatMap Gn=(l.take k).flatMap Gn++Gn a:=by rw [Cr h];simp
theorem uQ {e:Ex}(h:((D4 e.op).1&&decide (0<=e.var)&&decide (e.var<16))=true):T0 e = [e.var.toNat]/\0<=e.var/\e.var<16:=by
 unfold T0;rw [if_pos h];simp only [Cq,Di] at h;exact ⟨rfl,h.1.2,h.2⟩
theorem Aaa {e:Ex}(h:((D4 e.op).1&&decide (0<=e.var)&&decide (e.var<16))=false):T0 e = []:=by unfold T0;rw [if_neg (by simp only [h];decide)]
theorem c51 (bS:Nat)(S:List Nat)(H:List HO)(e:Ex):Cb Tryz.prog 87 (.box bS 147 (Jl S)::H) [.agg (cE e),.val (.pointer (some ⟨bS,0,none⟩))] (fun r H'=>r = .int .i64 0/\H' = .box bS 147 (Jl (S++T0 e))::H):=by
 refine Yac 26 Tryz.func87 rfl ?_;refine Bv (Qp Th (Qp Bk (Dt (F7 (Qp R5 (Qp C0 (Qp (Qc rfl (gJ e.op)) ?_)))))));refine Qp Z1 (Qp jM (Qp jM (Qp C5 (Qp C5 (Gw (Qp Cp (Qp Cp (Qg [] Qw Wg (Qg [(14,_)] Qw C0 (Qg [(15,_)] Qw Nj (Qp Iz (Qp Cp (Qg [] Qw Wg (Qg [(19,_)] Qw C0 (Qg [(20,_)] Qw Fw (Qp Iz (Ef (fun hc1=>?_) fun hc1=>?_)))))))))))))))))
 .
  have ho:=uQ hc1;refine AW.region (Qp Wg (Qp C0 ?_));refine Qp (Tt Ai rfl rfl rfl rfl rfl (ho.2.1) (ho.2.2) (show 0+e.var.toNat*1=e.var.toNat by omega)) ?_;refine Rt (Ao (k:=0) (v:=.bool _) (cs':=Jl (S ++ [e.var.toNat])) (H2:=_::_) Ai rfl rfl rfl rfl rfl rfl (by simp only [Ke];exact Nat.ble_eq_true_of_le (by show e.var.toNat+1<=16;omega)) (qJ (by omega)) rfl) ?_;refine Gw (Qp Bk (Rb ?_));refine ⟨.inr rfl,[Iq _],Ze,_,S0,?_⟩;exact ⟨rfl,congrArg (fun l=>HO.box bS 147 (Jl (S++l))::H) ho.1.symm⟩
 have ho:=Aaa hc1;refine Dw (Bv (Qp Bk (Rb ?_)));refine ⟨.inr rfl,[Iq _],Ze,_,S0,?_⟩;exact ⟨rfl,congrArg (fun l=>HO.box bS 147 (Jl l)::H) (by rw [ho];simp)⟩
theorem c46v (bS:Nat)(S:List Nat)(H:List HO)(e:Ex)(hs:B3 e<=1048576):Cb Tryz.prog 79 (.box bS 147 (Jl S)::H) [.agg (cE e),.fn (.func 87) [] [.val (.pointer (some ⟨bS,0,none⟩))]] (fun r H'=>r = .int .i64 0/\H' = .box bS 147 (Jl (S++Gn e))::H):=by
 revert S hs
 induction e using Ex.ind
 rename_i e ih;intro S hs;have hal:=Lh e hs;refine Yac 29 Tryz.func79 rfl ?_;refine Bv (Qp Th (Qp Bk (Dt (F7 (Qp (Ae (v:=.fn _ _ _) rfl) (Qp Ld ?_))))));refine Rt (Pl (by kernel_rfl) rfl rfl rfl (c51 bS S H e)) ?_;refine Qp Bk (Gw (Qp Ca (Qp Dl (Ef (fun hc1=>?_) fun hc1=>Dw (F7 (Qp T3 (Qp J7 ?_)))))))
 . exact absurd hc1 (by decide)
 refine Qp (Ki e.args.length rfl rfl (by simp)) ?_;refine Qp Ca (Dt (AW.block ?_));refine AW.loopS (fun (p:Nat×List Nat)=>(⟨[(1,.fn (.func 87) [] [.val (.pointer (some ⟨bS,0,none⟩))]),(16,.sl 8 (e.args.map Ju)),(17,.int .i64 e.args.length),(18,.int .i64 (p.1:Int))],.box bS 147 (Jl p.2)::H,29⟩:St)) (fun p=>p.1<=e.args.length/\p.2=S++T0 e++(e.args.take p.1).flatMap Gn) (fun p=>e.args.length-p.1) ((0,S++T0 e)) ?_ Kx ?_
 . exact ⟨Bn _,by simp⟩
 rintro p hR;refine Bv (Qp Fw (Re (Gd (fun hc2=>?_) fun hc2=>?_)))
 .
  obtain ⟨a,ha⟩:=Dd hc2;have hlt:=Bj ha;have hm:=A0 ha;refine Dw (AW.seq (AW.block (Bv ?_)));refine Qp (Lq Ll rfl rfl (by omega) (Ii ha)) ?_;refine Qp Ld (Hy rR fun b7=>?_);refine Eu 0 Ll (_::_::_) ?_;refine Wd 7 0 rfl ?_;refine Gw (Qp Ld (Qp (Ae (v:=.fn _ _ _) rfl) ?_));refine Rt (Sca rfl (ih a hm _ (by have:=Hb hm;omega))) ?_;refine Qp Bk (Gw (Qp Ca (Qp Dl (Ef (fun hc3=>?_) fun hc3=>Rf (AW.region (Qp Mm (Qp Ca (Dt ?_))))))))
  . exact absurd hc3 (by decide)
  refine ⟨(p.1+1,p.2++Gn a),?_,?_,Kx⟩
  . simp only;exact ⟨hlt,by rw [pC ha,hR.2];simp⟩
  first | omega | (simp only;omega)
 have hte:=D3 hc2;refine AW.exit ?_;refine A1 (Ri (Bv (Qp Bk (Rb ?_))));refine ⟨.inr rfl,[Iq _],Ze,_,S0,?_⟩;exact ⟨rfl,congrArg (fun l=>HO.box bS 147 (Jl l)::H) (by rw [hR.2,hte,Of];simp)⟩
theorem c26 (e:Ex)(hs:B3 e<=1048576):Al Tryz.prog 49 [.agg (cE e)] (.sl 1 (Gx (Oh e))):=by
 refine F8 22 Tryz.func49 rfl fun H=>?_
 refine Bv (Qp Th (Qp (Dg (z:=1) rfl) (Gw (Hy (Jl []) fun b3=>Gw (Qp Ld (Qp (A3 (l:=[]) (l':=[.val _]) rfl rfl) (Rcl (c46v b3 [] H e hs) (Gw (Qp Qav ?_)))))))));refine AOL.ghost (GS.row (t:=4) 3 1 rfl) ?_;refine Dt (F7 (rP 1 (Jl ([]++Gn e)) rfl (Qp Ca (Dt (AW.block ?_)))));refine AW.loopS (fun (p:Nat×List (List AV)×Value)=>(⟨[(4,.row p.2.2 1 p.2.1),(10,.agg (Jl (Gn e))),(11,.int .i64 (p.1:Int))],.row p.2.2 p.2.1.length 3 1::H,22⟩:St)) (fun p=>p.1<=16/\p.2.1=Gx (Mj (Gn e) p.1)) (fun p=>16-p.1) ((0,[],.slice none 0 0)) ?_ (GS.weaken ⟨rfl,by simp;rfl,rfl,trivial⟩ (.cons_cons _ (.cons _ (.refl _)))) ?_
 . exact ⟨Bn _,rfl⟩
 rintro p hR;refine Bv (Qp Fw (Re (Gd (fun hc1=>?_) fun hc1=>AW.exit ?_)))
 .
  have hlt:p.1<16:=by simp at hc1;omega
  have hsc:∀c∈p.2.1,Bm c=true:=by rw [hR.2];exact M3 fun _=>rfl
  have hln:p.2.1.length<=16:=by rw [hR.2];simp only [Gx,B1];exact Fp (rG _ _) hR.1
  refine Dw (AW.seq (AW.block (Bv (Qp Ca ?_))));refine Qp (Gz (c:=_) Ai rfl rfl rfl rfl rfl rfl rfl (by omega) (by simp;omega) (Rv hlt)) ?_;refine Qp Bk (Qp C5 (Gw (Qp Cp (Ef (fun hc2=>?_) fun hc2=>?_))))
  .
   try rw [Jy] at hc2
   refine AW.region (Qp (Ae (v:=.row _ _ _) rfl) (Qp Ca (Qp (Ybs ([[Iq _]]) rfl) ?_)));refine Qe (Yad 0 rfl (Hn rfl) (hsc) (by simp;omega) (by simp [maxLen];omega)) ?_;rintro _ _ ⟨v19,rfl,rfl⟩;refine Qp (Ag (v:=.row _ _ _) rfl) (Rk (AW.region (Qp Mm (Qp Ca (Dt ?_)))));refine ⟨(p.1+1,p.2.1 ++ [[.int .i64 (p.1:Int)]],v19),?_,?_,Kx⟩
   . simp only;exact ⟨by omega,by rw [rH hc2,hR.2];simp [Gx]⟩
   first | omega | (simp only;omega)
  try rw [Jy] at hc2
  refine Rf (AW.region (Qp Mm (Qp Ca (Dt ?_))));refine ⟨(p.1+1,p.2.1,p.2.2),?_,?_,Kx⟩
  . simp only;exact ⟨by omega,by rw [vL hc2,hR.2]⟩
  first | omega | (simp only;omega)
 refine A1 (Ri (Bv ?_));refine AOL.ghost (GS.unrow 4 rfl) ?_;refine Qp Oq (Qp xL (Rb ?_));refine Yx [.sl _ _] Ze S1 ?_;have h16:p.1=16:=by simp at hc1;omega
 simp only [Aj];rw [hR.2,h16];rfl
end Go.Proofs.YtkdhionilabokaaGreatDoor
namespace Go.Proofs
open Go.Shelf
def Tryz.lays212_ren:Go.Shelf.Ren:=⟨fun | 212=>84 | 263=>121 | 264=>122 | n=>n,fun | 46=>113 | 51=>164 | 146=>184 | 53=>166 | 148=>186 | n=>n,fun | n=>n⟩
theorem Tryz.lays212:Go.Proofs.Lays.n212 Tryz.prog Tryz.lays212_ren:={
 mixed:=by kernel_rfl
 f212:=Tryz.func84.trans (congrArg some (by kernel_rfl))
 f263:=Tryz.func121.trans (congrArg some (by kernel_rfl))
 f264:=Tryz.func122.trans (congrArg some (by kernel_rfl))
 t46:=Tryz.underlying113
 a46:=Tryz.isAgg113
 z46:=Tryz.sizeOf113
 v46:=Tryz.zeroValue113
 t51:=Tryz.underlying164
 a51:=Tryz.isAgg164
 z51:=Tryz.sizeOf164
 v51:=Tryz.zeroValue164
 t53:=Tryz.underlying166
 a53:=Tryz.isAgg166
 z53:=Tryz.sizeOf166
 v53:=Tryz.zeroValue166
 t146:=Tryz.underlying184
 a146:=Tryz.isAgg184
 z146:=Tryz.sizeOf184
 v146:=Tryz.zeroValue184
 t148:=Tryz.underlying186
 a148:=Tryz.isAgg186
 z148:=Tryz.sizeOf186
 v148:=Tryz.zeroValue186 }
open Go.RowKit Go.Lib in
theorem Tryz.bits_Mul (x y:Nat)(hx:x<18446744073709551616)(hy:y<18446744073709551616)(w:World) :
 Calls Tryz.prog 84 #[.int .u64 x,.int .u64 y] w fun e w'=>e = .returned (.tuple #[.int .u64 ((x*y / 18446744073709551616:Nat):Int),.int .u64 ((x*y % 18446744073709551616:Nat):Int)])/\w'=w:=Any.bits_Mul Tryz.lays212 x y hx hy w
end Go.Proofs
namespace Go.Proofs.YtkdhionilabokaaGreatDoor
open Go Go.Aw
end Go.Proofs.YtkdhionilabokaaGreatDoor
namespace Go.Aw
theorem GS.heq {sl:List (Nat×AV)}{H H2:List HO}{n:Nat}(h:H=H2):GS ⟨sl,H,n⟩ ⟨sl,H2,n⟩:=by subst h;exact GS.refl _
end Go.Aw
namespace Go.Proofs.YtkdhionilabokaaGreatDoor
open Go Go.Aw
def bI (l:List Int):List AV:=l.map (AV.int .i64)
def cI (v:Int):List AV:=[.int .i64 v]
theorem Ut (l:List Int):(bI l).length=l.length:=B1 ..
theorem bI_sc (l:List Int):Bm (bI l)=true:=by
 induction l with
 | nil=>rfl
 | cons a r ih=>exact ih
theorem lX (l m:List Int):bI (l++m)=bI l++bI m:=Cy ..
theorem gA (l:List Int)(k:Nat):(bI l).take k=bI (l.take k):=(List.map_take ..).symm
theorem sH (l:List Int)(k:Nat):(bI l).drop k=bI (l.drop k):=(List.map_drop ..).symm
theorem sJ (n:Nat):(List.replicate n [AV.int .i64 0]).flatten=bI (List.replicate n 0):=by
 induction n with
 | zero=>rfl
 | succ n ih=>rw [Tf,Jz,ih,Tf];rfl
theorem bY {α:Type}{f:α->List AV}(hf:∀x,(f x).length=1)(l:List α):∀e∈l.map f,e.length=1:=fun e he=>by
 obtain ⟨x,_,rfl⟩:=B7.1 he;exact hf x
theorem uN (n:Nat):0+n*1=n:=by omega
def oT (n:Nat):List Int:=List.replicate n (-1)
def K5 (n k:Nat):List Int:=List.replicate k (-1)++List.replicate (n-k) 0
theorem V0 {n k:Nat}(h:k<=n):(K5 n k).length=n:=by unfold K5;simp;omega
theorem kV (n:Nat):K5 n n=oT n:=by unfold K5 oT;simp
theorem kU {n k m:Nat}(hk:k+m<=n)(hm:m<=k):E3 (bI (K5 n k)) k (((bI (K5 n k)).drop 0).take m)=bI (K5 n (k+m)):=by
 rw [List.drop_zero,gA]
 have h1:(K5 n k).take m=List.replicate m (-1):=by
  unfold K5;rw [List.take_append_of_le_length (by rw [Jg];exact hm),List.take_replicate,Nat.min_eq_left hm]
 have h2:(K5 n k).take k=List.replicate k (-1):=by
  unfold K5;rw [List.take_append_of_le_length (by rw [Jg];omega),List.take_replicate,Nat.min_self]
 have h3:(K5 n k).drop (k+m)=List.replicate (n-(k+m)) 0:=by
  unfold K5;rw [List.drop_append,Jg,List.drop_of_length_le (by rw [Jg];omega),H6,List.drop_replicate]
  congr 1;omega
 unfold E3;rw [h1,Ut,Jg,gA,sH,h2,h3,<-lX,<-lX]
 congr 1
 unfold K5;rw [List.replicate_append_replicate]
theorem fH {n:Nat}(hn:0<n):E3 (bI (K5 n 0)) 0 ((([[AV.int .i64 (-1)]]:List (List AV)).flatten).take 1)=bI (K5 n 1):=by
 unfold K5;obtain ⟨m,rfl⟩:∃m,n=m+1:=⟨n-1,by omega⟩;simp [E3,bI,Tf]
theorem kMul (x y:Nat)(hx:x<18446744073709551616)(hy:y<18446744073709551616):Al Tryz.prog 84 [.int .u64 (x:Int),.int .u64 (y:Int)] (.tuple [.int .u64 ((x*y / 18446744073709551616:Nat):Int),.int .u64 ((x*y % 18446744073709551616:Nat):Int)]):=
 .of_same fun g w vs hg ha=>by
  obtain ⟨u,v,rfl,h1,h2⟩:=ha.inv2;have e1:=h1.inv_int;have e2:=h2.inv_int;subst e1 e2
  exact ⟨_,fun g' w'=>.tuple _ _ rfl (fun i c hc=>by
   match i,hc with
   | 0,hc=>cases hc;exact .int _ _
   | 1,hc=>cases hc;exact .int _ _
   | i+2,hc=>simp at hc),Tryz.bits_Mul x y hx hy w⟩
theorem kMul1 (n:Nat)(hn:n<=1048576):Al Tryz.prog 84 [.int .u64 1,.int .u64 (n:Int)] (.tuple [.int .u64 0,.int .u64 (n:Int)]):=by
 have h:=kMul 1 n (by decide) (by omega);rw [Iy,Nat.div_eq_of_lt (by omega),Nat.mod_eq_of_lt (by omega)] at h;exact h
theorem rF {n:Nat}(h:n<=1048576):IntKind.wrap .u64 (n:Int)=(n:Int):=by
 unfold IntKind.wrap;simp [IntKind.bits,IntKind.signed];omega
theorem i64_in {n:Nat}(h:n<=1048576):IntKind.wrap .i64 (n:Int)=(n:Int):=IntWalk.i64_in _ (by omega)
theorem scPt (l:List Pt):∀c∈l.map Ew,Bm c=true:=fun c hc=>by
 obtain ⟨x,_,rfl⟩:=B7.1 hc;rw [Kp];rfl
theorem P2 {α:Type}{l:List α}{k:Nat}{a:α}{p:α->Bool}(h:(l.take k).any p=false)(ha:l[k]? = some a)(hp:p a=false):(l.take (k+1)).any p=false:=by
 rw [M6,ha];simp [h,hp]
end Go.Proofs.YtkdhionilabokaaGreatDoor
namespace Go.Aw
section
variable {P:Program} {T:List (Nat×TD)} {d:Option Nat} {ty:TypeId} {pos:String} {aft:Array Edge} {gd:Option (Nat×Bool)} {ρ:Operand->AV}
theorem AOL.geX {ops:Array Oper}{KK:St->Prop}{s:St}{o:Oper}{r:List Oper}{x:AV}{α:Type}{F:α->List HO}(G:List (Bool×Bool))(L:List (Nat×AV))(hw:El ops o s.sl=some G)
  (hL:∀p∈L,Zs G (get s.sl p.1) p.2) (h:H9 G->Jj P o (Dn (L++s.sl)) s.H fun x' H'=>x'=x/\∃v,H'=F v) (hn:¬H9 G->∃v,s.H=F v) (hd:J5 o.dst s.n=true)
  (k:∀v,AOL P ops KK r ⟨Dy o.dst (.opt G x) s.sl,F v,s.n⟩):AOL P ops KK (o::r) s:=by
 refine ⟨fun Q g a w hG hQ=>?_⟩;obtain ⟨h1,h2⟩:=Hp (ops:=ops) (o:=o) (sl:=s.sl) hw (g:=g) (w:=w) (a:=a) (fun d _=>hG.sl d);unfold fW;by_cases hg:H9 G
 .
  rw [if_pos (h1 hg)];refine h hg g w a _ _ (fun y _=>Ns hG hg hL y) hG.heap fun g' w' v x' H' ⟨e1,u,e2⟩ hv hH hx=>?_
  subst e1;subst e2;exact (k u).run Q g' _ w' (hG.put hx hd (.opt _ _ _ (fun _=>hv) (fun h=>absurd hg h)) hH) fun g'' s'' a'' w'' q1 q2 q3=>hQ g'' s'' a'' w'' q1 (hx.trans q2) q3
 rw [if_neg (by rw [h2 hg];decide)];obtain ⟨u,hu⟩:=hn hg;have hH:HOK g w (F u):=by have:=hG.heap;rwa [hu] at this
 exact (k u).run Q g _ w (hG.put (Ext.refl g w) hd (.opt _ _ _ (fun h=>absurd h hg) (fun _=>rfl)) hH) hQ
theorem Wj {g:Gh}{w:World}{H:List HO}{k:Nat}{v:Value}{es:List (List AV)}{E z:Nat}(hH:HOK g w H)(hk:H[k]? = some (.buf v es E z)):∃g',Ext g w g' w/\HOK g' w (H.eraseIdx k)/\Rep g' w v (.sl z es):=by
 have hok:=hH.ok _ (A0 hk);rcases hok with ⟨rfl,rfl⟩ | ⟨b,cap,cur,rfl,hg,hcur,hcsz,hcap,hcmax,hz1,hrep⟩
 . exact ⟨g,Ext.refl g w,hH.sub (Qa ..),.sl0 _ _ _ (Bn _)⟩
 have hx:Ext g w (g.put b none) w:=by
  refine ⟨rfl,rfl,rfl,⟨Bi _,Bi _⟩,fun c hc hgc=>⟨?_,rfl⟩,fun c m hc hgc=>⟨fun m' hm=>?_,fun _ _=>rfl⟩⟩
  .
   by_cases e:c=b
   . subst e;exact Gh.Aai _ _ _
   rw [Gh.Aal _ _ e];exact hgc
  by_cases e:c=b
  . subst e;rw [Gh.Aai] at hm;cases hm
  rw [Gh.Aal _ _ e,hgc] at hm;cases hm;exact Bi _
 refine ⟨g.put b none,hx,?_,?_⟩
 .
  have hsub:(H.eraseIdx k).Sublist H:=Qa ..;refine ⟨(hH.sub hsub).nodup,fun o ho=>?_,hH.glob.mono hx⟩;obtain ⟨j,hj⟩:=List.getElem?_of_mem ho;rw [List.getElem?_eraseIdx] at hj
  obtain ⟨j',hjk,hj'⟩:∃j',j'≠k/\H[j']? = some o:=by
   split at hj
   . exact ⟨j,by omega,hj⟩
   exact ⟨j+1,by omega,hj⟩
  have hok:=hH.ok o (A0 hj');refine HO.ok_of_same hx hok fun c hc=>⟨Gh.Aal _ _ fun e=>hjk (hH.nodup_blk hj' hk (e▸hc) rfl),rfl⟩
 refine .sl b 0 es.length cap z es rfl hcap hcmax hz1 (fun i j=>cur.getD (i*z+j) undef) (fun i e hi j y hj=>⟨by unfold Dz;rw [Gh.Aai];trivial,?_⟩) (fun i e hi j y hj=>?_)
 .
  have h3:=Fl hz1 hi hj
  have hlt:i*z+j<cur.size:=by
   have h4:=(List.getElem?_eq_some_iff.1 h3).1;rw [Cm hz1] at h4;have:=Fu z hcap;omega
  rw [Cg,Bq hcur];simp [hlt]
 exact (hrep _ _ (Fl hz1 hi hj)).mono hx
theorem GS.freezeBufCell {sl:List (Nat×AV)}{H H2:List HO}{n b TT:Nat}{cs cs':List AV}{v:Value}{es:List (List AV)}{E z:Nat}(k j o:Nat)(hk:H[k]? = some (.buf v es E z))(hj:(H.eraseIdx k)[j]? = some (.box b TT cs))(hc:cs[o]? = some (.val v))(hcs:cs.set o (.sl z es)=cs')
  (hH2:(H.eraseIdx k).set j (.box b TT cs')=H2):GS ⟨sl,H,n⟩ ⟨sl,H2,n⟩:=fun g a w hG=>by
 subst hcs;subst hH2;obtain ⟨g',hx,hH,hv⟩:=Wj hG.heap hk;refine ⟨g',⟨hG.size,hG.defers,fun i=>(hG.sl i).mono hx,?_⟩,hx⟩;refine hH.set (Ext.refl g' w) hj (fun b h=>.inl h) ?_ (fun _ _ _ _=>⟨rfl,rfl⟩);obtain ⟨h1,vs,h2,h3,h4⟩:=hH.ok _ (A0 hj);refine ⟨h1,vs,h2,by simpa using h3,fun i x hi=>?_⟩;rw [List.getElem?_set] at hi;split at hi
 .
  rename_i e;subst e;split at hi
  . cases hi;rw [(h4 _ _ hc).inv_val];exact hv
  cases hi
 exact h4 i x hi
theorem GS.heapTo {sl:List (Nat×AV)}{H H2:List HO}{n:Nat}(h:H=H2):GS ⟨sl,H,n⟩ ⟨sl,H2,n⟩:=by subst h;exact GS.refl _
end
end Go.Aw
namespace Go.Aw
open Go
section
variable {P:Program} {T:List (Nat×TD)} {d:Option Nat} {ty:TypeId} {pos:String} {aft:Array Edge} {gd:Option (Nat×Bool)} {ρ:Operand->AV}
theorem Xx {x y:Operand}{t e k z:Nat}{td te:TD}{v:Value}{es es2:List (List AV)}{H:List HO}(hT:G9 P T)(hx:ρ x = .val v)(hy:ρ y = .sl z es2)(ht:Bp T t=some td)(hk:td.kind = .slice e)
  (hte:Bp T e=some te) (hz:te.size=z) (hp:Nat.blt 0 z=true) (hH:H[k]? = some (.buf v es e z)) (hs:∀c∈es2,Bm c=true) (hne:es2≠[]) (hb:(es.length+es2.length)*te.bytes<=140737488355328) (hm:es.length+es2.length<=maxLen) :
  Jj P ⟨d,.call ⟨.builtin .append,#[x,y],#[t,t]⟩,ty,pos,aft,gd⟩ ρ H (fun r H'=>∃v',r = .val v'/\H'=H.set k (.buf v' (es++es2) e z)):=by
 intro g w a next Q hr hHK hn
 have hpos:0<z:=by simpa using hp
 have e1:=(hx▸hr x (by simp [Op.operands,Call.operands]):Rep g w _ _).inv_val;have r2:=(hy▸hr y (by simp [Op.operands,Call.operands]):Rep g w _ _);have hu:=Dc (hT t td ht) hk;obtain ⟨it,hit,his,hib,zv,hzv,hzs,_⟩:=(hT e te hte).info;have hok:=hHK.ok _ (A0 hH);obtain ⟨a2,m,c2,h21,h22,h23,h24,_⟩:=r2.inv_sl;have hm1:m=es2.length:=h22;subst hm1;have hpl:0<es2.length:=Iw.2 hne
 have fin:∀v' g' w',(Builtin.append_ #[t,t] ty #[a.eval x,a.eval y]).run P w = .ok v' w'->HOK g' w' (H.set k (.buf v' (es++es2) e z))->Ext g w g' w'->Oper.wp P ⟨d,.call ⟨.builtin .append,#[x,y],#[t,t]⟩,ty,pos,aft,gd⟩ a w next Q:=by
  intro v' g' w' hrun hok' hext;unfold Oper.wp
  rw [E0 (v:=v') (w':=w') (by
   have:(#[x,y]:Array Operand).map a.eval = #[a.eval x,a.eval y]:=by simp
   rw [this];simp only [builtin,Sem.run_bind,hrun,Result.andThen_ok,Sem.run_pure])]
  exact hn g' w' v' _ _ ⟨v',rfl,rfl⟩ (.val _) hok' hext
 rw [h21] at r2;obtain ⟨_,hz2,b2,o2,hb2,news,n1,n2,n3,n4⟩:=G0 r2 hpos hs hne;subst hb2;have hnews:∀j u,news[j]? = some u->w.cell? ((⟨b2,o2,none⟩:Addr).add j)=some u:=fun j u hj=>by rw [E8];exact (n4 j u hj).2
 have hsz:it.size=z:=by rw [his,hz]
 have hnl:news.length=es2.length*it.size:=by rw [n1,hsz]
 have hmax:maxLen=9223372036854775807:=rfl;have hlen:(es++es2).length=es.length+es2.length:=Do;rcases hok with ⟨rfl,h0⟩ | ⟨b,cap,cur,rfl,hg,hcur,hcsz,hcap,hcmax,hz1,hrep⟩
 .
  subst h0;simp only [H6,K9,Cg] at hb hm fin ⊢;have hbb:es2.length*it.bytes<=281474976710656:=by rw [hib];omega
  have hrun:=run_append_nil (P:=P) w t ty e it zv hu hit hzv ⟨b2,o2,none⟩ es2.length c2 news hnl hnews (by omega) (by omega) hbb;have hext:Ext g w (g.put w.heap.size (some 0)) (w.drew.alloc (.cells (news.toArray++Builtin.zeroCells zv.cells (grownCap w es2.length 0 e-es2.length)) e)):=(Ext.drew g w).trans (Ext.alloc g w.drew _ _);have hcapm:es2.length<=grownCap w es2.length 0 e:=grownCap_ge w es2.length 0 e;have hcapM:=grownCap_le_maxLen w es2.length 0 e (by omega);refine fin _ (g.put w.heap.size (some 0)) _ (by rw [e1,h21];exact hrun) ?_ hext;refine hHK.set hext hH (fun b hb=>?_) (.inr ⟨w.heap.size,grownCap w es2.length 0 e,_,rfl,Gh.Aai _ _ _,Ci w.drew _,?_,hcapm,hcapM,hz2,fun i x hi=>?_⟩) (fun c hc _ _=>?_)
  . simp only [HO.blk,Option.some.injEq] at hb;exact .inr (by omega)
  .
   simp only [H7,Hd,n1,size_zeroCells,hzs,hz,Nat.sub_mul];have:=Fu z hcapm;omega
  .
   have h3:=(n2.mono hext).2 i x hi
   have hlt:i<news.length:=by
    have:=(List.getElem?_eq_some_iff.1 hi).1;rw [Cm hz2] at this;omega
   have e2:(news.toArray++Builtin.zeroCells zv.cells (grownCap w es2.length 0 e-es2.length)).getD i undef=news.toArray.getD i undef:=by
    rw [Ce,Ce,Array.getElem?_append_left (by simpa using hlt)]
   rw [e2];exact h3
  exact ⟨Gh.Aal _ _ (by omega),F4 w.drew _ hc⟩
 have hfl:es.flatten.length=es.length*z:=by rw [Cm hz1]
 have hle:es.length*z<=cur.size:=by rw [hcsz];exact Fu z hcap
 have hzall:∀x∈es++es2,x.length=z:=fun x hx=>by
  rcases Da.1 hx with h | h
  . exact hz1 x h
  exact hz2 x h
 have rl1:Cv g w (cur.toList.take (es.length*z)).toArray es.flatten:=by
  refine ⟨by simp [hfl];omega,fun i x hi=>?_⟩;have hlt:=(List.getElem?_eq_some_iff.1 hi).1;have h3:=hrep i x hi
  have e2:(cur.toList.take (es.length*z)).toArray.getD i undef=cur.getD i undef:=by
   simp only [Ce,List.getElem?_toArray,List.getElem?_take,Array.getElem?_toList];rw [if_pos (by omega)]
  rw [e2];exact h3
 have hrl:Cv g w ((cur.toList.take (es.length*z)).toArray++news.toArray) (es++es2).flatten:=by
  rw [Ol];exact rl1.append n2
 have htk:(cur.toList.take (es.length*z)).length=es.length*z:=by simp;omega
 have hfl2:(es++es2).flatten.length=es.length*z+es2.length*z:=by rw [Cm hzall,hlen,Fj]
 by_cases hroom:es.length+es2.length<=cap
 .
  have hfit:es.length*it.size+news.length<=cur.size:=by
   rw [hsz,n1,hcsz,<-Fj];exact Fu z hroom
  have hrun:=run_append_room (P:=P) w t ty e it hu hit b es.length cap cur hcur ⟨b2,o2,none⟩ es2.length c2 news hnl hnews n3 hroom hfit;rw [hsz] at hrun hfit;have hnew:=setRow_heap w b cur (cur.toList.take (es.length*z)++news++cur.toList.drop (es.length*z+news.length)).toArray e (0,0) hcur;have hext:Ext g w g (w.setRow b (cur.toList.take (es.length*z)++news++cur.toList.drop (es.length*z+news.length)).toArray):=Ext.setRow hg;refine fin _ g _ (by rw [e1,h21];exact hrun) ?_ hext;refine hHK.set hext hH (fun b' hb'=>.inl hb') (.inr ⟨b,cap,_,by rw [hlen],hg,hnew,?_,by rw [hlen];exact hroom,hcmax,hzall,fun i x hi=>?_⟩) (fun c hc hne _=>?_)
  . simp only [Hd,Do,Fr,Na,Qd];omega
  .
   have h3:=(hrl.mono hext).2 i x hi;have hlt:=(List.getElem?_eq_some_iff.1 hi).1
   have e2:(cur.toList.take (es.length*z)++news++cur.toList.drop (es.length*z+news.length)).toArray.getD i undef=((cur.toList.take (es.length*z)).toArray++news.toArray).getD i undef:=by
    have e3:(cur.toList.take (es.length*z)++news++cur.toList.drop (es.length*z+news.length)).toArray=((cur.toList.take (es.length*z)).toArray++news.toArray)++(cur.toList.drop (es.length*z+news.length)).toArray:=by
     apply Ly.1;simp
    rw [e3,Ce,Ce,Array.getElem?_append_left (by simp only [H7,Hd];omega)]
   rw [e2];exact h3
  exact ⟨rfl,setRow_other w b c _ (fun h=>hne (by rw [h];rfl))⟩
 have hg':cap<es.length+es2.length:=by omega
 have hfit:Builtin.nextslicecap (es.length+es2.length) cap*it.bytes<=281474976710656:=growslice_fits hg' (by rw [hib];exact hb);have hol:(cur.toList.take (es.length*z)).length=es.length*it.size:=by rw [htk,hsz]
 have holds:∀j u,(cur.toList.take (es.length*z))[j]? = some u->w.cell? ((⟨b,0,none⟩:Addr).add j)=some u:=fun j u hj=>by
  rw [E8,Cg,Bq hcur];rw [List.getElem?_take] at hj;split at hj
  . simpa using hj
  cases hj
 have hrun:=run_append_grow (P:=P) w t ty e it zv hu hit hzv ⟨b,0,none⟩ es.length cap (cur.toList.take (es.length*z)) hol holds ⟨b2,o2,none⟩ es2.length c2 news hnl hnews hg' (by omega) hfit;have hext:Ext g w (g.put w.heap.size (some 0)) (w.drew.alloc (.cells ((cur.toList.take (es.length*z)).toArray++news.toArray++Builtin.zeroCells zv.cells (grownCap w (es.length+es2.length) cap e-(es.length+es2.length))) e)):=(Ext.drew g w).trans (Ext.alloc g w.drew _ _);have hcapm:=grownCap_ge w (es.length+es2.length) cap e;have hcapM:=grownCap_le_maxLen w (es.length+es2.length) cap e (by omega);refine fin _ (g.put w.heap.size (some 0)) _ (by rw [e1,h21];exact hrun) ?_ hext;refine hHK.set hext hH (fun b' hb'=>?_) (.inr ⟨w.heap.size,grownCap w (es.length+es2.length) cap e,_,by rw [hlen],Gh.Aai _ _ _,Ci w.drew _,?_,by rw [hlen];exact hcapm,hcapM,hzall,fun i x hi=>?_⟩) (fun c hc _ _=>?_)
 . simp only [HO.blk,Option.some.injEq] at hb';exact .inr (by omega)
 .
  simp only [H7,Hd,n1,size_zeroCells,hzs,hz,Nat.sub_mul,hol,hsz];have:=Fu z hcapm;rw [Fj] at this;rw [Fj];omega
 .
  have h3:=(hrl.mono hext).2 i x hi;have hlt:=(List.getElem?_eq_some_iff.1 hi).1
  have e2:((cur.toList.take (es.length*z)).toArray++news.toArray++Builtin.zeroCells zv.cells (grownCap w (es.length+es2.length) cap e-(es.length+es2.length))).getD i undef=((cur.toList.take (es.length*z)).toArray++news.toArray).getD i undef:=by
   rw [Ce,Ce,Array.getElem?_append_left (by simp only [H7,Hd];omega)]
  rw [e2];exact h3
 exact ⟨Gh.Aal _ _ (by omega),F4 w.drew _ hc⟩
end
end Go.Aw
