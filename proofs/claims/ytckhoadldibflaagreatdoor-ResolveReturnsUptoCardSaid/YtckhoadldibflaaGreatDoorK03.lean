/-
  Several texts in one: W4, W5, W6, W7, W8, W9, V1. No condition.
-/
import Derived.Test.YtckhoadldibflaaGreatDoorK01
import Derived.Test.YtckhoadldibflaaGreatDoorK02
import Derived.KernelRfl
set_option linter.unusedVariables false
set_option linter.unusedSimpArgs false
set_option maxHeartbeats 800000
set_option maxRecDepth 100000
namespace Go.Proofs.YtckhoadldibflaaGreatDoor
open Go Go.Aw
theorem uK {s:Ag}(h:((s == [])||decide ((B4 Bn s:Int)<(s.length:Int)))=false):Ua s=Jd s 0:=by unfold Ua;rw [iN h]
theorem Vy:∀s:Ag,(B0 s).length<=4*s.length
  | []=>Br _
  | c::r=>by
    have:=Vy r;have h:(Gy c).length<=4:=by unfold Gy;split <;> (try split) <;> simp
    simp only [B0,Au,Bb];omega
theorem fA:∀a b:Ag,B0 (a++b)=B0 a++B0 b
 | [],b=>rfl
 | c::r,b=>by simp [B0,fA r b]
theorem take_bt {s:Ag}{k:Nat}(h:k<s.length):s.take (k+1)=s.take k ++ [bt s k]:=by rw [List.take_add_one,Jl h];rfl
theorem Zn {s:Ag}{k:Nat}{es:List (List AV)}{x:Ag}(h:k<s.length)(he:es=Dr ([34]++B0 (s.take k)))(hx:Gy (bt s k)=x):es++Dr x=Dr ([34]++B0 (s.take (k+1))):=by
 rw [he,take_bt h,fA,<-Sd];simp [B0,hx]
theorem yY {s:Ag}{k:Nat}{es:List (List AV)}(hl:s.length<=64)(he:es=Dr ([34]++B0 (s.take k))):es.length<=257:=by
 have:=Vy (s.take k);rw [he,Se];rw [G2] at this;simp;omega
theorem nat8 (c:UInt8):c.toNat<=255:=by have:=c.toNat_lt;omega
theorem hex_hi (c:UInt8):0<=IntKind.u8.wrap ((c.toNat:Int).tdiv 16)/\fR[(IntKind.u8.wrap ((c.toNat:Int).tdiv 16)).toNat]? = some (bt fR (c.toNat / 16)):=by
 have h:=nat8 c
 have e:IntKind.u8.wrap ((c.toNat:Int).tdiv 16)=((c.toNat / 16:Nat):Int):=by
  rw [IntWalk.u8_quo _ _ (by omega)];omega
 rw [e];refine ⟨by omega,?_⟩;rw [So];exact Jl (by show c.toNat / 16<16;omega)
theorem hex_lo (c:UInt8):0<=(c.toNat:Int).tmod 16/\fR[((c.toNat:Int).tmod 16).toNat]? = some (bt fR (c.toNat % 16)):=by
 have e:(c.toNat:Int).tmod 16=((c.toNat % 16:Nat):Int):=by
  rw [Int.tmod_eq_emod_of_nonneg (by omega)];omega
 rw [e];refine ⟨by omega,?_⟩;rw [So];exact Jl (by show c.toNat % 16<16;omega)
theorem byteOf_eq (n:Int):IntKind.u8.wrap n=((oI n).toNat:Int):=by
 have h:=lG n;unfold oI;rw [UInt8.toNat_ofNat_of_lt' (by show _<256;omega)];omega
theorem idxB_le:∀(s:Ag) (c:UInt8),-1<=Lib.indexByte s c/\Lib.indexByte s c<s.length
  | [],c=>⟨by unfold Lib.indexByte;decide,by unfold Lib.indexByte;decide⟩
  | a::r,c=>by
    have:=idxB_le r c;unfold Lib.indexByte;simp only [Bb,beq_iff_eq];split
    . omega
    split <;> omega
theorem hexI_le (c:UInt8) : -1<=pI c/\pI c<16:=idxB_le fR c
theorem sc_two (a b:Int):∀c∈[[AV.int .u8 a],[AV.int .u8 b]],A0 c=true:=by simp [A0,kP]
theorem sc_four (a b c d:Int):∀x∈[[AV.int .u8 a],[AV.int .u8 b],[AV.int .u8 c],[AV.int .u8 d]],A0 x=true:=by simp [A0,kP]
theorem c18 (s:Ag)(hl:s.length<=1048576):An Tryz.prog 303 [.str s] (.tuple [.int .i64 (Ua s).1,.int .i64 (Ua s).2]):=by
 refine Fb 33 Tryz.func303 rfl fun H=>?_
 refine Aa (Qp Aq (Qp Aq (Ax (B5 (Qp H7 (Qp (Gb rfl rfl) (Qp Cc (Qg [] Qw H7 ?_))))))));refine Qg [(10,_)] Qw (Qc rfl (c38 s hl 141 Bn (by kernel_rfl) c39)) ?_;refine Qg [] Qw H7 (Qg [(12,_)] Qw (Du tok rfl rfl rfl rfl) (Qg [(11,_),(13,_)] Yw Cn (Qp E5 (Bh (fun hc1=>Aa (Qp Aq (Qp Aq (Rc (O0 (Iq _) (Iq _) ?_))))) fun hc1=>?_))))
 .
  simp only [Ah,Ua];rw [if_pos hc1]
  done
 have hn:=uK hc1;refine B2 (Aa (Qp Aq (Ax (B5 (Qp H7 (Qp (Yr tok rfl rfl rfl rfl rfl rfl rfl) ?_))))));refine Qp (E6 s.length rfl rfl (by simp)) ?_;refine Qp Ap (Ax (AW.block ?_));refine AW.Aad (fun (p:Nat×Int)=>(⟨[(17,.sl 1 (Dr s)),(18,.int .i64 (s.length:Int)),(4,.int .i64 p.2),(19,.int .i64 (p.1:Int))],H,33⟩:St)) (fun p=>p.1<=s.length/\(0<=p.2/\p.2<=1099511627776)/\Jd s 0=Jd (s.drop p.1) p.2) (fun p=>s.length-p.1) ((0,0)) ?_ C2 ?_
 . exact ⟨A9 _,⟨by decide,by decide⟩,rfl⟩
 rintro p hR;have hb:=hR.2.1;have hdv:=dv_le (bt s p.1);refine Aa (Qp Cn (Re (Hb (fun hc2=>?_) fun hc2=>?_)))
 .
  have hk:p.1<s.length:=by simp at hc2;omega
  refine B2 (AW.seq (AW.block (Aa ?_)));refine Qp (Eh [.int .u8 _] rfl rfl (by omega) (xH (k:=p.1) hk)) ?_;refine Qp (F0 (c:=.int .u8 _) tok rfl rfl rfl) (Qp (Ba (v:=.int .u8 _) rfl) (B7 (Qp Ap ?_)));refine Qp (P_mul rfl rfl rfl (by constructor <;> omega)) ?_;refine Qp (A1 (v:=.int .u8 _) rfl) (Qp (xC rfl rfl) (Qp (gW (m:=dvS (bt s p.1)) tok rfl rfl rfl rfl rfl (wrap64_8 _)) (Qp Gw (Qp Aq (B7 (Qp Ap (Qp Gx (Bh (fun hc3=>Aa (Qp Aq (Qp Aq (Ra (A7 (Dz (A7 (O0 (Iq _) (Iq _) ?_)))))))) fun hc3=>Rf (AW.region (Qp Gw (Qp Ap (Ax ?_))))))))))))
  . rw [hn,hR.2.2,yQ hk hc3];rfl
  refine ⟨(p.1+1,10*p.2+dvS (bt s p.1)),?_,?_,C2⟩
  . exact ⟨hk,⟨by simp only;omega,by simp only [It] at hc3;simp only;omega⟩,hR.2.2.trans (yP hk hc3)⟩
  simp only;omega
 have hk:s.length<=p.1:=by simp at hc2;omega
 refine AW.exit ?_;refine B1 (Ri (Aa (Qp Ap (Qp Aq (Qp Aq (Rb ?_))))));refine O0 (Iq _) (Iq _) ?_;have h9:Ua s=(p.2,0):=by rw [hn,hR.2.2,Q8 hk];rfl
 rw [h9];rfl
theorem c20 (s:Ag)(hl:s.length<=1048576):An Tryz.prog 84 [.str s] (.int .i64 (Hf s)):=by
 refine Fb 22 Tryz.func84 rfl fun H=>?_
 refine Aa (Qp Aq (Ax (B5 (Qp H7 (Qp (Gb rfl rfl) (Qp Cc (Qg [] Qw H7 (Qg [(6,_)] Qw (Du tok rfl rfl rfl rfl) (Qg [(7,_)] Qw Gx (Qp E5 (Qp Cc (Qg [] Qw H7 ?_))))))))))));refine Yh [(11,_)] Qw (fun hG=>C4 tok rfl rfl rfl rfl (by omega) (Jl (i:=0) (ne_len (g1 hG)))) ?_;refine Qg [(12,_)] Qw (Qc rfl (c39 _)) (Qp E5 (Qp Cc (Qg [] Qw H7 (Qg [(16,_)] Qw (Qc rfl (c22 s hl)) (Qp E5 (Bh (fun hc1=>Aa (Qp Aq (Rc (Qr (Iq _) ?_)))) fun hc1=>B2 (B5 (Qp H7 (Qp (Yr tok rfl rfl rfl rfl rfl rfl rfl) ?_)))))))))
 .
  simp only [Ah,Hf];rw [if_pos hc1]
  done
 refine Qp (Qc rfl (c41 s hl 144 pY (by kernel_rfl) c42)) ?_;refine Bh (fun hc2=>Aa (Qp Aq (Rc (Qr (Iq _) ?_)))) fun hc2=>B2 (Aa (Qp Aq (Rb (Qr (Iq _) ?_))))
 .
  simp only [Ah,Hf];rw [iN hc1];rw [if_pos hc2]
  done
 simp only [Ah,Hf];rw [iN hc1];rw [iN hc2]
 done
theorem c24 (s:Ag)(hl:s.length<=1048576):An Tryz.prog 272 [.str s] (.tuple [.str (Sj s).1,.int .i64 (Sj s).2]):=by
 refine Fb 54 Tryz.func272 rfl fun H=>?_
 refine Aa (Qp Lu (Qp Aq (Ax (B5 (Qp H7 (Qp (Du tok rfl rfl rfl rfl) (Qp Gx (Bh (fun hc1=>Aa (Qp Lu (Qp Aq (Rc (O0 (.str _) (Iq _) ?_))))) fun hc1=>B2 (Aa (Qe (Hv (es:=[[.int .u8 _]]) tok rfl rfl rfl rfl rfl rfl rfl rfl rfl) ?_))))))))))
 .
  simp only [Ah,Sj];rw [if_pos hc1]
  done
 rintro _ _ ⟨v10,rfl,rfl⟩;refine Qp (Ba (v:=.row _ _ _) rfl) (Ax (B5 (Qp H7 (Qp (Yr tok rfl rfl rfl rfl rfl rfl rfl) ?_))));refine Qp (E6 s.length rfl rfl (by simp)) ?_;refine Qp Ap (Ax (AW.block ?_));refine AW.Aad (fun (p:Nat×List (List AV)×Value)=>(⟨[(4,.row p.2.2 1 p.2.1),(12,.sl 1 (Dr s)),(13,.int .i64 (s.length:Int)),(14,.int .i64 (p.1:Int))],.row p.2.2 p.2.1.length 5 1::H,54⟩:St)) (fun p=>p.1<=s.length/\p.2.1=Dr ([34]++B0 (s.take p.1))) (fun p=>s.length-p.1) ((0,_,v10)) ?_ C2 ?_
 . exact ⟨A9 _,rfl⟩
 rintro p hR;have hroom:=yY (by simp at hc1;omega) hR.2;have hsc:∀c∈p.2.1,A0 c=true:=by rw [hR.2];exact vS _
 refine Aa (Qp Cn (Re (Hb (fun hc2=>?_) fun hc2=>?_)))
 .
  have hk:p.1<s.length:=by simp at hc2;omega
  refine B2 (AW.seq (AW.block (Aa ?_)));refine Qp (Eh [.int .u8 _] rfl rfl (by omega) (xH (k:=p.1) hk)) ?_;refine Qp (F0 (c:=.int .u8 _) tok rfl rfl rfl) (Qp (Ba (v:=.int .u8 _) rfl) (Ax (AW.block (Aa ?_))));refine Qp (A1 (v:=.int .u8 _) rfl) (Qp Bl (Qp Cc (Qg [] Qw (A1 (v:=.int .u8 _) rfl) (Qg [(26,_)] Qw Bl (Qp E5 (Qp Bc (Bh (fun hc3=>AW.region (Qp (A1 (v:=.row _ _ _) rfl) (Qp (A1 (v:=.int .u8 _) rfl) (Qp (Jh ([[.int .u8 _],[.int .u8 _]]) rfl) ?_)))) fun hc3=>Aa (Qp (A1 (v:=.int .u8 _) rfl) (Qp Cn (Qp Cc (Qg [] Qw (A1 (v:=.int .u8 _) rfl) (Qg [(37,_)] Qw Gx (Qp E5 (Qp Bc (Bh (fun hc4=>?_) fun hc4=>AW.region (Qp (A1 (v:=.row _ _ _) rfl) (Qp (A1 (v:=.int .u8 _) rfl) (Qp (Jh ([[.int .u8 _]]) rfl) ?_))))))))))))))))))
  .
   refine Qe (W0 0 rfl (sc_two _ _) (hsc) (by simp;omega) (by simp [maxLen];omega)) ?_;rintro _ _ ⟨v32,rfl,rfl⟩;refine Qp (Ba (v:=.row _ _ _) rfl) (AOL.nil (J1 (J1 (Av (AW.region (Qp Gw (Qp Ap (Ax ?_))))))));refine ⟨(p.1+1,p.2.1++Dr [92,bt s p.1],v32),?_,?_,C2⟩
   . exact ⟨hk,Zn hk hR.2 (by unfold Gy;rw [if_pos hc3])⟩
   simp only;omega
  .
   refine Mo ?_;refine Qn 0 rfl (A1 (v:=.row _ _ _) rfl) (Qn 1 rfl (A1 (v:=.int .u8 _) rfl) ?_);refine Qn 2 rfl (P_quow rfl rfl (by omega)) ?_;refine Qn 3 rfl (C4 tok rfl rfl rfl rfl ((hex_hi _).1) ((hex_hi _).2)) (Qn 4 rfl (A1 (v:=.int .u8 _) rfl) ?_);refine Qn 5 rfl (P_rem rfl rfl (by omega)) ?_;refine Qn 6 rfl (C4 tok rfl rfl rfl rfl ((hex_lo _).1) ((hex_lo _).2)) (Qn 7 rfl (Jh ([[.int .u8 _],[.int .u8 _],[.int .u8 _],[.int .u8 _]]) rfl) ?_);refine rT 8 rfl (W0 0 rfl (sc_four _ _ _ _) (hsc) (by simp;omega) (by simp [maxLen];omega)) ?_;rintro _ _ ⟨v48,rfl,rfl⟩;refine Qn 9 rfl (Ba (v:=.row _ _ _) rfl) ?_;refine Ig ?_;refine J1 (J1 (Av (AW.region (Qp Gw (Qp Ap (Ax ?_))))));refine ⟨(p.1+1,p.2.1++Dr [92,120,bt fR ((bt s p.1).toNat / 16),bt fR ((bt s p.1).toNat % 16)],v48),?_,?_,C2⟩
   . exact ⟨hk,Zn hk hR.2 (by unfold Gy;rw [iN hc3,if_pos hc4])⟩
   simp only;omega
  refine Qe (W0 0 rfl (Et rfl) (hsc) (by simp;omega) (by simp [maxLen];omega)) ?_;rintro _ _ ⟨v21,rfl,rfl⟩;refine Qp (Ba (v:=.row _ _ _) rfl) (AOL.nil (J1 (J1 (Av (AW.region (Qp Gw (Qp Ap (Ax ?_))))))));refine ⟨(p.1+1,p.2.1++Dr [bt s p.1],v21),?_,?_,C2⟩
  . exact ⟨hk,Zn hk hR.2 (by unfold Gy;rw [iN hc3,iN hc4])⟩
  simp only;omega
 have hk:p.1=s.length:=by simp at hc2;have:=hR.1;omega
 have hfin:p.2.1 ++ [[.int .u8 34]]=Dr ([34]++B0 s ++ [34]):=by rw [hR.2,hk,Qm,Sd ([34]++B0 s) [34]];rfl
 have hfl:([34]++B0 s ++ [34]).length<=maxLen:=by have h1:=Vy s;simp at hc1;simp [maxLen];omega
 refine AW.exit ?_;refine B1 (Ri (Aa ?_));refine Qp (A1 (v:=.row _ _ _) rfl) (Qp (Jh ([[.int .u8 _]]) rfl) ?_);refine Qe (W0 0 rfl (Et rfl) (hsc) (by simp;omega) (by simp [maxLen];omega)) ?_;rintro _ _ ⟨v52,rfl,rfl⟩;refine Qp (gV (s:=[34]++B0 s ++ [34]) tok rfl rfl rfl rfl rfl rfl rfl (hfl) (as_row hfin)) (Qp Lu (Qp Aq (Rb ?_)));refine Yx Iv Zf S1 ?_;simp only [Ah,Sj];rw [iN hc1]
 done
theorem c70 (s:Ag)(hl:s.length<=1048576):An Tryz.prog 304 [.str s] (.tuple [.int .u8 ((Kw s).1.toNat:Int),.int .i64 (Kw s).2]):=by
 refine Fb 48 Tryz.func304 rfl fun H=>?_
 refine Aa ?_;refine Qp (Ba (v:=.int .u8 _) rfl) ?_;refine Qp Aq (Re (AW.block (Aa (Qp H7 ?_))));refine Qp (Du tok rfl rfl rfl rfl) ?_;refine Qp Kv (Qp Cc (Qg [] Qw H7 ?_));refine Yh [(11,_)] Qw (fun hG=>C4 tok rfl rfl rfl rfl (by omega) (Jl (i:=1) (by have h9:=g1 hG;simp at h9;omega))) ?_;refine Qg [(12,_)] Qw Bl (Qg [(13,_)] Qw Cc (Qg [] Qw H7 ?_));refine Yh [(15,_)] Qw (fun hG=>C4 tok rfl rfl rfl rfl (by omega) (Jl (i:=1) (by have h9:=g1 hG;simp at h9;omega))) ?_;refine Qg [(16,_)] Qw Bl (Qg [(14,_),(17,_)] Qw E5 (Qp Ju (Qp Bc (Bh (fun hc1=>?_) fun hc1=>?_))))
 .
  refine Aa (Qp H7 ?_);refine Qp (C4 tok rfl rfl rfl rfl (by omega) (Jl (i:=1) (by simp at hc1;omega))) ?_;refine Qp (Ba (v:=.int .u8 _) rfl) ?_;refine Qp Aq (Ra ?_);refine O0 (.int .u8 _) (Iq _) ?_;simp only [Ah,Kw];rw [if_pos hc1]
  done
 refine Aa (Qp H7 ?_);refine Qp (Du tok rfl rfl rfl rfl) ?_;refine Qp Kv (Qp Cc (Qg [] Qw H7 ?_));refine Yh [(27,_)] Qw (fun hG=>C4 tok rfl rfl rfl rfl (by omega) (Jl (i:=1) (by have h9:=g1 hG;simp at h9;omega))) ?_;refine Qg [(28,_)] Qw Bl (Qp Ju (Qp Bc (Bh (fun hc2=>?_) fun hc2=>?_)))
 .
  refine AW.seq ?_;refine Mo ?_;refine Qn 0 rfl H7 ?_;refine Qn 1 rfl (C4 tok rfl rfl rfl rfl (by omega) (Jl (i:=2) (by simp at hc2;omega))) ?_;refine Qn 2 rfl (Qc rfl (k53 fR _)) ?_;refine Qn 3 rfl H7 ?_;refine Qn 4 rfl (C4 tok rfl rfl rfl rfl (by omega) (Jl (i:=3) (by simp at hc2;omega))) ?_;refine Qn 5 rfl (Qc rfl (k53 fR _)) ?_;refine Qn 6 rfl Aq (Qn 7 rfl Aq ?_);refine Ig ?_;refine Av (Aa (Qp Ap (Qp Kv (Qp Cc (Qg [] Qw Ap (Qg [(40,_)] Qw Kv (Qp Ju (Bh (fun hc3=>?_) fun hc3=>?_))))))))
  .
   refine AW.seq ?_;have hh1:=hexI_le (bt s 2);have hh2:=hexI_le (bt s 3);unfold pI at hh1 hh2;refine AW.region (Qp Ap ?_);refine Qp (P_mul rfl rfl rfl (by constructor <;> omega)) ?_;refine Qp Ap (Qp Gw ?_);refine Qp (gW (m:=((oI (16*pI (bt s 2)+pI (bt s 3))).toNat:Int)) tok rfl rfl rfl rfl rfl (byteOf_eq _)) ?_;refine Qp (Ba (v:=.int .u8 _) rfl) ?_;refine Qp Aq (Ra ?_);refine O0 (.int .u8 _) (Iq _) ?_;simp only [Ah,Kw];rw [iN hc1];rw [if_pos hc2];rw [if_pos hc3]
   done
  refine Rf (Aa ?_);refine Qp (Ba (v:=.int .u8 _) rfl) ?_;refine Qp Aq (Rb ?_);refine O0 (.int .u8 _) (Iq _) ?_;simp only [Ah,Kw];rw [iN hc1];rw [if_pos hc2];rw [iN hc3];rfl
 refine Rf (Aa ?_);refine Qp (Ba (v:=.int .u8 _) rfl) ?_;refine Qp Aq (Rb ?_);refine O0 (.int .u8 _) (Iq _) ?_;simp only [Ah,Kw];rw [iN hc1];rw [iN hc2];rfl
theorem sign_get (k:Nat)(h:k<17):M4[k]? = some (.str (nT.getD k [])):=by
 have e:M4=nT.map AV.str:=rfl;rw [e,List.getElem?_map];have h':k<nT.length:=h;simp [Ez,List.getElem?_eq_getElem h']
theorem sign_step {s:Ag}{k:Nat}(h:k<17)(hc:Lib.hasPrefix s (nT.getD k [])=false):Ia s (nT.drop k)=Ia s (nT.drop (k+1)):=by
 have h':k<nT.length:=h;rw [Qz h'];have e:nT.getD k []=nT[k]:=by simp [Ez,List.getElem?_eq_getElem h']
 rw [e] at hc;rw [Ia,iN hc]
theorem sign_stop {s:Ag}{k:Nat}(h:k<17)(hc:Lib.hasPrefix s (nT.getD k [])=true):Ia s (nT.drop k)=Y4 3 (nT.getD k []) (nT.getD k []).length:=by
 have h':k<nT.length:=h;rw [Qz h'];have e:nT.getD k []=nT[k]:=by simp [Ez,List.getElem?_eq_getElem h']
 rw [e] at hc ⊢;rw [Ia,if_pos hc]
theorem c54 (s:Ag)(hl:s.length<=1048576)(h0:0<s.length):An Tryz.prog 276 [.str s] (.agg (cFo (Kx s))):=by
 refine Fb 20 Tryz.func276 rfl fun H=>?_
 refine Aa (D5 ghy fun b2=>Ax (B5 (Qp H7 ?_)));refine Qp (C4 tok rfl rfl rfl rfl (by omega) (Jl (i:=0) h0)) ?_;refine Qp (Qc rfl (c43 _)) (Qp Ix (Bh (fun hc1=>Aa (Qp (Fj Nm) ?_)) fun hc1=>B2 (Aa (Qp H7 ?_))))
 .
  refine By 0 Nm (_::_) (Rc ?_);refine Yx [.agg Nm] (Zb 0) S1 ?_;simp only [Ah,Kx];rw [if_pos hc1];rfl
 refine Qp (Qc rfl (c38 s hl 302 G5 (by kernel_rfl) c69)) ?_;refine Qp Aq (Ax (B5 (Qp Ap (Qp Gx (Bh (fun hc2=>Aa (Qp (Fj Nm) ?_)) fun hc2=>B2 (Aa (Qp H7 (Qp Ap (Qp (Lg (l:=0) (h:=B4 G5 s) tok rfl rfl rfl (rfl) (⟨_,rfl⟩) (A9 _) (Ng _ _) (Qt)) (Qp (Fj tD) (Qp Ap (Qp (Fj Nm) ?_))))))))))))
 .
  refine By 0 Nm (_::_) (Rc ?_);refine Yx [.agg Nm] (Zb 0) S1 ?_;simp only [Ah,Kx];rw [iN hc1];rw [if_pos hc2];rfl
 refine By 0 Nm (_::_) (Rb ?_);refine Yx [.agg Nm] (Zb 0) S1 ?_;simp only [Ah,Kx];rw [iN hc1];rw [iN hc2];rfl
theorem c55 (s:Ag)(hl:s.length<=1048576)(h0:0<s.length):An Tryz.prog 277 [.str s] (.agg (cFo (F4 s))):=by
 refine Fb 40 Tryz.func277 rfl fun H=>?_
 refine Aa (D5 ghy fun b2=>B7 (Qp H7 ?_));refine Qp (Qc rfl (c38 s hl 141 Bn (by kernel_rfl) c39)) ?_;refine Qp Aq (Ax (B5 (Qp Ap (Qp Bl (Bh (fun hc1=>Aa (Qp (Fj Nm) ?_)) fun hc1=>B2 (B5 (Qp H7 (Qp Ap (Qp (Lg (l:=0) (h:=B4 Bn s) tok rfl rfl rfl (rfl) (⟨_,rfl⟩) (A9 _) (Ng _ _) (Qt)) ?_)))))))))
 .
  refine By 0 Nm (_::_) (Rc ?_);refine Yx [.agg Nm] (Zb 0) S1 ?_;simp only [Ah,F4];rw [if_pos hc1];rfl
 refine Qp (Qc rfl (c18 (s.take (B4 Bn s)) (by rw [G2];omega))) ?_;refine Qp Oz (Qp Lv (Qp Lv (Qp Aq (Qp Aq (B7 (Qp Ap (Qp Cb (Bh (fun hc2=>Aa (Qp Ap (Qp (Fj Nm) ?_))) fun hc2=>B2 (B5 (Qp Ap (Qp H7 (Qp (Du tok rfl rfl rfl rfl) (Qp Cn (Qp Cc (Qg [] Qw H7 (Qg [] Qw Ap ?_))))))))))))))))
 .
  refine By 0 Nm (_::_) (Rc ?_);refine Yx [.agg Nm] (Zb 0) S1 ?_;simp only [Ah,F4];rw [iN hc1];rw [if_pos hc2];rfl
 refine Yh [(27,_),(28,_)] Yw (fun hG=>C4 tok rfl rfl rfl rfl (by omega) (Jl (i:=B4 Bn s) (by have h9:=g1 hG;simp at h9;exact h9))) ?_;refine Qg [(29,_)] Qw (Qc rfl (c43 _)) (Qp Ju (Bh (fun hc3=>Aa (Qp Ap (Qp (Fj Nm) ?_))) fun hc3=>B2 (Aa (Qp H7 (Qp Ap (Qp (Lg (l:=0) (h:=B4 Bn s) tok rfl rfl rfl (rfl) (⟨_,rfl⟩) (A9 _) (Ng _ _) (Qt)) (Qp (Fj tD) (Qp Ap (Qp (Fj Nm) ?_)))))))))
 .
  refine By 0 Nm (_::_) (Rc ?_);refine Yx [.agg Nm] (Zb 0) S1 ?_;simp only [Ah,F4];rw [iN hc1];rw [iN hc2];rw [if_pos hc3];rfl
 refine By 0 Nm (_::_) (Rb ?_);refine Yx [.agg Nm] (Zb 0) S1 ?_;simp only [Ah,F4];rw [iN hc1];rw [iN hc2];rw [iN hc3];rfl
theorem c57 (s:Ag):An Tryz.prog 279 [.str s] (.agg (cFo (Wf s))):=by
 refine Fb 19 Tryz.func279 rfl fun H=>?_
 refine Aa (D5 ghy fun b2=>Ax (B5 ?_));refine Qp (U7 (l:=M4) tok (⟨_,by simp [globals],fun _ h=>h⟩) rfl rfl rfl rfl) ?_;refine Qp Ap (Ax (AW.block ?_));refine AW.Aad (fun (k:Nat)=>(⟨[(0,.str s),(2,.val (.pointer (some ⟨b2,0,none⟩))),(5,.agg M4),(6,.int .i64 (k:Int))],.box b2 256 ghy::H,19⟩:St)) (fun k=>k<=17/\Wf s=Ia s (nT.drop k)) (fun k=>17-k) (0) ?_ C2 ?_
 . exact ⟨A9 _,rfl⟩
 rintro k hR;refine Aa (Qp Cn (Re (Hb (fun hc1=>?_) fun hc1=>?_)))
 .
  have hk:k<17:=by simp at hc1;omega
  refine B2 (AW.seq (AW.block (Aa ?_)));refine Qp (U6 (c:=.str (nT.getD k [])) tok rfl rfl rfl rfl rfl rfl rfl (by omega) (by omega) (sign_get k hk)) ?_;refine Qp Lu (B7 (Qp H7 (Qp H7 (Qp (Qc rfl (k28 _ _)) (Bh (fun hc2=>Aa (Qp H7 (Qp (Fj tD) (Qp H7 (Qp (Du tok rfl rfl rfl rfl) (Qp (Fj Nm) ?_)))))) fun hc2=>Rf (AW.region (Qp Gw (Qp Ap (Ax ?_)))))))))
  .
   refine By 0 Nm (_::_) (Ra (A7 (Dz (A7 ?_))));refine Yx [.agg Nm] (Zb 0) S1 ?_;have h9:=hR.2.trans (sign_stop hk hc2);rw [h9];rfl
  refine ⟨k+1,?_,?_,C2⟩
  . exact ⟨hk,hR.2.trans (sign_step hk hc2)⟩
  omega
 have hk:k=17:=by simp at hc1;have:=hR.1;omega
 refine AW.exit ?_;refine B1 (Ri (Aa (Qp (Fj Nm) ?_)));refine By 0 Nm (_::_) (Rb ?_);refine Yx [.agg Nm] (Zb 0) S1 ?_;have h9:Wf s=Nw 0 4:=by rw [hR.2,hk];rfl
 rw [h9];rfl
theorem Pp {s:Ag}{n i:Nat}{b:Ag}(h:0<n):Hr s n i b =
  if decide ((i:Int)<(s.length:Int)) then
   if (((bt s i).toNat:Int)==34) then
    if decide (64<(b.length:Int)) then Nw 0 13 else Y4 2 b ((i:Int)+1)
   else if (((bt s i).toNat:Int)==92) then
    if ((Kw (s.drop i)).2==0) then Nw i 4 else Hr s (n-1) (i+(Kw (s.drop i)).2.toNat) (b ++ [(Kw (s.drop i)).1])
   else if (decide (((bt s i).toNat:Int)<32)||decide (126<((bt s i).toNat:Int))) then Nw i 4
   else Hr s (n-1) (i+1) (b ++ [bt s i])
  else Nw s.length 4:=by
 cases n with
 | zero=>omega
 | succ n=>rfl
theorem xS (t:Ag):0<=(Kw t).2/\(Kw t).2<=t.length:=by
 unfold Kw;split
 . rename_i h;simp at h;simp;omega
 split
 .
  rename_i h;simp at h;split <;> simp;omega
 simp
theorem xI (b:Ag)(c:UInt8):Dr (b ++ [c])=Dr b ++ [[AV.int .u8 (c.toNat:Int)]]:=Sd b [c]
theorem vM {es:List (List AV)}{b:Ag}(h:es=Dr b)(c:UInt8):es ++ [[AV.int .u8 (c.toNat:Int)]]=Dr (b ++ [c]):=by rw [h,xI]
theorem tT {b:Ag}{n m:Nat}(h:b.length<=n)(hm:n<m)(c:UInt8):(b ++ [c]).length<=m:=by simp;omega
def recL:List (List AV):=[[.fn (.func 276) [] []],[.fn (.func 277) [] []],[.fn (.func 278) [] []]]
def recF:Nat->Ag->Fo
 | 0,s=>Kx s
 | 1,s=>F4 s
 | _,s=>Lq s
theorem rec_get (k:Nat)(h:k<3):recL[k]? = some [.fn (.func (276+k)) [] []]:=by
 match k,h with
 | 0,_=>rfl
 | 1,_=>rfl
 | 2,_=>rfl
theorem rec_fn (k:Nat)(h:k<3):Xq Tryz.prog (276+k)=true:=by
 match k,h with
 | 0,_=>exact (by kernel_rfl:Xq Tryz.prog 276=true)
 | 1,_=>exact (by kernel_rfl:Xq Tryz.prog 277=true)
 | 2,_=>exact (by kernel_rfl:Xq Tryz.prog 278=true)
theorem next_hit {s:Ag}{k:Nat}(h:k<3)(hk:∀j,j<k->Mv (recF j s)=false)(hc:Mv (recF k s)=true):Ca s=recF k s:=by
 unfold Ca
 match k,h with
 | 0,_=>rw [if_pos (show Mv (Kx s)=true from hc)];rfl
 | 1,_=>rw [if_neg (rA.mp (show Mv (Kx s)=false from hk 0 (by omega))),if_pos (show Mv (F4 s)=true from hc)];rfl
 | 2,_=>rw [if_neg (rA.mp (show Mv (Kx s)=false from hk 0 (by omega))),if_neg (rA.mp (show Mv (F4 s)=false from hk 1 (by omega))),if_pos (show Mv (Lq s)=true from hc)];rfl
theorem next_none {s:Ag}(hk:∀j,j<3->Mv (recF j s)=false):Ca s=Wf s:=by
 unfold Ca;rw [if_neg (rA.mp (show Mv (Kx s)=false from hk 0 (by omega))),if_neg (rA.mp (show Mv (F4 s)=false from hk 1 (by omega))),if_neg (rA.mp (show Mv (Lq s)=false from hk 2 (by omega)))]
theorem c56 (s:Ag)(hl:s.length<=1048576)(h0:0<s.length):An Tryz.prog 278 [.str s] (.agg (cFo (Lq s))):=by
 refine Fb 71 Tryz.func278 rfl fun H=>?_
 refine Aa (D5 ghy fun b2=>Ax (B5 (Qp H7 ?_)));refine Qp (C4 tok rfl rfl rfl rfl (by omega) (Jl (i:=0) h0)) ?_;refine Qp Cb (Bh (fun hc1=>Aa (Qp (Fj Nm) ?_)) fun hc1=>B2 (Aa (Qp Sa ?_)))
 .
  refine By 0 Nm (_::_) (Rc ?_);refine Yx [.agg Nm] (Zb 0) S1 ?_;simp only [Ah,Lq];rw [if_pos hc1];rfl
 refine AOL.ghost (GS.row (t:=3) 5 1 rfl) ?_;refine Ax (B5 (Qp Aq (Ax (AW.block ?_))));refine AW.Aad (fun (p:Nat×Nat×Ag×List (List AV)×Value)=>(⟨[(0,.str s),(2,.val (.pointer (some ⟨b2,0,none⟩))),(3,.row p.2.2.2.2 1 p.2.2.2.1),(4,.int .i64 (p.2.1:Int))],.row p.2.2.2.2 p.2.2.2.1.length 5 1 :: .box b2 256 ghy::H,71⟩:St)) (fun p=>p.2.1<=s.length/\s.length<p.1+p.2.1/\p.2.2.2.1=Dr p.2.2.1/\p.2.2.1.length<=p.2.1/\Hr s (s.length+1) 1 []=Hr s p.1 p.2.1 p.2.2.1) (fun p=>p.1) ((s.length+1,1,[],[],.slice none 0 0)) ?_ C2 ?_
 . exact ⟨h0,by simp only;omega,rfl,A9 _,rfl⟩
 rintro p hR;have hle:p.2.1<=s.length:=hR.1;have hfu:s.length<p.1+p.2.1:=hR.2.1;have hes:p.2.2.2.1=Dr p.2.2.1:=hR.2.2.1;have hbl:p.2.2.1.length<=p.2.1:=hR.2.2.2.1;have hn:0<p.1:=by omega
 have hsc:∀c∈p.2.2.2.1,A0 c=true:=by rw [hes];exact vS _
 have hel:p.2.2.2.1.length<=s.length:=by rw [hes,Se];omega
 refine B5 (Qp Ap (Qp H7 (Qp (Du tok rfl rfl rfl rfl) (Qp Cn (Bh (fun hc2=>?_) fun hc2=>AW.exit ?_)))))
 .
  have hi:p.2.1<s.length:=by simp at hc2;omega
  have hel2:=xS (s.drop p.2.1);rw [Ej] at hel2;refine B2 (AW.block (Aa (Qp H7 (Qp Ap ?_))));refine Qp (C4 tok rfl rfl rfl rfl (by omega) (Jl (i:=p.2.1) hi)) ?_;refine Qp (Ba (v:=.int .u8 _) rfl) (Ax (AW.block (Aa (Qp (A1 (v:=.int .u8 _) rfl) (Qp Bl (Qp Bc (Bh (fun hc3=>B5 (Qp (A1 (v:=.row _ _ _) rfl) ?_)) fun hc3=>?_)))))))
  .
   refine Qp (G6 (n:=p.2.2.1.length) tok rfl rfl rfl (by rw [hes,Se])) ?_;refine Qp Gx (Bh (fun hc4=>Aa (Qp (Fj Nm) ?_)) fun hc4=>B2 (Aa (Qp (A1 (v:=.row _ _ _) rfl) ?_)))
   .
    refine By 1 Nm (_::_::_) (Rc (Dz (Dz (A7 (Dz (A7 ?_))))));refine Yx [.agg Nm] (Zb 1) S2 ?_
    have h9:Lq s=Nw 0 13:=by
     unfold Lq;rw [iN hc1,hR.2.2.2.2,Pp hn,if_pos hc2,if_pos hc3,if_pos hc4]
    rw [h9];rfl
   refine Qp (gV (s:=p.2.2.1) tok rfl rfl rfl rfl rfl rfl rfl (by simp [maxLen];omega) (as_row hes)) ?_;refine Qp (Fj tD) (Qp Ap (Qp Gw (Qp (Fj Nm) ?_)));refine By 1 Nm (_::_::_) (Rb (Dz (Dz (A7 (Dz (A7 ?_))))));refine Yx [.agg Nm] (Zb 1) S2 ?_
   have h9:Lq s=Y4 2 p.2.2.1 ((p.2.1:Int)+1):=by
    unfold Lq;rw [iN hc1,hR.2.2.2.2,Pp hn,if_pos hc2,if_pos hc3,iN hc4]
   rw [h9];rfl
  refine Aa (Qp (A1 (v:=.int .u8 _) rfl) (Qp Bl (Qp Bc (Bh (fun hc5=>Aa (Qp H7 (Qp Ap (Qp (Lg (l:=p.2.1) (h:=s.length) tok rfl rfl rfl (⟨_,rfl⟩) (rfl) (hle) (Br _) (congrArg (List.drop _) Qm)) ?_)))) fun hc5=>Aa (Qp (A1 (v:=.int .u8 _) rfl) (Qp Cn (Qp Cc (Qg [] Qw (A1 (v:=.int .u8 _) rfl) (Qg [(63,_)] Qw Gx (Qp E5 (Qp Bc (Bh (fun hc7=>Aa (Qp Ap (Qp (Fj Nm) ?_))) fun hc7=>Aa (Qp (A1 (v:=.row _ _ _) rfl) (Qp (A1 (v:=.int .u8 _) rfl) (Qp (Jh ([[.int .u8 _]]) rfl) ?_)))))))))))))))
  .
   refine Qp (Qc rfl (c70 (s.drop p.2.1) (by rw [Ej];omega))) ?_;refine Qp Oz (Qp (Ch (v:=.int .u8 _) rfl rfl) (Qp Lv (Qp (Ba (v:=.int .u8 _) rfl) (Qp Aq (Ax (B5 (Qp Ap (Qp Bl (Bh (fun hc6=>Aa (Qp Ap (Qp (Fj Nm) ?_))) fun hc6=>?_)))))))))
   .
    refine By 1 Nm (_::_::_) (Rc (Dz (Dz (A7 (Dz (A7 ?_))))));refine Yx [.agg Nm] (Zb 1) S2 ?_
    have h9:Lq s=Nw p.2.1 4:=by
     unfold Lq;rw [iN hc1,hR.2.2.2.2,Pp hn,if_pos hc2,iN hc3,if_pos hc5,if_pos hc6]
    rw [h9];rfl
   have hne:(Kw (s.drop p.2.1)).2≠0:=by simpa using hc6
   refine B2 (Aa (Qp (A1 (v:=.row _ _ _) rfl) (Qp (A1 (v:=.int .u8 _) rfl) (Qp (Jh ([[.int .u8 _]]) rfl) ?_))));refine Qe (W0 0 rfl (Et rfl) (hsc) (by simp;omega) (by simp [maxLen];omega)) ?_;rintro _ _ ⟨v55,rfl,rfl⟩;refine Qp (Ba (v:=.row _ _ _) rfl) (Ax (AW.region (Qp Ap (Qp Ap (Qp Gw (Qp Aq (AOL.nil (J1 (J1 (Av ?_))))))))));refine ⟨(p.1-1,p.2.1+(Kw (s.drop p.2.1)).2.toNat,p.2.2.1 ++ [(Kw (s.drop p.2.1)).1],p.2.2.2.1 ++ [[.int .u8 ((Kw (s.drop p.2.1)).1.toNat:Int)]],v55),?_,?_,GS.weaken ⟨rfl,rfl,rfl,congrArg (AV.int .i64) (by simp only;omega),trivial⟩ (.refl _)⟩
   . exact ⟨by simp only;omega,by simp only;omega,vM hes _,tT hbl (by simp only;omega) _,hR.2.2.2.2.trans (by rw [Pp hn,if_pos hc2,iN hc3,if_pos hc5,iN hc6])⟩
   simp only;omega
  .
   refine By 1 Nm (_::_::_) (Rb (Dz (Dz (A7 (Dz (A7 ?_))))));refine Yx [.agg Nm] (Zb 1) S2 ?_
   have h9:Lq s=Nw p.2.1 4:=by
    unfold Lq;rw [iN hc1,hR.2.2.2.2,Pp hn,if_pos hc2,iN hc3,iN hc5,if_pos hc7]
   rw [h9];rfl
  refine Qe (W0 0 rfl (Et rfl) (hsc) (by simp;omega) (by simp [maxLen];omega)) ?_;rintro _ _ ⟨v22,rfl,rfl⟩;refine Qp (Ba (v:=.row _ _ _) rfl) (Ax (AW.region (Qp Ap (Qp Gw (Qp Aq (AOL.nil (J1 (J1 (Av ?_)))))))));refine ⟨(p.1-1,p.2.1+1,p.2.2.1 ++ [bt s p.2.1],p.2.2.2.1 ++ [[.int .u8 ((bt s p.2.1).toNat:Int)]],v22),?_,?_,C2⟩
  . exact ⟨by simp only;omega,by simp only;omega,vM hes _,tT hbl (by simp only;omega) _,hR.2.2.2.2.trans (by rw [Pp hn,if_pos hc2,iN hc3,iN hc5,iN hc7])⟩
  simp only;omega
 refine B1 (Ri (Aa (Qp H7 ?_)));refine Qp (Du tok rfl rfl rfl rfl) (Qp (Fj Nm) ?_);refine By 1 Nm (_::_::_) (Rb ?_);refine Yx [.agg Nm] (Zb 1) S2 ?_
 have h9:Lq s=Nw s.length 4:=by
  unfold Lq;rw [iN hc1,hR.2.2.2.2,Pp hn,iN hc2]
 rw [h9];rfl
theorem rec_call (s:Ag)(hl:s.length<=1048576)(h0:0<s.length)(k:Nat)(h:k<3):An Tryz.prog (276+k) [.str s] (.agg (cFo (recF k s))):=by
 match k,h with
 | 0,_=>exact c54 s hl h0
 | 1,_=>exact c55 s hl h0
 | 2,_=>exact c56 s hl h0
theorem c33 (s:Ag)(hl:s.length<=1048576)(h0:0<s.length):An Tryz.prog 222 [.str s] (.agg (cFo (Ca s))):=by
 refine Fb 27 Tryz.func222 rfl fun H=>?_
 refine Aa (D5 ghy fun b2=>Ax (B5 (Qp (Jh ([[_],[_],[_]]) rfl) (Qp (rP tok rfl rfl rfl rfl) (Qp Ap (Ax (AW.block ?_)))))));refine AW.Aad (fun (k:Nat)=>(⟨[(0,.str s),(2,.val (.pointer (some ⟨b2,0,none⟩))),(6,.sl 1 recL),(7,.int .i64 3),(8,.int .i64 (k:Int))],.box b2 256 ghy::H,27⟩:St)) (fun k=>k<=3/\∀j,j<k->Mv (recF j s)=false) (fun k=>3-k) (0) ?_ C2 ?_
 . exact ⟨A9 _,fun j hj=>absurd hj (Nat.not_lt_zero _)⟩
 rintro k hR;refine Aa (Qp Cn (Re (Hb (fun hc1=>?_) fun hc1=>?_)))
 .
  have hk:k<3:=by simp at hc1;omega
  refine B2 (AW.seq (AW.block (Aa ?_)));refine Qp (Eh ([.fn (.func (276+k)) [] []]) rfl rfl (by omega) (rec_get k hk)) ?_;refine Qp (F0 (c:=.fn _ _ _) tok rfl rfl rfl) (Qp (Ba (v:=.fn _ _ _) rfl) (B7 (Qp (A1 (v:=.fn _ _ _) rfl) (Qp H7 (Qp (R0 (rec_fn k hk) rfl rfl rfl (rec_call s hl h0 k hk)) (D5 ghy fun b5=>?_))))));refine By 0 Nm (_::_::_) ?_;refine Kc 5 0 rfl ?_;refine B7 (Qp (Qf [Iq _,Iq _,Iq _]) (Qp B6 (Qp Gx (Qp Cc (Qg [] Qw (Qf [Iq _]) (Qg [(19,_)] Qw B6 (Qg [(20,_)] Qw Cb (Qp E5 (Bh (fun hc2=>Aa (Qp (Cm Nm) ?_)) fun hc2=>Rf (AW.region (Qp Gw (Qp Ap (Ax ?_)))))))))))))
  .
   refine By 0 Nm (_::_) (Ra (A7 (Dz (A7 ?_))));refine Yx [.agg Nm] (Zb 0) S1 ?_;rw [next_hit hk hR.2 hc2];rfl
  refine ⟨k+1,?_,?_,C2⟩
  . exact ⟨hk,fun j hj=>by rcases bK.1 hj with h | rfl;exact hR.2 j h;exact hc2⟩
  omega
 have hk:k=3:=by simp at hc1;have:=hR.1;omega
 refine AW.exit ?_;refine B1 (Ri (Aa (Qp H7 ?_)));refine Qp (Qc rfl (c57 s)) ?_;refine By 0 Nm (_::_) (Rb ?_);refine Yx [.agg Nm] (Zb 0) S1 ?_;have h9:Ca s=Wf s:=by subst hk;exact next_none hR.2
 rw [h9];rfl
theorem qM (t:Ag):0<=Kl t/\(0<t.length->Kl t<=t.length):=by
 unfold Kl;have:=Ng lineS t;split
 . omega
 split <;> omega
theorem sign_le (t:Ag):∀l:List Ag,(∀x∈l,0<x.length)->(Ia t l).err=4/\(Ia t l).pos=0/\(Ia t l).bytes=0\/(Ia t l).err=0/\(Ia t l).pos=0/\0<(Ia t l).bytes/\(Ia t l).bytes<=t.length
  | [],_=>.inl ⟨rfl,rfl,rfl⟩
  | x::r,h=>by
    unfold Ia;split
    . rename_i hp
      right;have hpre:x.isPrefixOf t=true:=hp;have:=(List.isPrefixOf_iff_prefix.1 hpre).length_le;have h2:=h x (by simp);exact ⟨rfl,rfl,by show (0:Int)<(x.length:Int);omega,by show (x.length:Int)<=_;omega⟩
    exact sign_le t r fun y hy=>h y (by simp [hy])
theorem jN (s:Ag):∀(n i:Nat) (b:Ag),i<=s.length->0<=(Hr s n i b).pos/\(Hr s n i b).pos<=s.length/\0<=(Hr s n i b).bytes/\(Hr s n i b).bytes<=s.length
  | 0,i,b,_=>by simp [Hr,Nw]
  | n+1,i,b,hi=>by
    unfold Hr;split
    . rename_i h;simp at h
      split
      . split
        . simp [Nw]
        simp [Y4];omega
      . split
        . split
          . simp [Nw];omega
          . rename_i h3
            have he:=xS (s.drop i);rw [Ej] at he;exact jN s n _ _ (by omega)
        . split
          . simp [Nw];omega
          exact jN s n _ _ (by omega)
    simp [Nw]
theorem gK (t:Ag)(h0:0<t.length):0<=(Ca t).pos/\(Ca t).pos<=t.length/\0<=(Ca t).bytes/\(Ca t).bytes<=t.length/\((Ca t).err=0->0<(Ca t).bytes):=by
 have hit:∀f:Fo,Mv f=true->(f.err=0->0<f.bytes):=fun f h e=>by
  unfold Mv at h;rw [e] at h;simpa using h
 unfold Ca;split
 .
  rename_i h;have:=Ng G5 t;refine ⟨?_,?_,?_,?_,hit _ h⟩ <;> (unfold Kx;split <;> (try split) <;> simp [xW,Nw,Y4,Wj] <;> omega)
 split
 .
  rename_i h;have:=Ng Bn t;refine ⟨?_,?_,?_,?_,hit _ h⟩ <;> (unfold F4;split <;> (try split) <;> (try split) <;> simp [xW,Nw,Y4,Wj] <;> omega)
 split
 .
  rename_i h
  have hl:0<=(Lq t).pos/\(Lq t).pos<=t.length/\0<=(Lq t).bytes/\(Lq t).bytes<=t.length:=by
   unfold Lq;split
   . simp [xW]
   exact jN t _ _ _ (by omega)
  exact ⟨hl.1,hl.2.1,hl.2.2.1,hl.2.2.2,hit _ h⟩
 rcases sign_le t nT (by decide) with h | h
 . unfold Wf;rw [h.1,h.2.1,h.2.2];simp
 unfold Wf;rw [h.1,h.2.1];omega
theorem X2 {s:Ag}{n i:Nat}{out:List Tok}(h:0<n):J8 s n i out =
  if decide ((i:Int)<(s.length:Int)) then
   if decide (0<Kl (s.drop i)) then J8 s (n-1) (i+(Kl (s.drop i)).toNat) out
   else if ((Ca (s.drop i)).err != 0) then (([],(i:Int)+(Ca (s.drop i)).pos,(Ca (s.drop i)).err):List Tok×Int×Int)
   else J8 s (n-1) (i+(Ca (s.drop i)).bytes.toNat) (out ++ [⟨(Ca (s.drop i)).tok.kind,(Ca (s.drop i)).tok.text,i⟩])
  else (out,0,0):=by
 cases n with
 | zero=>omega
 | succ n=>rfl
theorem tok_next {es:List (List AV)}{out:List Tok}(h:es=out.map tY)(t:Tok):es ++ [[AV.int .i64 t.kind,.str t.text,.int .i64 t.pos]]=(out ++ [t]).map tY:=by rw [h,Dt];rfl
theorem sc_tok (l:List Tok):∀x∈l.map tY,A0 x=true:=zK fun _=>rfl
def cScan (p:List Tok×Int×Int):AV:=.tuple [.sl 3 (p.1.map tY),.int .i64 p.2.1,.int .i64 p.2.2]
theorem c13 (s:Ag)(hl:s.length<=1048576):An Tryz.prog 154 [.str s] (cScan (Dx s)):=by
 refine Fb 51 Tryz.func154 rfl fun H=>?_
 refine Aa ?_;refine Qp (B8 (z:=3) rfl) ?_;refine Qp Aq (Qp Aq (Ax (B5 (Qp H7 ?_))));refine Qp (Du tok rfl rfl rfl rfl) ?_;refine Qp Gx (Bh (fun hc1=>?_) fun hc1=>?_)
 .
  refine Aa ?_;refine Qp (B8 (z:=3) rfl) ?_;refine Qp Aq (Qp Aq (Rc ?_));refine Yx [.sl _ _,Iq _,Iq _] Zg S0 ?_;have h9:Dx s=([],0,13):=by unfold Dx;rw [if_pos hc1]
  rw [h9];rfl
 refine B2 (Aa (Qp Sa ?_));refine AOL.ghost (GS.row (t:=5) 254 3 rfl) ?_;refine Ax (B5 (Qp Aq (Ax (AW.block ?_))));refine AW.Aad (fun (p:Nat×Nat×List Tok×List (List AV)×Value)=>(⟨[(0,.str s),(5,.row p.2.2.2.2 3 p.2.2.2.1),(6,.int .i64 (p.2.1:Int))],.row p.2.2.2.2 p.2.2.2.1.length 254 3::H,51⟩:St)) (fun p=>p.2.1<=s.length/\s.length<p.1+p.2.1/\p.2.2.2.1=p.2.2.1.map tY/\p.2.2.1.length<=p.2.1/\J8 s (s.length+1) 0 []=J8 s p.1 p.2.1 p.2.2.1) (fun p=>p.1) ((s.length+1,0,[],[],.slice none 0 0)) ?_ C2 ?_
 . exact ⟨A9 _,by simp only;omega,rfl,A9 _,rfl⟩
 rintro p hR;have hle:p.2.1<=s.length:=hR.1;have hfu:s.length<p.1+p.2.1:=hR.2.1;have hes:p.2.2.2.1=p.2.2.1.map tY:=hR.2.2.1;have hbl:p.2.2.1.length<=p.2.1:=hR.2.2.2.1;have hn:0<p.1:=by omega
 have hsc:∀c∈p.2.2.2.1,A0 c=true:=by rw [hes];exact sc_tok _
 have hel:p.2.2.2.1.length<=s.length:=by rw [hes,Bt];omega
 refine B5 (Qp Ap (Qp H7 ?_));refine Qp (Du tok rfl rfl rfl rfl) ?_;refine Qp Cn (Bh (fun hc2=>?_) fun hc2=>?_)
 .
  have hi:p.2.1<s.length:=by simp at hc2;omega
  have hsp:=qM (s.drop p.2.1);have hnx:=gK (s.drop p.2.1) (by rw [Ej];omega);rw [Ej] at hsp hnx;have hsp1:=hsp.1;have hsp2:=hsp.2 (by omega);have hn1:=hnx.1;have hn2:=hnx.2.1;have hn3:=hnx.2.2.1;have hn4:=hnx.2.2.2.1;refine B2 (AW.block (B5 (Qp H7 (Qp Ap ?_))));refine Qp (Lg (l:=p.2.1) (h:=s.length) tok rfl rfl rfl (⟨_,rfl⟩) (rfl) (hle) (Br _) (congrArg (List.drop _) Qm)) ?_;refine Qp (Qc rfl (c32 (s.drop p.2.1) (by rw [Ej];omega) (by rw [Ej];omega))) ?_;refine Qp Aq (B7 (Qp Ap (Qp Gx (Bh (fun hc3=>?_) fun hc3=>?_))))
  .
   have hpos:0<(Kl (s.drop p.2.1)):=by simpa using hc3
   refine Aa (Qp Ap (Qp Ap (Qp Gw (Qp Aq (Ax ?_)))));refine AW.exit ?_;refine Ri ?_;refine ⟨(p.1-1,p.2.1+(Kl (s.drop p.2.1)).toNat,p.2.2.1,p.2.2.2.1,p.2.2.2.2),?_,?_,GS.weaken ⟨rfl,rfl,congrArg (AV.int .i64) (by simp only;omega),trivial⟩ (.refl _)⟩
   . exact ⟨by simp only;omega,by simp only;omega,hes,by simp only;omega,hR.2.2.2.2.trans (by rw [X2 hn,if_pos hc2,if_pos hc3])⟩
   simp only;omega
  refine B2 (Aa (Qp H7 (Qp Ap ?_)));refine Qp (Lg (l:=p.2.1) (h:=s.length) tok rfl rfl rfl (⟨_,rfl⟩) (rfl) (hle) (Br _) (congrArg (List.drop _) Qm)) ?_;refine Qp (Qc rfl (c33 (s.drop p.2.1) (by rw [Ej];omega) (by rw [Ej];omega))) ?_;refine D5 ghy fun b8=>?_
  refine By 0 Nm (_::_::_) ?_;refine Ax (B5 (Qp Cw ?_));refine Sw 0 (Iq _) rfl ?_;refine Qp Cb (Bh (fun hc4=>?_) fun hc4=>?_)
  .
   refine AW.seq ?_;refine Rm 0 rfl ?_;refine Qn 0 rfl Ap (Qn 1 rfl Cw ?_);refine Qn 2 rfl (Lw (Iq _) rfl) ?_;refine Qn 3 rfl Gw (Qn 4 rfl Cw ?_);refine Qn 5 rfl (Lw (Iq _) rfl) ?_;refine Qn 6 rfl (B8 (z:=3) rfl) ?_;refine Qn 7 rfl Aq (Qn 8 rfl Aq ?_);refine Ig ?_;refine Av (lW (Dz (A7 (Dz (A7 ?_)))));refine Yx [.sl _ _,Iq _,Iq _] Zg S2 ?_
   have h9:Dx s=([],(p.2.1:Int)+(Ca (s.drop p.2.1)).pos,(Ca (s.drop p.2.1)).err):=by
    unfold Dx;rw [iN hc1,hR.2.2.2.2,X2 hn,if_pos hc2,iN hc3,if_pos hc4]
   rw [h9];rfl
  have hpos:=hnx.2.2.2.2 (by simpa using hc4);refine B2 (Aa (Qp Ap (Qp Cw (Qp Cw ?_))));refine By 0 Nm (_::_::_) ?_;refine B7 ?_;refine Qp (A1 (v:=.row _ _ _) rfl) ?_;refine Qp Cw ?_;refine Sb 0 tD rfl ?_;refine Qp (Jh [tD] rfl) ?_;refine Qe (W0 1 rfl (Et rfl) (hsc) (by simp;omega) (by simp [maxLen];omega)) ?_;rintro _ _ ⟨v45,rfl,rfl⟩;refine Qp (Ba (v:=.row _ _ _) rfl) ?_;refine Ax (AW.region (Qp Ap (Qp Cw ?_)));refine Sw 0 (Iq _) rfl ?_;refine Qp Gw (Qp Aq (Rk ?_));refine ⟨(p.1-1,p.2.1+(Ca (s.drop p.2.1)).bytes.toNat,p.2.2.1 ++ [⟨(Ca (s.drop p.2.1)).tok.kind,(Ca (s.drop p.2.1)).tok.text,p.2.1⟩],p.2.2.2.1 ++ [[.int .i64 (Ca (s.drop p.2.1)).tok.kind,.str (Ca (s.drop p.2.1)).tok.text,.int .i64 (p.2.1:Int)]],v45),?_,?_,GS.weaken ⟨rfl,rfl,congrArg (AV.int .i64) (by simp only;omega),trivial⟩ (.cons _ (.refl _))⟩
  . exact ⟨by simp only;omega,by simp only;omega,tok_next hes ⟨(Ca (s.drop p.2.1)).tok.kind,(Ca (s.drop p.2.1)).tok.text,p.2.1⟩,by simp only [Au,Bb,Bp];omega,hR.2.2.2.2.trans (by rw [X2 hn,if_pos hc2,iN hc3,iN hc4])⟩
  simp only;omega
 refine AW.exit ?_;refine B1 (Ri (Aa ?_));refine AOL.ghost (GS.unrow 5 rfl) ?_;refine Qp K7 (Qp lK (Qp Aq (Qp Aq (Rb ?_))));refine Yx [.sl _ _,Iq _,Iq _] Zg S1 ?_
 have h9:Dx s=(p.2.2.1,0,0):=by
  unfold Dx;rw [iN hc1,hR.2.2.2.2,X2 hn,iN hc2]
 rw [h9];simp only [Ah,cScan,hes]
theorem vX {p:UInt8->Bool}{s:Ag}{k:Nat}(hk:k<s.length)(h:p (bt s k)=true):0<B4 p (s.drop k):=by rw [Tx hk,B4,if_pos h];omega
theorem xY {α:Type}{l:List α}{k:Nat}(h:k<l.length):∃x,l[k]? = some x:=⟨_,List.getElem?_eq_getElem h⟩
def okT (l:List Tok):Prop:=l.length<=1048576/\∀t∈l,t.text.length<=1048576
def Uw (st:PS):Prop:=okT st.toks
theorem at_get {st:PS}(h:st.pos<st.toks.length):st.toks[st.pos]? = some (rF st):=by
 simp [rF,Ez,List.getElem?_eq_getElem h]
theorem Z1 {st:PS}(h:st.pos<st.toks.length):(st.toks.map tY)[st.pos]? = some (cTok (rF st)):=by rw [List.getElem?_map,at_get h];rfl
theorem uM {st:PS}(h:Uw st)(hp:st.pos<st.toks.length):(rF st).text.length<=1048576:=h.2 _ (Aj (at_get hp))
theorem gL {st:PS}(h:endP st=false):st.pos<st.toks.length:=by
 unfold endP at h;rw [Eb,It] at h;omega
theorem Yf {w:Ag}{st:PS}(h:Ea w st=true):st.pos<st.toks.length:=by
 unfold Ea at h;cases he:endP st with
 | true=>rw [he] at h;cases h
 | false=>exact gL he
theorem nxt_lt {k:Int}{st:PS}(h:Ps k st=true):st.pos<st.toks.length:=by
 unfold Ps at h;cases he:endP st with
 | true=>rw [he] at h;cases h
 | false=>exact gL he
theorem acc_bad {w:Ag}{st:PS}(h:¬N0 [((st.bad==0),true)]):st=Pb w st:=by
 have hb:(st.bad==0)=false:=by
  cases hq:(st.bad==0) with
  | false=>rfl
  | true=>exact absurd (fun p hp=>by simp only [Ft] at hp;subst hp;exact hq) h
 have:Ea w st=false:=by
  unfold Ea endP;have:(st.bad != 0)=true:=by simp only [bne,hb];rfl
  rw [this];rfl
 unfold Pb;rw [this];rfl
theorem Ii {w:Ag}{st:PS}(h:Ea w st=false):Pb w st=st:=by unfold Pb;rw [h];rfl
theorem and_snd {a b:Bool}(h:(a&&b)=true):b=true:=by rw [Cd] at h;exact h.2
theorem txt_le {k:Int}{st:PS}(h:Uw st):(Ib k st).length<=1048576:=by
 unfold Ib;cases hn:Ps k st with
 | true=>exact uM h (nxt_lt hn)
 | false=>exact A9 _
theorem Qi (e:Int)(st:PS):(Hc e st).toks=st.toks:=by unfold Hc;split <;> rfl
theorem dJ (w:Ag)(st:PS):(Pb w st).toks=st.toks:=by unfold Pb;split <;> rfl
theorem dK (w:Ag)(st:PS):(Ce w st).toks=st.toks:=by unfold Ce;split;exact Qi _ _;exact dJ _ _
theorem dL (k:Int)(st:PS):(Ed k st).toks=st.toks:=by unfold Ed;split;rfl;exact Qi _ _
theorem Sh {a b:PS}(h:a.toks=b.toks):Uw a↔Uw b:=by unfold Uw;rw [h]
@[simp] theorem okS_adv (st : PS) : Uw (adv st) ↔ Uw st := Sh rfl
@[simp] theorem okS_deep (st : PS) : Uw (La st) ↔ Uw st := Sh rfl
@[simp] theorem okS_shallow (st : PS) : Uw (Km st) ↔ Uw st := Sh rfl
@[simp] theorem okS_failP (e : Int) (st : PS) : Uw (Hc e st) ↔ Uw st := Sh (Qi _ _)
@[simp] theorem okS_accP (w : Ag) (st : PS) : Uw (Pb w st) ↔ Uw st := Sh (dJ _ _)
@[simp] theorem okS_expP (w : Ag) (st : PS) : Uw (Ce w st) ↔ Uw st := Sh (dK _ _)
@[simp] theorem okS_tokP (k : Int) (st : PS) : Uw (Ed k st) ↔ Uw st := Sh (dL _ _)
theorem Ky (st:PS)(bp:Nat):Bk Tryz.prog 158 bp 223 (cP st) (cP (st)) [.val (.pointer (some ⟨bp,0,none⟩))] (.int .i64 (Fs st)):=by
 intro H;refine Jg 28 Tryz.func158 rfl ?_;refine Aa (Qp Aq (Re (AW.seq (Rm 0 rfl (Qn 0 rfl Bx (Qn 1 rfl (Ad rfl) (Qn 2 rfl Cw (Qn 3 rfl (Lw (Iq _) rfl) (Qn 4 rfl Bx (Qn 5 rfl (Ad rfl) (Qn 6 rfl Cw (Qn 7 rfl (Lw (.sl _ _) rfl) ?_))))))))))));refine Qn 8 rfl (E6 st.toks.length rfl rfl (by simp)) ?_;refine Qn 9 rfl Cn ?_;refine Ig ?_;refine Av (Hb (fun hc1=>?_) fun hc1=>?_)
 .
  try simp only [A4,Bd] at hc1
  have hlt:st.pos<st.toks.length:=by simpa using hc1
  refine AW.seq (Rm 0 rfl (Qn 0 rfl Bx (Qn 1 rfl (Ad rfl) (Qn 2 rfl Cw (Qn 3 rfl (Lw (.sl _ _) rfl) (Qn 4 rfl Bx (Qn 5 rfl (Ad rfl) (Qn 6 rfl Cw (Qn 7 rfl (Lw (Iq _) rfl) ?_)))))))));refine Qn 8 rfl (Eh tD rfl rfl (by omega) (Z1 hlt)) ?_;refine Qn 9 rfl (Qf [Iq _]) (Qn 10 rfl B6 (Qn 11 rfl Aq ?_));refine Ig ?_;refine Av (lW ?_);refine ⟨.inr rfl,[Iq _],Ze,_,S0,?_⟩;refine ⟨?_,congrArg (fun c=>HO.box bp 223 c::H) ?_⟩
  .
   try simp only [Ah,Fs,cSyn,Ao,A5,Bf,hc1,↓reduceIte,Ak,Bu,Bm]
   try rfl
  try simp only [cP,Fs,hc1,↓reduceIte,Ak,Bu,Bm]
  try rfl
 try simp only [A4,Bd] at hc1
 refine B2 (Aa (Qp Bx (Qp (Ad rfl) (Qp Cw (Sw 0 (Iq _) rfl (Qp Aq (Rb ?_)))))));refine ⟨.inr rfl,[Iq _],Ze,_,S0,?_⟩;refine ⟨?_,congrArg (fun c=>HO.box bp 223 c::H) ?_⟩
 .
  try simp only [Ah,Fs,cSyn,Ao,A5,Bf,hc1,↓reduceIte,Ak,Bu,Bm]
  try rfl
 try simp only [cP,Fs,hc1,↓reduceIte,Ak,Bu,Bm]
 try rfl
theorem yR (st:PS)(bp:Nat)(w:Ag)(hS:Uw st)(hw:w.length<=1048576):Bk Tryz.prog 156 bp 223 (cP st) (cP (st)) [.val (.pointer (some ⟨bp,0,none⟩)),.str w] (.bool (Ea w st)):=by
 intro H;refine Jg 51 Tryz.func156 rfl ?_;refine Aa (Qp Bc (Re (AW.seq ?_)));refine Rm 0 rfl ?_;refine Qn 0 rfl Bx ?_;refine Qn 1 rfl (Ad rfl) ?_;refine Qn 2 rfl Cw ?_;refine Qn 3 rfl (Lw (Iq _) rfl) ?_;refine Qn 4 rfl Cb (Qn 5 rfl Cc (Qo 6 rfl [] Qw Bx ?_));refine Qo 7 rfl [(12,_)] Qw (Ad rfl) ?_;refine Qo 8 rfl [(13,_)] Qw Cw ?_;refine Qo 9 rfl [(14,_)] Qw (Lw (Iq _) rfl) ?_;refine Qo 10 rfl [] Qw Bx ?_;refine Qo 11 rfl [(16,_)] Qw (Ad rfl) ?_;refine Qo 12 rfl [(17,_)] Qw Cw ?_;refine Qo 13 rfl [(18,_)] Qw (Lw (.sl _ _) rfl) ?_;refine Yo 14 rfl [(19,_)] Qw (fun hG=>E6 st.toks.length rfl rfl (by simp)) ?_;refine Qo 15 rfl [(15,_),(20,_)] Yw Kv ?_;refine Qn 16 rfl E5 ?_;refine Ig ?_;refine Av (Hb (fun hc1=>?_) fun hc1=>?_)
 .
  try simp only [A4,Bd] at hc1
  refine Aa (Qp Bc (Rc ?_));refine ⟨.inr rfl,[.bool _],Ze,_,S0,?_⟩;refine ⟨?_,congrArg (fun c=>HO.box bp 223 c::H) ?_⟩
  .
   try simp only [Ah,Ea,endP,cSyn,Ao,A5,Bf,hc1,↓reduceIte,Ak,Bu,Bm]
   try rfl
  try simp only [cP,Ea,endP,hc1,↓reduceIte,Ak,Bu,Bm]
  try rfl
 try simp only [A4,Bd] at hc1
 have hlt:=gL (st:=st) hc1;refine B2 (AW.seq ?_);refine Rm 0 rfl ?_;refine Qn 0 rfl Bx ?_;refine Qn 1 rfl (Ad rfl) ?_;refine Qn 2 rfl Cw ?_;refine Qn 3 rfl (Lw (.sl _ _) rfl) ?_;refine Qn 4 rfl Bx ?_;refine Qn 5 rfl (Ad rfl) ?_;refine Qn 6 rfl Cw ?_;refine Qn 7 rfl (Lw (Iq _) rfl) ?_;refine Qn 8 rfl (Eh tD rfl rfl (by omega) (Z1 hlt)) ?_;refine Qn 9 rfl (Cm tD) ?_;refine Xa 10 rfl (Ke (l:=[.int .i64 0,.str [],.int .i64 0]) (by kernel_rfl)) (by rintro _ _ ⟨b5,rfl,rfl⟩;simp) ?_;rintro _ _ ⟨b5,rfl,rfl⟩;refine fY 11 rfl (Kt 0 (.agg _) tD (_::_::_) rfl) ?_;rintro _ _ ⟨rfl,rfl⟩;refine Av ?_;refine AW.ghost (GS.freeze (t:=5) 0 rfl rfl) ?_;refine Aa (Qp (Qf Iv) (Qp Gr (Qp H7 ?_)));refine Qp (Gb rfl rfl) ?_;refine Qp Cc (Qg [] Qw (Qf tD) (Qg [(38,_)] Qw B6 (Qg [(39,_)] Qw Bl (Qg [(40,_)] Qw Cc (Qg [] Qw (Qf tD) (Qg [(42,_)] Qw B6 (Qg [(43,_)] Qw Bl (Qg [(44,_)] Qw Cc (Qg [] Qw H7 ?_)))))))));refine Qg [(46,_)] Qw (Qc rfl (c22 w hw)) ?_;refine Qg [(45,_),(47,_)] Qw Ju (Qg [(41,_),(48,_)] Qw E5 (Qp Ju (Qp Bc (Rb ?_))));refine ⟨.inr rfl,[.bool _],Ze,_,S0,?_⟩;refine ⟨?_,congrArg (fun c=>HO.box bp 223 c::H) ?_⟩
 .
  try simp only [Ah,Ea,endP,cSyn,Ao,A5,Bf,hc1,↓reduceIte,Ak,Bu,Bm]
  try rfl
 try simp only [cP,Ea,endP,hc1,↓reduceIte,Ak,Bu,Bm]
 try rfl
theorem E2 (st:PS)(bp:Nat)(w:Ag)(hS:Uw st)(hw:w.length<=1048576):Bk Tryz.prog 161 bp 223 (cP st) (cP (Pb w st)) [.val (.pointer (some ⟨bp,0,none⟩)),.str w] (.bool (Ea w st)):=by
 intro H;refine Jg 16 Tryz.func161 rfl ?_;refine Aa (Qp Bc (Ax (B5 (Qp Bx (Qp H7 ?_)))));refine AOL.Aag (Cu (k:=0) (by kernel_rfl) rfl rfl (yR _ _ _ (by simpa using hS) (by first | assumption | decide))) rfl rfl ?_;refine Qp Ix (Bh (fun hc1=>?_) fun hc1=>?_)
 .
  try simp only [A4,Bd] at hc1
  refine Aa (Qp Bc (Rc ?_));refine ⟨.inr rfl,[.bool _],Ze,_,S0,?_⟩;refine ⟨?_,congrArg (fun c=>HO.box bp 223 c::H) ?_⟩
  .
   try simp only [Ah,Pb,cSyn,Ao,A5,Bf,hc1,↓reduceIte,Ak,Bu,Bm]
   try rfl
  try simp only [cP,Pb,hc1,↓reduceIte,Ak,Bu,Bm]
  try rfl
 try simp only [A4,Bd] at hc1
 have hlt:=Yf (w:=w) (st:=st) hc1;have hml:=hS.1;refine B2 (Aa (Qp Bx (Qp (Ad rfl) (Qp Cw (Sw 0 (Iq _) rfl (Qp Gw (Qp (Ad rfl) (Qp Cw ?_))))))));refine By 0 giy (_::_) (B7 (Qp Bc (Rb ?_)));refine ⟨.inr rfl,[.bool _],Ze,_,S0,?_⟩;refine ⟨?_,congrArg (fun c=>HO.box bp 223 c::H) ?_⟩
 .
  try simp only [Ah,Pb,cSyn,Ao,A5,Bf,hc1,↓reduceIte,Ak,Bu,Bm]
  try rfl
 try simp only [cP,Pb,hc1,↓reduceIte,Ak,Bu,Bm]
 try rfl
theorem jZ (st:PS)(bp:Nat)(e:Int):Bk Tryz.prog 155 bp 223 (cP st) (cP (Hc e st)) [.val (.pointer (some ⟨bp,0,none⟩)),.int .i64 e] (.tuple []):=by
 intro H;refine Jg 18 Tryz.func155 rfl ?_;refine Aa (Qp Bx (Qp (Ad rfl) (Qp Cw (Sw 0 (Iq _) rfl (Qp Bl (Bh (fun hc1=>?_) fun hc1=>?_))))))
 .
  try simp only [A4,Bd] at hc1
  refine AW.region (Qp Bx (Qp Bx (Qp Ap (Qp Bx ?_))));refine AOL.Aag (Cu (k:=0) (by kernel_rfl) rfl rfl (Ky _ _)) rfl rfl ?_;refine Qp (Ad rfl) (Qp Cw ?_);refine By 0 giy (_::_) (Qp (Ad rfl) (Qp Cw ?_));refine By 0 giy (_::_) (AOL.nil ?_);refine ⟨.inl rfl,[],.nil,_,.refl _,?_⟩;refine ⟨?_,congrArg (fun c=>HO.box bp 223 c::H) ?_⟩
  .
   try simp only [Ah,Hc,cSyn,Ao,A5,Bf,hc1,↓reduceIte,Ak,Bu,Bm]
   try rfl
  try simp only [cP,Hc,hc1,↓reduceIte,Ak,Bu,Bm]
  try rfl
 try simp only [A4,Bd] at hc1
 refine AW.skip ?_;refine ⟨.inl rfl,[],.nil,_,.refl _,?_⟩;refine ⟨?_,congrArg (fun c=>HO.box bp 223 c::H) ?_⟩
 .
  try simp only [Ah,Hc,cSyn,Ao,A5,Bf,hc1,↓reduceIte,Ak,Bu,Bm]
  try rfl
 try simp only [cP,Hc,hc1,↓reduceIte,Ak,Bu,Bm]
 try rfl
theorem D0 (st:PS)(bp:Nat)(w:Ag)(hS:Uw st)(hw:w.length<=1048576):Bk Tryz.prog 159 bp 223 (cP st) (cP (Ce w st)) [.val (.pointer (some ⟨bp,0,none⟩)),.str w] (.tuple []):=by
 intro H;refine Jg 17 Tryz.func159 rfl ?_;refine Aa (Qp Bx (Qp (Ad rfl) (Qp Cw (Sw 0 (Iq _) rfl (Qp Bl (Qp Cc (Qg [] Qw Bx (Qg [] Qw H7 ?_))))))));refine AOL.ge _ [(10,_),(11,_)] rfl (gT.all ⟨Ent.self _ _,Ent.self _ _,trivial⟩) (fun hG=>Dq rfl ((E2 _ _ _ (by simpa using hS) (by first | assumption | decide)).at (k:=0) (H2:=_::_) rfl rfl)) (fun hG=>congrArg (fun s=>HO.box bp 223 (cP s)::H) (acc_bad hG)) rfl ?_;refine Qg [(12,_)] Qw Ix (Qp Ju (Bh (fun hc1=>?_) fun hc1=>?_))
 .
  try simp only [A4,Bd] at hc1
  refine AW.region (Qp Bx (wX ((jZ _ _ _).at (k:=0) (H2:=_::_) rfl rfl) (AOL.nil ?_)));refine ⟨.inl rfl,[],.nil,_,.refl _,?_⟩;refine ⟨?_,congrArg (fun c=>HO.box bp 223 c::H) ?_⟩
  .
   try simp only [Ah,Ce,cSyn,Ao,A5,Bf,hc1,↓reduceIte,Ak,Bu,Bm]
   try rfl
  try simp only [cP,Ce,Ii (by simpa using and_snd hc1),hc1,↓reduceIte,Ak,Bu,Bm]
  try rfl
 try simp only [A4,Bd] at hc1
 refine AW.skip ?_;refine ⟨.inl rfl,[],.nil,_,.refl _,?_⟩;refine ⟨?_,congrArg (fun c=>HO.box bp 223 c::H) ?_⟩
 .
  try simp only [Ah,Ce,cSyn,Ao,A5,Bf,hc1,↓reduceIte,Ak,Bu,Bm]
  try rfl
 try simp only [cP,Ce,hc1,↓reduceIte,Ak,Bu,Bm]
 try rfl
theorem yS (st:PS)(bp:Nat)(k:Int)(hS:Uw st):Bk Tryz.prog 280 bp 223 (cP st) (cP (st)) [.val (.pointer (some ⟨bp,0,none⟩)),.int .i64 k] (.bool (Ps k st)):=by
 intro H;refine Jg 47 Tryz.func280 rfl ?_;refine Aa (Qp Bc (Re (AW.seq ?_)));refine Rm 0 rfl ?_;refine Qn 0 rfl Bx ?_;refine Qn 1 rfl (Ad rfl) ?_;refine Qn 2 rfl Cw ?_;refine Qn 3 rfl (Lw (Iq _) rfl) ?_;refine Qn 4 rfl Cb (Qn 5 rfl Cc (Qo 6 rfl [] Qw Bx ?_));refine Qo 7 rfl [(12,_)] Qw (Ad rfl) ?_;refine Qo 8 rfl [(13,_)] Qw Cw ?_;refine Qo 9 rfl [(14,_)] Qw (Lw (Iq _) rfl) ?_;refine Qo 10 rfl [] Qw Bx ?_;refine Qo 11 rfl [(16,_)] Qw (Ad rfl) ?_;refine Qo 12 rfl [(17,_)] Qw Cw ?_;refine Qo 13 rfl [(18,_)] Qw (Lw (.sl _ _) rfl) ?_;refine Yo 14 rfl [(19,_)] Qw (fun hG=>E6 st.toks.length rfl rfl (by simp)) ?_;refine Qo 15 rfl [(15,_),(20,_)] Yw Kv ?_;refine Qn 16 rfl E5 ?_;refine Ig ?_;refine Av (Hb (fun hc1=>?_) fun hc1=>?_)
 .
  try simp only [A4,Bd] at hc1
  refine Aa (Qp Bc (Rc ?_));refine ⟨.inr rfl,[.bool _],Ze,_,S0,?_⟩;refine ⟨?_,congrArg (fun c=>HO.box bp 223 c::H) ?_⟩
  .
   try simp only [Ah,Ps,endP,cSyn,Ao,A5,Bf,hc1,↓reduceIte,Ak,Bu,Bm]
   try rfl
  try simp only [cP,Ps,endP,hc1,↓reduceIte,Ak,Bu,Bm]
  try rfl
 try simp only [A4,Bd] at hc1
 have hlt:=gL (st:=st) hc1;refine B2 (AW.seq ?_);refine Rm 0 rfl ?_;refine Qn 0 rfl Bx ?_;refine Qn 1 rfl (Ad rfl) ?_;refine Qn 2 rfl Cw ?_;refine Qn 3 rfl (Lw (.sl _ _) rfl) ?_;refine Qn 4 rfl Bx ?_;refine Qn 5 rfl (Ad rfl) ?_;refine Qn 6 rfl Cw ?_;refine Qn 7 rfl (Lw (Iq _) rfl) ?_;refine Qn 8 rfl (Eh tD rfl rfl (by omega) (Z1 hlt)) ?_;refine Qn 9 rfl (Cm tD) ?_;refine Xa 10 rfl (Ke (l:=[.int .i64 0,.str [],.int .i64 0]) (by kernel_rfl)) (by rintro _ _ ⟨b5,rfl,rfl⟩;simp) ?_;rintro _ _ ⟨b5,rfl,rfl⟩;refine fY 11 rfl (Kt 0 (.agg _) tD (_::_::_) rfl) ?_;rintro _ _ ⟨rfl,rfl⟩;refine Av ?_;refine AW.ghost (GS.freeze (t:=5) 0 rfl rfl) ?_;refine Aa (Qp (Qf tD) (Qp B6 (Qp Ap (Qp Bl (Qp Cc (Qg [] Qw Ap (Qg [(38,_)] Qw Cb (Qg [(39,_)] Qw Cc (Qg [] Qw (Qf Iv) ?_)))))))));refine Qg [(41,_)] Qw Gr ?_;refine Qg [(42,_)] Qw (Qc rfl (c22 (rF st).text (uM hS hlt))) ?_;refine Qg [(43,_)] Qw Ix (Qg [(40,_),(44,_)] Qw E5 (Qp Ju (Qp Bc (Rb ?_))));refine ⟨.inr rfl,[.bool _],Ze,_,S0,?_⟩;refine ⟨?_,congrArg (fun c=>HO.box bp 223 c::H) ?_⟩
 .
  try simp only [Ah,Ps,endP,cSyn,Ao,A5,Bf,hc1,↓reduceIte,Ak,Bu,Bm]
  try rfl
 try simp only [cP,Ps,endP,hc1,↓reduceIte,Ak,Bu,Bm]
 try rfl
theorem qC (st:PS)(bp:Nat)(k:Int)(hS:Uw st):Bk Tryz.prog 224 bp 223 (cP st) (cP (Ed k st)) [.val (.pointer (some ⟨bp,0,none⟩)),.int .i64 k] (.tuple [.str (Ib k st),.bool (Ps k st)]):=by
 intro H;refine Jg 31 Tryz.func224 rfl ?_;refine Aa (Qp Lu (Qp Bc (Ax (B5 (Qp Bx (Qp Ap ?_))))));refine AOL.Aag (Cu (k:=0) (by kernel_rfl) rfl rfl (yS _ _ _ (by simpa using hS))) rfl rfl ?_;refine Qp Ix (Bh (fun hc1=>?_) fun hc1=>?_)
 .
  try simp only [A4,Bd] at hc1
  refine Aa (Qp Bx (wX ((jZ _ _ _).at (k:=0) (H2:=_::_) rfl rfl) (B7 (Qp Lu (Qp Bc (Rc ?_))))));refine ⟨.inr rfl,[.str _,.bool _],Zf,_,S0,?_⟩;refine ⟨?_,congrArg (fun c=>HO.box bp 223 c::H) ?_⟩
  .
   try simp only [Ah,Ed,Ib,cSyn,Ao,A5,Bf,hc1,↓reduceIte,Ak,Bu,Bm]
   try rfl
  try simp only [cP,Ed,Ib,hc1,↓reduceIte,Ak,Bu,Bm]
  try rfl
 try simp only [A4,Bd] at hc1
 have hlt:=nxt_lt (k:=k) (st:=st) hc1;have hml:=hS.1;refine B2 (Aa (Qp Bx (Qp (Ad rfl) (Qp Cw (Sw 0 (Iq _) rfl (Qp Gw (Qp (Ad rfl) (Qp Cw ?_))))))));refine By 0 giy (_::_) (Re (Rm 0 rfl (Qn 0 rfl Bx (Qn 1 rfl (Ad rfl) (Qn 2 rfl Cw (Qn 3 rfl (Lw (.sl _ _) rfl) (Qn 4 rfl Bx (Qn 5 rfl (Ad rfl) (Qn 6 rfl Cw (Qn 7 rfl (Lw (Iq _) rfl) ?_))))))))));refine Qn 8 rfl (P_sub rfl rfl rfl (by constructor <;> omega)) ?_;refine Qn 9 rfl (Eh tD rfl rfl (by omega) (by rw [show ((st.pos:Int)+1-1).toNat=st.pos by omega];exact Z1 hlt)) ?_;refine Qn 10 rfl (Qf Iv) (Qn 11 rfl Gr (Qn 12 rfl Lu (Qn 13 rfl Bc ?_)));refine Ig ?_;refine Av (AW.ret ?_);refine ⟨.inr rfl,[.str _,.bool _],Zf,_,S0,?_⟩;refine ⟨?_,congrArg (fun c=>HO.box bp 223 c::H) ?_⟩
 .
  try simp only [Ah,Ed,Ib,cSyn,Ao,A5,Bf,hc1,↓reduceIte,Ak,Bu,Bm]
  try rfl
 try simp only [cP,Ed,Ib,hc1,↓reduceIte,Ak,Bu,Bm]
 try rfl
theorem Pu (st:PS)(bp:Nat)  (hS:Uw st):Bk Tryz.prog 160 bp 223 (cP st) (cP (Ed 0 st)) [.val (.pointer (some ⟨bp,0,none⟩))] (.str (Ib 0 st)):=by
 intro H;refine Jg 11 Tryz.func160 rfl ?_;refine Aa (Qp Lu (B7 (Qp Bx ?_)));refine Rt (Dq rfl ((qC _ _ _ (by simpa using hS)).at (k:=0) (H2:=_::_) rfl rfl)) ?_;refine Qp Oz (Qp xE (Qp lL (Qp Lu (Qp Bc (B7 (Qp H7 (Qp Lu (Rb ?_))))))));refine ⟨.inr rfl,[.str _],Ze,_,S0,?_⟩;refine ⟨?_,congrArg (fun c=>HO.box bp 223 c::H) ?_⟩
 .
  try simp only [Ah,cSyn,Ao,A5,Bf,↓reduceIte,Ak,Bu,Bm]
  try rfl
 try simp only [cP,↓reduceIte,Ak,Bu,Bm]
 try rfl
theorem kA (st:PS)(bp:Nat)  (hS:Uw st):Bk Tryz.prog 285 bp 223 (cP st) (cP (Ed 1 st)) [.val (.pointer (some ⟨bp,0,none⟩))] (.int .i64 (Tg st)):=by
 intro H;refine Jg 20 Tryz.func285 rfl ?_;refine Aa (Qp Aq (B7 (Qp Bx ?_)));refine Rt (Dq rfl ((qC _ _ _ (by simpa using hS)).at (k:=0) (H2:=_::_) rfl rfl)) ?_;refine Qp Oz (Qp xE (Qp lL (Qp Lu (Qp Bc (Ax (B5 (Qp Cc (Qp Ix (Bh (fun hc1=>?_) fun hc1=>?_)))))))))
 .
  try simp only [A4,Bd] at hc1
  refine Aa (Qp Aq (Rc ?_));refine ⟨.inr rfl,[Iq _],Ze,_,S0,?_⟩;refine ⟨?_,congrArg (fun c=>HO.box bp 223 c::H) ?_⟩
  .
   try simp only [Ah,Tg,Ib,cSyn,Ao,A5,Bf,hc1,↓reduceIte,Ak,Bu,Bm]
   try rfl
  try simp only [cP,Tg,Ib,hc1,↓reduceIte,Ak,Bu,Bm]
  try rfl
 try simp only [A4,Bd] at hc1
 refine B2 (Aa (Qp H7 (Qp (Qc rfl (c18 _ (txt_le hS))) (Qp Oz (Qp Lv (Qp Lv (Qp Aq (Qp Aq (B7 (Qp Ap (Qp Aq (Rb ?_))))))))))));refine ⟨.inr rfl,[Iq _],Ze,_,S0,?_⟩;refine ⟨?_,congrArg (fun c=>HO.box bp 223 c::H) ?_⟩
 .
  try simp only [Ah,Tg,Ib,cSyn,Ao,A5,Bf,hc1,↓reduceIte,Ak,Bu,Bm]
  try rfl
 try simp only [cP,Tg,Ib,hc1,↓reduceIte,Ak,Bu,Bm]
 try rfl
end Go.Proofs.YtckhoadldibflaaGreatDoor
