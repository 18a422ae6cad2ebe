/-
  Several texts in one: W4, W5, W6, W7, W8, W9. No condition.
-/
import Derived.Test.YtckhoadldibflaaGreatDoorK01
import Derived.Test.YtckhoadldibflaaGreatDoorK03
import Derived.KernelRfl
set_option linter.unusedVariables false
set_option linter.unusedSimpArgs false
namespace Go.Proofs.YtckhoadldibflaaGreatDoor
open Go Go.Aw
set_option maxHeartbeats 400000
set_option maxRecDepth 20000

theorem jJ {s:A1}(h:((s == [])||decide ((D5 Dz s:Int)<(s.length:Int)))=false):bM s=Mr s 0:=by unfold bM;rw [iN h]
theorem Rl:∀s:A1,(Ei s).length≤4*s.length
  | []=>C6 _
  | c::r=>by
    have:=Rl r;have h:(Mg c).length≤4:=by unfold Mg;split <;> (try split) <;> simp
    simp only [Ei,Cb,Cj];omega
theorem Of:∀s:A1,(D7 s).length≤4*s.length
  | []=>C6 _
  | c::r=>by
    have:=Of r;have h:(Ll c).length≤4:=by unfold Ll;split <;> (try split) <;> simp
    simp only [D7,Cb,Cj];omega
theorem Xl:∀a b:A1,Ei (a++b)=Ei a++Ei b
 | [],b=>rfl
 | c::r,b=>by simp [Ei,Xl r b]
theorem U2:∀a b:A1,D7 (a++b)=D7 a++D7 b
 | [],b=>rfl
 | c::r,b=>by simp [D7,U2 r b]
theorem rZ {s:A1}{k:Nat}(h:k<s.length):s.take (k+1)=s.take k ++ [bt s k]:=by rw [List.take_add_one,F3 h];rfl
theorem Te {s:A1}{k:Nat}{es:List (List AV)}{x:A1}(h:k<s.length)(he:es=Cd ([34]++Ei (s.take k)))(hx:Mg (bt s k)=x):es++Cd x=Cd ([34]++Ei (s.take (k+1))):=by
 rw [he,rZ h,Xl,←Ii];simp [Ei,hx]
theorem P4 {s:A1}{k:Nat}{es:List (List AV)}{x:A1}(h:k<s.length)(he:es=Cd ([34]++D7 (s.take k)))(hx:Ll (bt s k)=x):es++Cd x=Cd ([34]++D7 (s.take (k+1))):=by
 rw [he,rZ h,U2,←Ii];simp [D7,hx]
theorem nF {s:A1}{k:Nat}{es:List (List AV)}(hl:s.length≤64)(he:es=Cd ([34]++Ei (s.take k))):es.length≤257:=by
 have:=Rl (s.take k);rw [he,Ko];rw [Lk] at this;simp;omega
theorem lQ {s:A1}{k:Nat}{es:List (List AV)}(hl:s.length≤64)(he:es=Cd ([34]++D7 (s.take k))):es.length≤257:=by
 have:=Of (s.take k);rw [he,Ko];rw [Lk] at this;simp;omega
theorem nat8 (c:UInt8):c.toNat≤255:=by have:=c.toNat_lt;omega
theorem eR (c:UInt8):0≤IntKind.u8.wrap ((c.toNat:Int).tdiv 16)∧Sn[(IntKind.u8.wrap ((c.toNat:Int).tdiv 16)).toNat]? = some (bt Sn (c.toNat / 16)):=by
 have h:=nat8 c
 have e:IntKind.u8.wrap ((c.toNat:Int).tdiv 16)=((c.toNat / 16:Nat):Int):=by
  rw [IntWalk.u8_quo _ _ (by omega)];omega
 rw [e];refine ⟨by omega,?_⟩;rw [gK];exact F3 (by show c.toNat / 16<16;omega)
theorem eT (c:UInt8):0≤(c.toNat:Int).tmod 16∧Sn[((c.toNat:Int).tmod 16).toNat]? = some (bt Sn (c.toNat % 16)):=by
 have e:(c.toNat:Int).tmod 16=((c.toNat % 16:Nat):Int):=by
  rw [Int.tmod_eq_emod_of_nonneg (by omega)];omega
 rw [e];refine ⟨by omega,?_⟩;rw [gK];exact F3 (by show c.toNat % 16<16;omega)
theorem sL (n:Int):IntKind.u8.wrap n=((Z6 n).toNat:Int):=by
 have h:=Y3 n;unfold Z6;rw [UInt8.toNat_ofNat_of_lt' (by show _<256;omega)];omega
theorem rG:∀(s:A1) (c:UInt8),-1≤Lib.indexByte s c∧Lib.indexByte s c<s.length
  | [],c=>⟨by unfold Lib.indexByte;decide,by unfold Lib.indexByte;decide⟩
  | a::r,c=>by
    have:=rG r c;unfold Lib.indexByte;simp only [Cj,beq_iff_eq];split
    · omega
    split <;> omega
theorem pH (c:UInt8) : -1≤gO c∧gO c<16:=rG Sn c
theorem wE (a b:Int):∀c∈[[AV.int .u8 a],[AV.int .u8 b]],Bc c=true:=by simp [Bc,Z9]
theorem qS (a b c d:Int):∀x∈[[AV.int .u8 a],[AV.int .u8 b],[AV.int .u8 c],[AV.int .u8 d]],Bc x=true:=by simp [Bc,Z9]

theorem c18 (s:A1)(hl:s.length≤1048576):An Tryz.prog 303 [.str s] (.tuple [.int .i64 (bM s).1,.int .i64 (bM s).2]):=by
 refine An.body (n:=33) tok Tryz.func303 rfl rfl rfl fun H=>?_
 refine Ad (Qp Al (Qp Al (Ae (Rd (Qp D2 (Qp (A4 rfl rfl) (Qp A9 (Qg [] Qw D2 ?_))))))));refine Qg [(10,_)] Qw (Qc rfl (c38 s hl 141 Dz (by kernel_rfl) c39)) ?_;refine Qg [] Qw D2 (AOL.Aal (y:=Iq _) _ [(12,_)] rfl (uB.all ⟨Ent.Aak _ _,trivial⟩) (fun hG=>Bx tok rfl rfl rfl rfl) rfl ?_);refine AOL.Aal (y:=.bool _) _ [(11,_),(13,_)] rfl (uB.all ⟨Ent.Aak _ _,Ent.Aak _ _,trivial⟩) (fun hG=>P_lss rfl rfl) rfl ?_;refine Qp Cf (Ae (Ao (fun hc1=>Ad (Qp Al (Qp Al (Rc (M6 (Iq _) (Iq _) ?_))))) fun hc1=>?_))
 ·
  simp only [Ag,bM];rw [if_pos hc1]
  done
 have hn:=jJ hc1;refine A7 (Ad (Qp Al (Ae (Rd (Qp D2 (Qp (S5 tok rfl rfl rfl rfl rfl rfl rfl) ?_))))));refine Qp (Ai (n:=s.length) tok rfl rfl rfl (by simp)) ?_;refine Qp Am (Ae (AW.block ?_));refine AW.Aam (fun (p:Nat×Int)=>(⟨[(17,.sl 1 (Cd s)),(18,.int .i64 (s.length:Int)),(4,.int .i64 p.2),(19,.int .i64 (p.1:Int))],H,33⟩:St)) (fun p=>p.1≤s.length∧(0≤p.2∧p.2≤1099511627776)∧Mr s 0=Mr (s.drop p.1) p.2) (fun p=>s.length-p.1) ((0,0)) ?_ Bv ?_
 · exact ⟨Dh _,⟨by decide,by decide⟩,rfl⟩
 rintro p hR;have hb:=hR.2.1;have hdv:=dv_le (bt s p.1);refine Ad (Qp Bp (Re (Ao (fun hc2=>?_) fun hc2=>?_)))
 ·
  have hk:p.1<s.length:=by simp at hc2;omega
  refine A7 (AW.seq (AW.block (Ad ?_)));refine Qp (Aa (c:=[.int .u8 _]) tok rfl rfl rfl rfl rfl rfl (by omega) (nP (k:=p.1) hk)) ?_;refine Qp (Ek (c:=.int .u8 _) tok rfl rfl rfl) (Qp (A8 (v:=.int .u8 _) rfl) (Bs (Qp Am ?_)));refine Qp (P_mul rfl rfl rfl (by constructor <;> omega)) ?_;refine Qp (A0 (v:=.int .u8 _) rfl) (Qp (nY rfl rfl) (Qp (S2 (m:=uO (bt s p.1)) tok rfl rfl rfl rfl rfl (zP _)) (Qp Dl (Qp Al (Bs (Qp Am (Qp Do (Ae (Ao (fun hc3=>Ad (Qp Al (Qp Al (Ra (Av (B9 (Av (M6 (Iq _) (Iq _) ?_)))))))) fun hc3=>Rf (AW.region (Qp Dl (Qp Am (Ae ?_)))))))))))))
  · rw [hn,hR.2.2,oO hk hc3];rfl
  refine ⟨(p.1+1,10*p.2+uO (bt s p.1)),?_,?_,Bv⟩
  · exact ⟨hk,⟨by simp only;omega,by simp only [U8] at hc3;simp only;omega⟩,hR.2.2.trans (mM hk hc3)⟩
  simp only;omega
 have hk:s.length≤p.1:=by simp at hc2;omega
 refine AW.exit ?_;refine Bk (Ri (Ad (Qp Am (Qp Al (Qp Al (Rb ?_))))));refine M6 (Iq _) (Iq _) ?_;have h9:bM s=(p.2,0):=by rw [hn,hR.2.2,O7 hk];rfl
 rw [h9];rfl
theorem c20 (s:A1)(hl:s.length≤1048576):An Tryz.prog 84 [.str s] (.int .i64 (Yw s)):=by
 refine An.body (n:=22) tok Tryz.func84 rfl rfl rfl fun H=>?_
 refine Ad (Qp Al (Ae (Rd (Qp D2 (Qp (A4 rfl rfl) (Qp A9 (Qg [] Qw D2 (AOL.Aal (y:=Iq _) _ [(6,_)] rfl (uB.all ⟨Ent.Aak _ _,trivial⟩) (fun hG=>Bx tok rfl rfl rfl rfl) rfl ?_))))))));refine Qg [(7,_)] Qw Do (Qp Cf (Qp A9 (Qg [] Qw D2 ?_)));refine AOL.Aal (y:=.int .u8 _) _ [(11,_)] rfl (uB.all ⟨Ent.Aak _ _,trivial⟩) (fun hG=>Bq tok rfl rfl rfl rfl (by omega) (F3 (i:=0) (zW (g1 hG)))) rfl ?_;refine Qg [(12,_)] Qw (Qc rfl (c39 _)) (Qp Cf (Qp A9 (Qg [] Qw D2 (Qg [(16,_)] Qw (Qc rfl (c22 s hl)) (Qp Cf (Ae (Ao (fun hc1=>Ad (Qp Al (Rc (Qr (Iq _) ?_)))) fun hc1=>A7 (Rd (Qp D2 (Qp (S5 tok rfl rfl rfl rfl rfl rfl rfl) ?_))))))))))
 ·
  simp only [Ag,Yw];rw [if_pos hc1]
  done
 refine Qp (Qc rfl (c41 s hl 144 gC (by kernel_rfl) c42)) ?_;refine Ae (Ao (fun hc2=>Ad (Qp Al (Rc (Qr (Iq _) ?_)))) fun hc2=>A7 (Ad (Qp Al (Rb (Qr (Iq _) ?_)))))
 ·
  simp only [Ag,Yw];rw [iN hc1];rw [if_pos hc2]
  done
 simp only [Ag,Yw];rw [iN hc1];rw [iN hc2]
 done
theorem word0 (s:A1)(hl:s.length≤1048576):An Tryz.prog 134 [.str s,.int .i64 0] (.int .i64 (D5 Jr s:Int)):=by
 have h:=c45 s hl 0;have e:Y0 s 0=D5 Jr s:=by simp [Y0]
 rw [e] at h;exact h
theorem c21 (s:A1)(hl:s.length≤1048576):An Tryz.prog 75 [.str s] (.int .i64 (cZ s)):=by
 refine An.body (n:=27) tok Tryz.func75 rfl rfl rfl fun H=>?_
 refine Ad (Qp Al (Ae (Rd (Qp D2 (Qp (A4 rfl rfl) (Qp A9 (Qg [] Qw D2 (AOL.Aal (y:=Iq _) _ [(6,_)] rfl (uB.all ⟨Ent.Aak _ _,trivial⟩) (fun hG=>Bx tok rfl rfl rfl rfl) rfl ?_))))))));refine Qg [(7,_)] Qw Do (Qp Cf (Qp A9 (Qg [] Qw D2 ?_)));refine AOL.Aal (y:=.int .u8 _) _ [(11,_)] rfl (uB.all ⟨Ent.Aak _ _,trivial⟩) (fun hG=>Bq tok rfl rfl rfl rfl (by omega) (F3 (i:=0) (zW (g1 hG)))) rfl ?_;refine Qg [(12,_)] Qw (Qc rfl (c44 _)) (Qg [(13,_)] Qw Ew (Qp Cf (Qp A9 (Qg [] Qw D2 (Qg [(17,_)] Qw (Qc rfl (word0 s hl)) (Qg [] Qw D2 (AOL.Aal (y:=Iq _) _ [(19,_)] rfl (uB.all ⟨Ent.Aak _ _,trivial⟩) (fun hG=>Bx tok rfl rfl rfl rfl) rfl ?_)))))));refine AOL.Aal (y:=.bool _) _ [(18,_),(20,_)] rfl (uB.all ⟨Ent.Aak _ _,Ent.Aak _ _,trivial⟩) (fun hG=>Js rfl rfl) rfl ?_;refine Qp Cf (Qp A9 (Qg [] Qw D2 (Qg [(24,_)] Qw (Qc rfl (c23 s)) (Qp Cf (Ae (Ao (fun hc1=>Ad (Qp Al (Rc (Qr (Iq _) ?_)))) fun hc1=>A7 (Ad (Qp Al (Rb (Qr (Iq _) ?_))))))))))
 ·
  simp only [Ag,cZ];rw [if_pos hc1]
  done
 simp only [Ag,cZ];rw [iN hc1]
 done
theorem c24 (s:A1)(hl:s.length≤1048576):An Tryz.prog 272 [.str s] (.tuple [.str (Lz s).1,.int .i64 (Lz s).2]):=by
 refine An.body (n:=54) tok Tryz.func272 rfl rfl rfl fun H=>?_
 refine Ad (Qp D1 (Qp Al (Ae (Rd (Qp D2 (Qp (Bx tok rfl rfl rfl rfl) (Qp Do (Ae (Ao (fun hc1=>Ad (Qp D1 (Qp Al (Rc (M6 (.str _) (Iq _) ?_))))) fun hc1=>A7 (Ad (Qe (F7 (es:=[[.int .u8 _]]) tok rfl rfl rfl rfl rfl rfl rfl rfl rfl) ?_)))))))))))
 ·
  simp only [Ag,Lz];rw [if_pos hc1]
  done
 rintro _ _ ⟨v10,rfl,rfl⟩;refine Qp (A8 (v:=.row _ _ _) rfl) (Ae (Rd (Qp D2 (Qp (S5 tok rfl rfl rfl rfl rfl rfl rfl) ?_))));refine Qp (Ai (n:=s.length) tok rfl rfl rfl (by simp)) ?_;refine Qp Am (Ae (AW.block ?_));refine AW.Aam (fun (p:Nat×List (List AV)×Value)=>(⟨[(4,.row p.2.2 1 p.2.1),(12,.sl 1 (Cd s)),(13,.int .i64 (s.length:Int)),(14,.int .i64 (p.1:Int))],.row p.2.2 p.2.1.length 5 1::H,54⟩:St)) (fun p=>p.1≤s.length∧p.2.1=Cd ([34]++Ei (s.take p.1))) (fun p=>s.length-p.1) ((0,_,v10)) ?_ Bv ?_
 · exact ⟨Dh _,rfl⟩
 rintro p hR;have hroom:=nF (by simp at hc1;omega) hR.2;have hsc:∀c∈p.2.1,Bc c=true:=by rw [hR.2];exact Zv _
 refine Ad (Qp Bp (Re (Ao (fun hc2=>?_) fun hc2=>?_)))
 ·
  have hk:p.1<s.length:=by simp at hc2;omega
  refine A7 (AW.seq (AW.block (Ad ?_)));refine Qp (Aa (c:=[.int .u8 _]) tok rfl rfl rfl rfl rfl rfl (by omega) (nP (k:=p.1) hk)) ?_;refine Qp (Ek (c:=.int .u8 _) tok rfl rfl rfl) (Qp (A8 (v:=.int .u8 _) rfl) (Ae (AW.block (Ad (Qp (A0 (v:=.int .u8 _) rfl) (Qp Ap (Qp A9 (AOL.Aal (y:=.int .u8 _) _ [] rfl (uB.all trivial) (fun hG=>A0 (v:=.int .u8 _) rfl) rfl ?_))))))));refine Qg [(26,_)] Qw Ap (Qp Cf (Qp Au (Ae (Ao (fun hc3=>AW.region (Qp (A0 (v:=.row _ _ _) rfl) (Qp (A0 (v:=.int .u8 _) rfl) (Qp (Ak (es:=[[.int .u8 _],[.int .u8 _]]) tok rfl rfl rfl rfl rfl rfl rfl rfl rfl) ?_)))) fun hc3=>Ad (Qp (A0 (v:=.int .u8 _) rfl) (Qp Bp (Qp A9 (AOL.Aal (y:=.int .u8 _) _ [] rfl (uB.all trivial) (fun hG=>A0 (v:=.int .u8 _) rfl) rfl ?_))))))))
  ·
   refine Qe (B8 (k:=0) tok rfl rfl rfl rfl rfl rfl rfl rfl (wE _ _) (hsc) (by simp;omega) (by simp [maxLen];omega)) ?_;rintro _ _ ⟨v32,rfl,rfl⟩;refine Qp (A8 (v:=.row _ _ _) rfl) (AOL.nil (Ig (Ig (A5 (AW.region (Qp Dl (Qp Am (Ae ?_))))))));refine ⟨(p.1+1,p.2.1++Cd [92,bt s p.1],v32),?_,?_,Bv⟩
   · exact ⟨hk,Te hk hR.2 (by unfold Mg;rw [if_pos hc3])⟩
   simp only;omega
  refine Qg [(37,_)] Qw Do (Qp Cf (Qp Au (Ae (Ao (fun hc4=>?_) fun hc4=>AW.region (Qp (A0 (v:=.row _ _ _) rfl) (Qp (A0 (v:=.int .u8 _) rfl) (Qp (Ak (es:=[[.int .u8 _]]) tok rfl rfl rfl rfl rfl rfl rfl rfl rfl) ?_)))))))
  ·
   refine Gi ?_;refine Qn 0 rfl (A0 (v:=.row _ _ _) rfl) (Qn 1 rfl (A0 (v:=.int .u8 _) rfl) ?_);refine Qn 2 rfl (mQ rfl rfl (by omega)) ?_;refine Qn 3 rfl (Bq tok rfl rfl rfl rfl ((eR _).1) ((eR _).2)) (Qn 4 rfl (A0 (v:=.int .u8 _) rfl) ?_);refine Qn 5 rfl (vL rfl rfl (by omega)) ?_;refine Qn 6 rfl (Bq tok rfl rfl rfl rfl ((eT _).1) ((eT _).2)) (Qn 7 rfl (Ak (es:=[[.int .u8 _],[.int .u8 _],[.int .u8 _],[.int .u8 _]]) tok rfl rfl rfl rfl rfl rfl rfl rfl rfl) ?_);refine lZ 8 rfl (B8 (k:=0) tok rfl rfl rfl rfl rfl rfl rfl rfl (qS _ _ _ _) (hsc) (by simp;omega) (by simp [maxLen];omega)) ?_;rintro _ _ ⟨v48,rfl,rfl⟩;refine Qn 9 rfl (A8 (v:=.row _ _ _) rfl) ?_;refine Ej ?_;refine Ig (Ig (A5 (AW.region (Qp Dl (Qp Am (Ae ?_))))));refine ⟨(p.1+1,p.2.1++Cd [92,120,bt Sn ((bt s p.1).toNat / 16),bt Sn ((bt s p.1).toNat % 16)],v48),?_,?_,Bv⟩
   · exact ⟨hk,Te hk hR.2 (by unfold Mg;rw [iN hc3,if_pos hc4])⟩
   simp only;omega
  refine Qe (B8 (k:=0) tok rfl rfl rfl rfl rfl rfl rfl rfl (Dy rfl) (hsc) (by simp;omega) (by simp [maxLen];omega)) ?_;rintro _ _ ⟨v21,rfl,rfl⟩;refine Qp (A8 (v:=.row _ _ _) rfl) (AOL.nil (Ig (Ig (A5 (AW.region (Qp Dl (Qp Am (Ae ?_))))))));refine ⟨(p.1+1,p.2.1++Cd [bt s p.1],v21),?_,?_,Bv⟩
  · exact ⟨hk,Te hk hR.2 (by unfold Mg;rw [iN hc3,iN hc4])⟩
  simp only;omega
 have hk:p.1=s.length:=by simp at hc2;have:=hR.1;omega
 have hfin:p.2.1 ++ [[.int .u8 34]]=Cd ([34]++Ei s ++ [34]):=by rw [hR.2,hk,bH,Ii ([34]++Ei s) [34]];rfl
 have hfl:([34]++Ei s ++ [34]).length≤maxLen:=by have h1:=Rl s;simp at hc1;simp [maxLen];omega
 refine AW.exit ?_;refine Bk (Ri (Ad ?_));refine Qp (A0 (v:=.row _ _ _) rfl) (Qp (Ak (es:=[[.int .u8 _]]) tok rfl rfl rfl rfl rfl rfl rfl rfl rfl) ?_);refine Qe (B8 (k:=0) tok rfl rfl rfl rfl rfl rfl rfl rfl (Dy rfl) (hsc) (by simp;omega) (by simp [maxLen];omega)) ?_;rintro _ _ ⟨v52,rfl,rfl⟩;refine Qp (Sz (s:=[34]++Ei s ++ [34]) tok rfl rfl rfl rfl rfl rfl rfl (hfl) (nM hfin)) (Qp D1 (Qp Al (Rb ?_)));refine ⟨.inr rfl,H6,.cons (.tmp _ _ rfl) <| .cons (.tmp _ _ rfl) <| .nil,.cons _ (.refl _),?_⟩;simp only [Ag,Lz];rw [iN hc1]
 done
theorem c70 (s:A1)(hl:s.length≤1048576):An Tryz.prog 304 [.str s] (.tuple [.int .u8 ((K7 s).1.toNat:Int),.int .i64 (K7 s).2]):=by
 refine An.body (n:=48) tok Tryz.func304 rfl rfl rfl fun H=>?_
 refine Ad ?_;refine Qp (A8 (v:=.int .u8 _) rfl) ?_;refine Qp Al (Re (AW.block (Ad (Qp D2 ?_))));refine Qp (Bx tok rfl rfl rfl rfl) ?_;refine Qp Gb (Qp A9 (Qg [] Qw D2 ?_));refine AOL.Aal (y:=.int .u8 _) _ [(11,_)] rfl (uB.all ⟨Ent.Aak _ _,trivial⟩) (fun hG=>Bq tok rfl rfl rfl rfl (by omega) (F3 (i:=1) (by have h9:=g1 hG;simp at h9;omega))) rfl ?_;refine Qg [(12,_)] Qw Ap (Qg [(13,_)] Qw A9 (Qg [] Qw D2 ?_));refine AOL.Aal (y:=.int .u8 _) _ [(15,_)] rfl (uB.all ⟨Ent.Aak _ _,trivial⟩) (fun hG=>Bq tok rfl rfl rfl rfl (by omega) (F3 (i:=1) (by have h9:=g1 hG;simp at h9;omega))) rfl ?_;refine Qg [(16,_)] Qw Ap (Qg [(14,_),(17,_)] Qw Cf (Qp Ea (Qp Au (Ae (Ao (fun hc1=>?_) fun hc1=>?_)))))
 ·
  refine Ad (Qp D2 ?_);refine Qp (Bq tok rfl rfl rfl rfl (by omega) (F3 (i:=1) (by simp at hc1;omega))) ?_;refine Qp (A8 (v:=.int .u8 _) rfl) ?_;refine Qp Al (Ra ?_);refine M6 (.int .u8 _) (Iq _) ?_;simp only [Ag,K7];rw [if_pos hc1]
  done
 refine Ad (Qp D2 ?_);refine Qp (Bx tok rfl rfl rfl rfl) ?_;refine Qp Gb (Qp A9 (Qg [] Qw D2 ?_));refine AOL.Aal (y:=.int .u8 _) _ [(27,_)] rfl (uB.all ⟨Ent.Aak _ _,trivial⟩) (fun hG=>Bq tok rfl rfl rfl rfl (by omega) (F3 (i:=1) (by have h9:=g1 hG;simp at h9;omega))) rfl ?_;refine Qg [(28,_)] Qw Ap (Qp Ea (Qp Au (Ae (Ao (fun hc2=>?_) fun hc2=>?_))))
 ·
  refine AW.seq ?_;refine Gi ?_;refine Qn 0 rfl D2 ?_;refine Qn 1 rfl (Bq tok rfl rfl rfl rfl (by omega) (F3 (i:=2) (by simp at hc2;omega))) ?_;refine Qn 2 rfl (Qc rfl (k53 Sn _)) ?_;refine Qn 3 rfl D2 ?_;refine Qn 4 rfl (Bq tok rfl rfl rfl rfl (by omega) (F3 (i:=3) (by simp at hc2;omega))) ?_;refine Qn 5 rfl (Qc rfl (k53 Sn _)) ?_;refine Qn 6 rfl Al (Qn 7 rfl Al ?_);refine Ej ?_;refine A5 (Ad (Qp Am (Qp Gb (Qp A9 (Qg [] Qw Am (Qg [(40,_)] Qw Gb (Qp Ea (Ae (Ao (fun hc3=>?_) fun hc3=>?_)))))))))
  ·
   refine AW.seq ?_;have hh1:=pH (bt s 2);have hh2:=pH (bt s 3);unfold gO at hh1 hh2;refine AW.region (Qp Am ?_);refine Qp (P_mul rfl rfl rfl (by constructor <;> omega)) ?_;refine Qp Am (Qp Dl ?_);refine Qp (S2 (m:=((Z6 (16*gO (bt s 2)+gO (bt s 3))).toNat:Int)) tok rfl rfl rfl rfl rfl (sL _)) ?_;refine Qp (A8 (v:=.int .u8 _) rfl) ?_;refine Qp Al (Ra ?_);refine M6 (.int .u8 _) (Iq _) ?_;simp only [Ag,K7];rw [iN hc1];rw [if_pos hc2];rw [if_pos hc3]
   done
  refine Rf (Ad ?_);refine Qp (A8 (v:=.int .u8 _) rfl) ?_;refine Qp Al (Rb ?_);refine M6 (.int .u8 _) (Iq _) ?_;simp only [Ag,K7];rw [iN hc1];rw [if_pos hc2];rw [iN hc3];rfl
 refine Rf (Ad ?_);refine Qp (A8 (v:=.int .u8 _) rfl) ?_;refine Qp Al (Rb ?_);refine M6 (.int .u8 _) (Iq _) ?_;simp only [Ag,K7];rw [iN hc1];rw [iN hc2];rfl
set_option maxHeartbeats 400000
set_option maxRecDepth 20000

theorem yS (k:Nat)(h:k<17):Kl[k]? = some (.str (iD.getD k [])):=by
 have e:Kl=iD.map AV.str:=rfl;rw [e,List.getElem?_map];have h':k<iD.length:=h;simp [Nv,List.getElem?_eq_getElem h']
theorem sQ {s:A1}{k:Nat}(h:k<17)(hc:Lib.hasPrefix s (iD.getD k [])=false):Gt s (iD.drop k)=Gt s (iD.drop (k+1)):=by
 have h':k<iD.length:=h;rw [X8 h'];have e:iD.getD k []=iD[k]:=by simp [Nv,List.getElem?_eq_getElem h']
 rw [e] at hc;rw [Gt,iN hc]
theorem uA {s:A1}{k:Nat}(h:k<17)(hc:Lib.hasPrefix s (iD.getD k [])=true):Gt s (iD.drop k)=oX 3 (iD.getD k []) (iD.getD k []).length:=by
 have h':k<iD.length:=h;rw [X8 h'];have e:iD.getD k []=iD[k]:=by simp [Nv,List.getElem?_eq_getElem h']
 rw [e] at hc ⊢;rw [Gt,if_pos hc]

theorem c25 (s:A1)(hl:s.length≤1048576):An Tryz.prog 294 [.str s] (.tuple [.str (Tl s).1,.int .i64 (Tl s).2]):=by
 refine An.body (n:=49) tok Tryz.func294 rfl rfl rfl fun H=>?_
 refine Ad (Qp D1 (Qp Al (Ae (Rd (Qp D2 (Qp (Bx tok rfl rfl rfl rfl) (Qp Do (Ae (Ao (fun hc1=>Ad (Qp D1 (Qp Al (Rc (M6 (.str _) (Iq _) ?_))))) fun hc1=>A7 (Ad (Qe (F7 (es:=[[.int .u8 _]]) tok rfl rfl rfl rfl rfl rfl rfl rfl rfl) ?_)))))))))))
 ·
  simp only [Ag,Tl];rw [if_pos hc1]
  done
 rintro _ _ ⟨v10,rfl,rfl⟩;refine Qp (A8 (v:=.row _ _ _) rfl) (Ae (Rd (Qp Al (Ae (AW.block ?_)))));refine AW.Aam (fun (p:Nat×List (List AV)×Value)=>(⟨[(0,.str s),(4,.row p.2.2 1 p.2.1),(5,.int .i64 (p.1:Int))],.row p.2.2 p.2.1.length 5 1::H,49⟩:St)) (fun p=>p.1≤s.length∧p.2.1=Cd ([34]++D7 (s.take p.1))) (fun p=>s.length-p.1) ((0,_,v10)) ?_ Bv ?_
 · exact ⟨Dh _,rfl⟩
 rintro p hR;have hroom:=lQ (by simp at hc1;omega) hR.2;have hsc:∀c∈p.2.1,Bc c=true:=by rw [hR.2];exact Zv _
 refine Rd (Qp Am (Qp D2 (Qp (Bx tok rfl rfl rfl rfl) (Qp Bp (Ae (Ao (fun hc2=>?_) fun hc2=>?_))))))
 ·
  have hk:p.1<s.length:=by simp at hc2;omega
  refine A7 (AW.seq (AW.block (Ad (Qp D2 (Qp Am ?_)))));refine Qp (Bq tok rfl rfl rfl rfl (by omega) (F3 (i:=p.1) hk)) ?_;refine Qp (A8 (v:=.int .u8 _) rfl) (Bs (Qp (A0 (v:=.int .u8 _) rfl) (Qp (Qc rfl (c46 _)) (Ae (Ao (fun hc3=>AW.region (Qp (A0 (v:=.row _ _ _) rfl) (Qp (A0 (v:=.int .u8 _) rfl) (Qp (Ak (es:=[[.int .u8 _]]) tok rfl rfl rfl rfl rfl rfl rfl rfl rfl) ?_)))) fun hc3=>Ad (Qp (A0 (v:=.int .u8 _) rfl) (Qp Ap (Qp A9 (AOL.Aal (y:=.int .u8 _) _ [] rfl (uB.all trivial) (fun hG=>A0 (v:=.int .u8 _) rfl) rfl ?_)))))))))
  ·
   refine Qe (B8 (k:=0) tok rfl rfl rfl rfl rfl rfl rfl rfl (Dy rfl) (hsc) (by simp;omega) (by simp [maxLen];omega)) ?_;rintro _ _ ⟨v25,rfl,rfl⟩;refine Qp (A8 (v:=.row _ _ _) rfl) (Rk (AW.region (Qp Am (Qp Dl (Qp Al (Ae ?_))))));refine ⟨(p.1+1,p.2.1++Cd [bt s p.1],v25),?_,?_,Bv⟩
   · exact ⟨hk,P4 hk hR.2 (by unfold Ll;rw [if_pos hc3])⟩
   simp only;omega
  refine Qg [(29,_)] Qw Ap (Qp Cf (Ae (Ao (fun hc4=>AW.region (Qp (A0 (v:=.row _ _ _) rfl) (Qp (A0 (v:=.int .u8 _) rfl) (Qp (Ak (es:=[[.int .u8 _],[.int .u8 _]]) tok rfl rfl rfl rfl rfl rfl rfl rfl rfl) ?_)))) fun hc4=>?_)))
  ·
   refine Qe (B8 (k:=0) tok rfl rfl rfl rfl rfl rfl rfl rfl (wE _ _) (hsc) (by simp;omega) (by simp [maxLen];omega)) ?_;rintro _ _ ⟨v35,rfl,rfl⟩;refine Qp (A8 (v:=.row _ _ _) rfl) (Rk (AW.region (Qp Am (Qp Dl (Qp Al (Ae ?_))))));refine ⟨(p.1+1,p.2.1++Cd [92,bt s p.1],v35),?_,?_,Bv⟩
   · exact ⟨hk,P4 hk hR.2 (by unfold Ll;rw [iN hc3,if_pos hc4])⟩
   simp only;omega
  refine Gi ?_;refine Qn 0 rfl (A0 (v:=.row _ _ _) rfl) (Qn 1 rfl (A0 (v:=.int .u8 _) rfl) ?_);refine Qn 2 rfl (mQ rfl rfl (by omega)) ?_;refine Qn 3 rfl (Bq tok rfl rfl rfl rfl ((eR _).1) ((eR _).2)) (Qn 4 rfl (A0 (v:=.int .u8 _) rfl) ?_);refine Qn 5 rfl (vL rfl rfl (by omega)) ?_;refine Qn 6 rfl (Bq tok rfl rfl rfl rfl ((eT _).1) ((eT _).2)) (Qn 7 rfl (Ak (es:=[[.int .u8 _],[.int .u8 _],[.int .u8 _],[.int .u8 _]]) tok rfl rfl rfl rfl rfl rfl rfl rfl rfl) ?_);refine lZ 8 rfl (B8 (k:=0) tok rfl rfl rfl rfl rfl rfl rfl rfl (qS _ _ _ _) (hsc) (by simp;omega) (by simp [maxLen];omega)) ?_;rintro _ _ ⟨v44,rfl,rfl⟩;refine Qn 9 rfl (A8 (v:=.row _ _ _) rfl) ?_;refine Ej ?_;refine Ig (A5 (AW.region (Qp Am (Qp Dl (Qp Al (Ae ?_))))));refine ⟨(p.1+1,p.2.1++Cd [92,120,bt Sn ((bt s p.1).toNat / 16),bt Sn ((bt s p.1).toNat % 16)],v44),?_,?_,Bv⟩
  · exact ⟨hk,P4 hk hR.2 (by unfold Ll;rw [iN hc3,iN hc4])⟩
  simp only;omega
 have hk:p.1=s.length:=by simp at hc2;have:=hR.1;omega
 have hfin:p.2.1 ++ [[.int .u8 34]]=Cd ([34]++D7 s ++ [34]):=by rw [hR.2,hk,bH,Ii ([34]++D7 s) [34]];rfl
 have hfl:([34]++D7 s ++ [34]).length≤maxLen:=by have h1:=Of s;simp at hc1;simp [maxLen];omega
 refine AW.exit ?_;refine Bk (Ri (Ad ?_));refine Qp (A0 (v:=.row _ _ _) rfl) (Qp (Ak (es:=[[.int .u8 _]]) tok rfl rfl rfl rfl rfl rfl rfl rfl rfl) ?_);refine Qe (B8 (k:=0) tok rfl rfl rfl rfl rfl rfl rfl rfl (Dy rfl) (hsc) (by simp;omega) (by simp [maxLen];omega)) ?_;rintro _ _ ⟨v47,rfl,rfl⟩;refine Qp (Sz (s:=[34]++D7 s ++ [34]) tok rfl rfl rfl rfl rfl rfl rfl (hfl) (nM hfin)) (Qp D1 (Qp Al (Rb ?_)));refine ⟨.inr rfl,H6,.cons (.tmp _ _ rfl) <| .cons (.tmp _ _ rfl) <| .nil,.cons _ (.refl _),?_⟩;simp only [Ag,Tl];rw [iN hc1]
 done
theorem c54 (s:A1)(hl:s.length≤1048576)(h0:0<s.length):An Tryz.prog 276 [.str s] (.agg (cFo (Mm s))):=by
 refine An.body (n:=20) tok Tryz.func276 rfl rfl rfl fun H=>?_
 refine Ad (Dt gix fun b2=>Ae (Rd (Qp D2 ?_)));refine Qp (Bq tok rfl rfl rfl rfl (by omega) (F3 (i:=0) h0)) ?_;refine Qp (Qc rfl (c43 _)) (Qp Ew (Ae (Ao (fun hc1=>Ad (Qp (Du K2) ?_)) fun hc1=>A7 (Ad (Qp D2 ?_)))))
 ·
  refine Bt 0 K2 (_::_) (Rc ?_);refine ⟨.inr rfl,[.agg K2],.cons (.box _ _ _ 0 _ _ _ _ rfl rfl rfl rfl rfl rfl) <| .nil,.cons _ (.refl _),?_⟩;simp only [Ag,Mm];rw [if_pos hc1];rfl
 refine Qp (Qc rfl (c38 s hl 302 Jr (by kernel_rfl) c69)) ?_;refine Qp Al (Ae (Rd (Qp Am (Qp Do (Ae (Ao (fun hc2=>Ad (Qp (Du K2) ?_)) fun hc2=>A7 (Ad (Qp D2 (Qp Am (Qp (I5 (l:=0) (h:=D5 Jr s) tok rfl rfl rfl (rfl) (⟨_,rfl⟩) (Dh _) (Od _ _) (Sj)) (Qp (Du lJ) (Qp Am (Qp (Du K2) ?_)))))))))))))
 ·
  refine Bt 0 K2 (_::_) (Rc ?_);refine ⟨.inr rfl,[.agg K2],.cons (.box _ _ _ 0 _ _ _ _ rfl rfl rfl rfl rfl rfl) <| .nil,.cons _ (.refl _),?_⟩;simp only [Ag,Mm];rw [iN hc1];rw [if_pos hc2];rfl
 refine Bt 0 K2 (_::_) (Rb ?_);refine ⟨.inr rfl,[.agg K2],.cons (.box _ _ _ 0 _ _ _ _ rfl rfl rfl rfl rfl rfl) <| .nil,.cons _ (.refl _),?_⟩;simp only [Ag,Mm];rw [iN hc1];rw [iN hc2];rfl
theorem c55 (s:A1)(hl:s.length≤1048576)(h0:0<s.length):An Tryz.prog 277 [.str s] (.agg (cFo (Hh s))):=by
 refine An.body (n:=40) tok Tryz.func277 rfl rfl rfl fun H=>?_
 refine Ad (Dt gix fun b2=>Bs (Qp D2 ?_));refine Qp (Qc rfl (c38 s hl 141 Dz (by kernel_rfl) c39)) ?_;refine Qp Al (Ae (Rd (Qp Am (Qp Ap (Ae (Ao (fun hc1=>Ad (Qp (Du K2) ?_)) fun hc1=>A7 (Rd (Qp D2 (Qp Am (Qp (I5 (l:=0) (h:=D5 Dz s) tok rfl rfl rfl (rfl) (⟨_,rfl⟩) (Dh _) (Od _ _) (Sj)) ?_))))))))))
 ·
  refine Bt 0 K2 (_::_) (Rc ?_);refine ⟨.inr rfl,[.agg K2],.cons (.box _ _ _ 0 _ _ _ _ rfl rfl rfl rfl rfl rfl) <| .nil,.cons _ (.refl _),?_⟩;simp only [Ag,Hh];rw [if_pos hc1];rfl
 refine Qp (Qc rfl (c18 (s.take (D5 Dz s)) (by rw [Lk];omega))) ?_;refine Qp Lm (Qp Ib (Qp Ib (Qp Al (Qp Al (Bs (Qp Am (Qp Bu (Ae (Ao (fun hc2=>Ad (Qp Am (Qp (Du K2) ?_))) fun hc2=>A7 (Rd (Qp Am (Qp D2 (Qp (Bx tok rfl rfl rfl rfl) (Qp Bp (Qp A9 (Qg [] Qw D2 (Qg [] Qw Am ?_)))))))))))))))))
 ·
  refine Bt 0 K2 (_::_) (Rc ?_);refine ⟨.inr rfl,[.agg K2],.cons (.box _ _ _ 0 _ _ _ _ rfl rfl rfl rfl rfl rfl) <| .nil,.cons _ (.refl _),?_⟩;simp only [Ag,Hh];rw [iN hc1];rw [if_pos hc2];rfl
 refine AOL.Aal (y:=.int .u8 _) _ [(27,_),(28,_)] rfl (uB.all ⟨Ent.Aak _ _,Ent.Aak _ _,trivial⟩) (fun hG=>Bq tok rfl rfl rfl rfl (by omega) (F3 (i:=D5 Dz s) (by have h9:=g1 hG;simp at h9;exact h9))) rfl ?_;refine Qg [(29,_)] Qw (Qc rfl (c43 _)) (Qp Ea (Ae (Ao (fun hc3=>Ad (Qp Am (Qp (Du K2) ?_))) fun hc3=>A7 (Ad (Qp D2 (Qp Am (Qp (I5 (l:=0) (h:=D5 Dz s) tok rfl rfl rfl (rfl) (⟨_,rfl⟩) (Dh _) (Od _ _) (Sj)) (Qp (Du lJ) (Qp Am (Qp (Du K2) ?_))))))))))
 ·
  refine Bt 0 K2 (_::_) (Rc ?_);refine ⟨.inr rfl,[.agg K2],.cons (.box _ _ _ 0 _ _ _ _ rfl rfl rfl rfl rfl rfl) <| .nil,.cons _ (.refl _),?_⟩;simp only [Ag,Hh];rw [iN hc1];rw [iN hc2];rw [if_pos hc3];rfl
 refine Bt 0 K2 (_::_) (Rb ?_);refine ⟨.inr rfl,[.agg K2],.cons (.box _ _ _ 0 _ _ _ _ rfl rfl rfl rfl rfl rfl) <| .nil,.cons _ (.refl _),?_⟩;simp only [Ag,Hh];rw [iN hc1];rw [iN hc2];rw [iN hc3];rfl
theorem c57 (s:A1):An Tryz.prog 279 [.str s] (.agg (cFo (Xq s))):=by
 refine An.body (n:=19) tok Tryz.func279 rfl rfl rfl fun H=>?_
 refine Ad (Dt gix fun b2=>Ae (Rd ?_));refine Qp (Xv (l:=Kl) tok (⟨_,by simp [globals],fun _ h=>h⟩) rfl rfl rfl rfl) ?_;refine Qp Am (Ae (AW.block ?_));refine AW.Aam (fun (k:Nat)=>(⟨[(0,.str s),(2,.val (.pointer (some ⟨b2,0,none⟩))),(5,.agg Kl),(6,.int .i64 (k:Int))],.box b2 256 gix::H,19⟩:St)) (fun k=>k≤17∧Xq s=Gt s (iD.drop k)) (fun k=>17-k) (0) ?_ Bv ?_
 · exact ⟨Dh _,rfl⟩
 rintro k hR;refine Ad (Qp Bp (Re (Ao (fun hc1=>?_) fun hc1=>?_)))
 ·
  have hk:k<17:=by simp at hc1;omega
  refine A7 (AW.seq (AW.block (Ad ?_)));refine Qp (kU (c:=.str (iD.getD k [])) tok rfl rfl rfl rfl rfl rfl rfl (by omega) (by omega) (yS k hk)) ?_;refine Qp D1 (Bs (Qp D2 (Qp D2 (Qp (Qc rfl (k28 _ _)) (Ae (Ao (fun hc2=>Ad (Qp D2 (Qp (Du lJ) (Qp D2 (Qp (Bx tok rfl rfl rfl rfl) (Qp (Du K2) ?_)))))) fun hc2=>Rf (AW.region (Qp Dl (Qp Am (Ae ?_))))))))))
  ·
   refine Bt 0 K2 (_::_) (Ra (Av (B9 (Av ?_))));refine ⟨.inr rfl,[.agg K2],.cons (.box _ _ _ 0 _ _ _ _ rfl rfl rfl rfl rfl rfl) <| .nil,.cons _ (.refl _),?_⟩;have h9:=hR.2.trans (uA hk hc2);rw [h9];rfl
  refine ⟨k+1,?_,?_,Bv⟩
  · exact ⟨hk,hR.2.trans (sQ hk hc2)⟩
  omega
 have hk:k=17:=by simp at hc1;have:=hR.1;omega
 refine AW.exit ?_;refine Bk (Ri (Ad (Qp (Du K2) ?_)));refine Bt 0 K2 (_::_) (Rb ?_);refine ⟨.inr rfl,[.agg K2],.cons (.box _ _ _ 0 _ _ _ _ rfl rfl rfl rfl rfl rfl) <| .nil,.cons _ (.refl _),?_⟩;have h9:Xq s=Pj 0 4:=by rw [hR.2,hk];rfl
 rw [h9];rfl
set_option maxHeartbeats 800000
set_option maxRecDepth 100000

theorem Ma {s:A1}{n i:Nat}{b:A1}(h:0<n):I7 s n i b =
  if decide ((i:Int)<(s.length:Int)) then
   if (((bt s i).toNat:Int)==34) then
    if decide (64<(b.length:Int)) then Pj 0 13 else oX 2 b ((i:Int)+1)
   else if (((bt s i).toNat:Int)==92) then
    if ((K7 (s.drop i)).2==0) then Pj i 4 else I7 s (n-1) (i+(K7 (s.drop i)).2.toNat) (b ++ [(K7 (s.drop i)).1])
   else if (decide (((bt s i).toNat:Int)<32)||decide (126<((bt s i).toNat:Int))) then Pj i 4
   else I7 s (n-1) (i+1) (b ++ [bt s i])
  else Pj s.length 4:=by
 cases n with
 | zero=>omega
 | succ n=>rfl
theorem oA (t:A1):0≤(K7 t).2∧(K7 t).2≤t.length:=by
 unfold K7;split
 · rename_i h;simp at h;simp;omega
 split
 ·
  rename_i h;simp at h;split <;> simp;omega
 simp
theorem nC (b:A1)(c:UInt8):Cd (b ++ [c])=Cd b ++ [[AV.int .u8 (c.toNat:Int)]]:=Ii b [c]
theorem jY {es:List (List AV)}{b:A1}(h:es=Cd b)(c:UInt8):es ++ [[AV.int .u8 (c.toNat:Int)]]=Cd (b ++ [c]):=by rw [h,nC]
theorem iY {b:A1}{n m:Nat}(h:b.length≤n)(hm:n<m)(c:UInt8):(b ++ [c]).length≤m:=by simp;omega
def recL:List (List AV):=[[.fn (.func 276) [] []],[.fn (.func 277) [] []],[.fn (.func 278) [] []]]
def tS:Nat→A1→Fo
 | 0,s=>Mm s
 | 1,s=>Hh s
 | _,s=>Li s
theorem rec_get (k:Nat)(h:k<3):recL[k]? = some [.fn (.func (276+k)) [] []]:=by
 match k,h with
 | 0,_=>rfl
 | 1,_=>rfl
 | 2,_=>rfl
theorem rec_fn (k:Nat)(h:k<3):Tm Tryz.prog (276+k)=true:=by
 match k,h with
 | 0,_=>exact (by kernel_rfl:Tm Tryz.prog 276=true)
 | 1,_=>exact (by kernel_rfl:Tm Tryz.prog 277=true)
 | 2,_=>exact (by kernel_rfl:Tm Tryz.prog 278=true)
theorem yA {s:A1}{k:Nat}(h:k<3)(hk:∀j,j<k→Pp (tS j s)=false)(hc:Pp (tS k s)=true):Dr s=tS k s:=by
 unfold Dr
 match k,h with
 | 0,_=>rw [if_pos (show Pp (Mm s)=true from hc)];rfl
 | 1,_=>rw [if_neg (zz45.mp (show Pp (Mm s)=false from hk 0 (by omega))),if_pos (show Pp (Hh s)=true from hc)];rfl
 | 2,_=>rw [if_neg (zz45.mp (show Pp (Mm s)=false from hk 0 (by omega))),if_neg (zz45.mp (show Pp (Hh s)=false from hk 1 (by omega))),if_pos (show Pp (Li s)=true from hc)];rfl
theorem sB {s:A1}(hk:∀j,j<3→Pp (tS j s)=false):Dr s=Xq s:=by
 unfold Dr;rw [if_neg (zz45.mp (show Pp (Mm s)=false from hk 0 (by omega))),if_neg (zz45.mp (show Pp (Hh s)=false from hk 1 (by omega))),if_neg (zz45.mp (show Pp (Li s)=false from hk 2 (by omega)))]

theorem c56 (s:A1)(hl:s.length≤1048576)(h0:0<s.length):An Tryz.prog 278 [.str s] (.agg (cFo (Li s))):=by
 refine An.body (n:=71) tok Tryz.func278 rfl rfl rfl fun H=>?_
 refine Ad (Dt gix fun b2=>Ae (Rd (Qp D2 ?_)));refine Qp (Bq tok rfl rfl rfl rfl (by omega) (F3 (i:=0) h0)) ?_;refine Qp Bu (Ae (Ao (fun hc1=>Ad (Qp (Du K2) ?_)) fun hc1=>A7 (Ad (Qp Qk ?_))))
 ·
  refine Bt 0 K2 (_::_) (Rc ?_);refine ⟨.inr rfl,[.agg K2],.cons (.box _ _ _ 0 _ _ _ _ rfl rfl rfl rfl rfl rfl) <| .nil,.cons _ (.refl _),?_⟩;simp only [Ag,Li];rw [if_pos hc1];rfl
 refine AOL.ghost (GS.row (t:=3) 5 1 rfl) ?_;refine Ae (Rd (Qp Al (Ae (AW.block ?_))));refine AW.Aam (fun (p:Nat×Nat×A1×List (List AV)×Value)=>(⟨[(0,.str s),(2,.val (.pointer (some ⟨b2,0,none⟩))),(3,.row p.2.2.2.2 1 p.2.2.2.1),(4,.int .i64 (p.2.1:Int))],.row p.2.2.2.2 p.2.2.2.1.length 5 1 :: .box b2 256 gix::H,71⟩:St)) (fun p=>p.2.1≤s.length∧s.length<p.1+p.2.1∧p.2.2.2.1=Cd p.2.2.1∧p.2.2.1.length≤p.2.1∧I7 s (s.length+1) 1 []=I7 s p.1 p.2.1 p.2.2.1) (fun p=>p.1) ((s.length+1,1,[],[],.slice none 0 0)) ?_ Bv ?_
 · exact ⟨h0,by simp only;omega,rfl,Dh _,rfl⟩
 rintro p hR;have hle:p.2.1≤s.length:=hR.1;have hfu:s.length<p.1+p.2.1:=hR.2.1;have hes:p.2.2.2.1=Cd p.2.2.1:=hR.2.2.1;have hbl:p.2.2.1.length≤p.2.1:=hR.2.2.2.1;have hn:0<p.1:=by omega
 have hsc:∀c∈p.2.2.2.1,Bc c=true:=by rw [hes];exact Zv _
 have hel:p.2.2.2.1.length≤s.length:=by rw [hes,Ko];omega
 refine Rd (Qp Am (Qp D2 (Qp (Bx tok rfl rfl rfl rfl) (Qp Bp (Ae (Ao (fun hc2=>?_) fun hc2=>AW.exit ?_))))))
 ·
  have hi:p.2.1<s.length:=by simp at hc2;omega
  have hel2:=oA (s.drop p.2.1);rw [Jf] at hel2;refine A7 (AW.block (Ad (Qp D2 (Qp Am ?_))));refine Qp (Bq tok rfl rfl rfl rfl (by omega) (F3 (i:=p.2.1) hi)) ?_;refine Qp (A8 (v:=.int .u8 _) rfl) (Ae (AW.block (Ad (Qp (A0 (v:=.int .u8 _) rfl) (Qp Ap (Qp Au (Ae (Ao (fun hc3=>Rd (Qp (A0 (v:=.row _ _ _) rfl) ?_)) fun hc3=>Ad (Qp (A0 (v:=.int .u8 _) rfl) (Qp Ap (Qp Au (Ae (Ao (fun hc5=>Ad (Qp D2 (Qp Am (Qp (I5 (l:=p.2.1) (h:=s.length) tok rfl rfl rfl (⟨_,rfl⟩) (rfl) (hle) (C6 _) (congrArg (List.drop _) bH)) ?_)))) fun hc5=>Ad (Qp (A0 (v:=.int .u8 _) rfl) (Qp Bp (Qp A9 (AOL.Aal (y:=.int .u8 _) _ [] rfl (uB.all trivial) (fun hG=>A0 (v:=.int .u8 _) rfl) rfl ?_)))))))))))))))))
  ·
   refine Qp (Ec (n:=p.2.2.1.length) tok rfl rfl rfl (by rw [hes,Ko])) ?_;refine Qp Do (Ae (Ao (fun hc4=>Ad (Qp (Du K2) ?_)) fun hc4=>A7 (Ad (Qp (A0 (v:=.row _ _ _) rfl) ?_))))
   ·
    refine Bt 1 K2 (_::_::_) (Rc (B9 (B9 (Av (B9 (Av ?_))))));refine ⟨.inr rfl,[.agg K2],.cons (.box _ _ _ 1 _ _ _ _ rfl rfl rfl rfl rfl rfl) <| .nil,.cons _ (.cons _ (.refl _)),?_⟩
    have h9:Li s=Pj 0 13:=by
     unfold Li;rw [iN hc1,hR.2.2.2.2,Ma hn,if_pos hc2,if_pos hc3,if_pos hc4]
    rw [h9];rfl
   refine Qp (Sz (s:=p.2.2.1) tok rfl rfl rfl rfl rfl rfl rfl (by simp [maxLen];omega) (nM hes)) ?_;refine Qp (Du lJ) (Qp Am (Qp Dl (Qp (Du K2) ?_)));refine Bt 1 K2 (_::_::_) (Rb (B9 (B9 (Av (B9 (Av ?_))))));refine ⟨.inr rfl,[.agg K2],.cons (.box _ _ _ 1 _ _ _ _ rfl rfl rfl rfl rfl rfl) <| .nil,.cons _ (.cons _ (.refl _)),?_⟩
   have h9:Li s=oX 2 p.2.2.1 ((p.2.1:Int)+1):=by
    unfold Li;rw [iN hc1,hR.2.2.2.2,Ma hn,if_pos hc2,if_pos hc3,iN hc4]
   rw [h9];rfl
  ·
   refine Qp (Qc rfl (c70 (s.drop p.2.1) (by rw [Jf];omega))) ?_;refine Qp Lm (Qp (B2 (v:=.int .u8 _) rfl rfl) (Qp Ib (Qp (A8 (v:=.int .u8 _) rfl) (Qp Al (Ae (Rd (Qp Am (Qp Ap (Ae (Ao (fun hc6=>Ad (Qp Am (Qp (Du K2) ?_))) fun hc6=>?_))))))))))
   ·
    refine Bt 1 K2 (_::_::_) (Rc (B9 (B9 (Av (B9 (Av ?_))))));refine ⟨.inr rfl,[.agg K2],.cons (.box _ _ _ 1 _ _ _ _ rfl rfl rfl rfl rfl rfl) <| .nil,.cons _ (.cons _ (.refl _)),?_⟩
    have h9:Li s=Pj p.2.1 4:=by
     unfold Li;rw [iN hc1,hR.2.2.2.2,Ma hn,if_pos hc2,iN hc3,if_pos hc5,if_pos hc6]
    rw [h9];rfl
   have hne:(K7 (s.drop p.2.1)).2≠0:=by simpa using hc6
   refine A7 (Ad (Qp (A0 (v:=.row _ _ _) rfl) (Qp (A0 (v:=.int .u8 _) rfl) (Qp (Ak (es:=[[.int .u8 _]]) tok rfl rfl rfl rfl rfl rfl rfl rfl rfl) ?_))));refine Qe (B8 (k:=0) tok rfl rfl rfl rfl rfl rfl rfl rfl (Dy rfl) (hsc) (by simp;omega) (by simp [maxLen];omega)) ?_;rintro _ _ ⟨v55,rfl,rfl⟩;refine Qp (A8 (v:=.row _ _ _) rfl) (Ae (AW.region (Qp Am (Qp Am (Qp Dl (Qp Al (AOL.nil (Ig (Ig (A5 ?_))))))))));refine ⟨(p.1-1,p.2.1+(K7 (s.drop p.2.1)).2.toNat,p.2.2.1 ++ [(K7 (s.drop p.2.1)).1],p.2.2.2.1 ++ [[.int .u8 ((K7 (s.drop p.2.1)).1.toNat:Int)]],v55),?_,?_,GS.weaken ⟨rfl,rfl,rfl,congrArg (AV.int .i64) (by simp only;omega),trivial⟩ (.refl _)⟩
   · exact ⟨by simp only;omega,by simp only;omega,jY hes _,iY hbl (by simp only;omega) _,hR.2.2.2.2.trans (by rw [Ma hn,if_pos hc2,iN hc3,if_pos hc5,iN hc6])⟩
   simp only;omega
  refine Qg [(63,_)] Qw Do (Qp Cf (Qp Au (Ae (Ao (fun hc7=>Ad (Qp Am (Qp (Du K2) ?_))) fun hc7=>Ad (Qp (A0 (v:=.row _ _ _) rfl) (Qp (A0 (v:=.int .u8 _) rfl) (Qp (Ak (es:=[[.int .u8 _]]) tok rfl rfl rfl rfl rfl rfl rfl rfl rfl) ?_)))))))
  ·
   refine Bt 1 K2 (_::_::_) (Rb (B9 (B9 (Av (B9 (Av ?_))))));refine ⟨.inr rfl,[.agg K2],.cons (.box _ _ _ 1 _ _ _ _ rfl rfl rfl rfl rfl rfl) <| .nil,.cons _ (.cons _ (.refl _)),?_⟩
   have h9:Li s=Pj p.2.1 4:=by
    unfold Li;rw [iN hc1,hR.2.2.2.2,Ma hn,if_pos hc2,iN hc3,iN hc5,if_pos hc7]
   rw [h9];rfl
  refine Qe (B8 (k:=0) tok rfl rfl rfl rfl rfl rfl rfl rfl (Dy rfl) (hsc) (by simp;omega) (by simp [maxLen];omega)) ?_;rintro _ _ ⟨v22,rfl,rfl⟩;refine Qp (A8 (v:=.row _ _ _) rfl) (Ae (AW.region (Qp Am (Qp Dl (Qp Al (AOL.nil (Ig (Ig (A5 ?_)))))))));refine ⟨(p.1-1,p.2.1+1,p.2.2.1 ++ [bt s p.2.1],p.2.2.2.1 ++ [[.int .u8 ((bt s p.2.1).toNat:Int)]],v22),?_,?_,Bv⟩
  · exact ⟨by simp only;omega,by simp only;omega,jY hes _,iY hbl (by simp only;omega) _,hR.2.2.2.2.trans (by rw [Ma hn,if_pos hc2,iN hc3,iN hc5,iN hc7])⟩
  simp only;omega
 refine Bk (Ri (Ad (Qp D2 ?_)));refine Qp (Bx tok rfl rfl rfl rfl) (Qp (Du K2) ?_);refine Bt 1 K2 (_::_::_) (Rb ?_);refine ⟨.inr rfl,[.agg K2],.cons (.box _ _ _ 1 _ _ _ _ rfl rfl rfl rfl rfl rfl) <| .nil,.cons _ (.cons _ (.refl _)),?_⟩
 have h9:Li s=Pj s.length 4:=by
  unfold Li;rw [iN hc1,hR.2.2.2.2,Ma hn,iN hc2]
 rw [h9];rfl
theorem rec_call (s:A1)(hl:s.length≤1048576)(h0:0<s.length)(k:Nat)(h:k<3):An Tryz.prog (276+k) [.str s] (.agg (cFo (tS k s))):=by
 match k,h with
 | 0,_=>exact c54 s hl h0
 | 1,_=>exact c55 s hl h0
 | 2,_=>exact c56 s hl h0

theorem c33 (s:A1)(hl:s.length≤1048576)(h0:0<s.length):An Tryz.prog 222 [.str s] (.agg (cFo (Dr s))):=by
 refine An.body (n:=27) tok Tryz.func222 rfl rfl rfl fun H=>?_
 refine Ad (Dt gix fun b2=>Ae (Rd (Qp (Ak (es:=[[_],[_],[_]]) tok rfl rfl rfl rfl rfl rfl rfl rfl rfl) (Qp (Ai tok rfl rfl rfl rfl) (Qp Am (Ae (AW.block ?_)))))));refine AW.Aam (fun (k:Nat)=>(⟨[(0,.str s),(2,.val (.pointer (some ⟨b2,0,none⟩))),(6,.sl 1 recL),(7,.int .i64 3),(8,.int .i64 (k:Int))],.box b2 256 gix::H,27⟩:St)) (fun k=>k≤3∧∀j,j<k→Pp (tS j s)=false) (fun k=>3-k) (0) ?_ Bv ?_
 · exact ⟨Dh _,fun j hj=>absurd hj (Nat.not_lt_zero _)⟩
 rintro k hR;refine Ad (Qp Bp (Re (Ao (fun hc1=>?_) fun hc1=>?_)))
 ·
  have hk:k<3:=by simp at hc1;omega
  refine A7 (AW.seq (AW.block (Ad ?_)));refine Qp (Aa (c:=[.fn (.func (276+k)) [] []]) tok rfl rfl rfl rfl rfl rfl (by omega) (rec_get k hk)) ?_;refine Qp (Ek (c:=.fn _ _ _) tok rfl rfl rfl) (Qp (A8 (v:=.fn _ _ _) rfl) (Bs (Qp (A0 (v:=.fn _ _ _) rfl) (Qp D2 (Qp (Om (rec_fn k hk) rfl rfl rfl (rec_call s hl h0 k hk)) (Dt gix fun b5=>?_))))));refine Bt 0 K2 (_::_::_) ?_;refine AOL.ghost (GS.freeze (t:=5) 0 rfl rfl) ?_;refine Bs (Qp (Qf [Iq _,Iq _,Iq _]) (Qp Bf (Qp Do (Qp A9 (Qg [] Qw (Qf [Iq _]) (Qg [(19,_)] Qw Bf (Qg [(20,_)] Qw Bu (Qp Cf (Ae (Ao (fun hc2=>Ad (Qp (Bo K2) ?_)) fun hc2=>Rf (AW.region (Qp Dl (Qp Am (Ae ?_))))))))))))))
  ·
   refine Bt 0 K2 (_::_) (Ra (Av (B9 (Av ?_))));refine ⟨.inr rfl,[.agg K2],.cons (.box _ _ _ 0 _ _ _ _ rfl rfl rfl rfl rfl rfl) <| .nil,.cons _ (.refl _),?_⟩;rw [yA hk hR.2 hc2];rfl
  refine ⟨k+1,?_,?_,Bv⟩
  · exact ⟨hk,fun j hj=>by rcases Nat.lt_succ_iff_lt_or_eq.1 hj with h | rfl;exact hR.2 j h;exact hc2⟩
  omega
 have hk:k=3:=by simp at hc1;have:=hR.1;omega
 refine AW.exit ?_;refine Bk (Ri (Ad (Qp D2 ?_)));refine Qp (Qc rfl (c57 s)) ?_;refine Bt 0 K2 (_::_) (Rb ?_);refine ⟨.inr rfl,[.agg K2],.cons (.box _ _ _ 0 _ _ _ _ rfl rfl rfl rfl rfl rfl) <| .nil,.cons _ (.refl _),?_⟩;have h9:Dr s=Xq s:=by subst hk;exact sB hR.2
 rw [h9];rfl
set_option maxHeartbeats 800000
set_option maxRecDepth 20000

theorem vH (t:A1):0≤S8 t∧(0<t.length→S8 t≤t.length):=by
 unfold S8;have:=Od pT t;split
 · omega
 split <;> omega
theorem pW (t:A1):∀l:List A1,(∀x∈l,0<x.length)→(Gt t l).err=4∧(Gt t l).pos=0∧(Gt t l).bytes=0∨(Gt t l).err=0∧(Gt t l).pos=0∧0<(Gt t l).bytes∧(Gt t l).bytes≤t.length
  | [],_=>.inl ⟨rfl,rfl,rfl⟩
  | x::r,h=>by
    unfold Gt;split
    · rename_i hp
      right;have hpre:x.isPrefixOf t=true:=hp;have:=(List.isPrefixOf_iff_prefix.1 hpre).length_le;have h2:=h x (by simp);exact ⟨rfl,rfl,by show (0:Int)<(x.length:Int);omega,by show (x.length:Int)≤_;omega⟩
    exact pW t r fun y hy=>h y (by simp [hy])
theorem Zz (s:A1):∀(n i:Nat) (b:A1),i≤s.length→0≤(I7 s n i b).pos∧(I7 s n i b).pos≤s.length∧0≤(I7 s n i b).bytes∧(I7 s n i b).bytes≤s.length
  | 0,i,b,_=>by simp [I7,Pj]
  | n+1,i,b,hi=>by
    unfold I7;split
    · rename_i h;simp at h
      split
      · split
        · simp [Pj]
        simp [oX];omega
      · split
        · split
          · simp [Pj];omega
          · rename_i h3
            have he:=oA (s.drop i);rw [Jf] at he;exact Zz s n _ _ (by omega)
        · split
          · simp [Pj];omega
          exact Zz s n _ _ (by omega)
    simp [Pj]
theorem rU (t:A1)(h0:0<t.length):0≤(Dr t).pos∧(Dr t).pos≤t.length∧0≤(Dr t).bytes∧(Dr t).bytes≤t.length∧((Dr t).err=0→0<(Dr t).bytes):=by
 have hit:∀f:Fo,Pp f=true→(f.err=0→0<f.bytes):=fun f h e=>by
  unfold Pp at h;rw [e] at h;simpa using h
 unfold Dr;split
 ·
  rename_i h;have:=Od Jr t;refine ⟨?_,?_,?_,?_,hit _ h⟩ <;> (unfold Mm;split <;> (try split) <;> simp [foZ,Pj,oX,Mh] <;> omega)
 split
 ·
  rename_i h;have:=Od Dz t;refine ⟨?_,?_,?_,?_,hit _ h⟩ <;> (unfold Hh;split <;> (try split) <;> (try split) <;> simp [foZ,Pj,oX,Mh] <;> omega)
 split
 ·
  rename_i h
  have hl:0≤(Li t).pos∧(Li t).pos≤t.length∧0≤(Li t).bytes∧(Li t).bytes≤t.length:=by
   unfold Li;split
   · simp [foZ]
   exact Zz t _ _ _ (by omega)
  exact ⟨hl.1,hl.2.1,hl.2.2.1,hl.2.2.2,hit _ h⟩
 rcases pW t iD (by decide) with h | h
 · unfold Xq;rw [h.1,h.2.1,h.2.2];simp
 unfold Xq;rw [h.1,h.2.1];omega
theorem Ry {s:A1}{n i:Nat}{out:List Tok}(h:0<n):Jn s n i out =
  if decide ((i:Int)<(s.length:Int)) then
   if decide (0<S8 (s.drop i)) then Jn s (n-1) (i+(S8 (s.drop i)).toNat) out
   else if ((Dr (s.drop i)).err != 0) then (([],(i:Int)+(Dr (s.drop i)).pos,(Dr (s.drop i)).err):List Tok×Int×Int)
   else Jn s (n-1) (i+(Dr (s.drop i)).bytes.toNat) (out ++ [⟨(Dr (s.drop i)).tok.kind,(Dr (s.drop i)).tok.text,i⟩])
  else (out,0,0):=by
 cases n with
 | zero=>omega
 | succ n=>rfl
theorem tok_next {es:List (List AV)}{out:List Tok}(h:es=out.map jW)(t:Tok):es ++ [[AV.int .i64 t.kind,.str t.text,.int .i64 t.pos]]=(out ++ [t]).map jW:=by rw [h,Tq];rfl
theorem sc_tok (l:List Tok):∀x∈l.map jW,Bc x=true:=mT fun _=>rfl
def cScan (p:List Tok×Int×Int):AV:=.tuple [.sl 3 (p.1.map jW),.int .i64 p.2.1,.int .i64 p.2.2]

theorem c13 (s:A1)(hl:s.length≤1048576):An Tryz.prog 154 [.str s] (cScan (H8 s)):=by
 refine An.body (n:=51) tok Tryz.func154 rfl rfl rfl fun H=>?_
 refine Ad (Qp (Be (z:=3) rfl) (Qp Al (Qp Al (Ae (Rd (Qp D2 (Qp (Bx tok rfl rfl rfl rfl) (Qp Do (Ae (Ao (fun hc1=>Ad (Qp (Be (z:=3) rfl) (Qp Al (Qp Al (Rc ?_))))) fun hc1=>A7 (Ad (Qp Qk ?_))))))))))))
 ·
  refine ⟨.inr rfl,[.sl _ _,Iq _,Iq _],.cons (.tmp _ _ rfl) <| .cons (.tmp _ _ rfl) <| .cons (.tmp _ _ rfl) <| .nil,.refl _,?_⟩;have h9:H8 s=([],0,13):=by unfold H8;rw [if_pos hc1]
  rw [h9];rfl
 refine AOL.ghost (GS.row (t:=5) 254 3 rfl) ?_;refine Ae (Rd (Qp Al (Ae (AW.block ?_))));refine AW.Aam (fun (p:Nat×Nat×List Tok×List (List AV)×Value)=>(⟨[(0,.str s),(5,.row p.2.2.2.2 3 p.2.2.2.1),(6,.int .i64 (p.2.1:Int))],.row p.2.2.2.2 p.2.2.2.1.length 254 3::H,51⟩:St)) (fun p=>p.2.1≤s.length∧s.length<p.1+p.2.1∧p.2.2.2.1=p.2.2.1.map jW∧p.2.2.1.length≤p.2.1∧Jn s (s.length+1) 0 []=Jn s p.1 p.2.1 p.2.2.1) (fun p=>p.1) ((s.length+1,0,[],[],.slice none 0 0)) ?_ Bv ?_
 · exact ⟨Dh _,by simp only;omega,rfl,Dh _,rfl⟩
 rintro p hR;have hle:p.2.1≤s.length:=hR.1;have hfu:s.length<p.1+p.2.1:=hR.2.1;have hes:p.2.2.2.1=p.2.2.1.map jW:=hR.2.2.1;have hbl:p.2.2.1.length≤p.2.1:=hR.2.2.2.1;have hn:0<p.1:=by omega
 have hsc:∀c∈p.2.2.2.1,Bc c=true:=by rw [hes];exact sc_tok _
 have hel:p.2.2.2.1.length≤s.length:=by rw [hes,D9];omega
 refine Rd (Qp Am (Qp D2 (Qp (Bx tok rfl rfl rfl rfl) (Qp Bp (Ae (Ao (fun hc2=>?_) fun hc2=>AW.exit ?_))))))
 ·
  have hi:p.2.1<s.length:=by simp at hc2;omega
  have hsp:=vH (s.drop p.2.1);have hnx:=rU (s.drop p.2.1) (by rw [Jf];omega);rw [Jf] at hsp hnx;have hsp1:=hsp.1;have hsp2:=hsp.2 (by omega);have hn1:=hnx.1;have hn2:=hnx.2.1;have hn3:=hnx.2.2.1;have hn4:=hnx.2.2.2.1;refine A7 (AW.block (Rd (Qp D2 (Qp Am (Qp (I5 (l:=p.2.1) (h:=s.length) tok rfl rfl rfl (⟨_,rfl⟩) (rfl) (hle) (C6 _) (congrArg (List.drop _) bH)) ?_)))));refine Qp (Qc rfl (c32 (s.drop p.2.1) (by rw [Jf];omega) (by rw [Jf];omega))) ?_;refine Qp Al (Bs (Qp Am (Qp Do (Ae (Ao (fun hc3=>?_) fun hc3=>A7 (Ad (Qp D2 (Qp Am (Qp (I5 (l:=p.2.1) (h:=s.length) tok rfl rfl rfl (⟨_,rfl⟩) (rfl) (hle) (C6 _) (congrArg (List.drop _) bH)) ?_)))))))))
  ·
   have hpos:0<(S8 (s.drop p.2.1)):=by simpa using hc3
   refine Ad (Qp Am (Qp Am (Qp Dl (Qp Al (Ae (AW.exit (Ri ?_)))))));refine ⟨(p.1-1,p.2.1+(S8 (s.drop p.2.1)).toNat,p.2.2.1,p.2.2.2.1,p.2.2.2.2),?_,?_,GS.weaken ⟨rfl,rfl,congrArg (AV.int .i64) (by simp only;omega),trivial⟩ (.refl _)⟩
   · exact ⟨by simp only;omega,by simp only;omega,hes,by simp only;omega,hR.2.2.2.2.trans (by rw [Ry hn,if_pos hc2,if_pos hc3])⟩
   simp only;omega
  refine Qp (Qc rfl (c33 (s.drop p.2.1) (by rw [Jf];omega) (by rw [Jf];omega))) ?_;refine Dt gix fun b8=>?_
  refine Bt 0 K2 (_::_::_) (Ae (Rd (Qp Cc (AOL.Aan (Af (k:=0) (c:=Iq _) tok rfl rfl rfl rfl) rfl rfl (Qp Bu (Ae (Ao (fun hc4=>AW.seq ?_) fun hc4=>?_)))))))
  ·
   refine AW.draw mixed (fun H'=>_∈H') (B6 (i:=0) rfl) (by kernel_rfl) ?_;refine Qn 0 rfl Am (Qn 1 rfl Cc (Qn 2 rfl (OpP.Aap (fun k=>Af (k:=k) (c:=Iq _) tok rfl rfl rfl rfl) (fun _ h=>h)) ?_));refine Qn 3 rfl Dl (Qn 4 rfl Cc (Qn 5 rfl (OpP.Aap (fun k=>Af (k:=k) (c:=Iq _) tok rfl rfl rfl rfl) (fun _ h=>h)) ?_));refine Qn 6 rfl (Be (z:=3) rfl) (Qn 7 rfl Al (Qn 8 rfl Al ?_));refine Ej ?_;refine A5 (Su (B9 (Av (B9 (Av ?_)))));refine ⟨.inr rfl,[.sl _ _,Iq _,Iq _],.cons (.tmp _ _ rfl) <| .cons (.tmp _ _ rfl) <| .cons (.tmp _ _ rfl) <| .nil,.cons _ (.cons _ (.refl _)),?_⟩
   have h9:H8 s=([],(p.2.1:Int)+(Dr (s.drop p.2.1)).pos,(Dr (s.drop p.2.1)).err):=by
    unfold H8;rw [iN hc1,hR.2.2.2.2,Ry hn,if_pos hc2,iN hc3,if_pos hc4]
   rw [h9];rfl
  have hpos:=hnx.2.2.2.2 (by simpa using hc4);refine A7 (Ad (Qp Am (Qp Cc (Qp Cc ?_))));refine Bt 0 K2 (_::_::_) (Bs (Qp (A0 (v:=.row _ _ _) rfl) (Qp Cc (AOL.Aan (A2 (k:=0) (l:=lJ) tok rfl rfl rfl rfl rfl) rfl rfl (Qp (Ak (es:=[lJ]) tok rfl rfl rfl rfl rfl rfl rfl rfl rfl) ?_)))));refine Qe (B8 (k:=1) tok rfl rfl rfl rfl rfl rfl rfl rfl (Dy rfl) (hsc) (by simp;omega) (by simp [maxLen];omega)) ?_;rintro _ _ ⟨v45,rfl,rfl⟩;refine Qp (A8 (v:=.row _ _ _) rfl) (Ae (AW.region (Qp Am (Qp Cc (AOL.Aan (Af (k:=0) (c:=Iq _) tok rfl rfl rfl rfl) rfl rfl (Qp Dl (Qp Al (Rk ?_))))))));refine ⟨(p.1-1,p.2.1+(Dr (s.drop p.2.1)).bytes.toNat,p.2.2.1 ++ [⟨(Dr (s.drop p.2.1)).tok.kind,(Dr (s.drop p.2.1)).tok.text,p.2.1⟩],p.2.2.2.1 ++ [[.int .i64 (Dr (s.drop p.2.1)).tok.kind,.str (Dr (s.drop p.2.1)).tok.text,.int .i64 (p.2.1:Int)]],v45),?_,?_,GS.weaken ⟨rfl,rfl,congrArg (AV.int .i64) (by simp only;omega),trivial⟩ (.cons _ (.refl _))⟩
  · exact ⟨by simp only;omega,by simp only;omega,tok_next hes ⟨(Dr (s.drop p.2.1)).tok.kind,(Dr (s.drop p.2.1)).tok.text,p.2.1⟩,by simp only [Cb,Cj,Cw];omega,hR.2.2.2.2.trans (by rw [Ry hn,if_pos hc2,iN hc3,iN hc4])⟩
  simp only;omega
 refine Bk (Ri (Ad ?_));refine AOL.ghost (GS.unrow 5 rfl) ?_;refine Qp Fh (Qp Sr (Qp Al (Qp Al (Rb ?_))));refine ⟨.inr rfl,[.sl _ _,Iq _,Iq _],.cons (.tmp _ _ rfl) <| .cons (.tmp _ _ rfl) <| .cons (.tmp _ _ rfl) <| .nil,.cons _ (.refl _),?_⟩
 have h9:H8 s=(p.2.2.1,0,0):=by
  unfold H8;rw [iN hc1,hR.2.2.2.2,Ry hn,iN hc2]
 rw [h9];simp only [Ag,cScan,hes]

def cTokR (r:Tok×Int×Int):AV:=.tuple [.agg (cTok r.1),.int .i64 r.2.1,.int .i64 r.2.2]



theorem get_ex {α:Type}{l:List α}{k:Nat}(h:k<l.length):∃x,l[k]? = some x:=⟨_,List.getElem?_eq_getElem h⟩
def sameS (a b:List Tok):Bool:=decide (a=b)


end Go.Proofs.YtckhoadldibflaaGreatDoor
