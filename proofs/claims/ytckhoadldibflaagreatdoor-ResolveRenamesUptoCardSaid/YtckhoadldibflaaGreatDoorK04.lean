/-
  Several texts in one: W5, W6, W7, W8, W9, V1. No condition.
-/
import Derived.Test.YtckhoadldibflaaGreatDoorK01
import Derived.Test.YtckhoadldibflaaGreatDoorK03
import Derived.KernelRfl
import Derived.Test.YtckhoadldibflaaGreatDoorK02
set_option linter.unusedVariables false
set_option linter.unusedSimpArgs false
namespace Go.Proofs.YtckhoadldibflaaGreatDoor
open Go Go.Aw
set_option maxHeartbeats 400000
set_option maxRecDepth 20000

theorem vW (k:Nat)(h:k<17):Jo[k]? = some (.str (gV.getD k [])):=by
 have e:Jo=gV.map AV.str:=rfl;rw [e,List.getElem?_map];have h':k<gV.length:=h;simp [N2,List.getElem?_eq_getElem h']
theorem qV {s:Am}{k:Nat}(h:k<17)(hc:Lib.hasPrefix s (gV.getD k [])=false):F3 s (gV.drop k)=F3 s (gV.drop (k+1)):=by
 have h':k<gV.length:=h;rw [Wt h'];have e:gV.getD k []=gV[k]:=by simp [N2,List.getElem?_eq_getElem h']
 rw [e] at hc;rw [F3,iN hc]
theorem rH {s:Am}{k:Nat}(h:k<17)(hc:Lib.hasPrefix s (gV.getD k [])=true):F3 s (gV.drop k)=kK 3 (gV.getD k []) (gV.getD k []).length:=by
 have h':k<gV.length:=h;rw [Wt h'];have e:gV.getD k []=gV[k]:=by simp [N2,List.getElem?_eq_getElem h']
 rw [e] at hc ⊢;rw [F3,if_pos hc]

theorem c54 (s:Am)(hl:s.length≤1048576)(h0:0<s.length):Ap Tryz.prog 276 [.str s] (.agg (cFo (L2 s))):=by
 refine Ap.body (n:=20) tok Tryz.func276 rfl rfl rfl fun H=>?_
 refine Ae (Ed yZ fun b2=>Ag (Bk (Qp Gj ?_)));refine Qp (B3 tok rfl rfl rfl rfl (by omega) (Gt (i:=0) h0)) ?_;refine Qp (Qc rfl (c43 _)) (Qp Et (Ag (Aq (fun hc1=>Ae (Qp (E4 Jw) ?_)) fun hc1=>Bg (Ae (Qp Gj ?_)))))
 ·
  refine Bt 0 Jw (_::_) (Rc ?_);refine ⟨.inr rfl,[.agg Jw],.cons (.box _ _ _ 0 _ _ _ _ rfl rfl rfl rfl rfl rfl) <| .nil,.cons _ (.refl _),?_⟩;simp only [Ai,L2];rw [if_pos hc1];rfl
 refine Qp (Qc rfl (c38 s hl 302 Kn (by kernel_rfl) c69)) ?_;refine Qp Al (Ag (Bk (Qp Ao (Qp Ej (Ag (Aq (fun hc2=>Ae (Qp (E4 Jw) ?_)) fun hc2=>Bg (Ae (Qp Gj (Qp Ao (Qp (Ic (l:=0) (h:=Di Kn s) tok rfl rfl rfl (rfl) (⟨_,rfl⟩) (E2 _) (Ns _ _) (Tm)) (Qp (E4 jB) (Qp Ao (Qp (E4 Jw) ?_)))))))))))))
 ·
  refine Bt 0 Jw (_::_) (Rc ?_);refine ⟨.inr rfl,[.agg Jw],.cons (.box _ _ _ 0 _ _ _ _ rfl rfl rfl rfl rfl rfl) <| .nil,.cons _ (.refl _),?_⟩;simp only [Ai,L2];rw [iN hc1];rw [if_pos hc2];rfl
 refine Bt 0 Jw (_::_) (Rb ?_);refine ⟨.inr rfl,[.agg Jw],.cons (.box _ _ _ 0 _ _ _ _ rfl rfl rfl rfl rfl rfl) <| .nil,.cons _ (.refl _),?_⟩;simp only [Ai,L2];rw [iN hc1];rw [iN hc2];rfl
theorem c55 (s:Am)(hl:s.length≤1048576)(h0:0<s.length):Ap Tryz.prog 277 [.str s] (.agg (cFo (Gy s))):=by
 refine Ap.body (n:=40) tok Tryz.func277 rfl rfl rfl fun H=>?_
 refine Ae (Ed yZ fun b2=>Bs (Qp Gj ?_));refine Qp (Qc rfl (c38 s hl 141 Da (by kernel_rfl) c39)) ?_;refine Qp Al (Ag (Bk (Qp Ao (Qp Av (Ag (Aq (fun hc1=>Ae (Qp (E4 Jw) ?_)) fun hc1=>Bg (Bk (Qp Gj (Qp Ao (Qp (Ic (l:=0) (h:=Di Da s) tok rfl rfl rfl (rfl) (⟨_,rfl⟩) (E2 _) (Ns _ _) (Tm)) ?_))))))))))
 ·
  refine Bt 0 Jw (_::_) (Rc ?_);refine ⟨.inr rfl,[.agg Jw],.cons (.box _ _ _ 0 _ _ _ _ rfl rfl rfl rfl rfl rfl) <| .nil,.cons _ (.refl _),?_⟩;simp only [Ai,Gy];rw [if_pos hc1];rfl
 refine Qp (Qc rfl (c18 (s.take (Di Da s)) (by rw [Me];omega))) ?_;refine Qp N4 (Qp Iu (Qp Iu (Qp Al (Qp Al (Bs (Qp Ao (Qp Br (Ag (Aq (fun hc2=>Ae (Qp Ao (Qp (E4 Jw) ?_))) fun hc2=>Bg (Bk (Qp Ao (Qp Gj (Qp (B8 tok rfl rfl rfl rfl) (Qp Bx (Qp A9 (Qg [] Qw Gj (Qg [] Qw Ao ?_)))))))))))))))))
 ·
  refine Bt 0 Jw (_::_) (Rc ?_);refine ⟨.inr rfl,[.agg Jw],.cons (.box _ _ _ 0 _ _ _ _ rfl rfl rfl rfl rfl rfl) <| .nil,.cons _ (.refl _),?_⟩;simp only [Ai,Gy];rw [iN hc1];rw [if_pos hc2];rfl
 refine AOL.g (y:=.int .u8 _) _ [(27,_),(28,_)] rfl (qZ.all ⟨Ent.Aad _ _,Ent.Aad _ _,trivial⟩) (fun hG=>B3 tok rfl rfl rfl rfl (by omega) (Gt (i:=Di Da s) (by have h9:=g1 hG;simp at h9;exact h9))) rfl ?_;refine Qg [(29,_)] Qw (Qc rfl (c43 _)) (Qp E0 (Ag (Aq (fun hc3=>Ae (Qp Ao (Qp (E4 Jw) ?_))) fun hc3=>Bg (Ae (Qp Gj (Qp Ao (Qp (Ic (l:=0) (h:=Di Da s) tok rfl rfl rfl (rfl) (⟨_,rfl⟩) (E2 _) (Ns _ _) (Tm)) (Qp (E4 jB) (Qp Ao (Qp (E4 Jw) ?_))))))))))
 ·
  refine Bt 0 Jw (_::_) (Rc ?_);refine ⟨.inr rfl,[.agg Jw],.cons (.box _ _ _ 0 _ _ _ _ rfl rfl rfl rfl rfl rfl) <| .nil,.cons _ (.refl _),?_⟩;simp only [Ai,Gy];rw [iN hc1];rw [iN hc2];rw [if_pos hc3];rfl
 refine Bt 0 Jw (_::_) (Rb ?_);refine ⟨.inr rfl,[.agg Jw],.cons (.box _ _ _ 0 _ _ _ _ rfl rfl rfl rfl rfl rfl) <| .nil,.cons _ (.refl _),?_⟩;simp only [Ai,Gy];rw [iN hc1];rw [iN hc2];rw [iN hc3];rfl
theorem c57 (s:Am):Ap Tryz.prog 279 [.str s] (.agg (cFo (Wc s))):=by
 refine Ap.body (n:=19) tok Tryz.func279 rfl rfl rfl fun H=>?_
 refine Ae (Ed yZ fun b2=>Ag (Bk ?_));refine Qp (Vh (l:=Jo) tok (⟨_,by simp [globals],fun _ h=>h⟩) rfl rfl rfl rfl) ?_;refine Qp Ao (Ag (AW.block ?_));refine AW.Aag (fun (k:Nat)=>(⟨[(0,.str s),(2,.val (.pointer (some ⟨b2,0,none⟩))),(5,.agg Jo),(6,.int .i64 (k:Int))],.box b2 256 yZ::H,19⟩:St)) (fun k=>k≤17∧Wc s=F3 s (gV.drop k)) (fun k=>17-k) (0) ?_ Cs ?_
 · exact ⟨E2 _,rfl⟩
 rintro k hR;refine Ae (Qp Bx (Re (Aq (fun hc1=>?_) fun hc1=>?_)))
 ·
  have hk:k<17:=by simp at hc1;omega
  refine Bg (AW.seq (AW.block (Ae ?_)));refine Qp (eY (c:=.str (gV.getD k [])) tok rfl rfl rfl rfl rfl rfl rfl (by omega) (by omega) (vW k hk)) ?_;refine Qp Tu (Bs (Qp Gj (Qp Gj (Qp (Qc rfl (k28 _ _)) (Ag (Aq (fun hc2=>Ae (Qp Gj (Qp (E4 jB) (Qp Gj (Qp (B8 tok rfl rfl rfl rfl) (Qp (E4 Jw) ?_)))))) fun hc2=>Rf (AW.region (Qp E9 (Qp Ao (Ag ?_))))))))))
  ·
   refine Bt 0 Jw (_::_) (Ra (Be (Db (Be ?_))));refine ⟨.inr rfl,[.agg Jw],.cons (.box _ _ _ 0 _ _ _ _ rfl rfl rfl rfl rfl rfl) <| .nil,.cons _ (.refl _),?_⟩;have h9:=hR.2.trans (rH hk hc2);rw [h9];rfl
  refine ⟨k+1,?_,?_,Cs⟩
  · exact ⟨hk,hR.2.trans (qV hk hc2)⟩
  omega
 have hk:k=17:=by simp at hc1;have:=hR.1;omega
 refine AW.exit ?_;refine Bq (Ri (Ae (Qp (E4 Jw) ?_)));refine Bt 0 Jw (_::_) (Rb ?_);refine ⟨.inr rfl,[.agg Jw],.cons (.box _ _ _ 0 _ _ _ _ rfl rfl rfl rfl rfl rfl) <| .nil,.cons _ (.refl _),?_⟩;have h9:Wc s=Oo 0 4:=by rw [hR.2,hk];rfl
 rw [h9];rfl
set_option maxHeartbeats 800000
set_option maxRecDepth 100000

theorem La {s:Am}{n i:Nat}{b:Am}(h:0<n):If s n i b =
  if decide ((i:Int)<(s.length:Int)) then
   if (((bt s i).toNat:Int)==34) then
    if decide (64<(b.length:Int)) then Oo 0 13 else kK 2 b ((i:Int)+1)
   else if (((bt s i).toNat:Int)==92) then
    if ((Kf (s.drop i)).2==0) then Oo i 4 else If s (n-1) (i+(Kf (s.drop i)).2.toNat) (b ++ [(Kf (s.drop i)).1])
   else if (decide (((bt s i).toNat:Int)<32)||decide (126<((bt s i).toNat:Int))) then Oo i 4
   else If s (n-1) (i+1) (b ++ [bt s i])
  else Oo s.length 4:=by
 cases n with
 | zero=>omega
 | succ n=>rfl
theorem mE (t:Am):0≤(Kf t).2∧(Kf t).2≤t.length:=by
 unfold Kf;split
 · rename_i h;simp at h;simp;omega
 split
 ·
  rename_i h;simp at h;split <;> simp;omega
 simp
theorem mH (b:Am)(c:UInt8):Ci (b ++ [c])=Ci b ++ [[AV.int .u8 (c.toNat:Int)]]:=Mg b [c]
theorem jT {es:List (List AV)}{b:Am}(h:es=Ci b)(c:UInt8):es ++ [[AV.int .u8 (c.toNat:Int)]]=Ci (b ++ [c]):=by rw [h,mH]
theorem iY {b:Am}{n m:Nat}(h:b.length≤n)(hm:n<m)(c:UInt8):(b ++ [c]).length≤m:=by simp;omega
def recL:List (List AV):=[[.fn (.func 276) [] []],[.fn (.func 277) [] []],[.fn (.func 278) [] []]]
def pS:Nat→Am→Fo
 | 0,s=>L2 s
 | 1,s=>Gy s
 | _,s=>Kw s
theorem rec_get (k:Nat)(h:k<3):recL[k]? = some [.fn (.func (276+k)) [] []]:=by
 match k,h with
 | 0,_=>rfl
 | 1,_=>rfl
 | 2,_=>rfl
theorem rec_fn (k:Nat)(h:k<3):Sj Tryz.prog (276+k)=true:=by
 match k,h with
 | 0,_=>exact (by kernel_rfl:Sj Tryz.prog 276=true)
 | 1,_=>exact (by kernel_rfl:Sj Tryz.prog 277=true)
 | 2,_=>exact (by kernel_rfl:Sj Tryz.prog 278=true)
theorem xE {s:Am}{k:Nat}(h:k<3)(hk:∀j,j<k→Ov (pS j s)=false)(hc:Ov (pS k s)=true):Cr s=pS k s:=by
 unfold Cr
 match k,h with
 | 0,_=>rw [if_pos (show Ov (L2 s)=true from hc)];rfl
 | 1,_=>rw [if_neg (zz53.mp (show Ov (L2 s)=false from hk 0 (by omega))),if_pos (show Ov (Gy s)=true from hc)];rfl
 | 2,_=>rw [if_neg (zz53.mp (show Ov (L2 s)=false from hk 0 (by omega))),if_neg (zz53.mp (show Ov (Gy s)=false from hk 1 (by omega))),if_pos (show Ov (Kw s)=true from hc)];rfl
theorem qK {s:Am}(hk:∀j,j<3→Ov (pS j s)=false):Cr s=Wc s:=by
 unfold Cr;rw [if_neg (zz53.mp (show Ov (L2 s)=false from hk 0 (by omega))),if_neg (zz53.mp (show Ov (Gy s)=false from hk 1 (by omega))),if_neg (zz53.mp (show Ov (Kw s)=false from hk 2 (by omega)))]

theorem c56 (s:Am)(hl:s.length≤1048576)(h0:0<s.length):Ap Tryz.prog 278 [.str s] (.agg (cFo (Kw s))):=by
 refine Ap.body (n:=71) tok Tryz.func278 rfl rfl rfl fun H=>?_
 refine Ae (Ed yZ fun b2=>Ag (Bk (Qp Gj ?_)));refine Qp (B3 tok rfl rfl rfl rfl (by omega) (Gt (i:=0) h0)) ?_;refine Qp Br (Ag (Aq (fun hc1=>Ae (Qp (E4 Jw) ?_)) fun hc1=>Bg (Ae (Qp Ua ?_))))
 ·
  refine Bt 0 Jw (_::_) (Rc ?_);refine ⟨.inr rfl,[.agg Jw],.cons (.box _ _ _ 0 _ _ _ _ rfl rfl rfl rfl rfl rfl) <| .nil,.cons _ (.refl _),?_⟩;simp only [Ai,Kw];rw [if_pos hc1];rfl
 refine AOL.ghost (GS.row (t:=3) 5 1 rfl) ?_;refine Ag (Bk (Qp Al (Ag (AW.block ?_))));refine AW.Aag (fun (p:Nat×Nat×Am×List (List AV)×Value)=>(⟨[(0,.str s),(2,.val (.pointer (some ⟨b2,0,none⟩))),(3,.row p.2.2.2.2 1 p.2.2.2.1),(4,.int .i64 (p.2.1:Int))],.row p.2.2.2.2 p.2.2.2.1.length 5 1 :: .box b2 256 yZ::H,71⟩:St)) (fun p=>p.2.1≤s.length∧s.length<p.1+p.2.1∧p.2.2.2.1=Ci p.2.2.1∧p.2.2.1.length≤p.2.1∧If s (s.length+1) 1 []=If s p.1 p.2.1 p.2.2.1) (fun p=>p.1) ((s.length+1,1,[],[],.slice none 0 0)) ?_ Cs ?_
 · exact ⟨h0,by simp only;omega,rfl,E2 _,rfl⟩
 rintro p hR;have hle:p.2.1≤s.length:=hR.1;have hfu:s.length<p.1+p.2.1:=hR.2.1;have hes:p.2.2.2.1=Ci p.2.2.1:=hR.2.2.1;have hbl:p.2.2.1.length≤p.2.1:=hR.2.2.2.1;have hn:0<p.1:=by omega
 have hsc:∀c∈p.2.2.2.1,Bb c=true:=by rw [hes];exact fG _
 have hel:p.2.2.2.1.length≤s.length:=by rw [hes,Mr];omega
 refine Bk (Qp Ao (Qp Gj (Qp (B8 tok rfl rfl rfl rfl) (Qp Bx (Ag (Aq (fun hc2=>?_) fun hc2=>AW.exit ?_))))))
 ·
  have hi:p.2.1<s.length:=by simp at hc2;omega
  have hel2:=mE (s.drop p.2.1);rw [Ji] at hel2;refine Bg (AW.block (Ae (Qp Gj (Qp Ao ?_))));refine Qp (B3 tok rfl rfl rfl rfl (by omega) (Gt (i:=p.2.1) hi)) ?_;refine Qp (A6 (v:=.int .u8 _) rfl) (Ag (AW.block (Ae (Qp (A1 (v:=.int .u8 _) rfl) (Qp Av (Qp A0 (Ag (Aq (fun hc3=>Bk (Qp (A1 (v:=.row _ _ _) rfl) ?_)) fun hc3=>Ae (Qp (A1 (v:=.int .u8 _) rfl) (Qp Av (Qp A0 (Ag (Aq (fun hc5=>Ae (Qp Gj (Qp Ao (Qp (Ic (l:=p.2.1) (h:=s.length) tok rfl rfl rfl (⟨_,rfl⟩) (rfl) (hle) (C4 _) (congrArg (List.drop _) mA)) ?_)))) fun hc5=>Ae (Qp (A1 (v:=.int .u8 _) rfl) (Qp Bx (Qp A9 (AOL.g (y:=.int .u8 _) _ [] rfl (qZ.all trivial) (fun hG=>A1 (v:=.int .u8 _) rfl) rfl ?_)))))))))))))))))
  ·
   refine Qp (Hk (n:=p.2.2.1.length) tok rfl rfl rfl (by rw [hes,Mr])) ?_;refine Qp Ej (Ag (Aq (fun hc4=>Ae (Qp (E4 Jw) ?_)) fun hc4=>Bg (Ae (Qp (A1 (v:=.row _ _ _) rfl) ?_))))
   ·
    refine Bt 1 Jw (_::_::_) (Rc (Db (Db (Be (Db (Be ?_))))));refine ⟨.inr rfl,[.agg Jw],.cons (.box _ _ _ 1 _ _ _ _ rfl rfl rfl rfl rfl rfl) <| .nil,.cons _ (.cons _ (.refl _)),?_⟩
    have h9:Kw s=Oo 0 13:=by
     unfold Kw;rw [iN hc1,hR.2.2.2.2,La hn,if_pos hc2,if_pos hc3,if_pos hc4]
    rw [h9];rfl
   refine Qp (Yj (s:=p.2.2.1) tok rfl rfl rfl rfl rfl rfl rfl (by simp [maxLen];omega) (yH hes)) ?_;refine Qp (E4 jB) (Qp Ao (Qp E9 (Qp (E4 Jw) ?_)));refine Bt 1 Jw (_::_::_) (Rb (Db (Db (Be (Db (Be ?_))))));refine ⟨.inr rfl,[.agg Jw],.cons (.box _ _ _ 1 _ _ _ _ rfl rfl rfl rfl rfl rfl) <| .nil,.cons _ (.cons _ (.refl _)),?_⟩
   have h9:Kw s=kK 2 p.2.2.1 ((p.2.1:Int)+1):=by
    unfold Kw;rw [iN hc1,hR.2.2.2.2,La hn,if_pos hc2,if_pos hc3,iN hc4]
   rw [h9];rfl
  ·
   refine Qp (Qc rfl (c70 (s.drop p.2.1) (by rw [Ji];omega))) ?_;refine Qp N4 (Qp (B5 (v:=.int .u8 _) rfl rfl) (Qp Iu (Qp (A6 (v:=.int .u8 _) rfl) (Qp Al (Ag (Bk (Qp Ao (Qp Av (Ag (Aq (fun hc6=>Ae (Qp Ao (Qp (E4 Jw) ?_))) fun hc6=>?_))))))))))
   ·
    refine Bt 1 Jw (_::_::_) (Rc (Db (Db (Be (Db (Be ?_))))));refine ⟨.inr rfl,[.agg Jw],.cons (.box _ _ _ 1 _ _ _ _ rfl rfl rfl rfl rfl rfl) <| .nil,.cons _ (.cons _ (.refl _)),?_⟩
    have h9:Kw s=Oo p.2.1 4:=by
     unfold Kw;rw [iN hc1,hR.2.2.2.2,La hn,if_pos hc2,iN hc3,if_pos hc5,if_pos hc6]
    rw [h9];rfl
   have hne:(Kf (s.drop p.2.1)).2≠0:=by simpa using hc6
   refine Bg (Ae (Qp (A1 (v:=.row _ _ _) rfl) (Qp (A1 (v:=.int .u8 _) rfl) (Qp (Aj (es:=[[.int .u8 _]]) tok rfl rfl rfl rfl rfl rfl rfl rfl rfl) ?_))));refine Qe (Dh (k:=0) tok rfl rfl rfl rfl rfl rfl rfl rfl (Gu rfl) (hsc) (by simp;omega) (by simp [maxLen];omega)) ?_;rintro _ _ ⟨v55,rfl,rfl⟩;refine Qp (A6 (v:=.row _ _ _) rfl) (Ag (AW.region (Qp Ao (Qp Ao (Qp E9 (Qp Al (AOL.nil (I6 (I6 (Bh ?_))))))))));refine ⟨(p.1-1,p.2.1+(Kf (s.drop p.2.1)).2.toNat,p.2.2.1 ++ [(Kf (s.drop p.2.1)).1],p.2.2.2.1 ++ [[.int .u8 ((Kf (s.drop p.2.1)).1.toNat:Int)]],v55),?_,?_,GS.weaken ⟨rfl,rfl,rfl,congrArg (AV.int .i64) (by simp only;omega),trivial⟩ (.refl _)⟩
   · exact ⟨by simp only;omega,by simp only;omega,jT hes _,iY hbl (by simp only;omega) _,hR.2.2.2.2.trans (by rw [La hn,if_pos hc2,iN hc3,if_pos hc5,iN hc6])⟩
   simp only;omega
  refine Qg [(63,_)] Qw Ej (Qp B9 (Qp A0 (Ag (Aq (fun hc7=>Ae (Qp Ao (Qp (E4 Jw) ?_))) fun hc7=>Ae (Qp (A1 (v:=.row _ _ _) rfl) (Qp (A1 (v:=.int .u8 _) rfl) (Qp (Aj (es:=[[.int .u8 _]]) tok rfl rfl rfl rfl rfl rfl rfl rfl rfl) ?_)))))))
  ·
   refine Bt 1 Jw (_::_::_) (Rb (Db (Db (Be (Db (Be ?_))))));refine ⟨.inr rfl,[.agg Jw],.cons (.box _ _ _ 1 _ _ _ _ rfl rfl rfl rfl rfl rfl) <| .nil,.cons _ (.cons _ (.refl _)),?_⟩
   have h9:Kw s=Oo p.2.1 4:=by
    unfold Kw;rw [iN hc1,hR.2.2.2.2,La hn,if_pos hc2,iN hc3,iN hc5,if_pos hc7]
   rw [h9];rfl
  refine Qe (Dh (k:=0) tok rfl rfl rfl rfl rfl rfl rfl rfl (Gu rfl) (hsc) (by simp;omega) (by simp [maxLen];omega)) ?_;rintro _ _ ⟨v22,rfl,rfl⟩;refine Qp (A6 (v:=.row _ _ _) rfl) (Ag (AW.region (Qp Ao (Qp E9 (Qp Al (AOL.nil (I6 (I6 (Bh ?_)))))))));refine ⟨(p.1-1,p.2.1+1,p.2.2.1 ++ [bt s p.2.1],p.2.2.2.1 ++ [[.int .u8 ((bt s p.2.1).toNat:Int)]],v22),?_,?_,Cs⟩
  · exact ⟨by simp only;omega,by simp only;omega,jT hes _,iY hbl (by simp only;omega) _,hR.2.2.2.2.trans (by rw [La hn,if_pos hc2,iN hc3,iN hc5,iN hc7])⟩
  simp only;omega
 refine Bq (Ri (Ae (Qp Gj ?_)));refine Qp (B8 tok rfl rfl rfl rfl) (Qp (E4 Jw) ?_);refine Bt 1 Jw (_::_::_) (Rb ?_);refine ⟨.inr rfl,[.agg Jw],.cons (.box _ _ _ 1 _ _ _ _ rfl rfl rfl rfl rfl rfl) <| .nil,.cons _ (.cons _ (.refl _)),?_⟩
 have h9:Kw s=Oo s.length 4:=by
  unfold Kw;rw [iN hc1,hR.2.2.2.2,La hn,iN hc2]
 rw [h9];rfl
theorem sX (s:Am)(hl:s.length≤1048576)(h0:0<s.length)(k:Nat)(h:k<3):Ap Tryz.prog (276+k) [.str s] (.agg (cFo (pS k s))):=by
 match k,h with
 | 0,_=>exact c54 s hl h0
 | 1,_=>exact c55 s hl h0
 | 2,_=>exact c56 s hl h0

theorem c33 (s:Am)(hl:s.length≤1048576)(h0:0<s.length):Ap Tryz.prog 222 [.str s] (.agg (cFo (Cr s))):=by
 refine Ap.body (n:=27) tok Tryz.func222 rfl rfl rfl fun H=>?_
 refine Ae (Ed yZ fun b2=>Ag (Bk (Qp (Aj (es:=[[_],[_],[_]]) tok rfl rfl rfl rfl rfl rfl rfl rfl rfl) (Qp (Ah tok rfl rfl rfl rfl) (Qp Ao (Ag (AW.block ?_)))))));refine AW.Aag (fun (k:Nat)=>(⟨[(0,.str s),(2,.val (.pointer (some ⟨b2,0,none⟩))),(6,.sl 1 recL),(7,.int .i64 3),(8,.int .i64 (k:Int))],.box b2 256 yZ::H,27⟩:St)) (fun k=>k≤3∧∀j,j<k→Ov (pS j s)=false) (fun k=>3-k) (0) ?_ Cs ?_
 · exact ⟨E2 _,fun j hj=>absurd hj (Nat.not_lt_zero _)⟩
 rintro k hR;refine Ae (Qp Bx (Re (Aq (fun hc1=>?_) fun hc1=>?_)))
 ·
  have hk:k<3:=by simp at hc1;omega
  refine Bg (AW.seq (AW.block (Ae ?_)));refine Qp (Aa (c:=[.fn (.func (276+k)) [] []]) tok rfl rfl rfl rfl rfl rfl (by omega) (rec_get k hk)) ?_;refine Qp (Dj (c:=.fn _ _ _) tok rfl rfl rfl) (Qp (A6 (v:=.fn _ _ _) rfl) (Bs (Qp (A1 (v:=.fn _ _ _) rfl) (Qp Gj (Qp (Nj (rec_fn k hk) rfl rfl rfl (sX s hl h0 k hk)) (Ed yZ fun b5=>?_))))));refine Bt 0 Jw (_::_::_) ?_;refine AOL.ghost (GS.freeze (t:=5) 0 rfl rfl) ?_;refine Bs (Qp (Qf [Iq _,Iq _,Iq _]) (Qp Bi (Qp Ej (Qp A9 (Qg [] Qw (Qf [Iq _]) (Qg [(19,_)] Qw Bi (Qg [(20,_)] Qw Br (Qp B9 (Ag (Aq (fun hc2=>Ae (Qp (B0 Jw) ?_)) fun hc2=>Rf (AW.region (Qp E9 (Qp Ao (Ag ?_))))))))))))))
  ·
   refine Bt 0 Jw (_::_) (Ra (Be (Db (Be ?_))));refine ⟨.inr rfl,[.agg Jw],.cons (.box _ _ _ 0 _ _ _ _ rfl rfl rfl rfl rfl rfl) <| .nil,.cons _ (.refl _),?_⟩;rw [xE hk hR.2 hc2];rfl
  refine ⟨k+1,?_,?_,Cs⟩
  · exact ⟨hk,fun j hj=>by rcases Nat.lt_succ_iff_lt_or_eq.1 hj with h | rfl;exact hR.2 j h;exact hc2⟩
  omega
 have hk:k=3:=by simp at hc1;have:=hR.1;omega
 refine AW.exit ?_;refine Bq (Ri (Ae (Qp Gj ?_)));refine Qp (Qc rfl (c57 s)) ?_;refine Bt 0 Jw (_::_) (Rb ?_);refine ⟨.inr rfl,[.agg Jw],.cons (.box _ _ _ 0 _ _ _ _ rfl rfl rfl rfl rfl rfl) <| .nil,.cons _ (.refl _),?_⟩;have h9:Cr s=Wc s:=by subst hk;exact qK hR.2
 rw [h9];rfl
set_option maxHeartbeats 800000
set_option maxRecDepth 20000

theorem yL (t:Am):0≤N3 t∧(0<t.length→N3 t≤t.length):=by
 unfold N3;have:=Ns nI t;split
 · omega
 split <;> omega
theorem mY (t:Am):∀l:List Am,(∀x∈l,0<x.length)→(F3 t l).err=4∧(F3 t l).pos=0∧(F3 t l).bytes=0∨(F3 t l).err=0∧(F3 t l).pos=0∧0<(F3 t l).bytes∧(F3 t l).bytes≤t.length
  | [],_=>.inl ⟨rfl,rfl,rfl⟩
  | x::r,h=>by
    unfold F3;split
    · rename_i hp
      right;have hpre:x.isPrefixOf t=true:=hp;have:=(List.isPrefixOf_iff_prefix.1 hpre).length_le;have h2:=h x (by simp);exact ⟨rfl,rfl,by show (0:Int)<(x.length:Int);omega,by show (x.length:Int)≤_;omega⟩
    exact mY t r fun y hy=>h y (by simp [hy])
theorem Yw (s:Am):∀(n i:Nat) (b:Am),i≤s.length→0≤(If s n i b).pos∧(If s n i b).pos≤s.length∧0≤(If s n i b).bytes∧(If s n i b).bytes≤s.length
  | 0,i,b,_=>by simp [If,Oo]
  | n+1,i,b,hi=>by
    unfold If;split
    · rename_i h;simp at h
      split
      · split
        · simp [Oo]
        simp [kK];omega
      · split
        · split
          · simp [Oo];omega
          · rename_i h3
            have he:=mE (s.drop i);rw [Ji] at he;exact Yw s n _ _ (by omega)
        · split
          · simp [Oo];omega
          exact Yw s n _ _ (by omega)
    simp [Oo]
theorem pF (t:Am)(h0:0<t.length):0≤(Cr t).pos∧(Cr t).pos≤t.length∧0≤(Cr t).bytes∧(Cr t).bytes≤t.length∧((Cr t).err=0→0<(Cr t).bytes):=by
 have hit:∀f:Fo,Ov f=true→(f.err=0→0<f.bytes):=fun f h e=>by
  unfold Ov at h;rw [e] at h;simpa using h
 unfold Cr;split
 ·
  rename_i h;have:=Ns Kn t;refine ⟨?_,?_,?_,?_,hit _ h⟩ <;> (unfold L2;split <;> (try split) <;> simp [foZ,Oo,kK,Ll] <;> omega)
 split
 ·
  rename_i h;have:=Ns Da t;refine ⟨?_,?_,?_,?_,hit _ h⟩ <;> (unfold Gy;split <;> (try split) <;> (try split) <;> simp [foZ,Oo,kK,Ll] <;> omega)
 split
 ·
  rename_i h
  have hl:0≤(Kw t).pos∧(Kw t).pos≤t.length∧0≤(Kw t).bytes∧(Kw t).bytes≤t.length:=by
   unfold Kw;split
   · simp [foZ]
   exact Yw t _ _ _ (by omega)
  exact ⟨hl.1,hl.2.1,hl.2.2.1,hl.2.2.2,hit _ h⟩
 rcases mY t gV (by decide) with h | h
 · unfold Wc;rw [h.1,h.2.1,h.2.2];simp
 unfold Wc;rw [h.1,h.2.1];omega
theorem Rh {s:Am}{n i:Nat}{out:List Tok}(h:0<n):Iy s n i out =
  if decide ((i:Int)<(s.length:Int)) then
   if decide (0<N3 (s.drop i)) then Iy s (n-1) (i+(N3 (s.drop i)).toNat) out
   else if ((Cr (s.drop i)).err != 0) then (([],(i:Int)+(Cr (s.drop i)).pos,(Cr (s.drop i)).err):List Tok×Int×Int)
   else Iy s (n-1) (i+(Cr (s.drop i)).bytes.toNat) (out ++ [⟨(Cr (s.drop i)).tok.kind,(Cr (s.drop i)).tok.text,i⟩])
  else (out,0,0):=by
 cases n with
 | zero=>omega
 | succ n=>rfl
theorem wN {es:List (List AV)}{out:List Tok}(h:es=out.map fV)(t:Tok):es ++ [[AV.int .i64 t.kind,.str t.text,.int .i64 t.pos]]=(out ++ [t]).map fV:=by rw [h,aF];rfl
theorem sc_tok (l:List Tok):∀x∈l.map fV,Bb x=true:=dI fun _=>rfl
def cScan (p:List Tok×Int×Int):AV:=.tuple [.sl 3 (p.1.map fV),.int .i64 p.2.1,.int .i64 p.2.2]

theorem c13 (s:Am)(hl:s.length≤1048576):Ap Tryz.prog 154 [.str s] (cScan (G0 s)):=by
 refine Ap.body (n:=51) tok Tryz.func154 rfl rfl rfl fun H=>?_
 refine Ae (Qp (Ck (z:=3) rfl) (Qp Al (Qp Al (Ag (Bk (Qp Gj (Qp (B8 tok rfl rfl rfl rfl) (Qp Ej (Ag (Aq (fun hc1=>Ae (Qp (Ck (z:=3) rfl) (Qp Al (Qp Al (Rc ?_))))) fun hc1=>Bg (Ae (Qp Ua ?_))))))))))))
 ·
  refine ⟨.inr rfl,[.sl _ _,Iq _,Iq _],.cons (.tmp _ _ rfl) <| .cons (.tmp _ _ rfl) <| .cons (.tmp _ _ rfl) <| .nil,.refl _,?_⟩;have h9:G0 s=([],0,13):=by unfold G0;rw [if_pos hc1]
  rw [h9];rfl
 refine AOL.ghost (GS.row (t:=5) 254 3 rfl) ?_;refine Ag (Bk (Qp Al (Ag (AW.block ?_))));refine AW.Aag (fun (p:Nat×Nat×List Tok×List (List AV)×Value)=>(⟨[(0,.str s),(5,.row p.2.2.2.2 3 p.2.2.2.1),(6,.int .i64 (p.2.1:Int))],.row p.2.2.2.2 p.2.2.2.1.length 254 3::H,51⟩:St)) (fun p=>p.2.1≤s.length∧s.length<p.1+p.2.1∧p.2.2.2.1=p.2.2.1.map fV∧p.2.2.1.length≤p.2.1∧Iy s (s.length+1) 0 []=Iy s p.1 p.2.1 p.2.2.1) (fun p=>p.1) ((s.length+1,0,[],[],.slice none 0 0)) ?_ Cs ?_
 · exact ⟨E2 _,by simp only;omega,rfl,E2 _,rfl⟩
 rintro p hR;have hle:p.2.1≤s.length:=hR.1;have hfu:s.length<p.1+p.2.1:=hR.2.1;have hes:p.2.2.2.1=p.2.2.1.map fV:=hR.2.2.1;have hbl:p.2.2.1.length≤p.2.1:=hR.2.2.2.1;have hn:0<p.1:=by omega
 have hsc:∀c∈p.2.2.2.1,Bb c=true:=by rw [hes];exact sc_tok _
 have hel:p.2.2.2.1.length≤s.length:=by rw [hes,Dx];omega
 refine Bk (Qp Ao (Qp Gj (Qp (B8 tok rfl rfl rfl rfl) (Qp Bx (Ag (Aq (fun hc2=>?_) fun hc2=>AW.exit ?_))))))
 ·
  have hi:p.2.1<s.length:=by simp at hc2;omega
  have hsp:=yL (s.drop p.2.1);have hnx:=pF (s.drop p.2.1) (by rw [Ji];omega);rw [Ji] at hsp hnx;have hsp1:=hsp.1;have hsp2:=hsp.2 (by omega);have hn1:=hnx.1;have hn2:=hnx.2.1;have hn3:=hnx.2.2.1;have hn4:=hnx.2.2.2.1;refine Bg (AW.block (Bk (Qp Gj (Qp Ao (Qp (Ic (l:=p.2.1) (h:=s.length) tok rfl rfl rfl (⟨_,rfl⟩) (rfl) (hle) (C4 _) (congrArg (List.drop _) mA)) ?_)))));refine Qp (Qc rfl (c32 (s.drop p.2.1) (by rw [Ji];omega) (by rw [Ji];omega))) ?_;refine Qp Al (Bs (Qp Ao (Qp Ej (Ag (Aq (fun hc3=>?_) fun hc3=>Bg (Ae (Qp Gj (Qp Ao (Qp (Ic (l:=p.2.1) (h:=s.length) tok rfl rfl rfl (⟨_,rfl⟩) (rfl) (hle) (C4 _) (congrArg (List.drop _) mA)) ?_)))))))))
  ·
   have hpos:0<(N3 (s.drop p.2.1)):=by simpa using hc3
   refine Ae (Qp Ao (Qp Ao (Qp E9 (Qp Al (Ag (AW.exit (Ri ?_)))))));refine ⟨(p.1-1,p.2.1+(N3 (s.drop p.2.1)).toNat,p.2.2.1,p.2.2.2.1,p.2.2.2.2),?_,?_,GS.weaken ⟨rfl,rfl,congrArg (AV.int .i64) (by simp only;omega),trivial⟩ (.refl _)⟩
   · exact ⟨by simp only;omega,by simp only;omega,hes,by simp only;omega,hR.2.2.2.2.trans (by rw [Rh hn,if_pos hc2,if_pos hc3])⟩
   simp only;omega
  refine Qp (Qc rfl (c33 (s.drop p.2.1) (by rw [Ji];omega) (by rw [Ji];omega))) ?_;refine Ed yZ fun b8=>?_
  refine Bt 0 Jw (_::_::_) (Ag (Bk (Qp B7 (AOL.Aae (Ad (k:=0) (c:=Iq _) tok rfl rfl rfl rfl) rfl rfl (Qp Br (Ag (Aq (fun hc4=>AW.seq ?_) fun hc4=>?_)))))))
  ·
   refine AW.draw mixed (fun H'=>_∈H') (B4 (i:=0) rfl) (by kernel_rfl) ?_;refine Qn 0 rfl Ao (Qn 1 rfl B7 (Qn 2 rfl (OpP.Aah (fun k=>Ad (k:=k) (c:=Iq _) tok rfl rfl rfl rfl) (fun _ h=>h)) ?_));refine Qn 3 rfl E9 (Qn 4 rfl B7 (Qn 5 rfl (OpP.Aah (fun k=>Ad (k:=k) (c:=Iq _) tok rfl rfl rfl rfl) (fun _ h=>h)) ?_));refine Qn 6 rfl (Ck (z:=3) rfl) (Qn 7 rfl Al (Qn 8 rfl Al ?_));refine Hs ?_;refine Bh (rX (Db (Be (Db (Be ?_)))));refine ⟨.inr rfl,[.sl _ _,Iq _,Iq _],.cons (.tmp _ _ rfl) <| .cons (.tmp _ _ rfl) <| .cons (.tmp _ _ rfl) <| .nil,.cons _ (.cons _ (.refl _)),?_⟩
   have h9:G0 s=([],(p.2.1:Int)+(Cr (s.drop p.2.1)).pos,(Cr (s.drop p.2.1)).err):=by
    unfold G0;rw [iN hc1,hR.2.2.2.2,Rh hn,if_pos hc2,iN hc3,if_pos hc4]
   rw [h9];rfl
  have hpos:=hnx.2.2.2.2 (by simpa using hc4);refine Bg (Ae (Qp Ao (Qp B7 (Qp B7 ?_))));refine Bt 0 Jw (_::_::_) (Bs (Qp (A1 (v:=.row _ _ _) rfl) (Qp B7 (AOL.Aae (Ax (k:=0) (l:=jB) tok rfl rfl rfl rfl rfl) rfl rfl (Qp (Aj (es:=[jB]) tok rfl rfl rfl rfl rfl rfl rfl rfl rfl) ?_)))));refine Qe (Dh (k:=1) tok rfl rfl rfl rfl rfl rfl rfl rfl (Gu rfl) (hsc) (by simp;omega) (by simp [maxLen];omega)) ?_;rintro _ _ ⟨v45,rfl,rfl⟩;refine Qp (A6 (v:=.row _ _ _) rfl) (Ag (AW.region (Qp Ao (Qp B7 (AOL.Aae (Ad (k:=0) (c:=Iq _) tok rfl rfl rfl rfl) rfl rfl (Qp E9 (Qp Al (Rk ?_))))))));refine ⟨(p.1-1,p.2.1+(Cr (s.drop p.2.1)).bytes.toNat,p.2.2.1 ++ [⟨(Cr (s.drop p.2.1)).tok.kind,(Cr (s.drop p.2.1)).tok.text,p.2.1⟩],p.2.2.2.1 ++ [[.int .i64 (Cr (s.drop p.2.1)).tok.kind,.str (Cr (s.drop p.2.1)).tok.text,.int .i64 (p.2.1:Int)]],v45),?_,?_,GS.weaken ⟨rfl,rfl,congrArg (AV.int .i64) (by simp only;omega),trivial⟩ (.cons _ (.refl _))⟩
  · exact ⟨by simp only;omega,by simp only;omega,wN hes ⟨(Cr (s.drop p.2.1)).tok.kind,(Cr (s.drop p.2.1)).tok.text,p.2.1⟩,by simp only [D9,Ep,Ch];omega,hR.2.2.2.2.trans (by rw [Rh hn,if_pos hc2,iN hc3,iN hc4])⟩
  simp only;omega
 refine Bq (Ri (Ae ?_));refine AOL.ghost (GS.unrow 5 rfl) ?_;refine Qp G4 (Qp eN (Qp Al (Qp Al (Rb ?_))));refine ⟨.inr rfl,[.sl _ _,Iq _,Iq _],.cons (.tmp _ _ rfl) <| .cons (.tmp _ _ rfl) <| .cons (.tmp _ _ rfl) <| .nil,.cons _ (.refl _),?_⟩
 have h9:G0 s=(p.2.2.1,0,0):=by
  unfold G0;rw [iN hc1,hR.2.2.2.2,Rh hn,iN hc2]
 rw [h9];simp only [Ai,cScan,hes]

def cTokR (r:Tok×Int×Int):AV:=.tuple [.agg (cTok r.1),.int .i64 r.2.1,.int .i64 r.2.2]



theorem get_ex {α:Type}{l:List α}{k:Nat}(h:k<l.length):∃x,l[k]? = some x:=⟨_,List.getElem?_eq_getElem h⟩
def sameS (a b:List Tok):Bool:=decide (a=b)


set_option maxHeartbeats 400000
set_option maxRecDepth 20000

def okT (l:List Tok):Prop:=l.length≤1048576∧∀t∈l,t.text.length≤1048576
def O1 (st:PS):Prop:=okT st.toks
theorem tD {st:PS}(h:st.pos<st.toks.length):st.toks[st.pos]? = some (dA st):=by
 simp [dA,N2,List.getElem?_eq_getElem h]
theorem T8 {st:PS}(h:st.pos<st.toks.length):(st.toks.map fV)[st.pos]? = some (cTok (dA st)):=by rw [List.getElem?_map,tD h];rfl
theorem jL {st:PS}(h:O1 st)(hp:st.pos<st.toks.length):(dA st).text.length≤1048576:=h.2 _ (B4 (tD hp))
theorem Xh {st:PS}(h:endP st=false):st.pos<st.toks.length:=by
 unfold endP at h;rw [Ka,Wu] at h;omega
theorem Wb {w:Am}{st:PS}(h:Hn w st=true):st.pos<st.toks.length:=by
 unfold Hn at h;cases he:endP st with
 | true=>rw [he] at h;cases h
 | false=>exact Xh he
theorem vN {k:Int}{st:PS}(h:Sz k st=true):st.pos<st.toks.length:=by
 unfold Sz at h;cases he:endP st with
 | true=>rw [he] at h;cases h
 | false=>exact Xh he
theorem acc_bad {w:Am}{st:PS}(h:¬K7 [((st.bad==0),true)]):st=Nc w st:=by
 have hb:(st.bad==0)=false:=by
  cases hq:(st.bad==0) with
  | false=>rfl
  | true=>exact absurd (fun p hp=>by simp only [My] at hp;subst hp;exact hq) h
 have:Hn w st=false:=by
  unfold Hn endP;have:(st.bad != 0)=true:=by simp only [bne,hb];rfl
  rw [this];rfl
 unfold Nc;rw [this];rfl
theorem Fy {w:Am}{st:PS}(h:Hn w st=false):Nc w st=st:=by unfold Nc;rw [h];rfl
theorem and_snd {a b:Bool}(h:(a&&b)=true):b=true:=by rw [Gs] at h;exact h.2
theorem txt_le {k:Int}{st:PS}(h:O1 st):(Hh k st).length≤1048576:=by
 unfold Hh;cases hn:Sz k st with
 | true=>exact jL h (vN hn)
 | false=>exact E2 _
theorem toks_adv (st:PS):(adv st).toks=st.toks:=rfl
theorem toks_deep (st:PS):(Hv st).toks=st.toks:=rfl
theorem zA (st:PS):(Hj st).toks=st.toks:=rfl
theorem Ls (e:Int)(st:PS):(Ft e st).toks=st.toks:=by unfold Ft;split <;> rfl
theorem Uh (w:Am)(st:PS):(Nc w st).toks=st.toks:=by unfold Nc;split <;> rfl
theorem U7 (w:Am)(st:PS):(Ce w st).toks=st.toks:=by unfold Ce;split;exact Ls _ _;exact Uh _ _
theorem U8 (k:Int)(st:PS):(Dw k st).toks=st.toks:=by unfold Dw;split;rfl;exact Ls _ _
theorem Ml {a b:PS}(h:a.toks=b.toks):O1 a↔O1 b:=by unfold O1;rw [h]
@[simp] theorem okS_adv (st : PS) : O1 (adv st) ↔ O1 st := Ml rfl
@[simp] theorem okS_deep (st : PS) : O1 (Hv st) ↔ O1 st := Ml rfl
@[simp] theorem okS_shallow (st : PS) : O1 (Hj st) ↔ O1 st := Ml rfl
@[simp] theorem okS_failP (e : Int) (st : PS) : O1 (Ft e st) ↔ O1 st := Ml (Ls _ _)
@[simp] theorem okS_accP (w : Am) (st : PS) : O1 (Nc w st) ↔ O1 st := Ml (Uh _ _)
@[simp] theorem okS_expP (w : Am) (st : PS) : O1 (Ce w st) ↔ O1 st := Ml (U7 _ _)
@[simp] theorem okS_tokP (k : Int) (st : PS) : O1 (Dw k st) ↔ O1 st := Ml (U8 _ _)

theorem J4 (st:PS)(bp:Nat):Bc Tryz.prog 158 bp 223 (cP st) (cP (st)) [.val (.pointer (some ⟨bp,0,none⟩))] (.int .i64 (Cy st)):=by
 intro H;refine Bp.body (n:=28) tok Tryz.func158 rfl rfl rfl ?_;refine Ae (Qp Al (Re (AW.seq ?_)));refine AW.draw mixed (fun H'=>_∈H') (B4 (i:=0) rfl) (by kernel_rfl) ?_;refine Qn 0 rfl Bm (Qn 1 rfl (Af rfl) (Qn 2 rfl B7 (Qn 3 rfl (OpP.Aah (fun k=>Ad (k:=k) (c:=Iq _) tok rfl rfl rfl rfl) (fun _ h=>h)) ?_)));refine Qn 4 rfl Bm (Qn 5 rfl (Af rfl) (Qn 6 rfl B7 (Qn 7 rfl (OpP.Aah (fun k=>Ad (k:=k) (c:=.sl _ _) tok rfl rfl rfl rfl) (fun _ h=>h)) ?_)));refine Qn 8 rfl (Ah (n:=st.toks.length) tok rfl rfl rfl (by simp)) ?_;refine Qn 9 rfl Bx ?_;refine Hs ?_;refine Bh (Aq (fun hc1=>?_) fun hc1=>?_)
 ·
  try simp only [Dp,Eo] at hc1
  have hlt:st.pos<st.toks.length:=by simpa using hc1
  refine AW.seq ?_;refine AW.draw mixed (fun H'=>_∈H') (B4 (i:=0) rfl) (by kernel_rfl) ?_;refine Qn 0 rfl Bm (Qn 1 rfl (Af rfl) (Qn 2 rfl B7 (Qn 3 rfl (OpP.Aah (fun k=>Ad (k:=k) (c:=.sl _ _) tok rfl rfl rfl rfl) (fun _ h=>h)) ?_)));refine Qn 4 rfl Bm (Qn 5 rfl (Af rfl) (Qn 6 rfl B7 (Qn 7 rfl (OpP.Aah (fun k=>Ad (k:=k) (c:=Iq _) tok rfl rfl rfl rfl) (fun _ h=>h)) ?_)));refine Qn 8 rfl (Aa (c:=jB) tok rfl rfl rfl rfl rfl rfl (by omega) (T8 hlt)) ?_;refine Qn 9 rfl (Qf [Iq _]) (Qn 10 rfl Bi (Qn 11 rfl Al ?_));refine Hs ?_;refine Bh (rX ?_);refine ⟨.inr rfl,[Iq _],.cons (.tmp _ _ rfl) <| .nil,_,.refl _,?_⟩;refine ⟨?_,congrArg (fun c=>HO.box bp 223 c::H) ?_⟩
  ·
   try simp only [Ai,Cy,cSyn,Dn,C8,Ba,hc1,↓reduceIte,Bz,Ew,Ef]
   try rfl
  try simp only [cP,Cy,hc1,↓reduceIte,Bz,Ew,Ef]
  try rfl
 try simp only [Dp,Eo] at hc1
 refine Bg (Ae (Qp Bm (Qp (Af rfl) (Qp B7 (AOL.Aae (Ad (k:=0) (c:=Iq _) tok rfl rfl rfl rfl) rfl rfl (Qp Al (Rb ?_)))))));refine ⟨.inr rfl,[Iq _],.cons (.tmp _ _ rfl) <| .nil,_,.refl _,?_⟩;refine ⟨?_,congrArg (fun c=>HO.box bp 223 c::H) ?_⟩
 ·
  try simp only [Ai,Cy,cSyn,Dn,C8,Ba,hc1,↓reduceIte,Bz,Ew,Ef]
  try rfl
 try simp only [cP,Cy,hc1,↓reduceIte,Bz,Ew,Ef]
 try rfl
theorem zS (st:PS)(bp:Nat)(w:Am)(hS:O1 st)(hw:w.length≤1048576):Bc Tryz.prog 156 bp 223 (cP st) (cP (st)) [.val (.pointer (some ⟨bp,0,none⟩)),.str w] (.bool (Hn w st)):=by
 intro H;refine Bp.body (n:=51) tok Tryz.func156 rfl rfl rfl ?_;refine Ae (Qp A0 (Re (AW.seq ?_)));refine AW.draw mixed (fun H'=>_∈H') (B4 (i:=0) rfl) (by kernel_rfl) ?_;refine Qn 0 rfl Bm (Qn 1 rfl (Af rfl) (Qn 2 rfl B7 (Qn 3 rfl (OpP.Aah (fun k=>Ad (k:=k) (c:=Iq _) tok rfl rfl rfl rfl) (fun _ h=>h)) ?_)));refine Qn 4 rfl Br (Qn 5 rfl A9 (Qo 6 rfl [] Qw Bm ?_));refine Gz.pure _ _ 7 _ _ rfl (by kernel_rfl) (by kernel_rfl) rfl (.opt _ (.val _) [(12,_)] rfl (qZ.all ⟨Ent.Aad _ _,trivial⟩) (fun hG=>Af rfl) rfl) ?_;refine Qo 8 rfl [(13,_)] Qw B7 ?_;refine Gz.pure _ _ 9 _ _ rfl (by kernel_rfl) (by kernel_rfl) rfl (.opt _ (Iq _) [(14,_)] rfl (qZ.all ⟨Ent.Aad _ _,trivial⟩) (fun hG=>OpP.Aah (fun k=>Ad (k:=k) (c:=Iq _) tok rfl rfl rfl rfl) (fun _ h=>h)) rfl) ?_;refine Qo 10 rfl [] Qw Bm ?_;refine Gz.pure _ _ 11 _ _ rfl (by kernel_rfl) (by kernel_rfl) rfl (.opt _ (.val _) [(16,_)] rfl (qZ.all ⟨Ent.Aad _ _,trivial⟩) (fun hG=>Af rfl) rfl) ?_;refine Qo 12 rfl [(17,_)] Qw B7 ?_;refine Gz.pure _ _ 13 _ _ rfl (by kernel_rfl) (by kernel_rfl) rfl (.opt _ (.sl _ _) [(18,_)] rfl (qZ.all ⟨Ent.Aad _ _,trivial⟩) (fun hG=>OpP.Aah (fun k=>Ad (k:=k) (c:=.sl _ _) tok rfl rfl rfl rfl) (fun _ h=>h)) rfl) ?_;refine Gz.pure _ _ 14 _ _ rfl (by kernel_rfl) (by kernel_rfl) rfl (.opt _ (Iq _) [(19,_)] rfl (qZ.all ⟨Ent.Aad _ _,trivial⟩) (fun hG=>Ah (n:=st.toks.length) tok rfl rfl rfl (by simp)) rfl) ?_;refine Gz.pure _ _ 15 _ _ rfl (by kernel_rfl) (by kernel_rfl) rfl (.opt _ (.bool _) [(15,_),(20,_)] rfl (qZ.all ⟨Ent.Aad _ _,Ent.Aad _ _,trivial⟩) (fun hG=>aK rfl rfl) rfl) ?_;refine Qn 16 rfl B9 ?_;refine Hs ?_;refine Bh (Aq (fun hc1=>?_) fun hc1=>?_)
 ·
  try simp only [Dp,Eo] at hc1
  refine Ae (Qp A0 (Rc ?_));refine ⟨.inr rfl,[.bool _],.cons (.tmp _ _ rfl) <| .nil,_,.refl _,?_⟩;refine ⟨?_,congrArg (fun c=>HO.box bp 223 c::H) ?_⟩
  ·
   try simp only [Ai,Hn,endP,cSyn,Dn,C8,Ba,hc1,↓reduceIte,Bz,Ew,Ef]
   try rfl
  try simp only [cP,Hn,endP,hc1,↓reduceIte,Bz,Ew,Ef]
  try rfl
 try simp only [Dp,Eo] at hc1
 have hlt:=Xh (st:=st) hc1;refine Bg (AW.seq ?_);refine AW.draw mixed (fun H'=>_∈H') (B4 (i:=0) rfl) (by kernel_rfl) ?_;refine Qn 0 rfl Bm (Qn 1 rfl (Af rfl) (Qn 2 rfl B7 (Qn 3 rfl (OpP.Aah (fun k=>Ad (k:=k) (c:=.sl _ _) tok rfl rfl rfl rfl) (fun _ h=>h)) ?_)));refine Qn 4 rfl Bm (Qn 5 rfl (Af rfl) (Qn 6 rfl B7 (Qn 7 rfl (OpP.Aah (fun k=>Ad (k:=k) (c:=Iq _) tok rfl rfl rfl rfl) (fun _ h=>h)) ?_)));refine Qn 8 rfl (Aa (c:=jB) tok rfl rfl rfl rfl rfl rfl (by omega) (T8 hlt)) ?_;refine Qn 9 rfl (B0 jB) ?_;refine Gz.eff _ _ 10 _ _ rfl (by kernel_rfl) rfl rfl (Kq (l:=[.int .i64 0,.str [],.int .i64 0]) (by kernel_rfl)) (by rintro _ _ ⟨b5,rfl,rfl⟩;simp) ?_;rintro _ _ ⟨b5,rfl,rfl⟩;refine Gz.last _ _ 11 _ _ rfl (by kernel_rfl) rfl rfl (Bf (k:=0) (v:=.agg _) (cs':=jB) (H2:=_::_::_) tok rfl rfl rfl rfl (rfl) rfl rfl rfl rfl) (by kernel_rfl) ?_;rintro _ _ ⟨rfl,rfl⟩;refine Bh ?_;refine AW.ghost (GS.freeze (t:=5) 0 rfl rfl) ?_;refine Ae (Qp (Qf Jz) (Qp Hc (Qp Gj (Qp (D5 rfl rfl) (Qp A9 (Qg [] Qw (Qf jB) (Qg [(38,_)] Qw Bi (Qg [(39,_)] Qw Av (Qg [(40,_)] Qw A9 (Qg [] Qw (Qf jB) (Qg [(42,_)] Qw Bi (Qg [(43,_)] Qw Av (Qg [(44,_)] Qw A9 (Qg [] Qw Gj ?_))))))))))))));refine Qg [(46,_)] Qw (Qc rfl (c22 w hw)) (Qg [(45,_),(47,_)] Qw E0 (Qg [(41,_),(48,_)] Qw B9 (Qp E0 (Qp A0 (Rb ?_)))));refine ⟨.inr rfl,[.bool _],.cons (.tmp _ _ rfl) <| .nil,_,.refl _,?_⟩;refine ⟨?_,congrArg (fun c=>HO.box bp 223 c::H) ?_⟩
 ·
  try simp only [Ai,Hn,endP,cSyn,Dn,C8,Ba,hc1,↓reduceIte,Bz,Ew,Ef]
  try rfl
 try simp only [cP,Hn,endP,hc1,↓reduceIte,Bz,Ew,Ef]
 try rfl
theorem Df (st:PS)(bp:Nat)(w:Am)(hS:O1 st)(hw:w.length≤1048576):Bc Tryz.prog 161 bp 223 (cP st) (cP (Nc w st)) [.val (.pointer (some ⟨bp,0,none⟩)),.str w] (.bool (Hn w st)):=by
 intro H;refine Bp.body (n:=16) tok Tryz.func161 rfl rfl rfl ?_;refine Ae (Qp A0 (Ag (Bk (Qp Bm (Qp Gj ?_)))));refine AOL.Aae (Cj (k:=0) (by kernel_rfl) rfl rfl (zS _ _ _ (by simpa using hS) (by assumption))) rfl rfl ?_;refine Qp Et (Ag (Aq (fun hc1=>?_) fun hc1=>?_))
 ·
  try simp only [Dp,Eo] at hc1
  refine Ae (Qp A0 (Rc ?_));refine ⟨.inr rfl,[.bool _],.cons (.tmp _ _ rfl) <| .nil,_,.refl _,?_⟩;refine ⟨?_,congrArg (fun c=>HO.box bp 223 c::H) ?_⟩
  ·
   try simp only [Ai,Nc,cSyn,Dn,C8,Ba,hc1,↓reduceIte,Bz,Ew,Ef]
   try rfl
  try simp only [cP,Nc,hc1,↓reduceIte,Bz,Ew,Ef]
  try rfl
 try simp only [Dp,Eo] at hc1
 have hlt:=Wb (w:=w) (st:=st) hc1;have hml:=hS.1;refine Bg (Ae (Qp Bm (Qp (Af rfl) (Qp B7 (AOL.Aae (Ad (k:=0) (c:=Iq _) tok rfl rfl rfl rfl) rfl rfl (Qp E9 (Qp (Af rfl) (Qp B7 ?_))))))));refine Bt 0 ghz (_::_) (Bs (Qp A0 (Rb ?_)));refine ⟨.inr rfl,[.bool _],.cons (.tmp _ _ rfl) <| .nil,_,.refl _,?_⟩;refine ⟨?_,congrArg (fun c=>HO.box bp 223 c::H) ?_⟩
 ·
  try simp only [Ai,Nc,cSyn,Dn,C8,Ba,hc1,↓reduceIte,Bz,Ew,Ef]
  try rfl
 try simp only [cP,Nc,hc1,↓reduceIte,Bz,Ew,Ef]
 try rfl
theorem cB (st:PS)(bp:Nat)(e:Int):Bc Tryz.prog 155 bp 223 (cP st) (cP (Ft e st)) [.val (.pointer (some ⟨bp,0,none⟩)),.int .i64 e] (.tuple []):=by
 intro H;refine Bp.body (n:=18) tok Tryz.func155 rfl rfl rfl ?_;refine Ae (Qp Bm (Qp (Af rfl) (Qp B7 (AOL.Aae (Ad (k:=0) (c:=Iq _) tok rfl rfl rfl rfl) rfl rfl (Qp Av (Ag (Aq (fun hc1=>?_) fun hc1=>?_)))))))
 ·
  try simp only [Dp,Eo] at hc1
  refine AW.region (Qp Bm (Qp Bm (Qp Ao (Qp Bm ?_))));refine AOL.Aae (Cj (k:=0) (by kernel_rfl) rfl rfl (J4 _ _)) rfl rfl ?_;refine Qp (Af rfl) (Qp B7 ?_);refine Bt 0 ghz (_::_) (Qp (Af rfl) (Qp B7 ?_));refine Bt 0 ghz (_::_) (AOL.nil ?_);refine ⟨.inl rfl,[],.nil,_,.refl _,?_⟩;refine ⟨?_,congrArg (fun c=>HO.box bp 223 c::H) ?_⟩
  ·
   try simp only [Ai,Ft,cSyn,Dn,C8,Ba,hc1,↓reduceIte,Bz,Ew,Ef]
   try rfl
  try simp only [cP,Ft,hc1,↓reduceIte,Bz,Ew,Ef]
  try rfl
 try simp only [Dp,Eo] at hc1
 refine AW.skip ?_;refine ⟨.inl rfl,[],.nil,_,.refl _,?_⟩;refine ⟨?_,congrArg (fun c=>HO.box bp 223 c::H) ?_⟩
 ·
  try simp only [Ai,Ft,cSyn,Dn,C8,Ba,hc1,↓reduceIte,Bz,Ew,Ef]
  try rfl
 try simp only [cP,Ft,hc1,↓reduceIte,Bz,Ew,Ef]
 try rfl
theorem Dc (st:PS)(bp:Nat)(w:Am)(hS:O1 st)(hw:w.length≤1048576):Bc Tryz.prog 159 bp 223 (cP st) (cP (Ce w st)) [.val (.pointer (some ⟨bp,0,none⟩)),.str w] (.tuple []):=by
 intro H;refine Bp.body (n:=17) tok Tryz.func159 rfl rfl rfl ?_;refine Ae (Qp Bm (Qp (Af rfl) (Qp B7 (AOL.Aae (Ad (k:=0) (c:=Iq _) tok rfl rfl rfl rfl) rfl rfl (Qp Av (Qp A9 (Qg [] Qw Bm (Qg [] Qw Gj ?_))))))));refine AOL.ge _ [(10,_),(11,_)] rfl (qZ.all ⟨Ent.Aad _ _,Ent.Aad _ _,trivial⟩) (fun hG=>Cu rfl ((Df _ _ _ (by simpa using hS) (by assumption)).at (k:=0) (H2:=_::_) rfl rfl)) (fun hG=>congrArg (fun s=>HO.box bp 223 (cP s)::H) (acc_bad hG)) rfl ?_;refine Qg [(12,_)] Qw Et (Qp E0 (Ag (Aq (fun hc1=>?_) fun hc1=>?_)))
 ·
  try simp only [Dp,Eo] at hc1
  refine AW.region (Qp Bm (lV ((cB _ _ _).at (k:=0) (H2:=_::_) rfl rfl) (AOL.nil ?_)));refine ⟨.inl rfl,[],.nil,_,.refl _,?_⟩;refine ⟨?_,congrArg (fun c=>HO.box bp 223 c::H) ?_⟩
  ·
   try simp only [Ai,Ce,cSyn,Dn,C8,Ba,hc1,↓reduceIte,Bz,Ew,Ef]
   try rfl
  try simp only [cP,Ce,Fy (by simpa using and_snd hc1),hc1,↓reduceIte,Bz,Ew,Ef]
  try rfl
 try simp only [Dp,Eo] at hc1
 refine AW.skip ?_;refine ⟨.inl rfl,[],.nil,_,.refl _,?_⟩;refine ⟨?_,congrArg (fun c=>HO.box bp 223 c::H) ?_⟩
 ·
  try simp only [Ai,Ce,cSyn,Dn,C8,Ba,hc1,↓reduceIte,Bz,Ew,Ef]
  try rfl
 try simp only [cP,Ce,hc1,↓reduceIte,Bz,Ew,Ef]
 try rfl
theorem lD (st:PS)(bp:Nat)(k:Int)(hS:O1 st):Bc Tryz.prog 280 bp 223 (cP st) (cP (st)) [.val (.pointer (some ⟨bp,0,none⟩)),.int .i64 k] (.bool (Sz k st)):=by
 intro H;refine Bp.body (n:=47) tok Tryz.func280 rfl rfl rfl ?_;refine Ae (Qp A0 (Re (AW.seq ?_)));refine AW.draw mixed (fun H'=>_∈H') (B4 (i:=0) rfl) (by kernel_rfl) ?_;refine Qn 0 rfl Bm (Qn 1 rfl (Af rfl) (Qn 2 rfl B7 (Qn 3 rfl (OpP.Aah (fun k=>Ad (k:=k) (c:=Iq _) tok rfl rfl rfl rfl) (fun _ h=>h)) ?_)));refine Qn 4 rfl Br (Qn 5 rfl A9 (Qo 6 rfl [] Qw Bm ?_));refine Gz.pure _ _ 7 _ _ rfl (by kernel_rfl) (by kernel_rfl) rfl (.opt _ (.val _) [(12,_)] rfl (qZ.all ⟨Ent.Aad _ _,trivial⟩) (fun hG=>Af rfl) rfl) ?_;refine Qo 8 rfl [(13,_)] Qw B7 ?_;refine Gz.pure _ _ 9 _ _ rfl (by kernel_rfl) (by kernel_rfl) rfl (.opt _ (Iq _) [(14,_)] rfl (qZ.all ⟨Ent.Aad _ _,trivial⟩) (fun hG=>OpP.Aah (fun k=>Ad (k:=k) (c:=Iq _) tok rfl rfl rfl rfl) (fun _ h=>h)) rfl) ?_;refine Qo 10 rfl [] Qw Bm ?_;refine Gz.pure _ _ 11 _ _ rfl (by kernel_rfl) (by kernel_rfl) rfl (.opt _ (.val _) [(16,_)] rfl (qZ.all ⟨Ent.Aad _ _,trivial⟩) (fun hG=>Af rfl) rfl) ?_;refine Qo 12 rfl [(17,_)] Qw B7 ?_;refine Gz.pure _ _ 13 _ _ rfl (by kernel_rfl) (by kernel_rfl) rfl (.opt _ (.sl _ _) [(18,_)] rfl (qZ.all ⟨Ent.Aad _ _,trivial⟩) (fun hG=>OpP.Aah (fun k=>Ad (k:=k) (c:=.sl _ _) tok rfl rfl rfl rfl) (fun _ h=>h)) rfl) ?_;refine Gz.pure _ _ 14 _ _ rfl (by kernel_rfl) (by kernel_rfl) rfl (.opt _ (Iq _) [(19,_)] rfl (qZ.all ⟨Ent.Aad _ _,trivial⟩) (fun hG=>Ah (n:=st.toks.length) tok rfl rfl rfl (by simp)) rfl) ?_;refine Gz.pure _ _ 15 _ _ rfl (by kernel_rfl) (by kernel_rfl) rfl (.opt _ (.bool _) [(15,_),(20,_)] rfl (qZ.all ⟨Ent.Aad _ _,Ent.Aad _ _,trivial⟩) (fun hG=>aK rfl rfl) rfl) ?_;refine Qn 16 rfl B9 ?_;refine Hs ?_;refine Bh (Aq (fun hc1=>?_) fun hc1=>?_)
 ·
  try simp only [Dp,Eo] at hc1
  refine Ae (Qp A0 (Rc ?_));refine ⟨.inr rfl,[.bool _],.cons (.tmp _ _ rfl) <| .nil,_,.refl _,?_⟩;refine ⟨?_,congrArg (fun c=>HO.box bp 223 c::H) ?_⟩
  ·
   try simp only [Ai,Sz,endP,cSyn,Dn,C8,Ba,hc1,↓reduceIte,Bz,Ew,Ef]
   try rfl
  try simp only [cP,Sz,endP,hc1,↓reduceIte,Bz,Ew,Ef]
  try rfl
 try simp only [Dp,Eo] at hc1
 have hlt:=Xh (st:=st) hc1;refine Bg (AW.seq ?_);refine AW.draw mixed (fun H'=>_∈H') (B4 (i:=0) rfl) (by kernel_rfl) ?_;refine Qn 0 rfl Bm (Qn 1 rfl (Af rfl) (Qn 2 rfl B7 (Qn 3 rfl (OpP.Aah (fun k=>Ad (k:=k) (c:=.sl _ _) tok rfl rfl rfl rfl) (fun _ h=>h)) ?_)));refine Qn 4 rfl Bm (Qn 5 rfl (Af rfl) (Qn 6 rfl B7 (Qn 7 rfl (OpP.Aah (fun k=>Ad (k:=k) (c:=Iq _) tok rfl rfl rfl rfl) (fun _ h=>h)) ?_)));refine Qn 8 rfl (Aa (c:=jB) tok rfl rfl rfl rfl rfl rfl (by omega) (T8 hlt)) ?_;refine Qn 9 rfl (B0 jB) ?_;refine Gz.eff _ _ 10 _ _ rfl (by kernel_rfl) rfl rfl (Kq (l:=[.int .i64 0,.str [],.int .i64 0]) (by kernel_rfl)) (by rintro _ _ ⟨b5,rfl,rfl⟩;simp) ?_;rintro _ _ ⟨b5,rfl,rfl⟩;refine Gz.last _ _ 11 _ _ rfl (by kernel_rfl) rfl rfl (Bf (k:=0) (v:=.agg _) (cs':=jB) (H2:=_::_::_) tok rfl rfl rfl rfl (rfl) rfl rfl rfl rfl) (by kernel_rfl) ?_;rintro _ _ ⟨rfl,rfl⟩;refine Bh ?_;refine AW.ghost (GS.freeze (t:=5) 0 rfl rfl) ?_;refine Ae (Qp (Qf jB) (Qp Bi (Qp Ao (Qp Av (Qp A9 (Qg [] Qw Ao (Qg [(38,_)] Qw Br (Qg [(39,_)] Qw A9 (Qg [] Qw (Qf Jz) (Qg [(41,_)] Qw Hc (Qg [(42,_)] Qw (Qc rfl (c22 (dA st).text (jL hS hlt))) (Qg [(43,_)] Qw Et (Qg [(40,_),(44,_)] Qw B9 (Qp E0 (Qp A0 (Rb ?_))))))))))))))));refine ⟨.inr rfl,[.bool _],.cons (.tmp _ _ rfl) <| .nil,_,.refl _,?_⟩;refine ⟨?_,congrArg (fun c=>HO.box bp 223 c::H) ?_⟩
 ·
  try simp only [Ai,Sz,endP,cSyn,Dn,C8,Ba,hc1,↓reduceIte,Bz,Ew,Ef]
  try rfl
 try simp only [cP,Sz,endP,hc1,↓reduceIte,Bz,Ew,Ef]
 try rfl
theorem dU (st:PS)(bp:Nat)(k:Int)(hS:O1 st):Bc Tryz.prog 224 bp 223 (cP st) (cP (Dw k st)) [.val (.pointer (some ⟨bp,0,none⟩)),.int .i64 k] (.tuple [.str (Hh k st),.bool (Sz k st)]):=by
 intro H;refine Bp.body (n:=31) tok Tryz.func224 rfl rfl rfl ?_;refine Ae (Qp Tu (Qp A0 (Ag (Bk (Qp Bm (Qp Ao ?_))))));refine AOL.Aae (Cj (k:=0) (by kernel_rfl) rfl rfl (lD _ _ _ (by simpa using hS))) rfl rfl ?_;refine Qp Et (Ag (Aq (fun hc1=>?_) fun hc1=>?_))
 ·
  try simp only [Dp,Eo] at hc1
  refine Ae (Qp Bm (lV ((cB _ _ _).at (k:=0) (H2:=_::_) rfl rfl) (Bs (Qp Tu (Qp A0 (Rc ?_))))));refine ⟨.inr rfl,[.str _,.bool _],.cons (.tmp _ _ rfl) <| .cons (.tmp _ _ rfl) <| .nil,_,.refl _,?_⟩;refine ⟨?_,congrArg (fun c=>HO.box bp 223 c::H) ?_⟩
  ·
   try simp only [Ai,Dw,Hh,cSyn,Dn,C8,Ba,hc1,↓reduceIte,Bz,Ew,Ef]
   try rfl
  try simp only [cP,Dw,Hh,hc1,↓reduceIte,Bz,Ew,Ef]
  try rfl
 try simp only [Dp,Eo] at hc1
 have hlt:=vN (k:=k) (st:=st) hc1;have hml:=hS.1;refine Bg (Ae (Qp Bm (Qp (Af rfl) (Qp B7 (AOL.Aae (Ad (k:=0) (c:=Iq _) tok rfl rfl rfl rfl) rfl rfl (Qp E9 (Qp (Af rfl) (Qp B7 ?_))))))));refine Bt 0 ghz (_::_) (Re ?_);refine AW.draw mixed (fun H'=>_∈H') (B4 (i:=0) rfl) (by kernel_rfl) ?_;refine Qn 0 rfl Bm (Qn 1 rfl (Af rfl) (Qn 2 rfl B7 (Qn 3 rfl (OpP.Aah (fun k=>Ad (k:=k) (c:=.sl _ _) tok rfl rfl rfl rfl) (fun _ h=>h)) ?_)));refine Qn 4 rfl Bm (Qn 5 rfl (Af rfl) (Qn 6 rfl B7 (Qn 7 rfl (OpP.Aah (fun k=>Ad (k:=k) (c:=Iq _) tok rfl rfl rfl rfl) (fun _ h=>h)) ?_)));refine Qn 8 rfl (P_sub rfl rfl rfl (by constructor <;> omega)) ?_;refine Qn 9 rfl (Aa (c:=jB) tok rfl rfl rfl rfl rfl rfl (by omega) (by rw [show ((st.pos:Int)+1-1).toNat=st.pos by omega];exact T8 hlt)) ?_;refine Qn 10 rfl (Qf Jz) (Qn 11 rfl Hc (Qn 12 rfl Tu (Qn 13 rfl A0 ?_)));refine Hs ?_;refine Bh (AW.ret ?_);refine ⟨.inr rfl,[.str _,.bool _],.cons (.tmp _ _ rfl) <| .cons (.tmp _ _ rfl) <| .nil,_,.refl _,?_⟩;refine ⟨?_,congrArg (fun c=>HO.box bp 223 c::H) ?_⟩
 ·
  try simp only [Ai,Dw,Hh,cSyn,Dn,C8,Ba,hc1,↓reduceIte,Bz,Ew,Ef]
  try rfl
 try simp only [cP,Dw,Hh,hc1,↓reduceIte,Bz,Ew,Ef]
 try rfl
theorem N5 (st:PS)(bp:Nat)  (hS:O1 st):Bc Tryz.prog 160 bp 223 (cP st) (cP (Dw 0 st)) [.val (.pointer (some ⟨bp,0,none⟩))] (.str (Hh 0 st)):=by
 intro H;refine Bp.body (n:=11) tok Tryz.func160 rfl rfl rfl ?_;refine Ae (Qp Tu (Bs (Qp Bm ?_)));refine Rt (Cu rfl ((dU _ _ _ (by simpa using hS)).at (k:=0) (H2:=_::_) rfl rfl)) ?_;refine Qp N4 (Qp Qxt (Qp eU (Qp Tu (Qp A0 (Bs (Qp Gj (Qp Tu (Rb ?_))))))));refine ⟨.inr rfl,[.str _],.cons (.tmp _ _ rfl) <| .nil,_,.refl _,?_⟩;refine ⟨?_,congrArg (fun c=>HO.box bp 223 c::H) ?_⟩
 ·
  try simp only [Ai,cSyn,Dn,C8,Ba,↓reduceIte,Bz,Ew,Ef]
  try rfl
 try simp only [cP,↓reduceIte,Bz,Ew,Ef]
 try rfl
theorem Yy (st:PS)(bp:Nat)  (hS:O1 st):Bc Tryz.prog 285 bp 223 (cP st) (cP (Dw 1 st)) [.val (.pointer (some ⟨bp,0,none⟩))] (.int .i64 (Yq st)):=by
 intro H;refine Bp.body (n:=20) tok Tryz.func285 rfl rfl rfl ?_;refine Ae (Qp Al (Bs (Qp Bm ?_)));refine Rt (Cu rfl ((dU _ _ _ (by simpa using hS)).at (k:=0) (H2:=_::_) rfl rfl)) ?_;refine Qp N4 (Qp Qxt (Qp eU (Qp Tu (Qp A0 (Ag (Bk (Qp A9 (Qp Et (Ag (Aq (fun hc1=>?_) fun hc1=>?_))))))))))
 ·
  try simp only [Dp,Eo] at hc1
  refine Ae (Qp Al (Rc ?_));refine ⟨.inr rfl,[Iq _],.cons (.tmp _ _ rfl) <| .nil,_,.refl _,?_⟩;refine ⟨?_,congrArg (fun c=>HO.box bp 223 c::H) ?_⟩
  ·
   try simp only [Ai,Yq,Hh,cSyn,Dn,C8,Ba,hc1,↓reduceIte,Bz,Ew,Ef]
   try rfl
  try simp only [cP,Yq,Hh,hc1,↓reduceIte,Bz,Ew,Ef]
  try rfl
 try simp only [Dp,Eo] at hc1
 refine Bg (Ae (Qp Gj (Qp (Qc rfl (c18 _ (txt_le hS))) (Qp N4 (Qp Iu (Qp Iu (Qp Al (Qp Al (Bs (Qp Ao (Qp Al (Rb ?_))))))))))));refine ⟨.inr rfl,[Iq _],.cons (.tmp _ _ rfl) <| .nil,_,.refl _,?_⟩;refine ⟨?_,congrArg (fun c=>HO.box bp 223 c::H) ?_⟩
 ·
  try simp only [Ai,Yq,Hh,cSyn,Dn,C8,Ba,hc1,↓reduceIte,Bz,Ew,Ef]
  try rfl
 try simp only [cP,Yq,Hh,hc1,↓reduceIte,Bz,Ew,Ef]
 try rfl
end Go.Proofs.YtckhoadldibflaaGreatDoor
