/-
  Several texts in one: EW23, EW24, EW18, R8w, R9w, R10w, C13, W13b, W13c, W13d. No condition.
-/
import Derived.Test.YtibcelnfkhdjaaaGreatDoorK03
import Derived.Test.YtibcelnfkhdjaaaGreatDoorK02
import Derived.Test.YtibcelnfkhdjaaaGreatDoorK07
import Derived.KernelRfl
import Derived.Test.YtibcelnfkhdjaaaGreatDoorK05
import Derived.Test.YtibcelnfkhdjaaaGreatDoorTab
import Derived.Test.YtibcelnfkhdjaaaGreatDoorAx
import Derived.Lib.ItoaLen
import Derived.Test.YtibcelnfkhdjaaaGreatDoorK04
set_option linter.unusedVariables false
set_option linter.unusedSimpArgs false
set_option maxHeartbeats 12800000
set_option maxRecDepth 20000
namespace Go.Proofs.YtibcelnfkhdjaaaGreatDoor
open Go Go.Aw
theorem head_at {s:List UInt8}(h:s.length≠0):s[(0:Int).toNat]? = some (s.headD 0):=by
 cases s with
 | nil=>exact absurd rfl h
 | cons a r=>rfl
theorem xM {s:List UInt8}{x:Bool}(h:Mn [((((s.length:Nat):Int)==0||x),false)]):s.length≠0:=by
 have h1:=h _ (Ep.2 rfl);intro h0;simp [h0] at h1
theorem uH {s:List UInt8}{k:Nat}{c:UInt8}(h:s[k]? = some c):s[((k:Nat):Int).toNat]? = some c:=h
theorem kM {s:List UInt8}(h:s.length=0\/24<s.length\/jR ((s.headD 0).toNat)=true):D3 s=false:=by
 unfold D3;rcases h with h | h | h
 .
  have e:(s.length==0)=true:=by simp [h]
  rw [e];rfl
 .
  have e:decide (s.length<=24)=false:=by simp;omega
  rw [e,Oj,Mt,Mt]
 rw [h,Av,Oj,Mt]
theorem name_yes {s:List UInt8}(h:s.length≠0/\s.length<=24/\jR ((s.headD 0).toNat)=false)(ha:s.all xB=true):D3 s=true:=by
 unfold D3;have e1:(s.length==0)=false:=by rw [Fs];exact h.1
 have e2:decide (s.length<=24)=true:=by simp;exact h.2.1
 rw [e1,e2,h.2.2,ha];rfl
theorem name_bad {s:List UInt8}{c:UInt8}(hm:c∈s)(h:xB c=false):s.all xB=false:=by
 rw [Oe];intro ha;rw [Ht.1 ha c hm] at h;cases h
theorem jH {s:List UInt8}{k:Nat}{c:UInt8}(hc:s[k]? = some c)(h:(s.take k).all xB=true)(hx:xB c=true):(s.take (k+1)).all xB=true:=by
 rw [Cs hc,List.all_append,h];simp [hx]
theorem c111 (n:Int):Ap Tryz.prog 140 [.int .u8 n] (.bool (jR n)):=by
 refine Fl 9 Tryz.func140 rfl fun H=>?_
 refine Af (Qp Bh (B7 (Qp (Ab (v:=.int .u8 _) rfl) (Qp Jt (Qp Co (Qg [] Qw (Ab (v:=.int .u8 _) rfl) (Qg [(6,_)] Qw fX (Qp Ks (Qp Bh (Rb (Qr (.bool _) ?_)))))))))));rfl
theorem c112 (n:Int):Ap Tryz.prog 141 [.int .u8 n] (.bool (letS n)):=by
 refine Fl 21 Tryz.func141 rfl fun H=>?_
 refine Af (Qp Bh (B7 (Qp (Ab (v:=.int .u8 _) rfl) (Qp Bq (Qp Co (Qg [] Qw (Ab (v:=.int .u8 _) rfl) ?_))))));refine Qg [(6,_)] Qw Jt (Qg [(7,_)] Qw Co (Qg [] Qw (Ab (v:=.int .u8 _) rfl) (Qg [(9,_)] Qw fX (Qg [(8,_),(10,_)] Qw Ks (Qp Gv (Qp Co (Qg [] Qw (Ab (v:=.int .u8 _) rfl) (Qg [(14,_)] Qw Jt (Qg [(15,_)] Qw Co (Qg [] Qw (Ab (v:=.int .u8 _) rfl) (Qg [(17,_)] Qw fX (Qg [(16,_),(18,_)] Qw Ks (Qp Gv (Qp Bh (Rb (Qr (.bool _) ?_))))))))))))))));rfl
theorem c102 (s:List UInt8)(hs:s.length<=1048576):Ap Tryz.prog 78 [.str s] (.bool (D3 s)):=by
 refine Fl 35 Tryz.func78 rfl fun H=>?_
 refine Af (Qp Bh (A2 (Cg (Qp Gu (Qp (Cz (n:=s.length) tok rfl rfl rfl (rfl)) (Qp Bq (Qp Co (Qg [] Qw Gu (Qg [(8,_)] Qw (Cz (n:=s.length) tok rfl rfl rfl (rfl)) (Qg [(9,_)] Qw Hc (Qp Gv (Qp Co (Qg [] Qw Gu ?_)))))))))))));refine Yh [(13,_)] Qw (fun hG=>Cm tok rfl rfl rfl rfl (by decide) (head_at (xM hG))) ?_;refine Qg [(14,_)] Qw (Qc rfl (c111 _)) (Qp Gv (Bp (fun hc1=>Af (Qp Bh (Rc (Qr (.bool _) ?_)))) fun hc1=>?_))
 .
  simp only [Ah,AV.bool.injEq];simp only [Ii,Ea,beq_iff_eq] at hc1;rcases hc1 with (h1 | h1) | h1
  . exact (kM (.inl (by omega))).symm
  . exact (kM (.inr (.inl (by omega)))).symm
  exact (kM (.inr (.inr h1))).symm
 have hn1:s.length≠0/\s.length<=24/\jR ((s.headD 0).toNat)=false:=by
    simp only [Ft,I6,Fs] at hc1;exact ⟨by omega,by omega,hc1.2⟩
 refine B6 (Cg (Qp Gu (Qp (Cz (n:=s.length) tok rfl rfl rfl (rfl)) (Qp A0 (A2 (AW.block ?_))))));refine AW.loopS (fun (p:Nat)=>(⟨[(0,.str s),(18,.int .i64 s.length),(19,.int .i64 (p:Int))],H,35⟩:St)) (fun p=>p<=s.length/\(s.take p).all xB=true) (fun p=>s.length-p) (0) ?_ Dh ?_
 . exact ⟨A7 _,by simp⟩
 rintro p hR;refine Af (Qp Cv (Re (Gn (fun hc2=>?_) fun hc2=>?_)))
 .
  obtain ⟨c,hc⟩:=C2 hc2;have hlt:=Cc hc;have hm:=Aj hc;refine B6 (AW.seq (AW.block (Af (Qp A0 (Qp Ax (B7 (Qp Gu (Qp A0 ?_))))))));refine Qp (Cm tok rfl rfl rfl rfl (by omega) (uH hc)) ?_;refine Qp (Qc rfl (c112 _)) (Qp J4 (Qp Co (Qg [] Qw Gu (Qg [] Qw A0 ?_))));refine Yh [(28,_),(29,_)] Yw (fun hG=>Cm tok rfl rfl rfl rfl (by omega) (uH hc)) ?_;refine Qg [(30,_)] Qw (Qc rfl (c111 _)) (Qg [(31,_)] Qw J4 (Qp Ks (Bp (fun hc3=>?_) fun hc3=>?_)))
  .
   have hch:xB c=false:=by
    unfold xB;cases hl:letS c.toNat <;> cases hd:jR c.toNat <;> simp_all
   refine Af (Qp Bh (Ra (A4 (Dw (A4 (Qr (.bool _) ?_))))));simp only [Ah,AV.bool.injEq]
   symm
   unfold D3;rw [name_bad hm hch,Oj]
  have hch:xB c=true:=by
   unfold xB;cases hl:letS c.toNat <;> cases hd:jR c.toNat <;> simp_all
  refine Rf (AW.region (Qp Hb (Qp A0 (A2 ?_))));refine ⟨p+1,?_,?_,Dh⟩
  . exact ⟨hlt,jH hc hR.2 hch⟩
  omega
 have hte:=Dt hc2;refine AW.exit ?_;refine Br (Ri (Af (Qp Bh (Rb ?_))));refine Qr (.bool _) ?_;simp only [Ah,AV.bool.injEq];exact (name_yes hn1 (by rw [<-hte];exact hR.2)).symm
theorem c103 (s:List UInt8)(hs:s.length<=1048576):Ap Tryz.prog 80 [.str s] (.bool (Lp s)):=by
 refine Fl 9 Tryz.func80 rfl fun H=>?_
 refine Af (Qp Bh (B7 (Qp Gu (Qp (Qc rfl (c102 s hs)) (Qp Co (Qg [] Qw Gu (Qg [(6,_)] Qw (Ge rfl rfl) (Qp Ks (Qp Bh (Rb (Qr (.bool _) ?_)))))))))));rfl
theorem yE {ns:List (List UInt8)}{k:Nat}{n:List UInt8}(h:ns[k]? = some n)(hn:(ns.take k).contains n=false):Kb ns n=(k:Int):=by
 have h1:=place_lt h;rw [hn] at h1;have hm:n∈ns:=Aj h;have hc:ns.contains n=true:=by simpa using hm
 have h3:ns.idxOf n<=k:=by
  refine Nat.le_of_not_lt fun hlt=>?_
  have hk:k<ns.length:=Cc h;have h4:=List.not_of_lt_findIdx (p:=fun x=>x==n) (xs:=ns) (i:=k) hlt;have h5:ns[k]=n:=by rw [List.getElem?_eq_getElem hk] at h;exact Option.some.inj h
  simp only [h5] at h4;simp at h4
 unfold Kb at h1 ⊢;rw [if_pos hc] at h1 ⊢;simp at h1;omega
theorem sC {ns:List (List UInt8)}{n:List UInt8}(h:ns.contains n=false):Kb ns n = -1:=by unfold Kb;rw [if_neg (by simp only [h];decide)]
theorem Vg {ns:List (List UInt8)}{k:Nat}{m n:List UInt8}(h:ns[k]? = some m)(hn:(ns.take k).contains n=false)(hne:(m==n)=false):(ns.take (k+1)).contains n=false:=by
 rw [Cs h];have h1:m≠n:=by simpa using hne
 simp at hn ⊢;exact ⟨hn,fun e=>h1 e.symm⟩
def T3 (s:e8Sc):Prop:=s.name.length<=1048576/\s.fields.length<=1048576/\∀f∈s.fields,f.name.length<=1048576
theorem mQ {seen:List (List UInt8)}{a:Fi}{r:List Fi}(h:F9 seen a=0):Hp seen (a::r)=Hp (seen ++ [a.name]) r:=by rw [Hp,if_neg (by rw [h];decide)]
theorem Tl {seen:List (List UInt8)}{a:Fi}{r:List Fi}(h:F9 seen a≠0):Hp seen (a::r)=F9 seen a:=by rw [Hp,if_pos (by simpa using h)]
theorem sZ {seen:List (List UInt8)}{a:e8Sc}{r:List e8Sc}(h:Lj seen a=0):Ly seen (a::r)=Ly (seen ++ [a.name]) r:=by rw [Ly,if_neg (by rw [h];decide)]
theorem fC {seen:List (List UInt8)}{a:e8Sc}{r:List e8Sc}(h:Lj seen a≠0):Ly seen (a::r)=Lj seen a:=by rw [Ly,if_pos (by simpa using h)]
theorem c85 (s:e8Sc)(hs:T3 s):Ap Tryz.prog 36 [.agg (Fx s)] (.int .i64 (Gi s)):=by
 refine Fl 45 Tryz.func36 rfl fun H=>?_
 refine Af (Qp (Ik M7) (Qp Ax (A2 (Cg (Qp (Qf M7) (Qp F4 (Qp (Qc rfl (c102 _ hs.1)) (Qp J4 (Bp (fun hc1=>Af (Qp Ax (Rc (Qr (Iq _) ?_)))) fun hc1=>B6 (Cg (Qp (Qf [_]) (Qp Ew ?_))))))))))))
 . rw [show Gi s=8 by unfold Gi;rw [if_pos (by simpa using hc1)]];rfl
 refine Qp (G1 s.fields.length rfl rfl (by simp)) ?_;refine Qp Hc (Bp (fun hc2=>Af (Qp Ax (Rc (Qr (Iq _) ?_)))) fun hc2=>B6 (Af (Qe (Hl) ?_)))
 . rw [show Gi s=5 by unfold Gi;rw [if_neg (by simpa using hc1),if_pos (by simpa using hc2)]];rfl
 rintro _ _ ⟨b14,rfl,rfl⟩;refine Qp O2 (A2 (Cg (Qp (Qf [_]) (Qp Ew ?_))));refine Qp (G1 s.fields.length rfl rfl (by simp)) ?_;refine Qp A0 (A2 (AW.block ?_));have hfl:=hs.2.1;refine AW.loopS (fun (p:Nat×List (List UInt8))=>(⟨[(3,.val (.map (some b14))),(16,.sl 2 (s.fields.map Tf)),(17,.int .i64 s.fields.length),(18,.int .i64 (p.1:Int))],.smap b14 (Tb p.2)::H,45⟩:St)) (fun p=>p.1<=s.fields.length/\Hp [] s.fields=Hp p.2 (s.fields.drop p.1)) (fun p=>s.fields.length-p.1) ((0,[])) ?_ Dh ?_
 . exact ⟨A7 _,rfl⟩
 rintro p hR;refine Af (Qp Cv (Re (Gn (fun hc3=>?_) fun hc3=>?_)))
 .
  obtain ⟨a,ha⟩:=C2 hc3;have hlt:=Cc ha;have hm:=Aj ha;refine B6 (AW.seq (AW.block (Af ?_)));refine Qp (E9 Iy rfl rfl (by omega) (Cf ha)) ?_;refine Qp (C1 Iy) (D7 gix fun b5=>?_);refine Bz 0 Iy (_::_::_) ?_;refine Kh 5 0 rfl ?_;refine Re (AW.block (Af (Qp (Qf Iy) (Qp F4 (Qp (Qc rfl (c103 _ (hs.2.2 a hm))) (Qp J4 (Qp Bh (Bp (fun hc4=>?_) fun hc4=>?_))))))))
  .
   have hb4:(!Lp a.name)=true:=hc4;refine Af (Qp Ax (Ra (Rj (A4 ?_))));refine Yx [Iq _] Ze S1 ?_
   have he:F9 p.2 a=8:=by
    unfold F9;rw [if_pos hb4]
   rw [show Gi s=F9 p.2 a by unfold Gi;rw [if_neg (by simpa using hc1),if_neg (by simpa using hc2),hR.2,Bm ha,Tl (by rw [he];decide)],he];rfl
  have hb4:¬(!Lp a.name)=true:=by simpa using hc4
  refine Af (Qp Bu (Qp (Qf Iy) (Qp F4 ?_)));refine AOL.Aaz (Ll (i:=0) (ks:=p.2) tok rfl rfl rfl rfl rfl (by kernel_rfl) rfl rfl rfl) rfl rfl ?_;refine Qp Bh (Bp (fun hc5=>?_) fun hc5=>?_)
  .
   have hb5:p.2.contains a.name=true:=hc5;refine Af (Qp Ax (Ra (Rj (A4 ?_))));refine Yx [Iq _] Ze S1 ?_
   have he:F9 p.2 a=7:=by
    unfold F9;rw [if_neg hb4,if_pos hb5]
   rw [show Gi s=F9 p.2 a by unfold Gi;rw [if_neg (by simpa using hc1),if_neg (by simpa using hc2),hR.2,Bm ha,Tl (by rw [he];decide)],he];rfl
  have hb5:¬p.2.contains a.name=true:=by simpa using hc5
  refine Af (Qp (Qf [Iq _]) (Qp Cd (Qp Cv (Qp Co (Qg [] Qw (Qf [Iq _]) (Qg [(37,_)] Qw Cd (Qg [(38,_)] Qw Jt (Qp Gv (Qp Bh (Bp (fun hc6=>?_) fun hc6=>?_))))))))))
  .
   have hb6:=hc6;refine Af (Qp Ax (Ra (Rj (A4 ?_))));refine Yx [Iq _] Ze S1 ?_
   have he:F9 p.2 a=1:=by
    unfold F9;rw [if_neg hb4,if_neg hb5,if_pos hb6]
   rw [show Gi s=F9 p.2 a by unfold Gi;rw [if_neg (by simpa using hc1),if_neg (by simpa using hc2),hR.2,Bm ha,Tl (by rw [he];decide)],he];rfl
  have hb6:=Oe.mp hc6;have he0:F9 p.2 a=0:=by unfold F9;rw [if_neg hb4,if_neg hb5,if_neg hb6]
  refine Rf (AW.region (Qp Bu (Qp (Qf Iy) (Qp F4 ?_))));refine Rt (Nn (i:=0) (H2:=_::_) tok rfl rfl rfl rfl rfl rfl rfl rfl (by simpa using hb5) rfl) ?_;refine Rk (AW.region (Qp Hb (Qp A0 (A2 ?_))));refine ⟨(p.1+1,p.2 ++ [a.name]),?_,?_,Dh⟩
  . exact ⟨hlt,by rw [hR.2,Bm ha,mQ he0]⟩
  omega
 have hd:=Gz hc3;refine AW.exit ?_;refine Br (Ri (Af (Qp Ax (Rb ?_))));refine Yx [Iq _] Ze S1 ?_;rw [show Gi s=0 by unfold Gi;rw [if_neg (by simpa using hc1),if_neg (by simpa using hc2),hR.2,hd];rfl];rfl
theorem e8c57 (l:List e8Sc)(hl:l.length<=1048576)(hs:∀s∈l,T3 s):Ap Tryz.prog 21 [.sl 2 (l.map Fx)] (.int .i64 (Dr l)):=by
 refine Fl 30 Tryz.func21 rfl fun H=>?_
 refine Af (Qp Ax (A2 (Cg (Qp Mm ?_))));refine Qp (G1 l.length rfl rfl (by simp)) ?_;refine Qp Hc (Bp (fun hc1=>Af (Qp Ax (Rc (Qr (Iq _) ?_)))) fun hc1=>B6 (Af (Qe (Hl) ?_)))
 . rw [show Dr l=5 by unfold Dr;rw [if_pos (by simpa using hc1)]];rfl
 rintro _ _ ⟨b10,rfl,rfl⟩;refine Qp O2 (A2 (Cg (Qp Mm ?_)));refine Qp (G1 l.length rfl rfl (by simp)) ?_;refine Qp A0 (A2 (AW.block ?_));refine AW.loopS (fun (p:Nat×List (List UInt8))=>(⟨[(3,.val (.map (some b10))),(11,.sl 2 (l.map Fx)),(12,.int .i64 l.length),(13,.int .i64 (p.1:Int))],.smap b10 (Tb p.2)::H,30⟩:St)) (fun p=>p.1<=l.length/\Ly [] l=Ly p.2 (l.drop p.1)) (fun p=>l.length-p.1) ((0,[])) ?_ Dh ?_
 . exact ⟨A7 _,rfl⟩
 rintro p hR;refine Af (Qp Cv (Re (Gn (fun hc2=>?_) fun hc2=>?_)))
 .
  obtain ⟨a,ha⟩:=C2 hc2;have hlt:=Cc ha;have hm:=Aj ha;refine B6 (AW.seq (AW.block (Af ?_)));refine Qp (E9 M7 rfl rfl (by omega) (Cf ha)) ?_;refine Qp (C1 M7) (D7 [.str [],.sl 2 []] fun b5=>?_);refine Bz 0 M7 (_::_::_) ?_;refine Kh 5 0 rfl ?_;refine A2 (Cg (Qp (C1 M7) (Qp (Qc rfl (c85 a (hs a hm))) (Qp Ax (B7 (Qp A0 (Qp C3 (Bp (fun hc3=>Af (Qp A0 (Qp Ax (Rc (Rj (A4 ?_)))))) fun hc3=>?_))))))))
  .
   refine Yx [Iq _] Ze S1 ?_;have he:Lj p.2 a=Gi a:=by unfold Lj;rw [if_pos hc3]
   rw [show Dr l=Lj p.2 a by unfold Dr;rw [if_neg (by simpa using hc1),hR.2,Bm ha,fC (by rw [he];simpa using hc3)],he];rfl
  have hb3:=Oe.mp hc3;refine B6 (Cg (Qp Bu (Qp (Qf M7) (Qp F4 ?_))));refine AOL.Aaz (Ll (i:=0) (ks:=p.2) tok rfl rfl rfl rfl rfl (by kernel_rfl) rfl rfl rfl) rfl rfl ?_;refine Bp (fun hc4=>?_) fun hc4=>?_
  .
   have hb4:p.2.contains a.name=true:=hc4;refine Af (Qp Ax (Rc (Rj (A4 ?_))));refine Yx [Iq _] Ze S1 ?_;have he:Lj p.2 a=7:=by unfold Lj;rw [if_neg hb3,if_pos hb4]
   rw [show Dr l=Lj p.2 a by unfold Dr;rw [if_neg (by simpa using hc1),hR.2,Bm ha,fC (by rw [he];decide)],he];rfl
  have hb4:¬p.2.contains a.name=true:=by simpa using hc4
  have he0:Lj p.2 a=0:=by unfold Lj;rw [if_neg hb3,if_neg hb4]
  refine B6 (AW.region (Qp Bu (Qp (Qf M7) (Qp F4 ?_))));refine Rt (Nn (i:=0) (H2:=_::_) tok rfl rfl rfl rfl rfl rfl rfl rfl (by simpa using hb4) rfl) ?_;refine Rk (AW.region (Qp Hb (Qp A0 (A2 ?_))));refine ⟨(p.1+1,p.2 ++ [a.name]),?_,?_,Dh⟩
  . exact ⟨hlt,by rw [hR.2,Bm ha,sZ he0]⟩
  omega
 have hd:=Gz hc2;refine AW.exit ?_;refine Br (Ri (Af (Qp Ax (Rb ?_))));refine Yx [Iq _] Ze S1 ?_;rw [show Dr l=0 by unfold Dr;rw [if_neg (by simpa using hc1),hR.2,hd];rfl];rfl
theorem e8c22 (a b:Ex)(hs:Dp a<=1048576):Ap Tryz.prog 167 [.agg (cE a),.agg (cE b)] (.bool (M4 a b)):=by
 revert b hs
 induction a using Ex.ind
 rename_i a ih;intro b hs;have hal:=jI a hs;refine Fl 67 Tryz.func167 rfl fun H=>?_
 refine Af (Qp Qbe (Qp Qbe (Qp Bh (A2 (Cg (Qp jG (Qp Cd (Qp jG (Qp Cd (Qp C3 (Qp Co (Qg [] Qw tU (Qg [(12,_)] Qw Cd (Qg [] Qw tU (Qg [(14,_)] Qw Cd ?_)))))))))))))));refine Qg [(13,_),(15,_)] Yw C3 (Qp Gv (Qp Co (Qg [] Qw Qf3 (Qg [(19,_)] Qw Cd (Qg [] Qw Qf3 (Qg [(21,_)] Qw Cd (Qg [(20,_),(22,_)] Yw C3 (Qp Gv (Qp Co (Qg [] Qw Qf4 (Qg [(26,_)] Qw Cd (Qg [] Qw Qf4 (Qg [(28,_)] Qw Cd ?_)))))))))))));refine Qg [(27,_),(29,_)] Yw C3 (Qp Gv (Qp Co (Qg [] Qw tV (Qg [(33,_)] Qw (C1 Xd) (Qg [] Qw tV (Qg [(35,_)] Qw (C1 Xd) (Qg [(34,_),(36,_)] Yw (Pw tok rfl rfl rfl rfl rfl) (Qp Gv (Qp Co (Qg [] Qw Qf1 (Qg [(40,_)] Qw Ew ?_)))))))))));refine Yh [(41,_)] Qw (fun hG=>G1 a.args.length rfl rfl (by simp)) ?_;refine Qg [] Qw Qf1 (Qg [(43,_)] Qw Ew ?_);refine Yh [(44,_)] Qw (fun hG=>G1 b.args.length rfl rfl (by simp)) ?_;refine Qg [(42,_),(45,_)] Yw C3 (Qp Gv (Bp (fun hc1=>?_) fun hc1=>?_))
 .
  have hh:aN a b=true:=by simpa [aN] using hc1
  refine Af (Qp Bh (Rc (Qr (.bool _) ?_)));rw [eU,if_pos hh];rfl
 have hh:aN a b=false:=by simpa [aN] using hc1
 have hlen:=nQ hh;refine B6 (Cg (Qp Qf1 (Qp Ew ?_)));refine Qp (G1 a.args.length rfl rfl (by simp)) ?_;refine Qp A0 (A2 (AW.block ?_));refine AW.loopS (fun (p:Nat)=>(⟨[(2,.ptr (cE a)),(3,.ptr (cE b)),(50,.int .i64 a.args.length),(51,.int .i64 (p:Int))],H,67⟩:St)) (fun p=>p<=a.args.length/\iU a.args b.args=iU (a.args.drop p) (b.args.drop p)) (fun p=>a.args.length-p) (0) ?_ Dh ?_
 . exact ⟨A7 _,rfl⟩
 rintro p hR;refine Af (Qp Cv (Re (Gn (fun hc2=>?_) fun hc2=>?_)))
 .
  obtain ⟨x,hx⟩:=C2 hc2;have hlt:=Cc hx;have hm:=Aj hx;obtain ⟨y,hy⟩:∃y,b.args[p]? = some y:=⟨_,List.getElem?_eq_getElem (by omega)⟩;refine B6 (AW.seq (AW.block (Af (Qp A0 (Qp Ax (Re ?_))))));refine Ok ?_;refine Qn 0 rfl Qf1 (Qn 1 rfl Ew (Qn 2 rfl A0 ?_));refine Qn 3 rfl (E9 Me rfl rfl (by omega) (bN hx)) ?_;refine Qn 4 rfl Xb (Qn 5 rfl Qf1 (Qn 6 rfl Ew (Qn 7 rfl A0 ?_)));refine Qn 8 rfl (E9 Me rfl rfl (by omega) (bN hy)) ?_;refine Qn 9 rfl Xb ?_;refine Qn 10 rfl (Qc rfl (ih x hm y (by have:=T5 hm;omega))) ?_;refine Qn 11 rfl J4 ?_;refine Iw ?_;refine Aa (Gn (fun hc3=>Af (Qp Bh (Ra (A4 (Dw (A4 (Qr (.bool _) ?_))))))) fun hc3=>Rf (AW.region (Qp Hb (Qp A0 (A2 ?_)))))
  . rw [eU,if_neg (by simp [hh]),hR.2,Bm hx,Bm hy];show _=AV.bool (if (!M4 x y)=true then false else _);rw [if_pos hc3];rfl
  refine ⟨p+1,?_,?_,Dh⟩
  . exact ⟨hlt,by rw [hR.2,Bm hx,Bm hy,iU];simp [hc3]⟩
  omega
 have hd:=Gz hc2;refine AW.exit ?_;refine Br (Ri (Af (Qp Bh (Rb ?_))));refine Qr (.bool _) ?_;rw [eU,if_neg (by simp [hh]),hR.2,hd];rfl
theorem sz_part {p a:Pt}{k:Nat}(h:p.args[k]? = some a):((p.args.take k).map J5).sum+J5 a+1<=J5 p:=by
 rw [Mq p];have h2:=kV p.args (k+1);rw [Cs h,E5,List.sum_append,Wy,List.sum_singleton] at h2;omega
theorem max_cast (a b:Nat):max (a:Int) (b:Int)=((max a b:Nat):Int):=by omega
theorem op_range {p:Pt}(h:(decide (p.op<0)||decide (11<=p.op))=false):0<=p.op/\p.op<11:=by
 rw [Ft] at h;have h1:=Er h.1;have h2:=Er h.2;omega
theorem U2 (u:Bool)(n m:Int):Ap Tryz.prog 214 [.bool u,.int .i64 n,.int .i64 m] (.bool (wth u n m)):=by
 refine Fl 18 Tryz.func214 rfl fun H=>?_
 refine Af (Qp Bh (B7 (Qp Co (Qp J4 (Qp Co (Qg [] Qw A0 (Qg [(10,_)] Qw Jt (Qg [(11,_)] Qw Co (Qg [] Qw A0 (Qg [] Qw A0 (Qg [(13,_),(14,_)] Yw fX (Qg [(12,_),(15,_)] Qw Ks (Qp Gv (Qp Bh (Rb (Qr (.bool _) ?_))))))))))))))));rfl
theorem Kj (u:Bool)(n:Int):Ap Tryz.prog 215 [.bool u,.int .i64 n] (.bool (unu u n)):=by
 refine Fl 10 Tryz.func215 rfl fun H=>?_
 refine Af (Qp Bh (B7 (Qp Co (Qp Co (Qg [] Qw A0 (Qg [(7,_)] Qw Bq (Qp Gv (Qp Bh (A2 (AW.ret (Qr (.bool _) ?_)))))))))));rfl
theorem rp_check (p:Pt)(hc:Dp p.cond<=1048576)(hl:p.args.length<=1048576):Ap Tryz.prog 199 [.agg (cPt p)] (.int .i64 (bK p)):=by
 refine Fl 113 Tryz.func199 rfl fun H=>?_
 refine Af (Qp (Ik Gq) (Qp Ax (A2 (Cg (Qp (Qf Gq) (Qp Cd (Qp Cv (Qp Co (Qg [] Qw (Qf Gq) (Qg [(9,_)] Qw Cd (Qg [(10,_)] Qw Jt (Qp Gv (Bp (fun hc1=>Af (Qp Ax (Rc (Qr (Iq _) ?_)))) fun hc1=>B6 (AW.seq ?_))))))))))))))
 . exact Ye (AV.int .i64) (ck_1 hc1)
 have hop:=op_range hc1;refine (shp_at hop.1 hop.2).elim fun rest hrest=>?_
 refine AW.region (Qp (Qf Gq) (Qp Cd ?_));refine Qp (Lk (cs':=cShp (Lg p.op)++rest) tok ⟨_,by simp [globals],fun _ h=>h⟩ rfl rfl rfl rfl (hop.1) (hop.2) hrest rfl) ?_;refine Qp (C1 gjy) (D7 [.int .i64 0,.int .i64 0,.bool false,.bool false,.bool false,.bool false] fun b3=>?_);refine Bz 0 gjy (_::_) ?_;refine Kh 3 0 rfl ?_;refine Re (AW.block (Af (Qp (Qf ghy) (Qp Ew ?_))));refine Qp (G1 p.args.length rfl rfl (by simp)) ?_;refine Qp (Qf gjy) (Qp Cd (Qp Cv (Qp Co (Qg [] Qw (Qf ghy) (Qg [(25,_)] Qw Ew ?_)))));refine Yh [(26,_)] Qw (fun hG=>G1 p.args.length rfl rfl (by simp)) ?_;refine Qg [] Qw (Qf [Iq _,.bool _,.bool _,.bool _,.bool _]) (Qg [(28,_)] Qw Cd (Qg [(27,_),(29,_)] Yw Hc (Qp Gv (Qp Bh (Bp (fun hc2=>Af (Qp Ax (Ra (Qr (Iq _) ?_)))) fun hc2=>Af (Qp (Qf ghz) (Qp lN (Qp (Qf gjz) (Qp Cd ?_)))))))))
 . exact Ye (AV.int .i64) (ck_2 hc1 hc2)
 refine Qp (Qc rfl (U2 _ _ _)) (Qp J4 (Qp Co (Qg [] Qw (Qf ghz) (Qg [(40,_)] Qw lN (Qg [] Qw (Qf giz) (Qg [(42,_)] Qw Cd (Qg [(41,_),(43,_)] Yw (Qc rfl (U2 _ _ _)) (Qg [(44,_)] Qw J4 (Qp Gv (Qp Co (Qg [] Qw (Qf [.bool _,.bool _]) (Qg [(48,_)] Qw lN (Qg [] Qw (Qf gkx) (Qg [(50,_)] Qw Cd ?_))))))))))))));refine Qg [(49,_),(51,_)] Yw (Qc rfl (U2 _ _ _)) (Qg [(52,_)] Qw J4 (Qp Gv (Qp Co (Qg [] Qw (Qf [.bool _]) (Qg [(56,_)] Qw lN (Qg [] Qw (Qf [Iq _,Iq _,_,Iq _,Iq _,Iq _,Iq _,Iq _,.str _]) (Qg [(58,_)] Qw Cd (Qg [(57,_),(59,_)] Yw (Qc rfl (U2 _ _ _)) (Qg [(60,_)] Qw J4 (Qp Gv (Qp Bh (Bp (fun hc3=>Af (Qp Ax (Ra (Qr (Iq _) ?_)))) fun hc3=>?_))))))))))))
 . exact Ye (AV.int .i64) (ck_3 hc1 hc2 hc3)
 refine Rf (Cg (Qp (Qf [.bool _,.bool _,.bool _]) (Qp lN (Bp (fun hc4=>Af (Qp jG (Qp Xb ?_))) fun hc4=>B6 (Cg (Qp (Qf [.bool _,.bool _,.bool _]) (Qp lN (Qp J4 (Qp Co (Qg [] Qw jG (Qg [(75,_)] Qw Xb (Qg [] Qw (E2 Me) ?_))))))))))))
 .
  refine Qp (Qc rfl (e8c21 p.cond hc)) (Qp Ax (B7 (Qp A0 (Qp C3 (Bp (fun hc5=>Af (Qp A0 (Qp Ax (Rc (Qr (Iq _) ?_))))) fun hc5=>B6 (Cg (Qp (Qf [.bool _,.bool _,.bool _]) (Qp lN (Qp J4 (Qp Co (Qg [] Qw jG (Qg [(75,_)] Qw Xb (Qg [] Qw (E2 Me) ?_)))))))))))))
  . exact Ye (AV.int .i64) (ck_4 hc1 hc2 hc3 hc4 hc5)
  refine Qg [(76,_),(77,_)] Yw (Qc rfl (e8c22 p.cond qF hc)) (Qg [(78,_)] Qw J4 (Qp Ks (Qp Co (Qg [] Qw (Qf ghz) (Qg [(82,_)] Qw lN (Qg [] Qw (Qf gjz) (Qg [(84,_)] Qw Cd (Qg [(83,_),(85,_)] Yw (Qc rfl (Kj _ _)) ?_))))))));refine Qg [(86,_)] Qw J4 (Qp Gv (Qp Co (Qg [] Qw (Qf ghz) (Qg [(90,_)] Qw lN (Qg [] Qw (Qf giz) (Qg [(92,_)] Qw Cd (Qg [(91,_),(93,_)] Yw (Qc rfl (Kj _ _)) (Qg [(94,_)] Qw J4 (Qp Gv (Qp Co (Qg [] Qw (Qf [.bool _,.bool _]) (Qg [(98,_)] Qw lN (Qg [] Qw (Qf gkx) (Qg [(100,_)] Qw Cd ?_))))))))))))));refine Qg [(99,_),(101,_)] Yw (Qc rfl (Kj _ _)) (Qg [(102,_)] Qw J4 (Qp Gv (Qp Co (Qg [] Qw (Qf [.bool _]) (Qg [(106,_)] Qw lN (Qg [] Qw (Qf [Iq _,Iq _,_,Iq _,Iq _,Iq _,Iq _,Iq _,.str _]) (Qg [(108,_)] Qw Cd (Qg [(107,_),(109,_)] Yw (Qc rfl (Kj _ _)) (Qg [(110,_)] Qw J4 (Qp Gv (Bp (fun hc6=>Af (Qp Ax (Rc (Qr (Iq _) ?_)))) fun hc6=>B6 (Af (Qp Ax (Rb (Qr (Iq _) ?_)))))))))))))))
  . exact Ye (AV.int .i64) ((Aar hc1 hc2 hc3 (by rw [hc5];simp)).trans (if_pos hc6))
  exact Ye (AV.int .i64) ((Aar hc1 hc2 hc3 (by rw [hc5];simp)).trans (B2 hc6))
 refine Qg [(76,_),(77,_)] Yw (Qc rfl (e8c22 p.cond qF hc)) (Qg [(78,_)] Qw J4 (Qp Ks (Qp Co (Qg [] Qw (Qf ghz) (Qg [(82,_)] Qw lN (Qg [] Qw (Qf gjz) (Qg [(84,_)] Qw Cd (Qg [(83,_),(85,_)] Yw (Qc rfl (Kj _ _)) ?_))))))));refine Qg [(86,_)] Qw J4 (Qp Gv (Qp Co (Qg [] Qw (Qf ghz) (Qg [(90,_)] Qw lN (Qg [] Qw (Qf giz) (Qg [(92,_)] Qw Cd (Qg [(91,_),(93,_)] Yw (Qc rfl (Kj _ _)) (Qg [(94,_)] Qw J4 (Qp Gv (Qp Co (Qg [] Qw (Qf [.bool _,.bool _]) (Qg [(98,_)] Qw lN (Qg [] Qw (Qf gkx) (Qg [(100,_)] Qw Cd ?_))))))))))))));refine Qg [(99,_),(101,_)] Yw (Qc rfl (Kj _ _)) (Qg [(102,_)] Qw J4 (Qp Gv (Qp Co (Qg [] Qw (Qf [.bool _]) (Qg [(106,_)] Qw lN (Qg [] Qw (Qf [Iq _,Iq _,_,Iq _,Iq _,Iq _,Iq _,Iq _,.str _]) (Qg [(108,_)] Qw Cd (Qg [(107,_),(109,_)] Yw (Qc rfl (Kj _ _)) (Qg [(110,_)] Qw J4 (Qp Gv (Bp (fun hc7=>Af (Qp Ax (Rc (Qr (Iq _) ?_)))) fun hc7=>B6 (Af (Qp Ax (Rb (Qr (Iq _) ?_)))))))))))))))
 . exact Ye (AV.int .i64) ((Aar hc1 hc2 hc3 (by rw [hc4];rfl)).trans (if_pos hc7))
 exact Ye (AV.int .i64) ((Aar hc1 hc2 hc3 (by rw [hc4];rfl)).trans (B2 hc7))
theorem rp_Size (p:Pt)(hp:J5 p<=1048576):Ap Tryz.prog 198 [.agg (cPt p)] (.tuple [.int .i64 (J5 p:Nat),.int .i64 (rC p:Nat)]):=by
 induction p using Pt.ind
 rename_i p ih;have hal:=Wj p;refine Fl 32 Tryz.func198 rfl fun H=>?_
 refine Af (Qp (Ik Gq) (Qp Ax (Qp Ax (B7 (Qp Ax (Qp Ax (A2 (Cg (Qp (Qf ghy) (Qp Ew ?_))))))))));refine Qp (G1 p.args.length rfl rfl (by simp)) ?_;refine Qp A0 (A2 (AW.block ?_));refine AW.loopS (fun (q:Nat×Nat×Nat)=>(⟨[(4,.int .i64 (q.2.1:Int)),(5,.int .i64 (q.2.2:Int)),(11,.sl 14 (p.args.map Tj)),(12,.int .i64 p.args.length),(13,.int .i64 (q.1:Int))],H,32⟩:St)) (fun q=>q.1<=p.args.length/\q.2.1=1+((p.args.take q.1).map J5).sum/\q.2.2=Yz (p.args.take q.1)) (fun q=>p.args.length-q.1) ((0,1,0)) ?_ Dh ?_
 . exact ⟨A7 _,rfl,by rw [List.take_zero,Yz]⟩
 rintro q hR;refine Af (Qp Cv (Re (Gn (fun hc1=>?_) fun hc1=>?_)))
 .
  obtain ⟨a,ha⟩:=C2 hc1;have hlt:=Cc ha;have hm:=Aj ha;have hsm:=Ph hm;have hps:=sz_part (p:=p) ha;have hq1:=hR.2.1;refine B6 (AW.seq (AW.block (Af ?_)));refine Qp (E9 Gq rfl rfl (by omega) (iT ha)) ?_;refine Qp (C1 Gq) (D7 ggx fun b7=>?_);refine Bz 0 Gq (_::_) ?_;refine Kh 7 0 rfl ?_;refine B7 (Qp (C1 Gq) ?_);refine Qp (Qc rfl (ih a hm (by have:=Ph hm;omega))) ?_;refine Qp Th (Qp Td (Qp Td (Qp Ax (Qp Ax (A2 (AW.region (Qp A0 (Qp A0 (Qp Hb (Qp A0 (Qp A0 (Qp (tT rfl rfl) (Qp Ax (Qp Ax (Rk (AW.region (Qp Hb (Qp A0 (A2 ?_)))))))))))))))))));refine ⟨(q.1+1,q.2.1+J5 a,max q.2.2 (rC a)),?_,?_,GS.weaken ⟨rfl,congrArg (AV.int .i64) (max_cast q.2.2 (rC a)),rfl,rfl,rfl,trivial⟩ (.refl _)⟩
  . exact ⟨hlt,by simp only;rw [Cs ha,hR.2.1];simp;omega,by simp only;rw [Cs ha,gU,hR.2.2]⟩
  simp only;omega
 have hte:=Dt hc1;have h1:=hR.2.1;have h2:=hR.2.2;rw [hte] at h1 h2;have hdp:=dp_le p;have hde:=rD p;refine AW.exit ?_;refine Br (Ri (Af (Qp A0 (Qp A0 (Qp Hb (Qp Ax (Qp Ax ?_)))))));refine Rb (Nb (Iq _) (Iq _) ?_);exact Eq.trans rfl (congrArg (fun q:Nat×Nat=>AV.tuple [.int .i64 (q.1:Int),.int .i64 (q.2:Int)]) (show (q.2.1,q.2.2+1)=(J5 p,rC p) by rw [h1,h2,Mq,rD];simp;omega))
theorem rp_walk (S:Type)(live:S->Bool)(step:S->Pt->S)(Ko:S->Nat->Prop)(hmo:∀s n m,Ko s n->m<=n->Ko s m)(hgo:∀s q n,Ko s (n+1)->Ko (step s q) n)(Q:Pt->Prop)(HH:S->List HO)(l:Nat)(rec:Loop)(hrec:rec.params.size=1)(hobj:∀s,live s=true->∃i:Nat,(HH s)[i]? = some (HO.obj l (Obj.loop rec)))(hY:∀s q n,live s=true->Q q->Ko s (n+1)->Nm Tryz.prog l rec (HH s) [.agg (cPt q)] (fun r H'=>r = .bool (live (step s q))/\H'=HH (step s q)))(p:Pt)(hp:J5 p<=1048576)(hq:∀q∈Hx p,Q q)(s:S)(m:Nat)(hs:live s=true)(hg:Ko s (J5 p+m)):Bt Tryz.prog 201 (HH s) [.agg (cPt p),.val (.func (.yield l) #[] #[])] (fun r H'=>r = .bool (live (Tp live step s (Hx p)))/\H'=HH (Tp live step s (Hx p))):=by
 revert m
 revert s
 induction p using Pt.ind
 rename_i p ih;intro s hs m hg;have hal:=Wj p;refine H7 23 Tryz.func201 rfl ?_;refine Af (Qp (Ik Gq) (Qp Bh (Re (AW.seq ?_))));refine AW.regionYk 2 rfl (by kernel_rfl) (by kernel_rfl) ?_;refine Qp Bu (Qp (C1 Gq) (AOL.nil ?_));have hg1:Ko s (J5 p-1+m+1):=by rw [show J5 p-1+m+1=J5 p+m by omega];exact hg
 refine ⟨l,rec,_,hobj s hs,rfl,hrec.symm,rfl,hY s p (J5 p-1+m) hs (hq p (kN p)) hg1,?_⟩;rintro _ _ ⟨rfl,rfl⟩;refine Qp J4 (Bp (fun hc1=>Af (Qp Bh (Rc ?_))) fun hc1=>B6 (Cg (Qp (Qf ghy) (Qp Ew ?_))))
 .
  refine ⟨.inr rfl,[.bool _],Ze,_,S0,?_⟩;have hx:=goY_stop live step hs (show live (step s p)=false by simpa using hc1);exact ⟨congrArg AV.bool (by rw [hx];simpa using hc1:false=live _),congrArg HH hx.symm⟩
 refine Qp (G1 p.args.length rfl rfl (by simp)) ?_;refine Qp A0 (A2 (AW.block ?_));have hg2:Ko (Tp live step (step s p) ((p.args.take 0).flatMap Hx)) (((p.args.drop 0).map J5).sum+m):=by have h:=hgo s p (J5 p-1+m) hg1;rw [show J5 p-1=(p.args.map J5).sum by rw [Mq];rfl] at h;exact h
 refine AW.loopS (fun (k:Nat)=>(⟨[(1,.val (.func (.yield l) #[] #[])),(12,.sl 14 (p.args.map Tj)),(13,.int .i64 p.args.length),(14,.int .i64 (k:Int))],HH (Tp live step (step s p) ((p.args.take k).flatMap Hx)),23⟩:St)) (fun k=>k<=p.args.length/\live (Tp live step (step s p) ((p.args.take k).flatMap Hx))=true/\Ko (Tp live step (step s p) ((p.args.take k).flatMap Hx)) (((p.args.drop k).map J5).sum+m)) (fun k=>p.args.length-k) (0) ?_ Dh ?_
 . exact ⟨A7 _,by simpa [Tp] using hc1,hg2⟩
 rintro k hR;refine Af (Qp Cv (Re (Gn (fun hc2=>?_) fun hc2=>?_)))
 .
  obtain ⟨a,ha⟩:=C2 hc2;have hlt:=Cc ha;have hm:=Aj ha;refine B6 (AW.seq (AW.block (Af ?_)));refine Qp (E9 Gq rfl rfl (by omega) (iT ha)) ?_;refine Qp (C1 Gq) (D7 ggx fun b6=>?_);refine Bz 0 Gq (_::_) ?_;refine Kh 6 0 rfl ?_;refine B7 (Qp (C1 Gq) (Qp Bu ?_));refine Rt (Dc rfl (ih a hm (by have:=Ph hm;omega) (fun q h=>hq q (nd_mem hm h)) _ hR.2.1 (((p.args.drop (k+1)).map J5).sum+m) (by have h:=hR.2.2;rw [Bm ha,Be,Hu,Nat.add_assoc] at h;exact h))) ?_;refine Qp J4 (Bp (fun hc3=>Af (Qp Bh (Ra (A4 (Dw (A4 ?_)))))) fun hc3=>Rf (AW.region (Qp Hb (Qp A0 (A2 ?_)))))
  .
   refine ⟨.inr rfl,[.bool _],Ze,_,S0,?_⟩;have hd:live (Tp live step (step s p) ((p.args.take (k+1)).flatMap Hx))=false:=by rw [dC live step ha];simpa using hc3
   have hx:=(rJ live step hs p).trans (goY_cut live step ha hd);exact ⟨congrArg AV.bool (by rw [hx,hd]:false=live _),congrArg HH ((dC live step ha).symm.trans hx.symm)⟩
  refine ⟨k+1,?_,?_,GS.trans (GS.heq (congrArg HH (dC live step ha).symm)) Dh⟩
  . exact ⟨hlt,by rw [dC live step ha];simpa using hc3,by rw [dC live step ha];exact iJ live step hmo hgo (Hx a) _ _ (by have h:=hR.2.2;rw [Bm ha,Be,Hu,Nat.add_assoc,<-nd_len] at h;exact h)⟩
  omega
 have hte:=Dt hc2;refine AW.exit ?_;refine Br (Ri (Af (Qp Bh (Rb ?_))));refine ⟨.inr rfl,[.bool _],Ze,_,S0,?_⟩;have hx:=rJ live step hs p;have h9:=hR.2.1;rw [hte] at h9;exact ⟨congrArg AV.bool (by rw [hx,h9]:true=live _),congrArg HH ((congrArg (fun L:List Pt=>Tp live step (step s p) (L.flatMap Hx)) hte).trans hx.symm)⟩
theorem sQ (p:Pt):Ap Tryz.prog 160 [.agg (cPt p)] (.fn (.func 200) [] [.ptr (cPt p)]):=by
 refine Fl 4 Tryz.func160 rfl fun H=>?_
 refine Af (Qp (Ik Gq) (Qp O2 (B7 (Qp (B0 (l:=[]) (l':=[.ptr _]) rfl rfl) (Qp (Ad (v:=.fn _ _ _) rfl) (Rb (Qr (.fn _ _ _) ?_)))))));rfl
theorem kX (S:Type)(live:S->Bool)(step:S->Pt->S)(Ko:S->Nat->Prop)(hmo:∀s n m,Ko s n->m<=n->Ko s m)(hgo:∀s q n,Ko s (n+1)->Ko (step s q) n)(Q:Pt->Prop)(HH:S->List HO)(l:Nat)(rec:Loop)(hrec:rec.params.size=1)(hobj:∀s,live s=true->∃i:Nat,(HH s)[i]? = some (HO.obj l (Obj.loop rec)))(hY:∀s q n,live s=true->Q q->Ko s (n+1)->Nm Tryz.prog l rec (HH s) [.agg (cPt q)] (fun r H'=>r = .bool (live (step s q))/\H'=HH (step s q)))(p:Pt)(hp:J5 p<=1048576)(hq:∀q∈Hx p,Q q)(s:S)(m:Nat)(hs:live s=true)(hg:Ko s (J5 p+m)):Bt Tryz.prog 200 (HH s) [.val (.func (.yield l) #[] #[]),.ptr (cPt p)] (fun r H'=>r = .tuple []/\H'=HH (Tp live step s (Hx p))):=by
 refine H7 6 Tryz.func200 rfl ?_;refine AW.region (Qp (C1 Gq) (Qp Bu (qD (rp_walk S live step Ko hmo hgo Q HH l rec hrec hobj hY p hp hq s m hs hg) (AOL.nil ?_))));refine ⟨.inl rfl,[],.nil,_,.refl _,?_⟩;exact ⟨rfl,rfl⟩
theorem rp_restA (p:Pt)(hp:medP p)(H:List HO):Bt Tryz.prog 159 H [.agg (cPt p)] (fun r H'=>r = .int .i64 (Oa p)/\H'=H):=by
 refine Bt.bodyX (n:=24) tok Tryz.func159 rfl rfl rfl ?_;refine AWX.seq ?_;refine AW.region (Qp (Ik Gq) (D7 [.int .i64 0] fun b2=>A2 ?_));refine AWX.seq ?_;refine AW.region (Qp (C1 Gq) (Qp (Qc rfl (rp_Size p hp.n)) (Qp Th (Qp Td (Qp Td (Qp Ax (Qp Ax (A2 ?_))))))));refine AWX.seq ?_;refine Af (Qp A0 (Qp Hc (Bp (fun hc1=>Af ?_) fun hc1=>B6 ?_)))
 .
  refine Bz 0 [Iq _] (_::_) (Rc ?_);refine ⟨.inr rfl,[Iq _],.cons (.boxs _ _ _ 0 _ _ _ rfl _ rfl rfl rfl) <| .nil,_,S1,?_⟩;exact ⟨congrArg (AV.int .i64) (rst_1 hc1).symm,rfl⟩
 refine AWX.seq ?_;refine Af (Qp A0 (Qp Hc (Bp (fun hc2=>Af ?_) fun hc2=>B6 ?_)))
 .
  refine Bz 0 [Iq _] (_::_) (Rc ?_);refine ⟨.inr rfl,[Iq _],.cons (.boxs _ _ _ 0 _ _ _ rfl _ rfl rfl rfl) <| .nil,_,S1,?_⟩;exact ⟨congrArg (AV.int .i64) (rst_2 hc1 hc2).symm,rfl⟩
 refine AWX.assoc ?_;refine AW.region (Qp (C1 Gq) (Qp (Qc rfl (sQ p)) (A2 ?_)));refine AWX.rangeE tok (fun H2=>Cr bK (Hx p)=0/\H2 = .box b2 26 [.int .i64 0]::H) (fun H2=>Cr bK (Hx p)≠0/\H2 = .box b2 26 [.int .i64 (Cr bK (Hx p))]::H) rfl (by kernel_rfl) (fun rec D l hst hpe hps has hbo hsz htm=>?_) (fun D H2 hZ=>?_) (fun D H2 hY=>?_)
 .
  refine Bt.post (kX Int (fun e=>e==0) (fun _ q=>bK q) (fun _ _=>True) (fun _ _ _ _ _=>trivial) (fun _ _ _ _=>trivial) (fun q=>Dp q.cond<=1048576/\q.args.length<=1048576) (fun e:Int=>(.obj l (.loop (if (e==0)=true then rec else { rec with state:=.done,pending:=some .ret })) :: .obj D (.deferred (some [])) :: .box b2 26 [.int .i64 e]::H:List HO)) l rec (by rw [hps];rfl) (fun e he=>⟨0,by show some (HO.obj l (.loop (if (e==0)=true then rec else { rec with state:=.done,pending:=some .ret })))=_;rw [if_pos he]⟩) (fun e q n he hq _=>?_) p hp.n (hp.len) 0 0 rfl trivial) ?_
  .
   obtain rfl:e=0:=by simpa using he
   show Nm _ l rec (.obj l (.loop rec) :: .obj D (.deferred (some [])) :: .box b2 26 [.int .i64 0]::H) _ _;refine Nm.ofE2 ((18,.agg (cPt q)) :: [(2,Value.pointer (some ⟨b2,0,none⟩))].map fun p=>(p.1,.val p.2)) hst hpe hsz (by rw [hps];exact par1 hsz rfl ⟨htm 2 _ rfl,trivial⟩) has hbo ?_;refine fT.region (by kernel_rfl) ?_;refine D7 ggx fun b5=>?_
   refine Bz 0 Gq (_::_::_::_::_) ?_;refine Kh 5 0 rfl ?_;refine AOL.nil ?_;refine ⟨rfl,0,rfl,?_⟩;refine fT.block ?_;refine fT.seq ?_;refine fT.region (by kernel_rfl) ?_;refine Qp (C1 Gq) (Qp (Qc rfl (rp_check q hq.1 hq.2)) (Qp Ax (A2 ?_)));refine fT.seq ?_;refine fT.region (by kernel_rfl) ?_;refine Qp A0 (Qp C3 (A2 ?_));refine fT.cond (b:=_) rfl (fun hc3=>?_) (fun hc3=>?_)
   .
    refine fT.seq ?_;refine fT.region (by kernel_rfl) ?_;refine Qp A0 ?_;refine Bz 2 [Iq _] (_::_::_::_) (A2 ?_);refine fT.ret ?_;refine Dw ?_;have h0:(bK q==0)=false:=by simpa using hc3
    have hH:(fun e:Int=>(.obj l (.loop (if (e==0)=true then rec else { rec with state:=.done,pending:=some .ret })) :: .obj D (.deferred (some [])) :: .box b2 26 [.int .i64 e]::H:List HO)) (bK q)=(.obj l (.loop { rec with state:=.done,pending:=some .ret }) :: .obj D (.deferred (some [])) :: .box b2 26 [.int .i64 (bK q)]::H:List HO):=Eq.trans (congrArg (fun r:Loop=>(.obj l (.loop r) :: .obj D (.deferred (some [])) :: .box b2 26 [.int .i64 (bK q)]::H:List HO)) (if_neg (by rw [h0];decide))) (congrArg (fun v:Int=>(.obj l (.loop { rec with state:=.done,pending:=some .ret }) :: .obj D (.deferred (some [])) :: .box b2 26 [.int .i64 v]::H:List HO)) (rfl));exact ⟨0,rfl,Or.inr ⟨rfl,congrArg AV.bool h0.symm,hH.symm⟩⟩
   refine fT.skip ?_;refine Ff ?_;have h0:bK q=0:=by simpa using hc3
   exact ⟨0,rfl,Or.inl ⟨rfl,congrArg AV.bool (by rw [h0];rfl),congrArg (fun e:Int=>(.obj l (.loop (if (e==0)=true then rec else { rec with state:=.done,pending:=some .ret })) :: .obj D (.deferred (some [])) :: .box b2 26 [.int .i64 e]::H:List HO)) h0.symm⟩⟩
  rintro r K ⟨rfl,rfl⟩;have hfin:=Y6 bK (Hx p);by_cases h0:Cr bK (Hx p)=0
  . exact ⟨_,List.Perm.refl _,rec,_,congrArg (fun e:Int=>(.obj l (.loop (if (e==0)=true then rec else { rec with state:=.done,pending:=some .ret })) :: .obj D (.deferred (some [])) :: .box b2 26 [.int .i64 e]::H:List HO)) (hfin.trans h0),by rw [hst];decide,Or.inl ⟨hpe,h0,rfl⟩⟩
  exact ⟨_,List.Perm.refl _,{ rec with state:=.done,pending:=some .ret },.box b2 26 [.int .i64 (Cr bK (Hx p))]::H,(congrArg (fun e:Int=>(.obj l (.loop (if (e==0)=true then rec else { rec with state:=.done,pending:=some .ret })) :: .obj D (.deferred (some [])) :: .box b2 26 [.int .i64 e]::H:List HO)) hfin).trans (congrArg (fun r:Loop=>(.obj l (.loop r) :: .obj D (.deferred (some [])) :: .box b2 26 [.int .i64 (Cr bK (Hx p))]::H:List HO)) (if_neg (by simpa using h0))),(fun h=>LoopState.noConfusion h),Or.inr ⟨rfl,h0,rfl⟩⟩
 .
  obtain ⟨h0,rfl⟩:=hZ;refine Tail.region ?_;refine Bz 1 [Iq _] (_::_::_) (AOL.nil ?_);exact ⟨0,rfl,[_],.cons (.boxs _ _ _ 1 _ _ _ rfl _ rfl rfl rfl) .nil,H,.cons _ (.cons _ (.refl _)),congrArg (AV.int .i64) (((rst_3 hc1 hc2).trans h0).symm),rfl⟩
 obtain ⟨h0,rfl⟩:=hY;exact ⟨_,GS.refl _,0,rfl,[_],.cons (.boxs _ _ _ 1 _ _ _ rfl _ rfl rfl rfl) .nil,H,.cons _ (.cons _ (.refl _)),congrArg (AV.int .i64) ((rst_3 hc1 hc2).symm),rfl⟩
theorem rp_rest (p:Pt)(hp:medP p):Ap Tryz.prog 159 [.agg (cPt p)] (.int .i64 (Oa p)):=fun H=>rp_restA p hp H
theorem yR (p:Pt)(hp:medP p)(H:List HO):Bt Tryz.prog 98 H [.agg (cPt p)] (fun r H'=>r = .int .i64 (Q9 p)/\H'=H):=by
 refine Bt.bodyX (n:=16) tok Tryz.func98 rfl rfl rfl ?_;refine AWX.seq ?_;refine AW.region (Qp (Ik Gq) (D7 [.int .i64 0] fun b2=>A2 ?_));refine AWX.seq ?_;refine Af (Qp (C1 Gq) (Qp (Qc rfl (rp_rest p hp)) (Qp Ax (B7 (Qp A0 (Qp C3 (Bp (fun hc1=>Af (Qp A0 ?_)) fun hc1=>B6 ?_)))))))
 .
  refine Bz 0 [Iq _] (_::_) (Rc ?_);refine ⟨.inr rfl,[Iq _],.cons (.boxs _ _ _ 0 _ _ _ rfl _ rfl rfl rfl) <| .nil,_,S1,?_⟩;exact ⟨congrArg (AV.int .i64) (whl_1 hc1).symm,rfl⟩
 refine AWX.assoc ?_;refine AW.region (Qp (C1 Gq) (Qp (Qc rfl (sQ p)) (A2 ?_)));refine AWX.rangeE tok (fun H2=>Cr lQ (Hx p)=0/\H2 = .box b2 26 [.int .i64 0]::H) (fun H2=>Cr lQ (Hx p)≠0/\H2 = .box b2 26 [.int .i64 (Cr lQ (Hx p))]::H) rfl (by kernel_rfl) (fun rec D l hst hpe hps has hbo hsz htm=>?_) (fun D H2 hZ=>?_) (fun D H2 hY=>?_)
 .
  refine Bt.post (kX Int (fun e=>e==0) (fun _ q=>lQ q) (fun _ _=>True) (fun _ _ _ _ _=>trivial) (fun _ _ _ _=>trivial) (fun q=>True) (fun e:Int=>(.obj l (.loop (if (e==0)=true then rec else { rec with state:=.done,pending:=some .ret })) :: .obj D (.deferred (some [])) :: .box b2 26 [.int .i64 e]::H:List HO)) l rec (by rw [hps];rfl) (fun e he=>⟨0,by show some (HO.obj l (.loop (if (e==0)=true then rec else { rec with state:=.done,pending:=some .ret })))=_;rw [if_pos he]⟩) (fun e q n he hq _=>?_) p hp.n (fun _ _=>trivial) 0 0 rfl trivial) ?_
  .
   obtain rfl:e=0:=by simpa using he
   show Nm _ l rec (.obj l (.loop rec) :: .obj D (.deferred (some [])) :: .box b2 26 [.int .i64 0]::H) _ _;refine Nm.ofE2 ((12,.agg (cPt q)) :: [(2,Value.pointer (some ⟨b2,0,none⟩))].map fun p=>(p.1,.val p.2)) hst hpe hsz (by rw [hps];exact par1 hsz rfl ⟨htm 2 _ rfl,trivial⟩) has hbo ?_;refine fT.region (by kernel_rfl) ?_;refine D7 ggx fun b4=>?_
   refine Bz 0 Gq (_::_::_::_::_) ?_;refine Kh 4 0 rfl ?_;refine AOL.nil ?_;refine ⟨rfl,0,rfl,?_⟩;refine fT.block ?_;refine fT.seq ?_;refine fT.region (by kernel_rfl) ?_;refine Qp (Qf Gq) (Qp Cd (Qp Jt (A2 ?_)));refine fT.cond (b:=_) rfl (fun hc2=>?_) (fun hc2=>?_)
   .
    refine fT.seq ?_;refine fT.region (by kernel_rfl) ?_;refine Bz 2 [Iq _] (_::_::_::_) (A2 ?_);refine fT.ret ?_;refine Dw ?_;have h0:(lQ q==0)=false:=by rw [show lQ q=1 from if_pos hc2];rfl
    have hH:(fun e:Int=>(.obj l (.loop (if (e==0)=true then rec else { rec with state:=.done,pending:=some .ret })) :: .obj D (.deferred (some [])) :: .box b2 26 [.int .i64 e]::H:List HO)) (lQ q)=(.obj l (.loop { rec with state:=.done,pending:=some .ret }) :: .obj D (.deferred (some [])) :: .box b2 26 [.int .i64 (1)]::H:List HO):=Eq.trans (congrArg (fun r:Loop=>(.obj l (.loop r) :: .obj D (.deferred (some [])) :: .box b2 26 [.int .i64 (lQ q)]::H:List HO)) (if_neg (by rw [h0];decide))) (congrArg (fun v:Int=>(.obj l (.loop { rec with state:=.done,pending:=some .ret }) :: .obj D (.deferred (some [])) :: .box b2 26 [.int .i64 v]::H:List HO)) ((if_pos hc2:lQ q=1)));exact ⟨0,rfl,Or.inr ⟨rfl,congrArg AV.bool h0.symm,hH.symm⟩⟩
   refine fT.skip ?_;refine Ff ?_;have h0:lQ q=0:=B2 hc2;exact ⟨0,rfl,Or.inl ⟨rfl,congrArg AV.bool (by rw [h0];rfl),congrArg (fun e:Int=>(.obj l (.loop (if (e==0)=true then rec else { rec with state:=.done,pending:=some .ret })) :: .obj D (.deferred (some [])) :: .box b2 26 [.int .i64 e]::H:List HO)) h0.symm⟩⟩
  rintro r K ⟨rfl,rfl⟩;have hfin:=Y6 lQ (Hx p);by_cases h0:Cr lQ (Hx p)=0
  . exact ⟨_,List.Perm.refl _,rec,_,congrArg (fun e:Int=>(.obj l (.loop (if (e==0)=true then rec else { rec with state:=.done,pending:=some .ret })) :: .obj D (.deferred (some [])) :: .box b2 26 [.int .i64 e]::H:List HO)) (hfin.trans h0),by rw [hst];decide,Or.inl ⟨hpe,h0,rfl⟩⟩
  exact ⟨_,List.Perm.refl _,{ rec with state:=.done,pending:=some .ret },.box b2 26 [.int .i64 (Cr lQ (Hx p))]::H,(congrArg (fun e:Int=>(.obj l (.loop (if (e==0)=true then rec else { rec with state:=.done,pending:=some .ret })) :: .obj D (.deferred (some [])) :: .box b2 26 [.int .i64 e]::H:List HO)) hfin).trans (congrArg (fun r:Loop=>(.obj l (.loop r) :: .obj D (.deferred (some [])) :: .box b2 26 [.int .i64 (Cr lQ (Hx p))]::H:List HO)) (if_neg (by simpa using h0))),(fun h=>LoopState.noConfusion h),Or.inr ⟨rfl,h0,rfl⟩⟩
 .
  obtain ⟨h0,rfl⟩:=hZ;refine Tail.region ?_;refine Bz 1 [Iq _] (_::_::_) (AOL.nil ?_);exact ⟨0,rfl,[_],.cons (.boxs _ _ _ 1 _ _ _ rfl _ rfl rfl rfl) .nil,H,.cons _ (.cons _ (.refl _)),congrArg (AV.int .i64) (((whl_2 hc1).trans h0).symm),rfl⟩
 obtain ⟨h0,rfl⟩:=hY;exact ⟨_,GS.refl _,0,rfl,[_],.cons (.boxs _ _ _ 1 _ _ _ rfl _ rfl rfl rfl) .nil,H,.cons _ (.cons _ (.refl _)),congrArg (AV.int .i64) ((whl_2 hc1).symm),rfl⟩
theorem rp_whole (p:Pt)(hp:medP p):Ap Tryz.prog 98 [.agg (cPt p)] (.int .i64 (Q9 p)):=fun H=>yR p hp H
theorem yQ (p:Pt)(hp:medP p)(ho:∀q∈Hx p,opOK q)(H:List HO):Bt Tryz.prog 99 H [.agg (cPt p)] (fun r H'=>r = .tuple [.int .i64 (Nw p).vars,.int .i64 (Nw p).scopes,.bool (Nw p).ok]/\H'=H):=by
 refine Bt.bodyX (n:=42) tok Tryz.func99 rfl rfl rfl ?_;refine AWX.seq ?_;refine AW.region (Qp (Ik Gq) (Qp Ax (Qp Ax (Qp Bh (A2 ?_)))));refine AWX.seq ?_;refine AW.region (D7 [.int .i64 0] fun b5=>D7 [.int .i64 0] fun b6=>D7 [.bool false] fun b7=>?_);refine Bz 2 [Iq _] (_::_::_::_) ?_;refine Bz 1 [Iq _] (_::_::_::_) ?_;refine Bz 0 [.bool _] (_::_::_::_) (A2 ?_);refine AWX.assoc ?_;refine AW.region (Qp (C1 Gq) (Qp (Qc rfl (sQ p)) (A2 ?_)));refine AWX.rangeE tok (fun H2=>H2 = .box b7 4 [.bool (Nw p).ok] :: .box b6 3 [.int .i64 (Nw p).scopes] :: .box b5 3 [.int .i64 (Nw p).vars]::H) (fun H2=>False) rfl (by kernel_rfl) (fun rec D l hst hpe hps has hbo hsz htm=>?_) (fun D H2 hZ=>?_) (fun D H2 hY=>hY.elim)
 .
  refine Bt.post (kX Cnt (fun _=>true) J0 gP Aas Aat opOK (fun c:Cnt=>(.obj l (.loop rec) :: .obj D (.deferred (some [])) :: .box b7 4 [.bool c.ok] :: .box b6 3 [.int .i64 c.scopes] :: .box b5 3 [.int .i64 c.vars]::H:List HO)) l rec (by rw [hps];rfl) (fun e he=>⟨0,rfl⟩) (fun c q n he hq hc=>?_) p hp.n ho ⟨0,0,true⟩ 0 rfl (by have:=hp.n;exact ⟨Fr _,Fr _,by simp only;omega,by simp only;omega⟩)) ?_
  .
   show Nm _ l rec (.obj l (.loop rec) :: .obj D (.deferred (some [])) :: .box b7 4 [.bool c.ok] :: .box b6 3 [.int .i64 c.scopes] :: .box b5 3 [.int .i64 c.vars]::H) _ _;refine Nm.ofE2 ((12,.agg (cPt q)) :: [(5,Value.pointer (some ⟨b5,0,none⟩)),(6,Value.pointer (some ⟨b6,0,none⟩)),(7,Value.pointer (some ⟨b7,0,none⟩))].map fun p=>(p.1,.val p.2)) hst hpe hsz (by rw [hps];exact par1 hsz rfl ⟨htm 5 _ rfl,htm 6 _ rfl,htm 7 _ rfl,trivial⟩) has hbo ?_;obtain ⟨hv0,hs0,hv1,hs1⟩:=hc;refine (shp_at hq.1 hq.2).elim fun rest hrest=>?_
   refine fT.region (by kernel_rfl) ?_;refine D7 ggx fun b8=>?_
   refine Bz 0 Gq (_::_::_::_::_::_::_) ?_;refine Kh 8 0 rfl ?_;refine AOL.nil ?_;refine ⟨rfl,0,rfl,?_⟩;refine fT.block ?_;refine fT.seq ?_;refine fT.region (by kernel_rfl) ?_;refine Qp (Qf Gq) (Qp Cd ?_);refine Qp (Lk (cs':=cShp (Lg q.op)++rest) tok ⟨_,by simp [globals],fun _ h=>h⟩ rfl rfl rfl rfl (hq.1) (hq.2) hrest rfl) ?_;refine Qp (C1 gjy) (D7 [.int .i64 0,.int .i64 0,.bool false,.bool false,.bool false,.bool false] fun b9=>?_);refine Bz 0 gjy (_::_::_::_::_::_::_) ?_;refine Kh 9 0 rfl ?_;refine A2 ?_;refine fT.seq ?_;refine fT.seq ?_;refine fT.region (by kernel_rfl) ?_;refine Qp (Qf ghz) (Qp lN (A2 ?_));refine fT.cond (b:=_) rfl (fun hc1=>?_) (fun hc1=>?_)
   .
    refine fT.seq ?_;refine fT.region (by kernel_rfl) ?_;refine Pz 2 (.bool _) rfl (Qp Co (Qg [] Qw (Qf giz) (Qg [(21,_)] Qw Cd (AOL.gk (y:=Iq _) _ [] rfl (bW.all trivial) (fun hG=>B8 (k:=4) (c:=Iq _) tok rfl rfl rfl rfl) rfl rfl ?_))));refine Qg [(22,_),(23,_)] Yw Bq (Qp Ks ?_);refine Bz 2 [.bool _] (_::_::_::_::_::_) (A2 ?_);refine fT.region (by kernel_rfl) ?_;refine Pz 4 (Iq _) rfl (Qp Hb ?_);refine Bz 4 [Iq _] (_::_::_::_::_::_) (A2 ?_);refine fT.seq ?_;refine fT.region (by kernel_rfl) ?_;refine Qp (Qf [.bool _,.bool _]) (Qp lN (A2 ?_));refine fT.cond (b:=_) rfl (fun hc2=>?_) (fun hc2=>?_)
    .
     refine fT.seq ?_;refine fT.region (by kernel_rfl) ?_;refine Pz 2 (.bool _) rfl (Qp Co (Qg [] Qw (Qf gkx) (Qg [(32,_)] Qw Cd (AOL.gk (y:=Iq _) _ [] rfl (bW.all trivial) (fun hG=>B8 (k:=3) (c:=Iq _) tok rfl rfl rfl rfl) rfl rfl ?_))));refine Qg [(33,_),(34,_)] Yw Bq (Qp Ks ?_);refine Bz 2 [.bool _] (_::_::_::_::_::_) (A2 ?_);refine fT.region (by kernel_rfl) ?_;refine Pz 3 (Iq _) rfl (Qp Hb ?_);refine Bz 3 [Iq _] (_::_::_::_::_::_) (AOL.nil (Ff ?_));exact ⟨0,rfl,Or.inl ⟨rfl,rfl,congrArg (fun c:Cnt=>(.obj l (.loop rec) :: .obj D (.deferred (some [])) :: .box b7 4 [.bool c.ok] :: .box b6 3 [.int .i64 c.scopes] :: .box b5 3 [.int .i64 c.vars]::H:List HO)) (stp_yy hc1 hc2)⟩⟩
    refine fT.skip ?_;refine Ff ?_;exact ⟨0,rfl,Or.inl ⟨rfl,rfl,congrArg (fun c:Cnt=>(.obj l (.loop rec) :: .obj D (.deferred (some [])) :: .box b7 4 [.bool c.ok] :: .box b6 3 [.int .i64 c.scopes] :: .box b5 3 [.int .i64 c.vars]::H:List HO)) (stp_yn hc1 hc2)⟩⟩
   refine fT.skip ?_;refine Aa ?_;refine fT.seq ?_;refine fT.region (by kernel_rfl) ?_;refine Qp (Qf [.bool _,.bool _]) (Qp lN (A2 ?_));refine fT.cond (b:=_) rfl (fun hc3=>?_) (fun hc3=>?_)
   .
    refine fT.seq ?_;refine fT.region (by kernel_rfl) ?_;refine Pz 2 (.bool _) rfl (Qp Co (Qg [] Qw (Qf gkx) (Qg [(32,_)] Qw Cd (AOL.gk (y:=Iq _) _ [] rfl (bW.all trivial) (fun hG=>B8 (k:=3) (c:=Iq _) tok rfl rfl rfl rfl) rfl rfl ?_))));refine Qg [(33,_),(34,_)] Yw Bq (Qp Ks ?_);refine Bz 2 [.bool _] (_::_::_::_::_::_) (A2 ?_);refine fT.region (by kernel_rfl) ?_;refine Pz 3 (Iq _) rfl (Qp Hb ?_);refine Bz 3 [Iq _] (_::_::_::_::_::_) (AOL.nil (Ff ?_));exact ⟨0,rfl,Or.inl ⟨rfl,rfl,congrArg (fun c:Cnt=>(.obj l (.loop rec) :: .obj D (.deferred (some [])) :: .box b7 4 [.bool c.ok] :: .box b6 3 [.int .i64 c.scopes] :: .box b5 3 [.int .i64 c.vars]::H:List HO)) (stp_ny hc1 hc3)⟩⟩
   refine fT.skip ?_;refine Ff ?_;exact ⟨0,rfl,Or.inl ⟨rfl,rfl,congrArg (fun c:Cnt=>(.obj l (.loop rec) :: .obj D (.deferred (some [])) :: .box b7 4 [.bool c.ok] :: .box b6 3 [.int .i64 c.scopes] :: .box b5 3 [.int .i64 c.vars]::H:List HO)) (stp_nn hc1 hc3)⟩⟩
  rintro r K ⟨rfl,rfl⟩;exact ⟨_,List.Perm.refl _,rec,_,congrArg (fun c:Cnt=>(.obj l (.loop rec) :: .obj D (.deferred (some [])) :: .box b7 4 [.bool c.ok] :: .box b6 3 [.int .i64 c.scopes] :: .box b5 3 [.int .i64 c.vars]::H:List HO)) (uT (Hx p) ⟨0,0,true⟩:_=Nw p),by rw [hst];decide,Or.inl ⟨hpe,rfl⟩⟩
 obtain rfl:=hZ;refine Tail.drawn ?_;refine AWD.draw mixed (fun H'=>_∈H'/\_∈H'/\_∈H') ⟨(Aj (i:=3) rfl),(Aj (i:=2) rfl),(Aj (i:=1) rfl)⟩ (by kernel_rfl) ?_;refine Qn 0 rfl (Db.mem (fun k=>B8 (k:=k) (c:=Iq _) tok rfl rfl rfl rfl) (fun _ h=>h.1)) ?_;refine Qn 1 rfl (Db.mem (fun k=>B8 (k:=k) (c:=Iq _) tok rfl rfl rfl rfl) (fun _ h=>h.2.1)) ?_;refine Qn 2 rfl (Db.mem (fun k=>B8 (k:=k) (c:=.bool _) tok rfl rfl rfl rfl) (fun _ h=>h.2.2)) ?_;refine Qn 3 rfl Ax (Qn 4 rfl Ax (Qn 5 rfl Bh ?_));refine Iw ?_;exact ⟨0,rfl,[_,_,_],.cons (.tmp _ _ rfl) (.cons (.tmp _ _ rfl) (.cons (.tmp _ _ rfl) .nil)),H,.cons _ (.cons _ (.cons _ (.cons _ (.refl _)))),rfl,rfl⟩
theorem rp_count (p:Pt)(hp:medP p)(ho:∀q∈Hx p,opOK q):Ap Tryz.prog 99 [.agg (cPt p)] (.tuple [.int .i64 (Nw p).vars,.int .i64 (Nw p).scopes,.bool (Nw p).ok]):=fun H=>yQ p hp ho H
theorem pH (p:Pt)(hp:medP p):Ap Tryz.prog 51 [.agg (cPt p)] (.int .i64 (Hf p)):=by
 refine Fl 20 Tryz.func51 rfl fun H=>?_
 refine Af (Qp (Ik Gq) (Qp Ax (A2 (Cg (Qp (C1 Gq) (Qp (Qc rfl (rp_whole p hp)) (Qp Ax (B7 (Qp A0 (Qp C3 (Bp (fun hc1=>Af (Qp A0 (Qp Ax (Rc (Qr (Iq _) ?_))))) fun hc1=>?_)))))))))))
 . exact Ye (AV.int .i64) (chk_1 hc1)
 refine B6 (Cg (Qp (C1 Gq) (Qp (Qc rfl (rp_count p hp (rst_ops (whl_0 hc1)))) (Qp Th (Qp Td (Qp Td (Qp fU (Qp Ax (Qp Ax (Qp Bh (B7 (Qp Co (Qp J4 (Bp (fun hc2=>Af (Qp Ax (Rc (Qr (Iq _) ?_)))) fun hc2=>B6 (Af (Qp Ax (Rb (Qr (Iq _) ?_))))))))))))))))))
 . exact Ye (AV.int .i64) (chk_2 hc1 hc2)
 exact Ye (AV.int .i64) (chk_3 hc1 hc2)
abbrev Px (q:Qy×Fa):AV:=AV.tuple [.agg (cQy q.1),.agg (jM q.2)]
theorem rf_query (T:List e8Sc)(hT:TsOK T)(t:Syn)(ht:QryOK t):Ap Tryz.prog 20 [.sl 2 (T.map Fx),.agg (cSyn t)] (.tuple [.agg (cQy (Ef T t).1),.agg (jM (Ef T t).2)]):=by
 have hl3:=ht.len;have hkl:=Wq ht.m;have hdl:(t.kids.drop 2).length<=1000000:=by rw [C4];omega
 have hpt:=ht.pat;have hrv:=rA hT (Xc (B5 t 1));have hev:=ht.evl;refine Fl 119 Tryz.func20 rfl fun H=>?_
 refine Af (Qp (Ik Ak) (D7 gjx fun b4=>D7 fZ fun b5=>B7 (Qp Mm (Qe (Dc rfl (T1 T hT.tl hT.nd _)) ?_))));rintro _ _ ⟨b6,s6,rfl,rfl⟩;refine Qp O2 ?_;refine AOL.ghost (GS.cellRow 0 2 60 2 rfl rfl rfl rfl) ?_;refine A2 (Cg (Qp (Qf Oq) (Qp Ew ?_)));refine Qp (E9 Ak rfl rfl (by decide) (F1 (Hq (by omega)))) ?_;refine Qp (C1 Ak) (Qp (Qc rfl (yP (B5 t 1) ht.med1 hpt)) (Qp Bu (Qp (B0 (l:=[.val _]) (l':=[]) rfl rfl) ?_)));refine Qe (Dc rfl (Bt.front3 (R:=_::_::_) 2 1 0 rfl rfl rfl rfl (rf_eachD T [] (by decide) _ b6 s6 (Xc (B5 t 1)) hev _))) ?_;rintro _ _ ⟨v7,rfl,rfl⟩;refine D7 fZ fun b7=>?_
 refine Bz 0 G5 (_::_::_::_::_::_::_) ?_;refine Kh 7 0 rfl ?_;refine B7 (Qp (Qf [Iq _]) (Qp Cd (Qp C3 (Bp (fun hc1=>AW.seq ?_) fun hc1=>?_))))
 .
  refine Ok ?_;refine Qn 0 rfl (E2 Ps) (Qn 1 rfl (C1 G5) ?_);refine Ns 2 rfl (Ki 4 (.agg _) Ps (_::_::_::_::_::_) rfl) ?_;refine Ns 3 rfl (Ki 3 (.agg _) G5 (_::_::_::_::_::_) rfl) ?_;refine Iw ?_;refine Aa (gH ?_);refine Yx [.agg Ps,.agg G5] (.cons (Yb 4) <| .cons (Yb 3) <| .nil) S5 ?_;exact Ye Px (qr_1 hc1)
 have hTp:0<T.length:=uM (uO _ hpt) hc1;refine B6 (AW.seq ?_);refine AW.ghost (GS.cell (H2:=_::_::_::_::_::_) 1 2 rfl rfl rfl rfl D1) ?_;refine AW.ghost (GS.freezeSMapCell 2 1 3 rfl rfl rfl rfl rfl) ?_
 skip
 refine Pq 1 rfl (Qn 0 rfl (Qf Vx) (Qn 1 rfl F4 (Qn 2 rfl Bu (Qn 3 rfl (Ae rfl) (Qn 4 rfl Cw (Qn 5 rfl (Lb (.sl _ _) rfl) ?_))))));refine Qn 6 rfl (Hy (l0:=[.str [],.sl 2 [],.sl 1 [],.int .i64 0,.sl 14 [],.int .i64 0,.int .i64 0,.int .i64 0,.int .i64 0,.int .i64 0,.sl 8 [],.int .i64 0,.int .i64 0,.int .i64 0,.int .i64 0,.int .i64 0,.str [],.val (.slice none 0 0)]) (l:=Ps) tok rfl rfl (by kernel_rfl) rfl) ?_;refine Vr 7 rfl (Dg (l:=gjx) (by kernel_rfl)) (by rintro _ _ ⟨b8,rfl,rfl⟩;simp) ?_;rintro _ _ ⟨b8,rfl,rfl⟩;refine bF 8 rfl (Ki 0 (.agg _) Ps (_::_::_::_::_::_) rfl) ?_;rintro _ _ ⟨rfl,rfl⟩;refine Aa ?_;refine AW.cut (fun (w:List Int)=>(⟨[(3,.ptr (cSyn t)),(4,.val (.pointer (some ⟨b4,0,none⟩))),(5,.val (.pointer (some ⟨b5,0,none⟩))),(6,.val (.pointer (some ⟨b6,0,none⟩))),(8,.val (.pointer (some ⟨b8,0,none⟩)))],.box b8 57 (cQyW ⟨t.text,(K4 T t),w,pt0,[]⟩ (.val (.slice none 0 0))) :: .box b6 126 (Ys T (K4 T t) ⟨0,0⟩) :: .box b5 72 fZ :: .box b4 57 gjx::H,119⟩:St)) (fun w=>w=(nK T t (K4 T t)).1/\(!(nK T t (K4 T t)).2)=false) ?_ ?_
 .
  refine Af (Qp (Qf Oq) (Qp Ew ?_));refine Qp (E9 Ak rfl rfl (by decide) (F1 (Hq (by omega)))) ?_;refine Qp (C1 Ak) (D7 In fun b9=>?_);refine Bz 0 Ak (_::_::_::_::_::_::_) ?_;refine Kh 9 0 rfl ?_;refine B7 (Qp (Qf Vx) (Qp F4 (Qp (Ge rfl rfl) (Bp (fun hc2=>Af (Qp Bu (Qp (Qf Vx) (Qp F4 ?_)))) fun hc2=>B6 ?_))))
  .
   refine AOL.Aaz (Cj (k:=2) (by kernel_rfl) rfl rfl (rf_key T (K4 T t) ⟨0,0⟩ b6 hrv (B5 t 0).text hTp)) rfl rfl ?_;refine Qp Th (Qp Qxs (Qp fU (Qp jF (Qp Bh (A2 (Cg (Qp Co (Qp J4 (Bp (fun hc3=>AW.seq ?_) fun hc3=>B6 (AW.region (Qp Mm (Qp Cw ?_))))))))))))
   .
    refine Ok ?_;refine Qn 0 rfl (E2 Ps) (Qn 1 rfl (Qf [Iq _]) (Qn 2 rfl Cd (Qn 3 rfl (E2 G5) ?_)));refine Ns 4 rfl (Ki 4 (.agg _) Ps (_::_::_::_::_::_) rfl) ?_;refine Ns 5 rfl (Ki 3 (.agg _) G5 (_::_::_::_::_::_) rfl) ?_;refine Iw ?_;refine Aa (gH (A4 ?_));refine Yx [.agg Ps,.agg G5] (.cons (Yb 4) <| .cons (Yb 3) <| .nil) S5 ?_;exact Ye Px ((qr_b hc1).trans (qr_2 (by rw [kK hc2];exact hc3)))
   refine Bz 0 Ps (_::_::_::_::_::_) (A2 ?_);refine ⟨(O0 T (K4 T t) (B5 t 0).text).1,?_,GS.weaken ⟨rfl,rfl,rfl,rfl,rfl,trivial⟩ (.cons_cons _ (.cons _ (.refl _)))⟩;exact ⟨by rw [kK hc2],by rw [kK hc2];exact hc3⟩
  refine ⟨[],?_,GS.weaken ⟨rfl,rfl,rfl,rfl,rfl,trivial⟩ (.cons_cons _ (.cons _ (.refl _)))⟩;exact ⟨by rw [ky_no hc2],by rw [ky_no hc2];rfl⟩
 rintro w hK;obtain ⟨hk1,hk2⟩:=hK;subst hk1;refine Cg (Qp Bu (Qp (C1 Ak) ?_));refine AOL.Aaz (Cj (k:=1) (by kernel_rfl) rfl rfl (rf_walk T (K4 T t) ⟨0,0⟩ b6 hrv t ht.m)) rfl rfl ?_;refine D7 fZ fun b12=>?_
 refine Bz 0 G5 (_::_::_::_::_::_) ?_;refine Kh 12 0 rfl ?_;refine B7 (Qp (Qf [Iq _]) (Qp Cd (Qp C3 (Bp (fun hc4=>AW.seq ?_) fun hc4=>?_))))
 .
  refine Ok ?_;refine Qn 0 rfl (E2 Ps) (Qn 1 rfl (C1 G5) ?_);refine Ns 2 rfl (Ki 3 (.agg _) Ps (_::_::_::_::_) rfl) ?_;refine Ns 3 rfl (Ki 2 (.agg _) G5 (_::_::_::_::_) rfl) ?_;refine Iw ?_;refine Aa (gH ?_);refine Yx [.agg Ps,.agg G5] (.cons (Yb 3) <| .cons (Yb 2) <| .nil) S4 ?_;exact Ye Px ((qr_b hc1).trans ((qr_c hk2).trans (qr_3 hc4)))
 have hw0:(H4 T (K4 T t) t).err=0:=by simpa using hc4
 have hw1:=(Kn hw0).2 _ (Aj (Hq (t:=t) (k:=1) (by omega)));refine B6 (Af (Qp Bu (Qp (Qf Oq) (Qp Ew ?_))));refine Qp (E9 Ak rfl rfl (by decide) (F1 (Hq (by omega)))) ?_;refine Qp (C1 Ak) ?_;refine Rt (Dc rfl ((sO T (K4 T t) ⟨0,0⟩ b6 hrv (B5 t 1) ht.med1 hpt hw1 ⟨by decide,by decide,by have:=Sm ht.med1;simp only;omega,by have:=Sm ht.med1;simp only;omega⟩).at (k:=1) (H2:=_::_::_::_::_) rfl rfl)) ?_;refine Qp Cw ?_;refine Bz 0 Ps (_::_::_::_::_) (A2 (Cg (Qp Cw (O3 0 Gq rfl (Qp (Qc rfl (pH (ptR T t (K4 T t)) (vT ht.med1 hpt _))) (Qp Ax (B7 (Qp A0 (Qp C3 (Bp (fun hc5=>AW.seq ?_) fun hc5=>B6 (AW.seq (AW.seq ?_))))))))))))
 .
  refine Ok ?_;refine Qn 0 rfl (E2 Ps) (Qn 1 rfl (Qf Oq) (Qn 2 rfl Ew ?_));refine Qn 3 rfl (E9 Ak rfl rfl (by decide) (F1 (Hq (by omega)))) ?_;refine Qn 4 rfl (Qf [Iq _]) (Qn 5 rfl Cd (Qn 6 rfl A0 (Qn 7 rfl (E2 G5) ?_)));refine Ns 8 rfl (Ki 3 (.agg _) Ps (_::_::_::_::_) rfl) ?_;refine Ns 9 rfl (Ki 2 (.agg _) G5 (_::_::_::_::_) rfl) ?_;refine Iw ?_;refine Aa (gH ?_);refine Yx [.agg Ps,.agg G5] (.cons (Yb 3) <| .cons (Yb 2) <| .nil) S4 ?_;exact Ye Px ((qr_b hc1).trans ((qr_c hk2).trans ((qr_d hc4).trans (qr_4 hc5))))
 refine AW.ghost (GS.cellRow 0 17 53 8 rfl rfl rfl rfl) ?_
 skip
 refine AW.region (Qp (Qf Oq) (Qp Ew ?_));refine Qp (Nr (l:=2) (h:=(t.kids.map Cu).length) tok rfl rfl rfl rfl rfl (⟨_,rfl⟩) (rfl) (by rw [By];omega) (Bc _) (((congrArg (List.drop 2) Mu).trans List.map_drop.symm))) ?_;refine Qp (G1 ((t.kids.drop 2).length) rfl rfl (by simp)) ?_;refine Qp A0 (A2 (AW.block ?_));refine AW.loopS (fun (q:Nat×List (List AV)×Value)=>(⟨[(3,.ptr (cSyn t)),(4,.val (.pointer (some ⟨b4,0,none⟩))),(5,.val (.pointer (some ⟨b5,0,none⟩))),(6,.val (.pointer (some ⟨b6,0,none⟩))),(8,.val (.pointer (some ⟨b8,0,none⟩))),(92,.sl 6 ((t.kids.drop 2).map Cu)),(93,.int .i64 ((t.kids.drop 2).length:Int)),(94,.int .i64 (q.1:Int))],.row q.2.2 q.2.1.length 53 8 :: .box b8 57 (cQyW ⟨t.text,(K4 T t),(nK T t (K4 T t)).1,(Kc T (K4 T t) (B5 t 1) ⟨0,0⟩).1,[]⟩ (.row q.2.2 8 q.2.1)) :: .box b6 126 (Ys T (K4 T t) (Kc T (K4 T t) (B5 t 1) ⟨0,0⟩).2) :: .box b5 72 fZ :: .box b4 57 gjx::H,119⟩:St)) (fun q=>q.1<=(t.kids.drop 2).length/\q.2.1=(((t.kids.drop 2).take q.1).map (F6 T (K4 T t))).map Gx/\((t.kids.drop 2).take q.1).any (fun x=>(rtF T (K4 T t) x).err != 0)=false) (fun q=>(t.kids.drop 2).length-q.1) ((0,[],.slice none 0 0)) ?_ Dh ?_
 . exact ⟨A7 _,rfl,rfl⟩
 rintro q hR;refine Af (Qp Cv (Re (Gn (fun hc6=>?_) fun hc6=>?_)))
 .
  obtain ⟨a,ha⟩:=C2 hc6;have hlt:=Cc ha;have hm:=Aj ha;have hsc:∀c∈q.2.1,Au c=true:=by rw [hR.2.1];exact scE _
  have hmk:a∈t.kids:=List.mem_of_mem_drop hm;have hma:=Lw ht.m hmk;have hwa:=(Kn hw0).2 a hmk;refine B6 (AW.seq (AW.block (Af ?_)));refine Qp (E9 Ak rfl rfl (by omega) (F1 ha)) ?_;refine Qp (C1 Ak) (D7 In fun b15=>?_);refine Bz 0 Ak (_::_::_::_::_::_::_) ?_;refine Kh 15 0 rfl ?_;refine B7 (Qp Bu (Qp (C1 Ak) ?_));refine AOL.Aaz (Cj (k:=2) (by kernel_rfl) rfl rfl (kW T (K4 T t) (Kc T (K4 T t) (B5 t 1) ⟨0,0⟩).2 b6 hrv a hma hwa)) rfl rfl ?_;refine D7 ggy fun b16=>?_
  refine Bz 0 Me (_::_::_::_::_::_::_) ?_;refine Kh 16 0 rfl ?_;refine A2 (Cg (Qp Xb ?_));refine Qp (Qc rfl (e8c21 (F6 T (K4 T t) a) (by have h:=Ur (T:=T) (V:=(K4 T t)) a;have:=Sm hma;omega))) ?_;refine Qp Ax (B7 (Qp A0 (Qp C3 (Bp (fun hc7=>AW.seq ?_) fun hc7=>B6 (AW.region (Qp Cw (Pz 1 (.row _ _ _) rfl (Qp Xb (Qp (Ir [Me] rfl) ?_)))))))))
  .
   refine Ok ?_;refine Qn 0 rfl (E2 Ps) (Qn 1 rfl (Qf [Iq _]) (Qn 2 rfl Cd (Qn 3 rfl A0 (Qn 4 rfl (E2 G5) ?_))));refine Ns 5 rfl (Ki 4 (.agg _) Ps (_::_::_::_::_::_) rfl) ?_;refine Ns 6 rfl (Ki 3 (.agg _) G5 (_::_::_::_::_::_) rfl) ?_;refine Iw ?_;refine Aa (gH (Rj (A4 ?_)));refine Yx [.agg Ps,.agg G5] (.cons (Yb 4) <| .cons (Yb 3) <| .nil) S5 ?_;exact Ye Px ((qr_b hc1).trans ((qr_c hk2).trans ((qr_d hc4).trans ((qr_e hc5).trans (qr_5 ha hR.2.2 hc7)))))
  refine Qe (Vc 0 rfl (D5 rfl) (hsc) (by have h9:=congrArg List.length hR.2.1;simp only [By,Df] at h9;simp;omega) (by have h9:=congrArg List.length hR.2.1;simp only [By,Df] at h9;simp [maxLen];omega)) ?_;rintro _ _ ⟨v114,rfl,rfl⟩;refine Qp Cw ?_;refine Bz 1 Ps (_::_::_::_::_::_) (Rk (AW.region (Qp Hb (Qp A0 (A2 ?_)))));refine ⟨(q.1+1,q.2.1 ++ [cE (F6 T (K4 T t) a)],v114),?_,?_,Dh⟩
  . exact ⟨hlt,by simp only;rw [Cs ha,hR.2.1];simp [M5],N7 hR.2.2 ha (by rw [rt_no hc7];rfl)⟩
  simp only;omega
 have hte:=Dt hc6;have hall:=hR.2.1;have hnn:=hR.2.2;rw [hte] at hall hnn;refine AW.exit ?_;refine Br (Ri (AW.seq ?_));refine AW.ghost (GS.cell (H2:=_::_::_::_::_::_) 1 17 rfl rfl rfl rfl D1) ?_
 skip
 refine Pq 1 rfl (Qn 0 rfl (Db.mem (fun k=>Iu (k:=k) (l:=Ps) tok rfl rfl rfl rfl rfl) (fun _ h=>h)) ?_);refine Qn 1 rfl (Qc rfl (Ox)) ?_;refine Vr 2 rfl (Ki 4 (.agg _) Ps (_::_::_::_::_::_) rfl) (by rintro _ _ ⟨rfl,rfl⟩;simp) ?_;rintro _ _ ⟨rfl,rfl⟩;refine bF 3 rfl (Ki 3 (.agg _) G5 (_::_::_::_::_::_) rfl) ?_;rintro _ _ ⟨rfl,rfl⟩;refine Aa (AW.ret ?_);refine Yx [.agg Ps,.agg G5] (.cons (Yb 4) <| .cons (Yb 3) <| .nil) S5 ?_;exact Eq.trans (congrArg (fun l:List (List AV)=>AV.tuple [.agg (cQyW ⟨t.text,(K4 T t),(nK T t (K4 T t)).1,(Kc T (K4 T t) (B5 t 1) ⟨0,0⟩).1,[]⟩ (.sl 8 l)),.agg (jM Tk)]) hall) (congrArg (fun q:Qy×Fa=>AV.tuple [.agg (cQy q.1),.agg (jM q.2)]) ((qr_b hc1).trans ((qr_c hk2).trans ((qr_d hc4).trans ((qr_e hc5).trans (qr_6 hnn)))))).symm
open Go Go.Aw Go.Sort Go.Lib
theorem qS (w:World)(k:Nat)(os:Array Obj):Go.RowKit.Below w.heap.size w (grow (w.drewN k) os):=
 ⟨rfl,rfl,rfl,by first | (simp [grow];done) | (simp [grow];omega),fun i hi=>by
  show ((w.drewN k).heap++os)[i]? = _;rw [Array.getElem?_append_left (by show i<w.heap.size;omega)];rfl⟩
theorem pow10_is {g : Gh} {w : World} (h : GlobOK g w) : Lib.TabIs Tryz.prog w "internal/strconv.uint64pow10" .u64 Lib.pow10Tab := by
 obtain ⟨_,T,fr,h2⟩:=h.tabs _ (Ep.2 rfl);have e : Tryz.prog.globalNamed "internal/strconv.uint64pow10" = some 10 := by kernel_rfl
 unfold Lib.TabIs World.var?;rw [e];show (match w.heap[10]? with | some (.cells cs _ _)=>some cs | _=>none)=_;rw [h2];rfl
theorem kItoa (n:Int)(h0 : -9223372036854775808<=n)(h1:n<=9223372036854775807):Ap Tryz.prog 175 [.int .i64 n] (.str (Go.Lib.itoa n)):=
 .of_calls fun g w vs hg ha=>by
  obtain ⟨v,rfl,h2⟩:=ha.inv1;have e1:=h2.inv_int;subst e1;have hl:=Go.Lib.itoa_length_le n h0 h1;refine ⟨.string ⟨(Go.Lib.itoa n).toArray⟩,fun _ _ _=>Wm (by unfold maxLen;omega),(Tryz.strconv_Itoa n h0 h1 w (pow10_is hg)).mono ?_⟩;rintro e w' ⟨rfl,k,os,rfl⟩;exact ⟨rfl,qS w k os⟩
theorem k_check0 (b TT:Nat)(r:AV)(rest:List AV)(hl:liesAt Tryz.prog Tryz.prog.depth TT ((rest.length+2) / Tryz.prog.cellsOf TT) 0 93 1=true)(R:List HO):Bt Tryz.prog 73 (.box b TT (.val (.pointer none)::r::rest)::R) [.val (.pointer (some ⟨b,0,none⟩))] (fun x H'=>x = .tuple []/\H' = .box b TT (.val (.pointer (some ⟨b,0,none⟩))::r::rest)::R):=by
 refine H7 20 Tryz.func73 rfl ?_;refine Af (Qp Bu (Qp (Ae rfl) (Qp Cw (AOL.Aaz (B8 (k:=0) (c:=.val (.pointer none)) tok rfl rfl rfl (rfl)) rfl rfl (Qp (cA Tryz.underlying90 rfl rfl) (Bp (fun hc1=>AW.region (Qp Bu (Qp Bu (AOL.Aaz (lY (k:=0) tok Tryz.underlying90 Tryz.underlying201 rfl rfl rfl (rfl)) rfl rfl ?_)))) fun hc1=>?_))))))
 .
  refine Qp (qJ Tryz.func135 (by kernel_rfl) (by kernel_rfl) (by kernel_rfl) (by kernel_rfl) rfl) ?_;refine AOL.Aaz (fW (k:=0) tok Tryz.underlying201 Tryz.underlying90 rfl (rfl) (hl) rfl) rfl rfl (Qp (Ae rfl) (Qp Cw ?_));refine Rt (Dj (k:=0) (v:=.val _) (cs':=(.val (.pointer (some ⟨b,0,none⟩))::r::rest)) (H2:=_::_) tok rfl rfl rfl rfl rfl rfl (Nat.ble_eq_true_of_le (by show 0+1<=rest.length+1+1;omega)) (rfl) rfl) ?_;refine AOL.nil ?_;refine ⟨.inl rfl,[],.nil,_,.refl _,?_⟩;exact ⟨rfl,rfl⟩
 cases hc1
theorem k_check1 (b TT:Nat)(r:AV)(rest:List AV)(hl:liesAt Tryz.prog Tryz.prog.depth TT ((rest.length+2) / Tryz.prog.cellsOf TT) 0 93 1=true)(R:List HO):Bt Tryz.prog 73 (.box b TT (.val (.pointer (some ⟨b,0,none⟩))::r::rest)::R) [.val (.pointer (some ⟨b,0,none⟩))] (fun x H'=>x = .tuple []/\H' = .box b TT (.val (.pointer (some ⟨b,0,none⟩))::r::rest)::R):=by
 refine H7 20 Tryz.func73 rfl ?_;refine Af (Qp Bu (Qp (Ae rfl) (Qp Cw (AOL.Aaz (B8 (k:=0) (c:=.val (.pointer (some ⟨b,0,none⟩))) tok rfl rfl rfl (rfl)) rfl rfl (Qp (cA Tryz.underlying90 rfl rfl) (Bp (fun hc1=>?_) fun hc1=>Af (Qp Bu (Qp (Ae rfl) (Qp Cw (AOL.Aaz (B8 (k:=0) (c:=.val (.pointer (some ⟨b,0,none⟩))) tok rfl rfl rfl (rfl)) rfl rfl (Qp Bu ?_)))))))))))
 . cases hc1
 refine Qp (zT (z:=2) Tryz.underlying90 (by kernel_rfl) rfl rfl rfl) ?_;refine Bp (fun hc2=>?_) fun hc2=>AW.skip ?_
 . cases hc2
 refine ⟨.inl rfl,[],.nil,_,.refl _,?_⟩;exact ⟨rfl,rfl⟩
theorem k_check (b TT:Nat)(p:Option Addr)(hp:p=none\/p=some ⟨b,0,none⟩)(r:AV)(rest:List AV)(hl:liesAt Tryz.prog Tryz.prog.depth TT ((rest.length+2) / Tryz.prog.cellsOf TT) 0 93 1=true)(R:List HO) :
  Bt Tryz.prog 73 (.box b TT (.val (.pointer p)::r::rest)::R) [.val (.pointer (some ⟨b,0,none⟩))] (fun x H'=>x = .tuple []/\H' = .box b TT (.val (.pointer (some ⟨b,0,none⟩))::r::rest)::R):=by
 rcases hp with rfl | rfl
 . exact k_check0 b TT r rest hl R
 exact k_check1 b TT r rest hl R
theorem k_checkP (b TT:Nat)(p:Option Addr)(hp:p=none\/p=some ⟨b,0,none⟩)(r:AV)(rest:List AV)(hl:liesAt Tryz.prog Tryz.prog.depth TT ((rest.length+2) / Tryz.prog.cellsOf TT) 0 93 1=true) :
 Bf Tryz.prog 73 b TT (.val (.pointer p)::r::rest) (.val (.pointer (some ⟨b,0,none⟩))::r::rest) [.val (.pointer (some ⟨b,0,none⟩))] (.tuple []):=fun R=>k_check b TT p hp r rest hl R
theorem bS (b TT:Nat)(p:Option Addr)(hp:p=none\/p=some ⟨b,0,none⟩)(v:Value)(t s:Ag)(rest:List AV)(hl:liesAt Tryz.prog Tryz.prog.depth TT ((rest.length+2) / Tryz.prog.cellsOf TT) 0 93 1=true)(hb:t.length+s.length<=140737488355328)(R:List HO):Bt Tryz.prog 29 (.row v (Fw t).length 5 1 :: .box b TT (.val (.pointer p) :: .row v 1 (Fw t)::rest)::R) [.val (.pointer (some ⟨b,0,none⟩)),.str s] (fun x H'=>∃v',x = .tuple [.int .i64 (s.length:Int),.val .nilIface]/\H' = .row v' (Fw (t++s)).length 5 1 :: .box b TT (.val (.pointer (some ⟨b,0,none⟩)) :: .row v' 1 (Fw (t++s))::rest)::R):=by
 refine H7 19 Tryz.func29 rfl ?_;refine Af (Qp Ax (Qp O2 (B7 (Qp Bu (qD ((k_checkP b TT p hp _ rest hl).at (k:=1) (H2:=_::_::_) rfl rfl) (B7 (Qp Bu (Qp Bu (Qp (Ae rfl) (Qp Cw (Pz 1 (.row _ _ _) rfl (Qp Gu ?_))))))))))));refine Qe (lT (k:=0) tok rfl rfl rfl rfl Tryz.underlying9 rfl rfl rfl rfl (Aan _) (by rw [M1];exact hb)) ?_;rintro _ _ ⟨v14,rfl,rfl⟩;refine Qp (Ae rfl) (Qp Cw ?_);refine Rt (Dj (k:=1) (v:=.row _ _ _) (cs':=(.val (.pointer (some ⟨b,0,none⟩)) :: .row v14 1 (Fw t++Fw s)::rest)) (H2:=_::_::_) tok rfl rfl rfl rfl rfl rfl (Nat.ble_eq_true_of_le (by show 1+1<=rest.length+1+1;omega)) (rfl) rfl) ?_;refine B7 (Qp Gu (Qp (Cz (n:=s.length) tok rfl rfl rfl (rfl)) (Qp Ax (Qp O2 (Rb ?_)))));refine ⟨.inr rfl,[Iq _,.val _],Zf,_,S0,?_⟩;exact ⟨v14,rfl,congrArg (fun l=>HO.row v14 l.length 5 1::HO.box b TT (.val (.pointer (some ⟨b,0,none⟩)) :: .row v14 1 l::rest)::R) (byc_app t s).symm⟩
theorem nF (b TT:Nat)(a0:AV)(v:Value)(t:Ag)(rest:List AV)(R:List HO):Bt Tryz.prog 30 (.row v (Fw t).length 5 1 :: .box b TT (a0 :: .row v 1 (Fw t)::rest)::R) [.val (.pointer (some ⟨b,0,none⟩))] (fun x H'=>x = .str t/\H' = .row (.slice none 0 0) 0 5 1 :: .box b TT (a0 :: .row v 1 (Fw t)::rest)::R):=by
 refine H7 14 Tryz.func30 rfl ?_;refine Af (Qp La (Re (Pq 1 rfl (Qn 0 rfl Bu (Qn 1 rfl (Ae rfl) (Qn 2 rfl Cw (Qn 3 rfl (Lb (.row _ _ _) rfl) (Qn 5 rfl Bu (Qn 6 rfl (Ae rfl) (Qn 7 rfl Cw (Qn 8 rfl (Lb (.row _ _ _) rfl) (Qn 9 rfl (E8 (n:=t.length) tok rfl rfl rfl (M1 t)) ?_))))))))))));refine Vr 4 rfl (lV (k:=0) Tryz.underlying153 rfl rfl) (by rintro _ _ ⟨q7,hq7,rfl,rfl⟩;simp) ?_;rintro _ _ ⟨q7,hq7,rfl,rfl⟩;refine Vr 10 rfl (bV (k:=0) (kb:=1) (o:=1) Tryz.underlying153 (by kernel_rfl) rfl (rfl) hq7 rfl rfl rfl rfl) (by rintro _ _ ⟨rfl,rfl⟩;simp) ?_;rintro _ _ ⟨rfl,rfl⟩;refine Qn 11 rfl La ?_;refine Iw ?_;refine Aa (AW.ret ?_);refine ⟨.inr rfl,[.str _],Ze,_,S0,?_⟩;exact ⟨rfl,rfl⟩
theorem k_blen (b TT:Nat)(a0:AV)(v:Value)(t:Ag)(rest:List AV)(R:List HO):Bt Tryz.prog 68 (.row v (Fw t).length 5 1 :: .box b TT (a0 :: .row v 1 (Fw t)::rest)::R) [.val (.pointer (some ⟨b,0,none⟩))] (fun x H'=>x = .int .i64 (t.length:Int)/\H' = .row v (Fw t).length 5 1 :: .box b TT (a0 :: .row v 1 (Fw t)::rest)::R):=by
 refine H7 8 Tryz.func68 rfl ?_;refine Af (Qp Ax (B7 (Qp Bu (Qp (Ae rfl) (Qp Cw (Pz 1 (.row _ _ _) rfl (Qp (E8 (n:=t.length) tok rfl rfl rfl (M1 t)) (Qp Ax (Rb ?_)))))))));refine ⟨.inr rfl,[Iq _],Ze,_,S0,?_⟩;exact ⟨rfl,rfl⟩
theorem k_fb0 (c:Bool):Ap Tryz.prog 205 [.bool c] (.str (if c then U8 else Q8)):=by
 refine Fl 4 Tryz.func205 rfl fun H=>?_
 refine Af (Qp La (A2 (Cg (Qp Co (Bp (fun hc1=>Af (Qp La (Rc (Qr (.str _) ?_)))) fun hc1=>B6 (Af (Qp La (Rb (Qr (.str _) ?_)))))))))
 .
  simp only [Ah];rw [if_pos hc1]
 simp only [Ah];rw [B2 hc1]
theorem k_fbool (c:Bool):Ap Tryz.prog 176 [.bool c] (.str (if c then U8 else Q8)):=by
 refine Fl 5 Tryz.func176 rfl fun H=>?_
 refine Af (Qp La (B7 (Qp Co (Qp (Qc rfl (k_fb0 c)) (Qp La (Rb (Qr (.str _) ?_)))))));rfl
def Xa (b:Nat):List AV:=
  [.fn (.func 121) [] [.ptr [.val (.pointer (some ⟨b,0,none⟩))]],
   .fn (.func 122) [.val (.pointer (some ⟨b,0,none⟩))] [],
   .fn (.func 123) [] [.ptr [.val (.pointer (some ⟨b,0,none⟩))]],
   .fn (.func 125) [.val (.pointer (some ⟨b,0,none⟩))] [],
   .val .nilFunc,
   .fn (.func 126) [.val (.pointer (some ⟨b,0,none⟩))] [],
   .fn (.func 174) [] [.ptr [.val (.pointer (some ⟨b,0,none⟩))],.ptr [.str Yj]],
   .fn (.func 174) [] [.ptr [.val (.pointer (some ⟨b,0,none⟩))],.ptr [.str Yi]],
   .fn (.func 174) [] [.ptr [.val (.pointer (some ⟨b,0,none⟩))],.ptr [.str Yg]],
   .fn (.func 174) [] [.ptr [.val (.pointer (some ⟨b,0,none⟩))],.ptr [.str Sp]],
   .fn (.func 174) [] [.ptr [.val (.pointer (some ⟨b,0,none⟩))],.ptr [.str Na]],
   .fn (.func 174) [] [.ptr [.val (.pointer (some ⟨b,0,none⟩))],.ptr [.str K6]],
   .fn (.func 174) [] [.ptr [.val (.pointer (some ⟨b,0,none⟩))],.ptr [.str K5]],
   .fn (.func 128) [.val (.pointer (some ⟨b,0,none⟩))] [],
   .fn (.func 129) [] [.ptr [.val (.pointer (some ⟨b,0,none⟩))]],
   .fn (.func 130) [] [.ptr [.val (.pointer (some ⟨b,0,none⟩))]],
   .fn (.func 131) [.val (.pointer (some ⟨b,0,none⟩))] [],
   .fn (.func 132) [.val (.pointer (some ⟨b,0,none⟩))] [],
   .fn (.func 133) [] [.ptr [.val (.pointer (some ⟨b,0,none⟩))]]]
def WQ (b:Nat)(o:Ag)(R:List HO):AV->List HO->Prop:=fun x H'=>∃v a,x = .tuple []/\(a=none\/a=some ⟨b,0,none⟩)/\H'=(.row v (Fw o).length 5 1 :: .box b 148 (.val (.pointer a) :: .row v 1 (Fw o)::Xa b)::R)
theorem wq {b:Nat}{o o':Ag}{v:Value}{a:Option Addr}{R:List HO}(ha:a=none\/a=some ⟨b,0,none⟩)(e:o=o'):WQ b o' R (.tuple []) (.row v (Fw o).length 5 1 :: .box b 148 (.val (.pointer a) :: .row v 1 (Fw o)::Xa b)::R):=e▸⟨v,a,rfl,ha,rfl⟩
theorem wlies0:liesAt Tryz.prog Tryz.prog.depth 148 (21 / Tryz.prog.cellsOf 148) 0 93 1=true:=by kernel_rfl
theorem wlies (b:Nat):liesAt Tryz.prog Tryz.prog.depth 148 (((Xa b).length+2) / Tryz.prog.cellsOf 148) 0 93 1=true:=wlies0
abbrev gM:Nat:=140737488355328
def sc (ws:List Ag):List (List AV):=ws.map fun s=>[.str s]
theorem sc_at {l:List Ag}{k:Nat}{x:Ag}(h:l[k]? = some x):(sc l)[k]? = some [.str x]:=by unfold sc;rw [List.getElem?_map,h];rfl
theorem iG {l:List Ag}{k:Nat}{x:Ag}(h:l[k]? = some x):(l.take (k+1)).flatten=(l.take k).flatten++x:=by
 rw [List.take_add_one,h];simp
theorem flat_le {l:List Ag}{k:Nat}{x:Ag}(h:l[k]? = some x):(l.take k).flatten.length+x.length<=l.flatten.length:=by
 have h1:=congrArg List.length (iG h);have h2:=congrArg List.length (congrArg List.flatten (Po (k+1) l));rw [aB] at h2;simp only [Ao] at h1 h2;omega
theorem Fk (b:Nat)(o:Ag)(v:Value)(a:Option Addr)(ha:a=none\/a=some ⟨b,0,none⟩)(R:List HO)(l:List Ag)(hl:l.length<=100)(hb:o.length+l.flatten.length<=gM):Bt Tryz.prog 124 (.row v (Fw o).length 5 1 :: .box b 148 (.val (.pointer a) :: .row v 1 (Fw o)::Xa b)::R) [.val (.pointer (some ⟨b,0,none⟩)),.sl 1 (sc l)] (WQ b (o++l.flatten) R):=by
 refine H7 18 Tryz.func124 rfl ?_;refine Af (Qp Mm ?_);refine Qp (G1 l.length rfl rfl (by simp [sc])) ?_;refine Qp A0 (A2 (AW.block ?_));refine AW.loopS (fun (p:Nat×Ag×Value×Option Addr)=>(⟨[(0,.val (.pointer (some ⟨b,0,none⟩))),(6,.sl 1 (sc l)),(7,.int .i64 l.length),(8,.int .i64 (p.1:Int))],(.row p.2.2.1 (Fw p.2.1).length 5 1 :: .box b 148 (.val (.pointer p.2.2.2) :: .row p.2.2.1 1 (Fw p.2.1)::Xa b)::R),18⟩:St)) (fun p=>p.1<=l.length/\p.2.1=o++(l.take p.1).flatten/\(p.2.2.2=none\/p.2.2.2=some ⟨b,0,none⟩)) (fun p=>l.length-p.1) ((0,o,v,a)) ?_ Dh ?_
 . exact ⟨A7 _,by simp,ha⟩
 rintro p hR;refine Af (Qp Cv (Re (Gn (fun hc1=>?_) fun hc1=>?_)))
 .
  obtain ⟨x,hx⟩:=gt2 (l:=l) (k:=p.1) (by have:=C6 hc1;omega);have hlt:=iK hx;have hle:=flat_le hx;refine B6 (AW.seq (AW.block (Af ?_)));refine Qp (E9 [.str _] rfl rfl (by omega) (sc_at hx)) ?_;refine Qp F4 (Qp La (A2 (AW.region (Qp Bu (Qp (Ae rfl) (Qp Cw (Qp Gu ?_)))))));refine Qe (Dc rfl (bS b 148 p.2.2.2 hR.2.2 p.2.2.1 p.2.1 x (Xa b) (wlies b) (by rw [hR.2.1,Ao];unfold gM at hb;omega) R)) ?_;rintro _ _ ⟨v16,rfl,rfl⟩;refine Rk (AW.region (Qp Hb (Qp A0 (A2 ?_))));refine ⟨(p.1+1,p.2.1++x,v16,some ⟨b,0,none⟩),?_,?_,Dh⟩
  . exact ⟨hlt,by rw [iG hx,<-Dy,<-hR.2.1],.inr rfl⟩
  simp only;omega
 have hk:l.length<=p.1:=by have:=Er hc1;omega
 refine AW.exit ?_;refine Br (Br (Gp ?_));refine ⟨.inl rfl,[],.nil,_,.refl _,?_⟩;exact wq hR.2.2 (by rw [hR.2.1,Sv hk])
def My:List Ag->Ag
 | []=>[]
 | x::r=>[44,32]++x++My r
theorem dK:∀(x:Ag) (r:List Ag),En (x::r)=x++My r
 | x,[]=>by simp [En,My]
 | x,y::r=>by rw [En,dK y r,My];simp
def aQ (k:Nat)(ws:List Ag):Ag:=if k=0 then En ws else My (ws.drop k)
theorem restC_0 {ws:List Ag}{x:Ag}(h:ws[0]? = some x):aQ 0 ws=x++aQ 1 ws:=by
 cases ws with
 | nil=>cases h
 | cons y r=>cases h;exact dK _ _
theorem restC_s {ws:List Ag}{k:Nat}{x:Ag}(h:ws[k]? = some x)(hk:0<k):aQ k ws = [44,32]++x++aQ (k+1) ws:=by
 unfold aQ;obtain ⟨h1,rfl⟩:=List.getElem?_eq_some_iff.1 h;rw [if_neg (by omega),if_neg (by omega),L4 h1,My]
theorem yN {ws:List Ag}{k:Nat}(h:ws.length<=k):aQ k ws = []:=by
 unfold aQ;split
 .
  rename_i h0;subst h0;have:ws = []:=List.eq_nil_of_length_eq_zero (by omega);rw [this];rfl
 rw [Ss h];rfl
theorem wR {l:List Syn}{k:Nat}{x:Syn}(h:l[k]? = some x):(l.map An)[k]? = some (An x):=by rw [List.getElem?_map,h];rfl
theorem kind_at {n:Int}(h:0<=n/\n<=2):([[.str I4],[.str Gj],[.str Fe]]:List (List AV))[n.toNat]? = some [.str (Xv n)]:=by
 have:n=0\/n=1\/n=2:=by omega
 rcases this with rfl | rfl | rfl <;> rfl
def Ia (b:Nat)(t:Syn):Prop:=∀(o:Ag) (v:Value) (a:Option Addr),(a=none\/a=some ⟨b,0,none⟩)->∀(R:List HO),o.length+(An t).length<=gM->
 Bt Tryz.prog 67 (.row v (Fw o).length 5 1 :: .box b 148 (.val (.pointer a) :: .row v 1 (Fw o)::Xa b)::R) [.val (.pointer (some ⟨b,0,none⟩)),.agg (cSyn t)] (WQ b (o++An t) R)
theorem lJ (b:Nat)(o:Ag)(v:Value)(a:Option Addr)(ha:a=none\/a=some ⟨b,0,none⟩)(R:List HO)(l:List Syn)(hn:∀x∈l,Ia b x)(hb:o.length+(En (l.map An)).length<=gM):Bt Tryz.prog 173 (.row v (Fw o).length 5 1 :: .box b 148 (.val (.pointer a) :: .row v 1 (Fw o)::Xa b)::R) [.val (.pointer (some ⟨b,0,none⟩)),.sl 6 (l.map Cu)] (WQ b (o++En (l.map An)) R):=by
 refine H7 22 Tryz.func173 rfl ?_;refine Af (Qp Mm ?_);refine Qp (G1 l.length rfl rfl (by simp)) ?_;refine Qp A0 (A2 (AW.block (AW.sllen 6 rfl fun hlen=>?_)));simp only [By,maxLen] at hlen;refine AW.loopS (fun (p:Nat×Ag×Value×Option Addr)=>(⟨[(0,.val (.pointer (some ⟨b,0,none⟩))),(6,.sl 6 (l.map Cu)),(7,.int .i64 l.length),(8,.int .i64 (p.1:Int))],(.row p.2.2.1 (Fw p.2.1).length 5 1 :: .box b 148 (.val (.pointer p.2.2.2) :: .row p.2.2.1 1 (Fw p.2.1)::Xa b)::R),22⟩:St)) (fun p=>p.1<=l.length/\p.2.1++aQ p.1 (l.map An)=o++En (l.map An)/\(p.2.2.2=none\/p.2.2.2=some ⟨b,0,none⟩)) (fun p=>l.length-p.1) ((0,o,v,a)) ?_ Dh ?_
 . exact ⟨A7 _,rfl,ha⟩
 rintro p hR;have ha:=hR.2.2;refine Af (Qp Cv (Re (Gn (fun hc1=>?_) fun hc1=>?_)))
 .
  obtain ⟨x,hx⟩:=gt2 (l:=l) (k:=p.1) (by have:=C6 hc1;omega);have hlt:=iK hx;have hnx:=hn x (Aj hx);have hle:=congrArg List.length hR.2.1;simp only [Ao] at hle;refine B6 (AW.seq (AW.block (Af (Qp A0 ?_))));refine Qp (E9 Ak rfl rfl (by omega) (Im hx)) ?_;refine Qp (C1 Ak) (D7 In fun b5=>Qp Ax ?_);refine Bz 0 Ak (_::_::_::_) ?_;refine Kh 5 0 rfl ?_;refine A2 (Cg (Qp A0 (Qp Hc (Bp (fun hc2=>?_) fun hc2=>?_))))
  .
   have hr:=restC_s (wR hx) (by have:=C6 hc2;omega);rw [hr] at hle;simp only [Ao,A1,Bi] at hle;refine AW.region (Qp Bu (Qp (Ir ([[.str _]]) rfl) ?_));refine Qe (Dc rfl (Fk b _ _ _ hR.2.2 R [[44,32]] (by decide) (by simp only [Bd,Bs,A3,A1,Bi];omega))) ?_;rintro _ _ ⟨v17,a17,rfl,ha17,rfl⟩;refine A2 (AW.region (Qp Bu (Qp (C1 Ak) ?_)));refine Qe (Dc rfl (hnx _ _ _ (by assumption) R (by (try simp only [Bd,Bs,A3,Ao,A1,Bi]);omega))) ?_;rintro _ _ ⟨v20,a20,rfl,ha20,rfl⟩;refine Rk (AW.region (Qp Hb (Qp A0 (A2 ?_))));refine ⟨(p.1+1,(p.2.1 ++ [[44,32]].flatten)++An x,v20,a20),?_,?_,Dh⟩
   . exact ⟨hlt,by rw [<-hR.2.1,hr];simp,ha20⟩
   simp only;omega
  have h0:p.1=0:=by have:=Er hc2;omega
  have hr:=restC_0 (ws:=l.map An) (by have:=wR hx;rwa [h0] at this);rw [h0,hr] at hle;simp only [Ao] at hle;refine B6 (AW.region (Qp Bu (Qp (C1 Ak) ?_)));refine Qe (Dc rfl (hnx _ _ _ (by assumption) R (by (try simp only [Bd,Bs,A3,Ao,A1,Bi]);omega))) ?_;rintro _ _ ⟨v20,a20,rfl,ha20,rfl⟩;refine Rk (AW.region (Qp Hb (Qp A0 (A2 ?_))));refine ⟨(p.1+1,p.2.1++An x,v20,a20),?_,?_,Dh⟩
  . exact ⟨hlt,by rw [<-hR.2.1,h0,hr];simp,ha20⟩
  simp only;omega
 have hk:(l.map An).length<=p.1:=by have:=Er hc1;rw [By];omega
 refine AW.exit ?_;refine Br (Br (Gp ?_));refine ⟨.inl rfl,[],.nil,_,.refl _,?_⟩;exact wq hR.2.2 (by rw [<-hR.2.1,yN hk,A3])
theorem Z5 (b:Nat)(o:Ag)(v:Value)(a:Option Addr)(ha:a=none\/a=some ⟨b,0,none⟩)(R:List HO)(p t:Syn)(hn:Ia b t)(hb:o.length+(J2 p t (An t)).length<=gM):Bt Tryz.prog 134 (.row v (Fw o).length 5 1 :: .box b 148 (.val (.pointer a) :: .row v 1 (Fw o)::Xa b)::R) [.val (.pointer (some ⟨b,0,none⟩)),.agg (cSyn p),.agg (cSyn t)] (WQ b (o++J2 p t (An t)) R):=by
 refine H7 24 Tryz.func134 rfl ?_;refine Af (Qp (Ik Ak) (Qp (Ik Ak) (A2 (Cg (Qp (Qf Ak) (Qp Cd (Qp (Qf Ak) (Qp Cd (Qp (Qc rfl (pY p.kind t.kind)) (Qp J4 (Bp (fun hc1=>?_) fun hc1=>?_)))))))))))
 .
  have hcl:M3 p.kind t.kind=false:=by simpa using hc1
  have e:J2 p t (An t)=An t:=if_neg (by rw [hcl];decide);rw [e] at hb;refine Af (Qp Bu (Qp (C1 Ak) ?_));refine Qe (Dc rfl (hn _ _ _ ha R (by have h:=hb;(try simp only [Bd,Bs,Ao,A1,Bi,A3] at h ⊢);omega))) ?_;rintro _ _ ⟨v14,a14,rfl,ha14,rfl⟩;refine Rc ?_;refine ⟨.inr rfl,[],.nil,_,.refl _,?_⟩;exact wq ha14 (by rw [e])
 have hcl:M3 p.kind t.kind=true:=by simpa using hc1
 have e:J2 p t (An t) = [40]++An t ++ [41]:=if_pos hcl;rw [e] at hb;refine B6 (Af (Qp Bu (Qp (Ir ([[.str _]]) rfl) ?_)));refine Qe (Dc rfl (Fk b _ _ _ ha R [[40]] (B9 rfl) (by have h:=hb;(try simp only [Bd,Bs,Ao,A1,Bi,A3] at h ⊢);omega))) ?_;rintro _ _ ⟨v17,a17,rfl,ha17,rfl⟩;refine B7 (Qp Bu (Qp (C1 Ak) ?_));refine Qe (Dc rfl (hn _ _ _ ha17 R (by have h:=hb;(try simp only [Bd,Bs,Ao,A1,Bi,A3] at h ⊢);omega))) ?_;rintro _ _ ⟨v20,a20,rfl,ha20,rfl⟩;refine A2 (AW.region (Qp Bu (Qp (Ir ([[.str _]]) rfl) ?_)));refine Qe (Dc rfl (Fk b _ _ _ ha20 R [[41]] (B9 rfl) (by have h:=hb;(try simp only [Bd,Bs,Ao,A1,Bi,A3] at h ⊢);omega))) ?_;rintro _ _ ⟨v23,a23,rfl,ha23,rfl⟩;refine AOL.nil ?_;refine ⟨.inl rfl,[],.nil,_,.refl _,?_⟩;exact wq ha23 (by rw [e];simp only [Bd,Bs,A3,Dy,Dn,Du])
theorem w_decl (b:Nat)(o:Ag)(v:Value)(a:Option Addr)(ha:a=none\/a=some ⟨b,0,none⟩)(R:List HO)(t:Syn)(hn:∀x∈t.kids,Ia b x)(hb:o.length+([116,121,112,101,32]++t.text ++ [32,123]++(if 0<t.kids.length then [32]++En (t.kids.map An) ++ [32] else []) ++ [125,10]).length<=gM):Bt Tryz.prog 122 (.row v (Fw o).length 5 1 :: .box b 148 (.val (.pointer a) :: .row v 1 (Fw o)::Xa b)::R) [.val (.pointer (some ⟨b,0,none⟩)),.agg (cSyn t)] (WQ b (o++([116,121,112,101,32]++t.text ++ [32,123]++(if 0<t.kids.length then [32]++En (t.kids.map An) ++ [32] else []) ++ [125,10])) R):=by
 refine H7 26 Tryz.func122 rfl ?_;refine Af (Qp (Ik Ak) (Re ?_));have hb0:o.length+([116,121,112,101,32]++t.text ++ [32,123]).length<=gM:=by have h:=hb;simp only [Ao] at h ⊢;omega
 refine AW.region (Qp Bu (Qp (Qf Vx) (Qp F4 (Qp (Ir ([[.str _],[.str _],[.str _]]) rfl) ?_))));refine Qe (Dc rfl (Fk b _ _ _ ha R [[116,121,112,101,32],t.text,[32,123]] (B9 rfl) (by have h:=hb;(try simp only [Bd,Bs,Ao,A1,Bi,A3] at h ⊢);omega))) ?_;rintro _ _ ⟨v8,a8,rfl,ha8,rfl⟩;refine A2 (Cg (Qp (Qf Oq) (Qp Ew ?_)));refine Qp (G1 t.kids.length rfl rfl (by simp)) ?_;refine Qp Hc (Bp (fun hc1=>?_) fun hc1=>?_)
 .
  have hk:0<t.kids.length:=by have:=C6 hc1;omega
  have ha:=ha8;rw [if_pos hk] at hb;refine Af (Qp Bu (Qp (Ir ([[.str _]]) rfl) ?_));refine Qe (Dc rfl (Fk b _ _ _ ha8 R [[32]] (B9 rfl) (by have h:=hb;(try simp only [Bd,Bs,Ao,A1,Bi,A3] at h ⊢);omega))) ?_;rintro _ _ ⟨v15,a15,rfl,ha15,rfl⟩;refine B7 (Qp Bu (Qp (Qf Oq) (Qp Ew ?_)));refine Qe (Dc rfl (lJ b _ _ _ ha15 R t.kids hn (by have h:=hb;(try simp only [Bd,Bs,Ao,A1,Bi,A3] at h ⊢);omega))) ?_;rintro _ _ ⟨v19,a19,rfl,ha19,rfl⟩;refine A2 (AW.region (Qp Bu (Qp (Ir ([[.str _]]) rfl) ?_)));refine Qe (Dc rfl (Fk b _ _ _ ha19 R [[32]] (B9 rfl) (by have h:=hb;(try simp only [Bd,Bs,Ao,A1,Bi,A3] at h ⊢);omega))) ?_;rintro _ _ ⟨v22,a22,rfl,ha22,rfl⟩;refine A2 (AW.region (Qp Bu (Qp (Ir ([[.str _]]) rfl) ?_)));refine Qe (Dc rfl (Fk b _ _ _ ha22 R [[125,10]] (B9 rfl) (by have h:=hb;(try simp only [Bd,Bs,Ao,A1,Bi,A3] at h ⊢);omega))) ?_;rintro _ _ ⟨v25,a25,rfl,ha25,rfl⟩;refine AOL.nil ?_;refine ⟨.inl rfl,[],.nil,_,.refl _,?_⟩;exact wq ha25 (by rw [if_pos hk];simp only [Bd,Bs,A3,Dy,Dn,Du])
 have hk:¬0<t.kids.length:=by have:=Er hc1;omega
 rw [if_neg hk] at hb;have ha22:=ha8;refine B6 (AW.region (Qp Bu (Qp (Ir ([[.str _]]) rfl) ?_)));refine Qe (Dc rfl (Fk b _ _ _ ha22 R [[125,10]] (B9 rfl) (by have h:=hb;(try simp only [Bd,Bs,Ao,A1,Bi,A3] at h ⊢);omega))) ?_;rintro _ _ ⟨v25,a25,rfl,ha25,rfl⟩;refine AOL.nil ?_;refine ⟨.inl rfl,[],.nil,_,.refl _,?_⟩;exact wq ha25 (by rw [if_neg hk];simp only [Bd,Bs,A3,Dy,Dn,Du])
theorem w_event (b:Nat)(o:Ag)(v:Value)(a:Option Addr)(ha:a=none\/a=some ⟨b,0,none⟩)(R:List HO)(t:Syn)(hn:∀x∈t.kids,Ia b x)(hb:o.length+(t.text++([32]:Ag)++t.name++(if h:0<t.kids.length then ([32,105,102,32]:Ag)++An t.kids[0] else [])).length<=gM):Bt Tryz.prog 126 (.row v (Fw o).length 5 1 :: .box b 148 (.val (.pointer a) :: .row v 1 (Fw o)::Xa b)::R) [.val (.pointer (some ⟨b,0,none⟩)),.agg (cSyn t)] (WQ b (o++(t.text++([32]:Ag)++t.name++(if h:0<t.kids.length then ([32,105,102,32]:Ag)++An t.kids[0] else []))) R):=by
 refine H7 24 Tryz.func126 rfl ?_;refine Af (Qp (Ik Ak) (B7 (Qp Bu (Qp (Qf Vx) (Qp F4 (Qp (Qf nB) (Qp F4 (Qp (Ir ([[.str _],[.str _],[.str _]]) rfl) ?_))))))));refine Qe (Dc rfl (Fk b _ _ _ ha R [t.text,[32],t.name] (B9 rfl) (by have h:=hb;(try simp only [Bd,Bs,Ao,A1,Bi,A3] at h ⊢);omega))) ?_;rintro _ _ ⟨v10,a10,rfl,ha10,rfl⟩;refine B7 (Qp (Qf Oq) (Qp Ew ?_));refine Qp (G1 t.kids.length rfl rfl (by simp)) ?_;refine Qp Hc (Bp (fun hc1=>?_) fun hc1=>?_)
 .
  have hk:0<t.kids.length:=by have:=C6 hc1;omega
  rw [dif_pos hk] at hb;have hnx:=hn _ (Ub hk);refine Af (Qp Bu (Qp (Ir ([[.str _]]) rfl) ?_));refine Qe (Dc rfl (Fk b _ _ _ ha10 R [[32,105,102,32]] (B9 rfl) (by have h:=hb;(try simp only [Bd,Bs,Ao,A1,Bi,A3] at h ⊢);omega))) ?_;rintro _ _ ⟨v17,a17,rfl,ha17,rfl⟩;refine A2 (AW.region (Qp Bu (Qp (Qf Oq) (Qp Ew ?_))));refine Qp (E9 Ak rfl rfl (by decide) (Im (List.getElem?_eq_getElem hk))) ?_;refine Qp (C1 Ak) ?_;refine Qe (Dc rfl (hnx _ _ _ ha17 R (by have h:=hb;(try simp only [Bd,Bs,Ao,A1,Bi,A3] at h ⊢);omega))) ?_;rintro _ _ ⟨v23,a23,rfl,ha23,rfl⟩;refine AOL.nil ?_;refine ⟨.inl rfl,[],.nil,_,.refl _,?_⟩;exact wq ha23 (by rw [dif_pos hk];simp only [Bd,Bs,A3,Dy,Dn,Du])
 have hk:¬0<t.kids.length:=by have:=Er hc1;omega
 rw [dif_neg hk] at hb;refine AW.skip ?_;refine ⟨.inl rfl,[],.nil,_,.refl _,?_⟩;exact wq ha10 (by rw [dif_neg hk];simp only [Bd,Bs,A3,Dy,Dn,Du])
theorem tG (b:Nat)(o:Ag)(v:Value)(a:Option Addr)(ha:a=none\/a=some ⟨b,0,none⟩)(R:List HO)(t:Syn)(hi : -9223372036854775808<=t.num/\t.num<=9223372036854775807)(ht:t.text.length<=1048576)(hb:o.length+(dT t).length<=gM):Bt Tryz.prog 128 (.row v (Fw o).length 5 1 :: .box b 148 (.val (.pointer a) :: .row v 1 (Fw o)::Xa b)::R) [.val (.pointer (some ⟨b,0,none⟩)),.agg (cSyn t)] (WQ b (o++dT t) R):=by
 refine H7 35 Tryz.func128 rfl ?_;refine Af (Qp (Ik Ak) (B7 (Qp (Qf nB) (Qp F4 (A2 (AW.block (Af (Qp (Dx rfl rfl) (Qp Bh (Bp (fun hc1=>?_) fun hc1=>Af (Qp (Dx rfl rfl) (Qp Bh (Bp (fun hc2=>?_) fun hc2=>?_)))))))))))))
 .
  have e:dT t=Lib.itoa t.num:=if_pos hc1;rw [e] at hb;refine AW.region (Qp Bu (Qp (Qf Yn) (Qp Cd (Qp (Qc rfl (kItoa t.num hi.1 hi.2)) (Qp (Ir ([[.str _]]) rfl) ?_)))));refine Qe (Dc rfl (Fk b _ _ _ ha R [Lib.itoa t.num] (B9 rfl) (by have h:=hb;(try simp only [Bd,Bs,Ao,A1,Bi,A3] at h ⊢);omega))) ?_;rintro _ _ ⟨v25,a25,rfl,ha25,rfl⟩;refine AOL.nil (Ff ?_);refine ⟨.inl rfl,[],.nil,_,.refl _,?_⟩;exact wq ha25 (by rw [e];simp only [Bd,Bs,A3,Dy,Dn,Du])
 .
  have e:dT t=(if t.num==1 then U8 else Q8):=by unfold dT;exact (B2 hc1).trans (if_pos hc2)
  rw [e] at hb;refine AW.region (Qp Bu (Qp (Qf Yn) (Qp Cd (Qp Bq (Qp (Qc rfl (k_fbool (t.num==1))) (Qp (Ir ([[.str _]]) rfl) ?_))))));refine Qe (Dc rfl (Fk b _ _ _ ha R [if t.num==1 then U8 else Q8] (B9 rfl) (by have h:=hb;(try simp only [Bd,Bs,Ao,A1,Bi,A3] at h ⊢);omega))) ?_;rintro _ _ ⟨v34,a34,rfl,ha34,rfl⟩;refine AOL.nil (Ff ?_);refine ⟨.inl rfl,[],.nil,_,.refl _,?_⟩;exact wq ha34 (by rw [e];simp only [Bd,Bs,A3,Dy,Dn,Du])
 have e:dT t=(Pi t.text).1:=by unfold dT;exact (B2 hc1).trans (B2 hc2)
 rw [e] at hb;refine Af (Qp (Qf Vx) (Qp F4 (Qp (Qc rfl (c24 t.text ht)) (Qp Th (Qp wV (Qp Td (Qp La (Qp Ax (A2 (AW.region (Qp Bu (Qp Gu (Qp (Ir ([[.str _]]) rfl) ?_)))))))))))));refine Qe (Dc rfl (Fk b _ _ _ ha R [(Pi t.text).1] (B9 rfl) (by have h:=hb;(try simp only [Bd,Bs,Ao,A1,Bi,A3] at h ⊢);omega))) ?_;rintro _ _ ⟨v17,a17,rfl,ha17,rfl⟩;refine AOL.nil (Ff ?_);refine ⟨.inl rfl,[],.nil,_,.refl _,?_⟩;exact wq ha17 (by rw [e];simp only [Bd,Bs,A3,Dy,Dn,Du])
theorem w_ref (b:Nat)(o:Ag)(v:Value)(a:Option Addr)(ha:a=none\/a=some ⟨b,0,none⟩)(R:List HO)(t:Syn)(hb:o.length+(t.text++([46]:Ag)++t.name).length<=gM):Bt Tryz.prog 129 (.row v (Fw o).length 5 1 :: .box b 148 (.val (.pointer a) :: .row v 1 (Fw o)::Xa b)::R) [.agg (cSyn t),.ptr [.val (.pointer (some ⟨b,0,none⟩))]] (WQ b (o++(t.text++([46]:Ag)++t.name)) R):=by
 refine H7 10 Tryz.func129 rfl ?_;refine Af (Qp (Ik Ak) (A2 (AW.region (Qp Kg (Qp (Qf Vx) (Qp F4 (Qp (Qf nB) (Qp F4 (Qp (Ir ([[.str _],[.str _],[.str _]]) rfl) ?_)))))))));refine Qe (Dc rfl (Fk b _ _ _ ha R [t.text,[46],t.name] (B9 rfl) (by have h:=hb;(try simp only [Bd,Bs,Ao,A1,Bi,A3] at h ⊢);omega))) ?_;rintro _ _ ⟨v9,a9,rfl,ha9,rfl⟩;refine AOL.nil ?_;refine ⟨.inl rfl,[],.nil,_,.refl _,?_⟩;exact wq ha9 (by simp only [Bd,Bs,A3,Dy,Dn,Du])
theorem w_count (b:Nat)(o:Ag)(v:Value)(a:Option Addr)(ha:a=none\/a=some ⟨b,0,none⟩)(R:List HO)(t:Syn)(hb:o.length+(([99,111,117,110,116,40]:Ag)++t.text++([41]:Ag)).length<=gM):Bt Tryz.prog 130 (.row v (Fw o).length 5 1 :: .box b 148 (.val (.pointer a) :: .row v 1 (Fw o)::Xa b)::R) [.agg (cSyn t),.ptr [.val (.pointer (some ⟨b,0,none⟩))]] (WQ b (o++(([99,111,117,110,116,40]:Ag)++t.text++([41]:Ag))) R):=by
 refine H7 8 Tryz.func130 rfl ?_;refine Af (Qp (Ik Ak) (A2 (AW.region (Qp Kg (Qp (Qf Vx) (Qp F4 (Qp (Ir ([[.str _],[.str _],[.str _]]) rfl) ?_)))))));refine Qe (Dc rfl (Fk b _ _ _ ha R [[99,111,117,110,116,40],t.text,[41]] (B9 rfl) (by have h:=hb;(try simp only [Bd,Bs,Ao,A1,Bi,A3] at h ⊢);omega))) ?_;rintro _ _ ⟨v7,a7,rfl,ha7,rfl⟩;refine AOL.nil ?_;refine ⟨.inl rfl,[],.nil,_,.refl _,?_⟩;exact wq ha7 (by simp only [Bd,Bs,A3,Dy,Dn,Du])
theorem w_not (b:Nat)(o:Ag)(v:Value)(a:Option Addr)(ha:a=none\/a=some ⟨b,0,none⟩)(R:List HO)(t k:Syn)(h0:t.kids[0]? = some k)(hk:Ia b k)(hb:o.length+(([110,111,116,32]:Ag)++J2 t k (An k)).length<=gM):Bt Tryz.prog 133 (.row v (Fw o).length 5 1 :: .box b 148 (.val (.pointer a) :: .row v 1 (Fw o)::Xa b)::R) [.agg (cSyn t),.ptr [.val (.pointer (some ⟨b,0,none⟩))]] (WQ b (o++(([110,111,116,32]:Ag)++J2 t k (An k))) R):=by
 refine H7 13 Tryz.func133 rfl ?_;refine Af (Qp (Ik Ak) (B7 (Qp Kg (Qp (Ir ([[.str _]]) rfl) ?_))));refine Qe (Dc rfl (Fk b _ _ _ ha R [[110,111,116,32]] (B9 rfl) (by have h:=hb;(try simp only [Bd,Bs,Ao,A1,Bi,A3] at h ⊢);omega))) ?_;rintro _ _ ⟨v5,a5,rfl,ha5,rfl⟩;refine A2 ?_;refine Ok ?_;refine Qn 0 rfl Kg (Qn 1 rfl (C1 Ak) (Qn 2 rfl (Qf Oq) (Qn 3 rfl Ew ?_)));refine Qn 4 rfl (E9 Ak rfl rfl (by decide) (Im h0)) ?_;refine Qn 5 rfl (C1 Ak) ?_;refine qE 6 rfl (Dc rfl (Z5 b _ _ _ ha5 R t k hk (by have h:=hb;(try simp only [Bd,Bs,Ao,A1,Bi,A3] at h ⊢);omega))) ?_;rintro _ _ ⟨v12,a12,rfl,ha12,rfl⟩;refine Iw ?_;refine ⟨.inl rfl,[],.nil,_,.refl _,?_⟩;exact wq ha12 (by simp only [Bd,Bs,A3,Dy,Dn,Du])
theorem So (b:Nat)(o:Ag)(v:Value)(a:Option Addr)(ha:a=none\/a=some ⟨b,0,none⟩)(R:List HO)(t:Syn)(w:Ag)(hi : -9223372036854775808<=t.num/\t.num<=9223372036854775807)(hn:∀x∈t.kids,Ia b x)(hb:o.length+(w++([40]:Ag)++En (t.kids.map An)++(if t.kind==11 then ([44,32]:Ag)++Lib.itoa t.num else [])++([41]:Ag)).length<=gM):Bt Tryz.prog 174 (.row v (Fw o).length 5 1 :: .box b 148 (.val (.pointer a) :: .row v 1 (Fw o)::Xa b)::R) [.agg (cSyn t),.ptr [.val (.pointer (some ⟨b,0,none⟩))],.ptr [.str w]] (WQ b (o++(w++([40]:Ag)++En (t.kids.map An)++(if t.kind==11 then ([44,32]:Ag)++Lib.itoa t.num else [])++([41]:Ag))) R):=by
 refine H7 24 Tryz.func174 rfl ?_;refine Af (Qp (Ik Ak) (Re ?_));have hb0:=hb;refine AW.region (Qp Kg (Qp F4 (Qp (Ir ([[.str _],[.str _]]) rfl) ?_)));refine Qe (Dc rfl (Fk b _ _ _ ha R [w,[40]] (B9 rfl) (by have h:=hb;(try simp only [Bd,Bs,Ao,A1,Bi,A3] at h ⊢);omega))) ?_;rintro _ _ ⟨v7,a7,rfl,ha7,rfl⟩;refine B7 (Qp Kg (Qp (Qf Oq) (Qp Ew ?_)));refine Qe (Dc rfl (lJ b _ _ _ ha7 R t.kids hn (by have h:=hb;(try simp only [Bd,Bs,Ao,A1,Bi,A3] at h ⊢);omega))) ?_;rintro _ _ ⟨v11,a11,rfl,ha11,rfl⟩;refine A2 (Cg (Qp (Qf Ak) (Qp Cd (Qp Bq (Bp (fun hc1=>?_) fun hc1=>?_)))))
 .
  rw [if_pos hc1] at hb;refine Ok ?_;refine Qn 0 rfl Kg (Qn 1 rfl (Qf Yn) (Qn 2 rfl Cd (Qn 3 rfl (Qc rfl (kItoa t.num hi.1 hi.2)) (Qn 4 rfl (Ir ([[.str _],[.str _]]) rfl) ?_))));refine qE 5 rfl (Dc rfl (Fk b _ _ _ ha11 R [[44,32],Lib.itoa t.num] (B9 rfl) (by have h:=hb;(try simp only [Bd,Bs,Ao,A1,Bi,A3] at h ⊢);omega))) ?_;rintro _ _ ⟨v20,a20,rfl,ha20,rfl⟩;refine Iw ?_;refine Aa (AW.region (Qp Kg (Qp (Ir ([[.str _]]) rfl) ?_)));refine Qe (Dc rfl (Fk b _ _ _ ha20 R [[41]] (B9 rfl) (by have h:=hb;(try simp only [Bd,Bs,Ao,A1,Bi,A3] at h ⊢);omega))) ?_;rintro _ _ ⟨v23,a23,rfl,ha23,rfl⟩;refine AOL.nil ?_;refine ⟨.inl rfl,[],.nil,_,.refl _,?_⟩;exact wq ha23 (by rw [if_pos hc1];simp only [Bd,Bs,A3,Dy,Dn,Du])
 rw [B2 hc1] at hb;have ha20:=ha11;refine B6 (AW.region (Qp Kg (Qp (Ir ([[.str _]]) rfl) ?_)));refine Qe (Dc rfl (Fk b _ _ _ ha20 R [[41]] (B9 rfl) (by have h:=hb;(try simp only [Bd,Bs,Ao,A1,Bi,A3] at h ⊢);omega))) ?_;rintro _ _ ⟨v23,a23,rfl,ha23,rfl⟩;refine AOL.nil ?_;refine ⟨.inl rfl,[],.nil,_,.refl _,?_⟩;exact wq ha23 (by rw [B2 hc1];simp only [Bd,Bs,A3,Dy,Dn,Du])
theorem w_field (b:Nat)(o:Ag)(v:Value)(a:Option Addr)(ha:a=none\/a=some ⟨b,0,none⟩)(R:List HO)(t:Syn)(hi:0<=t.num/\t.num<=2)(hb:o.length+(t.text++([58,32]:Ag)++Xv t.num).length<=gM):Bt Tryz.prog 123 (.row v (Fw o).length 5 1 :: .box b 148 (.val (.pointer a) :: .row v 1 (Fw o)::Xa b)::R) [.agg (cSyn t),.ptr [.val (.pointer (some ⟨b,0,none⟩))]] (WQ b (o++(t.text++([58,32]:Ag)++Xv t.num)) R):=by
 refine H7 13 Tryz.func123 rfl ?_;refine Af (Qp (Ik Ak) (A2 ?_));refine Ok ?_;refine Qn 0 rfl Kg (Qn 1 rfl (Qf Vx) (Qn 2 rfl F4 (Qn 3 rfl (Ir ([[.str _],[.str _],[.str _]]) rfl) (Qn 4 rfl (Qf Yn) (Qn 5 rfl Cd (Qn 6 rfl (E9 [.str (Xv t.num)] rfl rfl (hi.1) (kind_at hi)) (Qn 7 rfl F4 (Qn 8 rfl (Ir ([[.str _],[.str _],[.str _]]) rfl) ?_))))))));refine qE 9 rfl (Dc rfl (Fk b _ _ _ ha R [t.text,[58,32],Xv t.num] (B9 rfl) (by have h:=hb;(try simp only [Bd,Bs,Ao,A1,Bi,A3] at h ⊢);omega))) ?_;rintro _ _ ⟨v12,a12,rfl,ha12,rfl⟩;refine Iw ?_;refine ⟨.inl rfl,[],.nil,_,.refl _,?_⟩;exact wq ha12 (by simp only [Bd,Bs,A3,Dy,Dn,Du])
theorem zX {n:Int}(h:1<=n/\n<=5):Wd [(1,AV.str tK),(2,.str tJ),(3,.str tI),(4,.str fH),(5,.str lK)] n=some (.str (fY n)):=by
 have:n=1\/n=2\/n=3\/n=4\/n=5:=by omega
 rcases this with rfl | rfl | rfl | rfl | rfl <;> rfl
theorem xY {n:Int}(h:5<=n/\n<=11):Wd [(5,AV.str [32,43,32]),(6,.str [32,45,32]),(7,.str [32,60,32]),(8,.str [32,60,61,32]),(9,.str [32,61,61,32]),(10,.str [32,97,110,100,32]),(11,.str [32,111,114,32])] n=some (.str (([32]:Ag)++X2 n ++ [32])):=by
 have:n=5\/n=6\/n=7\/n=8\/n=9\/n=10\/n=11:=by omega
 rcases this with rfl | rfl | rfl | rfl | rfl | rfl | rfl <;> rfl
theorem tail_at {l:List Syn}{k:Nat}{x:Syn}(h:l[k]? = some x):My ((l.map An).drop k) = [44,32]++An x++My ((l.map An).drop (k+1)):=by
 obtain ⟨h1,h2⟩:=List.getElem?_eq_some_iff.1 (wR h);rw [L4 h1,My,h2]
theorem Us {l:List Syn}{k:Nat}{x:Syn}(h:l[k]? = some x):((l.map An).drop k).flatten=An x++((l.map An).drop (k+1)).flatten:=by
 obtain ⟨h1,h2⟩:=List.getElem?_eq_some_iff.1 (wR h);rw [L4 h1,Bd,h2]
theorem w_total (b:Nat)(o:Ag)(v:Value)(a:Option Addr)(ha:a=none\/a=some ⟨b,0,none⟩)(R:List HO)(t:Syn)(hi:1<=t.num/\t.num<=5)(hn:∀x∈t.kids,Ia b x)(hb:o.length+(fY t.num++([40]:Ag)++t.text++([46]:Ag)++t.name++My (t.kids.map An)++([41]:Ag)).length<=gM):Bt Tryz.prog 131 (.row v (Fw o).length 5 1 :: .box b 148 (.val (.pointer a) :: .row v 1 (Fw o)::Xa b)::R) [.val (.pointer (some ⟨b,0,none⟩)),.agg (cSyn t)] (WQ b (o++(fY t.num++([40]:Ag)++t.text++([46]:Ag)++t.name++My (t.kids.map An)++([41]:Ag))) R):=by
 refine H7 37 Tryz.func131 rfl ?_;refine Af (Qp (Ik Ak) (B7 (Qe (Yq) ?_)));rintro _ _ ⟨b7,rfl,rfl⟩;refine Rt (Eb (i:=0) (x:=.str _) (H2:=_::_::_::_) tok rfl rfl rfl rfl rfl rfl rfl rfl rfl rfl) (Rt (Eb (i:=0) (x:=.str _) (H2:=_::_::_::_) tok rfl rfl rfl rfl rfl rfl rfl rfl rfl rfl) (Rt (Eb (i:=0) (x:=.str _) (H2:=_::_::_::_) tok rfl rfl rfl rfl rfl rfl rfl rfl rfl rfl) (Rt (Eb (i:=0) (x:=.str _) (H2:=_::_::_::_) tok rfl rfl rfl rfl rfl rfl rfl rfl rfl rfl) (Rt (Eb (i:=0) (x:=.str _) (H2:=_::_::_::_) tok rfl rfl rfl rfl rfl rfl rfl rfl rfl rfl) (Qp Bu (Qp O2 ?_))))));refine AOL.ghost (GS.freezeMap (t:=4) 0 rfl rfl) ?_;refine B7 (Qp Bu (Qp (Ab (v:=.mapv _) rfl) (Qp (Qf Yn) (Qp Cd (Qp (Xf tok rfl rfl rfl rfl rfl rfl (zX hi)) (Qp (Qf Vx) (Qp F4 (Qp (Qf nB) (Qp F4 (Qp (Ir ([[.str _],[.str _],[.str _],[.str _],[.str _]]) rfl) ?_))))))))));refine Qe (Dc rfl (Fk b _ _ _ ha R [fY t.num,[40],t.text,[46],t.name] (B9 rfl) (by have h:=hb;(try simp only [Bd,Bs,Ao,A1,Bi,A3] at h ⊢);omega))) ?_;rintro _ _ ⟨v19,a19,rfl,ha19,rfl⟩;refine A2 (Cg (Qp (Qf Oq) (Qp Ew ?_)));refine Qp (G1 t.kids.length rfl rfl (by simp)) ?_;refine Qp A0 (A2 (AW.block (AW.sllen 21 rfl fun hlen=>?_)));simp only [By,maxLen] at hlen;refine AW.loopS (fun (p:Nat×Ag×Value×Option Addr)=>(⟨[(0,.val (.pointer (some ⟨b,0,none⟩))),(21,.sl 6 (t.kids.map Cu)),(22,.int .i64 t.kids.length),(23,.int .i64 (p.1:Int))],(.row p.2.2.1 (Fw p.2.1).length 5 1 :: .box b 148 (.val (.pointer p.2.2.2) :: .row p.2.2.1 1 (Fw p.2.1)::Xa b)::R),37⟩:St)) (fun p=>p.1<=t.kids.length/\p.2.1++My ((t.kids.map An).drop p.1)=(o ++ [fY t.num,[40],t.text,[46],t.name].flatten)++My (t.kids.map An)/\(p.2.2.2=none\/p.2.2.2=some ⟨b,0,none⟩)) (fun p=>t.kids.length-p.1) ((0,_,v19,a19)) ?_ Dh ?_
 . exact ⟨A7 _,rfl,ha19⟩
 rintro p hR;have ha:=hR.2.2;refine Af (Qp Cv (Re (Gn (fun hc1=>?_) fun hc1=>?_)))
 .
  obtain ⟨x,hx⟩:=gt2 (l:=t.kids) (k:=p.1) (by have:=C6 hc1;omega);have hlt:=iK hx;have hnx:=hn x (Aj hx);have hr:=tail_at hx;have hle:=congrArg List.length hR.2.1;rw [hr] at hle;simp only [Ao,A1,Bi,Bd,Bs,A3] at hle;refine B6 (AW.seq (AW.block (Af ?_)));refine Qp (E9 Ak rfl rfl (by omega) (Im hx)) ?_;refine Qp (C1 Ak) (D7 In fun b6=>?_);refine Bz 0 Ak (_::_::_::_) ?_;refine Kh 6 0 rfl ?_;refine B7 (Qp Bu (Qp (Ir ([[.str _]]) rfl) ?_));refine Qe (Dc rfl (Fk b _ _ _ ha R [[44,32]] (B9 rfl) (by simp only [Ao,A1,Bi,Bd,Bs,A3] at hb ⊢;omega))) ?_;rintro _ _ ⟨v29,a29,rfl,ha29,rfl⟩;refine A2 (AW.region (Qp Bu (Qp (C1 Ak) ?_)));refine Qe (Dc rfl (hnx _ _ _ ha29 R (by simp only [Ao,A1,Bi,Bd,Bs,A3] at hb ⊢;omega))) ?_;rintro _ _ ⟨v32,a32,rfl,ha32,rfl⟩;refine Rk (AW.region (Qp Hb (Qp A0 (A2 ?_))));refine ⟨(p.1+1,(p.2.1 ++ [[44,32]].flatten)++An x,v32,a32),?_,?_,Dh⟩
  . exact ⟨hlt,by rw [<-hR.2.1,hr];simp,ha32⟩
  simp only;omega
 have hk:(t.kids.map An).length<=p.1:=by have:=Er hc1;rw [By];omega
 have he:=hR.2.1;rw [Ss hk,My,A3] at he;have hle:=congrArg List.length he;simp only [Ao,A1,Bi,Bd,Bs,A3] at hle;refine AW.exit ?_;refine Br (Ri (AW.region (Qp Bu ?_)));refine Qp (Ir ([[.str _]]) rfl) ?_;refine Qe (Dc rfl (Fk b _ _ _ hR.2.2 R [[41]] (B9 rfl) (by simp only [Ao,A1,Bi,Bd,Bs,A3] at hb ⊢;omega))) ?_;rintro _ _ ⟨v36,a36,rfl,ha36,rfl⟩;refine AOL.nil ?_;refine ⟨.inl rfl,[],.nil,_,.refl _,?_⟩;exact wq ha36 (by rw [he];simp only [Bd,Bs,A3,Dy,Dn,Du])
theorem w_binary (b:Nat)(o:Ag)(v:Value)(a:Option Addr)(ha:a=none\/a=some ⟨b,0,none⟩)(R:List HO)(t k0 k1:Syn)(h0:t.kids[0]? = some k0)(h1:t.kids[1]? = some k1)(hi:5<=t.num/\t.num<=11)(hn0:Ia b k0)(hn1:Ia b k1)(hb:o.length+(J2 t k0 (An k0)++([32]:Ag)++X2 t.num++([32]:Ag)++J2 t k1 (An k1)).length<=gM):Bt Tryz.prog 132 (.row v (Fw o).length 5 1 :: .box b 148 (.val (.pointer a) :: .row v 1 (Fw o)::Xa b)::R) [.val (.pointer (some ⟨b,0,none⟩)),.agg (cSyn t)] (WQ b (o++(J2 t k0 (An k0)++([32]:Ag)++X2 t.num++([32]:Ag)++J2 t k1 (An k1))) R):=by
 refine H7 28 Tryz.func132 rfl ?_;refine Af (Qp (Ik Ak) (B7 (Qe (Yq) ?_)));rintro _ _ ⟨b5,rfl,rfl⟩;refine Rt (Eb (i:=0) (x:=.str _) (H2:=_::_::_::_) tok rfl rfl rfl rfl rfl rfl rfl rfl rfl rfl) (Rt (Eb (i:=0) (x:=.str _) (H2:=_::_::_::_) tok rfl rfl rfl rfl rfl rfl rfl rfl rfl rfl) (Rt (Eb (i:=0) (x:=.str _) (H2:=_::_::_::_) tok rfl rfl rfl rfl rfl rfl rfl rfl rfl rfl) (Rt (Eb (i:=0) (x:=.str _) (H2:=_::_::_::_) tok rfl rfl rfl rfl rfl rfl rfl rfl rfl rfl) (Rt (Eb (i:=0) (x:=.str _) (H2:=_::_::_::_) tok rfl rfl rfl rfl rfl rfl rfl rfl rfl rfl) (Rt (Eb (i:=0) (x:=.str _) (H2:=_::_::_::_) tok rfl rfl rfl rfl rfl rfl rfl rfl rfl rfl) (Rt (Eb (i:=0) (x:=.str _) (H2:=_::_::_::_) tok rfl rfl rfl rfl rfl rfl rfl rfl rfl rfl) (Qp Bu (Qp O2 ?_))))))));refine AOL.ghost (GS.freezeMap (t:=4) 0 rfl rfl) ?_;refine Re ?_;refine Ok ?_;refine Qn 0 rfl Bu (Qn 1 rfl (C1 Ak) (Qn 2 rfl (Qf Oq) (Qn 3 rfl Ew ?_)));refine Qn 4 rfl (E9 Ak rfl rfl (by decide) (Im h0)) ?_;refine Qn 5 rfl (C1 Ak) ?_;refine qE 6 rfl (Dc rfl (Z5 b _ _ _ ha R t k0 hn0 (by have h:=hb;(try simp only [Bd,Bs,Ao,A1,Bi,A3] at h ⊢);omega))) ?_;rintro _ _ ⟨v13,a13,rfl,ha13,rfl⟩;refine Iw ?_;refine Aa (Af (Qp Bu (Qp (Ab (v:=.mapv _) rfl) (Qp (Qf Yn) (Qp Cd (Qp (Xf tok rfl rfl rfl rfl rfl rfl (xY hi)) (Qp (Ir ([[.str _]]) rfl) ?_)))))));refine Qe (Dc rfl (Fk b _ _ _ ha13 R [[32]++X2 t.num ++ [32]] (B9 rfl) (by have h:=hb;(try simp only [Bd,Bs,Ao,A1,Bi,A3] at h ⊢);omega))) ?_;rintro _ _ ⟨v20,a20,rfl,ha20,rfl⟩;refine A2 ?_;refine Ok ?_;refine Qn 0 rfl Bu (Qn 1 rfl (C1 Ak) (Qn 2 rfl (Qf Oq) (Qn 3 rfl Ew ?_)));refine Qn 4 rfl (E9 Ak rfl rfl (by decide) (Im h1)) ?_;refine Qn 5 rfl (C1 Ak) ?_;refine qE 6 rfl (Dc rfl (Z5 b _ _ _ ha20 R t k1 hn1 (by have h:=hb;(try simp only [Bd,Bs,Ao,A1,Bi,A3] at h ⊢);omega))) ?_;rintro _ _ ⟨v27,a27,rfl,ha27,rfl⟩;refine Iw ?_;refine ⟨.inl rfl,[],.nil,_,.refl _,?_⟩;exact wq ha27 (by simp only [Bd,Bs,A3,Dy,Dn,Du])
theorem zG (b:Nat)(o:Ag)(v:Value)(a:Option Addr)(ha:a=none\/a=some ⟨b,0,none⟩)(R:List HO)(t:Syn)(hn:∀x∈t.kids,Ia b x)(hb:o.length+((t.kids.map An).flatten).length<=gM):Bt Tryz.prog 121 (.row v (Fw o).length 5 1 :: .box b 148 (.val (.pointer a) :: .row v 1 (Fw o)::Xa b)::R) [.agg (cSyn t),.ptr [.val (.pointer (some ⟨b,0,none⟩))]] (WQ b (o++((t.kids.map An).flatten)) R):=by
 refine H7 16 Tryz.func121 rfl ?_;refine Af (Qp (Ik Ak) (B7 (Qp (Qf Oq) (Qp Ew ?_))));refine Qp (G1 t.kids.length rfl rfl (by simp)) ?_;refine Qp A0 (A2 (AW.block (AW.sllen 6 rfl fun hlen=>?_)));simp only [By,maxLen] at hlen;refine AW.loopS (fun (p:Nat×Ag×Value×Option Addr)=>(⟨[(1,.ptr [.val (.pointer (some ⟨b,0,none⟩))]),(6,.sl 6 (t.kids.map Cu)),(7,.int .i64 t.kids.length),(8,.int .i64 (p.1:Int))],(.row p.2.2.1 (Fw p.2.1).length 5 1 :: .box b 148 (.val (.pointer p.2.2.2) :: .row p.2.2.1 1 (Fw p.2.1)::Xa b)::R),16⟩:St)) (fun p=>p.1<=t.kids.length/\p.2.1++((t.kids.map An).drop p.1).flatten=o++(t.kids.map An).flatten/\(p.2.2.2=none\/p.2.2.2=some ⟨b,0,none⟩)) (fun p=>t.kids.length-p.1) ((0,o,v,a)) ?_ Dh ?_
 . exact ⟨A7 _,rfl,ha⟩
 rintro p hR;have ha:=hR.2.2;refine Af (Qp Cv (Re (Gn (fun hc1=>?_) fun hc1=>?_)))
 .
  obtain ⟨x,hx⟩:=gt2 (l:=t.kids) (k:=p.1) (by have:=C6 hc1;omega);have hlt:=iK hx;have hnx:=hn x (Aj hx);have hr:=Us hx;have hle:=congrArg List.length hR.2.1;rw [hr] at hle;simp only [Ao] at hle;refine B6 (AW.seq (AW.block (Af ?_)));refine Qp (E9 Ak rfl rfl (by omega) (Im hx)) ?_;refine Qp (C1 Ak) (D7 In fun b4=>?_);refine Bz 0 Ak (_::_::_::_) ?_;refine Kh 4 0 rfl ?_;refine A2 (AW.region (Qp Kg (Qp (C1 Ak) ?_)));refine Qe (Dc rfl (hnx _ _ _ ha R (by omega))) ?_;rintro _ _ ⟨v14,a14,rfl,ha14,rfl⟩;refine Rk (AW.region (Qp Hb (Qp A0 (A2 ?_))));refine ⟨(p.1+1,p.2.1++An x,v14,a14),?_,?_,Dh⟩
  . exact ⟨hlt,by rw [<-hR.2.1,hr];simp,ha14⟩
  simp only;omega
 have hk:(t.kids.map An).length<=p.1:=by have:=Er hc1;rw [By];omega
 have he:=hR.2.1;rw [Ss hk,Bs,A3] at he;refine AW.exit ?_;refine Br (Br (Gp ?_));refine ⟨.inl rfl,[],.nil,_,.refl _,?_⟩;exact wq hR.2.2 he
theorem w_query (b:Nat)(o:Ag)(v:Value)(a:Option Addr)(ha:a=none\/a=some ⟨b,0,none⟩)(R:List HO)(t k0 k1:Syn)(r:List Syn)(hq:t.kids=k0::k1::r)(hn1:Ia b k1)(hnr:∀x∈r,Ia b x)(hb:o.length+(([113,117,101,114,121,32]:Ag)++t.text++(if !(k0.text == []) then ([32,98,121,32]:Ag)++k0.text else [])++([10,109,97,116,99,104,32]:Ag)++An k1++([10,114,101,116,117,114,110,32]:Ag)++En (r.map An)++([59,10]:Ag)).length<=gM):Bt Tryz.prog 125 (.row v (Fw o).length 5 1 :: .box b 148 (.val (.pointer a) :: .row v 1 (Fw o)::Xa b)::R) [.val (.pointer (some ⟨b,0,none⟩)),.agg (cSyn t)] (WQ b (o++(([113,117,101,114,121,32]:Ag)++t.text++(if !(k0.text == []) then ([32,98,121,32]:Ag)++k0.text else [])++([10,109,97,116,99,104,32]:Ag)++An k1++([10,114,101,116,117,114,110,32]:Ag)++En (r.map An)++([59,10]:Ag))) R):=by
 refine H7 41 Tryz.func125 rfl ?_;refine Af (Qp (Ik Ak) (Re ?_));have hb0:=hb;refine AW.region (Qp Bu (Qp (Qf Vx) (Qp F4 (Qp (Ir ([[.str _],[.str _]]) rfl) ?_))));refine Qe (Dc rfl (Fk b _ _ _ ha R [[113,117,101,114,121,32],t.text] (B9 rfl) (by have h:=hb;(try simp only [Bd,Bs,Ao,A1,Bi,A3] at h ⊢);omega))) ?_;rintro _ _ ⟨v9,a9,rfl,ha9,rfl⟩;refine A2 (Cg (Qp (Qf Oq) (Qp Ew ?_)));refine Qp (E9 Ak rfl rfl (by decide) (Im (k:=0) (a:=k0) (by rw [hq];rfl))) ?_;refine Qp (Qf Vx) (Qp F4 (Qp La (B7 (Qp Gu (Qp (Ge rfl rfl) (Bp (fun hc1=>?_) fun hc1=>?_))))))
 .
  rw [if_pos hc1] at hb;refine AW.region (Qp Bu (Qp Gu (Qp (Ir ([[.str _],[.str _]]) rfl) ?_)));refine Qe (Dc rfl (Fk b _ _ _ ha9 R [[32,98,121,32],k0.text] (B9 rfl) (by have h:=hb;(try simp only [Bd,Bs,Ao,A1,Bi,A3] at h ⊢);omega))) ?_;rintro _ _ ⟨v20,a20,rfl,ha20,rfl⟩;refine B7 (Qp Bu (Qp (Ir ([[.str _]]) rfl) ?_));refine Qe (Dc rfl (Fk b _ _ _ ha20 R [[10,109,97,116,99,104,32]] (B9 rfl) (by have h:=hb;(try simp only [Bd,Bs,Ao,A1,Bi,A3] at h ⊢);omega))) ?_;rintro _ _ ⟨v23,a23,rfl,ha23,rfl⟩;refine B7 (Qp Bu (Qp (Qf Oq) (Qp Ew ?_)));refine Qp (E9 Ak rfl rfl (by decide) (Im (k:=1) (a:=k1) (by rw [hq];rfl))) ?_;refine Qp (C1 Ak) ?_;refine Qe (Dc rfl (hn1 _ _ _ ha23 R (by have h:=hb;(try simp only [Bd,Bs,Ao,A1,Bi,A3] at h ⊢);omega))) ?_;rintro _ _ ⟨v29,a29,rfl,ha29,rfl⟩;refine B7 (Qp Bu (Qp (Ir ([[.str _]]) rfl) ?_));refine Qe (Dc rfl (Fk b _ _ _ ha29 R [[10,114,101,116,117,114,110,32]] (B9 rfl) (by have h:=hb;(try simp only [Bd,Bs,Ao,A1,Bi,A3] at h ⊢);omega))) ?_;rintro _ _ ⟨v32,a32,rfl,ha32,rfl⟩;refine B7 (Qp Bu (Qp (Qf Oq) (Qp Ew ?_)));refine Qp (Nr (l:=2) (h:=(t.kids.map Cu).length) tok rfl rfl rfl rfl rfl (⟨_,rfl⟩) (rfl) (by rw [By,hq];simp) (Bc _) (show _=r.map Cu from by rw [Mu,hq];rfl)) ?_;refine Qe (Dc rfl (lJ b _ _ _ ha32 R r hnr (by have h:=hb;(try simp only [Bd,Bs,Ao,A1,Bi,A3] at h ⊢);omega))) ?_;rintro _ _ ⟨v37,a37,rfl,ha37,rfl⟩;refine A2 (AW.region (Qp Bu (Qp (Ir ([[.str _]]) rfl) ?_)));refine Qe (Dc rfl (Fk b _ _ _ ha37 R [[59,10]] (B9 rfl) (by have h:=hb;(try simp only [Bd,Bs,Ao,A1,Bi,A3] at h ⊢);omega))) ?_;rintro _ _ ⟨v40,a40,rfl,ha40,rfl⟩;refine AOL.nil ?_;refine ⟨.inl rfl,[],.nil,_,.refl _,?_⟩;exact wq ha40 (by rw [if_pos hc1];simp only [Bd,Bs,A3,Dy,Dn,Du])
 rw [B2 hc1] at hb;have ha20:=ha9;refine B6 (Af (Qp Bu (Qp (Ir ([[.str _]]) rfl) ?_)));refine Qe (Dc rfl (Fk b _ _ _ ha20 R [[10,109,97,116,99,104,32]] (B9 rfl) (by have h:=hb;(try simp only [Bd,Bs,Ao,A1,Bi,A3] at h ⊢);omega))) ?_;rintro _ _ ⟨v23,a23,rfl,ha23,rfl⟩;refine B7 (Qp Bu (Qp (Qf Oq) (Qp Ew ?_)));refine Qp (E9 Ak rfl rfl (by decide) (Im (k:=1) (a:=k1) (by rw [hq];rfl))) ?_;refine Qp (C1 Ak) ?_;refine Qe (Dc rfl (hn1 _ _ _ ha23 R (by have h:=hb;(try simp only [Bd,Bs,Ao,A1,Bi,A3] at h ⊢);omega))) ?_;rintro _ _ ⟨v29,a29,rfl,ha29,rfl⟩;refine B7 (Qp Bu (Qp (Ir ([[.str _]]) rfl) ?_));refine Qe (Dc rfl (Fk b _ _ _ ha29 R [[10,114,101,116,117,114,110,32]] (B9 rfl) (by have h:=hb;(try simp only [Bd,Bs,Ao,A1,Bi,A3] at h ⊢);omega))) ?_;rintro _ _ ⟨v32,a32,rfl,ha32,rfl⟩;refine B7 (Qp Bu (Qp (Qf Oq) (Qp Ew ?_)));refine Qp (Nr (l:=2) (h:=(t.kids.map Cu).length) tok rfl rfl rfl rfl rfl (⟨_,rfl⟩) (rfl) (by rw [By,hq];simp) (Bc _) (show _=r.map Cu from by rw [Mu,hq];rfl)) ?_;refine Qe (Dc rfl (lJ b _ _ _ ha32 R r hnr (by have h:=hb;(try simp only [Bd,Bs,Ao,A1,Bi,A3] at h ⊢);omega))) ?_;rintro _ _ ⟨v37,a37,rfl,ha37,rfl⟩;refine A2 (AW.region (Qp Bu (Qp (Ir ([[.str _]]) rfl) ?_)));refine Qe (Dc rfl (Fk b _ _ _ ha37 R [[59,10]] (B9 rfl) (by have h:=hb;(try simp only [Bd,Bs,Ao,A1,Bi,A3] at h ⊢);omega))) ?_;rintro _ _ ⟨v40,a40,rfl,ha40,rfl⟩;refine AOL.nil ?_;refine ⟨.inl rfl,[],.nil,_,.refl _,?_⟩;exact wq ha40 (by rw [B2 hc1];simp only [Bd,Bs,A3,Dy,Dn,Du])
end Go.Proofs.YtibcelnfkhdjaaaGreatDoor
