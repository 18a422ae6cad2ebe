/-
  Several texts in one: EW23, EW24, EW18, R8w, R9w. No condition.
-/
import Derived.Test.YtckhoadldibflaaGreatDoorK01
import Derived.Test.YtckhoadldibflaaGreatDoorK02
import Derived.Test.YtckhoadldibflaaGreatDoorK14
import Derived.KernelRfl
import Derived.Test.YtckhoadldibflaaGreatDoorK06
set_option linter.unusedVariables false
set_option linter.unusedSimpArgs false
set_option maxHeartbeats 6400000
set_option maxRecDepth 20000
namespace Go.Proofs.YtckhoadldibflaaGreatDoor
open Go Go.Aw
theorem head_at {s:List UInt8}(h:s.length≠0):s[(0:Int).toNat]? = some (s.headD 0):=by
 cases s with
 | nil=>exact absurd rfl h
 | cons a r=>rfl
theorem guard_len {s:List UInt8}{x:Bool}(h:N0 [((((s.length:Nat):Int)==0||x),false)]):s.length≠0:=by
 have h1:=h _ (Ft.2 rfl);intro h0;simp [h0] at h1
theorem byte_at {s:List UInt8}{k:Nat}{c:UInt8}(h:s[k]? = some c):s[((k:Nat):Int).toNat]? = some c:=h
theorem pX {s:List UInt8}(h:s.length=0\/24<s.length\/sI ((s.headD 0).toNat)=true):Rq s=false:=by
 unfold Rq;rcases h with h | h | h
 .
  have e:(s.length==0)=true:=by simp [h]
  rw [e];rfl
 .
  have e:decide (s.length<=24)=false:=by simp;omega
  rw [e,Qx,Oc,Oc]
 rw [h,Bu,Qx,Oc]
theorem name_yes {s:List UInt8}(h:s.length≠0/\s.length<=24/\sI ((s.headD 0).toNat)=false)(ha:s.all chS=true):Rq s=true:=by
 unfold Rq;have e1:(s.length==0)=false:=by rw [Hm];exact h.1
 have e2:decide (s.length<=24)=true:=by simp;exact h.2.1
 rw [e1,e2,h.2.2,ha];rfl
theorem name_bad {s:List UInt8}{c:UInt8}(hm:c∈s)(h:chS c=false):s.all chS=false:=by
 rw [rA];intro ha;rw [Fu.1 ha c hm] at h;cases h
theorem oH {s:List UInt8}{k:Nat}{c:UInt8}(hc:s[k]? = some c)(h:(s.take k).all chS=true)(hx:chS c=true):(s.take (k+1)).all chS=true:=by
 rw [C9 hc,List.all_append,h];simp [hx]
theorem c111 (n:Int):An Tryz.prog 231 [.int .u8 n] (.bool (sI n)):=by
 refine Fb 9 Tryz.func231 rfl fun H=>?_
 refine Aa (Qp Bc (B7 (Qp (A1 (v:=.int .u8 _) rfl) (Qp Kv (Qp Cc (Qg [] Qw (A1 (v:=.int .u8 _) rfl) (Qg [(6,_)] Qw Ys (Qp Ju (Qp Bc (Rb (Qr (.bool _) ?_)))))))))));rfl
theorem c112 (n:Int):An Tryz.prog 232 [.int .u8 n] (.bool (letS n)):=by
 refine Fb 21 Tryz.func232 rfl fun H=>?_
 refine Aa (Qp Bc (B7 (Qp (A1 (v:=.int .u8 _) rfl) (Qp Bl (Qp Cc (Qg [] Qw (A1 (v:=.int .u8 _) rfl) ?_))))));refine Qg [(6,_)] Qw Kv (Qg [(7,_)] Qw Cc (Qg [] Qw (A1 (v:=.int .u8 _) rfl) (Qg [(9,_)] Qw Ys (Qg [(8,_),(10,_)] Qw Ju (Qp E5 (Qp Cc (Qg [] Qw (A1 (v:=.int .u8 _) rfl) (Qg [(14,_)] Qw Kv (Qg [(15,_)] Qw Cc (Qg [] Qw (A1 (v:=.int .u8 _) rfl) (Qg [(17,_)] Qw Ys (Qg [(16,_),(18,_)] Qw Ju (Qp E5 (Qp Bc (Rb (Qr (.bool _) ?_))))))))))))))));rfl
theorem c102 (s:List UInt8)(hs:s.length<=1048576):An Tryz.prog 165 [.str s] (.bool (Rq s)):=by
 refine Fb 35 Tryz.func165 rfl fun H=>?_
 refine Aa (Qp Bc (Ax (B5 (Qp H7 (Qp (Du (n:=s.length) tok rfl rfl rfl (rfl)) (Qp Bl (Qp Cc (Qg [] Qw H7 (Qg [(8,_)] Qw (Du (n:=s.length) tok rfl rfl rfl (rfl)) (Qg [(9,_)] Qw Gx (Qp E5 (Qp Cc (Qg [] Qw H7 ?_)))))))))))));refine Yh [(13,_)] Qw (fun hG=>C4 tok rfl rfl rfl rfl (by decide) (head_at (guard_len hG))) ?_;refine Qg [(14,_)] Qw (Qc rfl (c111 _)) (Qp E5 (Bh (fun hc1=>Aa (Qp Bc (Rc (Qr (.bool _) ?_)))) fun hc1=>?_))
 .
  simp only [Ah,AV.bool.injEq];simp only [G1,Ck,beq_iff_eq] at hc1;rcases hc1 with (h1 | h1) | h1
  . exact (pX (.inl (by omega))).symm
  . exact (pX (.inr (.inl (by omega)))).symm
  exact (pX (.inr (.inr h1))).symm
 have hn1:s.length≠0/\s.length<=24/\sI ((s.headD 0).toNat)=false:=by
    simp only [Eb,It,Hm] at hc1;exact ⟨by omega,by omega,hc1.2⟩
 refine B2 (B5 (Qp H7 (Qp (Du (n:=s.length) tok rfl rfl rfl (rfl)) (Qp Ap (Ax (AW.block ?_))))));refine AW.Aad (fun (p:Nat)=>(⟨[(0,.str s),(18,.int .i64 s.length),(19,.int .i64 (p:Int))],H,35⟩:St)) (fun p=>p<=s.length/\(s.take p).all chS=true) (fun p=>s.length-p) (0) ?_ C2 ?_
 . exact ⟨A9 _,by simp⟩
 rintro p hR;refine Aa (Qp Cn (Re (Hb (fun hc2=>?_) fun hc2=>?_)))
 .
  obtain ⟨c,hc⟩:=Cj hc2;have hlt:=Bz hc;have hm:=Aj hc;refine B2 (AW.seq (AW.block (Aa (Qp Ap (Qp Aq (B7 (Qp H7 (Qp Ap ?_))))))));refine Qp (C4 tok rfl rfl rfl rfl (by omega) (byte_at hc)) ?_;refine Qp (Qc rfl (c112 _)) (Qp Ix (Qp Cc (Qg [] Qw H7 (Qg [] Qw Ap ?_))));refine Yh [(28,_),(29,_)] Yw (fun hG=>C4 tok rfl rfl rfl rfl (by omega) (byte_at hc)) ?_;refine Qg [(30,_)] Qw (Qc rfl (c111 _)) (Qg [(31,_)] Qw Ix (Qp Ju (Bh (fun hc3=>?_) fun hc3=>?_)))
  .
   have hch:chS c=false:=by
    unfold chS;cases hl:letS c.toNat <;> cases hd:sI c.toNat <;> simp_all
   refine Aa (Qp Bc (Ra (A7 (Dz (A7 (Qr (.bool _) ?_))))));simp only [Ah,AV.bool.injEq]
   symm
   unfold Rq;rw [name_bad hm hch,Qx]
  have hch:chS c=true:=by
   unfold chS;cases hl:letS c.toNat <;> cases hd:sI c.toNat <;> simp_all
  refine Rf (AW.region (Qp Gw (Qp Ap (Ax ?_))));refine ⟨p+1,?_,?_,C2⟩
  . exact ⟨hlt,oH hc hR.2 hch⟩
  omega
 have hte:=Ds hc2;refine AW.exit ?_;refine B1 (Ri (Aa (Qp Bc (Rb ?_))));refine Qr (.bool _) ?_;simp only [Ah,AV.bool.injEq];exact (name_yes hn1 (by rw [<-hte];exact hR.2)).symm
theorem c103 (s:List UInt8)(hs:s.length<=1048576):An Tryz.prog 166 [.str s] (.bool (pC s)):=by
 refine Fb 9 Tryz.func166 rfl fun H=>?_
 refine Aa (Qp Bc (B7 (Qp H7 (Qp (Qc rfl (c102 s hs)) (Qp Cc (Qg [] Qw H7 (Qg [(6,_)] Qw (Fh rfl rfl) (Qp Ju (Qp Bc (Rb (Qr (.bool _) ?_)))))))))));rfl
def Th (s:e8Sc):Prop:=s.name.length<=1048576/\s.fields.length<=1048576/\∀f∈s.fields,f.name.length<=1048576
theorem sU {seen:List (List UInt8)}{a:Fi}{r:List Fi}(h:Jm seen a=0):L4 seen (a::r)=L4 (seen ++ [a.name]) r:=by rw [L4,if_neg (by rw [h];decide)]
theorem Ve {seen:List (List UInt8)}{a:Fi}{r:List Fi}(h:Jm seen a≠0):L4 seen (a::r)=Jm seen a:=by rw [L4,if_pos (by simpa using h)]
theorem Aaa {seen:List (List UInt8)}{a:e8Sc}{r:List e8Sc}(h:Oh seen a=0):Qj seen (a::r)=Qj (seen ++ [a.name]) r:=by rw [Qj,if_neg (by rw [h];decide)]
theorem kX {seen:List (List UInt8)}{a:e8Sc}{r:List e8Sc}(h:Oh seen a≠0):Qj seen (a::r)=Oh seen a:=by rw [Qj,if_pos (by simpa using h)]
theorem c85 (s:e8Sc)(hs:Th s):An Tryz.prog 92 [.agg (Lz s)] (.int .i64 (N5 s)):=by
 refine Fb 45 Tryz.func92 rfl fun H=>?_
 refine Aa (Qp (Hu Nd) (Qp Aq (Ax (B5 (Qp (Qf Nd) (Qp Gr (Qp (Qc rfl (c102 _ hs.1)) (Qp Ix (Bh (fun hc1=>Aa (Qp Aq (Rc (Qr (Iq _) ?_)))) fun hc1=>B2 (B5 (Qp (Qf [_]) (Qp Dd ?_))))))))))))
 . rw [show N5 s=8 by unfold N5;rw [if_pos (by simpa using hc1)]];rfl
 refine Qp (E6 s.fields.length rfl rfl (by simp)) ?_;refine Qp Gx (Bh (fun hc2=>Aa (Qp Aq (Rc (Qr (Iq _) ?_)))) fun hc2=>B2 (Aa (Qe (Iz) ?_)))
 . rw [show N5 s=5 by unfold N5;rw [if_neg (by simpa using hc1),if_pos (by simpa using hc2)]];rfl
 rintro _ _ ⟨b14,rfl,rfl⟩;refine Qp Sa (Ax (B5 (Qp (Qf [_]) (Qp Dd ?_))));refine Qp (E6 s.fields.length rfl rfl (by simp)) ?_;refine Qp Ap (Ax (AW.block ?_));have hfl:=hs.2.1;refine AW.Aad (fun (p:Nat×List (List UInt8))=>(⟨[(3,.val (.map (some b14))),(16,.sl 2 (s.fields.map xK)),(17,.int .i64 s.fields.length),(18,.int .i64 (p.1:Int))],.smap b14 (U3 p.2)::H,45⟩:St)) (fun p=>p.1<=s.fields.length/\L4 [] s.fields=L4 p.2 (s.fields.drop p.1)) (fun p=>s.fields.length-p.1) ((0,[])) ?_ C2 ?_
 . exact ⟨A9 _,rfl⟩
 rintro p hR;refine Aa (Qp Cn (Re (Hb (fun hc3=>?_) fun hc3=>?_)))
 .
  obtain ⟨a,ha⟩:=Cj hc3;have hlt:=Bz ha;have hm:=Aj ha;refine B2 (AW.seq (AW.block (Aa ?_)));refine Qp (Eh Iv rfl rfl (by omega) (Cp ha)) ?_;refine Qp (Cm Iv) (D5 gkx fun b5=>?_);refine By 0 Iv (_::_::_) ?_;refine Kc 5 0 rfl ?_;refine Re (AW.block (Aa (Qp (Qf Iv) (Qp Gr (Qp (Qc rfl (c103 _ (hs.2.2 a hm))) (Qp Ix (Qp Bc (Bh (fun hc4=>?_) fun hc4=>?_))))))))
  .
   have hb4:(!pC a.name)=true:=hc4;refine Aa (Qp Aq (Ra (Rj (A7 ?_))));refine Yx [Iq _] Ze S1 ?_
   have he:Jm p.2 a=8:=by
    unfold Jm;rw [if_pos hb4]
   rw [show N5 s=Jm p.2 a by unfold N5;rw [if_neg (by simpa using hc1),if_neg (by simpa using hc2),hR.2,A2 ha,Ve (by rw [he];decide)],he];rfl
  have hb4:¬(!pC a.name)=true:=by simpa using hc4
  refine Aa (Qp Bx (Qp (Qf Iv) (Qp Gr ?_)));refine AOL.Aag (Mn (i:=0) (ks:=p.2) tok rfl rfl rfl rfl rfl (by kernel_rfl) rfl rfl rfl) rfl rfl ?_;refine Qp Bc (Bh (fun hc5=>?_) fun hc5=>?_)
  .
   have hb5:p.2.contains a.name=true:=hc5;refine Aa (Qp Aq (Ra (Rj (A7 ?_))));refine Yx [Iq _] Ze S1 ?_
   have he:Jm p.2 a=7:=by
    unfold Jm;rw [if_neg hb4,if_pos hb5]
   rw [show N5 s=Jm p.2 a by unfold N5;rw [if_neg (by simpa using hc1),if_neg (by simpa using hc2),hR.2,A2 ha,Ve (by rw [he];decide)],he];rfl
  have hb5:¬p.2.contains a.name=true:=by simpa using hc5
  refine Aa (Qp (Qf [Iq _]) (Qp B6 (Qp Cn (Qp Cc (Qg [] Qw (Qf [Iq _]) (Qg [(37,_)] Qw B6 (Qg [(38,_)] Qw Kv (Qp E5 (Qp Bc (Bh (fun hc6=>?_) fun hc6=>?_))))))))))
  .
   have hb6:=hc6;refine Aa (Qp Aq (Ra (Rj (A7 ?_))));refine Yx [Iq _] Ze S1 ?_
   have he:Jm p.2 a=1:=by
    unfold Jm;rw [if_neg hb4,if_neg hb5,if_pos hb6]
   rw [show N5 s=Jm p.2 a by unfold N5;rw [if_neg (by simpa using hc1),if_neg (by simpa using hc2),hR.2,A2 ha,Ve (by rw [he];decide)],he];rfl
  have hb6:=rA.mp hc6;have he0:Jm p.2 a=0:=by unfold Jm;rw [if_neg hb4,if_neg hb5,if_neg hb6]
  refine Rf (AW.region (Qp Bx (Qp (Qf Iv) (Qp Gr ?_))));refine Rt (O7 (i:=0) (H2:=_::_) tok rfl rfl rfl rfl rfl rfl rfl rfl (by simpa using hb5) rfl) ?_;refine Rk (AW.region (Qp Gw (Qp Ap (Ax ?_))));refine ⟨(p.1+1,p.2 ++ [a.name]),?_,?_,C2⟩
  . exact ⟨hlt,by rw [hR.2,A2 ha,sU he0]⟩
  omega
 have hd:=Fw hc3;refine AW.exit ?_;refine B1 (Ri (Aa (Qp Aq (Rb ?_))));refine Yx [Iq _] Ze S1 ?_;rw [show N5 s=0 by unfold N5;rw [if_neg (by simpa using hc1),if_neg (by simpa using hc2),hR.2,hd];rfl];rfl
theorem e8c57 (l:List e8Sc)(hl:l.length<=1048576)(hs:∀s∈l,Th s):An Tryz.prog 44 [.sl 2 (l.map Lz)] (.int .i64 (Ef l)):=by
 refine Fb 30 Tryz.func44 rfl fun H=>?_
 refine Aa (Qp Aq (Ax (B5 (Qp K7 ?_))));refine Qp (E6 l.length rfl rfl (by simp)) ?_;refine Qp Gx (Bh (fun hc1=>Aa (Qp Aq (Rc (Qr (Iq _) ?_)))) fun hc1=>B2 (Aa (Qe (Iz) ?_)))
 . rw [show Ef l=5 by unfold Ef;rw [if_pos (by simpa using hc1)]];rfl
 rintro _ _ ⟨b10,rfl,rfl⟩;refine Qp Sa (Ax (B5 (Qp K7 ?_)));refine Qp (E6 l.length rfl rfl (by simp)) ?_;refine Qp Ap (Ax (AW.block ?_));refine AW.Aad (fun (p:Nat×List (List UInt8))=>(⟨[(3,.val (.map (some b10))),(11,.sl 2 (l.map Lz)),(12,.int .i64 l.length),(13,.int .i64 (p.1:Int))],.smap b10 (U3 p.2)::H,30⟩:St)) (fun p=>p.1<=l.length/\Qj [] l=Qj p.2 (l.drop p.1)) (fun p=>l.length-p.1) ((0,[])) ?_ C2 ?_
 . exact ⟨A9 _,rfl⟩
 rintro p hR;refine Aa (Qp Cn (Re (Hb (fun hc2=>?_) fun hc2=>?_)))
 .
  obtain ⟨a,ha⟩:=Cj hc2;have hlt:=Bz ha;have hm:=Aj ha;refine B2 (AW.seq (AW.block (Aa ?_)));refine Qp (Eh Nd rfl rfl (by omega) (Cp ha)) ?_;refine Qp (Cm Nd) (D5 [.str [],.sl 2 []] fun b5=>?_);refine By 0 Nd (_::_::_) ?_;refine Kc 5 0 rfl ?_;refine Ax (B5 (Qp (Cm Nd) (Qp (Qc rfl (c85 a (hs a hm))) (Qp Aq (B7 (Qp Ap (Qp Cb (Bh (fun hc3=>Aa (Qp Ap (Qp Aq (Rc (Rj (A7 ?_)))))) fun hc3=>?_))))))))
  .
   refine Yx [Iq _] Ze S1 ?_;have he:Oh p.2 a=N5 a:=by unfold Oh;rw [if_pos hc3]
   rw [show Ef l=Oh p.2 a by unfold Ef;rw [if_neg (by simpa using hc1),hR.2,A2 ha,kX (by rw [he];simpa using hc3)],he];rfl
  have hb3:=rA.mp hc3;refine B2 (B5 (Qp Bx (Qp (Qf Nd) (Qp Gr ?_))));refine AOL.Aag (Mn (i:=0) (ks:=p.2) tok rfl rfl rfl rfl rfl (by kernel_rfl) rfl rfl rfl) rfl rfl ?_;refine Bh (fun hc4=>?_) fun hc4=>?_
  .
   have hb4:p.2.contains a.name=true:=hc4;refine Aa (Qp Aq (Rc (Rj (A7 ?_))));refine Yx [Iq _] Ze S1 ?_;have he:Oh p.2 a=7:=by unfold Oh;rw [if_neg hb3,if_pos hb4]
   rw [show Ef l=Oh p.2 a by unfold Ef;rw [if_neg (by simpa using hc1),hR.2,A2 ha,kX (by rw [he];decide)],he];rfl
  have hb4:¬p.2.contains a.name=true:=by simpa using hc4
  have he0:Oh p.2 a=0:=by unfold Oh;rw [if_neg hb3,if_neg hb4]
  refine B2 (AW.region (Qp Bx (Qp (Qf Nd) (Qp Gr ?_))));refine Rt (O7 (i:=0) (H2:=_::_) tok rfl rfl rfl rfl rfl rfl rfl rfl (by simpa using hb4) rfl) ?_;refine Rk (AW.region (Qp Gw (Qp Ap (Ax ?_))));refine ⟨(p.1+1,p.2 ++ [a.name]),?_,?_,C2⟩
  . exact ⟨hlt,by rw [hR.2,A2 ha,Aaa he0]⟩
  omega
 have hd:=Fw hc2;refine AW.exit ?_;refine B1 (Ri (Aa (Qp Aq (Rb ?_))));refine Yx [Iq _] Ze S1 ?_;rw [show Ef l=0 by unfold Ef;rw [if_neg (by simpa using hc1),hR.2,hd];rfl];rfl
theorem e8c22 (a b:Ex)(hs:B3 a<=1048576):An Tryz.prog 194 [.agg (cE a),.agg (cE b)] (.bool (Ge a b)):=by
 revert b hs
 induction a using Ex.ind
 rename_i a ih;intro b hs;have hal:=Xf a hs;refine Fb 67 Tryz.func194 rfl fun H=>?_
 refine Aa (Qp Qbe (Qp Qbe (Qp Bc (Ax (B5 (Qp fM (Qp B6 (Qp fM (Qp B6 (Qp Cb (Qp Cc (Qg [] Qw wV (Qg [(12,_)] Qw B6 (Qg [] Qw wV (Qg [(14,_)] Qw B6 ?_)))))))))))))));refine Qg [(13,_),(15,_)] Yw Cb (Qp E5 (Qp Cc (Qg [] Qw Qf3 (Qg [(19,_)] Qw B6 (Qg [] Qw Qf3 (Qg [(21,_)] Qw B6 (Qg [(20,_),(22,_)] Yw Cb (Qp E5 (Qp Cc (Qg [] Qw Qf4 (Qg [(26,_)] Qw B6 (Qg [] Qw Qf4 (Qg [(28,_)] Qw B6 ?_)))))))))))));refine Qg [(27,_),(29,_)] Yw Cb (Qp E5 (Qp Cc (Qg [] Qw wW (Qg [(33,_)] Qw (Cm Yc) (Qg [] Qw wW (Qg [(35,_)] Qw (Cm Yc) (Qg [(34,_),(36,_)] Yw (Lf tok rfl rfl rfl rfl rfl) (Qp E5 (Qp Cc (Qg [] Qw oE (Qg [(40,_)] Qw Dd ?_)))))))))));refine Yh [(41,_)] Qw (fun hG=>E6 a.args.length rfl rfl (by simp)) ?_;refine Qg [] Qw oE (Qg [(43,_)] Qw Dd ?_);refine Yh [(44,_)] Qw (fun hG=>E6 b.args.length rfl rfl (by simp)) ?_;refine Qg [(42,_),(45,_)] Yw Cb (Qp E5 (Bh (fun hc1=>?_) fun hc1=>?_))
 .
  have hh:Pj a b=true:=by simpa [Pj] using hc1
  refine Aa (Qp Bc (Rc (Qr (.bool _) ?_)));rw [Py,if_pos hh];rfl
 have hh:Pj a b=false:=by simpa [Pj] using hc1
 have hlen:=eX hh;refine B2 (B5 (Qp oE (Qp Dd ?_)));refine Qp (E6 a.args.length rfl rfl (by simp)) ?_;refine Qp Ap (Ax (AW.block ?_));refine AW.Aad (fun (p:Nat)=>(⟨[(2,.ptr (cE a)),(3,.ptr (cE b)),(50,.int .i64 a.args.length),(51,.int .i64 (p:Int))],H,67⟩:St)) (fun p=>p<=a.args.length/\Ux a.args b.args=Ux (a.args.drop p) (b.args.drop p)) (fun p=>a.args.length-p) (0) ?_ C2 ?_
 . exact ⟨A9 _,rfl⟩
 rintro p hR;refine Aa (Qp Cn (Re (Hb (fun hc2=>?_) fun hc2=>?_)))
 .
  obtain ⟨x,hx⟩:=Cj hc2;have hlt:=Bz hx;have hm:=Aj hx;obtain ⟨y,hy⟩:∃y,b.args[p]? = some y:=⟨_,List.getElem?_eq_getElem (by omega)⟩;refine B2 (AW.seq (AW.block (Aa (Qp Ap (Qp Aq (Re ?_))))));refine Mo ?_;refine Qn 0 rfl oE (Qn 1 rfl Dd (Qn 2 rfl Ap ?_));refine Qn 3 rfl (Eh Ko rfl rfl (by omega) (Rr hx)) ?_;refine Qn 4 rfl Rl (Qn 5 rfl oE (Qn 6 rfl Dd (Qn 7 rfl Ap ?_)));refine Qn 8 rfl (Eh Ko rfl rfl (by omega) (Rr hy)) ?_;refine Qn 9 rfl Rl ?_;refine Qn 10 rfl (Qc rfl (ih x hm y (by have:=K1 hm;omega))) ?_;refine Qn 11 rfl Ix ?_;refine Ig ?_;refine Av (Hb (fun hc3=>Aa (Qp Bc (Ra (A7 (Dz (A7 (Qr (.bool _) ?_))))))) fun hc3=>Rf (AW.region (Qp Gw (Qp Ap (Ax ?_)))))
  . rw [Py,if_neg (by simp [hh]),hR.2,A2 hx,A2 hy];show _=AV.bool (if (!Ge x y)=true then false else _);rw [if_pos hc3];rfl
  refine ⟨p+1,?_,?_,C2⟩
  . exact ⟨hlt,by rw [hR.2,A2 hx,A2 hy,Ux];simp [hc3]⟩
  omega
 have hd:=Fw hc2;refine AW.exit ?_;refine B1 (Ri (Aa (Qp Bc (Rb ?_))));refine Qr (.bool _) ?_;rw [Py,if_neg (by simp [hh]),hR.2,hd];rfl
theorem sz_part {p a:Pt}{k:Nat}(h:p.args[k]? = some a):((p.args.take k).map Iw).sum+Iw a+1<=Iw p:=by
 rw [Lc p];have h2:=qF p.args (k+1);rw [C9 h,Dt,List.sum_append,Wy,List.sum_singleton] at h2;omega
theorem uA (a b:Nat):max (a:Int) (b:Int)=((max a b:Nat):Int):=by omega
theorem op_range {p:Pt}(h:(decide (p.op<0)||decide (11<=p.op))=false):0<=p.op/\p.op<11:=by
 rw [Eb] at h;have h1:=G3 h.1;have h2:=G3 h.2;omega
theorem X0 (u:Bool)(n m:Int):An Tryz.prog 295 [.bool u,.int .i64 n,.int .i64 m] (.bool (wth u n m)):=by
 refine Fb 18 Tryz.func295 rfl fun H=>?_
 refine Aa (Qp Bc (B7 (Qp Cc (Qp Ix (Qp Cc (Qg [] Qw Ap (Qg [(10,_)] Qw Kv (Qg [(11,_)] Qw Cc (Qg [] Qw Ap (Qg [] Qw Ap (Qg [(13,_),(14,_)] Yw Ys (Qg [(12,_),(15,_)] Qw Ju (Qp E5 (Qp Bc (Rb (Qr (.bool _) ?_))))))))))))))));rfl
theorem Ln (u:Bool)(n:Int):An Tryz.prog 296 [.bool u,.int .i64 n] (.bool (unu u n)):=by
 refine Fb 10 Tryz.func296 rfl fun H=>?_
 refine Aa (Qp Bc (B7 (Qp Cc (Qp Cc (Qg [] Qw Ap (Qg [(7,_)] Qw Bl (Qp E5 (Qp Bc (Ax (AW.ret (Qr (.bool _) ?_)))))))))));rfl
theorem rp_check (p:Pt)(hc:B3 p.cond<=1048576)(hl:p.args.length<=1048576):An Tryz.prog 254 [.agg (cPt p)] (.int .i64 (gA p)):=by
 refine Fb 113 Tryz.func254 rfl fun H=>?_
 refine Aa (Qp (Hu Fq) (Qp Aq (Ax (B5 (Qp (Qf Fq) (Qp B6 (Qp Cn (Qp Cc (Qg [] Qw (Qf Fq) (Qg [(9,_)] Qw B6 (Qg [(10,_)] Qw Kv (Qp E5 (Bh (fun hc1=>Aa (Qp Aq (Rc (Qr (Iq _) ?_)))) fun hc1=>B2 (AW.seq ?_))))))))))))))
 . exact Ye (AV.int .i64) (ck_1 hc1)
 have hop:=op_range hc1;refine (shp_at hop.1 hop.2).elim fun rest hrest=>?_
 refine AW.region (Qp (Qf Fq) (Qp B6 ?_));refine Qp (Ss (cs':=cShp (Ku p.op)++rest) tok ⟨_,by simp [globals],fun _ h=>h⟩ rfl rfl rfl rfl (hop.1) (hop.2) hrest rfl) ?_;refine Qp (Cm glx) (D5 [.int .i64 0,.int .i64 0,.bool false,.bool false,.bool false,.bool false] fun b3=>?_);refine By 0 glx (_::_) ?_;refine Kc 3 0 rfl ?_;refine Re (AW.block (Aa (Qp (Qf pG) (Qp Dd ?_))));refine Qp (E6 p.args.length rfl rfl (by simp)) ?_;refine Qp (Qf glx) (Qp B6 (Qp Cn (Qp Cc (Qg [] Qw (Qf pG) (Qg [(25,_)] Qw Dd ?_)))));refine Yh [(26,_)] Qw (fun hG=>E6 p.args.length rfl rfl (by simp)) ?_;refine Qg [] Qw (Qf [Iq _,.bool _,.bool _,.bool _,.bool _]) (Qg [(28,_)] Qw B6 (Qg [(27,_),(29,_)] Yw Gx (Qp E5 (Qp Bc (Bh (fun hc2=>Aa (Qp Aq (Ra (Qr (Iq _) ?_)))) fun hc2=>Aa (Qp (Qf gky) (Qp rB (Qp (Qf gjx) (Qp B6 ?_)))))))))
 . exact Ye (AV.int .i64) (ck_2 hc1 hc2)
 refine Qp (Qc rfl (X0 _ _ _)) (Qp Ix (Qp Cc (Qg [] Qw (Qf gky) (Qg [(40,_)] Qw rB (Qg [] Qw (Qf gix) (Qg [(42,_)] Qw B6 (Qg [(41,_),(43,_)] Yw (Qc rfl (X0 _ _ _)) (Qg [(44,_)] Qw Ix (Qp E5 (Qp Cc (Qg [] Qw (Qf [.bool _,.bool _]) (Qg [(48,_)] Qw rB (Qg [] Qw (Qf gjy) (Qg [(50,_)] Qw B6 ?_))))))))))))));refine Qg [(49,_),(51,_)] Yw (Qc rfl (X0 _ _ _)) (Qg [(52,_)] Qw Ix (Qp E5 (Qp Cc (Qg [] Qw (Qf [.bool _]) (Qg [(56,_)] Qw rB (Qg [] Qw (Qf gkz) (Qg [(58,_)] Qw B6 (Qg [(57,_),(59,_)] Yw (Qc rfl (X0 _ _ _)) (Qg [(60,_)] Qw Ix (Qp E5 (Qp Bc (Bh (fun hc3=>Aa (Qp Aq (Ra (Qr (Iq _) ?_)))) fun hc3=>?_))))))))))))
 . exact Ye (AV.int .i64) (ck_3 hc1 hc2 hc3)
 refine Rf (B5 (Qp (Qf [.bool _,.bool _,.bool _]) (Qp rB (Bh (fun hc4=>Aa (Qp fM (Qp Rl ?_))) fun hc4=>B2 (B5 (Qp (Qf [.bool _,.bool _,.bool _]) (Qp rB (Qp Ix (Qp Cc (Qg [] Qw fM (Qg [(75,_)] Qw Rl (Qg [] Qw (Fj Ko) ?_))))))))))))
 .
  refine Qp (Qc rfl (e8c21 p.cond hc)) (Qp Aq (B7 (Qp Ap (Qp Cb (Bh (fun hc5=>Aa (Qp Ap (Qp Aq (Rc (Qr (Iq _) ?_))))) fun hc5=>B2 (B5 (Qp (Qf [.bool _,.bool _,.bool _]) (Qp rB (Qp Ix (Qp Cc (Qg [] Qw fM (Qg [(75,_)] Qw Rl (Qg [] Qw (Fj Ko) ?_)))))))))))))
  . exact Ye (AV.int .i64) (ck_4 hc1 hc2 hc3 hc4 hc5)
  refine Qg [(76,_),(77,_)] Yw (Qc rfl (e8c22 p.cond rC hc)) (Qg [(78,_)] Qw Ix (Qp Ju (Qp Cc (Qg [] Qw (Qf gky) (Qg [(82,_)] Qw rB (Qg [] Qw (Qf gjx) (Qg [(84,_)] Qw B6 (Qg [(83,_),(85,_)] Yw (Qc rfl (Ln _ _)) ?_))))))));refine Qg [(86,_)] Qw Ix (Qp E5 (Qp Cc (Qg [] Qw (Qf gky) (Qg [(90,_)] Qw rB (Qg [] Qw (Qf gix) (Qg [(92,_)] Qw B6 (Qg [(91,_),(93,_)] Yw (Qc rfl (Ln _ _)) (Qg [(94,_)] Qw Ix (Qp E5 (Qp Cc (Qg [] Qw (Qf [.bool _,.bool _]) (Qg [(98,_)] Qw rB (Qg [] Qw (Qf gjy) (Qg [(100,_)] Qw B6 ?_))))))))))))));refine Qg [(99,_),(101,_)] Yw (Qc rfl (Ln _ _)) (Qg [(102,_)] Qw Ix (Qp E5 (Qp Cc (Qg [] Qw (Qf [.bool _]) (Qg [(106,_)] Qw rB (Qg [] Qw (Qf gkz) (Qg [(108,_)] Qw B6 (Qg [(107,_),(109,_)] Yw (Qc rfl (Ln _ _)) (Qg [(110,_)] Qw Ix (Qp E5 (Bh (fun hc6=>Aa (Qp Aq (Rc (Qr (Iq _) ?_)))) fun hc6=>B2 (Aa (Qp Aq (Rb (Qr (Iq _) ?_)))))))))))))))
  . exact Ye (AV.int .i64) ((ck_n hc1 hc2 hc3 (by rw [hc5];simp)).trans (if_pos hc6))
  exact Ye (AV.int .i64) ((ck_n hc1 hc2 hc3 (by rw [hc5];simp)).trans (Bo hc6))
 refine Qg [(76,_),(77,_)] Yw (Qc rfl (e8c22 p.cond rC hc)) (Qg [(78,_)] Qw Ix (Qp Ju (Qp Cc (Qg [] Qw (Qf gky) (Qg [(82,_)] Qw rB (Qg [] Qw (Qf gjx) (Qg [(84,_)] Qw B6 (Qg [(83,_),(85,_)] Yw (Qc rfl (Ln _ _)) ?_))))))));refine Qg [(86,_)] Qw Ix (Qp E5 (Qp Cc (Qg [] Qw (Qf gky) (Qg [(90,_)] Qw rB (Qg [] Qw (Qf gix) (Qg [(92,_)] Qw B6 (Qg [(91,_),(93,_)] Yw (Qc rfl (Ln _ _)) (Qg [(94,_)] Qw Ix (Qp E5 (Qp Cc (Qg [] Qw (Qf [.bool _,.bool _]) (Qg [(98,_)] Qw rB (Qg [] Qw (Qf gjy) (Qg [(100,_)] Qw B6 ?_))))))))))))));refine Qg [(99,_),(101,_)] Yw (Qc rfl (Ln _ _)) (Qg [(102,_)] Qw Ix (Qp E5 (Qp Cc (Qg [] Qw (Qf [.bool _]) (Qg [(106,_)] Qw rB (Qg [] Qw (Qf gkz) (Qg [(108,_)] Qw B6 (Qg [(107,_),(109,_)] Yw (Qc rfl (Ln _ _)) (Qg [(110,_)] Qw Ix (Qp E5 (Bh (fun hc7=>Aa (Qp Aq (Rc (Qr (Iq _) ?_)))) fun hc7=>B2 (Aa (Qp Aq (Rb (Qr (Iq _) ?_)))))))))))))))
 . exact Ye (AV.int .i64) ((ck_n hc1 hc2 hc3 (by rw [hc4];rfl)).trans (if_pos hc7))
 exact Ye (AV.int .i64) ((ck_n hc1 hc2 hc3 (by rw [hc4];rfl)).trans (Bo hc7))
theorem rp_Size (p:Pt)(hp:Iw p<=1048576):An Tryz.prog 253 [.agg (cPt p)] (.tuple [.int .i64 (Iw p:Nat),.int .i64 (mJ p:Nat)]):=by
 induction p using Pt.ind
 rename_i p ih;have hal:=N4 p;refine Fb 32 Tryz.func253 rfl fun H=>?_
 refine Aa (Qp (Hu Fq) (Qp Aq (Qp Aq (B7 (Qp Aq (Qp Aq (Ax (B5 (Qp (Qf pG) (Qp Dd ?_))))))))));refine Qp (E6 p.args.length rfl rfl (by simp)) ?_;refine Qp Ap (Ax (AW.block ?_));refine AW.Aad (fun (q:Nat×Nat×Nat)=>(⟨[(4,.int .i64 (q.2.1:Int)),(5,.int .i64 (q.2.2:Int)),(11,.sl 14 (p.args.map Oq)),(12,.int .i64 p.args.length),(13,.int .i64 (q.1:Int))],H,32⟩:St)) (fun q=>q.1<=p.args.length/\q.2.1=1+((p.args.take q.1).map Iw).sum/\q.2.2=Y1 (p.args.take q.1)) (fun q=>p.args.length-q.1) ((0,1,0)) ?_ C2 ?_
 . exact ⟨A9 _,rfl,by rw [Wu,Y1]⟩
 rintro q hR;refine Aa (Qp Cn (Re (Hb (fun hc1=>?_) fun hc1=>?_)))
 .
  obtain ⟨a,ha⟩:=Cj hc1;have hlt:=Bz ha;have hm:=Aj ha;have hsm:=Mb hm;have hps:=sz_part (p:=p) ha;have hq1:=hR.2.1;refine B2 (AW.seq (AW.block (Aa ?_)));refine Qp (Eh Fq rfl rfl (by omega) (Vw ha)) ?_;refine Qp (Cm Fq) (D5 ghx fun b7=>?_);refine By 0 Fq (_::_) ?_;refine Kc 7 0 rfl ?_;refine B7 (Qp (Cm Fq) ?_);refine Qp (Qc rfl (ih a hm (by have:=Mb hm;omega))) ?_;refine Qp Oz (Qp Lv (Qp Lv (Qp Aq (Qp Aq (Ax (AW.region (Qp Ap (Qp Ap (Qp Gw (Qp Ap (Qp Ap (Qp (lV rfl rfl) (Qp Aq (Qp Aq (Rk (AW.region (Qp Gw (Qp Ap (Ax ?_)))))))))))))))))));refine ⟨(q.1+1,q.2.1+Iw a,max q.2.2 (mJ a)),?_,?_,GS.weaken ⟨rfl,congrArg (AV.int .i64) (uA q.2.2 (mJ a)),rfl,rfl,rfl,trivial⟩ (.refl _)⟩
  . exact ⟨hlt,by simp only;rw [C9 ha,hR.2.1];simp;omega,by simp only;rw [C9 ha,bV,hR.2.2]⟩
  simp only;omega
 have hte:=Ds hc1;have h1:=hR.2.1;have h2:=hR.2.2;rw [hte] at h1 h2;have hdp:=dp_le p;have hde:=iG p;refine AW.exit ?_;refine B1 (Ri (Aa (Qp Ap (Qp Ap (Qp Gw (Qp Aq (Qp Aq ?_)))))));refine Rb (O0 (Iq _) (Iq _) ?_);exact Eq.trans rfl (congrArg (fun q:Nat×Nat=>AV.tuple [.int .i64 (q.1:Int),.int .i64 (q.2:Int)]) (show (q.2.1,q.2.2+1)=(Iw p,mJ p) by rw [h1,h2,Lc,iG];simp;omega))
theorem rp_walk (S:Type)(live:S->Bool)(step:S->Pt->S)(Nz:S->Nat->Prop)(hmo:∀s n m,Nz s n->m<=n->Nz s m)(hgo:∀s q n,Nz s (n+1)->Nz (step s q) n)(Q:Pt->Prop)(HH:S->List HO)(l:Nat)(rec:Loop)(hrec:rec.params.size=1)(hobj:∀s,live s=true->∃i:Nat,(HH s)[i]? = some (HO.obj l (Obj.loop rec)))(hY:∀s q n,live s=true->Q q->Nz s (n+1)->Tp Tryz.prog l rec (HH s) [.agg (cPt q)] (fun r H'=>r = .bool (live (step s q))/\H'=HH (step s q)))(p:Pt)(hp:Iw p<=1048576)(hq:∀q∈F2 p,Q q)(s:S)(m:Nat)(hs:live s=true)(hg:Nz s (Iw p+m)):Cf Tryz.prog 188 (HH s) [.agg (cPt p),.val (.func (.yield l) #[] #[])] (fun r H'=>r = .bool (live (Vh live step s (F2 p)))/\H'=HH (Vh live step s (F2 p))):=by
 revert m
 revert s
 induction p using Pt.ind
 rename_i p ih;intro s hs m hg;have hal:=N4 p;refine Jg 23 Tryz.func188 rfl ?_;refine Aa (Qp (Hu Fq) (Qp Bc (Re (AW.seq ?_))));refine AW.regionYk 2 rfl (by kernel_rfl) (by kernel_rfl) ?_;refine Qp Bx (Qp (Cm Fq) (AOL.nil ?_));have hg1:Nz s (Iw p-1+m+1):=by rw [show Iw p-1+m+1=Iw p+m by omega];exact hg
 refine ⟨l,rec,_,hobj s hs,rfl,hrec.symm,rfl,hY s p (Iw p-1+m) hs (hq p (Rv p)) hg1,?_⟩;rintro _ _ ⟨rfl,rfl⟩;refine Qp Ix (Bh (fun hc1=>Aa (Qp Bc (Rc ?_))) fun hc1=>B2 (B5 (Qp (Qf pG) (Qp Dd ?_))))
 .
  refine ⟨.inr rfl,[.bool _],Ze,_,S0,?_⟩;have hx:=goY_stop live step hs (show live (step s p)=false by simpa using hc1);exact ⟨congrArg AV.bool (by rw [hx];simpa using hc1:false=live _),congrArg HH hx.symm⟩
 refine Qp (E6 p.args.length rfl rfl (by simp)) ?_;refine Qp Ap (Ax (AW.block ?_));have hg2:Nz (Vh live step (step s p) ((p.args.take 0).flatMap F2)) (((p.args.drop 0).map Iw).sum+m):=by have h:=hgo s p (Iw p-1+m) hg1;rw [show Iw p-1=(p.args.map Iw).sum by rw [Lc];rfl] at h;exact h
 refine AW.Aad (fun (k:Nat)=>(⟨[(1,.val (.func (.yield l) #[] #[])),(12,.sl 14 (p.args.map Oq)),(13,.int .i64 p.args.length),(14,.int .i64 (k:Int))],HH (Vh live step (step s p) ((p.args.take k).flatMap F2)),23⟩:St)) (fun k=>k<=p.args.length/\live (Vh live step (step s p) ((p.args.take k).flatMap F2))=true/\Nz (Vh live step (step s p) ((p.args.take k).flatMap F2)) (((p.args.drop k).map Iw).sum+m)) (fun k=>p.args.length-k) (0) ?_ C2 ?_
 . exact ⟨A9 _,by simpa [Vh] using hc1,hg2⟩
 rintro k hR;refine Aa (Qp Cn (Re (Hb (fun hc2=>?_) fun hc2=>?_)))
 .
  obtain ⟨a,ha⟩:=Cj hc2;have hlt:=Bz ha;have hm:=Aj ha;refine B2 (AW.seq (AW.block (Aa ?_)));refine Qp (Eh Fq rfl rfl (by omega) (Vw ha)) ?_;refine Qp (Cm Fq) (D5 ghx fun b6=>?_);refine By 0 Fq (_::_) ?_;refine Kc 6 0 rfl ?_;refine B7 (Qp (Cm Fq) (Qp Bx ?_));refine Rt (Dq rfl (ih a hm (by have:=Mb hm;omega) (fun q h=>hq q (jR hm h)) _ hR.2.1 (((p.args.drop (k+1)).map Iw).sum+m) (by have h:=hR.2.2;rw [A2 ha,Ao,Ew,Qq] at h;exact h))) ?_;refine Qp Ix (Bh (fun hc3=>Aa (Qp Bc (Ra (A7 (Dz (A7 ?_)))))) fun hc3=>Rf (AW.region (Qp Gw (Qp Ap (Ax ?_)))))
  .
   refine ⟨.inr rfl,[.bool _],Ze,_,S0,?_⟩;have hd:live (Vh live step (step s p) ((p.args.take (k+1)).flatMap F2))=false:=by rw [iZ live step ha];simpa using hc3
   have hx:=(xZ live step hs p).trans (goY_cut live step ha hd);exact ⟨congrArg AV.bool (by rw [hx,hd]:false=live _),congrArg HH ((iZ live step ha).symm.trans hx.symm)⟩
  refine ⟨k+1,?_,?_,GS.trans (GS.heq (congrArg HH (iZ live step ha).symm)) C2⟩
  . exact ⟨hlt,by rw [iZ live step ha];simpa using hc3,by rw [iZ live step ha];exact nC live step hmo hgo (F2 a) _ _ (by have h:=hR.2.2;rw [A2 ha,Ao,Ew,Qq,<-jQ] at h;exact h)⟩
  omega
 have hte:=Ds hc2;refine AW.exit ?_;refine B1 (Ri (Aa (Qp Bc (Rb ?_))));refine ⟨.inr rfl,[.bool _],Ze,_,S0,?_⟩;have hx:=xZ live step hs p;have h9:=hR.2.1;rw [hte] at h9;exact ⟨congrArg AV.bool (by rw [hx,h9]:true=live _),congrArg HH ((congrArg (fun L:List Pt=>Vh live step (step s p) (L.flatMap F2)) hte).trans hx.symm)⟩
theorem zH (p:Pt):An Tryz.prog 115 [.agg (cPt p)] (.fn (.func 187) [] [.ptr (cPt p)]):=by
 refine Fb 4 Tryz.func115 rfl fun H=>?_
 refine Aa (Qp (Hu Fq) (Qp Sa (B7 (Qp (B9 (l:=[]) (l':=[.ptr _]) rfl rfl) (Qp (Ba (v:=.fn _ _ _) rfl) (Rb (Qr (.fn _ _ _) ?_)))))));rfl
theorem qI (S:Type)(live:S->Bool)(step:S->Pt->S)(Nz:S->Nat->Prop)(hmo:∀s n m,Nz s n->m<=n->Nz s m)(hgo:∀s q n,Nz s (n+1)->Nz (step s q) n)(Q:Pt->Prop)(HH:S->List HO)(l:Nat)(rec:Loop)(hrec:rec.params.size=1)(hobj:∀s,live s=true->∃i:Nat,(HH s)[i]? = some (HO.obj l (Obj.loop rec)))(hY:∀s q n,live s=true->Q q->Nz s (n+1)->Tp Tryz.prog l rec (HH s) [.agg (cPt q)] (fun r H'=>r = .bool (live (step s q))/\H'=HH (step s q)))(p:Pt)(hp:Iw p<=1048576)(hq:∀q∈F2 p,Q q)(s:S)(m:Nat)(hs:live s=true)(hg:Nz s (Iw p+m)):Cf Tryz.prog 187 (HH s) [.val (.func (.yield l) #[] #[]),.ptr (cPt p)] (fun r H'=>r = .tuple []/\H'=HH (Vh live step s (F2 p))):=by
 refine Jg 6 Tryz.func187 rfl ?_;refine AW.region (Qp (Cm Fq) (Qp Bx (wX (rp_walk S live step Nz hmo hgo Q HH l rec hrec hobj hY p hp hq s m hs hg) (AOL.nil ?_))));refine ⟨.inl rfl,[],.nil,_,.refl _,?_⟩;exact ⟨rfl,rfl⟩
theorem rp_restA (p:Pt)(hp:medP p)(H:List HO):Cf Tryz.prog 186 H [.agg (cPt p)] (fun r H'=>r = .int .i64 (Px p)/\H'=H):=by
 refine Cf.bodyX (n:=24) tok Tryz.func186 rfl rfl rfl ?_;refine AWX.seq ?_;refine AW.region (Qp (Hu Fq) (D5 [.int .i64 0] fun b2=>Ax ?_));refine AWX.seq ?_;refine AW.region (Qp (Cm Fq) (Qp (Qc rfl (rp_Size p hp.n)) (Qp Oz (Qp Lv (Qp Lv (Qp Aq (Qp Aq (Ax ?_))))))));refine AWX.seq ?_;refine Aa (Qp Ap (Qp Gx (Bh (fun hc1=>Aa ?_) fun hc1=>B2 ?_)))
 .
  refine By 0 [Iq _] (_::_) (Rc ?_);refine ⟨.inr rfl,[Iq _],.cons (.boxs _ _ _ 0 _ _ _ rfl _ rfl rfl rfl) <| .nil,_,S1,?_⟩;exact ⟨congrArg (AV.int .i64) (rst_1 hc1).symm,rfl⟩
 refine AWX.seq ?_;refine Aa (Qp Ap (Qp Gx (Bh (fun hc2=>Aa ?_) fun hc2=>B2 ?_)))
 .
  refine By 0 [Iq _] (_::_) (Rc ?_);refine ⟨.inr rfl,[Iq _],.cons (.boxs _ _ _ 0 _ _ _ rfl _ rfl rfl rfl) <| .nil,_,S1,?_⟩;exact ⟨congrArg (AV.int .i64) (rst_2 hc1 hc2).symm,rfl⟩
 refine AWX.assoc ?_;refine AW.region (Qp (Cm Fq) (Qp (Qc rfl (zH p)) (Ax ?_)));refine AWX.rangeE tok (fun H2=>Da gA (F2 p)=0/\H2 = .box b2 41 [.int .i64 0]::H) (fun H2=>Da gA (F2 p)≠0/\H2 = .box b2 41 [.int .i64 (Da gA (F2 p))]::H) rfl (by kernel_rfl) (fun rec D l hst hpe hps has hbo hsz htm=>?_) (fun D H2 hZ=>?_) (fun D H2 hY=>?_)
 .
  refine Cf.post (qI Int (fun e=>e==0) (fun _ q=>gA q) (fun _ _=>True) (fun _ _ _ _ _=>trivial) (fun _ _ _ _=>trivial) (fun q=>B3 q.cond<=1048576/\q.args.length<=1048576) (fun e:Int=>(.obj l (.loop (if (e==0)=true then rec else { rec with state:=.done,pending:=some .ret })) :: .obj D (.deferred (some [])) :: .box b2 41 [.int .i64 e]::H:List HO)) l rec (by rw [hps];rfl) (fun e he=>⟨0,by show some (HO.obj l (.loop (if (e==0)=true then rec else { rec with state:=.done,pending:=some .ret })))=_;rw [if_pos he]⟩) (fun e q n he hq _=>?_) p hp.n (hp.len) 0 0 rfl trivial) ?_
  .
   obtain rfl:e=0:=by simpa using he
   show Tp _ l rec (.obj l (.loop rec) :: .obj D (.deferred (some [])) :: .box b2 41 [.int .i64 0]::H) _ _;refine Tp.ofE2 ((18,.agg (cPt q)) :: [(2,Value.pointer (some ⟨b2,0,none⟩))].map fun p=>(p.1,.val p.2)) hst hpe hsz (by rw [hps];exact par1 hsz rfl ⟨htm 2 _ rfl,trivial⟩) has hbo ?_;refine wY.region (by kernel_rfl) ?_;refine D5 ghx fun b5=>?_
   refine By 0 Fq (_::_::_::_::_) ?_;refine Kc 5 0 rfl ?_;refine AOL.nil ?_;refine ⟨rfl,0,rfl,?_⟩;refine wY.block ?_;refine wY.seq ?_;refine wY.region (by kernel_rfl) ?_;refine Qp (Cm Fq) (Qp (Qc rfl (rp_check q hq.1 hq.2)) (Qp Aq (Ax ?_)));refine wY.seq ?_;refine wY.region (by kernel_rfl) ?_;refine Qp Ap (Qp Cb (Ax ?_));refine wY.cond (b:=_) rfl (fun hc3=>?_) (fun hc3=>?_)
   .
    refine wY.seq ?_;refine wY.region (by kernel_rfl) ?_;refine Qp Ap ?_;refine By 2 [Iq _] (_::_::_::_) (Ax ?_);refine wY.ret ?_;refine Dz ?_;have h0:(gA q==0)=false:=by simpa using hc3
    have hH:(fun e:Int=>(.obj l (.loop (if (e==0)=true then rec else { rec with state:=.done,pending:=some .ret })) :: .obj D (.deferred (some [])) :: .box b2 41 [.int .i64 e]::H:List HO)) (gA q)=(.obj l (.loop { rec with state:=.done,pending:=some .ret }) :: .obj D (.deferred (some [])) :: .box b2 41 [.int .i64 (gA q)]::H:List HO):=Eq.trans (congrArg (fun r:Loop=>(.obj l (.loop r) :: .obj D (.deferred (some [])) :: .box b2 41 [.int .i64 (gA q)]::H:List HO)) (if_neg (by rw [h0];decide))) (congrArg (fun v:Int=>(.obj l (.loop { rec with state:=.done,pending:=some .ret }) :: .obj D (.deferred (some [])) :: .box b2 41 [.int .i64 v]::H:List HO)) (rfl));exact ⟨0,rfl,Or.inr ⟨rfl,congrArg AV.bool h0.symm,hH.symm⟩⟩
   refine wY.skip ?_;refine J1 ?_;have h0:gA q=0:=by simpa using hc3
   exact ⟨0,rfl,Or.inl ⟨rfl,congrArg AV.bool (by rw [h0];rfl),congrArg (fun e:Int=>(.obj l (.loop (if (e==0)=true then rec else { rec with state:=.done,pending:=some .ret })) :: .obj D (.deferred (some [])) :: .box b2 41 [.int .i64 e]::H:List HO)) h0.symm⟩⟩
  rintro r K ⟨rfl,rfl⟩;have hfin:=cH gA (F2 p);by_cases h0:Da gA (F2 p)=0
  . exact ⟨_,List.Perm.refl _,rec,_,congrArg (fun e:Int=>(.obj l (.loop (if (e==0)=true then rec else { rec with state:=.done,pending:=some .ret })) :: .obj D (.deferred (some [])) :: .box b2 41 [.int .i64 e]::H:List HO)) (hfin.trans h0),by rw [hst];decide,Or.inl ⟨hpe,h0,rfl⟩⟩
  exact ⟨_,List.Perm.refl _,{ rec with state:=.done,pending:=some .ret },.box b2 41 [.int .i64 (Da gA (F2 p))]::H,(congrArg (fun e:Int=>(.obj l (.loop (if (e==0)=true then rec else { rec with state:=.done,pending:=some .ret })) :: .obj D (.deferred (some [])) :: .box b2 41 [.int .i64 e]::H:List HO)) hfin).trans (congrArg (fun r:Loop=>(.obj l (.loop r) :: .obj D (.deferred (some [])) :: .box b2 41 [.int .i64 (Da gA (F2 p))]::H:List HO)) (if_neg (by simpa using h0))),(fun h=>LoopState.noConfusion h),Or.inr ⟨rfl,h0,rfl⟩⟩
 .
  obtain ⟨h0,rfl⟩:=hZ;refine Tail.region ?_;refine By 1 [Iq _] (_::_::_) (AOL.nil ?_);exact ⟨0,rfl,[_],.cons (.boxs _ _ _ 1 _ _ _ rfl _ rfl rfl rfl) .nil,H,.cons _ (.cons _ (.refl _)),congrArg (AV.int .i64) (((rst_3 hc1 hc2).trans h0).symm),rfl⟩
 obtain ⟨h0,rfl⟩:=hY;exact ⟨_,GS.refl _,0,rfl,[_],.cons (.boxs _ _ _ 1 _ _ _ rfl _ rfl rfl rfl) .nil,H,.cons _ (.cons _ (.refl _)),congrArg (AV.int .i64) ((rst_3 hc1 hc2).symm),rfl⟩
theorem rp_rest (p:Pt)(hp:medP p):An Tryz.prog 186 [.agg (cPt p)] (.int .i64 (Px p)):=fun H=>rp_restA p hp H
theorem rp_wholeA (p:Pt)(hp:medP p)(H:List HO):Cf Tryz.prog 114 H [.agg (cPt p)] (fun r H'=>r = .int .i64 (Tm p)/\H'=H):=by
 refine Cf.bodyX (n:=16) tok Tryz.func114 rfl rfl rfl ?_;refine AWX.seq ?_;refine AW.region (Qp (Hu Fq) (D5 [.int .i64 0] fun b2=>Ax ?_));refine AWX.seq ?_;refine Aa (Qp (Cm Fq) (Qp (Qc rfl (rp_rest p hp)) (Qp Aq (B7 (Qp Ap (Qp Cb (Bh (fun hc1=>Aa (Qp Ap ?_)) fun hc1=>B2 ?_)))))))
 .
  refine By 0 [Iq _] (_::_) (Rc ?_);refine ⟨.inr rfl,[Iq _],.cons (.boxs _ _ _ 0 _ _ _ rfl _ rfl rfl rfl) <| .nil,_,S1,?_⟩;exact ⟨congrArg (AV.int .i64) (whl_1 hc1).symm,rfl⟩
 refine AWX.assoc ?_;refine AW.region (Qp (Cm Fq) (Qp (Qc rfl (zH p)) (Ax ?_)));refine AWX.rangeE tok (fun H2=>Da rG (F2 p)=0/\H2 = .box b2 41 [.int .i64 0]::H) (fun H2=>Da rG (F2 p)≠0/\H2 = .box b2 41 [.int .i64 (Da rG (F2 p))]::H) rfl (by kernel_rfl) (fun rec D l hst hpe hps has hbo hsz htm=>?_) (fun D H2 hZ=>?_) (fun D H2 hY=>?_)
 .
  refine Cf.post (qI Int (fun e=>e==0) (fun _ q=>rG q) (fun _ _=>True) (fun _ _ _ _ _=>trivial) (fun _ _ _ _=>trivial) (fun q=>True) (fun e:Int=>(.obj l (.loop (if (e==0)=true then rec else { rec with state:=.done,pending:=some .ret })) :: .obj D (.deferred (some [])) :: .box b2 41 [.int .i64 e]::H:List HO)) l rec (by rw [hps];rfl) (fun e he=>⟨0,by show some (HO.obj l (.loop (if (e==0)=true then rec else { rec with state:=.done,pending:=some .ret })))=_;rw [if_pos he]⟩) (fun e q n he hq _=>?_) p hp.n (fun _ _=>trivial) 0 0 rfl trivial) ?_
  .
   obtain rfl:e=0:=by simpa using he
   show Tp _ l rec (.obj l (.loop rec) :: .obj D (.deferred (some [])) :: .box b2 41 [.int .i64 0]::H) _ _;refine Tp.ofE2 ((12,.agg (cPt q)) :: [(2,Value.pointer (some ⟨b2,0,none⟩))].map fun p=>(p.1,.val p.2)) hst hpe hsz (by rw [hps];exact par1 hsz rfl ⟨htm 2 _ rfl,trivial⟩) has hbo ?_;refine wY.region (by kernel_rfl) ?_;refine D5 ghx fun b4=>?_
   refine By 0 Fq (_::_::_::_::_) ?_;refine Kc 4 0 rfl ?_;refine AOL.nil ?_;refine ⟨rfl,0,rfl,?_⟩;refine wY.block ?_;refine wY.seq ?_;refine wY.region (by kernel_rfl) ?_;refine Qp (Qf Fq) (Qp B6 (Qp Kv (Ax ?_)));refine wY.cond (b:=_) rfl (fun hc2=>?_) (fun hc2=>?_)
   .
    refine wY.seq ?_;refine wY.region (by kernel_rfl) ?_;refine By 2 [Iq _] (_::_::_::_) (Ax ?_);refine wY.ret ?_;refine Dz ?_;have h0:(rG q==0)=false:=by rw [show rG q=1 from if_pos hc2];rfl
    have hH:(fun e:Int=>(.obj l (.loop (if (e==0)=true then rec else { rec with state:=.done,pending:=some .ret })) :: .obj D (.deferred (some [])) :: .box b2 41 [.int .i64 e]::H:List HO)) (rG q)=(.obj l (.loop { rec with state:=.done,pending:=some .ret }) :: .obj D (.deferred (some [])) :: .box b2 41 [.int .i64 (1)]::H:List HO):=Eq.trans (congrArg (fun r:Loop=>(.obj l (.loop r) :: .obj D (.deferred (some [])) :: .box b2 41 [.int .i64 (rG q)]::H:List HO)) (if_neg (by rw [h0];decide))) (congrArg (fun v:Int=>(.obj l (.loop { rec with state:=.done,pending:=some .ret }) :: .obj D (.deferred (some [])) :: .box b2 41 [.int .i64 v]::H:List HO)) ((if_pos hc2:rG q=1)));exact ⟨0,rfl,Or.inr ⟨rfl,congrArg AV.bool h0.symm,hH.symm⟩⟩
   refine wY.skip ?_;refine J1 ?_;have h0:rG q=0:=Bo hc2;exact ⟨0,rfl,Or.inl ⟨rfl,congrArg AV.bool (by rw [h0];rfl),congrArg (fun e:Int=>(.obj l (.loop (if (e==0)=true then rec else { rec with state:=.done,pending:=some .ret })) :: .obj D (.deferred (some [])) :: .box b2 41 [.int .i64 e]::H:List HO)) h0.symm⟩⟩
  rintro r K ⟨rfl,rfl⟩;have hfin:=cH rG (F2 p);by_cases h0:Da rG (F2 p)=0
  . exact ⟨_,List.Perm.refl _,rec,_,congrArg (fun e:Int=>(.obj l (.loop (if (e==0)=true then rec else { rec with state:=.done,pending:=some .ret })) :: .obj D (.deferred (some [])) :: .box b2 41 [.int .i64 e]::H:List HO)) (hfin.trans h0),by rw [hst];decide,Or.inl ⟨hpe,h0,rfl⟩⟩
  exact ⟨_,List.Perm.refl _,{ rec with state:=.done,pending:=some .ret },.box b2 41 [.int .i64 (Da rG (F2 p))]::H,(congrArg (fun e:Int=>(.obj l (.loop (if (e==0)=true then rec else { rec with state:=.done,pending:=some .ret })) :: .obj D (.deferred (some [])) :: .box b2 41 [.int .i64 e]::H:List HO)) hfin).trans (congrArg (fun r:Loop=>(.obj l (.loop r) :: .obj D (.deferred (some [])) :: .box b2 41 [.int .i64 (Da rG (F2 p))]::H:List HO)) (if_neg (by simpa using h0))),(fun h=>LoopState.noConfusion h),Or.inr ⟨rfl,h0,rfl⟩⟩
 .
  obtain ⟨h0,rfl⟩:=hZ;refine Tail.region ?_;refine By 1 [Iq _] (_::_::_) (AOL.nil ?_);exact ⟨0,rfl,[_],.cons (.boxs _ _ _ 1 _ _ _ rfl _ rfl rfl rfl) .nil,H,.cons _ (.cons _ (.refl _)),congrArg (AV.int .i64) (((whl_2 hc1).trans h0).symm),rfl⟩
 obtain ⟨h0,rfl⟩:=hY;exact ⟨_,GS.refl _,0,rfl,[_],.cons (.boxs _ _ _ 1 _ _ _ rfl _ rfl rfl rfl) .nil,H,.cons _ (.cons _ (.refl _)),congrArg (AV.int .i64) ((whl_2 hc1).symm),rfl⟩
theorem rp_whole (p:Pt)(hp:medP p):An Tryz.prog 114 [.agg (cPt p)] (.int .i64 (Tm p)):=fun H=>rp_wholeA p hp H
theorem rp_countA (p:Pt)(hp:medP p)(ho:∀q∈F2 p,opOK q)(H:List HO):Cf Tryz.prog 65 H [.agg (cPt p)] (fun r H'=>r = .tuple [.int .i64 (Pf p).vars,.int .i64 (Pf p).scopes,.bool (Pf p).ok]/\H'=H):=by
 refine Cf.bodyX (n:=42) tok Tryz.func65 rfl rfl rfl ?_;refine AWX.seq ?_;refine AW.region (Qp (Hu Fq) (Qp Aq (Qp Aq (Qp Bc (Ax ?_)))));refine AWX.seq ?_;refine AW.region (D5 [.int .i64 0] fun b5=>D5 [.int .i64 0] fun b6=>D5 [.bool false] fun b7=>?_);refine By 2 [Iq _] (_::_::_::_) ?_;refine By 1 [Iq _] (_::_::_::_) ?_;refine By 0 [.bool _] (_::_::_::_) (Ax ?_);refine AWX.assoc ?_;refine AW.region (Qp (Cm Fq) (Qp (Qc rfl (zH p)) (Ax ?_)));refine AWX.rangeE tok (fun H2=>H2 = .box b7 4 [.bool (Pf p).ok] :: .box b6 3 [.int .i64 (Pf p).scopes] :: .box b5 3 [.int .i64 (Pf p).vars]::H) (fun H2=>False) rfl (by kernel_rfl) (fun rec D l hst hpe hps has hbo hsz htm=>?_) (fun D H2 hZ=>?_) (fun D H2 hY=>hY.elim)
 .
  refine Cf.post (qI Cnt (fun _=>true) K2 mC cnt_mono cnt_step opOK (fun c:Cnt=>(.obj l (.loop rec) :: .obj D (.deferred (some [])) :: .box b7 4 [.bool c.ok] :: .box b6 3 [.int .i64 c.scopes] :: .box b5 3 [.int .i64 c.vars]::H:List HO)) l rec (by rw [hps];rfl) (fun e he=>⟨0,rfl⟩) (fun c q n he hq hc=>?_) p hp.n ho ⟨0,0,true⟩ 0 rfl (by have:=hp.n;exact ⟨Ic _,Ic _,by simp only;omega,by simp only;omega⟩)) ?_
  .
   show Tp _ l rec (.obj l (.loop rec) :: .obj D (.deferred (some [])) :: .box b7 4 [.bool c.ok] :: .box b6 3 [.int .i64 c.scopes] :: .box b5 3 [.int .i64 c.vars]::H) _ _;refine Tp.ofE2 ((12,.agg (cPt q)) :: [(5,Value.pointer (some ⟨b5,0,none⟩)),(6,Value.pointer (some ⟨b6,0,none⟩)),(7,Value.pointer (some ⟨b7,0,none⟩))].map fun p=>(p.1,.val p.2)) hst hpe hsz (by rw [hps];exact par1 hsz rfl ⟨htm 5 _ rfl,htm 6 _ rfl,htm 7 _ rfl,trivial⟩) has hbo ?_;obtain ⟨hv0,hs0,hv1,hs1⟩:=hc;refine (shp_at hq.1 hq.2).elim fun rest hrest=>?_
   refine wY.region (by kernel_rfl) ?_;refine D5 ghx fun b8=>?_
   refine By 0 Fq (_::_::_::_::_::_::_) ?_;refine Kc 8 0 rfl ?_;refine AOL.nil ?_;refine ⟨rfl,0,rfl,?_⟩;refine wY.block ?_;refine wY.seq ?_;refine wY.region (by kernel_rfl) ?_;refine Qp (Qf Fq) (Qp B6 ?_);refine Qp (Ss (cs':=cShp (Ku q.op)++rest) tok ⟨_,by simp [globals],fun _ h=>h⟩ rfl rfl rfl rfl (hq.1) (hq.2) hrest rfl) ?_;refine Qp (Cm glx) (D5 [.int .i64 0,.int .i64 0,.bool false,.bool false,.bool false,.bool false] fun b9=>?_);refine By 0 glx (_::_::_::_::_::_::_) ?_;refine Kc 9 0 rfl ?_;refine Ax ?_;refine wY.seq ?_;refine wY.seq ?_;refine wY.region (by kernel_rfl) ?_;refine Qp (Qf gky) (Qp rB (Ax ?_));refine wY.cond (b:=_) rfl (fun hc1=>?_) (fun hc1=>?_)
   .
    refine wY.seq ?_;refine wY.region (by kernel_rfl) ?_;refine Sw 2 (.bool _) rfl (Qp Cc (Qg [] Qw (Qf gix) (Qg [(21,_)] Qw B6 (AOL.gk (y:=Iq _) _ [] rfl (gT.all trivial) (fun hG=>Cr (k:=4) (c:=Iq _) tok rfl rfl rfl rfl) rfl rfl ?_))));refine Qg [(22,_),(23,_)] Yw Bl (Qp Ju ?_);refine By 2 [.bool _] (_::_::_::_::_::_) (Ax ?_);refine wY.region (by kernel_rfl) ?_;refine Sw 4 (Iq _) rfl (Qp Gw ?_);refine By 4 [Iq _] (_::_::_::_::_::_) (Ax ?_);refine wY.seq ?_;refine wY.region (by kernel_rfl) ?_;refine Qp (Qf [.bool _,.bool _]) (Qp rB (Ax ?_));refine wY.cond (b:=_) rfl (fun hc2=>?_) (fun hc2=>?_)
    .
     refine wY.seq ?_;refine wY.region (by kernel_rfl) ?_;refine Sw 2 (.bool _) rfl (Qp Cc (Qg [] Qw (Qf gjy) (Qg [(32,_)] Qw B6 (AOL.gk (y:=Iq _) _ [] rfl (gT.all trivial) (fun hG=>Cr (k:=3) (c:=Iq _) tok rfl rfl rfl rfl) rfl rfl ?_))));refine Qg [(33,_),(34,_)] Yw Bl (Qp Ju ?_);refine By 2 [.bool _] (_::_::_::_::_::_) (Ax ?_);refine wY.region (by kernel_rfl) ?_;refine Sw 3 (Iq _) rfl (Qp Gw ?_);refine By 3 [Iq _] (_::_::_::_::_::_) (AOL.nil (J1 ?_));exact ⟨0,rfl,Or.inl ⟨rfl,rfl,congrArg (fun c:Cnt=>(.obj l (.loop rec) :: .obj D (.deferred (some [])) :: .box b7 4 [.bool c.ok] :: .box b6 3 [.int .i64 c.scopes] :: .box b5 3 [.int .i64 c.vars]::H:List HO)) (stp_yy hc1 hc2)⟩⟩
    refine wY.skip ?_;refine J1 ?_;exact ⟨0,rfl,Or.inl ⟨rfl,rfl,congrArg (fun c:Cnt=>(.obj l (.loop rec) :: .obj D (.deferred (some [])) :: .box b7 4 [.bool c.ok] :: .box b6 3 [.int .i64 c.scopes] :: .box b5 3 [.int .i64 c.vars]::H:List HO)) (stp_yn hc1 hc2)⟩⟩
   refine wY.skip ?_;refine Av ?_;refine wY.seq ?_;refine wY.region (by kernel_rfl) ?_;refine Qp (Qf [.bool _,.bool _]) (Qp rB (Ax ?_));refine wY.cond (b:=_) rfl (fun hc3=>?_) (fun hc3=>?_)
   .
    refine wY.seq ?_;refine wY.region (by kernel_rfl) ?_;refine Sw 2 (.bool _) rfl (Qp Cc (Qg [] Qw (Qf gjy) (Qg [(32,_)] Qw B6 (AOL.gk (y:=Iq _) _ [] rfl (gT.all trivial) (fun hG=>Cr (k:=3) (c:=Iq _) tok rfl rfl rfl rfl) rfl rfl ?_))));refine Qg [(33,_),(34,_)] Yw Bl (Qp Ju ?_);refine By 2 [.bool _] (_::_::_::_::_::_) (Ax ?_);refine wY.region (by kernel_rfl) ?_;refine Sw 3 (Iq _) rfl (Qp Gw ?_);refine By 3 [Iq _] (_::_::_::_::_::_) (AOL.nil (J1 ?_));exact ⟨0,rfl,Or.inl ⟨rfl,rfl,congrArg (fun c:Cnt=>(.obj l (.loop rec) :: .obj D (.deferred (some [])) :: .box b7 4 [.bool c.ok] :: .box b6 3 [.int .i64 c.scopes] :: .box b5 3 [.int .i64 c.vars]::H:List HO)) (stp_ny hc1 hc3)⟩⟩
   refine wY.skip ?_;refine J1 ?_;exact ⟨0,rfl,Or.inl ⟨rfl,rfl,congrArg (fun c:Cnt=>(.obj l (.loop rec) :: .obj D (.deferred (some [])) :: .box b7 4 [.bool c.ok] :: .box b6 3 [.int .i64 c.scopes] :: .box b5 3 [.int .i64 c.vars]::H:List HO)) (stp_nn hc1 hc3)⟩⟩
  rintro r K ⟨rfl,rfl⟩;exact ⟨_,List.Perm.refl _,rec,_,congrArg (fun c:Cnt=>(.obj l (.loop rec) :: .obj D (.deferred (some [])) :: .box b7 4 [.bool c.ok] :: .box b6 3 [.int .i64 c.scopes] :: .box b5 3 [.int .i64 c.vars]::H:List HO)) (goY_cnt (F2 p) ⟨0,0,true⟩:_=Pf p),by rw [hst];decide,Or.inl ⟨hpe,rfl⟩⟩
 obtain rfl:=hZ;refine Tail.drawn ?_;refine AWD.draw mixed (fun H'=>_∈H'/\_∈H'/\_∈H') ⟨(Aj (i:=3) rfl),(Aj (i:=2) rfl),(Aj (i:=1) rfl)⟩ (by kernel_rfl) ?_;refine Qn 0 rfl (Dp.mem (fun k=>Cr (k:=k) (c:=Iq _) tok rfl rfl rfl rfl) (fun _ h=>h.1)) ?_;refine Qn 1 rfl (Dp.mem (fun k=>Cr (k:=k) (c:=Iq _) tok rfl rfl rfl rfl) (fun _ h=>h.2.1)) ?_;refine Qn 2 rfl (Dp.mem (fun k=>Cr (k:=k) (c:=.bool _) tok rfl rfl rfl rfl) (fun _ h=>h.2.2)) ?_;refine Qn 3 rfl Aq (Qn 4 rfl Aq (Qn 5 rfl Bc ?_));refine Ig ?_;exact ⟨0,rfl,[_,_,_],.cons (.tmp _ _ rfl) (.cons (.tmp _ _ rfl) (.cons (.tmp _ _ rfl) .nil)),H,.cons _ (.cons _ (.cons _ (.cons _ (.refl _)))),rfl,rfl⟩
theorem rp_count (p:Pt)(hp:medP p)(ho:∀q∈F2 p,opOK q):An Tryz.prog 65 [.agg (cPt p)] (.tuple [.int .i64 (Pf p).vars,.int .i64 (Pf p).scopes,.bool (Pf p).ok]):=fun H=>rp_countA p hp ho H
theorem vO (p:Pt)(hp:medP p):An Tryz.prog 64 [.agg (cPt p)] (.int .i64 (Jr p)):=by
 refine Fb 20 Tryz.func64 rfl fun H=>?_
 refine Aa (Qp (Hu Fq) (Qp Aq (Ax (B5 (Qp (Cm Fq) (Qp (Qc rfl (rp_whole p hp)) (Qp Aq (B7 (Qp Ap (Qp Cb (Bh (fun hc1=>Aa (Qp Ap (Qp Aq (Rc (Qr (Iq _) ?_))))) fun hc1=>?_)))))))))))
 . exact Ye (AV.int .i64) (chk_1 hc1)
 refine B2 (B5 (Qp (Cm Fq) (Qp (Qc rfl (rp_count p hp (rst_ops (whl_0 hc1)))) (Qp Oz (Qp Lv (Qp Lv (Qp lL (Qp Aq (Qp Aq (Qp Bc (B7 (Qp Cc (Qp Ix (Bh (fun hc2=>Aa (Qp Aq (Rc (Qr (Iq _) ?_)))) fun hc2=>B2 (Aa (Qp Aq (Rb (Qr (Iq _) ?_))))))))))))))))))
 . exact Ye (AV.int .i64) (chk_2 hc1 hc2)
 exact Ye (AV.int .i64) (chk_3 hc1 hc2)
end Go.Proofs.YtckhoadldibflaaGreatDoor
