/-
  Several texts in one: R34w, Am, R35w, R36w. No condition.
-/
import Derived.Test.YtckhoadldibflaaGreatDoorK01
import Derived.Test.YtckhoadldibflaaGreatDoorK18
import Derived.Test.YtckhoadldibflaaGreatDoorK10
import Derived.Test.YtckhoadldibflaaGreatDoorK15
import Derived.KernelRfl
import Derived.Test.YtckhoadldibflaaGreatDoorK05
import Derived.Maps.RangeRun
set_option linter.unusedVariables false
set_option linter.unusedSimpArgs false
set_option maxHeartbeats 12800000
set_option maxRecDepth 20000
namespace Go.Proofs.YtckhoadldibflaaGreatDoor
open Go Go.Aw
theorem scLe (l:List Syn):∀c∈l.map C6,A0 c=true:=fun c hc=>by
 obtain ⟨x,_,rfl⟩:=Cl.1 hc;rw [Bf];rfl
section
variable {T:List e8Sc} {V:List Va} {e:Ex}
theorem sh_0 (h:(e.op==0)=true):Ny T V e=fQ e.val:=by rw [Ui];exact if_pos h
theorem sh_1 (h0:(e.op==0)=false)(h:(e.op==1)=true)(hf:Uz T V e.var e.field=false):Ny T V e=⟨14,Ym V e.var,(aE T V e.var e.field).1,0,[],0⟩:=by rw [Ui,pB hf];exact (Bo h0).trans (if_pos h)
theorem sh_2 (h0:(e.op==0)=false)(h1:(e.op==1)=false)(h:(e.op==2)=true):Ny T V e=⟨14,Ym V e.var,F6,0,[],0⟩:=by rw [Ui];exact (Bo h0).trans ((Bo h1).trans (if_pos h))
theorem sh_3 (h0:(e.op==0)=false)(h1:(e.op==1)=false)(h2:(e.op==2)=false)(h:(e.op==3)=true):Ny T V e=⟨15,Ym V e.var,[],0,[],0⟩:=by rw [Ui];exact (Bo h0).trans ((Bo h1).trans ((Bo h2).trans (if_pos h)))
theorem sh_4 (h0:(e.op==0)=false)(h1:(e.op==1)=false)(h2:(e.op==2)=false)(h3:(e.op==3)=false)(h:(e.op==4)=true)(hf:Uz T V e.var e.field=false):Ny T V e=⟨16,Ym V e.var,(aE T V e.var e.field).1,e.kind,if (e.kind != 1) then [fQ e.val] else [],0⟩:=by rw [Ui,pB hf];exact (Bo h0).trans ((Bo h1).trans ((Bo h2).trans ((Bo h3).trans (if_pos h))))
theorem sh_4y (h0:(e.op==0)=false)(h1:(e.op==1)=false)(h2:(e.op==2)=false)(h3:(e.op==3)=false)(h:(e.op==4)=true)(hf:Uz T V e.var e.field=false)(hk:(e.kind != 1)=true):Ny T V e=⟨16,Ym V e.var,(aE T V e.var e.field).1,e.kind,[fQ e.val],0⟩:=by rw [sh_4 h0 h1 h2 h3 h hf,if_pos hk]
theorem sh_4n (h0:(e.op==0)=false)(h1:(e.op==1)=false)(h2:(e.op==2)=false)(h3:(e.op==3)=false)(h:(e.op==4)=true)(hf:Uz T V e.var e.field=false)(hk:(e.kind != 1)=false):Ny T V e=⟨16,Ym V e.var,(aE T V e.var e.field).1,e.kind,[],0⟩:=by rw [sh_4 h0 h1 h2 h3 h hf,Bo hk]
def shK (e:Ex):Int×Int:=if (e.op==12) then (18,0) else (17,e.op)
theorem sh_n (h0:(e.op==0)=false)(h1:(e.op==1)=false)(h2:(e.op==2)=false)(h3:(e.op==3)=false)(h4:(e.op==4)=false):Ny T V e=⟨(shK e).1,[],[],(shK e).2,e.args.map (Ny T V),0⟩:=by
 rw [Ui];refine (Bo h0).trans ((Bo h1).trans ((Bo h2).trans ((Bo h3).trans ((Bo h4).trans ?_))));unfold shK;split <;> rfl
theorem kno_fld (hn:Hg e=0)(hk:yE T V e=true)(ho:e.op=1\/e.op=4):Uz T V e.var e.field=false:=by
 obtain ⟨k1,k2⟩:=Xs hk (Gl hn).1;have hp:=Vq hn;have h1:=k1 (by omega);have h2:=k2 ho;unfold Uz;simp only [Eb,It];omega
theorem wK (hn:Hg e=0)(ho:e.op=0\/e.op=4):0<=e.val.kind/\e.val.kind<=2:=by
 have h:=(cY (Gl hn).1).2.1 ho;unfold F5 at h;split at h
 . rename_i h1;simp at h1;omega
 split at h
 . rename_i h1;simp at h1;omega
 cases h
end
theorem sh_enc {T:List e8Sc}{V:List Va}(l:List Ex):(l.map (Ny T V)).map C6=l.map (fun a=>cSyn (Ny T V a)):=by rw [Kr];exact Qv fun a _=>Bf _
abbrev Mp (q:Syn):AV:=AV.agg (cSyn q)
theorem zG (T:List e8Sc)(V:List Va)(hrv:RvOK T V)(hsn:∀s∈T,Th s)(e:Ex)(hs:B3 e<=1048576)(hn:Hg e=0)(hk:U0 T V e=true):An Tryz.prog 74 [.agg (cNm T V),.agg (cE e)] (.agg (cSyn (Ny T V e))):=by
 induction e using Ex.ind
 rename_i e ih;have hal:=Xf e hs;have hp:=Vq hn;have hna:=(Gl hn).2;rw [gH,Cd] at hk;have hko:=hk.1;have hka:=Fu.1 hk.2;have hkp:=Xs hko (Gl hn).1;refine Fb 115 Tryz.func74 rfl fun H=>?_
 refine Aa (Qp (Hu [_,_]) (Qp Qbe ?_));refine D5 I6 fun b4=>?_
 refine Ax (B5 (Qp fM (Qp B6 (Ax (AW.block (Aa (Qp Bl (Qp Bc ?_))))))));refine Bh (fun hc1=>?_) fun hc1=>Aa (Qp Bl (Qp Bc (Bh (fun hc2=>?_) fun hc2=>Aa (Qp Bl (Qp Bc (Bh (fun hc3=>?_) fun hc3=>Aa (Qp Bl (Qp Bc (Bh (fun hc4=>?_) fun hc4=>Aa (Qp Bl (Qp Bc (Bh (fun hc5=>?_) fun hc5=>Rf (Aa (Qp fM (Qp B6 ?_)))))))))))))))
 .
  have ho:e.op=0:=by simpa using hc1
  have hvk:=wK hn (.inl ho);refine Aa (Qp wW (Qp (Cm Yc) (Qp (Qc rfl (fC e.val hvk.1 hvk.2)) ?_)));refine By 0 Ai (_::_) (Ra ?_);refine Yx [.agg Ai] (Zb 0) S1 ?_;exact Ye Mp (sh_0 hc1)
 .
  have ho:e.op=1:=by simpa using hc2
  have hv1:=hkp.1 (.inl ho);have hfn:=kno_fld hn hko (.inl ho);refine Aa (Qp (Cm [_,_]) (Qp wV (Qp B6 (Qp Qf3 (Qp B6 (Qp (Qc rfl (kN T V hrv e.var e.field)) (Qp Oz (Qp xE (Qp lL (Qp Lu (Qp Bc (B7 (Qp (Qf [_]) (Qp Dd (Qp wV (Qp B6 ?_))))))))))))))));refine Qp (Eh Iv rfl rfl (hp.1) (Cp (fG hp.1 hv1))) (Qp (Qf Iv) (Qp Gr (Qp H7 (Qp (Fj Ai) ?_))));refine By 0 Ai (_::_) (Ra ?_);refine Yx [.agg Ai] (Zb 0) S1 ?_;exact Ye Mp (sh_1 hc1 hc2 hfn)
 .
  have ho:e.op=2:=by simpa using hc3
  have hv1:=hkp.1 (.inr (.inl ho));refine Aa (Qp (Qf [_]) (Qp Dd (Qp wV (Qp B6 ?_))));refine Qp (Eh Iv rfl rfl (hp.1) (Cp (fG hp.1 hv1))) (Qp (Qf Iv) (Qp Gr (Qp (Fj Ai) ?_)));refine By 0 Ai (_::_) (Ra ?_);refine Yx [.agg Ai] (Zb 0) S1 ?_;exact Ye Mp (sh_2 hc1 hc2 hc3)
 .
  have ho:e.op=3:=by simpa using hc4
  have hv1:=hkp.1 (.inr (.inr (.inl ho)));refine Aa (Qp (Qf [_]) (Qp Dd (Qp wV (Qp B6 ?_))));refine Qp (Eh Iv rfl rfl (hp.1) (Cp (fG hp.1 hv1))) (Qp (Qf Iv) (Qp Gr (Qp (Fj Ai) ?_)));refine By 0 Ai (_::_) (Ra ?_);refine Yx [.agg Ai] (Zb 0) S1 ?_;exact Ye Mp (sh_3 hc1 hc2 hc3 hc4)
 .
  have ho:e.op=4:=by simpa using hc5
  have hv1:=hkp.1 (.inr (.inr (.inr ho)));have hfn:=kno_fld hn hko (.inr ho);have hvk:=wK hn (.inr ho);refine Aa (Qp (Cm [_,_]) (Qp wV (Qp B6 (Qp Qf3 (Qp B6 (Qp (Qc rfl (kN T V hrv e.var e.field)) (Qp Oz (Qp xE (Qp lL (Qp Lu (Qp Bc (Re ?_))))))))))));refine Mo ?_;refine Qn 0 rfl (Qf [_]) (Qn 1 rfl Dd (Qn 2 rfl wV (Qn 3 rfl B6 ?_)));refine Qn 4 rfl (Eh Iv rfl rfl (hp.1) (Cp (fG hp.1 hv1))) (Qn 5 rfl (Qf Iv) (Qn 6 rfl Gr (Qn 7 rfl H7 (Qn 8 rfl Qf4 (Qn 9 rfl B6 (Qn 10 rfl (Fj Ai) ?_))))));refine rT 11 rfl (Ke (l:=I6) (by kernel_rfl)) ?_;rintro _ _ ⟨b9,rfl,rfl⟩;refine Oj 12 rfl (Kt 0 (.agg _) Ai (_::_::_) rfl) ?_;refine Ig ?_;refine Av (B5 (Qp Qf4 (Qp B6 (Qp Cb (Bh (fun hc6=>AW.region (Qp wW (Qp (Cm Yc) (Qp (Qc rfl (fC e.val hvk.1 hvk.2)) (Qp (Jh [Ai] rfl) (Qp Cw ?_)))))) fun hc6=>B2 (Aa (Sb 0 Ai rfl ?_)))))))
  .
   refine By 0 Ai (_::_::_) (B7 (Sb 0 Ai rfl ?_));refine By 1 Ai (_::_::_) (Ra ?_);refine Yx [.agg Ai] (Zb 1) S2 ?_;exact Ye Mp (sh_4y hc1 hc2 hc3 hc4 hc5 hfn hc6)
  refine By 1 Ai (_::_::_) (Ra ?_);refine Yx [.agg Ai] (Zb 1) S2 ?_;exact Ye Mp (sh_4n hc1 hc2 hc3 hc4 hc5 hfn hc6)
 refine Qp (Jz (l0:=[.int .i64 0,.str [],.str [],.int .i64 0,.val (.slice none 0 0),.int .i64 0]) (l:=Ai) tok rfl rfl (by kernel_rfl) rfl) ?_;refine D5 I6 fun b10=>?_
 refine By 0 Ai (_::_::_) (Ax ?_);refine AW.Aai (fun (z:Int×Int)=>(⟨[(2,.ptr (cNm T V)),(3,.ptr (cE e)),(4,.val (.pointer (some ⟨b4,0,none⟩))),(10,.val (.pointer (some ⟨b10,0,none⟩)))],.box b10 25 [.int .i64 z.1,.str [],.str [],.int .i64 z.2,.val (.slice none 0 0),.int .i64 0] :: .box b4 25 I6::H,115⟩:St)) (fun z=>z=shK e) ?_ ?_
 .
  refine Aa (Qp fM (Qp B6 (Qp Bl (Bh (fun hc7=>AW.region ?_) fun hc7=>B2 ?_))))
  .
   refine Qp (Jz (l0:=[.int .i64 0,.str [],.str [],.int .i64 0,.val (.slice none 0 0),.int .i64 0]) (l:=Ai) tok rfl rfl (by kernel_rfl) rfl) ?_;refine By 0 Ai (_::_::_) (Ax ?_);refine ⟨(18,0),?_,C2⟩;exact (if_pos hc7).symm
  refine ⟨(17,e.op),?_,C2⟩;exact (Bo hc7).symm
 rintro z hz;subst hz;refine AW.seq (AW.seq ?_);refine AW.ghost (GS.cellRow 0 4 25 6 rfl rfl rfl rfl) ?_
 skip
 refine AW.region (Qp oE (Qp Dd ?_));refine Qp (E6 e.args.length rfl rfl (by simp)) ?_;refine Qp Ap (Ax (AW.block ?_));refine AW.Aad (fun (q:Nat×List (List AV)×Value)=>(⟨[(2,.ptr (cNm T V)),(3,.ptr (cE e)),(4,.val (.pointer (some ⟨b4,0,none⟩))),(10,.val (.pointer (some ⟨b10,0,none⟩))),(99,.sl 8 (e.args.map H8)),(100,.int .i64 e.args.length),(101,.int .i64 (q.1:Int))],.row q.2.2 q.2.1.length 25 6 :: .box b10 25 [.int .i64 (shK e).1,.str [],.str [],.int .i64 (shK e).2,.row q.2.2 6 q.2.1,.int .i64 0] :: .box b4 25 I6::H,115⟩:St)) (fun q=>q.1<=e.args.length/\q.2.1=(e.args.take q.1).map (fun a=>cSyn (Ny T V a))/\q.2.1.length<=q.1) (fun q=>e.args.length-q.1) ((0,[],.slice none 0 0)) ?_ C2 ?_
 . exact ⟨A9 _,rfl,Br _⟩
 rintro q hR;refine Aa (Qp Cn (Re (Hb (fun hc8=>?_) fun hc8=>?_)))
 .
  obtain ⟨a,ha⟩:=Cj hc8;have hlt:=Bz ha;have hm:=Aj ha;have hsc:∀c∈q.2.1,A0 c=true:=by rw [hR.2.1];exact fun c hc=>by obtain ⟨x,_,rfl⟩:=Cl.1 hc;rfl
  have hql:=hR.2.2;refine B2 (AW.seq (AW.block (Aa ?_)));refine Qp (Eh Ko rfl rfl (by omega) (e_at ha)) ?_;refine Qp Rl (D5 ggz fun b12=>?_);refine By 0 Ko (_::_::_::_::_) ?_;refine Kc 12 0 rfl ?_;refine Ax (Rm 1 rfl (Qn 0 rfl Cw (Qn 1 rfl (Lw (.row _ _ _) rfl) (Qn 2 rfl (Cm [_,_]) (Qn 3 rfl Rl ?_)))));refine Qn 4 rfl (Qc rfl (ih a hm (by have:=K1 hm;omega) (hna a hm) (hka a hm))) ?_;refine Qn 5 rfl (Jh [Ai] rfl) ?_;refine Xa 6 rfl (W0 0 rfl (Et rfl) (hsc) (by simp;omega) (by simp [maxLen];omega)) (by rintro _ _ ⟨v111,rfl,rfl⟩;simp) ?_;rintro _ _ ⟨v111,rfl,rfl⟩;refine Qn 7 rfl Cw ?_;refine fY 8 rfl (Kt 1 (.row _ _ _) Ai (_::_::_::_) rfl) ?_;rintro _ _ ⟨rfl,rfl⟩;refine J1 (Av (AW.region (Qp Gw (Qp Ap (Ax ?_)))));refine ⟨(q.1+1,q.2.1 ++ [cSyn (Ny T V a)],v111),?_,?_,C2⟩
  . exact ⟨hlt,by simp only;rw [C9 ha,hR.2.1];simp,by simp;omega⟩
  simp only;omega
 have hte:=Ds hc8;have hall:=hR.2.1;rw [hte] at hall;refine AW.exit ?_;refine B1 (Ri (Aa ?_));refine AOL.ghost (GS.cell (H2:=_::_::_::_) 1 4 rfl rfl rfl rfl Eu) ?_;refine Sb 1 Ai rfl ?_;refine By 2 Ai (_::_::_::_) (Rb ?_);refine Yx [.agg Ai] (Zb 2) S3 ?_;exact Eq.trans (congrArg (fun l:List (List AV)=>AV.agg [.int .i64 (shK e).1,.str [],.str [],.int .i64 (shK e).2,.sl 6 l,.int .i64 0]) (hall.trans (sh_enc e.args).symm)) (congrArg (fun q:Syn=>AV.agg (cSyn q)) (sh_n hc1 hc2 hc3 hc4 hc5)).symm
theorem ty_in {T:List e8Sc}{k:Int}(h:0<=k/\k<(T.length:Int)):T[k.toNat]? = some ((T[k.toNat]?).getD lQ):=by
 rw [List.getElem?_eq_getElem (show k.toNat<T.length by omega)];rfl
theorem evT_y {T:List e8Sc}{V:List Va}{p:Pt}(h:(!(Ge p.cond Mc))=true):Uv T V p=⟨5,((T[p.type.toNat]?).getD lQ).name,Ym V p.var,0,[Ny T V p.cond],0⟩:=by unfold Uv;rw [if_pos h]
theorem evT_n {T:List e8Sc}{V:List Va}{p:Pt}(h:(!(Ge p.cond Mc))=false):Uv T V p=⟨5,((T[p.type.toNat]?).getD lQ).name,Ym V p.var,0,[],0⟩:=by unfold Uv;rw [Bo h]
theorem vG (T:List e8Sc)(V:List Va)(hrv:RvOK T V)(hsn:∀s∈T,Th s)(p:Pt)(hs:B3 p.cond<=1048576)(hn:Hg p.cond=0)(hk:U0 T V p.cond=true)(ht:0<=p.type/\p.type<(T.length:Int))(hv:0<=p.var/\p.var<(V.length:Int)):An Tryz.prog 129 [.agg (cNm T V),.agg (cPt p)] (.agg (cSyn (Uv T V p))):=by
 refine Fb 33 Tryz.func129 rfl fun H=>?_
 refine Aa (Qp (Hu [_,_]) (Qp (Hu Fq) ?_));refine D5 I6 fun b4=>?_
 refine Re ?_;refine Mo ?_;refine Qn 0 rfl (Qf [_,_]) (Qn 1 rfl Dd (Qn 2 rfl (Qf gjx) (Qn 3 rfl B6 ?_)));refine Qn 4 rfl (Eh Nd rfl rfl (ht.1) (Cp (ty_in ht))) (Qn 5 rfl (Qf Nd) (Qn 6 rfl Gr (Qn 7 rfl (Qf [_]) (Qn 8 rfl Dd (Qn 9 rfl (Qf gix) (Qn 10 rfl B6 ?_))))));refine Qn 11 rfl (Eh Iv rfl rfl (hv.1) (Cp (fG hv.1 hv.2))) (Qn 12 rfl (Qf Iv) (Qn 13 rfl Gr (Qn 14 rfl (Fj Ai) ?_)));refine rT 15 rfl (Ke (l:=I6) (by kernel_rfl)) ?_;rintro _ _ ⟨b5,rfl,rfl⟩;refine Oj 16 rfl (Kt 0 (.agg _) Ai (_::_::_) rfl) ?_;refine Ig ?_;refine Av (AW.seq (AW.seq ?_));refine Mo ?_;refine Qn 0 rfl fM (Qn 1 rfl Rl (Qn 2 rfl (Qc rfl (vK)) (Qn 3 rfl (Qc rfl (e8c22 p.cond Mc hs)) (Qn 4 rfl Ix ?_))));refine Ig ?_;refine Av (Hb (fun hc1=>AW.region (Qp (Cm [_,_]) (Qp fM (Qp Rl (Qp (Qc rfl (zG T V hrv hsn p.cond hs hn hk)) (Qp (Jh [Ai] rfl) (Qp Cw ?_))))))) fun hc1=>B2 (Aa (Sb 0 Ai rfl ?_)))
 .
  refine By 0 Ai (_::_::_) (B7 (Sb 0 Ai rfl ?_));refine By 1 Ai (_::_::_) (Rb ?_);refine Yx [.agg Ai] (Zb 1) S2 ?_;exact Eq.trans (congrArg (fun c:List AV=>AV.agg [.int .i64 5,.str ((T[p.type.toNat]?).getD lQ).name,.str (Ym V p.var),.int .i64 0,.sl 6 [c],.int .i64 0]) (Bf (Ny T V p.cond)).symm) (congrArg (fun q:Syn=>AV.agg (cSyn q)) (evT_y hc1)).symm
 refine By 1 Ai (_::_::_) (Rb ?_);refine Yx [.agg Ai] (Zb 1) S2 ?_;exact Ye Mp (evT_n hc1)
theorem oN (p:Pt):(Tv p).length<=Iw p:=by
 unfold Tv;rw [Bt,<-jQ];exact List.length_filter_le _ _
theorem co_part {p:Pt}(k:Nat):((p.args.take k).flatMap Tv).length<=Iw p:=by
 have h:∀l:List Pt,(l.flatMap Tv).length<=(l.map Iw).sum:=by
  intro l
  induction l with
  | nil=>simp
  | cons x r ih=>rw [Ld,Au,Ao,Ew];have:=oN x;omega
 have h1:=h (p.args.take k);have h2:=qF p.args k;have h3:=Lc p;omega
theorem scEx (l:List Ex):∀c∈l.map H8,A0 c=true:=fun c hc=>by
 obtain ⟨x,_,rfl⟩:=Cl.1 hc;rw [Nb];rfl
def coH (p:Pt):List Ex:=if Tu p then [p.cond] else []
theorem coP_H (p:Pt):Tv p=coH p++p.args.flatMap Tv:=coP_eq p
theorem coH_len (p:Pt):(coH p).length<=1:=by unfold coH;split <;> simp
theorem rf_conds (p:Pt)(hp:Iw p<=1048576):An Tryz.prog 127 [.agg (cPt p)] (.sl 8 ((Tv p).map H8)):=by
 induction p using Pt.ind
 rename_i p ih;have hal:=N4 p;refine Fb 37 Tryz.func127 rfl fun H=>?_
 refine Aa (Qp (Hu Fq) (Qp (B8 (z:=8) rfl) (B7 (Qp Sa ?_))));refine AOL.ghost (GS.row (t:=3) 36 8 rfl) ?_;refine Ax ?_;refine AW.Aai (fun (z:List (List AV)×Value)=>(⟨[(1,.ptr (cPt p)),(2,.sl 8 []),(3,.row z.2 8 z.1)],.row z.2 z.1.length 36 8::H,37⟩:St)) (fun z=>z.1=(coH p).map H8) ?_ ?_
 .
  refine Aa (Qp (Qf Fq) (Qp B6 (Qp Bl (Qp Cc (Qg [] Qw (Qf Fq) (Qg [(10,_)] Qw B6 (Qg [(11,_)] Qw Bl (Qp E5 (Qp Cc ?_)))))))));refine Qg [] Qw (Qf Fq) (Qg [(15,_)] Qw B6 (Qg [(16,_)] Qw Bl (Qp E5 (Bh (fun hc1=>AW.region (Qp (A1 (v:=.row _ _ _) rfl) (Qp fM (Qp Rl (Qp (Jh [Ko] rfl) ?_))))) fun hc1=>B2 ?_))))
  .
   refine Qe (W0 0 rfl (Et rfl) (by simp) (by simp) (by simp [maxLen])) ?_;rintro _ _ ⟨v23,rfl,rfl⟩;refine Qp (Ba (v:=.row _ _ _) rfl) (Ax ?_);refine ⟨([cE p.cond],v23),?_,C2⟩;show [cE p.cond]=_;unfold coH;rw [show Tu p=true from hc1];exact congrArg (fun c=>[c]) (Nb _).symm
  refine ⟨([],.slice none 0 0),?_,C2⟩;show []=_;unfold coH;rw [show Tu p=false from hc1];rfl
 rintro z hz;refine B5 (Qp (Qf pG) (Qp Dd ?_));refine Qp (E6 p.args.length rfl rfl (by simp)) ?_;refine Qp Ap (Ax (AW.block ?_));refine AW.Aad (fun (q:Nat×List (List AV)×Value)=>(⟨[(1,.ptr (cPt p)),(2,.sl 8 []),(3,.row q.2.2 8 q.2.1),(25,.sl 14 (p.args.map Oq)),(26,.int .i64 p.args.length),(27,.int .i64 (q.1:Int))],.row q.2.2 q.2.1.length 36 8::H,37⟩:St)) (fun q=>q.1<=p.args.length/\q.2.1=(coH p++(p.args.take q.1).flatMap Tv).map H8) (fun q=>p.args.length-q.1) ((0,z.1,z.2)) ?_ C2 ?_
 . exact ⟨A9 _,by rw [hz];simp⟩
 rintro q hR;refine Aa (Qp Cn (Re (Hb (fun hc2=>?_) fun hc2=>?_)))
 .
  obtain ⟨a,ha⟩:=Cj hc2;have hlt:=Bz ha;have hm:=Aj ha;have hsc:∀c∈q.2.1,A0 c=true:=by rw [hR.2];exact scEx _
  have hb1:q.2.1.length<=1048577:=by have h:=co_part (p:=p) q.1;have h2:=coH_len p;rw [hR.2,Bt,Au];omega
  have hb2:((Tv a).map H8).length<=1048576:=by have:=oN a;have:=Mb hm;rw [Bt];omega
  refine B2 (AW.seq (AW.block (Aa ?_)));refine Qp (Eh Fq rfl rfl (by omega) (Vw ha)) ?_;refine Qp (Cm Fq) (D5 ghx fun b5=>?_);refine By 0 Fq (_::_::_) ?_;refine Kc 5 0 rfl ?_;refine Ax (AW.region (Qp (A1 (v:=.row _ _ _) rfl) (Qp (Cm Fq) ?_)));refine Qp (Qc rfl (ih a hm (by have:=Mb hm;omega))) ?_;refine Qe (W0 0 rfl (scEx _) (hsc) (by simp at hb2 ⊢;omega) (by simp [maxLen] at hb2 ⊢;omega)) ?_;rintro _ _ ⟨v34,rfl,rfl⟩;refine Qp (Ba (v:=.row _ _ _) rfl) (Rk (AW.region (Qp Gw (Qp Ap (Ax ?_)))));refine ⟨(q.1+1,q.2.1++(Tv a).map H8,v34),?_,?_,C2⟩
  . exact ⟨hlt,by simp only;rw [C9 ha,hR.2];simp⟩
  simp only;omega
 have hte:=Ds hc2;have hall:=hR.2;rw [hte] at hall;refine AW.exit ?_;refine B1 (Ri (Aa ?_));refine Qp (A1 (v:=.row _ _ _) rfl) ?_;refine AOL.ghost (GS.unrow 36 rfl) ?_;refine Qp lK (Rb ?_);refine Yx [.sl _ _] Ze S1 ?_;exact (congrArg (AV.sl 8) hall).trans (congrArg (fun q:List Ex=>AV.sl 8 (q.map H8)) (coP_H p)).symm
end Go.Proofs.YtckhoadldibflaaGreatDoor
namespace Go.Aw
open Go
def Zx:Nat->List (Int×Int)->List MapEntry
 | _,[]=>[]
 | i,p::r=>⟨.int .i64 p.1,.int .i64 p.2,i⟩::Zx (i+1) r
def Y8 (es:List (Int×Int)):Obj:=.map (Zx 0 es).toArray es.length
def imA (es:List (Int×Int)):List (Int×AV):=es.map fun p=>(p.1,.int .i64 p.2)
theorem pM:∀(es:List (Int×Int)) (i:Nat),(Zx i es).length=es.length
 | [],_=>rfl
 | p::r,i=>by rw [Zx,Bb,Bb,pM r]
theorem gG:∀(es:List (Int×Int)) (i k:Nat),(Zx i es)[k]? = (es[k]?).map fun p=>⟨.int .i64 p.1,.int .i64 p.2,i+k⟩
  | [],_,k=>by rw [Zx];simp
  | p::r,i,0=>by rw [Zx];simp
  | p::r,i,k+1=>by
    rw [Zx,List.getElem?_cons_succ,List.getElem?_cons_succ,gG r (i+1) k];rw [show i+1+k=i+(k+1) by omega]
theorem tF:∀(es:List (Int×Int)) (i:Nat) (p:Int×Int),Zx i (es ++ [p])=Zx i es ++ [⟨.int .i64 p.1,.int .i64 p.2,i+es.length⟩]
  | [],i,p=>rfl
  | q::r,i,p=>by
    rw [Co,Zx,Zx,tF r (i+1) p,Co,Bb];rw [show i+1+r.length=i+(r.length+1) by omega]
theorem imE_mem {es:List (Int×Int)}{e:MapEntry}(h:e∈Zx 0 es):∃p,es[e.born]? = some p/\e.key = .int .i64 p.1/\e.val = .int .i64 p.2:=by
 obtain ⟨k,hk⟩:=Gp.1 h;rw [gG] at hk;obtain ⟨p,hp,rfl⟩:=Uq.1 hk;exact ⟨p,by simpa using hp,rfl,rfl⟩
theorem imE_at {es:List (Int×Int)}{k:Nat}{p:Int×Int}(h:es[k]? = some p):(⟨.int .i64 p.1,.int .i64 p.2,k⟩:MapEntry)∈Zx 0 es:=by
 refine Aj (i:=k) ?_;rw [gG,h];simp
theorem imE_born (es:List (Int×Int))(i:Nat):(Zx i es).map (·.born)=List.range' i es.length:=by
 induction es generalizing i with
 | nil=>rfl
 | cons p r ih=>rw [Zx,Ao,ih,Bb,List.range'_succ]
theorem imE_nodup (es:List (Int×Int)):((Zx 0 es).map (·.born)).Nodup:=by rw [imE_born];exact List.nodup_range'
theorem imA_get (es:List (Int×Int))(k:Nat):(imA es)[k]? = (es[k]?).map fun p=>(p.1,AV.int .i64 p.2):=List.getElem?_map ..
theorem pL {es:List (Int×Int)}{j:Nat}{m:Int}{x:AV}(h:(imA es)[j]? = some (m,x)):((Zx 0 es).getD j default).key = .int .i64 m/\∃v,x = .int .i64 v/\((Zx 0 es).getD j default).val = .int .i64 v:=by
 rw [imA_get] at h;obtain ⟨p,hp,he⟩:=Uq.1 h;cases he
 have:=gG es 0 j;rw [hp] at this;rw [Ez,this];exact ⟨rfl,_,rfl,rfl⟩
def Yd:List (Int×Int)->Int->Option Int
 | [],_=>none
 | p::r,n=>if p.1=n then some p.2 else Yd r n
theorem pN:∀(es:List (Int×Int)) (n:Int),Zh (imA es) n=(Yd es n).map (AV.int .i64)
  | [],n=>rfl
  | p::r,n=>by
    show (if p.1=n then some (AV.int .i64 p.2) else Zh (imA r) n)=_;rw [Yd,pN r n];split <;> rfl
theorem jG:∀{es:List (Int×Int)} {n:Int},(∀p∈es,p.1≠n)->Yd es n=none
 | [],n,_=>rfl
 | p::r,n,h=>by rw [Yd,if_neg (h p (by simp))];exact jG fun q hq=>h q (by simp [hq])
theorem nE:∀{es:List (Int×Int)} {n v:Int},(es.map (·.1)).Nodup->(n,v)∈es->Yd es n=some v
  | [],n,v,_,h=>by cases h
  | p::r,n,v,hn,h=>by
    rw [Ao,Le] at hn;rw [Yd];rcases Db.1 h with rfl | h
    . rw [if_pos rfl]
    . rw [if_neg fun e=>hn.1 (Cl.2 ⟨(n,v),h,e.symm⟩)]
      exact nE hn.2 h
section
variable {P:Program} {T:List (Nat×TD)} {d:Option Nat} {ty:TypeId} {pos:String} {aft:Array Edge} {gd:Option (Nat×Bool)} {ρ:Operand->AV}
theorem dG {g:Gh}{w:World}{b:Nat}{o:Obj}(o':Obj)(hg:g b=some 0)(hh:w.heap[b]? = some o) :
  ({ w with heap:=w.heap.setIfInBounds b o' }:World).heap[b]? = some o'/\(∀c,c≠b->({ w with heap:=w.heap.setIfInBounds b o' }:World).heap[c]? = w.heap[c]?)/\Ext g w g { w with heap:=w.heap.setIfInBounds b o' }:=by
 have hb:b<w.heap.size:=(Array.getElem?_eq_some_iff.1 hh).1
 have hoth:∀c,c≠b->({ w with heap:=w.heap.setIfInBounds b o' }:World).heap[c]? = w.heap[c]? :=fun c hc=>by
  simp [Array.getElem?_setIfInBounds_ne (Ne.symm hc)]
 refine ⟨by simp [hb],hoth,rfl,rfl,rfl,by simp,fun c hc hgc=>⟨hgc,hoth c fun e=>by rw [e,hg] at hgc;cases hgc⟩,fun c m' hc hgc=>⟨fun m'' hm''=>by rw [hgc] at hm'';cases hm'';exact Br _,fun o ho=>?_⟩⟩;have hne:c≠b:=fun e=>by rw [e,hg] at hgc;cases hgc;omega
 unfold World.cell?;rw [hoth c hne]
theorem rJ {t:TypeId}{H:List HO}:Nj P ⟨d,.makeMap t none,ty,pos,aft,gd⟩ ρ H (fun x H'=>∃b,x = .val (.map (some b))/\H' = .obj b (Y8 [])::H):=by
 intro g w a next Q hr hH hn
 unfold Oper.wp;simp only [execOp,Instr.makeMap,Option.map_none,Sem.run_bind,Sem.run_pure,run_newObj,Result.andThen_ok];have hx:=Ext.alloc g w (.map #[] 0) (some 0);refine hn (g.put w.heap.size (some 0)) _ _ _ _ ⟨w.heap.size,rfl,rfl⟩ (.val _) ((hH.alloc _ (some 0)).cons ⟨Gh.Aae _ _ _,C3 w _⟩ ?_) hx;intro b hb x hx' hb';simp only [HO.blk,Option.some.injEq] at hb;have:=(HO.ok_lt (hH.ok x hx') hb').1;omega
theorem nF {t kt et b:Nat}{td tk:TD}{kk:IntKind}{n v:Int}{es:List (Int×Int)}{w:World}(hT:Jw P T)(ht:Bs T t=some td)(hk:td.kind = .map kt et)(htk:Bs T kt=some tk)(hkk:tk.kind = .int kk)
  (hheap:w.heap[b]? = some (Y8 es)) (hnew:Yd es n=none) :
  (Instr.mapUpdate t (.map (some b)) (.int .i64 n) (.int .i64 v)).run P w = .ok () { w with heap:=w.heap.setIfInBounds b (Y8 (es ++ [(n,v)])) }:=by
 have hu:=Ru (hT t td ht) hk;have huk:=L7 (hT kt tk htk) hkk;have hfind:=T0 (k:=kk) (n:=n) (Zx 0 es) (imA es) 0 (by rw [pM,imA,Bt]) (fun j m x hj=>(pL hj).1) (by rw [pN,hnew];rfl);have hget:(getObj b).run P w = .ok (Y8 es) w:=by simp [getObj,Sem.run,hheap];rfl
 have hset:∀o:Obj,(setObj b o).run P w = .ok () { w with heap:=w.heap.setIfInBounds b o }:=fun o=>by simp [setObj,Sem.run,hheap];rfl
 unfold Instr.mapUpdate;rw [Sem.run_bind,Be hu];simp only [Result.andThen_ok,Sem.run_bind,hget];unfold Y8;simp only [Tt (n:=9999) huk,Result.andThen_ok,Sem.run_bind]
 have hfk:(Instr.findKey kt (.int .i64 n) (Zx 0 es).toArray.toList).run P w = .ok none w:=by
  unfold Instr.findKey;rw [Sem.run_bind,Be huk];simp only [Result.andThen_ok,hfind,Sem.run_pure]
 simp only [hfk,Result.andThen_ok,hset]
 have e:(Zx 0 es).toArray.push ⟨.int .i64 n,.int .i64 v,es.length⟩=(Zx 0 (es ++ [(n,v)])).toArray:=by
  rw [tF,D2];simp
 rw [e,show (es ++ [(n,v)]).length=es.length+1 by simp]
theorem E_imAdd {t:TypeId}{m k v:Operand}{kt et b i:Nat}{td tk:TD}{kk:IntKind}{n x:Int}{es:List (Int×Int)}{H H2:List HO}(hT:Jw P T)(ht:Bs T t=some td)(hk:td.kind = .map kt et)(htk:Bs T kt=some tk)(hkk:tk.kind = .int kk)
  (hm:ρ m = .val (.map (some b))) (hkey:ρ k = .int .i64 n) (hv:ρ v = .int .i64 x) (hH:H[i]? = some (.obj b (Y8 es))) (hnew:Yd es n=none) (hH2:H.set i (.obj b (Y8 (es ++ [(n,x)])))=H2) :
  Nj P ⟨d,.mapUpdate t m k v,ty,pos,aft,gd⟩ ρ H (fun y H'=>y = .junk/\H'=H2):=by
 subst hH2;intro g w a next Q hr hHK hn
 have h1:=(hm▸hr m (by simp [Op.operands]):Rep g w _ _).inv_val;have h2:=(hkey▸hr k (by simp [Op.operands]):Rep g w _ _).inv_int;have h3:=(hv▸hr v (by simp [Op.operands]):Rep g w _ _).inv_int;obtain ⟨hg,hheap⟩:(HO.obj b (Y8 es)).ok g w:=hHK.ok _ (Aj hH);have hrun:=nF (v:=x) hT ht hk htk hkk hheap hnew;unfold Oper.wp;simp only [execOp,Sem.run_bind,h1,h2,h3,hrun,Result.andThen_ok,Sem.run_pure];obtain ⟨hnew',hoth,hx⟩:=dG (Y8 (es ++ [(n,x)])) hg hheap;exact hn g _ undef .junk _ ⟨rfl,rfl⟩ (.junk _) (hHK.set hx hH (fun c hc=>.inl hc) ⟨hg,hnew'⟩ (fun c hc hne _=>⟨rfl,hoth c fun e=>hne (by rw [e];rfl)⟩)) hx
theorem Rn {t:TypeId}{m k v:Operand}{kt et b i:Nat}{td tk:TD}{kk:IntKind}{n x:Int}{es:List (Int×Int)}{H H2:List HO}(hT:Jw P T)(ht:Bs T t=some td)(hk:td.kind = .map kt et)(htk:Bs T kt=some tk)(hkk:tk.kind = .int kk)
  (hm:ρ m = .val (.map (some b))) (hkey:ρ k = .int .i64 n) (hv:ρ v = .int .i64 x) (hH:H[i]? = some (.obj b (Y8 es))) (hnew:Yd es n=none) (hH2:H.set i (.obj b (Y8 (es ++ [(n,x)])))=H2) :
  Nj P ⟨d,.insert t m k v,ty,pos,aft,gd⟩ ρ H (fun y H'=>y = .junk/\H'=H2):=by
 subst hH2;intro g w a next Q hr hHK hn
 have h1:=(hm▸hr m (by simp [Op.operands]):Rep g w _ _).inv_val;have h2:=(hkey▸hr k (by simp [Op.operands]):Rep g w _ _).inv_int;have h3:=(hv▸hr v (by simp [Op.operands]):Rep g w _ _).inv_int;obtain ⟨hg,hheap⟩:(HO.obj b (Y8 es)).ok g w:=hHK.ok _ (Aj hH);have hrun:=nF (v:=x) hT ht hk htk hkk hheap hnew;unfold Oper.wp;simp only [execOp,Sem.run_bind,h1,h2,h3,hrun,Result.andThen_ok,Sem.run_pure];obtain ⟨hnew',hoth,hx⟩:=dG (Y8 (es ++ [(n,x)])) hg hheap;exact hn g _ undef .junk _ ⟨rfl,rfl⟩ (.junk _) (hHK.set hx hH (fun c hc=>.inl hc) ⟨hg,hnew'⟩ (fun c hc hne _=>⟨rfl,hoth c fun e=>hne (by rw [e];rfl)⟩)) hx
@[reducible] def itO (b n : Nat) (seen : Array Nat) : Obj := .mapIter (some b) n seen n
theorem lS {t:TypeId}{x:Operand}{kt et b i:Nat}{td:TD}{es:List (Int×Int)}{H:List HO}(hT:Jw P T)(ht:Bs T t=some td)(hk:td.kind = .map kt et)(hx:ρ x = .val (.map (some b)))(hH:H[i]? = some (.obj b (Y8 es))) :
  Nj P ⟨d,.range t x,ty,pos,aft,gd⟩ ρ H (fun y H'=>∃it,y = .val (.pointer (some ⟨it,0,none⟩))/\H' = .obj it (itO b es.length #[])::H):=by
 intro g w a next Q hr hHK hn
 have h1:=(hx▸hr x (by simp [Op.operands]):Rep g w _ _).inv_val;obtain ⟨hg,hheap⟩:(HO.obj b (Y8 es)).ok g w:=hHK.ok _ (Aj hH);have hrun:=run_range_map w t kt et b (Zx 0 es).toArray es.length (Ru (hT t td ht) hk) hheap;unfold Oper.wp;simp only [execOp,h1,hrun,Sem.run_bind,Result.andThen_ok,Sem.run_pure];have hxx:=Ext.alloc g w (itO b es.length #[]) (some 0);refine hn (g.put w.heap.size (some 0)) _ _ _ _ ⟨w.heap.size,rfl,rfl⟩ (.val _) ((hHK.alloc _ (some 0)).cons ⟨Gh.Aae _ _ _,C3 w _⟩ ?_) hxx;intro b hb x hx' hb';simp only [HO.blk,Option.some.injEq] at hb;have:=(HO.ok_lt (hHK.ok x hx') hb').1;omega
theorem rep_tup3 {g:Gh}{w:World}{b:Bool}{m n:Int}:Rep g w (.tuple #[.bool b,.int .i64 m,.int .i64 n]) (.tuple [.bool b,.int .i64 m,.int .i64 n]):=.tuple _ _ rfl fun j z hj=>by
 match j,hj with
 | 0,hj=>cases hj;exact .bool _
 | 1,hj=>cases hj;exact .int _ _
 | 2,hj=>cases hj;exact .int _ _
 | j+3,hj=>simp at hj
theorem rep_tup2 {g:Gh}{w:World}{m n:Int}:Rep g w (.tuple #[.int .i64 m,.int .i64 n]) (.tuple [.int .i64 m,.int .i64 n]):=.tuple _ _ rfl fun j z hj=>by
 match j,hj with
 | 0,hj=>cases hj;exact .int _ _
 | 1,hj=>cases hj;exact .int _ _
 | j+2,hj=>simp at hj
theorem rep_tup1 {g:Gh}{w:World}{b:Bool}:Rep g w (.tuple #[.bool b]) (.tuple [.bool b]):=.tuple _ _ rfl fun j z hj=>by
 match j,hj with
 | 0,hj=>cases hj;exact .bool _
 | j+1,hj=>simp at hj
theorem E_imNext {x:Operand}{b it i j n:Nat}{es:List (Int×Int)}{seen:Array Nat}{H:List HO}(hx:ρ x = .val (.pointer (some ⟨it,0,none⟩)))(hI:H[i]? = some (.obj it (itO b n seen)))(hH:H[j]? = some (.obj b (Y8 es)))(hn:n=es.length) :
    Nj P ⟨d,.next x false,ty,pos,aft,gd⟩ ρ H (fun y H'=>(y = .tuple [.bool false]/\H'=H/\∀k,k<es.length->seen.contains k=true)\/
      ∃k p,es[k]? = some p/\seen.contains k=false/\y = .tuple [.bool true,.int .i64 p.1,.int .i64 p.2]/\H'=H.set i (.obj it (itO b n (seen.push k)))):=by
  subst hn;intro g w a next Q hr hHK hn
  have h1:=(hx▸hr x (by simp [Op.operands]):Rep g w _ _).inv_val;obtain ⟨hg,hheap⟩:(HO.obj b (Y8 es)).ok g w:=hHK.ok _ (Aj hH);obtain ⟨hgi,hit⟩:(HO.obj it (itO b es.length seen)).ok g w:=hHK.ok _ (Aj hI)
  have hold:∀x∈(Zx 0 es).toArray.toList,x.born<es.length:=fun x hx=>by
    obtain ⟨p,hp,_⟩:=imE_mem (by simpa using hx);exact (List.getElem?_eq_some_iff.1 hp).1
  unfold Oper.wp;rcases run_next_at (P:=P) w ty it b es.length es.length seen (Zx 0 es).toArray es.length hit hheap hold (Br _) with ⟨h0,hrun⟩ | ⟨e,he,w1,hal,hrun⟩
  . simp only [execOp,h1,hrun,Sem.run_bind,Result.andThen_ok,Sem.run_pure]
    refine hn g w _ _ H (.inl ⟨rfl,rfl,fun k hk=>?_⟩) rep_tup1 hHK (Ext.refl g w);cases hc:seen.contains k with
    | true=>rfl
    | false=>
      have hm:=imE_at (List.getElem?_eq_getElem hk)
      have:(⟨.int .i64 es[k].1,.int .i64 es[k].2,k⟩:MapEntry)∈leftOf (Zx 0 es).toArray seen:=by
        unfold leftOf;rw [Array.mem_filter];exact ⟨by simpa using hm,by rw [hc];rfl⟩
      rw [Array.eq_empty_of_size_eq_zero h0] at this;simp at this
  . obtain ⟨h3,h4⟩:=mem_left he
    obtain ⟨p,hp,hk,hv⟩:=imE_mem (by simpa using h3);have hw1:w1.heap=w.heap:=by rcases hal with h | h <;> rw [h] <;> rfl
    have hx1:Ext g w g w1:=by
      rcases hal with h | h
      . rw [h];exact Ext.refl g w
      rw [h];exact Ext.drew g w
    have hH1:HOK g w1 H:=hHK.of_same hx1 fun o ho b hb=>⟨rfl,by rw [hw1]⟩
    simp only [execOp,h1,hrun,Sem.run_bind,Result.andThen_ok,Sem.run_pure,hk,hv];obtain ⟨hnew',hoth,hx2⟩:=dG (w:=w1) (itO b es.length (seen.push e.born)) hgi (by rw [hw1];exact hit);exact hn g _ _ _ _ (.inr ⟨e.born,p,hp,h4,rfl,rfl⟩) rep_tup3 (hH1.set hx2 hI (fun c hc=>.inl hc) ⟨hgi,hnew'⟩ (fun c hc hne _=>⟨rfl,hoth c fun e=>hne (by rw [e];rfl)⟩)) (hx1.trans hx2)
theorem lU {x:Operand}{b it i j n k:Nat}{es:List (Int×Int)}{seen:Array Nat}{p:Int×Int}(hx:ρ x = .val (.pointer (some ⟨it,0,none⟩)))(hn:n=es.length)(hp:es[k]? = some p) :
  Dp P ⟨d,.entry x,ty,pos,aft,gd⟩ ρ (fun H=>(H[i]?,H[j]?)=(some (.obj it (itO b n (seen.push k))),some (.obj b (Y8 es)))) (.tuple [.int .i64 p.1,.int .i64 p.2]):=by
 subst hn;intro g w a H next Q hr hHK hH hn
 have hH:H[i]? = some (.obj it (itO b es.length (seen.push k)))/\H[j]? = some (.obj b (Y8 es)):=Prod.mk.inj hH;have h1:=(hx▸hr x (by simp [Op.operands]):Rep g w _ _).inv_val;obtain ⟨hg,hheap⟩:(HO.obj b (Y8 es)).ok g w:=hHK.ok _ (Aj hH.2);obtain ⟨hgi,hit⟩:(HO.obj it (itO b es.length (seen.push k))).ok g w:=hHK.ok _ (Aj hH.1);have hrun:=run_entry_at (P:=P) w it b es.length seen (Zx 0 es).toArray es.length ⟨.int .i64 p.1,.int .i64 p.2,k⟩ hit hheap (by simpa using imE_at hp) (by simpa using imE_nodup es);unfold Oper.wp;simp only [execOp,h1,hrun,Sem.run_bind,Result.andThen_ok,Sem.run_pure];exact hn g w _ rep_tup2 hHK (Ext.refl g w)
end
theorem AW.mapNext {P:Program}{id:Nat}{Q:Exit->St->Prop}{s:St}{x:Operand}{d e it b n i j:Nat}{ty ty2:TypeId}{pos pos2:String}{a1 a2:Array Edge}{es:List (Int×Int)}{seen:Array Nat}
  (hx:Fy s.sl x = .val (.pointer (some ⟨it,0,none⟩))) (hI:s.H[i]? = some (.obj it (itO b n seen))) (hH:s.H[j]? = some (.obj b (Y8 es))) (hn:n=es.length) (hd:Of (some d) s.n=true) (he:Of (some e) s.n=true)
  (h1:(∀k,k<es.length->seen.contains k=true)->Q .normal ⟨Ep (some e) (.bool false) (Ep (some d) (.tuple [.bool false]) s.sl),s.H,s.n⟩)
  (h2:∀k p,es[k]? = some p->seen.contains k=false->Q .normal ⟨Ep (some e) (.bool true) (Ep (some d) (.tuple [.bool true,.int .i64 p.1,.int .i64 p.2]) s.sl),s.H.set i (.obj it (itO b n (seen.push k))),s.n⟩) :
  AW P (.region id #[⟨some d,.next x false,ty,pos,a1,none⟩,⟨some e,.extract (.tmp d) 0,ty2,pos2,a2,none⟩] false) Q s:=by
 refine AW.region (AOL.e (E_imNext hx hI hH hn) hd fun y H' hy=>?_)
 have hg:∀y:AV,Fy (Ep (some d) y s.sl) (.tmp d)=y:=fun y=>by
  show get ((d,y)::s.sl) d=y;rw [Il,if_pos rfl]
 rcases hy with ⟨e1,e2,h⟩ | ⟨k,p,hp,hk,e1,e2⟩
 .
  rw [e1,e2];exact AOL.p (Ch (hg _) rfl) he (AOL.nil (h1 h))
 rw [e1,e2];exact AOL.p (Ch (hg _) rfl) he (AOL.nil (h2 k p hp hk))
def tS (n:Nat)(seen:Array Nat):Nat:=((List.range n).filter fun i=>!seen.contains i).length
theorem jL {n k:Nat}{seen:Array Nat}(hk:k<n)(hs:seen.contains k=false):tS n (seen.push k)<tS n seen:=by
 unfold tS;refine filter_lt (fun i=>!seen.contains i) (fun i=>!(seen.push k).contains i) (fun x hx=>?_) k (by simp only [hs];rfl) (by rw [contains_push];simp) (List.range n) (by simpa using hk);rw [contains_push] at hx;cases hc:seen.contains x with
 | false=>rfl
 | true=>rw [hc] at hx;exact absurd hx (by simp)
theorem Ti {seen:Array Nat}{k i:Nat}:(seen.push k).contains i=true↔seen.contains i=true\/i=k:=by rw [contains_push];simp
theorem HO.im_ok {g:Gh}{w:World}{b:Nat}{es:List (Int×Int)}(h:(HO.obj b (Y8 es)).ok g w):(HO.mapo b (imA es)).ok g w:=by
 obtain ⟨hg,hh⟩:=h;refine ⟨hg,(Zx 0 es).toArray,es.length,hh,by simp [pM,imA],fun i k x hi=>?_,fun i k x hi=>?_⟩
 .
  have:=(pL hi).1;simpa [Ek,Ez] using this
 obtain ⟨_,v,rfl,hv⟩:=pL hi;have:((Zx 0 es).toArray.getD i default).val = .int .i64 v:=by simpa [Ek,Ez] using hv
 rw [this];exact .int _ _
theorem GS.imAbs {sl:List (Nat×AV)}{H H2:List HO}{n b:Nat}{es:List (Int×Int)}(k:Nat)(hk:H[k]? = some (.obj b (Y8 es)))(hH2:H.set k (.mapo b (imA es))=H2):GS ⟨sl,H,n⟩ ⟨sl,H2,n⟩:=fun g a w hG=>by
 subst hH2;refine ⟨g,⟨hG.size,hG.defers,hG.sl,?_⟩,Ext.refl g w⟩;exact hG.heap.set (Ext.refl g w) hk (fun c hc=>.inl hc) (HO.im_ok (hG.heap.ok _ (Aj hk))) fun c hc hne _=>⟨rfl,rfl⟩
end Go.Aw
namespace Go.Proofs.YtckhoadldibflaaGreatDoor
open Go Go.Aw
def opsI:List (Int×Int):=[(5,0),(6,1),(7,2),(8,3),(9,4),(10,5),(11,6),(12,7)]
theorem rz_ops (H:List HO):Cf Tryz.prog 130 H [] (fun r H'=>∃b,r = .val (.map (some b))/\H' = .obj b (Y8 opsI)::H):=by
 refine Jg 3 Tryz.func130 rfl ?_;refine Aa (Qp Sa (B7 (Qe (rJ) ?_)));rintro _ _ ⟨b1,rfl,rfl⟩;refine Rt (Rn (i:=0) (H2:=_::_) tok rfl rfl rfl rfl rfl rfl rfl rfl (rfl) rfl) (Rt (Rn (i:=0) (H2:=_::_) tok rfl rfl rfl rfl rfl rfl rfl rfl (rfl) rfl) (Rt (Rn (i:=0) (H2:=_::_) tok rfl rfl rfl rfl rfl rfl rfl rfl (rfl) rfl) (Rt (Rn (i:=0) (H2:=_::_) tok rfl rfl rfl rfl rfl rfl rfl rfl (rfl) rfl) (Rt (Rn (i:=0) (H2:=_::_) tok rfl rfl rfl rfl rfl rfl rfl rfl (rfl) rfl) (Rt (Rn (i:=0) (H2:=_::_) tok rfl rfl rfl rfl rfl rfl rfl rfl (rfl) rfl) (Rt (Rn (i:=0) (H2:=_::_) tok rfl rfl rfl rfl rfl rfl rfl rfl (rfl) rfl) (Rt (Rn (i:=0) (H2:=_::_) tok rfl rfl rfl rfl rfl rfl rfl rfl (rfl) rfl) (Qp Bx (Qp Sa (Rb ?_))))))))));refine ⟨.inr rfl,[.val _],Ze,_,S0,?_⟩;exact ⟨b1,rfl,rfl⟩
def ShN (T:List e8Sc)(V:List Va)(x:Pt):Prop:=(0<=x.op/\x.op<8)/\(M5 x=true->(0<=x.type/\x.type<(T.length:Int))/\(0<=x.var/\x.var<(V.length:Int)))/\(Tu x=true->B3 x.cond<=1048576/\Hg x.cond=0/\U0 T V x.cond=true)
theorem yL {p a x:Pt}(h:a∈p.args)(hx:x∈F2 a):x∈F2 p:=by rw [Mx];exact F9 _ (List.mem_flatMap.2 ⟨a,h,hx⟩)
theorem qA {k:Nat}{q:Int×Int}(h:opsI[k]? = some q):q.1=(k:Int)+5/\q.2=(k:Int)/\k<8:=by
 match k,h with
 | 0,h=>cases h;exact ⟨rfl,rfl,by decide⟩
 | 1,h=>cases h;exact ⟨rfl,rfl,by decide⟩
 | 2,h=>cases h;exact ⟨rfl,rfl,by decide⟩
 | 3,h=>cases h;exact ⟨rfl,rfl,by decide⟩
 | 4,h=>cases h;exact ⟨rfl,rfl,by decide⟩
 | 5,h=>cases h;exact ⟨rfl,rfl,by decide⟩
 | 6,h=>cases h;exact ⟨rfl,rfl,by decide⟩
 | 7,h=>cases h;exact ⟨rfl,rfl,by decide⟩
 | k+8,h=>cases h
def kdS (o:Int)(seen:Array Nat):Int:=if seen.contains o.toNat then o+5 else 0
theorem kd_0 (o:Int):(0:Int)=kdS o #[]:=by unfold kdS;rw [if_neg (by simp)]
theorem kd_T {o:Int}{seen:Array Nat}{k:Nat}{q:Int×Int}(h0:0<=o)(h:opsI[k]? = some q)(he:(q.2==o)=true):q.1=kdS o (seen.push k):=by
 obtain ⟨h1,h2,_⟩:=qA h;have h3:q.2=o:=by simpa using he
 unfold kdS;rw [if_pos (Ti.2 (.inr (by omega)))];omega
theorem kd_F {o z:Int}{seen:Array Nat}{k:Nat}{q:Int×Int}(h0:0<=o)(h:opsI[k]? = some q)(he:(q.2==o)=false)(hz:z=kdS o seen):z=kdS o (seen.push k):=by
 obtain ⟨h1,h2,_⟩:=qA h;have h3:q.2≠o:=by simpa using he
 rw [hz];unfold kdS
 have:(seen.push k).contains o.toNat=seen.contains o.toNat:=by
  rw [Bool.eq_iff_iff,Ti];exact ⟨fun h=>h.elim id fun h=>by omega,.inl⟩
 rw [this]
theorem kd_all {o z:Int}{seen:Array Nat}(h0:0<=o/\o<8)(h:∀k,k<opsI.length->seen.contains k=true)(hz:z=kdS o seen):z=o+5:=by
 rw [hz];unfold kdS;rw [if_pos (h _ (by show _<8;omega))]
theorem shP_0 {T:List e8Sc}{V:List Va}{p:Pt}(h:(p.op==0)=true):Nf T V p=Uv T V p:=by rw [N6];exact if_pos h
theorem shP_n {T:List e8Sc}{V:List Va}{p:Pt}(h:(p.op==0)=false):Nf T V p=⟨p.op+5,[],[],if (p.op==6) then p.span else 0,p.args.map (Nf T V)++(if (p.op==5) then [Uv T V p] else if (p.op==7) then [Ny T V p.cond] else []),0⟩:=by rw [N6];exact Bo h
section
variable {T:List e8Sc} {V:List Va} {p:Pt}
theorem sp_5 (h0:(p.op==0)=false)(h:(p.op==5)=true):Nf T V p=⟨p.op+5,[],[],0,p.args.map (Nf T V) ++ [Uv T V p],0⟩:=by
 have h6:(p.op==6)=false:=by simp at h ⊢;omega
 rw [shP_n h0,h6,h];rfl
theorem sp_6 (h0:(p.op==0)=false)(h5:(p.op==5)=false)(h:(p.op==6)=true):Nf T V p=⟨p.op+5,[],[],p.span,p.args.map (Nf T V) ++ [],0⟩:=by
 have h7:(p.op==7)=false:=by simp at h ⊢;omega
 rw [shP_n h0,h5,h,h7];rfl
theorem sp_7 (h0:(p.op==0)=false)(h5:(p.op==5)=false)(h6:(p.op==6)=false)(h:(p.op==7)=true):Nf T V p=⟨p.op+5,[],[],0,p.args.map (Nf T V) ++ [Ny T V p.cond],0⟩:=by
 rw [shP_n h0,h5,h6,h];rfl
theorem sp_x (h0:(p.op==0)=false)(h5:(p.op==5)=false)(h6:(p.op==6)=false)(h:(p.op==7)=false):Nf T V p=⟨p.op+5,[],[],0,p.args.map (Nf T V) ++ [],0⟩:=by
 rw [shP_n h0,h5,h6,h];rfl
theorem pt_enc (l:List Pt)(x:Syn):(l.map (Nf T V) ++ [x]).map C6=l.map (fun a=>cSyn (Nf T V a)) ++ [cSyn x]:=by
 rw [Dt,Kr,Wy,Bf];exact congrArg (· ++ _) (Qv fun a _=>Bf _)
theorem pt_enc0 (l:List Pt):(l.map (Nf T V) ++ []).map C6=l.map (fun a=>cSyn (Nf T V a)):=by
 rw [A8,Kr];exact Qv fun a _=>Bf _
end
theorem zI (T:List e8Sc)(V:List Va)(hrv:RvOK T V)(hsn:∀s∈T,Th s)(p:Pt)(hp:∀x∈F2 p,ShN T V x)(hpn:Iw p<=1048576):An Tryz.prog 73 [.agg (cNm T V),.agg (cPt p)] (.agg (cSyn (Nf T V p))):=by
 induction p using Pt.ind
 rename_i p ih;have hal:=N4 p;have hme:=hp p (Rv p);have hop:=hme.1;refine Fb 75 Tryz.func73 rfl fun H=>?_
 refine Aa (Qp (Hu [_,_]) (Qp (Hu Fq) ?_));refine D5 I6 fun b4=>?_
 refine Ax (B5 (Qp (Qf Fq) (Qp B6 (Qp Bl (Bh (fun hc1=>?_) fun hc1=>B2 (Aa ?_))))))
 .
  have ho:p.op=0:=by simpa using hc1
  have htv:=hme.2.1 (by unfold M5;rw [ho];rfl);have hcd:=hme.2.2 (by unfold Tu;rw [ho];rfl);refine Aa (Qp (Cm [_,_]) (Qp (Cm Fq) (Qp (Qc rfl (vG T V hrv hsn p hcd.1 hcd.2.1 hcd.2.2 htv.1 htv.2)) ?_)));refine By 0 Ai (_::_) (Rc ?_);refine Yx [.agg Ai] (Zb 0) S1 ?_;exact Ye (fun q:Syn=>AV.agg (cSyn q)) (shP_0 hc1)
 refine Qp (Jz (l0:=[.int .i64 0,.str [],.str [],.int .i64 0,.val (.slice none 0 0),.int .i64 0]) (l:=Ai) tok rfl rfl (by kernel_rfl) rfl) ?_;refine D5 I6 fun b5=>?_
 refine By 0 Ai (_::_::_) (Ax (B5 (Qe (Dq rfl (rz_ops _)) ?_)));rintro _ _ ⟨b17,rfl,rfl⟩;refine Qe (lS (i:=0) tok rfl rfl rfl rfl) ?_;rintro _ _ ⟨i18,rfl,rfl⟩;refine Ax (AW.block ?_);refine AW.Aad (fun (z:Int×Array Nat)=>(⟨[(2,.ptr (cNm T V)),(3,.ptr (cPt p)),(4,.val (.pointer (some ⟨b4,0,none⟩))),(5,.val (.pointer (some ⟨b5,0,none⟩))),(18,.val (.pointer (some ⟨i18,0,none⟩)))],.obj i18 (itO b17 8 z.2) :: .obj b17 (Y8 opsI) :: .box b5 25 [.int .i64 z.1,.str [],.str [],.int .i64 0,.val (.slice none 0 0),.int .i64 0] :: .box b4 25 I6::H,75⟩:St)) (fun z=>z.1=kdS p.op z.2) (fun z=>tS 8 z.2) ((0,#[])) ?_ C2 ?_
 . exact kd_0 _
 rintro z hR;refine AW.seq (AW.mapNext (i:=0) (j:=1) rfl rfl rfl rfl rfl rfl ?_ ?_)
 .
  intro hov5;obtain ⟨z1,z2⟩:=z;have hkd:z1=p.op+5:=kd_all hop hov5 hR;subst hkd;refine Av (AW.seq (Hb (fun hc2=>?_) fun hc2=>AW.exit ?_))
  . exact absurd (hc2.symm.trans rfl) (by decide)
  refine B1 (Ri (AW.seq (AW.seq ?_)));refine AW.ghost (GS.cellRow 2 4 25 6 rfl rfl rfl rfl) ?_
  skip
  refine AW.region (Qp (Qf pG) (Qp Dd ?_));refine Qp (E6 p.args.length rfl rfl (by simp)) ?_;refine Qp Ap (Ax (AW.block ?_));refine AW.Aad (fun (q:Nat×List (List AV)×Value)=>(⟨[(2,.ptr (cNm T V)),(3,.ptr (cPt p)),(4,.val (.pointer (some ⟨b4,0,none⟩))),(5,.val (.pointer (some ⟨b5,0,none⟩))),(31,.sl 14 (p.args.map Oq)),(32,.int .i64 p.args.length),(33,.int .i64 (q.1:Int))],.row q.2.2 q.2.1.length 25 6 :: .obj i18 (itO b17 8 z2) :: .obj b17 (Y8 opsI) :: .box b5 25 [.int .i64 (p.op+5),.str [],.str [],.int .i64 0,.row q.2.2 6 q.2.1,.int .i64 0] :: .box b4 25 I6::H,75⟩:St)) (fun q=>q.1<=p.args.length/\q.2.1=(p.args.take q.1).map (fun a=>cSyn (Nf T V a))/\q.2.1.length<=q.1) (fun q=>p.args.length-q.1) ((0,[],.slice none 0 0)) ?_ C2 ?_
  . exact ⟨A9 _,rfl,Br _⟩
  rintro q hR;refine Aa (Qp Cn (Re (Hb (fun hc3=>?_) fun hc3=>?_)))
  .
   obtain ⟨a,ha⟩:=Cj hc3;have hlt:=Bz ha;have hm:=Aj ha;have hsc:∀c∈q.2.1,A0 c=true:=by rw [hR.2.1];exact fun c hc=>by obtain ⟨x,_,rfl⟩:=Cl.1 hc;rfl
   have hql:=hR.2.2;refine B2 (AW.seq (AW.block (Aa ?_)));refine Qp (Eh Fq rfl rfl (by omega) (Vw ha)) ?_;refine Qp (Cm Fq) (D5 ghx fun b9=>?_);refine By 0 Fq (_::_::_::_::_::_::_) ?_;refine Kc 9 0 rfl ?_;refine Ax (Rm 3 rfl (Qn 0 rfl Cw (Qn 1 rfl (Lw (.row _ _ _) rfl) (Qn 2 rfl (Cm [_,_]) (Qn 3 rfl (Cm Fq) ?_)))));refine Qn 4 rfl (Qc rfl (ih a hm (fun x hx=>hp x (yL hm hx)) (by have:=Mb hm;omega))) ?_;refine Qn 5 rfl (Jh [Ai] rfl) ?_;refine Xa 6 rfl (W0 0 rfl (Et rfl) (hsc) (by simp;omega) (by simp [maxLen];omega)) (by rintro _ _ ⟨v43,rfl,rfl⟩;simp) ?_;rintro _ _ ⟨v43,rfl,rfl⟩;refine Qn 7 rfl Cw ?_;refine fY 8 rfl (Kt 3 (.row _ _ _) Ai (_::_::_::_::_::_) rfl) ?_;rintro _ _ ⟨rfl,rfl⟩;refine J1 (Av (AW.region (Qp Gw (Qp Ap (Ax ?_)))));refine ⟨(q.1+1,q.2.1 ++ [cSyn (Nf T V a)],v43),?_,?_,C2⟩
   . exact ⟨hlt,by simp only;rw [C9 ha,hR.2.1];simp,by simp;omega⟩
   simp only;omega
  have hte:=Ds hc3;have hall:=hR.2.1;rw [hte] at hall;have hsc:∀c∈q.2.1,A0 c=true:=by rw [hR.2.1];exact fun c hc=>by obtain ⟨x,_,rfl⟩:=Cl.1 hc;rfl
  have hql:=hR.2.2;refine AW.exit ?_;refine B1 (Ri (B5 (Qp (Qf Fq) (Qp B6 (Ax (AW.block ?_))))));refine Aa (Qp Bl (Qp Bc (Bh (fun hc4=>?_) fun hc4=>Aa (Qp Bl (Qp Bc (Bh (fun hc5=>AW.region (Qp (Qf gkz) (Qp B6 (Qp Cw ?_)))) fun hc5=>Aa (Qp Bl (Qp Bc (Bh (fun hc6=>?_) fun hc6=>Rf (Aa ?_))))))))))
  .
   have ho:p.op=5:=by simpa using hc4
   have htv:=hme.2.1 (by unfold M5;rw [ho];rfl);have hcd:=hme.2.2 (by unfold Tu;rw [ho];rfl);refine Rm 3 rfl (Qn 0 rfl Cw (Qn 1 rfl (Lw (.row _ _ _) rfl) (Qn 2 rfl (Cm [_,_]) (Qn 3 rfl (Cm Fq) (Qn 4 rfl (Qc rfl (vG T V hrv hsn p hcd.1 hcd.2.1 hcd.2.2 htv.1 htv.2)) (Qn 5 rfl (Jh [Ai] rfl) ?_))))));refine Xa 6 rfl (W0 0 rfl (Et rfl) (hsc) (by simp;omega) (by simp [maxLen];omega)) (by rintro _ _ ⟨v56,rfl,rfl⟩;simp) ?_;rintro _ _ ⟨v56,rfl,rfl⟩;refine Qn 7 rfl Cw ?_;refine fY 8 rfl (Kt 3 (.row _ _ _) Ai (_::_::_::_::_::_) rfl) ?_;rintro _ _ ⟨rfl,rfl⟩;refine J1 (Av (Aa ?_));refine AOL.ghost (GS.cell (H2:=_::_::_::_::_::_) 3 4 rfl rfl rfl rfl Eu) ?_;refine Sb 3 Ai rfl ?_;refine By 4 Ai (_::_::_::_::_::_) (Rb ?_);refine Yx [.agg Ai] (Zb 4) S5 ?_;exact Eq.trans (congrArg (fun l:List (List AV)=>AV.agg [.int .i64 (p.op+5),.str [],.str [],.int .i64 (0),.sl 6 l,.int .i64 0]) (Eq.trans (congrArg (· ++ [cSyn (Uv T V p)]) hall) (pt_enc p.args (Uv T V p)).symm)) (congrArg (fun q:Syn=>AV.agg (cSyn q)) (sp_5 hc1 hc4)).symm
  .
   refine By 3 Ai (_::_::_::_::_::_) (Rk (Aa ?_));refine AOL.ghost (GS.cell (H2:=_::_::_::_::_::_) 3 4 rfl rfl rfl rfl Eu) ?_;refine Sb 3 Ai rfl ?_;refine By 4 Ai (_::_::_::_::_::_) (Rb ?_);refine Yx [.agg Ai] (Zb 4) S5 ?_;exact Eq.trans (congrArg (fun l:List (List AV)=>AV.agg [.int .i64 (p.op+5),.str [],.str [],.int .i64 (p.span),.sl 6 l,.int .i64 0]) (Eq.trans hall (pt_enc0 p.args).symm)) (congrArg (fun q:Syn=>AV.agg (cSyn q)) (sp_6 hc1 hc4 hc5)).symm
  .
   have ho:p.op=7:=by simpa using hc6
   have hcd:=hme.2.2 (by unfold Tu;rw [ho];rfl);refine Rm 3 rfl (Qn 0 rfl Cw (Qn 1 rfl (Lw (.row _ _ _) rfl) (Qn 2 rfl (Cm [_,_]) (Qn 3 rfl fM (Qn 4 rfl Rl (Qn 5 rfl (Qc rfl (zG T V hrv hsn p.cond hcd.1 hcd.2.1 hcd.2.2)) (Qn 6 rfl (Jh [Ai] rfl) ?_)))))));refine Xa 7 rfl (W0 0 rfl (Et rfl) (hsc) (by simp;omega) (by simp [maxLen];omega)) (by rintro _ _ ⟨v72,rfl,rfl⟩;simp) ?_;rintro _ _ ⟨v72,rfl,rfl⟩;refine Qn 8 rfl Cw ?_;refine fY 9 rfl (Kt 3 (.row _ _ _) Ai (_::_::_::_::_::_) rfl) ?_;rintro _ _ ⟨rfl,rfl⟩;refine J1 (Av (Aa ?_));refine AOL.ghost (GS.cell (H2:=_::_::_::_::_::_) 3 4 rfl rfl rfl rfl Eu) ?_;refine Sb 3 Ai rfl ?_;refine By 4 Ai (_::_::_::_::_::_) (Rb ?_);refine Yx [.agg Ai] (Zb 4) S5 ?_;exact Eq.trans (congrArg (fun l:List (List AV)=>AV.agg [.int .i64 (p.op+5),.str [],.str [],.int .i64 (0),.sl 6 l,.int .i64 0]) (Eq.trans (congrArg (· ++ [cSyn (Ny T V p.cond)]) hall) (pt_enc p.args (Ny T V p.cond)).symm)) (congrArg (fun q:Syn=>AV.agg (cSyn q)) (sp_7 hc1 hc4 hc5 hc6)).symm
  refine AOL.ghost (GS.cell (H2:=_::_::_::_::_::_) 3 4 rfl rfl rfl rfl Eu) ?_;refine Sb 3 Ai rfl ?_;refine By 4 Ai (_::_::_::_::_::_) (Rb ?_);refine Yx [.agg Ai] (Zb 4) S5 ?_;exact Eq.trans (congrArg (fun l:List (List AV)=>AV.agg [.int .i64 (p.op+5),.str [],.str [],.int .i64 (0),.sl 6 l,.int .i64 0]) (Eq.trans hall (pt_enc0 p.args).symm)) (congrArg (fun q:Syn=>AV.agg (cSyn q)) (sp_x hc1 hc4 hc5 hc6)).symm
 intro mk5 mp5 hmp5 hmk5;refine Av (AW.seq (Hb (fun hc7=>B2 (AW.block (Aa (AOL.Aag (lU (i:=0) (j:=1) rfl rfl hmp5) rfl rfl (Qp Lv (Qp Lv (Qp Aq (Qp Aq (B7 (Qp Ap (Qp (Qf Fq) (Qp B6 (Qp Bl (Bh (fun hc8=>AW.region (Qp Ap (Qp Cw ?_))) fun hc8=>Rf ?_)))))))))))))) fun hc7=>?_))
 .
  refine By 2 Ai (_::_::_::_::_) (Rk ?_);refine ⟨(mp5.1,z.2.push mk5),?_,?_,C2⟩
  . exact kd_T hop.1 hmp5 hc8
  exact jL (qA hmp5).2.2 hmk5
 .
  refine ⟨(z.1,z.2.push mk5),?_,?_,C2⟩
  . exact kd_F hop.1 hmp5 hc8 hR
  exact jL (qA hmp5).2.2 hmk5
 exact absurd (hc7.symm.trans rfl) (by decide)
def Zk (p:Pt):List (Int×Int):=if M5 p then [(p.var,p.type)] else []
theorem qU (p:Pt):Ls p=Zk p++p.args.flatMap Ls:=tyP_eq p
def KN (L:List (Int×Int)):Prop:=(L.map (·.1)).Nodup
def TyM (L es:List (Int×Int)):Prop:=KN es/\∀x,x∈es↔x∈L
theorem tN {p a:Pt}{k:Nat}(ha:p.args[k]? = some a):Ls p=((Zk p++(p.args.take k).flatMap Ls)++Ls a)++(p.args.drop (k+1)).flatMap Ls:=by
 have e:p.args=p.args.take k++a::p.args.drop (k+1):=by rw [<-A2 ha,Zu]
 rw [qU,C1,C1];exact congrArg (Zk p ++ ·) ((congrArg (fun l=>l.flatMap Ls) e).trans (by rw [List.flatMap_append,Ld]))
theorem kn_part {p a:Pt}{k:Nat}(h:KN (Ls p))(ha:p.args[k]? = some a):KN ((Zk p++(p.args.take k).flatMap Ls)++Ls a):=by
 unfold KN at h ⊢;rw [tN ha,Dt] at h;exact (Mf.1 h).1
theorem kn_arg {p a:Pt}(h:KN (Ls p))(hm:a∈p.args):KN (Ls a):=by
 obtain ⟨k,hk⟩:=Gp.1 hm;have h1:=kn_part h hk;unfold KN at h1 ⊢;rw [Dt] at h1;exact (Mf.1 h1).2.1
def InM (L es2 es:List (Int×Int))(seen:Array Nat):Prop:=KN es/\∀y,y∈es↔y∈L\/∃j,es2[j]? = some y/\seen.contains j=true
theorem ty_ne {L A es2 es:List (Int×Int)}{seen:Array Nat}{k:Nat}{x:Int×Int}(hn:KN (L++A))(h2:TyM A es2)(hz:InM L es2 es seen)(hx:es2[k]? = some x)(hk:seen.contains k=false):∀q∈es,q.1≠x.1:=by
 intro q hq he;rcases (hz.2 q).1 hq with hL | ⟨j,hj,hs⟩
 .
  unfold KN at hn;rw [Dt] at hn;exact (Mf.1 hn).2.2 _ (Cl.2 ⟨q,hL,rfl⟩) _ (Cl.2 ⟨x,(h2.2 x).1 (Aj hx),rfl⟩) he
 have h3:(es2.map (·.1))[j]? = (es2.map (·.1))[k]? :=by rw [List.getElem?_map,List.getElem?_map,hj,hx];exact congrArg some he
 have hlt:j<(es2.map (·.1)).length:=by rw [Bt];exact (List.getElem?_eq_some_iff.1 hj).1
 have:=(List.getElem?_inj hlt h2.1).1 h3;subst this;rw [hs] at hk;cases hk
theorem ty_push {L es2 es:List (Int×Int)}{seen:Array Nat}{k:Nat}{x:Int×Int}(hz:InM L es2 es seen)(hx:es2[k]? = some x)(hne:∀q∈es,q.1≠x.1):InM L es2 (es ++ [(x.1,x.2)]) (seen.push k):=by
 refine ⟨?_,fun y=>?_⟩
 .
  unfold KN;rw [Dt];refine Mf.2 ⟨hz.1,by simp,fun a ha b hb=>?_⟩;obtain ⟨q,hq,rfl⟩:=Cl.1 ha;rw [Wy,Ft] at hb;subst hb;exact hne q hq
 rw [Is,Ft,hz.2 y]
 constructor
 .
  rintro ((h | ⟨j,h1,h2⟩) | h)
  . exact .inl h
  . exact .inr ⟨j,h1,Ti.2 (.inl h2)⟩
  exact .inr ⟨k,by rw [h];exact hx,Ti.2 (.inr rfl)⟩
 rintro (h | ⟨j,h1,h2⟩)
 . exact .inl (.inl h)
 rcases Ti.1 h2 with h3 | h3
 . exact .inl (.inr ⟨j,h1,h3⟩)
 subst h3;rw [hx] at h1;exact .inr (Option.some.inj h1).symm
theorem ty_done {L A es2 es:List (Int×Int)}{seen:Array Nat}(h2:TyM A es2)(hz:InM L es2 es seen)(hall:∀k,k<es2.length->seen.contains k=true):TyM (L++A) es:=by
 refine ⟨hz.1,fun x=>?_⟩;rw [hz.2 x,Is,<-h2.2 x]
 constructor
 .
  rintro (h | ⟨j,h1,_⟩)
  . exact .inl h
  exact .inr (Aj h1)
 rintro (h | h)
 . exact .inl h
 obtain ⟨j,hj⟩:=Gp.1 h;exact .inr ⟨j,hj,hall j (List.getElem?_eq_some_iff.1 hj).1⟩
theorem ty_init {L es es2:List (Int×Int)}(h:TyM L es):InM L es2 es #[]:=⟨h.1,fun y=>by
 rw [h.2 y];exact ⟨.inl,fun q=>q.elim id fun ⟨j,_,h3⟩=>by simp at h3⟩⟩
theorem ty_own (p:Pt):TyM (Zk p++(p.args.take 0).flatMap Ls) (Zk p):=by
 rw [Wu,List.flatMap_nil,A8];refine ⟨?_,fun x=>Iff.rfl⟩;unfold KN Zk;split
 . simp
 exact Uo
theorem ty_next {p a:Pt}{k:Nat}{es:List (Int×Int)}(ha:p.args[k]? = some a)(h:TyM ((Zk p++(p.args.take k).flatMap Ls)++Ls a) es):TyM (Zk p++(p.args.take (k+1)).flatMap Ls) es:=by
 rw [C9 ha,List.flatMap_append,List.flatMap_singleton,<-C1];exact h
theorem ty_end {p:Pt}{es:List (Int×Int)}(h:TyM (Zk p++p.args.flatMap Ls) es):TyM (Ls p) es:=by rw [qU];exact h
theorem rz_typed (p:Pt)(hnd:KN (Ls p))(hpn:Iw p<=1048576)(H:List HO):Cf Tryz.prog 191 H [.agg (cPt p)] (fun r H'=>∃b es,r = .val (.map (some b))/\H' = .obj b (Y8 es)::H/\TyM (Ls p) es):=by
 induction p using Pt.ind generalizing H
 rename_i p ih;have hal:=N4 p;refine Jg 42 Tryz.func191 rfl ?_;refine Aa (Qp (Hu Fq) (Qp Sa (B7 (Qe (rJ) ?_))));rintro _ _ ⟨b8,rfl,rfl⟩;refine Qp Sa (Ax ?_);refine AW.Aai (fun (z0:List (Int×Int))=>(⟨[(1,.ptr (cPt p)),(3,.val (.map (some b8)))],.obj b8 (Y8 z0)::H,42⟩:St)) (fun z0=>z0=Zk p) ?_ ?_
 .
  refine Aa (Qp (Qf Fq) (Qp B6 (Qp Bl (Qp Cc (Qg [] Qw (Qf Fq) (Qg [(13,_)] Qw B6 (Qg [(14,_)] Qw Bl (Qp E5 (Bh (fun hc1=>AW.region (Qp Bx (Qp (Qf gix) (Qp B6 (Qp (Qf gjx) (Qp B6 (Rt (E_imAdd (i:=0) (H2:=_::_) tok rfl rfl rfl rfl rfl rfl rfl rfl (rfl) rfl) (Ax ?_)))))))) fun hc1=>B2 ?_)))))))))
  .
   refine ⟨[(p.var,p.type)],?_,C2⟩;exact (if_pos hc1).symm
  refine ⟨[],?_,C2⟩;exact (Bo hc1).symm
 rintro z0 hz0;subst hz0;refine B5 (Qp (Qf pG) (Qp Dd ?_));refine Qp (E6 p.args.length rfl rfl (by simp)) ?_;refine Qp Ap (Ax (AW.block ?_));refine AW.Aad (fun (q:Nat×List (Int×Int))=>(⟨[(1,.ptr (cPt p)),(3,.val (.map (some b8))),(23,.sl 14 (p.args.map Oq)),(24,.int .i64 p.args.length),(25,.int .i64 (q.1:Int))],.obj b8 (Y8 q.2)::H,42⟩:St)) (fun q=>q.1<=p.args.length/\TyM (Zk p++(p.args.take q.1).flatMap Ls) q.2) (fun q=>p.args.length-q.1) ((0,Zk p)) ?_ C2 ?_
 . exact ⟨A9 _,ty_own p⟩
 rintro q hR;refine Aa (Qp Cn (Re (Hb (fun hc2=>?_) fun hc2=>?_)))
 .
  obtain ⟨a,ha⟩:=Cj hc2;have hlt:=Bz ha;have hm:=Aj ha;refine B2 (AW.seq (AW.block (Aa ?_)));refine Qp (Eh Fq rfl rfl (by omega) (Vw ha)) ?_;refine Qp (Cm Fq) (D5 ghx fun b5=>?_);refine By 0 Fq (_::_::_) ?_;refine Kc 5 0 rfl ?_;refine B7 (Qp (Cm Fq) ?_);refine Qe (Dq rfl (ih a hm (kn_arg hnd hm) (by have:=Mb hm;omega) _)) ?_;rintro _ _ ⟨b30,es30,rfl,rfl,hty30⟩;refine Qe (lS (i:=0) tok rfl rfl rfl rfl) ?_;rintro _ _ ⟨i31,rfl,rfl⟩;refine Ax (AW.block ?_);refine AW.Aad (fun (z:List (Int×Int)×Array Nat)=>(⟨[(1,.ptr (cPt p)),(3,.val (.map (some b8))),(23,.sl 14 (p.args.map Oq)),(24,.int .i64 p.args.length),(25,.int .i64 (q.1:Int)),(31,.val (.pointer (some ⟨i31,0,none⟩)))],.obj i31 (itO b30 es30.length z.2) :: .obj b30 (Y8 es30) :: .obj b8 (Y8 z.1)::H,42⟩:St)) (fun z=>InM (Zk p++(p.args.take q.1).flatMap Ls) es30 z.1 z.2) (fun z=>tS es30.length z.2) ((q.2,#[])) ?_ C2 ?_
  . exact ty_init hR.2
  rintro z hz;refine AW.seq (AW.mapNext (i:=0) (j:=1) rfl rfl rfl rfl rfl rfl ?_ ?_)
  .
   intro hov8;have htd:=ty_done hty30 hz hov8;refine Av (AW.seq (Hb (fun hc3=>?_) fun hc3=>AW.exit ?_))
   . exact absurd (hc3.symm.trans rfl) (by decide)
   refine B1 (B1 (U9 (J1 (Av (AW.region (Qp Gw (Qp Ap (Ax ?_))))))));refine ⟨(q.1+1,z.1),?_,?_,GS.weaken ⟨rfl,rfl,rfl,rfl,rfl,trivial⟩ (.cons _ (.cons _ (.refl _)))⟩
   . exact ⟨hlt,ty_next ha htd⟩
   simp only;omega
  intro mk8 mp8 hmp8 hmk8;have hnw:=ty_ne (kn_part hnd ha) hty30 hz hmp8 hmk8;refine Av (AW.seq (Hb (fun hc4=>B2 (AW.block (Aa (AOL.Aag (lU (i:=0) (j:=1) rfl rfl hmp8) rfl rfl (Qp Lv (Qp Lv (Qp Aq (Qp Aq (Ax (AW.region (Qp Bx (Qp Ap (Qp Ap (Rt (E_imAdd (i:=2) (H2:=_::_::_::_) tok rfl rfl rfl rfl rfl rfl rfl rfl (jG hnw) rfl) (Rk ?_))))))))))))))) fun hc4=>?_))
  .
   refine ⟨(z.1 ++ [(mp8.1,mp8.2)],z.2.push mk8),?_,?_,C2⟩
   . exact ty_push hz hmp8 hnw
   exact jL (List.getElem?_eq_some_iff.1 hmp8).1 hmk8
  exact absurd (hc4.symm.trans rfl) (by decide)
 have hte:=Ds hc2;have hall:=hR.2;rw [hte] at hall;refine AW.exit ?_;refine B1 (Ri (Aa (Qp Bx (Qp Sa (Rb ?_)))));refine ⟨.inr rfl,[.val _],Ze,_,S0,?_⟩;exact ⟨b8,q.2,rfl,rfl,ty_end hall⟩
end Go.Proofs.YtckhoadldibflaaGreatDoor
