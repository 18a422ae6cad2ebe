/-
  Several texts in one: R34w, Am, R35w, R36w, R37w, R38w, R39w, R14w, R15w, R16w. No condition.
-/
import Derived.Test.YtckhoadldibflaaGreatDoorK01
import Derived.Test.YtckhoadldibflaaGreatDoorK08
import Derived.Test.YtckhoadldibflaaGreatDoorK09
import Derived.Test.YtckhoadldibflaaGreatDoorK06
import Derived.KernelRfl
import Derived.Test.YtckhoadldibflaaGreatDoorK04
import Derived.Maps.RangeRun
import Derived.Test.YtckhoadldibflaaGreatDoorK07
import Derived.Test.YtckhoadldibflaaGreatDoorK05
set_option linter.unusedVariables false
set_option linter.unusedSimpArgs false
set_option maxHeartbeats 12800000
set_option maxRecDepth 20000
namespace Go.Proofs.YtckhoadldibflaaGreatDoor
open Go Go.Aw
theorem scLe (l:List Syn):∀c∈l.map C3,A7 c=true:=fun c hc=>by
 obtain ⟨x,_,rfl⟩:=Db.1 hc;rw [Bi];rfl
section
variable {T:List e8Sc} {V:List Va} {e:Ex}
theorem sh_0 (h:(e.op==0)=true):Io T V e=Ro e.val:=by rw [L0];exact if_pos h
theorem sh_1 (h0:(e.op==0)=false)(h:(e.op==1)=true)(hf:Tf T V e.var e.field=false):Io T V e=⟨14,Y8 V e.var,(X3 T V e.var e.field).1,0,[],0⟩:=by rw [L0,lG hf];exact (Bl h0).trans (if_pos h)
theorem sh_2 (h0:(e.op==0)=false)(h1:(e.op==1)=false)(h:(e.op==2)=true):Io T V e=⟨14,Y8 V e.var,F6,0,[],0⟩:=by rw [L0];exact (Bl h0).trans ((Bl h1).trans (if_pos h))
theorem sh_3 (h0:(e.op==0)=false)(h1:(e.op==1)=false)(h2:(e.op==2)=false)(h:(e.op==3)=true):Io T V e=⟨15,Y8 V e.var,[],0,[],0⟩:=by rw [L0];exact (Bl h0).trans ((Bl h1).trans ((Bl h2).trans (if_pos h)))
theorem sh_4 (h0:(e.op==0)=false)(h1:(e.op==1)=false)(h2:(e.op==2)=false)(h3:(e.op==3)=false)(h:(e.op==4)=true)(hf:Tf T V e.var e.field=false):Io T V e=⟨16,Y8 V e.var,(X3 T V e.var e.field).1,e.kind,if (e.kind != 1) then [Ro e.val] else [],0⟩:=by rw [L0,lG hf];exact (Bl h0).trans ((Bl h1).trans ((Bl h2).trans ((Bl h3).trans (if_pos h))))
theorem sh_4y (h0:(e.op==0)=false)(h1:(e.op==1)=false)(h2:(e.op==2)=false)(h3:(e.op==3)=false)(h:(e.op==4)=true)(hf:Tf T V e.var e.field=false)(hk:(e.kind != 1)=true):Io T V e=⟨16,Y8 V e.var,(X3 T V e.var e.field).1,e.kind,[Ro e.val],0⟩:=by rw [sh_4 h0 h1 h2 h3 h hf,if_pos hk]
theorem sh_4n (h0:(e.op==0)=false)(h1:(e.op==1)=false)(h2:(e.op==2)=false)(h3:(e.op==3)=false)(h:(e.op==4)=true)(hf:Tf T V e.var e.field=false)(hk:(e.kind != 1)=false):Io T V e=⟨16,Y8 V e.var,(X3 T V e.var e.field).1,e.kind,[],0⟩:=by rw [sh_4 h0 h1 h2 h3 h hf,Bl hk]
def shK (e:Ex):Int×Int:=if (e.op==12) then (18,0) else (17,e.op)
theorem sh_n (h0:(e.op==0)=false)(h1:(e.op==1)=false)(h2:(e.op==2)=false)(h3:(e.op==3)=false)(h4:(e.op==4)=false):Io T V e=⟨(shK e).1,[],[],(shK e).2,e.args.map (Io T V),0⟩:=by
 rw [L0];refine (Bl h0).trans ((Bl h1).trans ((Bl h2).trans ((Bl h3).trans ((Bl h4).trans ?_))));unfold shK;split <;> rfl
theorem Ya (hn:C0 e=0)(hk:X9 T V e=true)(ho:e.op=1\/e.op=4):Tf T V e.var e.field=false:=by
 obtain ⟨k1,k2⟩:=Z1 hk (D1 hn).1;have hp:=Q4 hn;have h1:=k1 (by omega);have h2:=k2 ho;unfold Tf;simp only [En,Ih];omega
theorem rQ (hn:C0 e=0)(ho:e.op=0\/e.op=4):0<=e.val.kind/\e.val.kind<=2:=by
 have h:=(jX (D1 hn).1).2.1 ho;unfold C4 at h;split at h
 . rename_i h1;simp at h1;omega
 split at h
 . rename_i h1;simp at h1;omega
 cases h
end
theorem sh_enc {T:List e8Sc}{V:List Va}(l:List Ex):(l.map (Io T V)).map C3=l.map (fun a=>cSyn (Io T V a)):=by rw [List.map_map];exact List.map_congr_left fun a _=>Bi _
abbrev Lm (q:Syn):AV:=AV.agg (cSyn q)
theorem uI (T:List e8Sc)(V:List Va)(hrv:RvOK T V)(hsn:∀s∈T,Ly s)(e:Ex)(hs:Bz e<=1048576)(hn:C0 e=0)(hk:Kp T V e=true):Ak Tryz.prog 74 [.agg (cNm T V),.agg (cE e)] (.agg (cSyn (Io T V e))):=by
 induction e using Ex.ind
 rename_i e ih;have hal:=Mb e hs;have hp:=Q4 hn;have hna:=(D1 hn).2;rw [Rz,Cz] at hk;have hko:=hk.1;have hka:=E3.1 hk.2;have hkp:=Z1 hko (D1 hn).1;refine Cw 115 Tryz.func74 rfl fun H=>?_
 refine Aa (Qp (Eh [_,_]) (Qp iM (Dx F1 fun b4=>Aq (Ba (Qp Pj (Qp Be (Aq (AW.block (Aa (Qp Aj (Qp Ao ?_)))))))))));refine Ap (fun hc1=>?_) fun hc1=>Aa (Qp Aj (Qp Ao (Ap (fun hc2=>?_) fun hc2=>Aa (Qp Aj (Qp Ao (Ap (fun hc3=>?_) fun hc3=>Aa (Qp Aj (Qp Ao (Ap (fun hc4=>?_) fun hc4=>Aa (Qp Aj (Qp Ao (Ap (fun hc5=>?_) fun hc5=>Rf (Aa (Qp Pj (Qp Be ?_)))))))))))))))
 .
  have ho:e.op=0:=by simpa using hc1
  have hvk:=rQ hn (.inl ho);refine Aa (Qp Vy (Qp (B1 Mf) (Qp (Qc rfl (bZ e.val hvk.1 hvk.2)) ?_)));refine Bw 0 Ag (_::_) (Ra ?_);refine Yx [.agg Ag] (Zb 0) S1 ?_;exact Ye Lm (sh_0 hc1)
 .
  have ho:e.op=1:=by simpa using hc2
  have hv1:=hkp.1 (.inl ho);have hfn:=Ya hn hko (.inl ho);refine Aa (Qp (B1 [_,_]) (Qp bF (Qp Be (Qp kS (Qp Be (Qp (Qc rfl (gF T V hrv e.var e.field)) (Qp Ml (Qp kT (Qp bG (Qp Dj (Qp Ao (B2 (Qp (Qf [_]) (Qp Cg (Qp bF (Qp Be ?_))))))))))))))));refine Qp (Cp E4 rfl rfl (hp.1) (Bp (Pc hp.1 hv1))) (Qp (Qf E4) (Qp Dk (Qp D3 (Qp (D0 Ag) ?_))));refine Bw 0 Ag (_::_) (Ra ?_);refine Yx [.agg Ag] (Zb 0) S1 ?_;exact Ye Lm (sh_1 hc1 hc2 hfn)
 .
  have ho:e.op=2:=by simpa using hc3
  have hv1:=hkp.1 (.inr (.inl ho));refine Aa (Qp (Qf [_]) (Qp Cg (Qp bF (Qp Be ?_))));refine Qp (Cp E4 rfl rfl (hp.1) (Bp (Pc hp.1 hv1))) (Qp (Qf E4) (Qp Dk (Qp (D0 Ag) ?_)));refine Bw 0 Ag (_::_) (Ra ?_);refine Yx [.agg Ag] (Zb 0) S1 ?_;exact Ye Lm (sh_2 hc1 hc2 hc3)
 .
  have ho:e.op=3:=by simpa using hc4
  have hv1:=hkp.1 (.inr (.inr (.inl ho)));refine Aa (Qp (Qf [_]) (Qp Cg (Qp bF (Qp Be ?_))));refine Qp (Cp E4 rfl rfl (hp.1) (Bp (Pc hp.1 hv1))) (Qp (Qf E4) (Qp Dk (Qp (D0 Ag) ?_)));refine Bw 0 Ag (_::_) (Ra ?_);refine Yx [.agg Ag] (Zb 0) S1 ?_;exact Ye Lm (sh_3 hc1 hc2 hc3 hc4)
 .
  have ho:e.op=4:=by simpa using hc5
  have hv1:=hkp.1 (.inr (.inr (.inr ho)));have hfn:=Ya hn hko (.inr ho);have hvk:=rQ hn (.inr ho);refine Aa (Qp (B1 [_,_]) (Qp bF (Qp Be (Qp kS (Qp Be (Qp (Qc rfl (gF T V hrv e.var e.field)) (Qp Ml (Qp kT (Qp bG (Qp Dj (Qp Ao (Re ?_))))))))))));refine Id ?_;refine Qn 0 rfl (Qf [_]) (Qn 1 rfl Cg (Qn 2 rfl bF (Qn 3 rfl Be ?_)));refine Qn 4 rfl (Cp E4 rfl rfl (hp.1) (Bp (Pc hp.1 hv1))) (Qn 5 rfl (Qf E4) (Qn 6 rfl Dk (Qn 7 rfl D3 (Qn 8 rfl gZ (Qn 9 rfl Be (Qn 10 rfl (D0 Ag) ?_))))));refine hJ 11 rfl (Gp (l:=F1) (by kernel_rfl)) ?_;rintro _ _ ⟨b9,rfl,rfl⟩;refine Ma 12 rfl (Hx 0 (.agg _) Ag (_::_::_) rfl) ?_;refine Fs ?_;refine A2 (Ba (Qp gZ (Qp Be (Qp Bq (Ap (fun hc6=>AW.region (Qp Vy (Qp (B1 Mf) (Qp (Qc rfl (bZ e.val hvk.1 hvk.2)) (Qp (G0 [Ag] rfl) (Qp Co ?_)))))) fun hc6=>A5 (Aa (Nu 0 Ag rfl ?_)))))))
  .
   refine Bw 0 Ag (_::_::_) (B2 (Nu 0 Ag rfl ?_));refine Bw 1 Ag (_::_::_) (Ra ?_);refine Yx [.agg Ag] (Zb 1) S2 ?_;exact Ye Lm (sh_4y hc1 hc2 hc3 hc4 hc5 hfn hc6)
  refine Bw 1 Ag (_::_::_) (Ra ?_);refine Yx [.agg Ag] (Zb 1) S2 ?_;exact Ye Lm (sh_4n hc1 hc2 hc3 hc4 hc5 hfn hc6)
 refine Qp (Ju (l0:=[.int .i64 0,.str [],.str [],.int .i64 0,.val (.slice none 0 0),.int .i64 0]) (l:=Ag) tok rfl rfl (by kernel_rfl) rfl) ?_;refine Dx F1 fun b10=>?_
 refine Bw 0 Ag (_::_::_) (Aq ?_);refine AW.Aar (fun (z:Int×Int)=>(⟨[(2,.ptr (cNm T V)),(3,.ptr (cE e)),(4,.val (.pointer (some ⟨b4,0,none⟩))),(10,.val (.pointer (some ⟨b10,0,none⟩)))],.box b10 25 [.int .i64 z.1,.str [],.str [],.int .i64 z.2,.val (.slice none 0 0),.int .i64 0] :: .box b4 25 F1::H,115⟩:St)) (fun z=>z=shK e) ?_ ?_
 .
  refine Aa (Qp Pj (Qp Be (Qp Aj (Ap (fun hc7=>AW.region ?_) fun hc7=>A5 ?_))))
  .
   refine Qp (Ju (l0:=[.int .i64 0,.str [],.str [],.int .i64 0,.val (.slice none 0 0),.int .i64 0]) (l:=Ag) tok rfl rfl (by kernel_rfl) rfl) ?_;refine Bw 0 Ag (_::_::_) (Aq ?_);refine ⟨(18,0),?_,Bx⟩;exact (if_pos hc7).symm
  refine ⟨(17,e.op),?_,Bx⟩;exact (Bl hc7).symm
 rintro z hz;subst hz;refine AW.seq (AW.seq ?_);refine AW.ghost (GS.cellRow 0 4 25 6 rfl rfl rfl rfl) ?_
 skip
 refine AW.region (Qp Y7 (Qp Cg ?_));refine Qp (Da e.args.length rfl rfl (by simp)) ?_;refine Qp Ai (Aq (AW.block ?_));refine AW.Aan (fun (q:Nat×List (List AV)×Value)=>(⟨[(2,.ptr (cNm T V)),(3,.ptr (cE e)),(4,.val (.pointer (some ⟨b4,0,none⟩))),(10,.val (.pointer (some ⟨b10,0,none⟩))),(99,.sl 8 (e.args.map F5)),(100,.int .i64 e.args.length),(101,.int .i64 (q.1:Int))],.row q.2.2 q.2.1.length 25 6 :: .box b10 25 [.int .i64 (shK e).1,.str [],.str [],.int .i64 (shK e).2,.row q.2.2 6 q.2.1,.int .i64 0] :: .box b4 25 F1::H,115⟩:St)) (fun q=>q.1<=e.args.length/\q.2.1=(e.args.take q.1).map (fun a=>cSyn (Io T V a))/\q.2.1.length<=q.1) (fun q=>e.args.length-q.1) ((0,[],.slice none 0 0)) ?_ Bx ?_
 . exact ⟨A3 _,rfl,B6 _⟩
 rintro q hR;refine Aa (Qp Bt (Re (E9 (fun hc8=>?_) fun hc8=>?_)))
 .
  obtain ⟨a,ha⟩:=B3 hc8;have hlt:=Bf ha;have hm:=An ha;have hsc:∀c∈q.2.1,A7 c=true:=by rw [hR.2.1];exact fun c hc=>by obtain ⟨x,_,rfl⟩:=Db.1 hc;rfl
  have hql:=hR.2.2;refine A5 (AW.seq (AW.block (Aa ?_)));refine Qp (Cp Hh rfl rfl (by omega) (e_at ha)) ?_;refine Qp Kt (Dx yY fun b12=>?_);refine Bw 0 Hh (_::_::_::_::_) ?_;refine Ji 12 0 rfl ?_;refine Aq (N3 1 rfl (Qn 0 rfl Co (Qn 1 rfl (Kn (.row _ _ _) rfl) (Qn 2 rfl (B1 [_,_]) (Qn 3 rfl Kt ?_)))));refine Qn 4 rfl (Qc rfl (ih a hm (by have:=Gu hm;omega) (hna a hm) (hka a hm))) ?_;refine Qn 5 rfl (G0 [Ag] rfl) ?_;refine Ur 6 rfl (Pk 0 rfl (Dl rfl) (hsc) (by simp;omega) (by simp [maxLen];omega)) (by rintro _ _ ⟨v111,rfl,rfl⟩;simp) ?_;rintro _ _ ⟨v111,rfl,rfl⟩;refine Qn 7 rfl Co ?_;refine bH 8 rfl (Hx 1 (.row _ _ _) Ag (_::_::_::_) rfl) ?_;rintro _ _ ⟨rfl,rfl⟩;refine Gv (A2 (AW.region (Qp Dt (Qp Ai (Aq ?_)))));refine ⟨(q.1+1,q.2.1 ++ [cSyn (Io T V a)],v111),?_,?_,Bx⟩
  . exact ⟨hlt,by simp only;rw [Cf ha,hR.2.1];simp,by simp;omega⟩
  simp only;omega
 have hte:=B9 hc8;have hall:=hR.2.1;rw [hte] at hall;refine AW.exit ?_;refine Bn (Ri (Aa ?_));refine AOL.ghost (GS.cell (H2:=_::_::_::_) 1 4 rfl rfl rfl rfl Dv) ?_;refine Nu 1 Ag rfl ?_;refine Bw 2 Ag (_::_::_::_) (Rb ?_);refine Yx [.agg Ag] (Zb 2) S3 ?_;exact Eq.trans (congrArg (fun l:List (List AV)=>AV.agg [.int .i64 (shK e).1,.str [],.str [],.int .i64 (shK e).2,.sl 6 l,.int .i64 0]) (hall.trans (sh_enc e.args).symm)) (congrArg (fun q:Syn=>AV.agg (cSyn q)) (sh_n hc1 hc2 hc3 hc4 hc5)).symm
theorem kJ {T:List e8Sc}{k:Int}(h:0<=k/\k<(T.length:Int)):T[k.toNat]? = some ((T[k.toNat]?).getD Yu):=by
 rw [List.getElem?_eq_getElem (show k.toNat<T.length by omega)];rfl
theorem evT_y {T:List e8Sc}{V:List Va}{p:Pt}(h:(!(F4 p.cond Lb))=true):jG T V p=⟨5,((T[p.type.toNat]?).getD Yu).name,Y8 V p.var,0,[Io T V p.cond],0⟩:=by unfold jG;rw [if_pos h]
theorem evT_n {T:List e8Sc}{V:List Va}{p:Pt}(h:(!(F4 p.cond Lb))=false):jG T V p=⟨5,((T[p.type.toNat]?).getD Yu).name,Y8 V p.var,0,[],0⟩:=by unfold jG;rw [Bl h]
theorem qQ (T:List e8Sc)(V:List Va)(hrv:RvOK T V)(hsn:∀s∈T,Ly s)(p:Pt)(hs:Bz p.cond<=1048576)(hn:C0 p.cond=0)(hk:Kp T V p.cond=true)(ht:0<=p.type/\p.type<(T.length:Int))(hv:0<=p.var/\p.var<(V.length:Int)):Ak Tryz.prog 129 [.agg (cNm T V),.agg (cPt p)] (.agg (cSyn (jG T V p))):=by
 refine Cw 33 Tryz.func129 rfl fun H=>?_
 refine Aa (Qp (Eh [_,_]) (Qp (Eh Cy) (Dx F1 fun b4=>Re ?_)));refine Id ?_;refine Qn 0 rfl (Qf [_,_]) (Qn 1 rfl Cg (Qn 2 rfl (Qf giz) (Qn 3 rfl Be ?_)));refine Qn 4 rfl (Cp Jl rfl rfl (ht.1) (Bp (kJ ht))) (Qn 5 rfl (Qf Jl) (Qn 6 rfl Dk (Qn 7 rfl (Qf [_]) (Qn 8 rfl Cg (Qn 9 rfl (Qf ghx) (Qn 10 rfl Be ?_))))));refine Qn 11 rfl (Cp E4 rfl rfl (hv.1) (Bp (Pc hv.1 hv.2))) (Qn 12 rfl (Qf E4) (Qn 13 rfl Dk (Qn 14 rfl (D0 Ag) ?_)));refine hJ 15 rfl (Gp (l:=F1) (by kernel_rfl)) ?_;rintro _ _ ⟨b5,rfl,rfl⟩;refine Ma 16 rfl (Hx 0 (.agg _) Ag (_::_::_) rfl) ?_;refine Fs ?_;refine A2 (AW.seq (AW.seq ?_));refine Id ?_;refine Qn 0 rfl Pj (Qn 1 rfl Kt (Qn 2 rfl (Qc rfl (qU)) (Qn 3 rfl (Qc rfl (e8c22 p.cond Lb hs)) (Qn 4 rfl E7 ?_))));refine Fs ?_;refine A2 (E9 (fun hc1=>AW.region (Qp (B1 [_,_]) (Qp Pj (Qp Kt (Qp (Qc rfl (uI T V hrv hsn p.cond hs hn hk)) (Qp (G0 [Ag] rfl) (Qp Co ?_))))))) fun hc1=>A5 (Aa (Nu 0 Ag rfl ?_)))
 .
  refine Bw 0 Ag (_::_::_) (B2 (Nu 0 Ag rfl ?_));refine Bw 1 Ag (_::_::_) (Rb ?_);refine Yx [.agg Ag] (Zb 1) S2 ?_;exact Eq.trans (congrArg (fun c:List AV=>AV.agg [.int .i64 5,.str ((T[p.type.toNat]?).getD Yu).name,.str (Y8 V p.var),.int .i64 0,.sl 6 [c],.int .i64 0]) (Bi (Io T V p.cond)).symm) (congrArg (fun q:Syn=>AV.agg (cSyn q)) (evT_y hc1)).symm
 refine Bw 1 Ag (_::_::_) (Rb ?_);refine Yx [.agg Ag] (Zb 1) S2 ?_;exact Ye Lm (evT_n hc1)
theorem eE (p:Pt):(Jw p).length<=Gy p:=by
 unfold Jw;rw [B7,<-Pq];exact List.length_filter_le _ _
theorem vQ {p:Pt}(k:Nat):((p.args.take k).flatMap Jw).length<=Gy p:=by
 have h:∀l:List Pt,(l.flatMap Jw).length<=(l.map Gy).sum:=by
  intro l
  induction l with
  | nil=>simp
  | cons x r ih=>rw [P6,Ax,Bj,Ed];have:=eE x;omega
 have h1:=h (p.args.take k);have h2:=mI p.args k;have h3:=J5 p;omega
theorem uM (l:List Ex):∀c∈l.map F5,A7 c=true:=fun c hc=>by
 obtain ⟨x,_,rfl⟩:=Db.1 hc;rw [Ky];rfl
def coH (p:Pt):List Ex:=if Ko p then [p.cond] else []
theorem coP_H (p:Pt):Jw p=coH p++p.args.flatMap Jw:=coP_eq p
theorem vP (p:Pt):(coH p).length<=1:=by unfold coH;split <;> simp
theorem rf_conds (p:Pt)(hp:Gy p<=1048576):Ak Tryz.prog 127 [.agg (cPt p)] (.sl 8 ((Jw p).map F5)):=by
 induction p using Pt.ind
 rename_i p ih;have hal:=M8 p;refine Cw 37 Tryz.func127 rfl fun H=>?_
 refine Aa (Qp (Eh Cy) (Qp (Cm (z:=8) rfl) (B2 (Qp Qh ?_))));refine AOL.ghost (GS.row (t:=3) 36 8 rfl) ?_;refine Aq ?_;refine AW.Aar (fun (z:List (List AV)×Value)=>(⟨[(1,.ptr (cPt p)),(2,.sl 8 []),(3,.row z.2 8 z.1)],.row z.2 z.1.length 36 8::H,37⟩:St)) (fun z=>z.1=(coH p).map F5) ?_ ?_
 .
  refine Aa (Qp (Qf Cy) (Qp Be (Qp Aj (Qp A8 (Qg [] Qw (Qf Cy) (Qg [(10,_)] Qw Be (Qg [(11,_)] Qw Aj (Qp Cr (Qp A8 ?_)))))))));refine Qg [] Qw (Qf Cy) (Qg [(15,_)] Qw Be (Qg [(16,_)] Qw Aj (Qp Cr (Ap (fun hc1=>AW.region (Qp (A0 (v:=.row _ _ _) rfl) (Qp Pj (Qp Kt (Qp (G0 [Hh] rfl) ?_))))) fun hc1=>A5 ?_))))
  .
   refine Qe (Pk 0 rfl (Dl rfl) (by simp) (by simp) (by simp [maxLen])) ?_;rintro _ _ ⟨v23,rfl,rfl⟩;refine Qp (Bb (v:=.row _ _ _) rfl) (Aq ?_);refine ⟨([cE p.cond],v23),?_,Bx⟩;show [cE p.cond]=_;unfold coH;rw [show Ko p=true from hc1];exact congrArg (fun c=>[c]) (Ky _).symm
  refine ⟨([],.slice none 0 0),?_,Bx⟩;show []=_;unfold coH;rw [show Ko p=false from hc1];rfl
 rintro z hz;refine Ba (Qp (Qf bS) (Qp Cg ?_));refine Qp (Da p.args.length rfl rfl (by simp)) ?_;refine Qp Ai (Aq (AW.block ?_));refine AW.Aan (fun (q:Nat×List (List AV)×Value)=>(⟨[(1,.ptr (cPt p)),(2,.sl 8 []),(3,.row q.2.2 8 q.2.1),(25,.sl 14 (p.args.map Jd)),(26,.int .i64 p.args.length),(27,.int .i64 (q.1:Int))],.row q.2.2 q.2.1.length 36 8::H,37⟩:St)) (fun q=>q.1<=p.args.length/\q.2.1=(coH p++(p.args.take q.1).flatMap Jw).map F5) (fun q=>p.args.length-q.1) ((0,z.1,z.2)) ?_ Bx ?_
 . exact ⟨A3 _,by rw [hz];simp⟩
 rintro q hR;refine Aa (Qp Bt (Re (E9 (fun hc2=>?_) fun hc2=>?_)))
 .
  obtain ⟨a,ha⟩:=B3 hc2;have hlt:=Bf ha;have hm:=An ha;have hsc:∀c∈q.2.1,A7 c=true:=by rw [hR.2];exact uM _
  have hb1:q.2.1.length<=1048577:=by have h:=vQ (p:=p) q.1;have h2:=vP p;rw [hR.2,B7,Ax];omega
  have hb2:((Jw a).map F5).length<=1048576:=by have:=eE a;have:=K6 hm;rw [B7];omega
  refine A5 (AW.seq (AW.block (Aa ?_)));refine Qp (Cp Cy rfl rfl (by omega) (Jz ha)) ?_;refine Qp (B1 Cy) (Dx ghz fun b5=>?_);refine Bw 0 Cy (_::_::_) ?_;refine Ji 5 0 rfl ?_;refine Aq (AW.region (Qp (A0 (v:=.row _ _ _) rfl) (Qp (B1 Cy) ?_)));refine Qp (Qc rfl (ih a hm (by have:=K6 hm;omega))) ?_;refine Qe (Pk 0 rfl (uM _) (hsc) (by simp at hb2 ⊢;omega) (by simp [maxLen] at hb2 ⊢;omega)) ?_;rintro _ _ ⟨v34,rfl,rfl⟩;refine Qp (Bb (v:=.row _ _ _) rfl) (Rk (AW.region (Qp Dt (Qp Ai (Aq ?_)))));refine ⟨(q.1+1,q.2.1++(Jw a).map F5,v34),?_,?_,Bx⟩
  . exact ⟨hlt,by simp only;rw [Cf ha,hR.2];simp⟩
  simp only;omega
 have hte:=B9 hc2;have hall:=hR.2;rw [hte] at hall;refine AW.exit ?_;refine Bn (Ri (Aa ?_));refine Qp (A0 (v:=.row _ _ _) rfl) ?_;refine AOL.ghost (GS.unrow 36 rfl) ?_;refine Qp Xk (Rb ?_);refine Yx [.sl _ _] Ze S1 ?_;exact (congrArg (AV.sl 8) hall).trans (congrArg (fun q:List Ex=>AV.sl 8 (q.map F5)) (coP_H p)).symm
end Go.Proofs.YtckhoadldibflaaGreatDoor
namespace Go.Aw
open Go
def Xf:Nat->List (Int×Int)->List MapEntry
 | _,[]=>[]
 | i,p::r=>⟨.int .i64 p.1,.int .i64 p.2,i⟩::Xf (i+1) r
def We (es:List (Int×Int)):Obj:=.map (Xf 0 es).toArray es.length
def imA (es:List (Int×Int)):List (Int×AV):=es.map fun p=>(p.1,.int .i64 p.2)
theorem lM:∀(es:List (Int×Int)) (i:Nat),(Xf i es).length=es.length
 | [],_=>rfl
 | p::r,i=>by rw [Xf,A1,A1,lM r]
theorem dB:∀(es:List (Int×Int)) (i k:Nat),(Xf i es)[k]? = (es[k]?).map fun p=>⟨.int .i64 p.1,.int .i64 p.2,i+k⟩
  | [],_,k=>by rw [Xf];simp
  | p::r,i,0=>by rw [Xf];simp
  | p::r,i,k+1=>by
    rw [Xf,List.getElem?_cons_succ,List.getElem?_cons_succ,dB r (i+1) k];rw [show i+1+k=i+(k+1) by omega]
theorem oR:∀(es:List (Int×Int)) (i:Nat) (p:Int×Int),Xf i (es ++ [p])=Xf i es ++ [⟨.int .i64 p.1,.int .i64 p.2,i+es.length⟩]
  | [],i,p=>rfl
  | q::r,i,p=>by
    rw [E2,Xf,Xf,oR r (i+1) p,E2,A1];rw [show i+1+r.length=i+(r.length+1) by omega]
theorem wI {es:List (Int×Int)}{e:MapEntry}(h:e∈Xf 0 es):∃p,es[e.born]? = some p/\e.key = .int .i64 p.1/\e.val = .int .i64 p.2:=by
 obtain ⟨k,hk⟩:=J9.1 h;rw [dB] at hk;obtain ⟨p,hp,rfl⟩:=Sr.1 hk;exact ⟨p,by simpa using hp,rfl,rfl⟩
theorem imE_at {es:List (Int×Int)}{k:Nat}{p:Int×Int}(h:es[k]? = some p):(⟨.int .i64 p.1,.int .i64 p.2,k⟩:MapEntry)∈Xf 0 es:=by
 refine An (i:=k) ?_;rw [dB,h];simp
theorem imE_born (es:List (Int×Int))(i:Nat):(Xf i es).map (·.born)=List.range' i es.length:=by
 induction es generalizing i with
 | nil=>rfl
 | cons p r ih=>rw [Xf,Bj,ih,A1,List.range'_succ]
theorem zA (es:List (Int×Int)):((Xf 0 es).map (·.born)).Nodup:=by rw [imE_born];exact List.nodup_range'
theorem imA_get (es:List (Int×Int))(k:Nat):(imA es)[k]? = (es[k]?).map fun p=>(p.1,AV.int .i64 p.2):=List.getElem?_map ..
theorem lL {es:List (Int×Int)}{j:Nat}{m:Int}{x:AV}(h:(imA es)[j]? = some (m,x)):((Xf 0 es).getD j default).key = .int .i64 m/\∃v,x = .int .i64 v/\((Xf 0 es).getD j default).val = .int .i64 v:=by
 rw [imA_get] at h;obtain ⟨p,hp,he⟩:=Sr.1 h;cases he
 have:=dB es 0 j;rw [hp] at this;rw [Ii,this];exact ⟨rfl,_,rfl,rfl⟩
def Vm:List (Int×Int)->Int->Option Int
 | [],_=>none
 | p::r,n=>if p.1=n then some p.2 else Vm r n
theorem lN:∀(es:List (Int×Int)) (n:Int),Wj (imA es) n=(Vm es n).map (AV.int .i64)
  | [],n=>rfl
  | p::r,n=>by
    show (if p.1=n then some (AV.int .i64 p.2) else Wj (imA r) n)=_;rw [Vm,lN r n];split <;> rfl
theorem fF:∀{es:List (Int×Int)} {n:Int},(∀p∈es,p.1≠n)->Vm es n=none
 | [],n,_=>rfl
 | p::r,n,h=>by rw [Vm,if_neg (h p (by simp))];exact fF fun q hq=>h q (by simp [hq])
theorem jS:∀{es:List (Int×Int)} {n v:Int},(es.map (·.1)).Nodup->(n,v)∈es->Vm es n=some v
  | [],n,v,_,h=>by cases h
  | p::r,n,v,hn,h=>by
    rw [Bj,Le] at hn;rw [Vm];rcases Dn.1 h with rfl | h
    . rw [if_pos rfl]
    . rw [if_neg fun e=>hn.1 (Db.2 ⟨(n,v),h,e.symm⟩)]
      exact jS hn.2 h
section
variable {P:Program} {T:List (Nat×TD)} {d:Option Nat} {ty:TypeId} {pos:String} {aft:Array Edge} {gd:Option (Nat×Bool)} {ρ:Operand->AV}
theorem aM {g:Gh}{w:World}{b:Nat}{o:Obj}(o':Obj)(hg:g b=some 0)(hh:w.heap[b]? = some o) :
  ({ w with heap:=w.heap.setIfInBounds b o' }:World).heap[b]? = some o'/\(∀c,c≠b->({ w with heap:=w.heap.setIfInBounds b o' }:World).heap[c]? = w.heap[c]?)/\Ext g w g { w with heap:=w.heap.setIfInBounds b o' }:=by
 have hb:b<w.heap.size:=(Array.getElem?_eq_some_iff.1 hh).1
 have hoth:∀c,c≠b->({ w with heap:=w.heap.setIfInBounds b o' }:World).heap[c]? = w.heap[c]? :=fun c hc=>by
  simp [Array.getElem?_setIfInBounds_ne (Ne.symm hc)]
 refine ⟨by simp [hb],hoth,rfl,rfl,rfl,by simp,fun c hc hgc=>⟨hgc,hoth c fun e=>by rw [e,hg] at hgc;cases hgc⟩,fun c m' hc hgc=>⟨fun m'' hm''=>by rw [hgc] at hm'';cases hm'';exact B6 _,fun o ho=>?_⟩⟩;have hne:c≠b:=fun e=>by rw [e,hg] at hgc;cases hgc;omega
 unfold World.cell?;rw [hoth c hne]
theorem nJ {t:TypeId}{H:List HO}:Mj P ⟨d,.makeMap t none,ty,pos,aft,gd⟩ ρ H (fun x H'=>∃b,x = .val (.map (some b))/\H' = .obj b (We [])::H):=by
 intro g w a next Q hr hH hn
 unfold Oper.wp;simp only [execOp,Instr.makeMap,Option.map_none,Sem.run_bind,Sem.run_pure,run_newObj,Result.andThen_ok];have hx:=Ext.alloc g w (.map #[] 0) (some 0);refine hn (g.put w.heap.size (some 0)) _ _ _ _ ⟨w.heap.size,rfl,rfl⟩ (.val _) ((hH.alloc _ (some 0)).cons ⟨Gh.Aao _ _ _,C1 w _⟩ ?_) hx;intro b hb x hx' hb';simp only [HO.blk,Option.some.injEq] at hb;have:=(HO.ok_lt (hH.ok x hx') hb').1;omega
theorem jT {t kt et b:Nat}{td tk:TD}{kk:IntKind}{n v:Int}{es:List (Int×Int)}{w:World}(hT:Ir P T)(ht:Bu T t=some td)(hk:td.kind = .map kt et)(htk:Bu T kt=some tk)(hkk:tk.kind = .int kk)
  (hheap:w.heap[b]? = some (We es)) (hnew:Vm es n=none) :
  (Instr.mapUpdate t (.map (some b)) (.int .i64 n) (.int .i64 v)).run P w = .ok () { w with heap:=w.heap.setIfInBounds b (We (es ++ [(n,v)])) }:=by
 have hu:=O6 (hT t td ht) hk;have huk:=Jy (hT kt tk htk) hkk;have hfind:=Rs (k:=kk) (n:=n) (Xf 0 es) (imA es) 0 (by rw [lM,imA,B7]) (fun j m x hj=>(lL hj).1) (by rw [lN,hnew];rfl);have hget:(getObj b).run P w = .ok (We es) w:=by simp [getObj,Sem.run,hheap];rfl
 have hset:∀o:Obj,(setObj b o).run P w = .ok () { w with heap:=w.heap.setIfInBounds b o }:=fun o=>by simp [setObj,Sem.run,hheap];rfl
 unfold Instr.mapUpdate;rw [Sem.run_bind,Bg hu];simp only [Result.andThen_ok,Sem.run_bind,hget];unfold We;simp only [Rn (n:=9999) huk,Result.andThen_ok,Sem.run_bind]
 have hfk:(Instr.findKey kt (.int .i64 n) (Xf 0 es).toArray.toList).run P w = .ok none w:=by
  unfold Instr.findKey;rw [Sem.run_bind,Bg huk];simp only [Result.andThen_ok,hfind,Sem.run_pure]
 simp only [hfk,Result.andThen_ok,hset]
 have e:(Xf 0 es).toArray.push ⟨.int .i64 n,.int .i64 v,es.length⟩=(Xf 0 (es ++ [(n,v)])).toArray:=by
  rw [oR,Dz];simp
 rw [e,show (es ++ [(n,v)]).length=es.length+1 by simp]
theorem vB {t:TypeId}{m k v:Operand}{kt et b i:Nat}{td tk:TD}{kk:IntKind}{n x:Int}{es:List (Int×Int)}{H H2:List HO}(hT:Ir P T)(ht:Bu T t=some td)(hk:td.kind = .map kt et)(htk:Bu T kt=some tk)(hkk:tk.kind = .int kk)
  (hm:ρ m = .val (.map (some b))) (hkey:ρ k = .int .i64 n) (hv:ρ v = .int .i64 x) (hH:H[i]? = some (.obj b (We es))) (hnew:Vm es n=none) (hH2:H.set i (.obj b (We (es ++ [(n,x)])))=H2) :
  Mj P ⟨d,.mapUpdate t m k v,ty,pos,aft,gd⟩ ρ H (fun y H'=>y = .junk/\H'=H2):=by
 subst hH2;intro g w a next Q hr hHK hn
 have h1:=(hm▸hr m (by simp [Op.operands]):Rep g w _ _).inv_val;have h2:=(hkey▸hr k (by simp [Op.operands]):Rep g w _ _).inv_int;have h3:=(hv▸hr v (by simp [Op.operands]):Rep g w _ _).inv_int;obtain ⟨hg,hheap⟩:(HO.obj b (We es)).ok g w:=hHK.ok _ (An hH);have hrun:=jT (v:=x) hT ht hk htk hkk hheap hnew;unfold Oper.wp;simp only [execOp,Sem.run_bind,h1,h2,h3,hrun,Result.andThen_ok,Sem.run_pure];obtain ⟨hnew',hoth,hx⟩:=aM (We (es ++ [(n,x)])) hg hheap;exact hn g _ undef .junk _ ⟨rfl,rfl⟩ (.junk _) (hHK.set hx hH (fun c hc=>.inl hc) ⟨hg,hnew'⟩ (fun c hc hne _=>⟨rfl,hoth c fun e=>hne (by rw [e];rfl)⟩)) hx
theorem O3 {t:TypeId}{m k v:Operand}{kt et b i:Nat}{td tk:TD}{kk:IntKind}{n x:Int}{es:List (Int×Int)}{H H2:List HO}(hT:Ir P T)(ht:Bu T t=some td)(hk:td.kind = .map kt et)(htk:Bu T kt=some tk)(hkk:tk.kind = .int kk)
  (hm:ρ m = .val (.map (some b))) (hkey:ρ k = .int .i64 n) (hv:ρ v = .int .i64 x) (hH:H[i]? = some (.obj b (We es))) (hnew:Vm es n=none) (hH2:H.set i (.obj b (We (es ++ [(n,x)])))=H2) :
  Mj P ⟨d,.insert t m k v,ty,pos,aft,gd⟩ ρ H (fun y H'=>y = .junk/\H'=H2):=by
 subst hH2;intro g w a next Q hr hHK hn
 have h1:=(hm▸hr m (by simp [Op.operands]):Rep g w _ _).inv_val;have h2:=(hkey▸hr k (by simp [Op.operands]):Rep g w _ _).inv_int;have h3:=(hv▸hr v (by simp [Op.operands]):Rep g w _ _).inv_int;obtain ⟨hg,hheap⟩:(HO.obj b (We es)).ok g w:=hHK.ok _ (An hH);have hrun:=jT (v:=x) hT ht hk htk hkk hheap hnew;unfold Oper.wp;simp only [execOp,Sem.run_bind,h1,h2,h3,hrun,Result.andThen_ok,Sem.run_pure];obtain ⟨hnew',hoth,hx⟩:=aM (We (es ++ [(n,x)])) hg hheap;exact hn g _ undef .junk _ ⟨rfl,rfl⟩ (.junk _) (hHK.set hx hH (fun c hc=>.inl hc) ⟨hg,hnew'⟩ (fun c hc hne _=>⟨rfl,hoth c fun e=>hne (by rw [e];rfl)⟩)) hx
@[reducible] def itO (b n : Nat) (seen : Array Nat) : Obj := .mapIter (some b) n seen n
theorem iI {t:TypeId}{x:Operand}{kt et b i:Nat}{td:TD}{es:List (Int×Int)}{H:List HO}(hT:Ir P T)(ht:Bu T t=some td)(hk:td.kind = .map kt et)(hx:ρ x = .val (.map (some b)))(hH:H[i]? = some (.obj b (We es))) :
  Mj P ⟨d,.range t x,ty,pos,aft,gd⟩ ρ H (fun y H'=>∃it,y = .val (.pointer (some ⟨it,0,none⟩))/\H' = .obj it (itO b es.length #[])::H):=by
 intro g w a next Q hr hHK hn
 have h1:=(hx▸hr x (by simp [Op.operands]):Rep g w _ _).inv_val;obtain ⟨hg,hheap⟩:(HO.obj b (We es)).ok g w:=hHK.ok _ (An hH);have hrun:=run_range_map w t kt et b (Xf 0 es).toArray es.length (O6 (hT t td ht) hk) hheap;unfold Oper.wp;simp only [execOp,h1,hrun,Sem.run_bind,Result.andThen_ok,Sem.run_pure];have hxx:=Ext.alloc g w (itO b es.length #[]) (some 0);refine hn (g.put w.heap.size (some 0)) _ _ _ _ ⟨w.heap.size,rfl,rfl⟩ (.val _) ((hHK.alloc _ (some 0)).cons ⟨Gh.Aao _ _ _,C1 w _⟩ ?_) hxx;intro b hb x hx' hb';simp only [HO.blk,Option.some.injEq] at hb;have:=(HO.ok_lt (hHK.ok x hx') hb').1;omega
theorem rep_tup3 {g:Gh}{w:World}{b:Bool}{m n:Int}:Rep g w (.tuple #[.bool b,.int .i64 m,.int .i64 n]) (.tuple [.bool b,.int .i64 m,.int .i64 n]):=.tuple _ _ rfl fun j z hj=>by
 match j,hj with
 | 0,hj=>cases hj;exact .bool _
 | 1,hj=>cases hj;exact .int _ _
 | 2,hj=>cases hj;exact .int _ _
 | j+3,hj=>simp at hj
theorem rep_tup2 {g:Gh}{w:World}{m n:Int}:Rep g w (.tuple #[.int .i64 m,.int .i64 n]) (.tuple [.int .i64 m,.int .i64 n]):=.tuple _ _ rfl fun j z hj=>by
 match j,hj with
 | 0,hj=>cases hj;exact .int _ _
 | 1,hj=>cases hj;exact .int _ _
 | j+2,hj=>simp at hj
theorem rep_tup1 {g:Gh}{w:World}{b:Bool}:Rep g w (.tuple #[.bool b]) (.tuple [.bool b]):=.tuple _ _ rfl fun j z hj=>by
 match j,hj with
 | 0,hj=>cases hj;exact .bool _
 | j+1,hj=>simp at hj
theorem E_imNext {x:Operand}{b it i j n:Nat}{es:List (Int×Int)}{seen:Array Nat}{H:List HO}(hx:ρ x = .val (.pointer (some ⟨it,0,none⟩)))(hI:H[i]? = some (.obj it (itO b n seen)))(hH:H[j]? = some (.obj b (We es)))(hn:n=es.length) :
    Mj P ⟨d,.next x false,ty,pos,aft,gd⟩ ρ H (fun y H'=>(y = .tuple [.bool false]/\H'=H/\∀k,k<es.length->seen.contains k=true)\/
      ∃k p,es[k]? = some p/\seen.contains k=false/\y = .tuple [.bool true,.int .i64 p.1,.int .i64 p.2]/\H'=H.set i (.obj it (itO b n (seen.push k)))):=by
  subst hn;intro g w a next Q hr hHK hn
  have h1:=(hx▸hr x (by simp [Op.operands]):Rep g w _ _).inv_val;obtain ⟨hg,hheap⟩:(HO.obj b (We es)).ok g w:=hHK.ok _ (An hH);obtain ⟨hgi,hit⟩:(HO.obj it (itO b es.length seen)).ok g w:=hHK.ok _ (An hI)
  have hold:∀x∈(Xf 0 es).toArray.toList,x.born<es.length:=fun x hx=>by
    obtain ⟨p,hp,_⟩:=wI (by simpa using hx);exact (List.getElem?_eq_some_iff.1 hp).1
  unfold Oper.wp;rcases run_next_at (P:=P) w ty it b es.length es.length seen (Xf 0 es).toArray es.length hit hheap hold (B6 _) with ⟨h0,hrun⟩ | ⟨e,he,w1,hal,hrun⟩
  . simp only [execOp,h1,hrun,Sem.run_bind,Result.andThen_ok,Sem.run_pure]
    refine hn g w _ _ H (.inl ⟨rfl,rfl,fun k hk=>?_⟩) rep_tup1 hHK (Ext.refl g w);cases hc:seen.contains k with
    | true=>rfl
    | false=>
      have hm:=imE_at (List.getElem?_eq_getElem hk)
      have:(⟨.int .i64 es[k].1,.int .i64 es[k].2,k⟩:MapEntry)∈leftOf (Xf 0 es).toArray seen:=by
        unfold leftOf;rw [Array.mem_filter];exact ⟨by simpa using hm,by rw [hc];rfl⟩
      rw [Array.eq_empty_of_size_eq_zero h0] at this;simp at this
  . obtain ⟨h3,h4⟩:=mem_left he
    obtain ⟨p,hp,hk,hv⟩:=wI (by simpa using h3);have hw1:w1.heap=w.heap:=by rcases hal with h | h <;> rw [h] <;> rfl
    have hx1:Ext g w g w1:=by
      rcases hal with h | h
      . rw [h];exact Ext.refl g w
      rw [h];exact Ext.drew g w
    have hH1:HOK g w1 H:=hHK.of_same hx1 fun o ho b hb=>⟨rfl,by rw [hw1]⟩
    simp only [execOp,h1,hrun,Sem.run_bind,Result.andThen_ok,Sem.run_pure,hk,hv];obtain ⟨hnew',hoth,hx2⟩:=aM (w:=w1) (itO b es.length (seen.push e.born)) hgi (by rw [hw1];exact hit);exact hn g _ _ _ _ (.inr ⟨e.born,p,hp,h4,rfl,rfl⟩) rep_tup3 (hH1.set hx2 hI (fun c hc=>.inl hc) ⟨hgi,hnew'⟩ (fun c hc hne _=>⟨rfl,hoth c fun e=>hne (by rw [e];rfl)⟩)) (hx1.trans hx2)
theorem iK {x:Operand}{b it i j n k:Nat}{es:List (Int×Int)}{seen:Array Nat}{p:Int×Int}(hx:ρ x = .val (.pointer (some ⟨it,0,none⟩)))(hn:n=es.length)(hp:es[k]? = some p) :
  Dc P ⟨d,.entry x,ty,pos,aft,gd⟩ ρ (fun H=>(H[i]?,H[j]?)=(some (.obj it (itO b n (seen.push k))),some (.obj b (We es)))) (.tuple [.int .i64 p.1,.int .i64 p.2]):=by
 subst hn;intro g w a H next Q hr hHK hH hn
 have hH:H[i]? = some (.obj it (itO b es.length (seen.push k)))/\H[j]? = some (.obj b (We es)):=Prod.mk.inj hH;have h1:=(hx▸hr x (by simp [Op.operands]):Rep g w _ _).inv_val;obtain ⟨hg,hheap⟩:(HO.obj b (We es)).ok g w:=hHK.ok _ (An hH.2);obtain ⟨hgi,hit⟩:(HO.obj it (itO b es.length (seen.push k))).ok g w:=hHK.ok _ (An hH.1);have hrun:=run_entry_at (P:=P) w it b es.length seen (Xf 0 es).toArray es.length ⟨.int .i64 p.1,.int .i64 p.2,k⟩ hit hheap (by simpa using imE_at hp) (by simpa using zA es);unfold Oper.wp;simp only [execOp,h1,hrun,Sem.run_bind,Result.andThen_ok,Sem.run_pure];exact hn g w _ rep_tup2 hHK (Ext.refl g w)
end
theorem AW.mapNext {P:Program}{id:Nat}{Q:Exit->St->Prop}{s:St}{x:Operand}{d e it b n i j:Nat}{ty ty2:TypeId}{pos pos2:String}{a1 a2:Array Edge}{es:List (Int×Int)}{seen:Array Nat}
  (hx:E8 s.sl x = .val (.pointer (some ⟨it,0,none⟩))) (hI:s.H[i]? = some (.obj it (itO b n seen))) (hH:s.H[j]? = some (.obj b (We es))) (hn:n=es.length) (hd:Nh (some d) s.n=true) (he:Nh (some e) s.n=true)
  (h1:(∀k,k<es.length->seen.contains k=true)->Q .normal ⟨Ec (some e) (.bool false) (Ec (some d) (.tuple [.bool false]) s.sl),s.H,s.n⟩)
  (h2:∀k p,es[k]? = some p->seen.contains k=false->Q .normal ⟨Ec (some e) (.bool true) (Ec (some d) (.tuple [.bool true,.int .i64 p.1,.int .i64 p.2]) s.sl),s.H.set i (.obj it (itO b n (seen.push k))),s.n⟩) :
  AW P (.region id #[⟨some d,.next x false,ty,pos,a1,none⟩,⟨some e,.extract (.tmp d) 0,ty2,pos2,a2,none⟩] false) Q s:=by
 refine AW.region (AOL.e (E_imNext hx hI hH hn) hd fun y H' hy=>?_)
 have hg:∀y:AV,E8 (Ec (some d) y s.sl) (.tmp d)=y:=fun y=>by
  show get ((d,y)::s.sl) d=y;rw [G9,if_pos rfl]
 rcases hy with ⟨e1,e2,h⟩ | ⟨k,p,hp,hk,e1,e2⟩
 .
  rw [e1,e2];exact AOL.p (Cq (hg _) rfl) he (AOL.nil (h1 h))
 rw [e1,e2];exact AOL.p (Cq (hg _) rfl) he (AOL.nil (h2 k p hp hk))
def pA (n:Nat)(seen:Array Nat):Nat:=((List.range n).filter fun i=>!seen.contains i).length
theorem fN {n k:Nat}{seen:Array Nat}(hk:k<n)(hs:seen.contains k=false):pA n (seen.push k)<pA n seen:=by
 unfold pA;refine filter_lt (fun i=>!seen.contains i) (fun i=>!(seen.push k).contains i) (fun x hx=>?_) k (by simp only [hs];rfl) (by rw [contains_push];simp) (List.range n) (by simpa using hk);rw [contains_push] at hx;cases hc:seen.contains x with
 | false=>rfl
 | true=>rw [hc] at hx;exact absurd hx (by simp)
theorem Q7 {seen:Array Nat}{k i:Nat}:(seen.push k).contains i=true↔seen.contains i=true\/i=k:=by rw [contains_push];simp
theorem HO.im_ok {g:Gh}{w:World}{b:Nat}{es:List (Int×Int)}(h:(HO.obj b (We es)).ok g w):(HO.mapo b (imA es)).ok g w:=by
 obtain ⟨hg,hh⟩:=h;refine ⟨hg,(Xf 0 es).toArray,es.length,hh,by simp [lM,imA],fun i k x hi=>?_,fun i k x hi=>?_⟩
 .
  have:=(lL hi).1;simpa [D6,Ii] using this
 obtain ⟨_,v,rfl,hv⟩:=lL hi;have:((Xf 0 es).toArray.getD i default).val = .int .i64 v:=by simpa [D6,Ii] using hv
 rw [this];exact .int _ _
theorem GS.imAbs {sl:List (Nat×AV)}{H H2:List HO}{n b:Nat}{es:List (Int×Int)}(k:Nat)(hk:H[k]? = some (.obj b (We es)))(hH2:H.set k (.mapo b (imA es))=H2):GS ⟨sl,H,n⟩ ⟨sl,H2,n⟩:=fun g a w hG=>by
 subst hH2;refine ⟨g,⟨hG.size,hG.defers,hG.sl,?_⟩,Ext.refl g w⟩;exact hG.heap.set (Ext.refl g w) hk (fun c hc=>.inl hc) (HO.im_ok (hG.heap.ok _ (An hk))) fun c hc hne _=>⟨rfl,rfl⟩
end Go.Aw
namespace Go.Proofs.YtckhoadldibflaaGreatDoor
open Go Go.Aw
def zP:List (Int×Int):=[(5,0),(6,1),(7,2),(8,3),(9,4),(10,5),(11,6),(12,7)]
theorem rz_ops (H:List HO):Cj Tryz.prog 130 H [] (fun r H'=>∃b,r = .val (.map (some b))/\H' = .obj b (We zP)::H):=by
 refine Is 3 Tryz.func130 rfl ?_;refine Aa (Qp Qh (B2 (Qe (nJ) ?_)));rintro _ _ ⟨b1,rfl,rfl⟩;refine Rt (O3 (i:=0) (H2:=_::_) tok rfl rfl rfl rfl rfl rfl rfl rfl (rfl) rfl) (Rt (O3 (i:=0) (H2:=_::_) tok rfl rfl rfl rfl rfl rfl rfl rfl (rfl) rfl) (Rt (O3 (i:=0) (H2:=_::_) tok rfl rfl rfl rfl rfl rfl rfl rfl (rfl) rfl) (Rt (O3 (i:=0) (H2:=_::_) tok rfl rfl rfl rfl rfl rfl rfl rfl (rfl) rfl) (Rt (O3 (i:=0) (H2:=_::_) tok rfl rfl rfl rfl rfl rfl rfl rfl (rfl) rfl) (Rt (O3 (i:=0) (H2:=_::_) tok rfl rfl rfl rfl rfl rfl rfl rfl (rfl) rfl) (Rt (O3 (i:=0) (H2:=_::_) tok rfl rfl rfl rfl rfl rfl rfl rfl (rfl) rfl) (Rt (O3 (i:=0) (H2:=_::_) tok rfl rfl rfl rfl rfl rfl rfl rfl (rfl) rfl) (Qp Ce (Qp Qh (Rb ?_))))))))));refine ⟨.inr rfl,[.val _],Ze,_,S0,?_⟩;exact ⟨b1,rfl,rfl⟩
def ShN (T:List e8Sc)(V:List Va)(x:Pt):Prop:=(0<=x.op/\x.op<8)/\(Jo x=true->(0<=x.type/\x.type<(T.length:Int))/\(0<=x.var/\x.var<(V.length:Int)))/\(Ko x=true->Bz x.cond<=1048576/\C0 x.cond=0/\Kp T V x.cond=true)
theorem lV {p a x:Pt}(h:a∈p.args)(hx:x∈Dd a):x∈Dd p:=by rw [Oe];exact Jp _ (List.mem_flatMap.2 ⟨a,h,hx⟩)
theorem mA {k:Nat}{q:Int×Int}(h:zP[k]? = some q):q.1=(k:Int)+5/\q.2=(k:Int)/\k<8:=by
 match k,h with
 | 0,h=>cases h;exact ⟨rfl,rfl,by decide⟩
 | 1,h=>cases h;exact ⟨rfl,rfl,by decide⟩
 | 2,h=>cases h;exact ⟨rfl,rfl,by decide⟩
 | 3,h=>cases h;exact ⟨rfl,rfl,by decide⟩
 | 4,h=>cases h;exact ⟨rfl,rfl,by decide⟩
 | 5,h=>cases h;exact ⟨rfl,rfl,by decide⟩
 | 6,h=>cases h;exact ⟨rfl,rfl,by decide⟩
 | 7,h=>cases h;exact ⟨rfl,rfl,by decide⟩
 | k+8,h=>cases h
def kdS (o:Int)(seen:Array Nat):Int:=if seen.contains o.toNat then o+5 else 0
theorem kd_0 (o:Int):(0:Int)=kdS o #[]:=by unfold kdS;rw [if_neg (by simp)]
theorem kd_T {o:Int}{seen:Array Nat}{k:Nat}{q:Int×Int}(h0:0<=o)(h:zP[k]? = some q)(he:(q.2==o)=true):q.1=kdS o (seen.push k):=by
 obtain ⟨h1,h2,_⟩:=mA h;have h3:q.2=o:=by simpa using he
 unfold kdS;rw [if_pos (Q7.2 (.inr (by omega)))];omega
theorem kd_F {o z:Int}{seen:Array Nat}{k:Nat}{q:Int×Int}(h0:0<=o)(h:zP[k]? = some q)(he:(q.2==o)=false)(hz:z=kdS o seen):z=kdS o (seen.push k):=by
 obtain ⟨h1,h2,_⟩:=mA h;have h3:q.2≠o:=by simpa using he
 rw [hz];unfold kdS
 have:(seen.push k).contains o.toNat=seen.contains o.toNat:=by
  rw [Sq,Q7];exact ⟨fun h=>h.elim id fun h=>by omega,.inl⟩
 rw [this]
theorem kd_all {o z:Int}{seen:Array Nat}(h0:0<=o/\o<8)(h:∀k,k<zP.length->seen.contains k=true)(hz:z=kdS o seen):z=o+5:=by
 rw [hz];unfold kdS;rw [if_pos (h _ (by show _<8;omega))]
theorem shP_0 {T:List e8Sc}{V:List Va}{p:Pt}(h:(p.op==0)=true):Kr T V p=jG T V p:=by rw [uQ];exact if_pos h
theorem xT {T:List e8Sc}{V:List Va}{p:Pt}(h:(p.op==0)=false):Kr T V p=⟨p.op+5,[],[],if (p.op==6) then p.span else 0,p.args.map (Kr T V)++(if (p.op==5) then [jG T V p] else if (p.op==7) then [Io T V p.cond] else []),0⟩:=by rw [uQ];exact Bl h
section
variable {T:List e8Sc} {V:List Va} {p:Pt}
theorem sp_5 (h0:(p.op==0)=false)(h:(p.op==5)=true):Kr T V p=⟨p.op+5,[],[],0,p.args.map (Kr T V) ++ [jG T V p],0⟩:=by
 have h6:(p.op==6)=false:=by simp at h ⊢;omega
 rw [xT h0,h6,h];rfl
theorem sp_6 (h0:(p.op==0)=false)(h5:(p.op==5)=false)(h:(p.op==6)=true):Kr T V p=⟨p.op+5,[],[],p.span,p.args.map (Kr T V) ++ [],0⟩:=by
 have h7:(p.op==7)=false:=by simp at h ⊢;omega
 rw [xT h0,h5,h,h7];rfl
theorem sp_7 (h0:(p.op==0)=false)(h5:(p.op==5)=false)(h6:(p.op==6)=false)(h:(p.op==7)=true):Kr T V p=⟨p.op+5,[],[],0,p.args.map (Kr T V) ++ [Io T V p.cond],0⟩:=by
 rw [xT h0,h5,h6,h];rfl
theorem sp_x (h0:(p.op==0)=false)(h5:(p.op==5)=false)(h6:(p.op==6)=false)(h:(p.op==7)=false):Kr T V p=⟨p.op+5,[],[],0,p.args.map (Kr T V) ++ [],0⟩:=by
 rw [xT h0,h5,h6,h];rfl
theorem pt_enc (l:List Pt)(x:Syn):(l.map (Kr T V) ++ [x]).map C3=l.map (fun a=>cSyn (Kr T V a)) ++ [cSyn x]:=by
 rw [Em,List.map_map,P9,Bi];exact congrArg (· ++ _) (List.map_congr_left fun a _=>Bi _)
theorem xD (l:List Pt):(l.map (Kr T V) ++ []).map C3=l.map (fun a=>cSyn (Kr T V a)):=by
 rw [Bh,List.map_map];exact List.map_congr_left fun a _=>Bi _
end
theorem uK (T:List e8Sc)(V:List Va)(hrv:RvOK T V)(hsn:∀s∈T,Ly s)(p:Pt)(hp:∀x∈Dd p,ShN T V x)(hpn:Gy p<=1048576):Ak Tryz.prog 73 [.agg (cNm T V),.agg (cPt p)] (.agg (cSyn (Kr T V p))):=by
 induction p using Pt.ind
 rename_i p ih;have hal:=M8 p;have hme:=hp p (Yg p);have hop:=hme.1;refine Cw 75 Tryz.func73 rfl fun H=>?_
 refine Aa (Qp (Eh [_,_]) (Qp (Eh Cy) (Dx F1 fun b4=>Aq (Ba (Qp (Qf Cy) (Qp Be (Qp Aj (Ap (fun hc1=>?_) fun hc1=>A5 (Aa ?_)))))))))
 .
  have ho:p.op=0:=by simpa using hc1
  have htv:=hme.2.1 (by unfold Jo;rw [ho];rfl);have hcd:=hme.2.2 (by unfold Ko;rw [ho];rfl);refine Aa (Qp (B1 [_,_]) (Qp (B1 Cy) (Qp (Qc rfl (qQ T V hrv hsn p hcd.1 hcd.2.1 hcd.2.2 htv.1 htv.2)) ?_)));refine Bw 0 Ag (_::_) (Rc ?_);refine Yx [.agg Ag] (Zb 0) S1 ?_;exact Ye (fun q:Syn=>AV.agg (cSyn q)) (shP_0 hc1)
 refine Qp (Ju (l0:=[.int .i64 0,.str [],.str [],.int .i64 0,.val (.slice none 0 0),.int .i64 0]) (l:=Ag) tok rfl rfl (by kernel_rfl) rfl) ?_;refine Dx F1 fun b5=>?_
 refine Bw 0 Ag (_::_::_) (Aq (Ba (Qe (Dr rfl (rz_ops _)) ?_)));rintro _ _ ⟨b17,rfl,rfl⟩;refine Qe (iI (i:=0) tok rfl rfl rfl rfl) ?_;rintro _ _ ⟨i18,rfl,rfl⟩;refine Aq (AW.block ?_);refine AW.Aan (fun (z:Int×Array Nat)=>(⟨[(2,.ptr (cNm T V)),(3,.ptr (cPt p)),(4,.val (.pointer (some ⟨b4,0,none⟩))),(5,.val (.pointer (some ⟨b5,0,none⟩))),(18,.val (.pointer (some ⟨i18,0,none⟩)))],.obj i18 (itO b17 8 z.2) :: .obj b17 (We zP) :: .box b5 25 [.int .i64 z.1,.str [],.str [],.int .i64 0,.val (.slice none 0 0),.int .i64 0] :: .box b4 25 F1::H,75⟩:St)) (fun z=>z.1=kdS p.op z.2) (fun z=>pA 8 z.2) ((0,#[])) ?_ Bx ?_
 . exact kd_0 _
 rintro z hR;refine AW.seq (AW.mapNext (i:=0) (j:=1) rfl rfl rfl rfl rfl rfl ?_ ?_)
 .
  intro hov5;obtain ⟨z1,z2⟩:=z;have hkd:z1=p.op+5:=kd_all hop hov5 hR;subst hkd;refine A2 (AW.seq (E9 (fun hc2=>?_) fun hc2=>AW.exit ?_))
  . exact absurd (hc2.symm.trans rfl) (by decide)
  refine Bn (Ri (AW.seq (AW.seq ?_)));refine AW.ghost (GS.cellRow 2 4 25 6 rfl rfl rfl rfl) ?_
  skip
  refine AW.region (Qp (Qf bS) (Qp Cg ?_));refine Qp (Da p.args.length rfl rfl (by simp)) ?_;refine Qp Ai (Aq (AW.block ?_));refine AW.Aan (fun (q:Nat×List (List AV)×Value)=>(⟨[(2,.ptr (cNm T V)),(3,.ptr (cPt p)),(4,.val (.pointer (some ⟨b4,0,none⟩))),(5,.val (.pointer (some ⟨b5,0,none⟩))),(31,.sl 14 (p.args.map Jd)),(32,.int .i64 p.args.length),(33,.int .i64 (q.1:Int))],.row q.2.2 q.2.1.length 25 6 :: .obj i18 (itO b17 8 z2) :: .obj b17 (We zP) :: .box b5 25 [.int .i64 (p.op+5),.str [],.str [],.int .i64 0,.row q.2.2 6 q.2.1,.int .i64 0] :: .box b4 25 F1::H,75⟩:St)) (fun q=>q.1<=p.args.length/\q.2.1=(p.args.take q.1).map (fun a=>cSyn (Kr T V a))/\q.2.1.length<=q.1) (fun q=>p.args.length-q.1) ((0,[],.slice none 0 0)) ?_ Bx ?_
  . exact ⟨A3 _,rfl,B6 _⟩
  rintro q hR;refine Aa (Qp Bt (Re (E9 (fun hc3=>?_) fun hc3=>?_)))
  .
   obtain ⟨a,ha⟩:=B3 hc3;have hlt:=Bf ha;have hm:=An ha;have hsc:∀c∈q.2.1,A7 c=true:=by rw [hR.2.1];exact fun c hc=>by obtain ⟨x,_,rfl⟩:=Db.1 hc;rfl
   have hql:=hR.2.2;refine A5 (AW.seq (AW.block (Aa ?_)));refine Qp (Cp Cy rfl rfl (by omega) (Jz ha)) ?_;refine Qp (B1 Cy) (Dx ghz fun b9=>?_);refine Bw 0 Cy (_::_::_::_::_::_::_) ?_;refine Ji 9 0 rfl ?_;refine Aq (N3 3 rfl (Qn 0 rfl Co (Qn 1 rfl (Kn (.row _ _ _) rfl) (Qn 2 rfl (B1 [_,_]) (Qn 3 rfl (B1 Cy) ?_)))));refine Qn 4 rfl (Qc rfl (ih a hm (fun x hx=>hp x (lV hm hx)) (by have:=K6 hm;omega))) ?_;refine Qn 5 rfl (G0 [Ag] rfl) ?_;refine Ur 6 rfl (Pk 0 rfl (Dl rfl) (hsc) (by simp;omega) (by simp [maxLen];omega)) (by rintro _ _ ⟨v43,rfl,rfl⟩;simp) ?_;rintro _ _ ⟨v43,rfl,rfl⟩;refine Qn 7 rfl Co ?_;refine bH 8 rfl (Hx 3 (.row _ _ _) Ag (_::_::_::_::_::_) rfl) ?_;rintro _ _ ⟨rfl,rfl⟩;refine Gv (A2 (AW.region (Qp Dt (Qp Ai (Aq ?_)))));refine ⟨(q.1+1,q.2.1 ++ [cSyn (Kr T V a)],v43),?_,?_,Bx⟩
   . exact ⟨hlt,by simp only;rw [Cf ha,hR.2.1];simp,by simp;omega⟩
   simp only;omega
  have hte:=B9 hc3;have hall:=hR.2.1;rw [hte] at hall;have hsc:∀c∈q.2.1,A7 c=true:=by rw [hR.2.1];exact fun c hc=>by obtain ⟨x,_,rfl⟩:=Db.1 hc;rfl
  have hql:=hR.2.2;refine AW.exit ?_;refine Bn (Ri (Ba (Qp (Qf Cy) (Qp Be (Aq (AW.block ?_))))));refine Aa (Qp Aj (Qp Ao (Ap (fun hc4=>?_) fun hc4=>Aa (Qp Aj (Qp Ao (Ap (fun hc5=>AW.region (Qp (Qf gky) (Qp Be (Qp Co ?_)))) fun hc5=>Aa (Qp Aj (Qp Ao (Ap (fun hc6=>?_) fun hc6=>Rf (Aa ?_))))))))))
  .
   have ho:p.op=5:=by simpa using hc4
   have htv:=hme.2.1 (by unfold Jo;rw [ho];rfl);have hcd:=hme.2.2 (by unfold Ko;rw [ho];rfl);refine N3 3 rfl (Qn 0 rfl Co (Qn 1 rfl (Kn (.row _ _ _) rfl) (Qn 2 rfl (B1 [_,_]) (Qn 3 rfl (B1 Cy) (Qn 4 rfl (Qc rfl (qQ T V hrv hsn p hcd.1 hcd.2.1 hcd.2.2 htv.1 htv.2)) (Qn 5 rfl (G0 [Ag] rfl) ?_))))));refine Ur 6 rfl (Pk 0 rfl (Dl rfl) (hsc) (by simp;omega) (by simp [maxLen];omega)) (by rintro _ _ ⟨v56,rfl,rfl⟩;simp) ?_;rintro _ _ ⟨v56,rfl,rfl⟩;refine Qn 7 rfl Co ?_;refine bH 8 rfl (Hx 3 (.row _ _ _) Ag (_::_::_::_::_::_) rfl) ?_;rintro _ _ ⟨rfl,rfl⟩;refine Gv (A2 (Aa ?_));refine AOL.ghost (GS.cell (H2:=_::_::_::_::_::_) 3 4 rfl rfl rfl rfl Dv) ?_;refine Nu 3 Ag rfl ?_;refine Bw 4 Ag (_::_::_::_::_::_) (Rb ?_);refine Yx [.agg Ag] (Zb 4) S5 ?_;exact Eq.trans (congrArg (fun l:List (List AV)=>AV.agg [.int .i64 (p.op+5),.str [],.str [],.int .i64 (0),.sl 6 l,.int .i64 0]) (Eq.trans (congrArg (· ++ [cSyn (jG T V p)]) hall) (pt_enc p.args (jG T V p)).symm)) (congrArg (fun q:Syn=>AV.agg (cSyn q)) (sp_5 hc1 hc4)).symm
  .
   refine Bw 3 Ag (_::_::_::_::_::_) (Rk (Aa ?_));refine AOL.ghost (GS.cell (H2:=_::_::_::_::_::_) 3 4 rfl rfl rfl rfl Dv) ?_;refine Nu 3 Ag rfl ?_;refine Bw 4 Ag (_::_::_::_::_::_) (Rb ?_);refine Yx [.agg Ag] (Zb 4) S5 ?_;exact Eq.trans (congrArg (fun l:List (List AV)=>AV.agg [.int .i64 (p.op+5),.str [],.str [],.int .i64 (p.span),.sl 6 l,.int .i64 0]) (Eq.trans hall (xD p.args).symm)) (congrArg (fun q:Syn=>AV.agg (cSyn q)) (sp_6 hc1 hc4 hc5)).symm
  .
   have ho:p.op=7:=by simpa using hc6
   have hcd:=hme.2.2 (by unfold Ko;rw [ho];rfl);refine N3 3 rfl (Qn 0 rfl Co (Qn 1 rfl (Kn (.row _ _ _) rfl) (Qn 2 rfl (B1 [_,_]) (Qn 3 rfl Pj (Qn 4 rfl Kt (Qn 5 rfl (Qc rfl (uI T V hrv hsn p.cond hcd.1 hcd.2.1 hcd.2.2)) (Qn 6 rfl (G0 [Ag] rfl) ?_)))))));refine Ur 7 rfl (Pk 0 rfl (Dl rfl) (hsc) (by simp;omega) (by simp [maxLen];omega)) (by rintro _ _ ⟨v72,rfl,rfl⟩;simp) ?_;rintro _ _ ⟨v72,rfl,rfl⟩;refine Qn 8 rfl Co ?_;refine bH 9 rfl (Hx 3 (.row _ _ _) Ag (_::_::_::_::_::_) rfl) ?_;rintro _ _ ⟨rfl,rfl⟩;refine Gv (A2 (Aa ?_));refine AOL.ghost (GS.cell (H2:=_::_::_::_::_::_) 3 4 rfl rfl rfl rfl Dv) ?_;refine Nu 3 Ag rfl ?_;refine Bw 4 Ag (_::_::_::_::_::_) (Rb ?_);refine Yx [.agg Ag] (Zb 4) S5 ?_;exact Eq.trans (congrArg (fun l:List (List AV)=>AV.agg [.int .i64 (p.op+5),.str [],.str [],.int .i64 (0),.sl 6 l,.int .i64 0]) (Eq.trans (congrArg (· ++ [cSyn (Io T V p.cond)]) hall) (pt_enc p.args (Io T V p.cond)).symm)) (congrArg (fun q:Syn=>AV.agg (cSyn q)) (sp_7 hc1 hc4 hc5 hc6)).symm
  refine AOL.ghost (GS.cell (H2:=_::_::_::_::_::_) 3 4 rfl rfl rfl rfl Dv) ?_;refine Nu 3 Ag rfl ?_;refine Bw 4 Ag (_::_::_::_::_::_) (Rb ?_);refine Yx [.agg Ag] (Zb 4) S5 ?_;exact Eq.trans (congrArg (fun l:List (List AV)=>AV.agg [.int .i64 (p.op+5),.str [],.str [],.int .i64 (0),.sl 6 l,.int .i64 0]) (Eq.trans hall (xD p.args).symm)) (congrArg (fun q:Syn=>AV.agg (cSyn q)) (sp_x hc1 hc4 hc5 hc6)).symm
 intro mk5 mp5 hmp5 hmk5;refine A2 (AW.seq (E9 (fun hc7=>A5 (AW.block (Aa (AOL.Aas (iK (i:=0) (j:=1) rfl rfl hmp5) rfl rfl (Qp Km (Qp Km (Qp Ah (Qp Ah (B2 (Qp Ai (Qp (Qf Cy) (Qp Be (Qp Aj (Ap (fun hc8=>AW.region (Qp Ai (Qp Co ?_))) fun hc8=>Rf ?_)))))))))))))) fun hc7=>?_))
 .
  refine Bw 2 Ag (_::_::_::_::_) (Rk ?_);refine ⟨(mp5.1,z.2.push mk5),?_,?_,Bx⟩
  . exact kd_T hop.1 hmp5 hc8
  exact fN (mA hmp5).2.2 hmk5
 .
  refine ⟨(z.1,z.2.push mk5),?_,?_,Bx⟩
  . exact kd_F hop.1 hmp5 hc8 hR
  exact fN (mA hmp5).2.2 hmk5
 exact absurd (hc7.symm.trans rfl) (by decide)
def Wr (p:Pt):List (Int×Int):=if Jo p then [(p.var,p.type)] else []
theorem mR (p:Pt):Jn p=Wr p++p.args.flatMap Jn:=tyP_eq p
def KN (L:List (Int×Int)):Prop:=(L.map (·.1)).Nodup
def yO (L es:List (Int×Int)):Prop:=KN es/\∀x,x∈es↔x∈L
theorem oX {p a:Pt}{k:Nat}(ha:p.args[k]? = some a):Jn p=((Wr p++(p.args.take k).flatMap Jn)++Jn a)++(p.args.drop (k+1)).flatMap Jn:=by
 have e:p.args=p.args.take k++a::p.args.drop (k+1):=by rw [<-Bd ha,Xa]
 rw [mR,Eg,Eg];exact congrArg (Wr p ++ ·) ((congrArg (fun l=>l.flatMap Jn) e).trans (by rw [List.flatMap_append,P6]))
theorem wM {p a:Pt}{k:Nat}(h:KN (Jn p))(ha:p.args[k]? = some a):KN ((Wr p++(p.args.take k).flatMap Jn)++Jn a):=by
 unfold KN at h ⊢;rw [oX ha,Em] at h;exact (Uj.1 h).1
theorem kn_arg {p a:Pt}(h:KN (Jn p))(hm:a∈p.args):KN (Jn a):=by
 obtain ⟨k,hk⟩:=J9.1 hm;have h1:=wM h hk;unfold KN at h1 ⊢;rw [Em] at h1;exact (Uj.1 h1).2.1
def InM (L es2 es:List (Int×Int))(seen:Array Nat):Prop:=KN es/\∀y,y∈es↔y∈L\/∃j,es2[j]? = some y/\seen.contains j=true
theorem ty_ne {L A es2 es:List (Int×Int)}{seen:Array Nat}{k:Nat}{x:Int×Int}(hn:KN (L++A))(h2:yO A es2)(hz:InM L es2 es seen)(hx:es2[k]? = some x)(hk:seen.contains k=false):∀q∈es,q.1≠x.1:=by
 intro q hq he;rcases (hz.2 q).1 hq with hL | ⟨j,hj,hs⟩
 .
  unfold KN at hn;rw [Em] at hn;exact (Uj.1 hn).2.2 _ (Db.2 ⟨q,hL,rfl⟩) _ (Db.2 ⟨x,(h2.2 x).1 (An hx),rfl⟩) he
 have h3:(es2.map (·.1))[j]? = (es2.map (·.1))[k]? :=by rw [List.getElem?_map,List.getElem?_map,hj,hx];exact congrArg some he
 have hlt:j<(es2.map (·.1)).length:=by rw [B7];exact (List.getElem?_eq_some_iff.1 hj).1
 have:=(List.getElem?_inj hlt h2.1).1 h3;subst this;rw [hs] at hk;cases hk
theorem ty_push {L es2 es:List (Int×Int)}{seen:Array Nat}{k:Nat}{x:Int×Int}(hz:InM L es2 es seen)(hx:es2[k]? = some x)(hne:∀q∈es,q.1≠x.1):InM L es2 (es ++ [(x.1,x.2)]) (seen.push k):=by
 refine ⟨?_,fun y=>?_⟩
 .
  unfold KN;rw [Em];refine Uj.2 ⟨hz.1,by simp,fun a ha b hb=>?_⟩;obtain ⟨q,hq,rfl⟩:=Db.1 ha;rw [P9,Hv] at hb;subst hb;exact hne q hq
 rw [Hg,Hv,hz.2 y]
 constructor
 .
  rintro ((h | ⟨j,h1,h2⟩) | h)
  . exact .inl h
  . exact .inr ⟨j,h1,Q7.2 (.inl h2)⟩
  exact .inr ⟨k,by rw [h];exact hx,Q7.2 (.inr rfl)⟩
 rintro (h | ⟨j,h1,h2⟩)
 . exact .inl (.inl h)
 rcases Q7.1 h2 with h3 | h3
 . exact .inl (.inr ⟨j,h1,h3⟩)
 subst h3;rw [hx] at h1;exact .inr (Option.some.inj h1).symm
theorem ty_done {L A es2 es:List (Int×Int)}{seen:Array Nat}(h2:yO A es2)(hz:InM L es2 es seen)(hall:∀k,k<es2.length->seen.contains k=true):yO (L++A) es:=by
 refine ⟨hz.1,fun x=>?_⟩;rw [hz.2 x,Hg,<-h2.2 x]
 constructor
 .
  rintro (h | ⟨j,h1,_⟩)
  . exact .inl h
  exact .inr (An h1)
 rintro (h | h)
 . exact .inl h
 obtain ⟨j,hj⟩:=J9.1 h;exact .inr ⟨j,hj,hall j (List.getElem?_eq_some_iff.1 hj).1⟩
theorem ty_init {L es es2:List (Int×Int)}(h:yO L es):InM L es2 es #[]:=⟨h.1,fun y=>by
 rw [h.2 y];exact ⟨.inl,fun q=>q.elim id fun ⟨j,_,h3⟩=>by simp at h3⟩⟩
theorem ty_own (p:Pt):yO (Wr p++(p.args.take 0).flatMap Jn) (Wr p):=by
 rw [Ul,List.flatMap_nil,Bh];refine ⟨?_,fun x=>Iff.rfl⟩;unfold KN Wr;split
 . simp
 exact List.nodup_nil
theorem ty_next {p a:Pt}{k:Nat}{es:List (Int×Int)}(ha:p.args[k]? = some a)(h:yO ((Wr p++(p.args.take k).flatMap Jn)++Jn a) es):yO (Wr p++(p.args.take (k+1)).flatMap Jn) es:=by
 rw [Cf ha,List.flatMap_append,List.flatMap_singleton,<-Eg];exact h
theorem ty_end {p:Pt}{es:List (Int×Int)}(h:yO (Wr p++p.args.flatMap Jn) es):yO (Jn p) es:=by rw [mR];exact h
theorem rz_typed (p:Pt)(hnd:KN (Jn p))(hpn:Gy p<=1048576)(H:List HO):Cj Tryz.prog 191 H [.agg (cPt p)] (fun r H'=>∃b es,r = .val (.map (some b))/\H' = .obj b (We es)::H/\yO (Jn p) es):=by
 induction p using Pt.ind generalizing H
 rename_i p ih;have hal:=M8 p;refine Is 42 Tryz.func191 rfl ?_;refine Aa (Qp (Eh Cy) (Qp Qh (B2 (Qe (nJ) ?_))));rintro _ _ ⟨b8,rfl,rfl⟩;refine Qp Qh (Aq ?_);refine AW.Aar (fun (z0:List (Int×Int))=>(⟨[(1,.ptr (cPt p)),(3,.val (.map (some b8)))],.obj b8 (We z0)::H,42⟩:St)) (fun z0=>z0=Wr p) ?_ ?_
 .
  refine Aa (Qp (Qf Cy) (Qp Be (Qp Aj (Qp A8 (Qg [] Qw (Qf Cy) (Qg [(13,_)] Qw Be (Qg [(14,_)] Qw Aj (Qp Cr (Ap (fun hc1=>AW.region (Qp Ce (Qp (Qf ghx) (Qp Be (Qp (Qf giz) (Qp Be (Rt (vB (i:=0) (H2:=_::_) tok rfl rfl rfl rfl rfl rfl rfl rfl (rfl) rfl) (Aq ?_)))))))) fun hc1=>A5 ?_)))))))))
  .
   refine ⟨[(p.var,p.type)],?_,Bx⟩;exact (if_pos hc1).symm
  refine ⟨[],?_,Bx⟩;exact (Bl hc1).symm
 rintro z0 hz0;subst hz0;refine Ba (Qp (Qf bS) (Qp Cg ?_));refine Qp (Da p.args.length rfl rfl (by simp)) ?_;refine Qp Ai (Aq (AW.block ?_));refine AW.Aan (fun (q:Nat×List (Int×Int))=>(⟨[(1,.ptr (cPt p)),(3,.val (.map (some b8))),(23,.sl 14 (p.args.map Jd)),(24,.int .i64 p.args.length),(25,.int .i64 (q.1:Int))],.obj b8 (We q.2)::H,42⟩:St)) (fun q=>q.1<=p.args.length/\yO (Wr p++(p.args.take q.1).flatMap Jn) q.2) (fun q=>p.args.length-q.1) ((0,Wr p)) ?_ Bx ?_
 . exact ⟨A3 _,ty_own p⟩
 rintro q hR;refine Aa (Qp Bt (Re (E9 (fun hc2=>?_) fun hc2=>?_)))
 .
  obtain ⟨a,ha⟩:=B3 hc2;have hlt:=Bf ha;have hm:=An ha;refine A5 (AW.seq (AW.block (Aa ?_)));refine Qp (Cp Cy rfl rfl (by omega) (Jz ha)) ?_;refine Qp (B1 Cy) (Dx ghz fun b5=>?_);refine Bw 0 Cy (_::_::_) ?_;refine Ji 5 0 rfl ?_;refine B2 (Qp (B1 Cy) ?_);refine Qe (Dr rfl (ih a hm (kn_arg hnd hm) (by have:=K6 hm;omega) _)) ?_;rintro _ _ ⟨b30,es30,rfl,rfl,hty30⟩;refine Qe (iI (i:=0) tok rfl rfl rfl rfl) ?_;rintro _ _ ⟨i31,rfl,rfl⟩;refine Aq (AW.block ?_);refine AW.Aan (fun (z:List (Int×Int)×Array Nat)=>(⟨[(1,.ptr (cPt p)),(3,.val (.map (some b8))),(23,.sl 14 (p.args.map Jd)),(24,.int .i64 p.args.length),(25,.int .i64 (q.1:Int)),(31,.val (.pointer (some ⟨i31,0,none⟩)))],.obj i31 (itO b30 es30.length z.2) :: .obj b30 (We es30) :: .obj b8 (We z.1)::H,42⟩:St)) (fun z=>InM (Wr p++(p.args.take q.1).flatMap Jn) es30 z.1 z.2) (fun z=>pA es30.length z.2) ((q.2,#[])) ?_ Bx ?_
  . exact ty_init hR.2
  rintro z hz;refine AW.seq (AW.mapNext (i:=0) (j:=1) rfl rfl rfl rfl rfl rfl ?_ ?_)
  .
   intro hov8;have htd:=ty_done hty30 hz hov8;refine A2 (AW.seq (E9 (fun hc3=>?_) fun hc3=>AW.exit ?_))
   . exact absurd (hc3.symm.trans rfl) (by decide)
   refine Bn (Bn (Tl (Gv (A2 (AW.region (Qp Dt (Qp Ai (Aq ?_))))))));refine ⟨(q.1+1,z.1),?_,?_,GS.weaken ⟨rfl,rfl,rfl,rfl,rfl,trivial⟩ (.cons _ (.cons _ (.refl _)))⟩
   . exact ⟨hlt,ty_next ha htd⟩
   simp only;omega
  intro mk8 mp8 hmp8 hmk8;have hnw:=ty_ne (wM hnd ha) hty30 hz hmp8 hmk8;refine A2 (AW.seq (E9 (fun hc4=>A5 (AW.block (Aa (AOL.Aas (iK (i:=0) (j:=1) rfl rfl hmp8) rfl rfl (Qp Km (Qp Km (Qp Ah (Qp Ah (Aq (AW.region (Qp Ce (Qp Ai (Qp Ai (Rt (vB (i:=2) (H2:=_::_::_::_) tok rfl rfl rfl rfl rfl rfl rfl rfl (fF hnw) rfl) (Rk ?_))))))))))))))) fun hc4=>?_))
  .
   refine ⟨(z.1 ++ [(mp8.1,mp8.2)],z.2.push mk8),?_,?_,Bx⟩
   . exact ty_push hz hmp8 hnw
   exact fN (List.getElem?_eq_some_iff.1 hmp8).1 hmk8
  exact absurd (hc4.symm.trans rfl) (by decide)
 have hte:=B9 hc2;have hall:=hR.2;rw [hte] at hall;refine AW.exit ?_;refine Bn (Ri (Aa (Qp Ce (Qp Qh (Rb ?_)))));refine ⟨.inr rfl,[.val _],Ze,_,S0,?_⟩;exact ⟨b8,q.2,rfl,rfl,ty_end hall⟩
section
variable {P:Program} {T:List (Nat×TD)} {ρ:Operand->AV} {K:List HO->Prop} {d:Option Nat} {ty:TypeId} {pos:String} {aft:Array Edge} {gd:Option (Nat×Bool)}
theorem sB {x:Operand}{t kt et n:Nat}{td:TD}{es:List (Int×AV)}(hT:Ir P T)(h:ρ x = .mapv es)(ht:Bu T t=some td)(hk:td.kind = .map kt et)(hn:es.length=n) :
    Dc P ⟨d,.call ⟨.builtin .len,#[x],#[t]⟩,ty,pos,aft,gd⟩ ρ K (.int .i64 n):=
  .of_run fun g w a hr=>by
    have h1:=(h▸hr x (by simp [Op.operands,Call.operands]):Rep g w _ _);have hu:=O6 (hT t td ht) hk;generalize he:a.eval x=vm at h1;cases h1 with
    | mapv b ms clock _ hg hb hheap hl hks hvs=>
      refine ⟨.int .i64 n,Je ?_,.int _ _⟩;have hget:(getObj b).run P w = .ok (.map ms clock) w:=by simp [getObj,Sem.run,hheap]
      simp only [builtin,Builtin.len_,List.map_toArray,Bj,Ca,he,Sem.run_bind];simp [Bg hu,goInt,hget,hl,hn]
end
theorem rO {L es:List (Int×Int)}(hL:KN L)(h:yO L es):es.length=L.length:=by
 have h1:es.Nodup:=(List.pairwise_map.1 h.1).imp fun hne he=>hne (by rw [he])
 have h2:L.Nodup:=(List.pairwise_map.1 hL).imp fun hne he=>hne (by rw [he])
 exact ((List.perm_ext_iff_of_nodup h1 h2).2 h.2).length_eq
theorem ty_look {L es:List (Int×Int)}{k:Nat}{x:Int×Int}(h:yO L es)(hx:L[k]? = some x)(hk:x.1=(k:Int)):Wj (imA es) (k:Int)=some (.int .i64 (((L.map (·.2))[k]?).getD 0)):=by
 rw [lN,<-hk];have:(x.1,x.2)∈es:=(h.2 x).2 (An hx);rw [jS h.1 this,List.getElem?_map,hx];rfl
section
variable {T:List e8Sc} {L:List Int} {ks:List Av} {k:Nat} {a:Va} {V:List Va} {e:Int}
theorem cD (ha:V[k]? = some a)(h:vrE T L ks k a=e)(he:e≠0):nG T L ks k (V.drop k)=e:=by
 rw [Bd ha,nG,if_pos (by rw [h];simpa using he),h]
theorem vr_on (ha:V[k]? = some a)(h:vrE T L ks k a=0):nG T L ks k (V.drop k)=nG T L (ks ++ [a.name]) (k+1) (V.drop (k+1)):=by
 rw [Bd ha,nG,if_neg (by rw [h];decide)]
theorem Yi {s:Av}{b:Bool}(h:(F7 s != 0)=b):(!(Q3 s))=b:=h
theorem ve8 (h:(F7 a.name != 0)=true):vrE T L ks k a=8:=if_pos (Yi h)
theorem ve7 (h:(F7 a.name != 0)=false)(h1:ks.contains a.name=true):vrE T L ks k a=7:=(Bl (Yi h)).trans (if_pos h1)
theorem ve6 (h:(F7 a.name != 0)=false)(h1:ks.contains a.name=false)(h2:(decide (a.type<0)||decide ((T.length:Int)<=a.type))=true):vrE T L ks k a=6:=(Bl (Yi h)).trans ((Bl h1).trans (if_pos h2))
theorem ve9 (h:(F7 a.name != 0)=false)(h1:ks.contains a.name=false)(h2:(decide (a.type<0)||decide ((T.length:Int)<=a.type))=false)(h3:((L[k]?).getD 0 != a.type)=true):vrE T L ks k a=9:=(Bl (Yi h)).trans ((Bl h1).trans ((Bl h2).trans (if_pos h3)))
theorem ve0 (h:(F7 a.name != 0)=false)(h1:ks.contains a.name=false)(h2:(decide (a.type<0)||decide ((T.length:Int)<=a.type))=false)(h3:((L[k]?).getD 0 != a.type)=false):vrE T L ks k a=0:=(Bl (Yi h)).trans ((Bl h1).trans ((Bl h2).trans (Bl h3)))
end
theorem vE_15 {T:List e8Sc}{q:Qy}(h:(((Jn q.pattern).length:Int) != (q.vars.length:Int))=true):vE T q=15:=if_pos h
theorem iH {T:List e8Sc}{q:Qy}(h:(((Jn q.pattern).length:Int) != (q.vars.length:Int))=false):vE T q=nG T ((Jn q.pattern).map (·.2)) [] 0 q.vars:=Bl h
theorem rz_vars (T:List e8Sc)(htl:T.length<=1048576)(q:Qy)(hnd:KN (Jn q.pattern))(hnu:∀(i:Nat) (x:Int×Int),(Jn q.pattern)[i]? = some x->x.1=(i:Int))(hpn:Gy q.pattern<=1048576)(hv:q.vars.length<=1048576)(hvn:∀v∈q.vars,v.name.length<=1048576):Ak Tryz.prog 123 [.sl 2 (T.map Js),.agg (cQy q)] (.int .i64 (vE T q)):=by
 refine Cw 59 Tryz.func123 rfl fun H=>?_
 refine Aa (Qp (Eh Hw) (Qp Ah (B2 (Qp (Qf giy) (Qp (B1 Cy) (Qe (Dr rfl (rz_typed q.pattern hnd hpn _)) ?_))))));rintro _ _ ⟨b11,es,rfl,rfl,hes⟩;refine Qp Qh (Aq (Ba ?_));refine AOL.ghost (GS.imAbs 0 rfl rfl) ?_;refine AOL.ghost (GS.freezeMap (t:=5) 0 rfl rfl) ?_;refine Qp (A0 (v:=.mapv _) rfl) (Qp (sB (n:=(Jn q.pattern).length) tok rfl rfl rfl ((B7 _).trans (rO hnd hes))) (Qp (Qf rY) (Qp Cg ?_)));refine Qp (Da q.vars.length rfl rfl (by simp)) ?_;refine Qp Bq (Ap (fun hc1=>Aa (Qp Ah (Rc (Qr (Iq _) ?_)))) fun hc1=>?_)
 . exact Ye (AV.int .i64) (vE_15 hc1)
 have hlv:(Jn q.pattern).length=q.vars.length:=by have:=hc1;simp at this;omega
 refine A5 (Aa (Qe (Lk) ?_));rintro _ _ ⟨b18,rfl,rfl⟩;refine Qp Qh (Aq (Ba (Qp (Qf rY) (Qp Cg ?_))));refine Qp (Da q.vars.length rfl rfl (by simp)) ?_;refine Qp Ai (Aq (AW.block ?_));refine AW.Aan (fun (z:Nat×List Av)=>(⟨[(0,.sl 2 (T.map Js)),(3,.ptr (cQy q)),(5,.mapv (imA es)),(6,.val (.map (some b18))),(20,.sl 2 (q.vars.map Ox)),(21,.int .i64 q.vars.length),(22,.int .i64 (z.1:Int))],.smap b18 (Yz z.2)::H,59⟩:St)) (fun z=>z.1<=q.vars.length/\nG T ((Jn q.pattern).map (·.2)) [] 0 q.vars=nG T ((Jn q.pattern).map (·.2)) z.2 z.1 (q.vars.drop z.1)) (fun z=>q.vars.length-z.1) ((0,[])) ?_ Bx ?_
 . exact ⟨A3 _,rfl⟩
 rintro z hR;refine Aa (Qp Bt (Re (E9 (fun hc2=>?_) fun hc2=>?_)))
 .
  obtain ⟨a,ha⟩:=B3 hc2;have hlt:=Bf ha;have hm:=An ha;have hlk:Wj (imA es) ((z.1:Nat):Int)=some (.int .i64 ((((Jn q.pattern).map (·.2))[z.1]?).getD 0)):=ty_look hes (List.getElem?_eq_getElem (show z.1<(Jn q.pattern).length by omega)) (hnu _ _ (List.getElem?_eq_getElem _));refine A5 (AW.seq (AW.block (Aa (Qp Ai ?_))));refine Qp (Cp E4 rfl rfl (by omega) (Bp ha)) ?_;refine Qp (B1 E4) (Dx gjy fun b8=>Qp Ah ?_);refine Bw 0 E4 (_::_::_) ?_;refine Ji 8 0 rfl ?_;refine Re (AW.block (Aa (Qp (Qf E4) (Qp Dk (Qp (Qc rfl (c20 a.name (hvn a hm))) (Qp Bq (Qp Ao (Ap (fun hc3=>Aa (Qp Ah (Ra (Rj (Au ?_))))) fun hc3=>Aa (Qp Ce (Qp (Qf E4) (Qp Dk ?_)))))))))))
  .
   refine Yx [Iq _] Ze S1 ?_;exact Ye (AV.int .i64) ((iH hc1).trans (hR.2.trans (cD ha (ve8 hc3) (by decide))))
  refine AOL.Aas (Uq (i:=0) (ks:=z.2) tok rfl rfl rfl rfl rfl (by kernel_rfl) rfl rfl rfl) rfl rfl ?_;refine Qp Ao (Ap (fun hc4=>Aa (Qp Ah (Ra (Rj (Au ?_))))) fun hc4=>Aa (Qp (Qf [Iq _]) (Qp Be (Qp Bt (Qp A8 (Qg [] Qw (Qf [Iq _]) (Qg [(42,_)] Qw Be (Qg [] Qw Ez ?_))))))))
  .
   refine Yx [Iq _] Ze S1 ?_;exact Ye (AV.int .i64) ((iH hc1).trans (hR.2.trans (cD ha (ve7 hc3 hc4) (by decide))))
  refine Yh [(44,_)] Qw (fun hG=>Da T.length rfl rfl (by simp)) ?_;refine Qg [(43,_),(45,_)] Yw Fc (Qp Cr (Qp Ao (Ap (fun hc5=>Aa (Qp Ah (Ra (Rj (Au ?_))))) fun hc5=>?_)))
  .
   refine Yx [Iq _] Ze S1 ?_;exact Ye (AV.int .i64) ((iH hc1).trans (hR.2.trans (cD ha (ve6 hc3 hc4 hc5) (by decide))))
  refine Aa (Qp (A0 (v:=.mapv _) rfl) (Qp Ai (Qp (Xj tok rfl rfl rfl rfl rfl rfl (hlk)) (Qp (Qf [Iq _]) (Qp Be (Qp Bq (Qp Ao (Ap (fun hc6=>Aa (Qp Ah (Ra (Rj (Au ?_))))) fun hc6=>Rf (AW.region (Qp Ce (Qp (Qf E4) (Qp Dk (Rt (Xh (i:=0) (H2:=_::_) tok rfl rfl rfl rfl rfl rfl rfl rfl (hc4) rfl) (Rk (AW.region (Qp Dt (Qp Ai (Aq ?_))))))))))))))))))
  .
   refine Yx [Iq _] Ze S1 ?_;exact Ye (AV.int .i64) ((iH hc1).trans (hR.2.trans (cD ha (ve9 hc3 hc4 hc5 hc6) (by decide))))
  refine ⟨(z.1+1,z.2 ++ [a.name]),?_,?_,Bx⟩
  . exact ⟨hlt,hR.2.trans (vr_on ha (ve0 hc3 hc4 hc5 hc6))⟩
  simp only;omega
 have hde:=Ek hc2;have hall:=hR.2;rw [hde,nG] at hall;refine AW.exit ?_;refine Bn (Ri (Aa (Qp Ah (Rb ?_))));refine Yx [Iq _] Ze S1 ?_;exact Ye (AV.int .i64) ((iH hc1).trans hall)
def cRvX (T:List e8Sc)(V:List Va)(m1 m2 n1 n2:AV):List AV:=[.sl 2 (T.map Js),m1,.sl 2 (V.map Ox),m2,n1,n2]
theorem eq_no {l m:List Int}(h:((l.length:Int) != (m.length:Int))=true):(l==m)=false:=by
 rw [F0];rintro rfl;simp at h
theorem eq_ne {l m:List Int}{k:Nat}{a c:Int}(ha:l[k]? = some a)(hc:m[k]? = some c)(h:(a != c)=true):(l==m)=false:=by
 rw [F0];rintro rfl;rw [ha] at hc;cases hc;simp at h
theorem eq_on {l m:List Int}{k:Nat}{a c:Int}(ha:l[k]? = some a)(hc:m[k]? = some c)(h:(a != c)=false)(hk:l.take k=m.take k):l.take (k+1)=m.take (k+1):=by
 rw [Cf ha,Cf hc,hk];have:a=c:=by simpa using h
 rw [this]
theorem eq_all {l m:List Int}(hl:l.length=m.length)(h:l.take l.length=m.take l.length):(l==m)=true:=by
 rw [Ld,hl,Ld] at h;rw [h];simp
abbrev iQ (q:List Int×Bool):AV:=AV.tuple [.sl 1 (q.1.map cI),.bool q.2]
abbrev Ut (q:Av×Bool):AV:=AV.tuple [.str q.1,.bool q.2]
theorem rz_key (T:List e8Sc)(V:List Va)(s:Nx)(bp:Nat)(m1 m2 n1 n2:AV)(hrv:RvOK T V)(n:Av)(hT:0<T.length):By Tryz.prog 97 bp 159 (cRvX T V m1 m2 n1 n2) (cRvX T V m1 m2 n1 n2) [.val (.pointer (some ⟨bp,0,none⟩)),.str n] (.tuple [.sl 1 ((Oz T V n).1.map cI),.bool (Oz T V n).2]):=by
 intro H;have htl:=hrv.tl;have hvl:=hrv.vl;refine Is 47 Tryz.func97 rfl ?_;refine Aa (Qp (Cm (z:=1) rfl) (Qp Ao (B2 (Qp (G0 ([[Iq _]]) rfl) (Qp Ce (Qp (Af rfl) (Qp Co (Sw 0 (.sl _ _) rfl ?_))))))));refine Qp (Da T.length rfl rfl (by simp)) ?_;refine Qe (Dr rfl (qZ _ T.length hT hrv.tl)) ?_;rintro _ _ ⟨b15,rfl,rfl⟩;refine Qp Qh (Aq (Ba (Qp Ce (Qp (Af rfl) (Qp Co (Sw 1 (.sl _ _) rfl ?_))))));refine Qp (Da V.length rfl rfl (by simp)) ?_;refine Qp Ai (Aq (AW.block ?_));refine AW.Aan (fun (q:Nat×List Int)=>(⟨[(0,.val (.pointer (some ⟨bp,0,none⟩))),(1,.str n),(6,.val (.slice (some ⟨b15,0,none⟩) T.length T.length)),(19,.sl 2 (V.map Ox)),(20,.int .i64 V.length),(21,.int .i64 (q.1:Int))],.box b15 3 (bI q.2) :: .box bp 159 (cRvX T V m1 m2 n1 n2)::H,47⟩:St)) (fun q=>q.1<=V.length/\q.2.length=T.length/\Oz T V n=Wg T n (V.drop q.1) q.2) (fun q=>V.length-q.1) ((0,Yj T.length)) ?_ Bx ?_
 . exact ⟨A3 _,by simp [Yj],rfl⟩
 rintro q hR;refine Aa (Qp Bt (Re (E9 (fun hc1=>?_) fun hc1=>?_)))
 .
  obtain ⟨a,ha⟩:=B3 hc1;have hlt:=Bf ha;have hm:=An ha;have hvt:=hrv.ty a hm;refine (aT hrv hm).elim fun sc hsc=>?_
  have hfl:=hrv.fl sc (An hsc);have hb:a.type.toNat<q.2.length:=by have:=hR.2.1;omega
  refine A5 (AW.seq (AW.block (Aa ?_)));refine Qp (Cp E4 rfl rfl (by omega) (Bp ha)) ?_;refine Qp (B1 E4) (Dx gjy fun b8=>?_);refine Bw 0 E4 (_::_::_::_) ?_;refine Ji 8 0 rfl ?_;refine Re (N3 1 rfl (Qn 0 rfl Ce (Qn 1 rfl (Qf [Iq _]) (Qn 2 rfl Be (Qn 3 rfl Ce (Qn 4 rfl (Af rfl) (Qn 5 rfl Co (Qn 6 rfl (Kn (.sl _ _) rfl) ?_))))))));refine Qn 7 rfl (Qf [Iq _]) (Qn 8 rfl Be (Qn 9 rfl (Cp Jl rfl rfl (hvt.1) (Bp hsc)) (Qn 10 rfl (B1 Jl) (Qn 11 rfl D3 (Qn 12 rfl (Qc rfl (Mu sc hfl n)) (Qn 13 rfl (Dg (o':=a.type.toNat) tok rfl rfl rfl rfl rfl (hvt.1) (hvt.2) (tU _)) ?_))))));refine bH 14 rfl (Nj (k:=0) (v:=Iq _) (cs':=bI (q.2.set a.type.toNat (Hz sc n))) (H2:=_::_::_) tok rfl rfl rfl rfl rfl rfl (cS hb) (dY hb) rfl) ?_;rintro _ _ ⟨rfl,rfl⟩;refine A2 (Aa (Qp Ce (Qp (Qf [Iq _]) (Qp Be (Qp (Dg (o':=a.type.toNat) tok rfl rfl rfl rfl rfl (hvt.1) (hvt.2) (tU _)) (AOL.Aas (Cl (k:=0) (c:=.int .i64 (Hz sc n)) tok rfl rfl rfl (Zi hb)) rfl rfl (Qp Bt (Ap (fun hc2=>Aa (Qp (Cm (z:=1) rfl) (Qp Ao (Ra (Au (Cn (Au ?_))))))) fun hc2=>Rf (AW.region (Qp Dt (Qp Ai (Aq ?_))))))))))))
  .
   refine ⟨.inr rfl,[.sl _ _,.bool _],Zf,_,S1,?_⟩;exact ⟨Ye iQ (hR.2.2.trans (lO ha hsc hc2)),rfl⟩
  refine ⟨(q.1+1,q.2.set a.type.toNat (Hz sc n)),?_,?_,Bx⟩
  . exact ⟨hlt,by simp only [List.length_set];exact hR.2.1,hR.2.2.trans (tH ha hsc hc2)⟩
  simp only;omega
 have hde:=Ek hc1;have hall:=hR.2.2;rw [hde] at hall;refine AW.exit ?_;refine Bn (Ri (Aa ?_));refine AOL.ghost (GS.freezeSl (t:=6) (z:=1) (es:=q.2.map cI) 0 rfl rfl (kU _) (by rw [B7];exact hR.2.1.symm) (B6 _) (by unfold maxLen;omega) (fX (fun _=>rfl) _) mN) ?_;refine Qp Ez (Qp Xk (Qp Ao (Rb ?_)));refine ⟨.inr rfl,[.sl _ _,.bool _],Zf,_,S0,?_⟩;exact ⟨Ye iQ ((hall.trans (by rw [Wg]):Oz T V n=(q.2,true))),rfl⟩
theorem rz_eq (l m:List Int)(hl:l.length<=1048576)(hm:m.length<=1048576):Ak Tryz.prog 192 [.sl 1 (l.map cI),.sl 1 (m.map cI)] (.bool (l==m)):=by
 refine Cw 26 Tryz.func192 rfl fun H=>?_
 refine Aa (Qp Ao (Aq (Ba (Qp Ez ?_))));refine Qp (Da l.length rfl rfl (by simp)) ?_;refine Qp Ez ?_;refine Qp (Da m.length rfl rfl (by simp)) ?_;refine Qp Bq (Ap (fun hc1=>Aa (Qp Ao (Rc (Qr (.bool _) ?_)))) fun hc1=>?_)
 . exact Ye AV.bool (eq_no hc1)
 have hlm:l.length=m.length:=by have:=hc1;simp at this;omega
 refine A5 (Ba (Qp Ez ?_));refine Qp (Da l.length rfl rfl (by simp)) ?_;refine Qp Ai (Aq (AW.block ?_));refine AW.Aan (fun (k:Nat)=>(⟨[(0,.sl 1 (l.map cI)),(1,.sl 1 (m.map cI)),(12,.int .i64 l.length),(13,.int .i64 (k:Int))],H,26⟩:St)) (fun k=>k<=l.length/\l.take k=m.take k) (fun k=>l.length-k) (0) ?_ Bx ?_
 . exact ⟨A3 _,rfl⟩
 rintro k hR;refine Aa (Qp Bt (Re (E9 (fun hc2=>?_) fun hc2=>?_)))
 .
  obtain ⟨a,ha⟩:=B3 hc2;have hlt:=Bf ha;have hm:=An ha;obtain ⟨c,hc⟩:∃c,m[k]? = some c:=⟨_,List.getElem?_eq_getElem (show k<m.length by omega)⟩;refine A5 (AW.seq (AW.block (Aa (Qp Ai (Qp Ah (Re ?_))))));refine Id ?_;refine Qn 0 rfl Ez (Qn 1 rfl Ai ?_);refine Qn 2 rfl (Cp [Iq _] rfl rfl (by omega) (Bp ha)) ?_;refine Qn 3 rfl Be (Qn 4 rfl Ez (Qn 5 rfl Ai ?_));refine Qn 6 rfl (Cp [Iq _] rfl rfl (by omega) (Bp hc)) ?_;refine Qn 7 rfl Be (Qn 8 rfl Bq ?_);refine Fs ?_;refine A2 (E9 (fun hc3=>Aa (Qp Ao (Ra (Au (Cn (Au (Qr (.bool _) ?_))))))) fun hc3=>Rf (AW.region (Qp Dt (Qp Ai (Aq ?_)))))
  . exact Ye AV.bool (eq_ne ha hc hc3)
  refine ⟨k+1,?_,?_,Bx⟩
  . exact ⟨hlt,eq_on ha hc hc3 hR.2⟩
  omega
 have hke:k=l.length:=by have:=Di hc2;have:=hR.1;omega
 subst hke;refine AW.exit ?_;refine Bn (Ri (Aa (Qp Ao (Rb ?_))));refine Qr (.bool _) ?_;exact Ye AV.bool (eq_all hlm hR.2)
theorem rz_index (l:List Va)(hl:l.length<=1048576)(K:FuncId)(hK:U3 Tryz.prog K=true)(cs:List AV)(p:Va->Bool)(hf:∀a∈l,Ak Tryz.prog K (.agg (Ox a)::cs) (.bool (p a))):Ak Tryz.prog 193 [.sl 2 (l.map Ox),.fn (.func K) [] cs] (.int .i64 (Wd p l)):=by
 refine Cw 19 Tryz.func193 rfl fun H=>?_
 refine Aa (Qp Ah (Aq (Ba (Qp Ez ?_))));refine Qp (Da l.length rfl rfl (by simp)) ?_;refine Qp Ai (Aq (AW.block ?_));refine AW.Aan (fun (k:Nat)=>(⟨[(0,.sl 2 (l.map Ox)),(1,.fn (.func K) [] cs),(6,.sl 2 (l.map Ox)),(7,.int .i64 l.length),(8,.int .i64 (k:Int))],H,19⟩:St)) (fun k=>k<=l.length/\(l.take k).any p=false) (fun k=>l.length-k) (0) ?_ Bx ?_
 . exact ⟨A3 _,by simp⟩
 rintro k hR;refine Aa (Qp Bt (Re (E9 (fun hc1=>?_) fun hc1=>?_)))
 .
  obtain ⟨a,ha⟩:=B3 hc1;have hlt:=Bf ha;have hm:=An ha;refine A5 (AW.seq (AW.block (Aa (Qp Ai (Qp Ah (B2 (Qp (A0 (v:=.fn _ _ _) rfl) (Qp Ez (Qp Ai ?_)))))))));refine Qp (Cp E4 rfl rfl (by omega) (Bp ha)) ?_;refine Qp (B1 E4) (Qp (Pi hK rfl rfl rfl (hf a (An ha))) (Ap (fun hc2=>Aa (Qp Ai (Qp Ah (Ra (Au (Cn (Au (Qr (Iq _) ?_)))))))) fun hc2=>Rf (AW.region (Qp Dt (Qp Ai (Aq ?_))))))
  . exact Ye (AV.int .i64) (fD ha hR.2 hc2)
  refine ⟨k+1,?_,?_,Bx⟩
  . exact ⟨hlt,Hr hR.2 ha hc2⟩
  omega
 have hte:=B9 hc1;have hall:=hR.2;rw [hte] at hall;refine AW.exit ?_;refine Bn (Ri (Aa (Qp Ah (Rb ?_))));refine Qr (Iq _) ?_;exact Ye (AV.int .i64) (Z0 hall)
theorem nM (T:List e8Sc)(V:List Va)(n:Av):(Oz T V n).1.length<=T.length:=by
 have h:=oS (T:=T) (n:=n) V (List.replicate T.length (-1));rw [Ss] at h;exact h
section
variable {T:List e8Sc} {q:Qy}
theorem ky_1 (h:((q.key.length:Int)==0)=true):Tk T q=([],true):=if_pos h
theorem ky_2 (h:((q.key.length:Int)==0)=false)(h2:((q.key.length:Int) != (T.length:Int))=true):Tk T q=([],false):=(Bl h).trans (if_pos h2)
theorem ky_3 (h:((q.key.length:Int)==0)=false)(h2:((q.key.length:Int) != (T.length:Int))=false)(h3:(decide (tK q<0)||decide (((kyF T q).length:Int)<=tK q))=true):Tk T q=([],false):=(Bl h).trans ((Bl h2).trans (if_pos h3))
theorem ky_4 (h:((q.key.length:Int)==0)=false)(h2:((q.key.length:Int) != (T.length:Int))=false)(h3:(decide (tK q<0)||decide (((kyF T q).length:Int)<=tK q))=false):Tk T q=(R0 T q,kyO T q):=(Bl h).trans ((Bl h2).trans (Bl h3))
theorem kv0 (h:0<q.vars.length):q.vars[0]? = some ((q.vars[0]?).getD va0):=by rw [List.getElem?_eq_getElem h];rfl
theorem ks0 (h:0<=Wf q/\Wf q<(T.length:Int)):T[(Wf q).toNat]? = some ((T[(Wf q).toNat]?).getD Yu):=by rw [List.getElem?_eq_getElem (show (Wf q).toNat<T.length by omega)];rfl
theorem kk0 (h:0<=Wf q/\Wf q<(T.length:Int))(h2:((q.key.length:Int) != (T.length:Int))=false):q.key[(Wf q).toNat]? = some (tK q):=by
 have h3:q.key.length=T.length:=by simp at h2;omega
 unfold tK ixI;rw [List.getElem?_eq_getElem (show (Wf q).toNat<q.key.length by omega)];rfl
theorem kf0 (h:(decide (tK q<0)||decide (((kyF T q).length:Int)<=tK q))=false):0<=tK q/\(kyF T q)[(tK q).toNat]? = some (((kyF T q)[(tK q).toNat]?).getD fi0):=by
 simp only [En,Ih] at h;refine ⟨by omega,?_⟩;rw [List.getElem?_eq_getElem (show (tK q).toNat<(kyF T q).length by omega)];rfl
end
theorem rz_keyed (T:List e8Sc)(hT:TsOK T)(hsn:∀s∈T,Ly s)(q:Qy)(hrv:RvOK T q.vars)(hvp:0<q.vars.length)(hkl:q.key.length<=1048576):Ak Tryz.prog 124 [.sl 2 (T.map Js),.agg (cQy q)] (.tuple [.str (Tk T q).1,.bool (Tk T q).2]):=by
 have htl:=hT.tl;have hv0:=kv0 hvp;have hk0:0<=Wf q/\Wf q<(T.length:Int):=hrv.ty _ (An hv0);have hs0:=ks0 hk0;have hTp:0<T.length:=by omega
 refine Cw 83 Tryz.func124 rfl fun H=>?_
 refine Aa (Qp (Eh Hw) (Qp Dj (Qp Ao (Aq (Ba (Qp (Qf ghy) (Qp Cg ?_)))))));refine Qp (Da q.key.length rfl rfl (by simp)) ?_;refine Qp Aj (Ap (fun hc1=>?_) fun hc1=>?_)
 .
  refine Aa (Qp Dj (Qp Ao (Rc ?_)));refine Ku (.str _) (.bool _) ?_;exact Ye Ut (ky_1 hc1)
 refine A5 (Ba (Qp (Qf ghy) (Qp Cg ?_)));refine Qp (Da q.key.length rfl rfl (by simp)) ?_;refine Qp Ez ?_;refine Qp (Da T.length rfl rfl (by simp)) ?_;refine Qp Bq (Ap (fun hc2=>?_) fun hc2=>?_)
 .
  refine Aa (Qp Dj (Qp Ao (Rc ?_)));refine Ku (.str _) (.bool _) ?_;exact Ye Ut (ky_2 hc1 hc2)
 have hky:=kk0 hk0 hc2;refine A5 (Aa (Qp Ez ?_));refine Qe (Dr rfl (Ua T hT.tl hT.nd _)) ?_;rintro _ _ ⟨b23,s23,rfl,rfl⟩;refine Qp Qh (B2 (Qp Ce (Qp (Qf rY) (Qp Cg ?_))));refine Qp (Af rfl) ?_;refine Qp Co ?_;refine Bw 0 [_,_,_,_,Iq _,Iq _] (_::_::_) ?_;refine B2 (Qp (Qf rY) (Qp Cg ?_));refine Qp (Cp E4 rfl rfl (by decide) (Bp hv0)) ?_;refine Qp (Qf [Iq _]) (Qp Be (Qp Ah (Aq (Ba (Qp (Qf ghy) (Qp Cg (Qp Ai ?_)))))));refine Qp (Cp [Iq _] rfl rfl (hk0.1) (Bp hky)) ?_;refine Qp Be (Qp Ah (B2 (Qp Ai (Qp Bt (Qp A8 (Qg [] Qw Ai (Qg [] Qw Ez (Qg [] Qw Ai ?_))))))));refine Qg [(43,_),(44,_)] (Yv rfl Es Es) (Cp Jl rfl rfl (hk0.1) (Bp hs0)) ?_;refine Qg [(45,_)] Qw (Qf [_]) (Qg [(46,_)] Qw Cg ?_);refine Yh [(47,_)] Qw (fun hG=>Da ((kyF T q).length) rfl rfl (by rw [B7];rfl)) ?_;refine Qg [(42,_),(48,_)] Yw Fc ?_;refine Qp Cr (Ap (fun hc3=>?_) fun hc3=>?_)
 .
  refine Aa (Qp Dj (Qp Ao (Rc ?_)));refine Yx [.str _,.bool _] Zf S2 ?_;exact Ye Ut (ky_3 hc1 hc2 hc3)
 have hfi:=kf0 hc3;have hnl:(R0 T q).length<=1048576:=(hsn _ (An hs0)).2.2 _ (An hfi.2);refine A5 (AW.seq ?_);refine Id ?_;refine Qn 0 rfl Ez (Qn 1 rfl Ai ?_);refine Qn 2 rfl (Cp Jl rfl rfl (hk0.1) (Bp hs0)) ?_;refine Qn 3 rfl (Qf [_]) (Qn 4 rfl Cg (Qn 5 rfl (Qf ghy) (Qn 6 rfl Cg (Qn 7 rfl Ai ?_))));refine Qn 8 rfl (Cp [Iq _] rfl rfl (hk0.1) (Bp hky)) ?_;refine Qn 9 rfl Be ?_;refine Qn 10 rfl (Cp E4 rfl rfl (hfi.1) (Bp hfi.2)) ?_;refine Qn 11 rfl (Qf E4) (Qn 12 rfl Dk (Qn 13 rfl Dj ?_));refine Fs ?_;refine A2 (Aa (Qp Ce (Qp D3 ?_)));refine AOL.Aas (C9 (k:=0) (by kernel_rfl) rfl rfl (rz_key T q.vars ⟨0,0⟩ b23 _ _ _ _ hrv (R0 T q) hTp)) rfl rfl ?_;refine Qp Ml (Qp Qxs (Qp bG (Qp Xk (Qp Ao (B2 (Qp D3 (Qp A8 (Qp A8 (Qg [] Qw Ez ?_)))))))));refine Qg [] Qw (Qf ghy) (Qg [(74,_)] Qw Cg ?_);refine Yh [(73,_),(75,_)] Yw (fun hG=>Qc rfl (rz_eq (Oz T q.vars (R0 T q)).1 q.key (by have:=nM T q.vars (R0 T q);omega) hkl)) ?_;refine Qp Ej (Qp A8 (Qg [] Qw D3 ?_));refine Qg [(79,_)] Qw (Qc rfl (c20 (R0 T q) hnl)) ?_;refine Qg [(80,_)] Qw Aj (Qp Ej (Qp Dj (Qp Ao (Rb ?_))));refine Yx [.str _,.bool _] Zf S2 ?_;exact Ye Ut (ky_4 hc1 hc2 hc3)
theorem rz_conds (p:Pt)(hp:Gy p<=1048576)(H:List HO):Cj Tryz.prog 127 H [.agg (cPt p)] (fun r H'=>∃v,r = .row v 8 ((Jw p).map F5)/\H' = .row v ((Jw p).map F5).length 36 8::H):=by
 have hal:=M8 p;refine Is 37 Tryz.func127 rfl ?_;refine Aa (Qp (Eh Cy) (Qp (Cm (z:=8) rfl) (B2 (Qp Qh ?_))));refine AOL.ghost (GS.row (t:=3) 36 8 rfl) ?_;refine Aq ?_;refine AW.Aar (fun (z:List (List AV)×Value)=>(⟨[(1,.ptr (cPt p)),(2,.sl 8 []),(3,.row z.2 8 z.1)],.row z.2 z.1.length 36 8::H,37⟩:St)) (fun z=>z.1=(coH p).map F5) ?_ ?_
 .
  refine Aa (Qp (Qf Cy) (Qp Be (Qp Aj (Qp A8 (Qg [] Qw (Qf Cy) (Qg [(10,_)] Qw Be (Qg [(11,_)] Qw Aj (Qp Cr (Qp A8 ?_)))))))));refine Qg [] Qw (Qf Cy) (Qg [(15,_)] Qw Be (Qg [(16,_)] Qw Aj (Qp Cr (Ap (fun hc1=>AW.region (Qp (A0 (v:=.row _ _ _) rfl) (Qp Pj (Qp Kt (Qp (G0 [Hh] rfl) ?_))))) fun hc1=>A5 ?_))))
  .
   refine Qe (Pk 0 rfl (Dl rfl) (by simp) (by simp) (by simp [maxLen])) ?_;rintro _ _ ⟨v23,rfl,rfl⟩;refine Qp (Bb (v:=.row _ _ _) rfl) (Aq ?_);refine ⟨([cE p.cond],v23),?_,Bx⟩;show [cE p.cond]=_;unfold coH;rw [show Ko p=true from hc1];exact congrArg (fun c=>[c]) (Ky _).symm
  refine ⟨([],.slice none 0 0),?_,Bx⟩;show []=_;unfold coH;rw [show Ko p=false from hc1];rfl
 rintro z hz;refine Ba (Qp (Qf bS) (Qp Cg ?_));refine Qp (Da p.args.length rfl rfl (by simp)) ?_;refine Qp Ai (Aq (AW.block ?_));refine AW.Aan (fun (q:Nat×List (List AV)×Value)=>(⟨[(1,.ptr (cPt p)),(2,.sl 8 []),(3,.row q.2.2 8 q.2.1),(25,.sl 14 (p.args.map Jd)),(26,.int .i64 p.args.length),(27,.int .i64 (q.1:Int))],.row q.2.2 q.2.1.length 36 8::H,37⟩:St)) (fun q=>q.1<=p.args.length/\q.2.1=(coH p++(p.args.take q.1).flatMap Jw).map F5) (fun q=>p.args.length-q.1) ((0,z.1,z.2)) ?_ Bx ?_
 . exact ⟨A3 _,by rw [hz];simp⟩
 rintro q hR;refine Aa (Qp Bt (Re (E9 (fun hc2=>?_) fun hc2=>?_)))
 .
  obtain ⟨a,ha⟩:=B3 hc2;have hlt:=Bf ha;have hm:=An ha;have hsc:∀c∈q.2.1,A7 c=true:=by rw [hR.2];exact uM _
  have hb1:q.2.1.length<=1048577:=by have h:=vQ (p:=p) q.1;have h2:=vP p;rw [hR.2,B7,Ax];omega
  have hb2:((Jw a).map F5).length<=1048576:=by have:=eE a;have:=K6 hm;rw [B7];omega
  refine A5 (AW.seq (AW.block (Aa ?_)));refine Qp (Cp Cy rfl rfl (by omega) (Jz ha)) ?_;refine Qp (B1 Cy) (Dx ghz fun b5=>?_);refine Bw 0 Cy (_::_::_) ?_;refine Ji 5 0 rfl ?_;refine Aq (AW.region (Qp (A0 (v:=.row _ _ _) rfl) (Qp (B1 Cy) ?_)));refine Qp (Qc rfl (rf_conds a (by have:=K6 hm;omega))) ?_;refine Qe (Pk 0 rfl (uM _) (hsc) (by simp at hb2 ⊢;omega) (by simp [maxLen] at hb2 ⊢;omega)) ?_;rintro _ _ ⟨v34,rfl,rfl⟩;refine Qp (Bb (v:=.row _ _ _) rfl) (Rk (AW.region (Qp Dt (Qp Ai (Aq ?_)))));refine ⟨(q.1+1,q.2.1++(Jw a).map F5,v34),?_,?_,Bx⟩
  . exact ⟨hlt,by simp only;rw [Cf ha,hR.2];simp⟩
  simp only;omega
 have hte:=B9 hc2;have hall:=hR.2;rw [hte] at hall;refine AW.exit ?_;refine Bn (Ri (Aa ?_));refine Qp (A0 (v:=.row _ _ _) rfl) (Qp (Bb (v:=.row _ _ _) rfl) (Rb ?_));refine ⟨.inr rfl,[.row _ _ _],Ze,_,S0,?_⟩;have hq:q.2.1=(Jw p).map F5:=hall.trans (congrArg (List.map F5) (coP_H p)).symm;exact ⟨q.2.2,congrArg (fun l:List (List AV)=>AV.row q.2.2 8 l) hq,congrArg (fun l:List (List AV)=>(HO.row q.2.2 l.length 36 8::H:List HO)) hq⟩
theorem tnB_any (T:List e8Sc)(q:Qy):(!(q.vars.any fun v=>F7 ((T[v.type.toNat]?).getD Yu).name != 0))=rZ T q:=by
 unfold rZ;rw [List.not_any_eq_all_not]
 congr 1
 funext v
 unfold Q3;simp [bne]
theorem rz_sh1 (T:List e8Sc)(hsn:∀s∈T,Ly s)(a:Va)(ht:0<=a.type/\a.type<(T.length:Int)):Ak Tryz.prog 126 [.agg (Ox a),.ptr [.sl 2 (T.map Js)]] (.bool (F7 ((T[a.type.toNat]?).getD Yu).name != 0)):=by
 refine Cw 12 Tryz.func126 rfl fun H=>?_
 refine Aa (Qp (Eh E4) (Qp Ao (B2 (Qp Cg (Qp (Qf [Iq _]) (Qp Be ?_))))));refine Qp (Cp Jl rfl rfl (ht.1) (Bp (kJ ht))) (Qp (Qf Jl) (Qp Dk (Qp (Qc rfl (c20 ((T[a.type.toNat]?).getD Yu).name (hsn _ (An (kJ ht))).1)) (Qp Bq (Qp Ao (Rb (Qr (.bool _) ?_)))))));rfl
theorem qY (l:List Va)(hl:l.length<=1048576)(K:FuncId)(hK:U3 Tryz.prog K=true)(cs:List AV)(p:Va->Bool)(hf:∀a∈l,Ak Tryz.prog K (.agg (Ox a)::cs) (.bool (p a))):Ak Tryz.prog 125 [.sl 2 (l.map Ox),.fn (.func K) [] cs] (.bool (l.any p)):=by
 refine Cw 9 Tryz.func125 rfl fun H=>?_
 refine Aa (Qp Ao (B2 (Qp Ez (Qp (A0 (v:=.fn _ _ _) rfl) (Qp (Qc rfl (rz_index l hl K hK cs p hf)) (Qp Fc (Qp Ao (Rb (Qr (.bool _) ?_)))))))));exact Eq.trans rfl (congrArg (fun q:Bool=>AV.bool q) (fC p l).2)
theorem n4_fld (l:List Fi)(hl:l.length<=1048576)(n:Av):Ak Tryz.prog 62 [.sl 2 (l.map vM),.str n] (.int .i64 (Ha (l.map (·.name)) n)):=by
 refine Cw 20 Tryz.func62 rfl fun H=>?_
 refine Aa (Qp Ah (Aq (Ba (Qp Ah (Aq (AW.block ?_))))));refine AW.Aan (fun (k:Nat)=>(⟨[(0,.sl 2 (l.map vM)),(1,.str n),(5,.int .i64 (k:Int))],H,20⟩:St)) (fun k=>k<=l.length/\((l.map (·.name)).take k).contains n=false) (fun k=>l.length-k) (0) ?_ Bx ?_
 . exact ⟨A3 _,by simp⟩
 rintro k hR;refine Ba (Qp Ai (Qp Ez ?_));refine Qp (Da l.length rfl rfl (by simp)) ?_;refine Qp Bt (Ap (fun hc1=>?_) fun hc1=>?_)
 .
  obtain ⟨a,ha⟩:=B3 hc1;have hlt:=Bf ha;have hm:=An ha;have hna:(l.map (·.name))[k]? = some a.name:=by simp [ha]
  refine A5 (AW.seq (AW.block (Aa (Qp Ez (Qp Ai ?_)))));refine Qp (Cp E4 rfl rfl (by omega) (Bp ha)) ?_;refine Qp (Qf E4) (Qp Dk (Qp D3 (Qp (A9 rfl rfl) (Ap (fun hc2=>Aa (Qp Ai (Qp Ah (Ra (Au (Cn (Au (Qr (Iq _) ?_)))))))) fun hc2=>Rf (AW.region (Qp Ai (Qp Dt (Qp Ah (Aq ?_)))))))))
  .
   have e:a.name=n:=by simpa using hc2
   rw [e] at hna;exact Ye (AV.int .i64) (Vc hna hR.2)
  refine ⟨k+1,?_,?_,Bx⟩
  . exact ⟨hlt,Md hna hR.2 hc2⟩
  omega
 have hte:=B9 hc1;refine AW.exit ?_;refine Bn (Ri (Aa (Qp Ah (Rb ?_))));refine Qr (Iq _) ?_;have h2:=hR.2;rw [<-Nc,hte] at h2;exact Ye (AV.int .i64) (Sf h2)
theorem n4_var (l:List Va)(hl:l.length<=1048576)(n:Av):Ak Tryz.prog 137 [.sl 2 (l.map Ox),.str n] (.int .i64 (Ha (l.map (·.name)) n)):=by
 refine Cw 20 Tryz.func137 rfl fun H=>?_
 refine Aa (Qp Ah (Aq (Ba (Qp Ah (Aq (AW.block ?_))))));refine AW.Aan (fun (k:Nat)=>(⟨[(0,.sl 2 (l.map Ox)),(1,.str n),(5,.int .i64 (k:Int))],H,20⟩:St)) (fun k=>k<=l.length/\((l.map (·.name)).take k).contains n=false) (fun k=>l.length-k) (0) ?_ Bx ?_
 . exact ⟨A3 _,by simp⟩
 rintro k hR;refine Ba (Qp Ai (Qp Ez ?_));refine Qp (Da l.length rfl rfl (by simp)) ?_;refine Qp Bt (Ap (fun hc1=>?_) fun hc1=>?_)
 .
  obtain ⟨a,ha⟩:=B3 hc1;have hlt:=Bf ha;have hm:=An ha;have hna:(l.map (·.name))[k]? = some a.name:=by simp [ha]
  refine A5 (AW.seq (AW.block (Aa (Qp Ez (Qp Ai ?_)))));refine Qp (Cp E4 rfl rfl (by omega) (Bp ha)) ?_;refine Qp (Qf E4) (Qp Dk (Qp D3 (Qp (A9 rfl rfl) (Ap (fun hc2=>Aa (Qp Ai (Qp Ah (Ra (Au (Cn (Au (Qr (Iq _) ?_)))))))) fun hc2=>Rf (AW.region (Qp Ai (Qp Dt (Qp Ah (Aq ?_)))))))))
  .
   have e:a.name=n:=by simpa using hc2
   rw [e] at hna;exact Ye (AV.int .i64) (Vc hna hR.2)
  refine ⟨k+1,?_,?_,Bx⟩
  . exact ⟨hlt,Md hna hR.2 hc2⟩
  omega
 have hte:=B9 hc1;refine AW.exit ?_;refine Bn (Ri (Aa (Qp Ah (Rb ?_))));refine Qr (Iq _) ?_;have h2:=hR.2;rw [<-Nc,hte] at h2;exact Ye (AV.int .i64) (Sf h2)
theorem n8_flag (x:Bool):Ak Tryz.prog 260 [.bool x] (.agg (cV ⟨1,if x then 1 else 0,[]⟩)):=by
 refine Cw 6 Tryz.func260 rfl fun H=>?_
 refine Aa (Dx [.int .i64 0,.int .i64 0,.str []] fun b2=>Aq (Ba (Qp A8 (Ap (fun hc1=>Aa (Qp (D0 Mf) ?_)) fun hc1=>A5 (Aa (Qp (D0 Mf) ?_))))))
 .
  refine Bw 0 Mf (_::_) (Rc ?_);refine Yx [.agg Mf] (Zb 0) S1 ?_;simp only [Ad,hc1,↓reduceIte,Al];rfl
 refine Bw 0 Mf (_::_) (Rb ?_);refine Yx [.agg Mf] (Zb 0) S1 ?_;simp only [Ad,hc1,↓reduceIte,Al];rfl
theorem n4_yes  : Ak Tryz.prog 198 [] (.agg (cE Lb)):=by
 refine Cw 3 Tryz.func198 rfl fun H=>?_
 refine Aa (Dx yY fun b0=>B2 (Qp (Qc rfl (n8_flag true)) (Qp (D0 Hh) ?_)));refine Bw 0 Hh (_::_) ?_;refine Rb ?_;refine Yx [.agg Hh] (Zb 0) S1 ?_;rfl
theorem n4_varR {l:List Va}{cs:List (List AV)}(h:cs=l.map Ox)(hl:l.length<=1048576)(n:Av):Ak Tryz.prog 137 [.sl 2 cs,.str n] (.int .i64 (Ha (l.map (·.name)) n)):=by subst h;exact n4_var l hl n
end Go.Proofs.YtckhoadldibflaaGreatDoor
