/-
  Several texts in one: R51, R49w, R51w, R52w, B16. No condition.
-/
import Derived.Test.YtckhoadldibflaaGreatDoorK13
import Derived.Test.YtckhoadldibflaaGreatDoorK12
import Derived.Test.YtckhoadldibflaaGreatDoorK01
import Derived.KernelRfl
import Derived.Test.YtckhoadldibflaaGreatDoorK08
import Derived.Test.YtckhoadldibflaaGreatDoorK05
set_option linter.unusedVariables false
set_option linter.unusedSimpArgs false
set_option maxHeartbeats 25600000
set_option maxRecDepth 20000
namespace Go.Proofs.YtckhoadldibflaaGreatDoor
open Go Go.Aw
theorem yG {c:Nat}:∀{l:List Syn},(∀a∈l,wC a<=c)->wL l<=c*l.length
  | [],_=>by rw [wL];exact A3 _
  | x::r,h=>by
    have h1:=h x (by simp);have h2:=yG (l:=r) fun a ha=>h a (by simp [ha])
    rw [wL,A1,Nat.mul_add];omega
theorem ty_w {s:e8Sc}(h:Iu s=0)(hb:Hc s=true):wC (tyT s)<=300:=by
 unfold Hc at hb;rw [Cz] at hb;have h1:=Wp hb.1;have h2:=xR h
 have h3:wL (s.fields.map fiT)<=25*(s.fields.map fiT).length:=yG fun a ha=>by
  obtain ⟨f,hf,rfl⟩:=Db.1 ha;have h4:=Wp (E3.1 hb.2 f hf);rw [Mz];show 1+f.name.length+0+wL []<=25;rw [wL];omega
 rw [B7] at h3;rw [Mz];show 1+s.name.length+0+wL (s.fields.map fiT)<=300;omega
theorem src_med {p:Pg}(h1:(C7 p.types != 0)=false)(h2:p.types.all Hc=true)(h3:p.queries.length<=16)(h4:Na p.types [] p.queries=0)(hr:∀q∈p.queries,q.returns.length<=20):It (Uf p):=by
 obtain ⟨g1,g2,g3⟩:=all_ok h1;obtain ⟨_,k2⟩:=xX p.queries [] h4 List.nodup_nil
 have ht:∀a∈p.types.map tyT,wC a<=300:=fun a ha=>by
  obtain ⟨s,hs,rfl⟩:=Db.1 ha;exact ty_w (g3 s hs) (E3.1 h2 s hs)
 have hq:∀a∈p.queries.map (qT p.types),wC a<=1000000:=fun a ha=>by
  obtain ⟨q,hq,rfl⟩:=Db.1 ha;obtain ⟨s1,s2,_,_⟩:=xU (k2 q hq);exact sh_w s1 s2 (hr q hq)
 have w1:=yG ht;have w2:=yG hq;rw [B7] at w1 w2;have hl:p.types.length<=16:=by simpa using g1
 refine ⟨⟨⟨A3 _,A3 _⟩,?_,?_⟩,fun a ha=>?_⟩
 .
  show (p.types.map tyT++p.queries.map (qT p.types)).length<=1000000;rw [Ax,B7,B7];omega
 .
  rw [Mz];show 1+0+0+wL (p.types.map tyT++p.queries.map (qT p.types))<=20000000;rw [wL_app];have e1:300*p.types.length<=300*16:=Nat.mul_le_mul_left _ hl;have e2:1000000*p.queries.length<=1000000*16:=Nat.mul_le_mul_left _ h3;omega
 rcases Hg.1 ha with ha | ha
 . exact Fl (ht a ha) (by decide)
 exact hq a ha
theorem rz_src1 (f:Fi)(hf:f.name.length<=1048576):Ak Tryz.prog 86 [.agg (vM f)] (.bool (F7 f.name != 0)):=by
 refine Cw 7 Tryz.func86 rfl fun H=>?_
 refine Aa (Qp (Eh E4) (Qp Ao (B2 (Qp (Qf E4) (Qp Dk (Qp (Qc rfl (c20 f.name hf)) (Qp Bq (Qp Ao (Rb (Qr (.bool _) ?_))))))))));rfl
theorem mM (l:List Fi)(hl:l.length<=1048576)(K:FuncId)(hK:U3 Tryz.prog K=true)(cs:List AV)(p:Fi->Bool)(hf:∀a∈l,Ak Tryz.prog K (.agg (vM a)::cs) (.bool (p a))):Ak Tryz.prog 85 [.sl 2 (l.map vM),.fn (.func K) [] cs] (.bool (l.any p)):=by
 refine Cw 9 Tryz.func85 rfl fun H=>?_
 refine Aa (Qp Ao (B2 (Qp Ez (Qp (A0 (v:=.fn _ _ _) rfl) (Qp (Qc rfl (qR l hl K hK cs p hf)) (Qp Fc (Qp Ao (Rb (Qr (.bool _) ?_)))))))));exact Eq.trans rfl (congrArg (fun q:Bool=>AV.bool q) (fC p l).2)
section
variable {p:Pg}
theorem so_1 (h:(C7 p.types != 0)=true):Hk p=(Hb,C7 p.types):=if_pos h
theorem so_b (h:(C7 p.types != 0)=false):Hk p=src1 p:=Bl h
theorem yB (a:e8Sc):((F7 a.name != 0)||a.fields.any (fun f=>F7 f.name != 0)) = !(Hc a):=by
 unfold Hc Q3;rw [Bool.not_and,List.not_all_eq_any_not];rfl
theorem so_2 (h1:(C7 p.types != 0)=false){a:e8Sc}(hm:a∈p.types)(h:((F7 a.name != 0)||a.fields.any (fun f=>F7 f.name != 0))=true):Hk p=(Hb,8):=by
 rw [so_b h1]
 have h2:p.types.all Hc=false:=by
  rw [<-Qa,E3];intro hl;rw [yB,hl a hm] at h;cases h
 unfold src1;rw [h2];rfl
theorem so_c (h1:(C7 p.types != 0)=false)(h2:p.types.all Hc=true){c:Bool}(h3:decide ((16:Int)<(p.queries.length:Int))=c):Hk p=if c then (Hb,5) else rH p:=by
 rw [so_b h1];unfold src1;rw [h2,h3];rfl
theorem so_e (h1:(C7 p.types != 0)=false)(h2:p.types.all Hc=true)(h3:decide ((16:Int)<(p.queries.length:Int))=false){e:Int}(h:Na p.types [] p.queries=e)(he:(e != 0)=true):Hk p=(Hb,e):=by
 refine (so_c h1 h2 h3).trans ?_;show rH p=_;unfold rH;rw [h,if_pos he]
theorem so_d (h1:(C7 p.types != 0)=false)(h2:p.types.all Hc=true)(h3:decide ((16:Int)<(p.queries.length:Int))=false)(h:Na p.types [] p.queries=0):Hk p=src3 p:=by
 refine (so_c h1 h2 h3).trans ?_;show rH p=_;unfold rH;rw [h];rfl
theorem so_w (h:((B0 (Uf p) (.only 0)).2 != 0)=true):src3 p=(Hb,(B0 (Uf p) (.only 0)).2):=if_pos h
theorem so_y (h:((B0 (Uf p) (.only 0)).2 != 0)=false):src3 p=(Uf p,0):=Bl h
end
section
variable {T:List e8Sc} {l:List Qy} {k:Nat} {a:Qy} {seen:List Av}
theorem sg_e (ha:l[k]? = some a)(h:((G5 T a).2 != 0)=true):Na T seen (l.drop k)=(G5 T a).2:=by rw [Bd ha,Na,if_pos h]
theorem sg_7 (ha:l[k]? = some a)(h:((G5 T a).2 != 0)=false)(h2:seen.contains a.name=true):Na T seen (l.drop k)=7:=by rw [Bd ha,Na,Bl h,if_pos h2]
theorem sg_on (ha:l[k]? = some a)(h:((G5 T a).2 != 0)=false)(h2:seen.contains a.name=false):Na T seen (l.drop k)=Na T (seen ++ [a.name]) (l.drop (k+1)):=by rw [Bd ha,Na,Bl h,Bl h2]
end
theorem fi_row (f:Fi):([.int .i64 2,.str f.name,.str [],.int .i64 f.kind,.sl 6 [],.int .i64 0]:List AV)=C3 (fiT f):=by rw [Bi];rfl
theorem ty_row (s:e8Sc):([.int .i64 1,.str s.name,.str [],.int .i64 0,.sl 6 ((s.fields.map fiT).map C3),.int .i64 0]:List AV)=C3 (tyT s):=by rw [Bi];rfl
def Pz (T:List e8Sc)(k:Nat):List (List AV):=((T.take k).map tyT).map C3
def M6 (s:e8Sc)(k:Nat):List (List AV):=((s.fields.take k).map fiT).map C3
def Tb (p:Pg)(k:Nat):List (List AV):=(p.types.map tyT++(p.queries.take k).map (qT p.types)).map C3
theorem fr_on {s:e8Sc}{k:Nat}{f:Fi}(hf:s.fields[k]? = some f):M6 s k ++ [[.int .i64 2,.str f.name,.str [],.int .i64 f.kind,.sl 6 [],.int .i64 0]]=M6 s (k+1):=by
 unfold M6;rw [Cf hf,Em,Em,fi_row];rfl
theorem tr_on {T:List e8Sc}{k:Nat}{s:e8Sc}(hs:T[k]? = some s){r:List (List AV)}(hr:r=M6 s s.fields.length):Pz T k ++ [[.int .i64 1,.str s.name,.str [],.int .i64 0,.sl 6 r,.int .i64 0]]=Pz T (k+1):=by
 subst hr;unfold Pz;rw [Cf hs,Em,Em,M6,Ld,ty_row];rfl
theorem qr_on {p:Pg}{k:Nat}{q:Qy}(hq:p.queries[k]? = some q)(h:((G5 p.types q).2 != 0)=false):Tb p k ++ [cSyn (G5 p.types q).1]=Tb p (k+1):=by
 unfold Tb;rw [(xU h).2.2.2];show _ ++ [cSyn (qT p.types q)]=_;rw [<-Bi (qT p.types q),Cf hq];simp
theorem Yq (p:Pg):∀k,(Pz p.types k).length<=p.types.length/\(Tb p k).length<=p.types.length+p.queries.length:=fun k=>by
 unfold Pz Tb;rw [B7,B7,B7,Ax,B7,B7,Fm,Fm];exact ⟨by omega,by omega⟩
theorem fr_len (s:e8Sc)(k:Nat):(M6 s k).length<=s.fields.length:=by
 unfold M6;rw [B7,B7,Fm];omega
theorem sc_tyR (T:List e8Sc)(k:Nat):∀c∈Pz T k,A7 c=true:=scLe _
theorem sc_fiR (s:e8Sc)(k:Nat):∀c∈M6 s k,A7 c=true:=scLe _
theorem sc_qR (p:Pg)(k:Nat):∀c∈Tb p k,A7 c=true:=scLe _
theorem tr_end {p:Pg}{k:Nat}(h:p.types.take k=p.types):Pz p.types k=Tb p 0:=by
 unfold Pz Tb;rw [h,Ul,Ca,Bh]
theorem q_end {p:Pg}{k:Nat}(h:p.queries.take k=p.queries):Tb p k=(Uf p).kids.map C3:=by
 unfold Tb;rw [h];rfl
theorem ty_all {T:List e8Sc}{k:Nat}{a:e8Sc}(ha:T[k]? = some a)(h:(T.take k).all Hc=true)(h2:((F7 a.name != 0)||a.fields.any (fun f=>F7 f.name != 0))=false):(T.take (k+1)).all Hc=true:=by
 rw [yB] at h2;rw [Cf ha,List.all_append,h,Jr,List.all_nil];simpa using h2
theorem nm_on {l:List Qy}{k:Nat}{a:Qy}(ha:l[k]? = some a):(l.take k).map (·.name) ++ [a.name]=(l.take (k+1)).map (·.name):=by
 rw [Cf ha,Em];rfl
abbrev Ln (q:Syn×Int):AV:=AV.tuple [.agg (cSyn q.1),.int .i64 q.2]
theorem Aaj (p:Pg)(hT:p.types.length<=1048576)(hsn:∀s∈p.types,Ly s)(hql:p.queries.length<=1048576)(hqs:∀q∈p.queries,medQ q/\q.name.length<=1048576/\∀v∈q.vars,v.name.length<=1048576)(hm1:∀q∈p.queries,ShOK p.types q->It (qT p.types q))(hmed:(C7 p.types != 0)=false->p.types.all Hc=true->p.queries.length<=16->Na p.types [] p.queries=0->It (Uf p)):Ak Tryz.prog 33 [.agg (cPg p)] (.tuple [.agg (cSyn (Hk p).1),.int .i64 (Hk p).2]):=by
 refine Cw 116 Tryz.func33 rfl fun H=>?_
 refine Aa (Qp (Eh [_,_]) (Dx F1 fun b2=>Qp Ah (Aq (Ba (Qp (Qf [_,_]) (Qp Cg (Qp (Qc rfl (e8c57 p.types hT hsn)) (Qp Ah (B2 (Qp Ai (Qp Bq (Ap (fun hc1=>Aa (Qp (D0 Ag) (Qp Ai ?_))) fun hc1=>A5 (Aa ?_)))))))))))))
 .
  refine Bw 0 Ag (_::_) (Qp Ah (Rc ?_));refine Yx [.agg Ag,Iq _] (Zc 0) S1 ?_;exact Ye Ln (so_1 hc1)
 refine Qp (Ju (l0:=[.int .i64 0,.str [],.str [],.int .i64 0,.val (.slice none 0 0),.int .i64 0]) (l:=Ag) tok rfl rfl (by kernel_rfl) rfl) ?_;refine Dx F1 fun b5=>?_
 refine Bw 0 Ag (_::_::_) ?_;refine AOL.ghost (GS.cellRow 0 4 25 6 rfl rfl rfl rfl) ?_;refine Aq (Ba (Qp (Qf [_,_]) (Qp Cg ?_)));refine Qp (Da p.types.length rfl rfl (by simp)) ?_;refine Qp Ai (Aq (AW.block ?_));refine AW.Aan (fun (q:Nat×List (List AV)×Value)=>(⟨[(1,.ptr (cPg p)),(2,.val (.pointer (some ⟨b2,0,none⟩))),(3,.int .i64 0),(5,.val (.pointer (some ⟨b5,0,none⟩))),(26,.sl 2 (p.types.map Js)),(27,.int .i64 p.types.length),(28,.int .i64 (q.1:Int))],.row q.2.2 q.2.1.length 25 6 :: .box b5 25 [.int .i64 0,.str [],.str [],.int .i64 0,.row q.2.2 6 q.2.1,.int .i64 0] :: .box b2 25 F1::H,116⟩:St)) (fun q=>q.1<=p.types.length/\q.2.1=Pz p.types q.1/\(p.types.take q.1).all Hc=true) (fun q=>p.types.length-q.1) ((0,[],.slice none 0 0)) ?_ Bx ?_
 . exact ⟨A3 _,rfl,rfl⟩
 rintro q hR;refine Aa (Qp Bt (Re (E9 (fun hc2=>?_) fun hc2=>?_)))
 .
  obtain ⟨a,ha⟩:=B3 hc2;have hlt:=Bf ha;have hm:=An ha;have hok:=hsn a hm;have hso:∀c∈q.2.1,A7 c=true:=by rw [hR.2.1];exact sc_tyR _ _
  have hol:q.2.1.length<=p.types.length:=by rw [hR.2.1];exact (Yq p _).1
  have hfl0:=hok.2.1;refine A5 (AW.seq (AW.block (Aa ?_)));refine Qp (Cp Jl rfl rfl (by omega) (Bp ha)) ?_;refine Qp (B1 Jl) (Dx [.str [],.sl 2 []] fun b7=>?_);refine Bw 0 Jl (_::_::_::_::_) ?_;refine Ji 7 0 rfl ?_;refine Aq (Ba (Qp (Qf Jl) (Qp Dk (Qp (Qc rfl (c20 a.name hok.1)) (Qp Bq (Qp A8 (Qg [] Qw (Qf [_]) (Qg [(37,_)] Qw Cg ?_))))))));refine Qg [(38,_)] Qw (Qc rfl (mM a.fields hok.2.1 86 (by kernel_rfl) [] (fun f=>F7 f.name != 0) (fun f hf=>rz_src1 f (hok.2.2 f hf)))) ?_;refine Qp Cr (Ap (fun hc3=>Aa (Qp (D0 Ag) ?_)) fun hc3=>A5 (Aa (Qp (Qf Jl) (Qp Dk ?_))))
  .
   refine Bw 2 Ag (_::_::_::_) (Qp Ah (Rc (Rj (Au ?_))));refine Yx [.agg Ag,Iq _] (Zc 2) S3 ?_;exact Ye Ln (so_2 hc1 hm hc3)
  refine Qp (Ju (l0:=[.int .i64 0,.str [],.str [],.int .i64 0,.val (.slice none 0 0),.int .i64 0]) (l:=Ag) tok rfl rfl (by kernel_rfl) rfl) ?_;refine Dx F1 fun b8=>?_
  refine Bw 0 Ag (_::_::_::_::_) ?_;refine AOL.ghost (GS.cellRow 0 4 25 6 rfl rfl rfl rfl) ?_;refine Aq (Ba (Qp (Qf [_]) (Qp Cg ?_)));refine Qp (Da a.fields.length rfl rfl (by simp)) ?_;refine Qp Ai (Aq (AW.block ?_));refine AW.Aan (fun (r:Nat×List (List AV)×Value)=>(⟨[(1,.ptr (cPg p)),(2,.val (.pointer (some ⟨b2,0,none⟩))),(3,.int .i64 0),(5,.val (.pointer (some ⟨b5,0,none⟩))),(26,.sl 2 (p.types.map Js)),(27,.int .i64 p.types.length),(28,.int .i64 (q.1:Int)),(7,.ptr (Js a)),(8,.val (.pointer (some ⟨b8,0,none⟩))),(46,.sl 2 (a.fields.map vM)),(47,.int .i64 a.fields.length),(48,.int .i64 (r.1:Int))],.row r.2.2 r.2.1.length 25 6 :: .box b8 25 [.int .i64 1,.str a.name,.str [],.int .i64 0,.row r.2.2 6 r.2.1,.int .i64 0] :: .row q.2.2 q.2.1.length 25 6 :: .box b5 25 [.int .i64 0,.str [],.str [],.int .i64 0,.row q.2.2 6 q.2.1,.int .i64 0] :: .box b2 25 F1::H,116⟩:St)) (fun r=>r.1<=a.fields.length/\r.2.1=M6 a r.1) (fun r=>a.fields.length-r.1) ((0,[],.slice none 0 0)) ?_ Bx ?_
  . exact ⟨A3 _,rfl⟩
  rintro r hP;refine Aa (Qp Bt (Re (E9 (fun hc4=>?_) fun hc4=>?_)))
  .
   obtain ⟨x,hax⟩:=B3 hc4;have hltx:=Bf hax;have hmx:=An hax;have hsf:∀c∈r.2.1,A7 c=true:=by rw [hP.2];exact sc_fiR _ _
   have hfl:r.2.1.length<=a.fields.length:=by rw [hP.2];exact fr_len _ _
   refine A5 (AW.seq (AW.block (Aa ?_)));refine Qp (Cp E4 rfl rfl (by omega) (Bp hax)) ?_;refine Qp (B1 E4) (Dx gjy fun b10=>?_);refine Bw 0 E4 (_::_::_::_::_::_::_) ?_;refine Ji 10 0 rfl ?_;refine Aq (AW.region (Qp Co (Sw 1 (.row _ _ _) rfl (Qp (Qf E4) (Qp Dk (Qp (Qf [Iq _]) (Qp Be (Qp (D0 Ag) (Qp (G0 [Ag] rfl) ?_)))))))));refine Qe (Pk 0 rfl (Dl rfl) (hsf) (by simp;omega) (by simp [maxLen];omega)) ?_;rintro _ _ ⟨v60,rfl,rfl⟩;refine Qp Co ?_;refine Bw 1 Ag (_::_::_::_::_::_) (Rk (AW.region (Qp Dt (Qp Ai (Aq ?_)))));refine ⟨(r.1+1,r.2.1 ++ [[.int .i64 2,.str x.name,.str [],.int .i64 x.kind,.sl 6 [],.int .i64 0]],v60),?_,?_,Bx⟩
   . exact ⟨hltx,(congrArg (· ++ _) hP.2).trans (fr_on hax)⟩
   simp only;omega
  have hdx:=Ek hc4;have hfw:r.2.1=M6 a a.fields.length:=by have h:=hP.2;have h9:r.1=a.fields.length:=(by have:=Di hc4;have:=hP.1;omega);rw [h9] at h;exact h
  refine AW.exit ?_;refine Bn (Ri (AW.region (Qp Co ?_)));refine Sw 3 (.row _ _ _) rfl ?_;refine AOL.ghost (GS.cell (H2:=_::_::_::_::_::_) 1 4 rfl rfl rfl rfl Dv) ?_;refine Nu 1 Ag rfl (Qp (G0 [Ag] rfl) ?_);refine Qe (Pk 2 rfl (Dl rfl) (hso) (by simp;omega) (by simp [maxLen];omega)) ?_;rintro _ _ ⟨v67,rfl,rfl⟩;refine Qp Co ?_;refine Bw 3 Ag (_::_::_::_::_::_) (Rk (AW.region (Qp Dt (Qp Ai (Aq ?_)))));refine ⟨(q.1+1,q.2.1 ++ [[.int .i64 1,.str a.name,.str [],.int .i64 0,.sl 6 r.2.1,.int .i64 0]],v67),?_,?_,GS.weaken ⟨rfl,rfl,rfl,rfl,rfl,rfl,rfl,trivial⟩ (.cons _ (.cons _ (.refl _)))⟩
  . exact ⟨hlt,(congrArg (· ++ _) hR.2.1).trans (tr_on ha hfw),ty_all ha hR.2.2 hc3⟩
  simp only;omega
 have hte:=B9 hc2;have htn:=hR.2.2;rw [hte] at htn;have hqw:=hR.2.1.trans (tr_end hte);refine AW.exit ?_;refine Bn (Ri (Ba (Qp (Qf [_]) (Qp Cg ?_))));refine Qp (Da p.queries.length rfl rfl (by simp)) ?_;refine Qp De (Ap (fun hc5=>Aa (Qp (D0 Ag) ?_)) fun hc5=>?_)
 .
  refine Bw 2 Ag (_::_::_::_) (Qp Ah (Rc ?_));refine Yx [.agg Ag,Iq _] (Zc 2) S3 ?_;exact Ye Ln ((so_c hc1 htn hc5:Hk p=if true then (Hb,5) else rH p))
 have hq16:p.queries.length<=16:=by have:=Di hc5;omega
 refine A5 (Aa (Qe (Lk) ?_));rintro _ _ ⟨b75,rfl,rfl⟩;refine Qp Qh (Aq (Ba (Qp (Qf [_]) (Qp Cg ?_))));refine Qp (Da p.queries.length rfl rfl (by simp)) ?_;refine Qp Ai (Aq (AW.block ?_));refine AW.Aan (fun (w:Nat×List (List AV)×List Av×Value)=>(⟨[(1,.ptr (cPg p)),(2,.val (.pointer (some ⟨b2,0,none⟩))),(3,.int .i64 0),(5,.val (.pointer (some ⟨b5,0,none⟩))),(11,.val (.map (some b75))),(77,.sl 18 (p.queries.map cQy)),(78,.int .i64 p.queries.length),(79,.int .i64 (w.1:Int))],.smap b75 (Yz w.2.2.1) :: .row w.2.2.2 w.2.1.length 25 6 :: .box b5 25 [.int .i64 0,.str [],.str [],.int .i64 0,.row w.2.2.2 6 w.2.1,.int .i64 0] :: .box b2 25 F1::H,116⟩:St)) (fun w=>w.1<=p.queries.length/\w.2.1=Tb p w.1/\w.2.2.1=(p.queries.take w.1).map (·.name)/\Na p.types [] p.queries=Na p.types w.2.2.1 (p.queries.drop w.1)) (fun w=>p.queries.length-w.1) ((0,q.2.1,[],q.2.2)) ?_ Bx ?_
 . exact ⟨A3 _,hqw,rfl,rfl⟩
 rintro w hW;refine Aa (Qp Bt (Re (E9 (fun hc6=>?_) fun hc6=>?_)))
 .
  obtain ⟨a,ha⟩:=B3 hc6;have hlt:=Bf ha;have hm:=An ha;have hqa:=hqs a hm;have hso:∀c∈w.2.1,A7 c=true:=by rw [hW.2.1];exact sc_qR _ _
  have hol:w.2.1.length<=p.types.length+p.queries.length:=by rw [hW.2.1];exact (Yq p _).2
  refine A5 (AW.seq (AW.block (Aa ?_)));refine Qp (Cp Hw rfl rfl (by omega) (Bp ha)) ?_;refine Qp (B1 Hw) (Dx gkx fun b13=>?_);refine Bw 0 Hw (_::_::_::_::_::_) ?_;refine Ji 13 0 rfl ?_;refine B2 (Qp (Qf [_,_]) (Qp Cg (Qp (B1 Hw) (Qp (Qc rfl (xO p.types hT hsn a hqa.1 hqa.2.1 hqa.2.2 (hm1 a hm))) (Qp Ml (Qp (Cq (v:=.agg Ag) rfl rfl) (Qp Km (Dx F1 fun b14=>?_))))))));refine Bw 0 Ag (_::_::_::_::_::_) (Qp Ah ?_);refine Ji 14 0 rfl ?_;refine Aq (Ba (Qp Ai (Qp Bq (Ap (fun hc7=>Aa (Qp (D0 Ag) (Qp Ai ?_))) fun hc7=>A5 (Ba (Qp Ce (Qp (Qf Hw) (Qp Dk ?_))))))))
  .
   refine Bw 3 Ag (_::_::_::_::_) (Qp Ah (Rc (Rj (Au ?_))));refine Yx [.agg Ag,Iq _] (Zc 3) S4 ?_;exact Ye Ln (so_e hc1 htn hc5 (hW.2.2.2.trans (sg_e ha hc7)) hc7)
  refine AOL.Aas (Uq (i:=0) (ks:=w.2.2.1) tok rfl rfl rfl rfl rfl (by kernel_rfl) rfl rfl rfl) rfl rfl ?_;refine Ap (fun hc8=>?_) fun hc8=>?_
  .
   have hc8n:w.2.2.1.contains a.name=true:=hc8;refine Aa (Qp (D0 Ag) ?_);refine Bw 3 Ag (_::_::_::_::_) (Qp Ah (Rc (Rj (Au ?_))));refine Yx [.agg Ag,Iq _] (Zc 3) S4 ?_;exact Ye Ln (so_e hc1 htn hc5 (hW.2.2.2.trans (sg_7 ha hc7 hc8n)) rfl)
  have hc8n:w.2.2.1.contains a.name=false:=hc8;refine A5 (Aa (Qp Ce (Qp (Qf Hw) (Qp Dk (Rt (Xh (i:=0) (H2:=_::_::_::_::_) tok rfl rfl rfl rfl rfl rfl rfl rfl (hc8) rfl) (Aq (AW.region (Qp Co (Sw 2 (.row _ _ _) rfl (Qp (B1 Ag) (Qp (G0 [Ag] rfl) ?_)))))))))));refine Qe (Pk 1 rfl (Dl rfl) (hso) (by simp;omega) (by simp [maxLen];omega)) ?_;rintro _ _ ⟨v106,rfl,rfl⟩;refine Qp Co ?_;refine Bw 2 Ag (_::_::_::_::_) (Rk (AW.region (Qp Dt (Qp Ai (Aq ?_)))));refine ⟨(w.1+1,w.2.1 ++ [cSyn (G5 p.types a).1],w.2.2.1 ++ [a.name],v106),?_,?_,Bx⟩
  . exact ⟨hlt,(congrArg (· ++ _) hW.2.1).trans (qr_on ha hc7),(congrArg (· ++ _) hW.2.2.1).trans (nm_on ha),hW.2.2.2.trans (sg_on ha hc7 hc8n)⟩
  simp only;omega
 have hde:=Ek hc6;have hte:=B9 hc6;have hsg:=hW.2.2.2;rw [hde,Na] at hsg;obtain ⟨w1,w2,w3,w4⟩:=w;have hw2:w2=(Uf p).kids.map C3:=hW.2.1.trans (q_end hte);subst hw2;refine AW.exit ?_;refine Bn (Ri (Ba ?_));refine AOL.ghost (GS.cell (H2:=_::_::_::_::_) 2 4 rfl rfl rfl rfl Dv) ?_;refine Nu 2 Ag rfl (Qp (Qc rfl (rf_Check (Uf p) (hmed hc1 htn hq16 hsg))) (Qp Ah (B2 (Qp Ai (Qp Bq (Ap (fun hc9=>Aa (Qp (D0 Ag) (Qp Ai ?_))) fun hc9=>A5 (Aa (Nu 2 Ag rfl ?_))))))))
 .
  refine Bw 3 Ag (_::_::_::_::_) (Qp Ah (Rc ?_));refine Yx [.agg Ag,Iq _] (Zc 3) S4 ?_;exact Ye Ln (((so_d hc1 htn hc5 hsg).trans (so_w hc9)))
 refine Bw 3 Ag (_::_::_::_::_) (Qp Ah (Rb ?_));refine Yx [.agg Ag,Iq _] (Zc 3) S4 ?_;exact Ye Ln (((so_d hc1 htn hc5 hsg).trans (so_y hc9)))
theorem tyR_is (a:e8Sc):((Il a.name==0)&&a.fields.all (fun f=>Il f.name==0))=Hc a:=by
 unfold Hc Q3;rw [K5];refine congrArg (fun f:Fi->Bool=>(Il a.name==0)&&a.fields.all f) (funext fun f=>?_);rw [K5]
theorem so_2n {p:Pg}(h1:(C7 p.types != 0)=false){a:e8Sc}(hm:a∈p.types)(h:Hc a=false):Hk p=(Hb,8):=so_2 h1 hm (by rw [yB,h];rfl)
theorem ty_alln {T:List e8Sc}{k:Nat}{a:e8Sc}(ha:T[k]? = some a)(h:(T.take k).all Hc=true)(h2:Hc a=true):(T.take (k+1)).all Hc=true:=ty_all ha h (by rw [yB,h2];rfl)
theorem fl_on {l:List Fi}{k:Nat}{x:Fi}(hx:l[k]? = some x)(c:Bool):((c&&(l.take k).all (fun f=>Il f.name==0))&&(Il x.name==0))=(c&&(l.take (k+1)).all (fun f=>Il f.name==0)):=by
 rw [Cf hx,List.all_append,Jr,List.all_nil,Cc,Bool.and_assoc]
theorem cn_hit {l:List Qy}{k n:Nat}{a b:Qy}(hb:l[k]? = some b)(h:k<n)(he:(b.name==a.name)=true):((l.take n).map (·.name)).contains a.name=true:=by
 have h1:(l.take n)[k]? = some b:=by rw [List.getElem?_take,if_pos h];exact hb
 rw [List.contains_iff_mem,<-eq_of_beq he];exact Db.2 ⟨b,An h1,rfl⟩
theorem cn_on {l:List Qy}{k:Nat}{b:Qy}{x:Av}(hb:l[k]? = some b)(h:((l.take k).map (·.name)).contains x=false)(he:(b.name==x)=false):((l.take (k+1)).map (·.name)).contains x=false:=by
 rw [Cf hb,Em,<-Qa,List.contains_iff_mem,Hg];rintro (h1 | h1)
 .
  rw [<-List.contains_iff_mem] at h1;rw [h1] at h;cases h
 have:x=b.name:=by simpa using h1
 rw [this] at he;simp at he
abbrev Lo (q:Syn×Int):AV:=AV.tuple [.agg (cSyn q.1),.int .i64 q.2]
theorem zE (p:Pg)(hT:p.types.length<=1048576)(hsn:∀s∈p.types,Ly s)(hql:p.queries.length<=1048576)(hqs:∀q∈p.queries,medQ q/\q.name.length<=1048576/\∀v∈q.vars,v.name.length<=1048576)(hm1:∀q∈p.queries,ShOK p.types q->It (qT p.types q))(hmed:(C7 p.types != 0)=false->p.types.all Hc=true->p.queries.length<=16->Na p.types [] p.queries=0->It (Uf p)):Ak Tryz.prog 34 [.agg (cPg p)] (.tuple [.agg (cSyn (Hk p).1),.int .i64 (Hk p).2]):=by
 refine Cw 147 Tryz.func34 rfl fun H=>?_
 refine Aa (Qp (Eh [_,_]) (Dx F1 fun b2=>Qp Ah (Aq (Ba (Qp (Qf [_,_]) (Qp Cg (Qp (Qc rfl (c59 p.types hT hsn)) (Qp Ah (B2 (Qp Ai (Qp Bq (Ap (fun hc1=>Aa (Qp (D0 Ag) (Qp Ai ?_))) fun hc1=>A5 (Aa ?_)))))))))))))
 .
  refine Bw 0 Ag (_::_) (Qp Ah (Rc ?_));refine Yx [.agg Ag,Iq _] (Zc 0) S1 ?_;exact Ye Lo (so_1 hc1)
 refine Qp (Ju (l0:=[.int .i64 0,.str [],.str [],.int .i64 0,.val (.slice none 0 0),.int .i64 0]) (l:=Ag) tok rfl rfl (by kernel_rfl) rfl) ?_;refine Dx F1 fun b5=>?_
 refine Bw 0 Ag (_::_::_) ?_;refine AOL.ghost (GS.cellRow 0 4 25 6 rfl rfl rfl rfl) ?_;refine Aq (Ba (Qp Ah (Aq (AW.block ?_))));refine AW.Aan (fun (q:Nat×List (List AV)×Value)=>(⟨[(1,.ptr (cPg p)),(2,.val (.pointer (some ⟨b2,0,none⟩))),(3,.int .i64 0),(5,.val (.pointer (some ⟨b5,0,none⟩))),(6,.int .i64 (q.1:Int))],.row q.2.2 q.2.1.length 25 6 :: .box b5 25 [.int .i64 0,.str [],.str [],.int .i64 0,.row q.2.2 6 q.2.1,.int .i64 0] :: .box b2 25 F1::H,147⟩:St)) (fun q=>q.1<=p.types.length/\q.2.1=Pz p.types q.1/\(p.types.take q.1).all Hc=true) (fun q=>p.types.length-q.1) ((0,[],.slice none 0 0)) ?_ Bx ?_
 . exact ⟨A3 _,rfl,rfl⟩
 rintro q hR;refine Ba (Qp Ai (Qp (Qf [_,_]) (Qp Cg ?_)));refine Qp (Da p.types.length rfl rfl (by simp)) ?_;refine Qp Bt (Ap (fun hc2=>?_) fun hc2=>?_)
 .
  obtain ⟨a,ha⟩:=B3 hc2;have hlt:=Bf ha;have hm:=An ha;have hok:=hsn a hm;have hso:∀c∈q.2.1,A7 c=true:=by rw [hR.2.1];exact sc_tyR _ _
  have hol:q.2.1.length<=p.types.length:=by rw [hR.2.1];exact (Yq p _).1
  have hfl0:=hok.2.1;refine A5 (AW.seq (AW.block (Aa (Qp (Qf [_,_]) (Qp Cg (Qp Ai ?_))))));refine Qp (Cp Jl rfl rfl (by omega) (Bp ha)) ?_;refine Qp (B1 Jl) (Dx [.str [],.sl 2 []] fun b7=>?_);refine Bw 0 Jl (_::_::_::_::_) ?_;refine Ji 7 0 rfl ?_;refine B2 (Qp (Qf Jl) (Qp Dk ?_));refine Qp (Ju (l0:=[.int .i64 0,.str [],.str [],.int .i64 0,.val (.slice none 0 0),.int .i64 0]) (l:=Ag) tok rfl rfl (by kernel_rfl) rfl) ?_;refine Dx F1 fun b8=>?_
  refine Bw 0 Ag (_::_::_::_::_) ?_;refine AOL.ghost (GS.cellRow 0 4 25 6 rfl rfl rfl rfl) ?_;refine B2 (Qp (Qf Jl) (Qp Dk (Qp (Qc rfl (c21 a.name hok.1)) (Qp Aj (Qp Ao (Aq (Ba (Qp Ah (Aq (AW.block ?_))))))))));refine AW.Aan (fun (r:Nat×Bool×List (List AV)×Value)=>(⟨[(1,.ptr (cPg p)),(2,.val (.pointer (some ⟨b2,0,none⟩))),(3,.int .i64 0),(5,.val (.pointer (some ⟨b5,0,none⟩))),(6,.int .i64 (q.1:Int)),(7,.ptr (Js a)),(8,.val (.pointer (some ⟨b8,0,none⟩))),(9,.bool r.2.1),(10,.int .i64 (r.1:Int))],.row r.2.2.2 r.2.2.1.length 25 6 :: .box b8 25 [.int .i64 1,.str a.name,.str [],.int .i64 0,.row r.2.2.2 6 r.2.2.1,.int .i64 0] :: .row q.2.2 q.2.1.length 25 6 :: .box b5 25 [.int .i64 0,.str [],.str [],.int .i64 0,.row q.2.2 6 q.2.1,.int .i64 0] :: .box b2 25 F1::H,147⟩:St)) (fun r=>r.1<=a.fields.length/\r.2.1=((Il a.name==0)&&(a.fields.take r.1).all (fun f=>Il f.name==0))/\r.2.2.1=M6 a r.1) (fun r=>a.fields.length-r.1) ((0,(Il a.name==0),[],.slice none 0 0)) ?_ Bx ?_
  . exact ⟨A3 _,by simp,rfl⟩
  rintro r hP;refine Ba (Qp Ai (Qp (Qf [_]) (Qp Cg ?_)));refine Qp (Da a.fields.length rfl rfl (by simp)) ?_;refine Qp Bt (Ap (fun hc3=>?_) fun hc3=>?_)
  .
   obtain ⟨x,hax⟩:=B3 hc3;have hltx:=Bf hax;have hmx:=An hax;have hsf:∀c∈r.2.2.1,A7 c=true:=by rw [hP.2.2];exact sc_fiR _ _
   have hfl:r.2.2.1.length<=a.fields.length:=by rw [hP.2.2];exact fr_len _ _
   refine A5 (AW.seq (AW.block (Aa (Qp A8 (Qp A8 (Qg [] Qw (Qf [_]) (Qg [(52,_)] Qw Cg (Qg [] Qw Ai ?_))))))));refine Yh [(53,_),(54,_)] (Yv rfl Es Es) (fun hG=>Cp E4 rfl rfl (by omega) (Bp hax)) ?_;refine Qg [(55,_)] Qw (Qf E4) (Qg [(56,_)] Qw Dk (Qg [(57,_)] Qw (Qc rfl (c21 x.name (hok.2.2 x hmx))) (Qg [(58,_)] Qw Aj (Qp Ej (Qp Ao (Aq (N3 1 rfl (Qn 0 rfl Co (Qn 1 rfl (Kn (.row _ _ _) rfl) (Qn 2 rfl (Qf [_]) (Qn 3 rfl Cg (Qn 4 rfl Ai ?_))))))))))));refine Qn 5 rfl (Cp E4 rfl rfl (by omega) (Bp hax)) ?_;refine Qn 6 rfl (Qf E4) (Qn 7 rfl Dk (Qn 8 rfl (Qf [_]) (Qn 9 rfl Cg (Qn 10 rfl Ai ?_))));refine Qn 11 rfl (Cp E4 rfl rfl (by omega) (Bp hax)) ?_;refine Qn 12 rfl (Qf [Iq _]) (Qn 13 rfl Be (Qn 14 rfl (D0 Ag) (Qn 15 rfl (G0 [Ag] rfl) ?_)));refine Ur 16 rfl (Pk 0 rfl (Dl rfl) (hsf) (by simp;omega) (by simp [maxLen];omega)) (by rintro _ _ ⟨v77,rfl,rfl⟩;simp) ?_;rintro _ _ ⟨v77,rfl,rfl⟩;refine Qn 17 rfl Co ?_;refine bH 18 rfl (Hx 1 (.row _ _ _) Ag (_::_::_::_::_::_) rfl) ?_;rintro _ _ ⟨rfl,rfl⟩;refine Gv (A2 (AW.region (Qp Ai (Qp Dt (Qp Ah (Aq ?_))))));refine ⟨(r.1+1,r.2.1&&(Il x.name==0),r.2.2.1 ++ [[.int .i64 2,.str x.name,.str [],.int .i64 x.kind,.sl 6 [],.int .i64 0]],v77),?_,?_,Bx⟩
   . exact ⟨hltx,(congrArg (· && _) hP.2.1).trans (fl_on hax _),(congrArg (· ++ _) hP.2.2).trans (fr_on hax)⟩
   simp only;omega
  have h9r:r.1=a.fields.length:=by have:=Di hc3;have:=hP.1;omega
  have hfw:r.2.2.1=M6 a a.fields.length:=by have h:=hP.2.2;rw [h9r] at h;exact h
  have hb9:r.2.1=Hc a:=by have h:=hP.2.1;rw [h9r,Ld] at h;exact h.trans (tyR_is a)
  refine AW.exit ?_;refine Bn (Ri (Ba (Qp A8 (Qp E7 (Ap (fun hc4=>?_) fun hc4=>?_)))))
  .
   have hb8:Hc a=false:=by rw [<-hb9];simpa using hc4
   refine Aa (Qp (D0 Ag) ?_);refine Bw 4 Ag (_::_::_::_::_::_) (Qp Ah (Rc (Rj (Au ?_))));refine Yx [.agg Ag,Iq _] (Zc 4) S5 ?_;exact Ye Lo (so_2n hc1 hm hb8)
  have hb8:Hc a=true:=by rw [<-hb9];simpa using hc4
  refine A5 (AW.region (Qp Co (Sw 3 (.row _ _ _) rfl ?_)));refine AOL.ghost (GS.cell (H2:=_::_::_::_::_::_) 1 4 rfl rfl rfl rfl Dv) ?_;refine Nu 1 Ag rfl (Qp (G0 [Ag] rfl) ?_);refine Qe (Pk 2 rfl (Dl rfl) (hso) (by simp;omega) (by simp [maxLen];omega)) ?_;rintro _ _ ⟨v86,rfl,rfl⟩;refine Qp Co ?_;refine Bw 3 Ag (_::_::_::_::_::_) (Rk (AW.region (Qp Ai (Qp Dt (Qp Ah (Aq ?_))))));refine ⟨(q.1+1,q.2.1 ++ [[.int .i64 1,.str a.name,.str [],.int .i64 0,.sl 6 r.2.2.1,.int .i64 0]],v86),?_,?_,GS.weaken ⟨rfl,rfl,rfl,rfl,rfl,trivial⟩ (.cons _ (.cons _ (.refl _)))⟩
  . exact ⟨hlt,(congrArg (· ++ _) hR.2.1).trans (tr_on ha hfw),ty_alln ha hR.2.2 hb8⟩
  simp only;omega
 have hte:=B9 hc2;have htn:=hR.2.2;rw [hte] at htn;have hqw:=hR.2.1.trans (tr_end hte);refine AW.exit ?_;refine Bn (Ri (Ba (Qp (Qf [_]) (Qp Cg ?_))));refine Qp (Da p.queries.length rfl rfl (by simp)) ?_;refine Qp De (Ap (fun hc5=>Aa (Qp (D0 Ag) ?_)) fun hc5=>?_)
 .
  refine Bw 2 Ag (_::_::_::_) (Qp Ah (Rc ?_));refine Yx [.agg Ag,Iq _] (Zc 2) S3 ?_;exact Ye Lo ((so_c hc1 htn hc5:Hk p=if true then (Hb,5) else rH p))
 have hq16:p.queries.length<=16:=by have:=Di hc5;omega
 refine A5 (Ba (Qp Ah (Aq (AW.block ?_))));refine AW.Aan (fun (w:Nat×List (List AV)×Value)=>(⟨[(1,.ptr (cPg p)),(2,.val (.pointer (some ⟨b2,0,none⟩))),(3,.int .i64 0),(5,.val (.pointer (some ⟨b5,0,none⟩))),(11,.int .i64 (w.1:Int))],.row w.2.2 w.2.1.length 25 6 :: .box b5 25 [.int .i64 0,.str [],.str [],.int .i64 0,.row w.2.2 6 w.2.1,.int .i64 0] :: .box b2 25 F1::H,147⟩:St)) (fun w=>w.1<=p.queries.length/\w.2.1=Tb p w.1/\Na p.types [] p.queries=Na p.types ((p.queries.take w.1).map (·.name)) (p.queries.drop w.1)) (fun w=>p.queries.length-w.1) ((0,q.2.1,q.2.2)) ?_ Bx ?_
 . exact ⟨A3 _,hqw,rfl⟩
 rintro w hW;refine Ba (Qp Ai (Qp (Qf [_]) (Qp Cg ?_)));refine Qp (Da p.queries.length rfl rfl (by simp)) ?_;refine Qp Bt (Ap (fun hc6=>?_) fun hc6=>?_)
 .
  obtain ⟨a,ha⟩:=B3 hc6;have hlt:=Bf ha;have hm:=An ha;have hqa:=hqs a hm;have hso:∀c∈w.2.1,A7 c=true:=by rw [hW.2.1];exact sc_qR _ _
  have hol:w.2.1.length<=p.types.length+p.queries.length:=by rw [hW.2.1];exact (Yq p _).2
  refine A5 (AW.seq (AW.block (AW.seq ?_)));refine Id ?_;refine Qn 0 rfl (Qf [_,_]) (Qn 1 rfl Cg (Qn 2 rfl (Qf [_]) (Qn 3 rfl Cg (Qn 4 rfl Ai ?_))));refine Qn 5 rfl (Cp Hw rfl rfl (by omega) (Bp ha)) ?_;refine Qn 6 rfl (B1 Hw) (Qn 7 rfl (Qc rfl (wU p.types hT hsn a hqa.1 hqa.2.1 hqa.2.2 (hm1 a hm))) (Qn 8 rfl Ml (Qn 9 rfl (Cq (v:=.agg Ag) rfl rfl) (Qn 10 rfl Km ?_))));refine hJ 11 rfl (Gp (l:=F1) (by kernel_rfl)) ?_;rintro _ _ ⟨b12,rfl,rfl⟩;refine Ma 12 rfl (Hx 0 (.agg _) Ag (_::_::_::_::_) rfl) ?_;refine Qn 13 rfl Ah ?_;refine Fs ?_;refine A2 ?_;refine AW.ghost (GS.freeze (t:=12) 0 rfl rfl) ?_;refine Ba (Qp Ai (Qp Bq (Ap (fun hc7=>Aa (Qp (D0 Ag) (Qp Ai ?_))) fun hc7=>A5 (Ba (Qp Ah (Aq (AW.block ?_)))))))
  .
   refine Bw 2 Ag (_::_::_::_) (Qp Ah (Rc (Rj (Au ?_))));refine Yx [.agg Ag,Iq _] (Zc 2) S3 ?_;exact Ye Lo (so_e hc1 htn hc5 (hW.2.2.trans (sg_e ha hc7)) hc7)
  refine AW.Aan (fun (k:Nat)=>(⟨[(1,.ptr (cPg p)),(2,.val (.pointer (some ⟨b2,0,none⟩))),(3,.int .i64 0),(5,.val (.pointer (some ⟨b5,0,none⟩))),(11,.int .i64 (w.1:Int)),(12,.ptr (cSyn (G5 p.types a).1)),(14,.int .i64 (k:Int))],.row w.2.2 w.2.1.length 25 6 :: .box b5 25 [.int .i64 0,.str [],.str [],.int .i64 0,.row w.2.2 6 w.2.1,.int .i64 0] :: .box b2 25 F1::H,147⟩:St)) (fun k=>k<=w.1/\((p.queries.take k).map (·.name)).contains a.name=false) (fun k=>w.1-k) (0) ?_ Bx ?_
  . exact ⟨A3 _,rfl⟩
  rintro k hV;refine Ba (Qp Ai (Qp Ai (Qp Bt (Ap (fun hc8=>?_) fun hc8=>?_))))
  .
   have hlk:k<w.1:=by have:=Do hc8;omega
   have hab:=List.getElem?_eq_getElem (l:=p.queries) (i:=k) (by omega);generalize p.queries[k]=b at hab;refine A5 (AW.seq (AW.block (AW.seq ?_)));refine Id ?_;refine Qn 0 rfl (Qf [_]) (Qn 1 rfl Cg (Qn 2 rfl Ai ?_));refine Qn 3 rfl (Cp Hw rfl rfl (by omega) (Bp hab)) ?_;refine Qn 4 rfl (Qf Hw) (Qn 5 rfl Dk (Qn 6 rfl (Qf [_]) (Qn 7 rfl Cg (Qn 8 rfl Ai ?_))));refine Qn 9 rfl (Cp Hw rfl rfl (by omega) (Bp ha)) ?_;refine Qn 10 rfl (Qf Hw) (Qn 11 rfl Dk (Qn 12 rfl (A9 rfl rfl) ?_));refine Fs ?_;refine A2 (E9 (fun hc9=>?_) fun hc9=>Rf (AW.region (Qp Ai (Qp Dt (Qp Ah (Aq ?_))))))
   .
    have hct:=cn_hit (a:=a) hab hlk hc9;refine Aa (Qp (D0 Ag) ?_);refine Bw 2 Ag (_::_::_::_) (Qp Ah (Ra (Au (Cn (Au (Cn (Au (Au (Cn (Au ?_))))))))));refine Yx [.agg Ag,Iq _] (Zc 2) S3 ?_;exact Ye Lo (so_e hc1 htn hc5 (hW.2.2.trans (sg_7 ha hc7 hct)) rfl)
   refine ⟨k+1,?_,?_,Bx⟩
   . exact ⟨hlk,cn_on hab hV.2 hc9⟩
   omega
  have hkw:k=w.1:=by have:=Di hc8;have:=hV.1;omega
  have hcf:=hV.2;rw [hkw] at hcf;refine AW.exit ?_;refine Bn (Ri (AW.region (Qp Co ?_)));refine Sw 1 (.row _ _ _) rfl (Qp (B1 Ag) (Qp (G0 [Ag] rfl) ?_));refine Qe (Pk 0 rfl (Dl rfl) (hso) (by simp;omega) (by simp [maxLen];omega)) ?_;rintro _ _ ⟨v138,rfl,rfl⟩;refine Qp Co ?_;refine Bw 1 Ag (_::_::_::_) (Rk (AW.region (Qp Ai (Qp Dt (Qp Ah (Aq ?_))))));refine ⟨(w.1+1,w.2.1 ++ [cSyn (G5 p.types a).1],v138),?_,?_,Bx⟩
  . exact ⟨hlt,(congrArg (· ++ _) hW.2.1).trans (qr_on ha hc7),hW.2.2.trans ((sg_on ha hc7 hcf).trans (by simp only;rw [nm_on ha]))⟩
  simp only;omega
 have hde:=Ek hc6;have hte:=B9 hc6;have hsg:=hW.2.2;rw [hde,Na] at hsg;obtain ⟨w1,w2,w3⟩:=w;have hw2:w2=(Uf p).kids.map C3:=hW.2.1.trans (q_end hte);subst hw2;refine AW.exit ?_;refine Bn (Ri (Ba ?_));refine AOL.ghost (GS.cell (H2:=_::_::_::_) 1 4 rfl rfl rfl rfl Dv) ?_;refine Nu 1 Ag rfl (Qp (Qc rfl (r_Check (Uf p) (hmed hc1 htn hq16 hsg))) (Qp Ah (B2 (Qp Ai (Qp Bq (Ap (fun hc10=>Aa (Qp (D0 Ag) (Qp Ai ?_))) fun hc10=>A5 (Aa (Nu 1 Ag rfl ?_))))))))
 .
  refine Bw 2 Ag (_::_::_::_) (Qp Ah (Rc ?_));refine Yx [.agg Ag,Iq _] (Zc 2) S3 ?_;exact Ye Lo (((so_d hc1 htn hc5 hsg).trans (so_w hc10)))
 refine Bw 2 Ag (_::_::_::_) (Qp Ah (Rb ?_));refine Yx [.agg Ag,Iq _] (Zc 2) S3 ?_;exact Ye Lo (((so_d hc1 htn hc5 hsg).trans (so_y hc10)))
def sW (p:Pg):Bool:=if (!(oF p.types))||decide ((20:Int)<(p.queries.length:Int)) then false else p.queries.all Xz
theorem fg_1 {p:Pg}(h:((!(oF p.types))||decide ((20:Int)<(p.queries.length:Int)))=true):sW p=false:=if_pos h
theorem fg_2 {p:Pg}(h:((!(oF p.types))||decide ((20:Int)<(p.queries.length:Int)))=false){a:Qy}(hm:a∈p.queries)(h2:(!(Xz a))=true):sW p=false:=by
 refine (Bl h).trans ?_;rw [<-Qa,E3];intro hl;rw [hl a hm] at h2;cases h2
theorem fg_3 {p:Pg}(h:((!(oF p.types))||decide ((20:Int)<(p.queries.length:Int)))=false)(h2:p.queries.all Xz=true):sW p=true:=(Bl h).trans h2
theorem fg_q {p:Pg}(h:sW p=true):∀q∈p.queries,Xz q=true:=by
 unfold sW at h;split at h
 . cases h
 exact E3.1 h
theorem fq_on {l:List Qy}{k:Nat}{a:Qy}(ha:l[k]? = some a)(h:(l.take k).all Xz=true)(h2:(!(Xz a))=false):(l.take (k+1)).all Xz=true:=by
 rw [Cf ha,List.all_append,h,Jr,List.all_nil];simpa using h2
theorem n4_Few (p:Pg)(hT:p.types.length<=1048576)(hsn:∀s∈p.types,Ly s)(hql:p.queries.length<=1048576)(hqs:∀q∈p.queries,medQ q):Ak Tryz.prog 32 [.agg (cPg p)] (.bool (sW p)):=by
 refine Cw 28 Tryz.func32 rfl fun H=>?_
 refine Aa (Qp (Eh [_,_]) (Qp Ao (Aq (Ba (Qp (Qf [_,_]) (Qp Cg (Qp (Qc rfl (n3_few p.types hT hsn)) (Qp E7 (Qp A8 (Qg [] Qw (Qf [_]) (Qg [(9,_)] Qw Cg ?_)))))))))));refine Yh [(10,_)] Qw (fun hG=>Da p.queries.length rfl rfl (by simp)) ?_;refine Qg [(11,_)] Qw De (Qp Cr (Ap (fun hc1=>Aa (Qp Ao (Rc (Qr (.bool _) ?_)))) fun hc1=>A5 (Ba (Qp Ah (Aq (AW.block ?_))))))
 . exact Ye AV.bool (fg_1 hc1)
 refine AW.Aan (fun (k:Nat)=>(⟨[(1,.ptr (cPg p)),(3,.int .i64 (k:Int))],H,28⟩:St)) (fun k=>k<=p.queries.length/\(p.queries.take k).all Xz=true) (fun k=>p.queries.length-k) (0) ?_ Bx ?_
 . exact ⟨A3 _,by simp⟩
 rintro k hR;refine Ba (Qp Ai (Qp (Qf [_]) (Qp Cg ?_)));refine Qp (Da p.queries.length rfl rfl (by simp)) ?_;refine Qp Bt (Ap (fun hc2=>?_) fun hc2=>?_)
 .
  obtain ⟨a,ha⟩:=B3 hc2;have hlt:=Bf ha;have hm:=An ha;refine A5 (AW.seq (AW.block (Aa (Qp (Qf [_]) (Qp Cg (Qp Ai ?_))))));refine Qp (Cp Hw rfl rfl (by omega) (Bp ha)) ?_;refine Qp (B1 Hw) (Qp (Qc rfl (n4_fq a (hqs a hm))) (Qp E7 (Ap (fun hc3=>Aa (Qp Ao (Ra (Au (Cn (Au (Qr (.bool _) ?_))))))) fun hc3=>Rf (AW.region (Qp Ai (Qp Dt (Qp Ah (Aq ?_))))))))
  . exact Ye AV.bool (fg_2 hc1 hm hc3)
  refine ⟨k+1,?_,?_,Bx⟩
  . exact ⟨hlt,fq_on ha hR.2 hc3⟩
  omega
 have hte:=B9 hc2;have hall:=hR.2;rw [hte] at hall;refine AW.exit ?_;refine Bn (Ri (Aa (Qp Ao (Rb ?_))));refine Qr (.bool _) ?_;exact Ye AV.bool (fg_3 hc1 hall)
theorem Z2 (p:Pg)(hT:p.types.length<=1048576)(hsn:∀s∈p.types,Ly s)(hql:p.queries.length<=1048576)(hqs:∀q∈p.queries,medQ q/\q.name.length<=1048576/\∀v∈q.vars,v.name.length<=1048576):Ak Tryz.prog 9 [.agg (cPg p)] (.bool true):=by
 refine Cw 32 Tryz.func9 rfl fun H=>?_
 refine Aa (Qp (Eh [_,_]) (Qp Ao (Aq (Ba (Qp (B1 [_,_]) (Qp (Qc rfl (n4_Few p hT hsn hql (fun q hq=>(hqs q hq).1))) ?_))))));refine Qp E7 (Ap (fun hc1=>Aa (Qp (Qc rfl (dC)) (Qp Ao (Rc (Qr (.bool _) ?_))))) fun hc1=>?_)
 . rfl
 have hf:sW p=true:=by simpa using hc1
 have hm1:∀q∈p.queries,ShOK p.types q->It (qT p.types q):=fun q hq h=>sh_med h (sh_key h) (fq_r (fg_q hf q hq))
 have hmed:(C7 p.types != 0)=false->p.types.all Hc=true->p.queries.length<=16->Na p.types [] p.queries=0->It (Uf p):=fun h1 h2 h3 h4=>src_med h1 h2 h3 h4 fun q hq=>fq_r (fg_q hf q hq)
 refine A5 (Aa (Qp (B1 [_,_]) (Qp (Qc rfl (Aaj p hT hsn hql hqs hm1 hmed)) (Qp Ml (Qp (Cq (v:=.agg Ag) rfl rfl) (Qp Km (Dx F1 fun b3=>?_)))))));refine Bw 0 Ag (_::_) (Qp Ah ?_);refine Ji 3 0 rfl ?_;refine B2 (Qp (B1 [_,_]) (Qp (Qc rfl (zE p hT hsn hql hqs hm1 hmed)) (Qp Ml (Qp (Cq (v:=.agg Ag) rfl rfl) (Qp Km (Dx F1 fun b5=>?_))))));refine Bw 0 Ag (_::_) (Qp Ah ?_);refine Ji 5 0 rfl ?_;refine B2 (Qp (Qc rfl (dC)) (Qp A8 (Qg [] Qw (B1 Ag) (Qg [] Qw (B1 Ag) (Qg [(23,_),(24,_)] Yw (Qc rfl (qK (Hk p).1 (Hk p).1)) (Qp Ej (Qp A8 (Qg [] Qw Ai (Qg [] Qw Ai (Qg [(28,_),(29,_)] Yw Aj (Qp Ej (Qp Ao (Rb (Qr (.bool _) ?_))))))))))))));simp [Ad,gG]
def pgB (p:Pg):Nat:=(p.types.map scN).sum+(p.queries.map qyB).sum+1
theorem qyB_pos (q:Qy):1<=qyB q:=by unfold qyB;omega
theorem xC {p:Pg}(h:pgB p<=1048576):(p.types.length<=1048576/\∀s∈p.types,Ly s)/\p.queries.length<=1048576/\∀q∈p.queries,medQ q/\q.name.length<=1048576/\∀v∈q.vars,v.name.length<=1048576:=by
 unfold pgB at h;have h2:=Ol (f:=qyB) qyB_pos p.queries;exact ⟨uU (by unfold tysN;omega),by omega,fun q hq=>xF (by have:=Om (f:=qyB) hq;omega)⟩
section
variable {H:Type} {enc:TypeId×Value->H} {w:World} {sp:Nat->Bool} {hd:Bool}
abbrev u_Pg:=@Tryz.underlying59
theorem z_57:Tryz.prog.cellsOf 57=1:=by kernel_rfl
theorem z_40:Tryz.prog.cellsOf 40=18:=by kernel_rfl
theorem rPg (Bm:Nat):R enc w sp hd Bm 59 cPg (fun _=>True) pgB:=
 (Rd.struct' Tryz.underlying59 F2 rfl (by kernel_rfl) (by kernel_rfl) fun m _=>Rds.cons F2 z_Tys (Rd.slice' (z:=2) u_Tys z_Sc (by decide) F2 fun k _=>rSc k) <|
  Rds.cons F2 z_57 (Rd.slice' (z:=18) Tryz.underlying57 z_40 (by decide) F2 fun k _=>rQy k) Rds.nil).map
  (fun x=>(⟨x.1,x.2.1⟩:Pg)) (fun _=>rfl) (fun _ _=>trivial) (fun x=>by simp only [pgB];omega)
end
end Go.Proofs.YtckhoadldibflaaGreatDoor
