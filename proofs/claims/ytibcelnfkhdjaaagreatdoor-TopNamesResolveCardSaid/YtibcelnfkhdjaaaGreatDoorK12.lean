/-
  Several texts in one: R51w, S80, S79, G14. No condition.
-/
import Derived.Test.YtibcelnfkhdjaaaGreatDoorK03
import Derived.Test.YtibcelnfkhdjaaaGreatDoorK11
import Derived.Test.YtibcelnfkhdjaaaGreatDoorK09
import Derived.KernelRfl
import Derived.Test.YtibcelnfkhdjaaaGreatDoorK07
import Derived.Test.YtibcelnfkhdjaaaGreatDoorK02
import Derived.Test.YtibcelnfkhdjaaaGreatDoorAx
import Derived.Test.YtibcelnfkhdjaaaGreatDoorCards
import Derived.Test.YtibcelnfkhdjaaaGreatDoorTie
import Derived.Test.YtibcelnfkhdjaaaGreatDoorK05
import Derived.Deep.DeepHandedRow
import Derived.Lib.LaidTab
set_option linter.unusedVariables false
set_option linter.unusedSimpArgs false
set_option maxHeartbeats 25600000
set_option maxRecDepth 100000
namespace Go.Proofs.YtibcelnfkhdjaaaGreatDoor
open Go Go.Aw
section
variable {p:Pg}
theorem so_1 (h:(Dr p.types != 0)=true):Hm p=(He,Dr p.types):=if_pos h
theorem so_b (h:(Dr p.types != 0)=false):Hm p=src1 p:=B2 h
theorem ty_nm (a:e8Sc):((F7 a.name != 0)||a.fields.any (fun f=>F7 f.name != 0)) = !(S8 a):=by
 unfold S8 bC;rw [Bool.not_and,List.not_all_eq_any_not];rfl
theorem so_2 (h1:(Dr p.types != 0)=false){a:e8Sc}(hm:a∈p.types)(h:((F7 a.name != 0)||a.fields.any (fun f=>F7 f.name != 0))=true):Hm p=(He,8):=by
 rw [so_b h1]
 have h2:p.types.all S8=false:=by
  rw [<-Bool.not_eq_true,Ht];intro hl;rw [ty_nm,hl a hm] at h;cases h
 unfold src1;rw [h2];rfl
theorem so_c (h1:(Dr p.types != 0)=false)(h2:p.types.all S8=true){c:Bool}(h3:decide ((16:Int)<(p.queries.length:Int))=c):Hm p=if c then (He,5) else pS p:=by
 rw [so_b h1];unfold src1;rw [h2,h3];rfl
theorem so_e (h1:(Dr p.types != 0)=false)(h2:p.types.all S8=true)(h3:decide ((16:Int)<(p.queries.length:Int))=false){e:Int}(h:T7 p.types [] p.queries=e)(he:(e != 0)=true):Hm p=(He,e):=by
 refine (so_c h1 h2 h3).trans ?_;show pS p=_;unfold pS;rw [h,if_pos he]
theorem so_d (h1:(Dr p.types != 0)=false)(h2:p.types.all S8=true)(h3:decide ((16:Int)<(p.queries.length:Int))=false)(h:T7 p.types [] p.queries=0):Hm p=src3 p:=by
 refine (so_c h1 h2 h3).trans ?_;show pS p=_;unfold pS;rw [h];rfl
theorem so_w (h:((Ca (Pk p) (.only 0)).2 != 0)=true):src3 p=(He,(Ca (Pk p) (.only 0)).2):=if_pos h
theorem so_y (h:((Ca (Pk p) (.only 0)).2 != 0)=false):src3 p=(Pk p,0):=B2 h
end
section
variable {T:List e8Sc} {l:List Qy} {k:Nat} {a:Qy} {seen:List Ag}
theorem sg_e (ha:l[k]? = some a)(h:((Ld T a).2 != 0)=true):T7 T seen (l.drop k)=(Ld T a).2:=by rw [Bm ha,T7,if_pos h]
theorem sg_7 (ha:l[k]? = some a)(h:((Ld T a).2 != 0)=false)(h2:seen.contains a.name=true):T7 T seen (l.drop k)=7:=by rw [Bm ha,T7,B2 h,if_pos h2]
theorem sg_on (ha:l[k]? = some a)(h:((Ld T a).2 != 0)=false)(h2:seen.contains a.name=false):T7 T seen (l.drop k)=T7 T (seen ++ [a.name]) (l.drop (k+1)):=by rw [Bm ha,T7,B2 h,B2 h2]
end
theorem fi_row (f:Fi):([.int .i64 2,.str f.name,.str [],.int .i64 f.kind,.sl 6 [],.int .i64 0]:List AV)=Cu (fiT f):=by rw [Ba];rfl
theorem ty_row (s:e8Sc):([.int .i64 1,.str s.name,.str [],.int .i64 0,.sl 6 ((s.fields.map fiT).map Cu),.int .i64 0]:List AV)=Cu (tyT s):=by rw [Ba];rfl
def Sn (T:List e8Sc)(k:Nat):List (List AV):=((T.take k).map tyT).map Cu
def O7 (s:e8Sc)(k:Nat):List (List AV):=((s.fields.take k).map fiT).map Cu
def Tz (p:Pg)(k:Nat):List (List AV):=(p.types.map tyT++(p.queries.take k).map (qT p.types)).map Cu
theorem fr_on {s:e8Sc}{k:Nat}{f:Fi}(hf:s.fields[k]? = some f):O7 s k ++ [[.int .i64 2,.str f.name,.str [],.int .i64 f.kind,.sl 6 [],.int .i64 0]]=O7 s (k+1):=by
 unfold O7;rw [Cs hf,E5,E5,fi_row];rfl
theorem tr_on {T:List e8Sc}{k:Nat}{s:e8Sc}(hs:T[k]? = some s){r:List (List AV)}(hr:r=O7 s s.fields.length):Sn T k ++ [[.int .i64 1,.str s.name,.str [],.int .i64 0,.sl 6 r,.int .i64 0]]=Sn T (k+1):=by
 subst hr;unfold Sn;rw [Cs hs,E5,E5,O7,Mu,ty_row];rfl
theorem qr_on {p:Pg}{k:Nat}{q:Qy}(hq:p.queries[k]? = some q)(h:((Ld p.types q).2 != 0)=false):Tz p k ++ [cSyn (Ld p.types q).1]=Tz p (k+1):=by
 unfold Tz;rw [(show_ok h).2.2.2];show _ ++ [cSyn (qT p.types q)]=_;rw [<-Ba (qT p.types q),Cs hq];simp
theorem pG (p:Pg):∀k,(Sn p.types k).length<=p.types.length/\(Tz p k).length<=p.types.length+p.queries.length:=fun k=>by
 unfold Sn Tz;rw [By,By,By,Ao,By,By,Df,Df];exact ⟨by omega,by omega⟩
theorem fr_len (s:e8Sc)(k:Nat):(O7 s k).length<=s.fields.length:=by
 unfold O7;rw [By,By,Df];omega
theorem sc_tyR (T:List e8Sc)(k:Nat):∀c∈Sn T k,Au c=true:=scLe _
theorem sc_fiR (s:e8Sc)(k:Nat):∀c∈O7 s k,Au c=true:=scLe _
theorem sc_qR (p:Pg)(k:Nat):∀c∈Tz p k,Au c=true:=scLe _
theorem tr_end {p:Pg}{k:Nat}(h:p.types.take k=p.types):Sn p.types k=Tz p 0:=by
 unfold Sn Tz;rw [h,List.take_zero,Bw,A3]
theorem q_end {p:Pg}{k:Nat}(h:p.queries.take k=p.queries):Tz p k=(Pk p).kids.map Cu:=by
 unfold Tz;rw [h];rfl
theorem ty_all {T:List e8Sc}{k:Nat}{a:e8Sc}(ha:T[k]? = some a)(h:(T.take k).all S8=true)(h2:((F7 a.name != 0)||a.fields.any (fun f=>F7 f.name != 0))=false):(T.take (k+1)).all S8=true:=by
 rw [ty_nm] at h2;rw [Cs ha,List.all_append,h,Lz,List.all_nil];simpa using h2
theorem nm_on {l:List Qy}{k:Nat}{a:Qy}(ha:l[k]? = some a):(l.take k).map (·.name) ++ [a.name]=(l.take (k+1)).map (·.name):=by
 rw [Cs ha,E5];rfl
abbrev Ln (q:Syn×Int):AV:=AV.tuple [.agg (cSyn q.1),.int .i64 q.2]
theorem yS (p:Pg)(hT:p.types.length<=1048576)(hsn:∀s∈p.types,T3 s)(hql:p.queries.length<=1048576)(hqs:∀q∈p.queries,medQ q/\q.name.length<=1048576/\∀v∈q.vars,v.name.length<=1048576)(hm1:∀q∈p.queries,ShOK p.types q->J9 (qT p.types q))(hmed:(Dr p.types != 0)=false->p.types.all S8=true->p.queries.length<=16->T7 p.types [] p.queries=0->J9 (Pk p)):Ap Tryz.prog 8 [.agg (cPg p)] (.tuple [.agg (cSyn (Hm p).1),.int .i64 (Hm p).2]):=by
 refine Fl 116 Tryz.func8 rfl fun H=>?_
 refine Af (Qp (Ik [_,_]) (D7 In fun b2=>Qp Ax (A2 (Cg (Qp (Qf [_,_]) (Qp Ew (Qp (Qc rfl (e8c57 p.types hT hsn)) (Qp Ax (B7 (Qp A0 (Qp C3 (Bp (fun hc1=>Af (Qp (E2 Ak) (Qp A0 ?_))) fun hc1=>B6 (Af ?_)))))))))))))
 .
  refine Bz 0 Ak (_::_) (Qp Ax (Rc ?_));refine Yx [.agg Ak,Iq _] (Zc 0) S1 ?_;exact Ye Ln (so_1 hc1)
 refine Qp (Hy (l0:=[.int .i64 0,.str [],.str [],.int .i64 0,.val (.slice none 0 0),.int .i64 0]) (l:=Ak) tok rfl rfl (by kernel_rfl) rfl) ?_;refine D7 In fun b5=>?_
 refine Bz 0 Ak (_::_::_) ?_;refine AOL.ghost (GS.cellRow 0 4 25 6 rfl rfl rfl rfl) ?_;refine A2 (Cg (Qp (Qf [_,_]) (Qp Ew ?_)));refine Qp (G1 p.types.length rfl rfl (by simp)) ?_;refine Qp A0 (A2 (AW.block ?_));refine AW.loopS (fun (q:Nat×List (List AV)×Value)=>(⟨[(1,.ptr (cPg p)),(2,.val (.pointer (some ⟨b2,0,none⟩))),(3,.int .i64 0),(5,.val (.pointer (some ⟨b5,0,none⟩))),(26,.sl 2 (p.types.map Fx)),(27,.int .i64 p.types.length),(28,.int .i64 (q.1:Int))],.row q.2.2 q.2.1.length 25 6 :: .box b5 25 [.int .i64 0,.str [],.str [],.int .i64 0,.row q.2.2 6 q.2.1,.int .i64 0] :: .box b2 25 In::H,116⟩:St)) (fun q=>q.1<=p.types.length/\q.2.1=Sn p.types q.1/\(p.types.take q.1).all S8=true) (fun q=>p.types.length-q.1) ((0,[],.slice none 0 0)) ?_ Dh ?_
 . exact ⟨A7 _,rfl,rfl⟩
 rintro q hR;refine Af (Qp Cv (Re (Gn (fun hc2=>?_) fun hc2=>?_)))
 .
  obtain ⟨a,ha⟩:=C2 hc2;have hlt:=Cc ha;have hm:=Aj ha;have hok:=hsn a hm;have hso:∀c∈q.2.1,Au c=true:=by rw [hR.2.1];exact sc_tyR _ _
  have hol:q.2.1.length<=p.types.length:=by rw [hR.2.1];exact (pG p _).1
  have hfl0:=hok.2.1;refine B6 (AW.seq (AW.block (Af ?_)));refine Qp (E9 M7 rfl rfl (by omega) (Cf ha)) ?_;refine Qp (C1 M7) (D7 [.str [],.sl 2 []] fun b7=>?_);refine Bz 0 M7 (_::_::_::_::_) ?_;refine Kh 7 0 rfl ?_;refine A2 (Cg (Qp (Qf M7) (Qp F4 (Qp (Qc rfl (c20 a.name hok.1)) (Qp C3 (Qp Co (Qg [] Qw (Qf [_]) (Qg [(37,_)] Qw Ew ?_))))))));refine Qg [(38,_)] Qw (Qc rfl (kY a.fields hok.2.1 24 (by kernel_rfl) [] (fun f=>F7 f.name != 0) (fun f hf=>rz_src1 f (hok.2.2 f hf)))) ?_;refine Qp Gv (Bp (fun hc3=>Af (Qp (E2 Ak) ?_)) fun hc3=>B6 (Af (Qp (Qf M7) (Qp F4 ?_))))
  .
   refine Bz 2 Ak (_::_::_::_) (Qp Ax (Rc (Rj (A4 ?_))));refine Yx [.agg Ak,Iq _] (Zc 2) S3 ?_;exact Ye Ln (so_2 hc1 hm hc3)
  refine Qp (Hy (l0:=[.int .i64 0,.str [],.str [],.int .i64 0,.val (.slice none 0 0),.int .i64 0]) (l:=Ak) tok rfl rfl (by kernel_rfl) rfl) ?_;refine D7 In fun b8=>?_
  refine Bz 0 Ak (_::_::_::_::_) ?_;refine AOL.ghost (GS.cellRow 0 4 25 6 rfl rfl rfl rfl) ?_;refine A2 (Cg (Qp (Qf [_]) (Qp Ew ?_)));refine Qp (G1 a.fields.length rfl rfl (by simp)) ?_;refine Qp A0 (A2 (AW.block ?_));refine AW.loopS (fun (r:Nat×List (List AV)×Value)=>(⟨[(1,.ptr (cPg p)),(2,.val (.pointer (some ⟨b2,0,none⟩))),(3,.int .i64 0),(5,.val (.pointer (some ⟨b5,0,none⟩))),(26,.sl 2 (p.types.map Fx)),(27,.int .i64 p.types.length),(28,.int .i64 (q.1:Int)),(7,.ptr (Fx a)),(8,.val (.pointer (some ⟨b8,0,none⟩))),(46,.sl 2 (a.fields.map Tf)),(47,.int .i64 a.fields.length),(48,.int .i64 (r.1:Int))],.row r.2.2 r.2.1.length 25 6 :: .box b8 25 [.int .i64 1,.str a.name,.str [],.int .i64 0,.row r.2.2 6 r.2.1,.int .i64 0] :: .row q.2.2 q.2.1.length 25 6 :: .box b5 25 [.int .i64 0,.str [],.str [],.int .i64 0,.row q.2.2 6 q.2.1,.int .i64 0] :: .box b2 25 In::H,116⟩:St)) (fun r=>r.1<=a.fields.length/\r.2.1=O7 a r.1) (fun r=>a.fields.length-r.1) ((0,[],.slice none 0 0)) ?_ Dh ?_
  . exact ⟨A7 _,rfl⟩
  rintro r hP;refine Af (Qp Cv (Re (Gn (fun hc4=>?_) fun hc4=>?_)))
  .
   obtain ⟨x,hax⟩:=C2 hc4;have hltx:=Cc hax;have hmx:=Aj hax;have hsf:∀c∈r.2.1,Au c=true:=by rw [hP.2];exact sc_fiR _ _
   have hfl:r.2.1.length<=a.fields.length:=by rw [hP.2];exact fr_len _ _
   refine B6 (AW.seq (AW.block (Af ?_)));refine Qp (E9 Iy rfl rfl (by omega) (Cf hax)) ?_;refine Qp (C1 Iy) (D7 gix fun b10=>?_);refine Bz 0 Iy (_::_::_::_::_::_::_) ?_;refine Kh 10 0 rfl ?_;refine A2 (AW.region (Qp Cw (Pz 1 (.row _ _ _) rfl (Qp (Qf Iy) (Qp F4 (Qp (Qf [Iq _]) (Qp Cd (Qp (E2 Ak) (Qp (Ir [Ak] rfl) ?_)))))))));refine Qe (Vc 0 rfl (D5 rfl) (hsf) (by simp;omega) (by simp [maxLen];omega)) ?_;rintro _ _ ⟨v60,rfl,rfl⟩;refine Qp Cw ?_;refine Bz 1 Ak (_::_::_::_::_::_) (Rk (AW.region (Qp Hb (Qp A0 (A2 ?_)))));refine ⟨(r.1+1,r.2.1 ++ [[.int .i64 2,.str x.name,.str [],.int .i64 x.kind,.sl 6 [],.int .i64 0]],v60),?_,?_,Dh⟩
   . exact ⟨hltx,(congrArg (· ++ _) hP.2).trans (fr_on hax)⟩
   simp only;omega
  have hdx:=Gz hc4;have hfw:r.2.1=O7 a a.fields.length:=by have h:=hP.2;have h9:r.1=a.fields.length:=(by have:=Er hc4;have:=hP.1;omega);rw [h9] at h;exact h
  refine AW.exit ?_;refine Br (Ri (AW.region (Qp Cw ?_)));refine Pz 3 (.row _ _ _) rfl ?_;refine AOL.ghost (GS.cell (H2:=_::_::_::_::_::_) 1 4 rfl rfl rfl rfl D1) ?_;refine O3 1 Ak rfl (Qp (Ir [Ak] rfl) ?_);refine Qe (Vc 2 rfl (D5 rfl) (hso) (by simp;omega) (by simp [maxLen];omega)) ?_;rintro _ _ ⟨v67,rfl,rfl⟩;refine Qp Cw ?_;refine Bz 3 Ak (_::_::_::_::_::_) (Rk (AW.region (Qp Hb (Qp A0 (A2 ?_)))));refine ⟨(q.1+1,q.2.1 ++ [[.int .i64 1,.str a.name,.str [],.int .i64 0,.sl 6 r.2.1,.int .i64 0]],v67),?_,?_,GS.weaken ⟨rfl,rfl,rfl,rfl,rfl,rfl,rfl,trivial⟩ (.cons _ (.cons _ (.refl _)))⟩
  . exact ⟨hlt,(congrArg (· ++ _) hR.2.1).trans (tr_on ha hfw),ty_all ha hR.2.2 hc3⟩
  simp only;omega
 have hte:=Dt hc2;have htn:=hR.2.2;rw [hte] at htn;have hqw:=hR.2.1.trans (tr_end hte);refine AW.exit ?_;refine Br (Ri (Cg (Qp (Qf [_]) (Qp Ew ?_))));refine Qp (G1 p.queries.length rfl rfl (by simp)) ?_;refine Qp Hc (Bp (fun hc5=>Af (Qp (E2 Ak) ?_)) fun hc5=>?_)
 .
  refine Bz 2 Ak (_::_::_::_) (Qp Ax (Rc ?_));refine Yx [.agg Ak,Iq _] (Zc 2) S3 ?_;exact Ye Ln ((so_c hc1 htn hc5:Hm p=if true then (He,5) else pS p))
 have hq16:p.queries.length<=16:=by have:=Er hc5;omega
 refine B6 (Af (Qe (Hl) ?_));rintro _ _ ⟨b75,rfl,rfl⟩;refine Qp O2 (A2 (Cg (Qp (Qf [_]) (Qp Ew ?_))));refine Qp (G1 p.queries.length rfl rfl (by simp)) ?_;refine Qp A0 (A2 (AW.block ?_));refine AW.loopS (fun (w:Nat×List (List AV)×List Ag×Value)=>(⟨[(1,.ptr (cPg p)),(2,.val (.pointer (some ⟨b2,0,none⟩))),(3,.int .i64 0),(5,.val (.pointer (some ⟨b5,0,none⟩))),(11,.val (.map (some b75))),(77,.sl 18 (p.queries.map cQy)),(78,.int .i64 p.queries.length),(79,.int .i64 (w.1:Int))],.smap b75 (Tb w.2.2.1) :: .row w.2.2.2 w.2.1.length 25 6 :: .box b5 25 [.int .i64 0,.str [],.str [],.int .i64 0,.row w.2.2.2 6 w.2.1,.int .i64 0] :: .box b2 25 In::H,116⟩:St)) (fun w=>w.1<=p.queries.length/\w.2.1=Tz p w.1/\w.2.2.1=(p.queries.take w.1).map (·.name)/\T7 p.types [] p.queries=T7 p.types w.2.2.1 (p.queries.drop w.1)) (fun w=>p.queries.length-w.1) ((0,q.2.1,[],q.2.2)) ?_ Dh ?_
 . exact ⟨A7 _,hqw,rfl,rfl⟩
 rintro w hW;refine Af (Qp Cv (Re (Gn (fun hc6=>?_) fun hc6=>?_)))
 .
  obtain ⟨a,ha⟩:=C2 hc6;have hlt:=Cc ha;have hm:=Aj ha;have hqa:=hqs a hm;have hso:∀c∈w.2.1,Au c=true:=by rw [hW.2.1];exact sc_qR _ _
  have hol:w.2.1.length<=p.types.length+p.queries.length:=by rw [hW.2.1];exact (pG p _).2
  refine B6 (AW.seq (AW.block (Af ?_)));refine Qp (E9 Ps rfl rfl (by omega) (Cf ha)) ?_;refine Qp (C1 Ps) (D7 gjx fun b13=>?_);refine Bz 0 Ps (_::_::_::_::_::_) ?_;refine Kh 13 0 rfl ?_;refine B7 (Qp (Qf [_,_]) (Qp Ew (Qp (C1 Ps) (Qp (Qc rfl (rz_Show p.types hT hsn a hqa.1 hqa.2.1 hqa.2.2 (hm1 a hm))) (Qp Th (Qp (A6 (v:=.agg Ak) rfl rfl) (Qp Td (D7 In fun b14=>?_))))))));refine Bz 0 Ak (_::_::_::_::_::_) (Qp Ax ?_);refine Kh 14 0 rfl ?_;refine A2 (Cg (Qp A0 (Qp C3 (Bp (fun hc7=>Af (Qp (E2 Ak) (Qp A0 ?_))) fun hc7=>B6 (Cg (Qp Bu (Qp (Qf Ps) (Qp F4 ?_))))))))
  .
   refine Bz 3 Ak (_::_::_::_::_) (Qp Ax (Rc (Rj (A4 ?_))));refine Yx [.agg Ak,Iq _] (Zc 3) S4 ?_;exact Ye Ln (so_e hc1 htn hc5 (hW.2.2.2.trans (sg_e ha hc7)) hc7)
  refine AOL.Aaz (Ll (i:=0) (ks:=w.2.2.1) tok rfl rfl rfl rfl rfl (by kernel_rfl) rfl rfl rfl) rfl rfl ?_;refine Bp (fun hc8=>?_) fun hc8=>?_
  .
   have hc8n:w.2.2.1.contains a.name=true:=hc8;refine Af (Qp (E2 Ak) ?_);refine Bz 3 Ak (_::_::_::_::_) (Qp Ax (Rc (Rj (A4 ?_))));refine Yx [.agg Ak,Iq _] (Zc 3) S4 ?_;exact Ye Ln (so_e hc1 htn hc5 (hW.2.2.2.trans (sg_7 ha hc7 hc8n)) rfl)
  have hc8n:w.2.2.1.contains a.name=false:=hc8;refine B6 (Af (Qp Bu (Qp (Qf Ps) (Qp F4 (Rt (Nn (i:=0) (H2:=_::_::_::_::_) tok rfl rfl rfl rfl rfl rfl rfl rfl (hc8) rfl) (A2 (AW.region (Qp Cw (Pz 2 (.row _ _ _) rfl (Qp (C1 Ak) (Qp (Ir [Ak] rfl) ?_)))))))))));refine Qe (Vc 1 rfl (D5 rfl) (hso) (by simp;omega) (by simp [maxLen];omega)) ?_;rintro _ _ ⟨v106,rfl,rfl⟩;refine Qp Cw ?_;refine Bz 2 Ak (_::_::_::_::_) (Rk (AW.region (Qp Hb (Qp A0 (A2 ?_)))));refine ⟨(w.1+1,w.2.1 ++ [cSyn (Ld p.types a).1],w.2.2.1 ++ [a.name],v106),?_,?_,Dh⟩
  . exact ⟨hlt,(congrArg (· ++ _) hW.2.1).trans (qr_on ha hc7),(congrArg (· ++ _) hW.2.2.1).trans (nm_on ha),hW.2.2.2.trans (sg_on ha hc7 hc8n)⟩
  simp only;omega
 have hde:=Gz hc6;have hte:=Dt hc6;have hsg:=hW.2.2.2;rw [hde,T7] at hsg;obtain ⟨w1,w2,w3,w4⟩:=w;have hw2:w2=(Pk p).kids.map Cu:=hW.2.1.trans (q_end hte);subst hw2;refine AW.exit ?_;refine Br (Ri (Cg ?_));refine AOL.ghost (GS.cell (H2:=_::_::_::_::_) 2 4 rfl rfl rfl rfl D1) ?_;refine O3 2 Ak rfl (Qp (Qc rfl (oY (Pk p) (hmed hc1 htn hq16 hsg))) (Qp Ax (B7 (Qp A0 (Qp C3 (Bp (fun hc9=>Af (Qp (E2 Ak) (Qp A0 ?_))) fun hc9=>B6 (Af (O3 2 Ak rfl ?_))))))))
 .
  refine Bz 3 Ak (_::_::_::_::_) (Qp Ax (Rc ?_));refine Yx [.agg Ak,Iq _] (Zc 3) S4 ?_;exact Ye Ln (((so_d hc1 htn hc5 hsg).trans (so_w hc9)))
 refine Bz 3 Ak (_::_::_::_::_) (Qp Ax (Rb ?_));refine Yx [.agg Ak,Iq _] (Zc 3) S4 ?_;exact Ye Ln (((so_d hc1 htn hc5 hsg).trans (so_y hc9)))
def scB (s:e8Sc):Bool:=Nat.ble s.name.length 1048576&&Nat.ble s.fields.length 1048576&&s.fields.all fun f=>Nat.ble f.name.length 1048576
theorem scB_ok {s:e8Sc}(h:scB s=true):T3 s:=by
 unfold scB at h;rw [Cy,Cy] at h;exact ⟨B9 h.1.1,B9 h.1.2,fun f hf=>B9 (Ht.1 h.2 f hf)⟩
theorem y_sc:pq0.types.all scB=true:=by kernel_rfl
theorem y_q:(pq0.queries.all fun q=>Nat.ble q.name.length 1048576&&q.vars.all fun v=>Nat.ble v.name.length 1048576)=true:=by kernel_rfl
theorem y_sm:U7 (Pk pq0):=B9 (by kernel_rfl)
theorem y_qs:∃q,pq0.queries = [q]/\U7 (qT pq0.types q):=⟨_,rfl,B9 (by kernel_rfl)⟩
theorem y_src:Hm pq0=(Pk pq0,0):=by
 have h:(Hm pq0).2=0:=by kernel_rfl
 exact (src_ok (by rw [h];rfl)).2
theorem y_fmt:Ca (Pk pq0) (.only 0)=(out0,0):=by kernel_rfl
theorem h_parse {s:Ag}{t:Syn}(hs:s.length<=100000)(h:(Bv (Ch EE TT) s).1=t)(h2:(Bv (Ch EE TT) s).2=(0,0)):Ap Tryz.prog 6 [.str s] (.tuple [.agg (cSyn t),.int .i64 0,.int .i64 0]):=by
 have p:=oO s hs;rw [h2,h] at p;exact p
theorem h_prg {t:Syn}{p:Pg}(hm:J9 t)(h:D8 t=(p,0,0)):Ap Tryz.prog 7 [.agg (cSyn t)] (.tuple [.agg (cPg p),.int .i64 0,.int .i64 0]):=by
 have q:=eP t hm;rw [h] at q;exact q
theorem h_src {t:Syn}{p:Pg}(hm:J9 t)(h:D8 t=(p,0,0))(h1:p.types.all scB=true)(h2:(p.queries.all fun q=>Nat.ble q.name.length 1048576&&q.vars.all fun v=>Nat.ble v.name.length 1048576)=true)(h3:∃q,p.queries = [q]/\U7 (qT p.types q))(h4:U7 (Pk p))(h5:Hm p=(Pk p,0)) :
  Ap Tryz.prog 8 [.agg (cPg p)] (.tuple [.agg (cSyn (Pk p)),.int .i64 0]):=by
 have hg:medG p:=by have:=prg_med hm;rw [h] at this;exact this
 have q:=yS p hg.t (fun s hs=>scB_ok (Ht.1 h1 s hs)) hg.q (fun q hq=>by
  have h6:=Ht.1 h2 q hq;rw [Cy] at h6;exact ⟨hg.m q hq,B9 h6.1,fun v hv=>B9 (Ht.1 h6.2 v hv)⟩) (fun q hq _=>by
  obtain ⟨q0,h7,h8⟩:=h3;rw [h7,Ep] at hq;rw [hq];exact Zk h8) (fun _ _ _ _=>Zk h4)
 rw [h5] at q;exact q
theorem h_fmt {t:Syn}{o:Ag}(hm:U7 t)(ho:Ca t (.only 0)=(o,0)):Ap Tryz.prog 9 [.agg (cSyn t)] (.tuple [.str o,.int .i64 0]):=by
 have q:=nV t (Zk hm);rw [ho] at q;exact q
theorem y_c:Ap Tryz.prog 6 [.str src0] (.tuple [.agg (cSyn tq0),.int .i64 0,.int .i64 0])/\Ap Tryz.prog 7 [.agg (cSyn tq0)] (.tuple [.agg (cPg pq0),.int .i64 0,.int .i64 0])/\
  Ap Tryz.prog 8 [.agg (cPg pq0)] (.tuple [.agg (cSyn (Pk pq0)),.int .i64 0])/\Ap Tryz.prog 9 [.agg (cSyn (Pk pq0))] (.tuple [.str out0,.int .i64 0]):=
 have hm:J9 tq0:=Zk e_med
 ⟨h_parse (by decide) rfl e_parse,h_prg hm e_is,h_src hm e_is y_sc y_q y_qs y_sm y_src,h_fmt y_sm y_fmt⟩
theorem y_q1:((pq0.queries.map cQy).length:Int)=1:=by
 obtain ⟨q,h,_⟩:=e_qs;rw [h];rfl
theorem y_try  : Ap Tryz.prog 5 [] (.bool true):=by
 refine e_qs.elim fun q hq=>?_
 refine Ap.body (n:=59) tok Tryz.func5 rfl rfl rfl fun H=>?_
 refine AW.seq (AW.region (AOL.p (Ad (v:=.bool _) rfl) rfl (AOL.nil (Aa (AW.seq (AW.region ?_))))));refine AOL.p (Eg (by kernel_rfl) rfl rfl (y_c.1)) rfl ?_;refine AOL.p (Ab (v:=.tuple _) rfl) rfl (AOL.p (A6 (v:=.agg [.int .i64 _,.str _,.str _,.int .i64 _,_,.int .i64 _]) rfl rfl) rfl (AOL.p (A6 (v:=.int .i64 _) rfl rfl) rfl (AOL.p (A6 (v:=.int .i64 _) rfl rfl) rfl ?_)));refine AOL.e (Dg (l:=[.int .i64 0,.str [],.str [],.int .i64 0,.sl 6 [],.int .i64 0]) (by kernel_rfl)) rfl ?_;rintro _ _ ⟨b1,rfl,rfl⟩;refine AOL.e (Dj (k:=0) (v:=.agg _) (cs':=[.int .i64 _,.str _,.str _,.int .i64 _,_,.int .i64 _]) (H2:=_::_) tok rfl rfl rfl rfl (rfl) rfl rfl rfl rfl) rfl ?_;rintro _ _ ⟨rfl,rfl⟩;refine AOL.p (Ad (v:=.int .i64 _) rfl) rfl (AOL.p (Ad (v:=.int .i64 _) rfl) rfl ?_);refine AOL.ghost (GS.freeze (t:=1) 0 rfl rfl) ?_;refine AOL.nil (Aa (AW.seq (AW.region (AOL.p (Cq (l:=[.int .i64 _,.str _,.str _,.int .i64 _,_,.int .i64 _]) tok rfl rfl rfl rfl rfl) rfl ?_))));refine AOL.p (Eg (by kernel_rfl) rfl rfl (y_c.2.1)) rfl ?_;refine AOL.p (Ab (v:=.tuple _) rfl) rfl (AOL.p (A6 (v:=.agg [_,_]) rfl rfl) rfl (AOL.p (A6 (v:=.int .i64 _) rfl rfl) rfl (AOL.p (A6 (v:=.int .i64 _) rfl rfl) rfl ?_)));refine AOL.e (Dg (l:=[.sl 2 [],.sl 18 []]) (by kernel_rfl)) rfl ?_;rintro _ _ ⟨b4,rfl,rfl⟩;refine AOL.e (Dj (k:=0) (v:=.agg _) (cs':=[_,_]) (H2:=_::_) tok rfl rfl rfl rfl (rfl) rfl rfl rfl rfl) rfl ?_;rintro _ _ ⟨rfl,rfl⟩;refine AOL.p (Ad (v:=.int .i64 _) rfl) rfl (AOL.p (Ad (v:=.int .i64 _) rfl) rfl ?_);refine AOL.ghost (GS.freeze (t:=4) 0 rfl rfl) ?_;refine AOL.nil (Aa (AW.seq (AW.region (AOL.p (Cq (l:=[_,_]) tok rfl rfl rfl rfl rfl) rfl ?_))));refine AOL.p (Eg (by kernel_rfl) rfl rfl (y_c.2.2.1)) rfl ?_;refine AOL.p (Ab (v:=.tuple _) rfl) rfl (AOL.p (A6 (v:=.agg [.int .i64 _,.str _,.str _,.int .i64 _,_,.int .i64 _]) rfl rfl) rfl (AOL.p (A6 (v:=.int .i64 _) rfl rfl) rfl ?_));refine AOL.e (Dg (l:=[.int .i64 0,.str [],.str [],.int .i64 0,.sl 6 [],.int .i64 0]) (by kernel_rfl)) rfl ?_;rintro _ _ ⟨b7,rfl,rfl⟩;refine AOL.e (Dj (k:=0) (v:=.agg _) (cs':=[.int .i64 _,.str _,.str _,.int .i64 _,_,.int .i64 _]) (H2:=_::_) tok rfl rfl rfl rfl (rfl) rfl rfl rfl rfl) rfl ?_;rintro _ _ ⟨rfl,rfl⟩;refine AOL.p (Ad (v:=.int .i64 _) rfl) rfl ?_;refine AOL.ghost (GS.freeze (t:=7) 0 rfl rfl) ?_;refine AOL.nil (Aa (AW.seq (AW.region (AOL.p (Cq (l:=[.int .i64 _,.str _,.str _,.int .i64 _,_,.int .i64 _]) tok rfl rfl rfl rfl rfl) rfl ?_))));refine AOL.p (Eg (by kernel_rfl) rfl rfl (y_c.2.2.2)) rfl ?_;refine AOL.p (Ab (v:=.tuple _) rfl) rfl (AOL.p (A6 (v:=.str _) rfl rfl) rfl (AOL.p (A6 (v:=.int .i64 _) rfl rfl) rfl (AOL.p (Ad (v:=.str _) rfl) rfl (AOL.p (Ad (v:=.int .i64 _) rfl) rfl (AOL.nil (Aa (AW.seq (AW.region (AOL.p (Ab (v:=.int .i64 _) rfl) rfl (AOL.p (Ab (v:=.int .i64 _) rfl) rfl ?_))))))))))
 refine AOL.p (Js rfl rfl rfl (by constructor <;> omega)) rfl ?_;refine AOL.p (Ab (v:=.int .i64 _) rfl) rfl ?_;refine AOL.p (Js rfl rfl rfl (by constructor <;> omega)) rfl ?_;refine AOL.p (Ab (v:=.int .i64 _) rfl) rfl ?_;refine AOL.p (Js rfl rfl rfl (by constructor <;> omega)) rfl ?_;refine AOL.p (aF rfl rfl) rfl (AOL.p (Ab (v:=.bool _) rfl) rfl (AOL.Aa1 (y:=.ptr _) _ [] rfl (bW.all trivial) (fun hG=>Ai (cs':=[_]) tok rfl rfl rfl rfl rfl rfl) rfl ?_));refine AOL.Aa1 (y:=.sl _ _) _ [(41,_)] rfl (bW.all ⟨Ent.Aax _ _,trivial⟩) (fun hG=>Aq (c:=.sl _ _) tok rfl rfl rfl) rfl ?_;refine AOL.Aa1 (y:=.int .i64 _) _ [(42,_)] rfl (bW.all ⟨Ent.Aax _ _,trivial⟩) (fun hG=>Dz tok rfl rfl rfl rfl) rfl ?_;refine AOL.Aa1 (y:=.bool _) _ [(43,_)] rfl (bW.all ⟨Ent.Aax _ _,trivial⟩) (fun hG=>aF rfl rfl) rfl ?_;refine AOL.p (J7 rfl rfl rfl) rfl (AOL.p (Ab (v:=.bool _) rfl) rfl (AOL.Aa1 (y:=.ptr _) _ [] rfl (bW.all trivial) (fun hG=>Ai (cs':=[_]) tok rfl rfl rfl rfl rfl rfl) rfl ?_));refine AOL.Aa1 (y:=.sl _ _) _ [(47,_)] rfl (bW.all ⟨Ent.Aax _ _,trivial⟩) (fun hG=>Aq (c:=.sl _ _) tok rfl rfl rfl) rfl ?_;refine AOL.Aa1 (y:=.ptr _) _ [(48,_)] rfl (bW.all ⟨Ent.Aax _ _,trivial⟩) (fun hG=>Ec (c:=[.str _,_,_,.int .i64 _,_,.int .i64 _,.int .i64 _,.int .i64 _,.int .i64 _,.int .i64 _,_,.int .i64 _,.int .i64 _,.int .i64 _,.int .i64 _,.int .i64 _,.str _,_]) tok rfl rfl rfl rfl rfl rfl (by decide) (by rw [hq.1];rfl)) rfl ?_;refine AOL.Aa1 (y:=.ptr _) _ [(49,_)] rfl (bW.all ⟨Ent.Aax _ _,trivial⟩) (fun hG=>Ai (cs':=[_,.int .i64 _,_,.int .i64 _,.int .i64 _,.int .i64 _,.int .i64 _,.int .i64 _,_,.int .i64 _,.int .i64 _,.int .i64 _,.int .i64 _,.int .i64 _,.str _,_]) tok rfl rfl rfl rfl rfl rfl) rfl ?_;refine AOL.Aa1 (y:=.sl _ _) _ [(50,_)] rfl (bW.all ⟨Ent.Aax _ _,trivial⟩) (fun hG=>Aq (c:=.sl _ _) tok rfl rfl rfl) rfl ?_;refine AOL.Aa1 (y:=.int .i64 _) _ [(51,_)] rfl (bW.all ⟨Ent.Aax _ _,trivial⟩) (fun hG=>Dz tok rfl rfl rfl rfl) rfl ?_;refine AOL.Aa1 (y:=.bool _) _ [(52,_)] rfl (bW.all ⟨Ent.Aax _ _,trivial⟩) (fun hG=>aF rfl rfl) rfl ?_;refine AOL.p (J7 rfl rfl rfl) rfl (AOL.p (Ab (v:=.bool _) rfl) rfl (AOL.Aa1 (y:=.str _) _ [] rfl (bW.all trivial) (fun hG=>Ab (v:=.str _) rfl) rfl ?_));refine AOL.Aa1 (y:=.bool _) _ [(56,_)] rfl (bW.all ⟨Ent.Aax _ _,trivial⟩) (fun hG=>Dx rfl rfl) rfl ?_;refine AOL.p (J7 rfl rfl rfl) rfl (AOL.p (Ad (v:=.bool _) rfl) rfl (AOL.nil (Aa (AW.ret ?_))));refine ⟨.inr rfl,[.bool _],.cons (.tmp _ _ rfl) <| .nil,.refl _,?_⟩;simp only [Ah];rw [y_q1,show ((q.key.map cI).length:Int)=1 by rw [By,hq.2];rfl];exact congrArg AV.bool (by kernel_rfl)
theorem s_Parse {T:List e8Sc}(h:(Dr T != 0)=false):Ap Tryz.prog 13 [.str (M6 T)] (.tuple [.sl 2 (T.map Fx),.int .i64 0,.int .i64 0]):=fun H=>s_ParseA T h H
theorem Ya (s:Ag):Ap Tryz.prog 4 [.str s] (.bool true):=by
 refine Ap.body (n:=206) tok Tryz.func4 rfl rfl rfl fun H=>?_
 refine AW.seq (AW.region (AOL.p (Ad (v:=.bool _) rfl) rfl (AOL.nil (Aa (AW.seq (AW.seq (AW.region ?_)))))));refine AOL.p (Eg (by kernel_rfl) rfl rfl (y_try)) rfl ?_;refine AOL.p (cB rfl) rfl (AOL.nil (Aa (AW.cond (b:=_) rfl (fun hc1=>?_) (fun hc1=>AW.skip (Aa (AW.seq (AW.seq (AW.region (AOL.p (Ab (v:=.str _) rfl) rfl (AOL.p (Cz tok rfl rfl rfl rfl) rfl (AOL.p (zS rfl rfl) rfl (AOL.nil (Aa (AW.cond (b:=_) rfl (fun hc2=>AW.seq (AW.region (AOL.p (Ad (v:=.bool _) rfl) rfl (AOL.nil (Aa (AW.ret (A4 ?_))))))) (fun hc2=>?_)))))))))))))))
 . exact absurd hc1 (by decide)
 .
  refine ⟨.inr rfl,[.bool _],.cons (.tmp _ _ rfl) <| .nil,.refl _,?_⟩;rfl
 have hs:s.length<=800:=by have:=Er hc2;omega
 refine AW.skip (Aa (AW.seq (AW.region (AOL.p (Ab (v:=.str _) rfl) rfl ?_))));refine AOL.p (Eg (by kernel_rfl) rfl rfl (oO s (by omega))) rfl ?_;refine AOL.p (Ab (v:=.tuple _) rfl) rfl (AOL.p (A6 (v:=.agg [.int .i64 _,.str _,.str _,.int .i64 _,_,.int .i64 _]) rfl rfl) rfl (AOL.p (A6 (v:=.int .i64 _) rfl rfl) rfl (AOL.p (A6 (v:=.int .i64 _) rfl rfl) rfl ?_)));refine AOL.e (Dg (l:=[.int .i64 0,.str [],.str [],.int .i64 0,.sl 6 [],.int .i64 0]) (by kernel_rfl)) rfl ?_;rintro _ _ ⟨b3,rfl,rfl⟩;refine AOL.e (Dj (k:=0) (v:=.agg _) (cs':=[.int .i64 _,.str _,.str _,.int .i64 _,_,.int .i64 _]) (H2:=_::_) tok rfl rfl rfl rfl (rfl) rfl rfl rfl rfl) rfl ?_;rintro _ _ ⟨rfl,rfl⟩;refine AOL.p (Ad (v:=.int .i64 _) rfl) rfl (AOL.p (Ad (v:=.int .i64 _) rfl) rfl ?_);refine AOL.ghost (GS.freeze (t:=3) 0 rfl rfl) ?_;refine AOL.nil (Aa (AW.seq (AW.seq (AW.region (AOL.p (Ab (v:=.int .i64 _) rfl) rfl (AOL.p (Nq rfl rfl) rfl (AOL.nil (Aa (AW.cond (b:=_) rfl (fun hc3=>AW.seq (AW.region (AOL.p (Ad (v:=.bool _) rfl) rfl (AOL.nil (Aa (AW.ret (A4 ?_))))))) (fun hc3=>?_))))))))))
 .
  refine ⟨.inr rfl,[.bool _],.cons (.tmp _ _ rfl) <| .nil,.refl _,?_⟩;rfl
 have he:(Bv (Ch EE TT) s).2.2=0:=by simpa using hc3
 have hpd:=sV hs he;refine AW.skip (Aa (AW.seq (AW.region (AOL.p (Cq (l:=[.int .i64 _,.str _,.str _,.int .i64 _,_,.int .i64 _]) tok rfl rfl rfl rfl rfl) rfl ?_))));refine AOL.p (Eg (by kernel_rfl) rfl rfl (eP _ hpd.2)) rfl ?_;refine AOL.p (Ab (v:=.tuple _) rfl) rfl (AOL.p (A6 (v:=.agg [_,_]) rfl rfl) rfl (AOL.p (A6 (v:=.int .i64 _) rfl rfl) rfl (AOL.p (A6 (v:=.int .i64 _) rfl rfl) rfl ?_)));refine AOL.e (Dg (l:=[.sl 2 [],.sl 18 []]) (by kernel_rfl)) rfl ?_;rintro _ _ ⟨b6,rfl,rfl⟩;refine AOL.e (Dj (k:=0) (v:=.agg _) (cs':=[_,_]) (H2:=_::_) tok rfl rfl rfl rfl (rfl) rfl rfl rfl rfl) rfl ?_;rintro _ _ ⟨rfl,rfl⟩;refine AOL.p (Ad (v:=.int .i64 _) rfl) rfl (AOL.p (Ad (v:=.int .i64 _) rfl) rfl ?_);refine AOL.ghost (GS.freeze (t:=6) 0 rfl rfl) ?_;refine AOL.nil (Aa (AW.seq (AW.seq (AW.region (AOL.p (Ab (v:=.int .i64 _) rfl) rfl (AOL.p (Nq rfl rfl) rfl (AOL.nil (Aa (AW.cond (b:=_) rfl (fun hc4=>AW.seq (AW.region (AOL.p (Ad (v:=.bool _) rfl) rfl (AOL.nil (Aa (AW.ret (A4 ?_))))))) (fun hc4=>?_))))))))))
 .
  refine ⟨.inr rfl,[.bool _],.cons (.tmp _ _ rfl) <| .nil,.refl _,?_⟩;rfl
 have hnf:=xQ hpd.2 hc4;have hT:=hnf.1;have hkl:=hnf.2.1;have hql:=hnf.2.2.1;have hqs:=hnf.2.2.2;have hao:=Rm hT;have htl:=hao.1;have hok:=hao.2.2;have hos:∀x∈(D8 (Bv (Ch EE TT) s).1).1.types,T3 x:=fun x hx=>pM (hok x hx)
 have hfs:∀x∈(D8 (Bv (Ch EE TT) s).1).1.types,x.fields.length<=1048576:=fun x hx=>(hos x hx).2.1
 refine AW.skip (Aa (AW.seq (AW.region (AOL.p (Ai (cs':=[_,_]) tok rfl rfl rfl rfl rfl rfl) rfl (AOL.p (Aq (c:=.sl _ _) tok rfl rfl rfl) rfl ?_)))));refine AOL.p (Eg (by kernel_rfl) rfl rfl (s_Format _ hT)) rfl ?_;refine AOL.p (Ab (v:=.tuple _) rfl) rfl (AOL.p (A6 (v:=.str _) rfl rfl) rfl (AOL.p (A6 (v:=.int .i64 _) rfl rfl) rfl (AOL.p (Ad (v:=.str _) rfl) rfl (AOL.p (Ad (v:=.int .i64 _) rfl) rfl (AOL.nil (Aa (AW.seq (AW.region (AOL.p (Ab (v:=.str _) rfl) rfl ?_)))))))));refine AOL.p (Eg (by kernel_rfl) rfl rfl (s_Parse hT)) rfl ?_;refine AOL.p (Ab (v:=.tuple _) rfl) rfl (AOL.p (A6 (v:=.sl _ _) rfl rfl) rfl (AOL.p (A6 (v:=.int .i64 _) rfl rfl) rfl (AOL.p (A6 (v:=.int .i64 _) rfl rfl) rfl (AOL.p (Ad (v:=.sl _ _) rfl) rfl (AOL.p (Ad (v:=.int .i64 _) rfl) rfl (AOL.p (Ad (v:=.int .i64 _) rfl) rfl (AOL.nil (Aa (AW.seq (AW.seq (AW.region (AOL.p (Ab (v:=.int .i64 _) rfl) rfl (AOL.p (Nq rfl rfl) rfl (AOL.p (Ab (v:=.bool _) rfl) rfl (AOL.Aa1 (y:=.int .i64 _) _ [] rfl (bW.all trivial) (fun hG=>Ab (v:=.int .i64 _) rfl) rfl ?_)))))))))))))));refine AOL.Aa1 (y:=.bool _) _ [(59,_)] rfl (bW.all ⟨Ent.Aax _ _,trivial⟩) (fun hG=>Nq rfl rfl) rfl ?_;refine AOL.p (Ja rfl rfl rfl) rfl (AOL.p (Ab (v:=.bool _) rfl) rfl (AOL.Aa1 (y:=.sl _ _) _ [] rfl (bW.all trivial) (fun hG=>Ab (v:=.sl _ _) rfl) rfl ?_));refine AOL.Aa1 (y:=.ptr _) _ [] rfl (bW.all trivial) (fun hG=>Ai (cs':=[_,_]) tok rfl rfl rfl rfl rfl rfl) rfl ?_;refine AOL.Aa1 (y:=.sl _ _) _ [(64,_)] rfl (bW.all ⟨Ent.Aax _ _,trivial⟩) (fun hG=>Aq (c:=.sl _ _) tok rfl rfl rfl) rfl ?_;refine AOL.Aa1 (y:=.bool _) _ [(63,_),(65,_)] rfl (bW.all ⟨Ent.Aax _ _,Ent.Aax _ _,trivial⟩) (fun hG=>Eg (by kernel_rfl) rfl rfl (n3_same _ (by omega) hfs)) rfl ?_;refine AOL.Aa1 (y:=.bool _) _ [(66,_)] rfl (bW.all ⟨Ent.Aax _ _,trivial⟩) (fun hG=>cB rfl) rfl ?_;refine AOL.p (Ja rfl rfl rfl) rfl (AOL.p (Ab (v:=.bool _) rfl) rfl (AOL.Aa1 (y:=.ptr _) _ [] rfl (bW.all trivial) (fun hG=>Ai (cs':=[_,.int .i64 _]) tok rfl rfl rfl rfl rfl rfl) rfl ?_));refine AOL.Aa1 (y:=.sl _ _) _ [(70,_)] rfl (bW.all ⟨Ent.Aax _ _,trivial⟩) (fun hG=>Aq (c:=.sl _ _) tok rfl rfl rfl) rfl ?_;refine AOL.Aa1 (y:=.int .i64 _) _ [(71,_)] rfl (bW.all ⟨Ent.Aax _ _,trivial⟩) (fun hG=>Dz (n:=(Bv (Ch EE TT) s).1.kids.length) tok rfl rfl rfl (by simp)) rfl ?_;refine AOL.Aa1 (y:=.ptr _) _ [] rfl (bW.all trivial) (fun hG=>Ai (cs':=[_,_]) tok rfl rfl rfl rfl rfl rfl) rfl ?_;refine AOL.Aa1 (y:=.sl _ _) _ [(73,_)] rfl (bW.all ⟨Ent.Aax _ _,trivial⟩) (fun hG=>Aq (c:=.sl _ _) tok rfl rfl rfl) rfl ?_;refine AOL.Aa1 (y:=.int .i64 _) _ [(74,_)] rfl (bW.all ⟨Ent.Aax _ _,trivial⟩) (fun hG=>Dz (n:=(D8 (Bv (Ch EE TT) s).1).1.types.length) tok rfl rfl rfl (by simp)) rfl ?_;refine AOL.Aa1 (y:=.ptr _) _ [] rfl (bW.all trivial) (fun hG=>Ai (cs':=[_]) tok rfl rfl rfl rfl rfl rfl) rfl ?_
 refine AOL.Aa1 (y:=.sl _ _) _ [(76,_)] rfl (bW.all ⟨Ent.Aax _ _,trivial⟩) (fun hG=>Aq (c:=.sl _ _) tok rfl rfl rfl) rfl ?_;refine AOL.Aa1 (y:=.int .i64 _) _ [(77,_)] rfl (bW.all ⟨Ent.Aax _ _,trivial⟩) (fun hG=>Dz (n:=(D8 (Bv (Ch EE TT) s).1).1.queries.length) tok rfl rfl rfl (by simp)) rfl ?_;refine AOL.Aa1 (y:=.int .i64 _) _ [(75,_),(78,_)] rfl (bW.all ⟨Ent.Aax _ _,Ent.Aax _ _,trivial⟩) (fun hG=>Js rfl rfl rfl (by constructor <;> omega)) rfl ?_;refine AOL.Aa1 (y:=.bool _) _ [(72,_),(79,_)] rfl (bW.all ⟨Ent.Aax _ _,Ent.Aax _ _,trivial⟩) (fun hG=>Nq rfl rfl) rfl ?_;refine AOL.p (Ja rfl rfl rfl) rfl (AOL.nil (Aa (AW.cond (b:=_) rfl (fun hc5=>?_) (fun hc5=>AW.skip (Aa (AW.seq (AW.seq (AW.region (AOL.p (Ai (cs':=[_]) tok rfl rfl rfl rfl rfl rfl) rfl (AOL.p (Aq (c:=.sl _ _) tok rfl rfl rfl) rfl ?_))))))))))
 . exact absurd (hc5.symm.trans (n5_eq hkl)) (by decide)
 refine AOL.p (Dz (n:=(D8 (Bv (Ch EE TT) s).1).1.queries.length) tok rfl rfl rfl (by simp)) rfl ?_;refine AOL.p (Ab (v:=.int .i64 _) rfl) rfl (AOL.nil (Aa (AW.block ?_)));refine AW.loopS (fun (i:Nat)=>(⟨[(3,.ptr (cSyn (Bv (Ch EE TT) s).1)),(6,.ptr (cPg (D8 (Bv (Ch EE TT) s).1).1)),(83,.sl 18 ((D8 (Bv (Ch EE TT) s).1).1.queries.map cQy)),(84,.int .i64 (D8 (Bv (Ch EE TT) s).1).1.queries.length),(85,.int .i64 (i:Int))],H,206⟩:St)) (fun i=>i<=(D8 (Bv (Ch EE TT) s).1).1.queries.length) (fun i=>(D8 (Bv (Ch EE TT) s).1).1.queries.length-i) (0) ?_ (GS.weaken ⟨rfl,rfl,rfl,rfl,rfl,trivial⟩ (.refl _)) ?_
 . exact A7 _
 rintro i hR;refine AW.seq (AW.region (AOL.p (Np rfl rfl) rfl (AOL.nil (Aa (AW.seq (AW.cond (b:=_) rfl (fun hc6=>?_) (fun hc6=>AW.exit ?_)))))))
 .
  have hlt:i<(D8 (Bv (Ch EE TT) s).1).1.queries.length:=by have:=C6 hc6;omega
  refine (Ud.1 (by simpa using hlt:((D8 (Bv (Ch EE TT) s).1).1.queries[i]?).isSome=true)).elim fun q hq=>?_
  refine (hqs i q hq).elim fun b hb=>?_
  have hbk:=hb.1;have hbo:=hb.2.1;have hgo:=hb.2.2;have htree:=tree_ok1 hT hbo hgo;have hkf:=dN hT hbo hgo;have hk0:b.kids[0]? = some (B5 b 0):=Hq (by have:=hbo.len;omega);refine AW.skip (Aa (AW.seq (AW.block (AW.seq (AW.region (AOL.p (Ab (v:=.int .i64 _) rfl) rfl ?_))))));refine AOL.p (Ec (c:=[.str _,_,_,.int .i64 _,_,.int .i64 _,.int .i64 _,.int .i64 _,.int .i64 _,.int .i64 _,_,.int .i64 _,.int .i64 _,.int .i64 _,.int .i64 _,.int .i64 _,.str _,_]) tok rfl rfl rfl rfl rfl rfl (by omega) (Cf hq)) rfl ?_;refine AOL.p (Cq (l:=[.str _,_,_,.int .i64 _,_,.int .i64 _,.int .i64 _,.int .i64 _,.int .i64 _,.int .i64 _,_,.int .i64 _,.int .i64 _,.int .i64 _,.int .i64 _,.int .i64 _,.str _,_]) tok rfl rfl rfl rfl rfl) rfl ?_;refine AOL.e (Dg (l:=[.str [],.sl 2 [],.sl 1 [],.int .i64 0,.sl 14 [],.int .i64 0,.int .i64 0,.int .i64 0,.int .i64 0,.int .i64 0,.sl 8 [],.int .i64 0,.int .i64 0,.int .i64 0,.int .i64 0,.int .i64 0,.str [],.sl 8 []]) (by kernel_rfl)) rfl ?_;rintro _ _ ⟨b14,rfl,rfl⟩;refine AOL.p (Ad (v:=.int .i64 _) rfl) rfl (AOL.e (Dj (k:=0) (v:=.agg _) (cs':=[.str _,_,_,.int .i64 _,_,.int .i64 _,.int .i64 _,.int .i64 _,.int .i64 _,.int .i64 _,_,.int .i64 _,.int .i64 _,.int .i64 _,.int .i64 _,.int .i64 _,.str _,_]) (H2:=_::_) tok rfl rfl rfl rfl (rfl) rfl rfl rfl rfl) rfl ?_);rintro _ _ ⟨rfl,rfl⟩;refine AOL.ghost (GS.freeze (t:=14) 0 rfl rfl) ?_;refine AOL.nil (Aa (AW.seq (AW.region (AOL.p (Ai (cs':=[_,.int .i64 _]) tok rfl rfl rfl rfl rfl rfl) rfl (AOL.p (Aq (c:=.sl _ _) tok rfl rfl rfl) rfl (AOL.p (Ai (cs':=[_,_]) tok rfl rfl rfl rfl rfl rfl) rfl (AOL.p (Aq (c:=.sl _ _) tok rfl rfl rfl) rfl ?_)))))));refine AOL.p (Dz (n:=(D8 (Bv (Ch EE TT) s).1).1.types.length) tok rfl rfl rfl (by simp)) rfl ?_;refine AOL.p (Ab (v:=.int .i64 _) rfl) rfl ?_;refine AOL.p (Js rfl rfl rfl (by constructor <;> omega)) rfl ?_;refine AOL.p (Ec (c:=[.int .i64 _,.str _,.str _,.int .i64 _,_,.int .i64 _]) tok rfl rfl rfl rfl rfl rfl (by omega) (F1 hbk)) rfl ?_;refine AOL.p (Cq (l:=[.int .i64 _,.str _,.str _,.int .i64 _,_,.int .i64 _]) tok rfl rfl rfl rfl rfl) rfl ?_;refine AOL.e (Dg (l:=[.int .i64 0,.str [],.str [],.int .i64 0,.sl 6 [],.int .i64 0]) (by kernel_rfl)) rfl ?_;rintro _ _ ⟨b15,rfl,rfl⟩;refine AOL.e (Dj (k:=0) (v:=.agg _) (cs':=[.int .i64 _,.str _,.str _,.int .i64 _,_,.int .i64 _]) (H2:=_::_) tok rfl rfl rfl rfl (rfl) rfl rfl rfl rfl) rfl ?_;rintro _ _ ⟨rfl,rfl⟩;refine AOL.ghost (GS.freeze (t:=15) 0 rfl rfl) ?_;refine AOL.nil (Aa (AW.seq (AW.seq ?_)));refine AW.draw mixed (fun _=>True) trivial (by kernel_rfl) ?_;refine F3.pure _ _ 0 _ _ rfl (by kernel_rfl) (by kernel_rfl) rfl (.run rfl (Ai (cs':=[_,.int .i64 _]) tok rfl rfl rfl rfl rfl rfl)) ?_;refine F3.pure _ _ 1 _ _ rfl (by kernel_rfl) (by kernel_rfl) rfl (.run rfl (Aq (c:=.sl _ _) tok rfl rfl rfl)) ?_;refine F3.pure _ _ 2 _ _ rfl (by kernel_rfl) (by kernel_rfl) rfl (.run rfl (Dz (n:=b.kids.length) tok rfl rfl rfl (by simp))) ?_
  refine F3.pure _ _ 3 _ _ rfl (by kernel_rfl) (by kernel_rfl) rfl (.run rfl (Np rfl rfl)) ?_;refine F3.pure _ _ 4 _ _ rfl (by kernel_rfl) (by kernel_rfl) rfl (.run rfl (Ab (v:=.bool _) rfl)) ?_;refine F3.pure _ _ 5 _ _ rfl (by kernel_rfl) (by kernel_rfl) rfl (.opt _ (.ptr _) [] rfl (bW.all trivial) (fun hG=>Ai (cs':=[_,.int .i64 _]) tok rfl rfl rfl rfl rfl rfl) rfl) ?_;refine F3.pure _ _ 6 _ _ rfl (by kernel_rfl) (by kernel_rfl) rfl (.opt _ (.sl _ _) [(104,_)] rfl (bW.all ⟨Ent.Aax _ _,trivial⟩) (fun hG=>Aq (c:=.sl _ _) tok rfl rfl rfl) rfl) ?_;refine F3.pure _ _ 7 _ _ rfl (by kernel_rfl) (by kernel_rfl) rfl (.opt _ (.ptr _) [(105,_)] rfl (bW.all ⟨Ent.Aax _ _,trivial⟩) (fun hG=>Ec (c:=[.int .i64 _,.str _,.str _,.int .i64 _,_,.int .i64 _]) tok rfl rfl rfl rfl rfl rfl (by decide) (F1 hk0)) rfl) ?_;refine F3.pure _ _ 8 _ _ rfl (by kernel_rfl) (by kernel_rfl) rfl (.opt _ (.ptr _) [(106,_)] rfl (bW.all ⟨Ent.Aax _ _,trivial⟩) (fun hG=>Ai (cs':=[.str _,.str _,.int .i64 _,_,.int .i64 _]) tok rfl rfl rfl rfl rfl rfl) rfl) ?_;refine F3.pure _ _ 9 _ _ rfl (by kernel_rfl) (by kernel_rfl) rfl (.opt _ (.str _) [(107,_)] rfl (bW.all ⟨Ent.Aax _ _,trivial⟩) (fun hG=>Aq (c:=.str _) tok rfl rfl rfl) rfl) ?_;refine F3.pure _ _ 10 _ _ rfl (by kernel_rfl) (by kernel_rfl) rfl (.opt _ (.bool _) [(108,_)] rfl (bW.all ⟨Ent.Aax _ _,trivial⟩) (fun hG=>Dx rfl rfl) rfl) ?_;refine F3.pure _ _ 11 _ _ rfl (by kernel_rfl) (by kernel_rfl) rfl (.opt _ (.ptr _) [] rfl (bW.all trivial) (fun hG=>Ai (cs':=[_,.int .i64 _,_,.int .i64 _,.int .i64 _,.int .i64 _,.int .i64 _,.int .i64 _,_,.int .i64 _,.int .i64 _,.int .i64 _,.int .i64 _,.int .i64 _,.str _,_]) tok rfl rfl rfl rfl rfl rfl) rfl) ?_;refine F3.pure _ _ 12 _ _ rfl (by kernel_rfl) (by kernel_rfl) rfl (.opt _ (.sl _ _) [(110,_)] rfl (bW.all ⟨Ent.Aax _ _,trivial⟩) (fun hG=>Aq (c:=.sl _ _) tok rfl rfl rfl) rfl) ?_;refine F3.pure _ _ 13 _ _ rfl (by kernel_rfl) (by kernel_rfl) rfl (.opt _ (.int .i64 _) [(111,_)] rfl (bW.all ⟨Ent.Aax _ _,trivial⟩) (fun hG=>Dz (n:=q.key.length) tok rfl rfl rfl (by simp)) rfl) ?_;refine F3.pure _ _ 14 _ _ rfl (by kernel_rfl) (by kernel_rfl) rfl (.opt _ (.bool _) [(112,_)] rfl (bW.all ⟨Ent.Aax _ _,trivial⟩) (fun hG=>aF rfl rfl) rfl) ?_;refine F3.pure _ _ 15 _ _ rfl (by kernel_rfl) (by kernel_rfl) rfl (.opt _ (.bool _) [(109,_),(113,_)] rfl (bW.all ⟨Ent.Aax _ _,Ent.Aax _ _,trivial⟩) (fun hG=>qI tok rfl rfl rfl rfl) rfl) ?_;refine F3.pure _ _ 16 _ _ rfl (by kernel_rfl) (by kernel_rfl) rfl (.run rfl (Ja rfl rfl rfl)) ?_;refine F3.pure _ _ 17 _ _ rfl (by kernel_rfl) (by kernel_rfl) rfl (.run rfl (Ab (v:=.bool _) rfl)) ?_;refine F3.pure _ _ 18 _ _ rfl (by kernel_rfl) (by kernel_rfl) rfl (.opt _ (.ptr _) [] rfl (bW.all trivial) (fun hG=>Ai (cs':=[_,.int .i64 _,_,.int .i64 _,.int .i64 _,.int .i64 _,.int .i64 _,.int .i64 _,_,.int .i64 _,.int .i64 _,.int .i64 _,.int .i64 _,.int .i64 _,.str _,_]) tok rfl rfl rfl rfl rfl rfl) rfl) ?_
  refine F3.pure _ _ 19 _ _ rfl (by kernel_rfl) (by kernel_rfl) rfl (.opt _ (.sl _ _) [(117,_)] rfl (bW.all ⟨Ent.Aax _ _,trivial⟩) (fun hG=>Aq (c:=.sl _ _) tok rfl rfl rfl) rfl) ?_;refine F3.pure _ _ 20 _ _ rfl (by kernel_rfl) (by kernel_rfl) rfl (.opt _ (.int .i64 _) [(118,_)] rfl (bW.all ⟨Ent.Aax _ _,trivial⟩) (fun hG=>Dz (n:=q.key.length) tok rfl rfl rfl (by simp)) rfl) ?_;refine F3.pure _ _ 21 _ _ rfl (by kernel_rfl) (by kernel_rfl) rfl (.opt _ (.bool _) [(119,_)] rfl (bW.all ⟨Ent.Aax _ _,trivial⟩) (fun hG=>Nq rfl rfl) rfl) ?_;refine F3.pure _ _ 22 _ _ rfl (by kernel_rfl) (by kernel_rfl) rfl (.opt _ (.bool _) [(120,_)] rfl (bW.all ⟨Ent.Aax _ _,trivial⟩) (fun hG=>Ab (v:=.bool _) rfl) rfl) ?_;refine F3.pure _ _ 23 _ _ rfl (by kernel_rfl) (by kernel_rfl) rfl (.opt _ (.ptr _) [] rfl (bW.all trivial) (fun hG=>Ai (cs':=[_,.int .i64 _,_,.int .i64 _,.int .i64 _,.int .i64 _,.int .i64 _,.int .i64 _,_,.int .i64 _,.int .i64 _,.int .i64 _,.int .i64 _,.int .i64 _,.str _,_]) tok rfl rfl rfl rfl rfl rfl) rfl) ?_;refine F3.pure _ _ 24 _ _ rfl (by kernel_rfl) (by kernel_rfl) rfl (.opt _ (.sl _ _) [(122,_)] rfl (bW.all ⟨Ent.Aax _ _,trivial⟩) (fun hG=>Aq (c:=.sl _ _) tok rfl rfl rfl) rfl) ?_;refine F3.pure _ _ 25 _ _ rfl (by kernel_rfl) (by kernel_rfl) rfl (.opt _ (.int .i64 _) [(123,_)] rfl (bW.all ⟨Ent.Aax _ _,trivial⟩) (fun hG=>Dz (n:=q.key.length) tok rfl rfl rfl (by simp)) rfl) ?_;refine F3.pure _ _ 26 _ _ rfl (by kernel_rfl) (by kernel_rfl) rfl (.opt _ (.ptr _) [] rfl (bW.all trivial) (fun hG=>Ai (cs':=[_,_]) tok rfl rfl rfl rfl rfl rfl) rfl) ?_;refine F3.pure _ _ 27 _ _ rfl (by kernel_rfl) (by kernel_rfl) rfl (.opt _ (.sl _ _) [(125,_)] rfl (bW.all ⟨Ent.Aax _ _,trivial⟩) (fun hG=>Aq (c:=.sl _ _) tok rfl rfl rfl) rfl) ?_;refine F3.pure _ _ 28 _ _ rfl (by kernel_rfl) (by kernel_rfl) rfl (.opt _ (.int .i64 _) [(126,_)] rfl (bW.all ⟨Ent.Aax _ _,trivial⟩) (fun hG=>Dz (n:=(D8 (Bv (Ch EE TT) s).1).1.types.length) tok rfl rfl rfl (by simp)) rfl) ?_;refine F3.pure _ _ 29 _ _ rfl (by kernel_rfl) (by kernel_rfl) rfl (.opt _ (.bool _) [(124,_),(127,_)] rfl (bW.all ⟨Ent.Aax _ _,Ent.Aax _ _,trivial⟩) (fun hG=>Nq rfl rfl) rfl) ?_;refine F3.pure _ _ 30 _ _ rfl (by kernel_rfl) (by kernel_rfl) rfl (.opt _ (.bool _) [(121,_),(128,_)] rfl (bW.all ⟨Ent.Aax _ _,tQ.suf _ _ _,trivial⟩) (fun hG=>J7 rfl rfl rfl) rfl) ?_;refine F3.pure _ _ 31 _ _ rfl (by kernel_rfl) (by kernel_rfl) rfl (.run rfl (Ja rfl rfl rfl)) ?_;refine F3.done _ _ (by kernel_rfl) ?_;refine Aa (AW.cond (b:=_) rfl (fun hc7=>?_) (fun hc7=>AW.skip (Aa (AW.seq (AW.region (AOL.p (Ai (cs':=[_,_]) tok rfl rfl rfl rfl rfl rfl) rfl (AOL.p (Aq (c:=.sl _ _) tok rfl rfl rfl) rfl ?_)))))))
  . exact absurd (hc7.symm.trans htree) (by decide)
  refine AOL.p (Dz (n:=(D8 (Bv (Ch EE TT) s).1).1.types.length) tok rfl rfl rfl (by simp)) rfl ?_;refine AOL.e (aD (n:=(D8 (Bv (Ch EE TT) s).1).1.types.length) tok rfl rfl rfl rfl rfl rfl rfl (by show 1*(D8 (Bv (Ch EE TT) s).1).1.types.length<=281474976710656;omega) (by simp [maxLen];omega)) rfl ?_;rintro _ _ ⟨b134,rfl,rfl⟩;refine AOL.p (Ad (v:=.val _) rfl) rfl (AOL.nil (Aa (AW.seq (AW.seq (AW.region (AOL.p (Ai (cs':=[_,_,.int .i64 _,_,.int .i64 _,.int .i64 _,.int .i64 _,.int .i64 _,.int .i64 _,_,.int .i64 _,.int .i64 _,.int .i64 _,.int .i64 _,.int .i64 _,.str _,_]) tok rfl rfl rfl rfl rfl rfl) rfl (AOL.p (Aq (c:=.sl _ _) tok rfl rfl rfl) rfl ?_)))))));refine AOL.p (Dz (n:=q.vars.length) tok rfl rfl rfl (by simp)) rfl ?_;refine AOL.p (Ab (v:=.int .i64 _) rfl) rfl (AOL.nil (Aa (AW.block (AW.sllen 136 rfl fun hlv=>?_))));simp only [By,maxLen] at hlv;refine AW.ghost (GS.cells 0 rfl (Aae _)) ?_;refine AW.loopS (fun (r:Nat×List Bool)=>(⟨[(3,.ptr (cSyn (Bv (Ch EE TT) s).1)),(6,.ptr (cPg (D8 (Bv (Ch EE TT) s).1).1)),(83,.sl 18 ((D8 (Bv (Ch EE TT) s).1).1.queries.map cQy)),(84,.int .i64 (D8 (Bv (Ch EE TT) s).1).1.queries.length),(85,.int .i64 (i:Int)),(14,.ptr (cQy q)),(15,.ptr (cSyn b)),(16,.val (.slice (some ⟨b134,0,none⟩) (D8 (Bv (Ch EE TT) s).1).1.types.length (D8 (Bv (Ch EE TT) s).1).1.types.length)),(136,.sl 2 (q.vars.map Rd)),(137,.int .i64 q.vars.length),(138,.int .i64 (r.1:Int))],.box b134 4 (wY r.2)::H,206⟩:St)) (fun r=>r.1<=q.vars.length/\r.2=fD (D8 (Bv (Ch EE TT) s).1).1.types.length (q.vars.take r.1)) (fun r=>q.vars.length-r.1) ((0,List.replicate (D8 (Bv (Ch EE TT) s).1).1.types.length false)) ?_ (GS.weaken ⟨rfl,rfl,rfl,rfl,rfl,rfl,rfl,rfl,rfl,rfl,rfl,trivial⟩ (.refl _)) ?_
  . exact ⟨A7 _,(useG_nil _).symm⟩
  rintro ⟨j,L⟩ hQ;have hLl:L.length=(D8 (Bv (Ch EE TT) s).1).1.types.length:=(congrArg List.length hQ.2).trans (Yd _ _);refine AW.seq (AW.region (AOL.p (Np rfl rfl) rfl (AOL.nil (Aa (AW.seq (AW.cond (b:=_) rfl (fun hc8=>?_) (fun hc8=>?_)))))))
  .
   have hltj:j<q.vars.length:=by have:=C6 hc8;omega
   refine (Ud.1 (by simpa using hltj:(q.vars[j]?).isSome=true)).elim fun v hv=>?_
   have hvt:=hkf.2.2.1 v (Aj hv);refine AW.skip (Aa (AW.seq (AW.block (AW.seq (AW.region ?_)))));refine AOL.p (Ec (c:=[.str _,.int .i64 _]) tok rfl rfl rfl rfl rfl rfl (by omega) (Cf hv)) rfl ?_;refine AOL.p (Cq (l:=[.str _,.int .i64 _]) tok rfl rfl rfl rfl rfl) rfl ?_;refine AOL.e (Dg (l:=[.str [],.int .i64 0]) (by kernel_rfl)) rfl ?_;rintro _ _ ⟨b18,rfl,rfl⟩;refine AOL.e (Dj (k:=0) (v:=.agg _) (cs':=[.str _,.int .i64 _]) (H2:=_::_::_) tok rfl rfl rfl rfl (rfl) rfl rfl rfl rfl) rfl ?_;rintro _ _ ⟨rfl,rfl⟩;refine AOL.ghost (GS.freeze (t:=18) 0 rfl rfl) ?_;refine AOL.nil (Aa (AW.seq (AW.seq (AW.region (AOL.p (Ai (cs':=[.int .i64 _]) tok rfl rfl rfl rfl rfl rfl) rfl (AOL.p (Aq (c:=.int .i64 _) tok rfl rfl rfl) rfl (AOL.p (Np rfl rfl) rfl (AOL.p (Ab (v:=.bool _) rfl) rfl (AOL.Aa1 (y:=.ptr _) _ [] rfl (bW.all trivial) (fun hG=>Ai (cs':=[.int .i64 _]) tok rfl rfl rfl rfl rfl rfl) rfl ?_)))))))));refine AOL.Aa1 (y:=.int .i64 _) _ [(146,_)] rfl (bW.all ⟨Ent.Aax _ _,trivial⟩) (fun hG=>Aq (c:=.int .i64 _) tok rfl rfl rfl) rfl ?_;refine AOL.Aa1 (y:=.ptr _) _ [] rfl (bW.all trivial) (fun hG=>Ai (cs':=[_,_]) tok rfl rfl rfl rfl rfl rfl) rfl ?_;refine AOL.Aa1 (y:=.sl _ _) _ [(148,_)] rfl (bW.all ⟨Ent.Aax _ _,trivial⟩) (fun hG=>Aq (c:=.sl _ _) tok rfl rfl rfl) rfl ?_;refine AOL.Aa1 (y:=.int .i64 _) _ [(149,_)] rfl (bW.all ⟨Ent.Aax _ _,trivial⟩) (fun hG=>Dz (n:=(D8 (Bv (Ch EE TT) s).1).1.types.length) tok rfl rfl rfl (by simp)) rfl ?_;refine AOL.Aa1 (y:=.bool _) _ [(147,_),(150,_)] rfl (bW.all ⟨Ent.Aax _ _,Ent.Aax _ _,trivial⟩) (fun hG=>tS rfl rfl) rfl ?_;refine AOL.p (Ja rfl rfl rfl) rfl (AOL.nil (Aa (AW.cond (b:=_) rfl (fun hc9=>?_) (fun hc9=>AW.skip (Aa (AW.region (AOL.p (Ab (v:=.val _) rfl) rfl (AOL.p (Ai (cs':=[.int .i64 _]) tok rfl rfl rfl rfl rfl rfl) rfl (AOL.p (Aq (c:=.int .i64 _) tok rfl rfl rfl) rfl ?_)))))))))
   .
    rw [Ii] at hc9;rcases hc9 with h9 | h9 <;> (have:=C6 h9;omega)
   refine AOL.p (Cp (o':=v.type.toNat) tok rfl rfl rfl rfl rfl (hvt.1) (hvt.2) (by show 0+v.type.toNat*1=v.type.toNat;omega)) rfl ?_;refine AOL.e (Dj (k:=0) (v:=.bool _) (cs':=wY (L.set v.type.toNat true)) (H2:=_::_) tok rfl rfl rfl rfl rfl rfl (Aad (by omega)) (tY (by omega)) rfl) rfl ?_;rintro _ _ ⟨rfl,rfl⟩;refine AOL.nil (Ff (Aa (AW.region ?_)));refine AOL.p (Js rfl rfl rfl (by constructor <;> omega)) rfl ?_;refine AOL.p (Ab (v:=.int .i64 _) rfl) rfl (AOL.nil (Aa ?_));refine ⟨(j+1,L.set v.type.toNat true),?_,?_,GS.weaken ⟨rfl,rfl,rfl,rfl,rfl,rfl,rfl,rfl,rfl,rfl,rfl,trivial⟩ (.refl _)⟩
   . exact ⟨hltj,by simp only;rw [Cs hv,useG_app hvt.1 hvt.2,<-hQ.2]⟩
   simp only;omega
  have hall:q.vars.take j=q.vars:=Sv (by have:=Er hc8;omega);refine AW.exit ?_;refine Br (Br (Gp (Aa ?_)));refine AW.seq (AW.region (AOL.p (Ai (cs':=[_,.int .i64 _,_,.int .i64 _,.int .i64 _,.int .i64 _,.int .i64 _,.int .i64 _,_,.int .i64 _,.int .i64 _,.int .i64 _,.int .i64 _,.int .i64 _,.str _,_]) tok rfl rfl rfl rfl rfl rfl) rfl (AOL.p (Aq (c:=.sl _ _) tok rfl rfl rfl) rfl ?_)));refine AOL.p (Dz (n:=q.key.length) tok rfl rfl rfl (by simp)) rfl ?_;refine AOL.p (Ab (v:=.int .i64 _) rfl) rfl (AOL.nil (Aa (AW.block ?_)));refine AW.ghost (GS.cells 0 rfl (congrArg wY (hQ.2.trans (congrArg (fD _) hall)))) ?_;refine AW.loopS (fun (k:Nat)=>(⟨[(3,.ptr (cSyn (Bv (Ch EE TT) s).1)),(6,.ptr (cPg (D8 (Bv (Ch EE TT) s).1).1)),(83,.sl 18 ((D8 (Bv (Ch EE TT) s).1).1.queries.map cQy)),(84,.int .i64 (D8 (Bv (Ch EE TT) s).1).1.queries.length),(85,.int .i64 (i:Int)),(14,.ptr (cQy q)),(15,.ptr (cSyn b)),(16,.val (.slice (some ⟨b134,0,none⟩) (D8 (Bv (Ch EE TT) s).1).1.types.length (D8 (Bv (Ch EE TT) s).1).1.types.length)),(159,.sl 1 (q.key.map cI)),(160,.int .i64 q.key.length),(161,.int .i64 (k:Int))],.box b134 4 (wY (fD (D8 (Bv (Ch EE TT) s).1).1.types.length q.vars))::H,206⟩:St)) (fun k=>k<=q.key.length) (fun k=>q.key.length-k) (0) ?_ (GS.weaken ⟨rfl,rfl,rfl,rfl,rfl,rfl,rfl,rfl,rfl,rfl,rfl,trivial⟩ (.refl _)) ?_
  . exact A7 _
  rintro k hS;refine AW.seq (AW.region (AOL.p (Np rfl rfl) rfl (AOL.nil (Aa (AW.seq (AW.cond (b:=_) rfl (fun hc10=>?_) (fun hc10=>AW.exit ?_)))))))
  .
   have hltk:k<q.key.length:=by have:=C6 hc10;omega
   refine (Ud.1 (by simpa using hltk:(q.key[k]?).isSome=true)).elim fun f hf=>?_
   have hkT:k<(D8 (Bv (Ch EE TT) s).1).1.types.length:=by rcases hkf.2.1 with h0 | h0 <;> omega
   refine (Ud.1 (by simpa using hkT:((D8 (Bv (Ch EE TT) s).1).1.types[k]?).isSome=true)).elim fun sk hsk=>?_
   have hkey:=key_ok1 hT hbo hgo hf hsk;have hus:=lG (n:=(D8 (Bv (Ch EE TT) s).1).1.types.length) (l:=q.vars) hkT;refine AW.skip (Aa (AW.seq (AW.block (AW.seq (AW.region (AOL.p (Ab (v:=.int .i64 _) rfl) rfl ?_))))));refine AOL.p (Ec (c:=[.int .i64 _]) tok rfl rfl rfl rfl rfl rfl (by omega) (Cf hf)) rfl ?_;refine AOL.p (Aq (c:=.int .i64 _) tok rfl rfl rfl) rfl (AOL.p (Ad (v:=.int .i64 _) rfl) rfl (AOL.p (Ad (v:=.int .i64 _) rfl) rfl (AOL.nil (Aa (AW.seq ?_)))));refine AW.draw mixed (fun _=>True) trivial (by kernel_rfl) ?_;refine F3.pure _ _ 0 _ _ rfl (by kernel_rfl) (by kernel_rfl) rfl (.run rfl (Ai (cs':=[_,_]) tok rfl rfl rfl rfl rfl rfl)) ?_;refine F3.pure _ _ 1 _ _ rfl (by kernel_rfl) (by kernel_rfl) rfl (.run rfl (Aq (c:=.sl _ _) tok rfl rfl rfl)) ?_;refine F3.pure _ _ 2 _ _ rfl (by kernel_rfl) (by kernel_rfl) rfl (.run rfl (Ab (v:=.int .i64 _) rfl)) ?_;refine F3.pure _ _ 3 _ _ rfl (by kernel_rfl) (by kernel_rfl) rfl (.run rfl (Ec (c:=[.str _,_]) tok rfl rfl rfl rfl rfl rfl (by omega) (Cf hsk))) ?_;refine F3.pure _ _ 4 _ _ rfl (by kernel_rfl) (by kernel_rfl) rfl (.run rfl (Cq (l:=[.str _,_]) tok rfl rfl rfl rfl rfl)) ?_;refine F3.pure _ _ 5 _ _ rfl (by kernel_rfl) (by kernel_rfl) rfl (.run rfl (Ai (cs':=[_,.int .i64 _]) tok rfl rfl rfl rfl rfl rfl)) ?_;refine F3.pure _ _ 6 _ _ rfl (by kernel_rfl) (by kernel_rfl) rfl (.run rfl (Aq (c:=.sl _ _) tok rfl rfl rfl)) ?_;refine F3.pure _ _ 7 _ _ rfl (by kernel_rfl) (by kernel_rfl) rfl (.run rfl (Ec (c:=[.int .i64 _,.str _,.str _,.int .i64 _,_,.int .i64 _]) tok rfl rfl rfl rfl rfl rfl (by decide) (F1 hk0))) ?_;refine F3.pure _ _ 8 _ _ rfl (by kernel_rfl) (by kernel_rfl) rfl (.run rfl (Ai (cs':=[.str _,.str _,.int .i64 _,_,.int .i64 _]) tok rfl rfl rfl rfl rfl rfl)) ?_;refine F3.pure _ _ 9 _ _ rfl (by kernel_rfl) (by kernel_rfl) rfl (.run rfl (Aq (c:=.str _) tok rfl rfl rfl)) ?_;refine F3.pure _ _ 10 _ _ rfl (by kernel_rfl) (by kernel_rfl) rfl (.run rfl (Eg (by kernel_rfl) rfl rfl (s_Index sk (hos sk (Aj hsk)) _))) ?_;refine F3.pure _ _ 11 _ _ rfl (by kernel_rfl) (by kernel_rfl) rfl (.run rfl (Ab (v:=.tuple _) rfl)) ?_;refine F3.pure _ _ 12 _ _ rfl (by kernel_rfl) (by kernel_rfl) rfl (.run rfl (A6 (v:=.int .i64 _) rfl rfl)) ?_;refine F3.pure _ _ 13 _ _ rfl (by kernel_rfl) (by kernel_rfl) rfl (.run rfl (A6 (v:=.int .i64 _) rfl rfl)) ?_;refine F3.pure _ _ 14 _ _ rfl (by kernel_rfl) (by kernel_rfl) rfl (.run rfl (Ad (v:=.int .i64 _) rfl)) ?_;refine F3.pure _ _ 15 _ _ rfl (by kernel_rfl) (by kernel_rfl) rfl (.run rfl (Ad (v:=.int .i64 _) rfl)) ?_;refine F3.done _ _ (by kernel_rfl) ?_;refine Aa (AW.seq (AW.region (AOL.p (Ab (v:=.val _) rfl) rfl (AOL.p (Ab (v:=.int .i64 _) rfl) rfl ?_))));refine AOL.p (Cp (o':=k) tok rfl rfl rfl rfl rfl (by omega) (by omega) (by show 0+(k:Int).toNat*1=k;omega)) rfl ?_
   refine AOL.Aaz (B8 (k:=0) (c:=.bool (q.vars.any fun v=>v.type==(k:Int))) tok rfl rfl rfl (Aac hus)) rfl rfl ?_;refine AOL.p (Ab (v:=.bool _) rfl) rfl (AOL.Aa1 (y:=.int .i64 _) _ [] rfl (bW.all trivial) (fun hG=>Ab (v:=.int .i64 _) rfl) rfl ?_);refine AOL.Aa1 (y:=.bool _) _ [(185,_)] rfl (bW.all ⟨Ent.Aax _ _,trivial⟩) (fun hG=>Nq rfl rfl) rfl ?_;refine AOL.Aa1 (y:=.bool _) _ [(186,_)] rfl (bW.all ⟨Ent.Aax _ _,trivial⟩) (fun hG=>Ab (v:=.bool _) rfl) rfl ?_;refine AOL.Aa1 (y:=.int .i64 _) _ [] rfl (bW.all trivial) (fun hG=>Ab (v:=.int .i64 _) rfl) rfl ?_;refine AOL.Aa1 (y:=.int .i64 _) _ [] rfl (bW.all trivial) (fun hG=>Ab (v:=.int .i64 _) rfl) rfl ?_;refine AOL.Aa1 (y:=.bool _) _ [(188,_),(189,_)] rfl (bW.all ⟨Ent.Aax _ _,Ent.Aax _ _,trivial⟩) (fun hG=>Nq rfl rfl) rfl ?_;refine AOL.Aa1 (y:=.bool _) _ [(187,_),(190,_)] rfl (bW.all ⟨Ent.Aax _ _,tQ.suf _ _ _,trivial⟩) (fun hG=>Ja rfl rfl rfl) rfl ?_;refine AOL.p (J7 rfl rfl rfl) rfl (AOL.p (Ab (v:=.bool _) rfl) rfl (AOL.Aa1 (y:=.val _) _ [] rfl (bW.all trivial) (fun hG=>Ab (v:=.val _) rfl) rfl ?_));refine AOL.Aa1 (y:=.int .i64 _) _ [] rfl (bW.all trivial) (fun hG=>Ab (v:=.int .i64 _) rfl) rfl ?_;refine AOL.Aa1 (y:=.val _) _ [(194,_),(195,_)] rfl (bW.all ⟨Ent.Aax _ _,Ent.Aax _ _,trivial⟩) (fun hG=>Cp (o':=k) tok rfl rfl rfl rfl rfl (by omega) (by omega) (by show 0+(k:Int).toNat*1=k;omega)) rfl ?_;refine AOL.gk (y:=.bool _) _ [(196,_)] rfl (bW.all ⟨Ent.Aax _ _,trivial⟩) (fun hG=>B8 (k:=0) (c:=.bool (q.vars.any fun v=>v.type==(k:Int))) tok rfl rfl rfl (Aac hus)) rfl rfl ?_;refine AOL.Aa1 (y:=.bool _) _ [(197,_)] rfl (bW.all ⟨Ent.Aax _ _,trivial⟩) (fun hG=>cB rfl) rfl ?_;refine AOL.Aa1 (y:=.bool _) _ [(198,_)] rfl (bW.all ⟨Ent.Aax _ _,trivial⟩) (fun hG=>Ab (v:=.bool _) rfl) rfl ?_;refine AOL.Aa1 (y:=.int .i64 _) _ [] rfl (bW.all trivial) (fun hG=>Ab (v:=.int .i64 _) rfl) rfl ?_;refine AOL.Aa1 (y:=.bool _) _ [(200,_)] rfl (bW.all ⟨Ent.Aax _ _,trivial⟩) (fun hG=>Nq rfl rfl) rfl ?_;refine AOL.Aa1 (y:=.bool _) _ [(199,_),(201,_)] rfl (bW.all ⟨Ent.Aax _ _,tQ.suf _ _ _,trivial⟩) (fun hG=>J7 rfl rfl rfl) rfl ?_;refine AOL.p (Ja rfl rfl rfl) rfl (AOL.nil (Aa (AW.cond (b:=_) rfl (fun hc11=>?_) (fun hc11=>AW.skip (Ff (Aa (AW.region ?_)))))))
   . exact absurd (hc11.symm.trans hkey) (by decide)
   refine AOL.p (Js rfl rfl rfl (by constructor <;> omega)) rfl ?_;refine AOL.p (Ab (v:=.int .i64 _) rfl) rfl (AOL.nil (Aa ?_));refine ⟨k+1,?_,?_,GS.weaken ⟨rfl,rfl,rfl,rfl,rfl,rfl,rfl,rfl,rfl,rfl,rfl,trivial⟩ (.refl _)⟩
   . exact hltk
   omega
  refine Br (Br (Gp (Ff (Aa (AW.region ?_)))));refine AOL.p (Js rfl rfl rfl (by constructor <;> omega)) rfl ?_;refine AOL.p (Ab (v:=.int .i64 _) rfl) rfl (AOL.nil (Aa ?_));refine ⟨i+1,?_,?_,GS.weaken ⟨rfl,rfl,rfl,rfl,rfl,trivial⟩ (.cons _ (.refl _))⟩
  . exact hlt
  omega
 refine Br (Br (Gp (Aa ?_)));refine AW.seq (AW.region (AOL.p (Ad (v:=.bool _) rfl) rfl (AOL.nil (Aa (AW.ret ?_)))));refine ⟨.inr rfl,[.bool _],.cons (.tmp _ _ rfl) <| .nil,.refl _,?_⟩;rfl
open Go Go.Aw Go.ChangeShapes Go.WideShapes Go.ChangeAt Go.RowKit
theorem laid:laidOutB Tryz.prog=true:=by kernel_rfl
theorem own:ownKnob Tryz.prog.godebug=none:=by kernel_rfl
def wK:AV->Value
 | .str s=>.string ⟨s.toArray⟩
 | .int k n=>.int k n
 | .bool b=>.bool b
 | _=>.int .i64 0
def gopL:List AV->List (Ag×Int)
 | .str s :: .int _ n::r=>(s,n)::gopL r
 | _=>[]
def Rg (W:World)(gl:Nat)(l:List AV):Prop:=Rep g0 W (.pointer (some ⟨gl,0,none⟩)) (.ptr l)
def kU:AV->Bool
 | .str s=>decide (s.length<=maxLen)
 | .int _ _=>true
 | .bool _=>true
 | _=>false
theorem yM {g:Gh}{w:World}{x:AV}(h:kU x=true):Rep g w (wK x) x:=by
 cases x <;> simp only [kU,Al,Ea] at h
 all_goals first | exact .int _ _ | exact .bool _ | exact Wm h
theorem To {W:World}{n:String}{gl:Nat}{cs:Array Value}{l:List AV}(hn:Tryz.prog.globalNamed n=some gl)(hv:W.var? Tryz.prog n=some cs)(hc:cs.toList=l.map wK)(hp:l.all kU=true):Rg W gl l:=by
 have hcell:∀j,W.cell? ⟨gl,j,none⟩=cs[j]? :=fun j=>World.var?_cell hn hv j
 refine .ptr gl 0 _ (fun j=>(l[j]?.map wK).getD default) (fun j x hj=>?_) (fun j x hj=>?_)
 .
  refine ⟨trivial,?_⟩;rw [Do,hcell j,<-Array.getElem?_toList,hc,List.getElem?_map,hj];simp
 simp only [hj,Hv,Option.getD_some];exact yM (Ht.1 hp _ (Aj hj))
theorem O6 {H:Type}{enc:TypeId×Value->H}{P:Program}{w:World}{base:Nat}{sp:Nat->Bool}{held:Bool}{B1:Nat}{t e:TypeId}{n:Nat}{cs:List Value}{ss:List Ag}{p:List MemPlace}
    (ht:P.underlying t=some (.array n e)) (he:P.underlying e=some .string) (hce:P.cellsOf e=1) (hct:P.cellsOf t=n)
    (h:DataW.trod enc P w base sp held B1 t cs=some (.agg (ss.map fun s=>.lit (.string s)),p)):cs=ss.map fun s=>Value.string ⟨s.toArray⟩:=by
  cases B1 with
  | zero=>simp [DataW.trod] at h
  | succ B1=>
    simp only [DataW.trod,ht,hce,hct,Nat.mul_one] at h;split at h
    . rename_i hl
      obtain ⟨xs,hm,hx⟩:=Wz.1 h
      have hxs:xs.map (·.1)=ss.map fun s=>(DataW.lit (.string s):DataW H):=by
        have:=congrArg Prod.fst hx;simpa using this
      have hxl:xs.length=n:=by simpa using Lib.mapM_length hm
      have hzl:ss.length=n:=by
        have:=congrArg List.length hxs;simp at this;omega
      apply Uc
      intro i;by_cases hi:i<n
      . obtain ⟨b,hb,hf⟩:=Lib.mapM_at hm i i (by simp [hi])
        obtain ⟨z,hc,rfl,_⟩:=DataW.trod_string he hf
        have h1:cs[i]? = some (.string z):=by
          have:=congrArg (·[0]?) hc;simpa [List.getElem?_take,List.getElem?_drop] using this
        have h2:(xs.map (·.1))[i]? = some (DataW.lit (.string z.data.toList):DataW H):=by simp [hb]
        rw [hxs] at h2;simp only [List.getElem?_map,Wz,DataW.lit.injEq,Lit.string.injEq] at h2;obtain ⟨z',hz',rfl⟩:=h2;simp [h1,hz']
      rw [List.getElem?_eq_none (by omega),List.getElem?_eq_none (by simp;omega)]
    cases h
theorem Aap {α β:Type}(f g:α->β):∀(ss:List α) (cs:List β),cs.length=2*ss.length->(∀i x,ss[i]? = some x->(cs.drop (i*2)).take 2 = [f x,g x])->cs=ss.flatMap fun x=>[f x,g x]
  | [],cs,hl,_=>by simpa using hl
  | x::ss,cs,hl,h=>by
    have h0:=h 0 x rfl
    match cs,hl with
    | a::b::r,hl=>
      simp at h0;obtain ⟨rfl,rfl⟩:=h0
      have:=Aap f g ss r (by simp at hl;omega) (fun i y hy=>by
        have:=h (i+1) y (by simpa using hy)
        rwa [show (i+1)*2=i*2+1+1 by omega,List.drop_succ_cons,List.drop_succ_cons] at this)
      simp [<-this]
    | [],hl=>simp at hl
    | [_],hl=>simp at hl;omega
theorem M2 {H:Type}{enc:TypeId×Value->H}{P:Program}{w:World}{base:Nat}{sp:Nat->Bool}{held:Bool}{B1:Nat}{t e:TypeId}{n:Nat}{cs:List Value}{ss:List (Ag×Int)}{p:List MemPlace}{f0 f1:Field}
    (ht:P.underlying t=some (.array n e)) (he:P.underlying e=some (.struct #[f0,f1])) (o0:f0.offset=0) (o1:f1.offset=1) (t0:P.underlying f0.type=some .string) (t1:P.underlying f1.type=some (.int .i64)) (c0:P.cellsOf f0.type=1) (c1:P.cellsOf f1.type=1) (hce:P.cellsOf e=2) (hct:P.cellsOf t=n*2)
    (h:DataW.trod enc P w base sp held B1 t cs=some (.agg (ss.map fun s=>.agg [.lit (.string s.1),.lit (.int .i64 s.2)]),p)):cs=ss.flatMap fun s=>[Value.string ⟨s.1.toArray⟩,.int .i64 s.2]:=by
  cases B1 with
  | zero=>simp [DataW.trod] at h
  | succ B1=>
    simp only [DataW.trod,ht,hce,hct] at h;split at h
    . rename_i hl
      obtain ⟨xs,hm,hx⟩:=Wz.1 h
      have hxs:xs.map (·.1)=ss.map fun s=>(DataW.agg [.lit (.string s.1),.lit (.int .i64 s.2)]:DataW H):=by
        have:=congrArg Prod.fst hx;simpa using this
      have hxl:xs.length=n:=by simpa using Lib.mapM_length hm
      have hzl:ss.length=n:=by
        have:=congrArg List.length hxs;simp at this;omega
      apply Aap
      . omega
      intro i x hi;have hin:i<n:=by have:=(List.getElem?_eq_some_iff.1 hi).1;omega
      obtain ⟨b,hb,hf⟩:=Lib.mapM_at hm i i (by simp [hin]);obtain ⟨y0,y1,m,rfl,hlen,h0,h1⟩:=trod_struct2 he hf;obtain ⟨z,hz,rfl,_⟩:=DataW.trod_string t0 h0;obtain ⟨k,hk,rfl,_⟩:=DataW.trod_int t1 h1;have h2:(xs.map (·.1))[i]? = some (DataW.agg [.lit (.string z.data.toList),.lit (.int .i64 k)]:DataW H):=by simp [hb]
      rw [hxs] at h2;simp [hi] at h2;obtain ⟨e1,e2⟩:=h2;rw [o0,c0] at hz;rw [o1,c1] at hk;have hl2:((cs.drop (i*2)).take 2).length=2:=by rw [hlen,hce]
      match hq:(cs.drop (i*2)).take 2,hl2 with
      | [a,b],_=>
        rw [hq] at hz hk;simp at hz hk;subst hz hk;simp [e1,e2]
    cases h
theorem Aaq {α β:Type}(k:Nat)(f:α->List β)(hf:∀x,(f x).length=k):∀(ss:List α) (cs:List β),cs.length=k*ss.length->(∀i x,ss[i]? = some x->(cs.drop (i*k)).take k=f x)->cs=ss.flatMap f
  | [],cs,hl,_=>by simpa using hl
  | x::ss,cs,hl,h=>by
    have h0:=h 0 x rfl;rw [Nat.zero_mul,Oi] at h0
    have ih:=Aaq k f hf ss (cs.drop k) (by rw [C4,hl,A1,Nat.mul_succ];omega) fun i y hy=>by
      have:=h (i+1) y (by simpa using hy)
      rwa [List.drop_drop,show k+i*k=(i+1)*k by rw [Nat.succ_mul,Nat.add_comm]]
    rw [Kf,<-ih,<-h0,Po]
theorem aY {H:Type}{enc:TypeId×Value->H}{P:Program}{w:World}{base:Nat}{sp:Nat->Bool}{held:Bool}{B1:Nat}{t e:TypeId}{n:Nat}{cs:List Value}{ss:List Shp}{p:List MemPlace}{f0 f1 f2 f3 f4 f5:Field}
    (ht:P.underlying t=some (.array n e)) (he:P.underlying e=some (.struct #[f0,f1,f2,f3,f4,f5])) (ho:f0.offset=0/\f1.offset=1/\f2.offset=2/\f3.offset=3/\f4.offset=4/\f5.offset=5)
    (t0:P.underlying f0.type=some (.int .i64)) (t1:P.underlying f1.type=some (.int .i64)) (t2:P.underlying f2.type=some .bool) (t3:P.underlying f3.type=some .bool) (t4:P.underlying f4.type=some .bool) (t5:P.underlying f5.type=some .bool)
    (hcc:P.cellsOf f0.type=1/\P.cellsOf f1.type=1/\P.cellsOf f2.type=1/\P.cellsOf f3.type=1/\P.cellsOf f4.type=1/\P.cellsOf f5.type=1) (hce:P.cellsOf e=6) (hct:P.cellsOf t=n*6)
    (h:DataW.trod enc P w base sp held B1 t cs=some (.agg (ss.map fun s=>.agg [.lit (.int .i64 s.least),.lit (.int .i64 s.most),.lit (.bool s.typed),.lit (.bool s.cond),.lit (.bool s.scope),.lit (.bool s.span)]),p)) :
    cs=ss.flatMap fun s=>[Value.int .i64 s.least,.int .i64 s.most,.bool s.typed,.bool s.cond,.bool s.scope,.bool s.span]:=by
  cases B1 with
  | zero=>simp [DataW.trod] at h
  | succ B1=>
    simp only [DataW.trod,ht,hce,hct] at h;split at h
    . rename_i hl
      obtain ⟨xs,hm,hx⟩:=Wz.1 h
      have hxs:xs.map (·.1)=ss.map fun s=>(DataW.agg [.lit (.int .i64 s.least),.lit (.int .i64 s.most),.lit (.bool s.typed),.lit (.bool s.cond),.lit (.bool s.scope),.lit (.bool s.span)]:DataW H):=by
        have:=congrArg Prod.fst hx;simpa using this
      have hxl:xs.length=n:=by simpa using Lib.mapM_length hm
      have hzl:ss.length=n:=by
        have:=congrArg List.length hxs;simp at this;omega
      apply Aaq 6 _ (fun _=>rfl)
      . omega
      intro i x hi;have hin:i<n:=by have:=(List.getElem?_eq_some_iff.1 hi).1;omega
      obtain ⟨b,hb,hf⟩:=Lib.mapM_at hm i i (by simp [hin]);obtain ⟨ys,m,_,rfl,hlen,hyl,hfs⟩:=DataW.trod_struct he hf
      match ys,hyl with
      | [y0,y1,y2,y3,y4,y5],_=>
        obtain ⟨o0,o1,o2,o3,o4,o5⟩:=ho;obtain ⟨c0,c1,c2,c3,c4,c5⟩:=hcc;obtain ⟨k0,e0,rfl,_⟩:=DataW.trod_int t0 (show _=some y0 by simpa using hfs 0 f0 rfl);obtain ⟨k1,e1,rfl,_⟩:=DataW.trod_int t1 (show _=some y1 by simpa using hfs 1 f1 rfl);obtain ⟨k2,e2,rfl⟩:=DataW.trod_bool t2 (show _=some y2 by simpa using hfs 2 f2 rfl);obtain ⟨k3,e3,rfl⟩:=DataW.trod_bool t3 (show _=some y3 by simpa using hfs 3 f3 rfl);obtain ⟨k4,e4,rfl⟩:=DataW.trod_bool t4 (show _=some y4 by simpa using hfs 4 f4 rfl);obtain ⟨k5,e5,rfl⟩:=DataW.trod_bool t5 (show _=some y5 by simpa using hfs 5 f5 rfl);have h2:(xs.map (·.1))[i]? = some (DataW.agg [.lit (.int .i64 k0),.lit (.int .i64 k1),.lit (.bool k2),.lit (.bool k3),.lit (.bool k4),.lit (.bool k5)]:DataW H):=by simp [hb]
        rw [hxs] at h2;simp [hi] at h2;obtain ⟨q0,q1,q2,q3,q4,q5⟩:=h2;rw [o0,c0] at e0;rw [o1,c1] at e1;rw [o2,c2] at e2;rw [o3,c3] at e3;rw [o4,c4] at e4;rw [o5,c5] at e5;have hl2:((cs.drop (i*6)).take 6).length=6:=by rw [hlen,hce]
        match hq:(cs.drop (i*6)).take 6,hl2 with
        | [a,b,c,d,e,f],_=>
          rw [hq] at e0 e1 e2 e3 e4 e5;simp at e0 e1 e2 e3 e4 e5;subst e0 e1 e2 e3 e4 e5;simp [q0,q1,q2,q3,q4,q5]
    cases h
theorem signs_of {W : World} {r : List (String × DataW Unit)} {ps : List MemPlace} (h : DataW.LaidVars Tryz.prog W (("tidegate/lexer.signs", Rows.laid_tidegate_lexer_signs) :: r) ps) : Rg W 4 Lv /\ ∃ q, DataW.LaidVars Tryz.prog W r q := by
 obtain ⟨g',t',cs,B1,p,q,hg',ht',hvar,hd,hr,_⟩:=h;obtain rfl := Option.some.inj ((show Tryz.prog.globalNamed "tidegate/lexer.signs" = some 4 by kernel_rfl).symm.trans hg');obtain rfl:=Option.some.inj ((show (Tryz.prog.globals[4]?).map (·.type)=some 246 by kernel_rfl).symm.trans ht');have:=O6 (ss:=Lv.filterMap fun | .str s=>some s | _=>none) (n:=17) (e:=9) (by kernel_rfl) (by kernel_rfl) (by kernel_rfl) (by kernel_rfl) hd;exact ⟨To (n := "tidegate/lexer.signs") (by kernel_rfl) hvar (by rw [this]; rfl) (by decide), q, hr⟩
theorem kinds_of {W : World} {r : List (String × DataW Unit)} {ps : List MemPlace} (h : DataW.LaidVars Tryz.prog W (("tidegate/parser.kinds", Rows.laid_tidegate_parser_kinds) :: r) ps) : Rg W 1 Lq /\ ∃ q, DataW.LaidVars Tryz.prog W r q := by
 obtain ⟨g',t',cs,B1,p,q,hg',ht',hvar,hd,hr,_⟩:=h;obtain rfl := Option.some.inj ((show Tryz.prog.globalNamed "tidegate/parser.kinds" = some 1 by kernel_rfl).symm.trans hg');obtain rfl:=Option.some.inj ((show (Tryz.prog.globals[1]?).map (·.type)=some 98 by kernel_rfl).symm.trans ht');have:=O6 (ss:=Lq.filterMap fun | .str s=>some s | _=>none) (n:=3) (e:=9) (by kernel_rfl) (by kernel_rfl) (by kernel_rfl) (by kernel_rfl) hd;exact ⟨To (n := "tidegate/parser.kinds") (by kernel_rfl) hvar (by rw [this]; rfl) (by decide), q, hr⟩
theorem ors_of {W : World} {r : List (String × DataW Unit)} {ps : List MemPlace} (h : DataW.LaidVars Tryz.prog W (("tidegate/parser.ors", Rows.laid_tidegate_parser_ors) :: r) ps) : Rg W 2 Tx /\ ∃ q, DataW.LaidVars Tryz.prog W r q := by
 obtain ⟨g',t',cs,B1,p,q,hg',ht',hvar,hd,hr,_⟩:=h;obtain rfl := Option.some.inj ((show Tryz.prog.globalNamed "tidegate/parser.ors" = some 2 by kernel_rfl).symm.trans hg');obtain rfl:=Option.some.inj ((show (Tryz.prog.globals[2]?).map (·.type)=some 220 by kernel_rfl).symm.trans ht');have := M2 (ss := gopL Tx) (n := 1) (e := 219) (by kernel_rfl) (show Tryz.prog.underlying 219 = some (.struct #[⟨ "text", 9, 0, false, "", "tidegate/parser", 0⟩, ⟨ "op", 3, 1, false, "", "tidegate/parser", 16⟩]) by kernel_rfl) rfl rfl (by kernel_rfl) (by kernel_rfl) (by kernel_rfl) (by kernel_rfl) (by kernel_rfl) (by kernel_rfl) hd;exact ⟨To (n := "tidegate/parser.ors") (by kernel_rfl) hvar (by rw [this]; rfl) (by decide), q, hr⟩
theorem ands_of {W : World} {r : List (String × DataW Unit)} {ps : List MemPlace} (h : DataW.LaidVars Tryz.prog W (("tidegate/parser.ands", Rows.laid_tidegate_parser_ands) :: r) ps) : Rg W 5 P0 /\ ∃ q, DataW.LaidVars Tryz.prog W r q := by
 obtain ⟨g',t',cs,B1,p,q,hg',ht',hvar,hd,hr,_⟩:=h;obtain rfl := Option.some.inj ((show Tryz.prog.globalNamed "tidegate/parser.ands" = some 5 by kernel_rfl).symm.trans hg');obtain rfl:=Option.some.inj ((show (Tryz.prog.globals[5]?).map (·.type)=some 220 by kernel_rfl).symm.trans ht');have := M2 (ss := gopL P0) (n := 1) (e := 219) (by kernel_rfl) (show Tryz.prog.underlying 219 = some (.struct #[⟨ "text", 9, 0, false, "", "tidegate/parser", 0⟩, ⟨ "op", 3, 1, false, "", "tidegate/parser", 16⟩]) by kernel_rfl) rfl rfl (by kernel_rfl) (by kernel_rfl) (by kernel_rfl) (by kernel_rfl) (by kernel_rfl) (by kernel_rfl) hd;exact ⟨To (n := "tidegate/parser.ands") (by kernel_rfl) hvar (by rw [this]; rfl) (by decide), q, hr⟩
theorem sums_of {W : World} {r : List (String × DataW Unit)} {ps : List MemPlace} (h : DataW.LaidVars Tryz.prog W (("tidegate/parser.sums", Rows.laid_tidegate_parser_sums) :: r) ps) : Rg W 9 Qz /\ ∃ q, DataW.LaidVars Tryz.prog W r q := by
 obtain ⟨g',t',cs,B1,p,q,hg',ht',hvar,hd,hr,_⟩:=h;obtain rfl := Option.some.inj ((show Tryz.prog.globalNamed "tidegate/parser.sums" = some 9 by kernel_rfl).symm.trans hg');obtain rfl:=Option.some.inj ((show (Tryz.prog.globals[9]?).map (·.type)=some 274 by kernel_rfl).symm.trans ht');have := M2 (ss := gopL Qz) (n := 2) (e := 219) (by kernel_rfl) (show Tryz.prog.underlying 219 = some (.struct #[⟨ "text", 9, 0, false, "", "tidegate/parser", 0⟩, ⟨ "op", 3, 1, false, "", "tidegate/parser", 16⟩]) by kernel_rfl) rfl rfl (by kernel_rfl) (by kernel_rfl) (by kernel_rfl) (by kernel_rfl) (by kernel_rfl) (by kernel_rfl) hd;exact ⟨To (n := "tidegate/parser.sums") (by kernel_rfl) hvar (by rw [this]; rfl) (by decide), q, hr⟩
theorem zF {W : World} {r : List (String × DataW Unit)} {ps : List MemPlace} (h : DataW.LaidVars Tryz.prog W (("tidegate/parser.totals", Rows.laid_tidegate_parser_totals) :: r) ps) : Rg W 11 Kl /\ ∃ q, DataW.LaidVars Tryz.prog W r q := by
 obtain ⟨g',t',cs,B1,p,q,hg',ht',hvar,hd,hr,_⟩:=h;obtain rfl := Option.some.inj ((show Tryz.prog.globalNamed "tidegate/parser.totals" = some 11 by kernel_rfl).symm.trans hg');obtain rfl:=Option.some.inj ((show (Tryz.prog.globals[11]?).map (·.type)=some 279 by kernel_rfl).symm.trans ht');have := M2 (ss := gopL Kl) (n := 4) (e := 219) (by kernel_rfl) (show Tryz.prog.underlying 219 = some (.struct #[⟨ "text", 9, 0, false, "", "tidegate/parser", 0⟩, ⟨ "op", 3, 1, false, "", "tidegate/parser", 16⟩]) by kernel_rfl) rfl rfl (by kernel_rfl) (by kernel_rfl) (by kernel_rfl) (by kernel_rfl) (by kernel_rfl) (by kernel_rfl) hd;exact ⟨To (n := "tidegate/parser.totals") (by kernel_rfl) hvar (by rw [this]; rfl) (by decide), q, hr⟩
theorem words_of {W : World} {r : List (String × DataW Unit)} {ps : List MemPlace} (h : DataW.LaidVars Tryz.prog W (("tidegate/schema.words", Rows.laid_tidegate_schema_words) :: r) ps) : Rg W 0 Nl /\ ∃ q, DataW.LaidVars Tryz.prog W r q := by
 obtain ⟨g',t',cs,B1,p,q,hg',ht',hvar,hd,hr,_⟩:=h;obtain rfl := Option.some.inj ((show Tryz.prog.globalNamed "tidegate/schema.words" = some 0 by kernel_rfl).symm.trans hg');obtain rfl:=Option.some.inj ((show (Tryz.prog.globals[0]?).map (·.type)=some 98 by kernel_rfl).symm.trans ht');have:=O6 (ss:=Nl.filterMap fun | .str s=>some s | _=>none) (n:=3) (e:=9) (by kernel_rfl) (by kernel_rfl) (by kernel_rfl) (by kernel_rfl) hd;exact ⟨To (n := "tidegate/schema.words") (by kernel_rfl) hvar (by rw [this]; rfl) (by decide), q, hr⟩
theorem yV {W : World} {r : List (String × DataW Unit)} {ps : List MemPlace} (h : DataW.LaidVars Tryz.prog W (("tidegate/pattern.shapes", Rows.laid_tidegate_pattern_shapes) :: r) ps) : Rg W 3 Wp /\ ∃ q, DataW.LaidVars Tryz.prog W r q := by
 obtain ⟨g',t',cs,B1,p,q,hg',ht',hvar,hd,hr,_⟩:=h;obtain rfl := Option.some.inj ((show Tryz.prog.globalNamed "tidegate/pattern.shapes" = some 3 by kernel_rfl).symm.trans hg');obtain rfl:=Option.some.inj ((show (Tryz.prog.globals[3]?).map (·.type)=some 230 by kernel_rfl).symm.trans ht');have := aY (ss := shpL) (n := 11) (e := 229) (by kernel_rfl) (show Tryz.prog.underlying 229 = some (.struct #[⟨ "least", 3, 0, false, "", "tidegate/pattern", 0⟩, ⟨ "most", 3, 1, false, "", "tidegate/pattern", 8⟩, ⟨ "typed", 4, 2, false, "", "tidegate/pattern", 16⟩, ⟨ "cond", 4, 3, false, "", "tidegate/pattern", 17⟩, ⟨ "scope", 4, 4, false, "", "tidegate/pattern", 18⟩, ⟨ "span", 4, 5, false, "", "tidegate/pattern", 19⟩]) by kernel_rfl) ⟨rfl, rfl, rfl, rfl, rfl, rfl⟩ (by kernel_rfl) (by kernel_rfl) (by kernel_rfl) (by kernel_rfl) (by kernel_rfl) (by kernel_rfl) ⟨by kernel_rfl, by kernel_rfl, by kernel_rfl, by kernel_rfl, by kernel_rfl, by kernel_rfl⟩ (by kernel_rfl) (by kernel_rfl) hd;exact ⟨To (n := "tidegate/pattern.shapes") (by kernel_rfl) hvar (by rw [this]; rfl) (by decide), q, hr⟩
def Zq:List Int:=[1,10,100,1000,10000,100000,1000000,10000000,100000000,1000000000,10000000000,100000000000,1000000000000,10000000000000,100000000000000,1000000000000000,10000000000000000,100000000000000000,1000000000000000000,10000000000000000000]
theorem lB {W:World}{n:String}{d:DataW Unit}{r:List (String×DataW Unit)}{ps:List MemPlace}(h:DataW.LaidVars Tryz.prog W ((n,d)::r) ps):∃q,DataW.LaidVars Tryz.prog W r q:=by
 obtain ⟨g',t',cs,B1,p,q,hg',ht',hvar,hd,hr,_⟩:=h;exact ⟨q,hr⟩
theorem pow_of {W : World} {r : List (String × DataW Unit)} {ps : List MemPlace} (h : DataW.LaidVars Tryz.prog W (("internal/strconv.uint64pow10", Rows.laid_internal_strconv_uint64pow10) :: r) ps) : Lib.TabIs Tryz.prog W "internal/strconv.uint64pow10" .u64 Zq /\ ∃ q, DataW.LaidVars Tryz.prog W r q := by
 obtain ⟨g',t',cs,B1,p,q,hg',ht',hvar,hd,hr,_⟩:=h;obtain rfl := Option.some.inj ((show Tryz.prog.globalNamed "internal/strconv.uint64pow10" = some 10 by kernel_rfl).symm.trans hg');obtain rfl:=Option.some.inj ((show (Tryz.prog.globals[10]?).map (·.type)=some 276 by kernel_rfl).symm.trans ht');have:=Lib.cells_of_tab (k:=.u64) (zs:=Zq) (n:=20) (e:=252) (by kernel_rfl) (by kernel_rfl) (by kernel_rfl) (by kernel_rfl) hd;refine ⟨?_,q,hr⟩;unfold Lib.TabIs;rw [hvar,<-this]
theorem pow_heap {W : World} (h : Lib.TabIs Tryz.prog W "internal/strconv.uint64pow10" .u64 Zq) : ∃ T fr, W.heap[10]? = some (.cells (Zq.map fun z => Value.int .u64 z).toArray T fr) := by
 have e : Tryz.prog.globalNamed "internal/strconv.uint64pow10" = some 10 := by kernel_rfl
 unfold Lib.TabIs World.var? at h;rw [e] at h
 have hk:∀(X:Array Value) (o:Option Obj),(match o with | some (Obj.cells cs _ _)=>some cs | _=>none)=some X->∃T fr,o=some (Obj.cells X T fr):=by
  intro X o h
  match o,h with
  | some (Obj.cells cs T fr),h=>exact ⟨T,fr,by rw [Option.some.inj h]⟩
 exact hk _ _ h
theorem globOK {W:World}(h:laidMet Tryz.prog Rows.topNamesResolveRow.laid W)(hS:W.ShapedOpen Tryz.prog):GlobOK g0 W:=by
  obtain ⟨ps,h,_⟩:=h;obtain ⟨ps,h⟩:=lB h;obtain ⟨ps,h⟩:=lB h;obtain ⟨ht,ps,h⟩:=pow_of h;obtain ⟨ps,h⟩:=lB h;obtain ⟨hsigns,ps,h⟩:=signs_of h;obtain ⟨hkinds,ps,h⟩:=kinds_of h;obtain ⟨hors,ps,h⟩:=ors_of h;obtain ⟨hands,ps,h⟩:=ands_of h;obtain ⟨hsums,ps,h⟩:=sums_of h;obtain ⟨htotals,ps,h⟩:=zF h;obtain ⟨hwords,ps,h⟩:=words_of h;obtain ⟨hshapes,ps,h⟩:=yV h;refine ⟨fun p hp=>?_,fun p hp=>?_⟩
  . simp only [globals,Cn,Og,or_false] at hp
    rcases hp with rfl | rfl | rfl | rfl | rfl | rfl | rfl | rfl | rfl | rfl
    . exact ⟨_,rfl,hsigns⟩
    . exact ⟨_,rfl,hors⟩
    . exact ⟨_,rfl,hands⟩
    . exact ⟨_,rfl,hsums⟩
    . exact ⟨_,rfl,hkinds⟩
    . exact ⟨_,rfl,htotals⟩
    . skip
      refine ⟨Wh,rfl,?_⟩;have hcell : ∀ j, W.cell? ⟨10, j, none⟩ = (Zq.map fun z => Value.int .u64 z).toArray[j]? := fun j => World.var?_cell (show Tryz.prog.globalNamed "internal/strconv.uint64pow10" = some 10 by kernel_rfl) ht j
      have hs:Wh=Zq.map fun z=>AV.int .u64 z:=rfl
      rw [hs];refine .ptr 10 0 _ (fun j=>Value.int .u64 (Zq.getD j 0)) (fun j x hj=>?_) (fun j x hj=>?_)
      . rw [List.getElem?_map] at hj
        cases hq:Zq[j]? with
        | none=>rw [hq] at hj;cases hj
        | some y=>
          refine ⟨trivial,?_⟩;rw [Do,hcell j];simp [hq,E6]
      . rw [List.getElem?_map] at hj
        cases hq:Zq[j]? with
        | none=>rw [hq] at hj;cases hj
        | some y=>
          rw [hq] at hj;simp only [Hv,Option.some.injEq] at hj;subst hj;have e:Zq.getD j 0=y:=by rw [E6,hq];rfl
          rw [e];exact .int _ _
    . exact ⟨_,rfl,hwords⟩
    . exact ⟨_,rfl,hshapes⟩
    . obtain ⟨m,hm⟩:=Tryz.laysM144.s1_3 W hS
      refine ⟨[.int .i64 m],⟨m,rfl⟩,.ptr 6 0 _ (fun _=>.int .i64 m) (fun j x hj=>?_) (fun j x hj=>?_)⟩
      . have hj0:j=0:=by have:=(List.getElem?_eq_some_iff.1 hj).1;simp at this;omega
        subst hj0;exact ⟨trivial,hm⟩
      . have hj0:j=0:=by have:=(List.getElem?_eq_some_iff.1 hj).1;simp at this;omega
        subst hj0;simp only [List.getElem?_cons_zero,Option.some.injEq] at hj;subst hj;exact .int _ _
  . obtain rfl:=Ep.1 hp
    exact ⟨rfl,pow_heap ht⟩
def lA (k:IntKind)(l:List Int):Obj->Obj
 | .cells _ t frozen=>.cells (l.map fun z=>Value.int k z).toArray t frozen
 | o=>o
def ofTab (d:DataW Unit):List Int:=match d with
 | .agg l=>l.map fun | .lit (.int _ n)=>n | _=>0
 | _=>[]
def mA:List AV:=[.int .u8 128,.int .u8 191,.int .u8 160,.int .u8 191,.int .u8 128,.int .u8 159,.int .u8 144,.int .u8 191,.int .u8 128,.int .u8 143,.int .u8 0,.int .u8 0,.int .u8 0,.int .u8 0,.int .u8 0,.int .u8 0,.int .u8 0,.int .u8 0,.int .u8 0,.int .u8 0,.int .u8 0,.int .u8 0,.int .u8 0,.int .u8 0,.int .u8 0,.int .u8 0,.int .u8 0,.int .u8 0,.int .u8 0,.int .u8 0,.int .u8 0,.int .u8 0]
def K3 (l:List AV):Obj->Obj
 | .cells _ t frozen=>.cells (l.map wK).toArray t frozen
 | o=>o
noncomputable def laidWorld (os:Os):World:=
 { World.holding Tryz.prog os ⟨#[],#[],[]⟩ with heap:=((((((((((((((World.holding Tryz.prog os ⟨#[],#[],[]⟩).heap.modify 4 (K3 Lv)).modify 1 (K3 Lq)).modify 2 (K3 Tx)).modify 5 (K3 P0)).modify 9 (K3 Qz)).modify 11 (K3 Kl)).modify 0 (K3 Nl)).modify 3 (K3 Wp)).modify 10 (lA .u64 Zq)).modify 12 (lA .u8 (ofTab Rows.laid_math_bits_deBruijn32tab))).modify 13 (lA .u8 (ofTab Rows.laid_math_bits_deBruijn64tab))).modify 7 (lA .u8 (ofTab Rows.laid_unicode_utf8_first))).modify 8 (K3 mA)) }
end Go.Proofs.YtibcelnfkhdjaaaGreatDoor
