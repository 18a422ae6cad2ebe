/-
  Several texts in one: R47w, R50, R21w, R19w, R22w, R48w, Ab, B14, B15, G14, Ac. No condition.
-/
import Derived.Test.YtckhoadldibflaaGreatDoorK01
import Derived.Test.YtckhoadldibflaaGreatDoorK12
import Derived.Test.YtckhoadldibflaaGreatDoorK11
import Derived.Test.YtckhoadldibflaaGreatDoorK06
import Derived.KernelRfl
import Derived.Test.YtckhoadldibflaaGreatDoorK09
import Derived.Test.YtckhoadldibflaaGreatDoorK08
import Derived.Test.YtckhoadldibflaaGreatDoorAx
import Derived.OpenShut
import Derived.Test.YtckhoadldibflaaGreatDoorRows
import Derived.JoinedCond
import Derived.ProofKit
import Derived.Test.YtckhoadldibflaaGreatDoorK05
import Derived.Test.YtckhoadldibflaaGreatDoorCards
import Derived.Test.YtckhoadldibflaaGreatDoorTie
import Derived.Test.YtckhoadldibflaaGreatDoorK02
import Derived.Test.YtckhoadldibflaaGreatDoorK04
import Derived.Deep.DeepHandedRow
import Derived.Lib.LaidTab
import Derived.WideShapes
set_option linter.unusedVariables false
set_option linter.unusedSimpArgs false
set_option maxHeartbeats 25600000
set_option maxRecDepth 100000
namespace Go.Proofs.YtckhoadldibflaaGreatDoor
open Go Go.Aw
section
variable {T:List e8Sc} {q:Qy}
theorem mP {s:Av}{e:Int}(h1:(C7 T != 0)=false)(h:Ti T q=(s,e))(he:(e != 0)=true):G5 T q=(Hb,e):=by
 have h2:(Ti T q).2=e:=by rw [h]
 have h3:=sw_2 (T:=T) (q:=q) h1 (by rw [h2];exact he);rw [h2] at h3;exact h3
theorem nT {e:Ex}(h:C2 e=0):C0 e=0:=(Mo h).2.2
theorem cd_nodes (h:(Gj q.pattern != 0)=false):∀e∈Jw q.pattern,C0 e=0:=fun e he=>by
 obtain ⟨x,hx,rfl⟩:=Db.1 he;have hx2:=Ig.1 hx;have hn:=Lp h x hx2.1;exact nT (hn.parts.2.2.1 (by rw [<-hn.flags.2];exact hx2.2))
theorem us_ref (hn:∀e∈Jw q.pattern++q.returns,C0 e=0):usR T q=if (Jw q.pattern++q.returns).all (Kp T q.vars) then (0,rZ T q&&(Jw q.pattern++q.returns).all (Nq T q.vars)) else (6,false):=gN hn _
theorem al_no {p:Ex->Bool}{l:List Ex}{a:Ex}(hm:a∈l)(h:(!(p a))=true):l.all p=false:=by
 rw [<-Qa,E3];intro hl;rw [hl a hm] at h;cases h
theorem us_6 (hn:∀e∈Jw q.pattern++q.returns,C0 e=0){a:Ex}(hm:a∈Jw q.pattern++q.returns)(h:(!(Kp T q.vars a))=true):usR T q=(6,false):=by
 rw [us_ref hn,al_no hm h];rfl
theorem us_t (hn:∀e∈Jw q.pattern++q.returns,C0 e=0)(hk:(Jw q.pattern++q.returns).all (Kp T q.vars)=true){c:Bool}(h:(rZ T q&&(Jw q.pattern++q.returns).all (Nq T q.vars))=c):usR T q=(0,c):=by
 rw [us_ref hn,hk,h];rfl
theorem tn_no {a:Va}(hm:a∈q.vars)(h:(Il ((T[a.type.toNat]?).getD Yu).name != 0)=true):rZ T q=false:=by
 unfold rZ;rw [<-Qa,E3];intro hl;have h1:=hl a hm;unfold Q3 at h1;rw [K5] at h1;rw [bne,h1] at h;cases h
theorem tv_on {l:List Va}{k:Nat}{a:Va}(ha:l[k]? = some a)(h:(l.take k).all (fun v=>Q3 ((T[v.type.toNat]?).getD Yu).name)=true)(h2:(Il ((T[a.type.toNat]?).getD Yu).name != 0)=false):(l.take (k+1)).all (fun v=>Q3 ((T[v.type.toNat]?).getD Yu).name)=true:=by
 rw [Cf ha,List.all_append,h,Jr,List.all_nil];unfold Q3;rw [K5];simpa [bne] using h2
end
abbrev Gn (q:Syn×Int):AV:=AV.tuple [.agg (cSyn q.1),.int .i64 q.2]
theorem wU (T:List e8Sc)(hl:T.length<=1048576)(hsn:∀s∈T,Ly s)(q:Qy)(hq:medQ q)(hql:q.name.length<=1048576)(hvn:∀v∈q.vars,v.name.length<=1048576)(hmed:ShOK T q->It (qT T q)):Ak Tryz.prog 30 [.sl 2 (T.map Js),.agg (cQy q)] (.tuple [.agg (cSyn (G5 T q).1),.int .i64 (G5 T q).2]):=by
 have hrl:=hq.r;have hvl:=hq.v;have hll:(Jw q.pattern++q.returns).length=(Jw q.pattern).length+q.returns.length:=Ax;have hcl:=eE q.pattern;have hpn:=hq.p.n;refine Cw 178 Tryz.func30 rfl fun H=>?_
 refine Aa (Qp (Eh Hw) (Dx F1 fun b4=>Qp Ah (Aq (Ba (Qp Ez (Qp (Qc rfl (c59 T hl hsn)) (Qp Ah (B2 (Qp Ai (Qp Bq (Ap (fun hc1=>Aa (Qp (D0 Ag) (Qp Ai ?_))) fun hc1=>?_)))))))))))
 .
  refine Bw 0 Ag (_::_) (Qp Ah (Rc ?_));refine Yx [.agg Ag,Iq _] (Zc 0) S1 ?_;exact Ye Gn (sw_1 hc1)
 refine A5 (Ba (Qp (Qf Hw) (Qp Dk (Qp (Qc rfl (c21 q.name hql)) (Qp Bq (Ap (fun hc2=>Aa (Qp (D0 Ag) ?_)) fun hc2=>A5 (Ba (Qp (Qf giy) (Qp (B1 Cy) (Qp (Qc rfl (pL q.pattern hq.p)) (Qp Ah (B2 (Qp Ai (Qp Bq (Ap (fun hc3=>?_) fun hc3=>?_)))))))))))))))
 .
  refine Bw 0 Ag (_::_) (Qp Ah (Rc ?_));refine Yx [.agg Ag,Iq _] (Zc 0) S1 ?_;exact Ye Gn (mP hc1 (sn_1 (aA hc2)) (by decide))
 .
  have hc3n:(Gj q.pattern != 0)=true:=by rw [<-kX];exact hc3
  have hce:=kX q.pattern;refine Aa (Qp (D0 Ag) (Qp Ai ?_));refine Bw 0 Ag (_::_) (Qp Ah (Rc ?_));refine Yx [.agg Ag,Iq _] (Zc 0) S1 ?_;exact Ye Gn ((by rw [hce];exact mP hc1 (sn_2 (aA hc2) hc3n) hc3n:G5 T q=(Hb,kW q.pattern)))
 have hc3n:(Gj q.pattern != 0)=false:=by rw [<-kX];exact hc3
 refine A5 (Ba (Qp Ez (Qp (B1 Hw) (Qp (Qc rfl (pJ T hl q hq hvn hc3n)) (Qp Ah (B2 (Qp Ai (Qp Bq (Ap (fun hc4=>Aa (Qp (D0 Ag) (Qp Ai ?_))) fun hc4=>?_)))))))))
 .
  refine Bw 0 Ag (_::_) (Qp Ah (Rc ?_));refine Yx [.agg Ag,Iq _] (Zc 0) S1 ?_;exact Ye Gn (mP hc1 (sn_3 (aA hc2) hc3n hc4) hc4)
 have hrv:=rv_of (dT hc1) hc3n (by simpa using hc4);have hvp:0<q.vars.length:=by have:=ty_pos q.pattern (Lp hc3n);have:=hrv.2;omega
 refine A5 (Aa (Qp (D0 Ag) (Dx F1 fun b9=>?_)));refine Bw 0 Ag (_::_::_) (Aq ?_);refine AW.Aar (fun (kn:List UInt8)=>(⟨[(0,.sl 2 (T.map Js)),(3,.ptr (cQy q)),(4,.val (.pointer (some ⟨b4,0,none⟩))),(9,.ptr [.int .i64 4,.str kn,.str [],.int .i64 0,.sl 6 [],.int .i64 0])],.box b4 25 F1::H,178⟩:St)) (fun kn=>kn=(Tk T q).1/\(Tk T q).2=true) ?_ ?_
 .
  refine Aa (Qp (Qf ghy) (Qp Cg ?_));refine Qp (Da q.key.length rfl rfl (by simp)) ?_;refine Qp De (Ap (fun hc5=>?_) fun hc5=>?_)
  .
   have hne:((q.key.length:Int)==0)=false:=by have:=Do hc5;rw [F0];omega
   refine Aa (Qp Ez (Qp (B1 Hw) (Qp (Qc rfl (tO T (dT hc1) hsn q hrv.1 hvp hq.k hne)) (Qp Ml (Qp kT (Qp bG (Qp Dj (Qp Ao (Aq (Ba (Qp A8 (Qp E7 (Ap (fun hc6=>Aa (Qp (D0 Ag) ?_)) fun hc6=>A5 (AW.region (Qp D3 (Qp Co ?_))))))))))))))))
   .
    refine Bw 1 Ag (_::_::_) (Qp Ah (Rc (Au ?_)));refine Yx [.agg Ag,Iq _] (Zc 1) S2 ?_;exact Ye Gn (mP hc1 ((Y1 (aA hc2) hc3n hc4).trans (sn_4 hc6)) (by decide))
   refine Bw 0 Ag (_::_::_) (Aq ?_);refine ⟨(Tk T q).1,?_,GS.trans (GS.freeze (t:=9) 0 rfl rfl) Bx⟩;exact ⟨rfl,by simpa using hc6⟩
  have hze:((q.key.length:Int)==0)=true:=by have:=Di hc5;rw [beq_iff_eq];omega
  refine A5 ?_;refine ⟨[],?_,GS.trans (GS.freeze (t:=9) 0 rfl rfl) Bx⟩;exact ⟨by rw [ky_1 hze],by rw [ky_1 hze]⟩
 rintro kn hkk;obtain ⟨hkk1,hk2⟩:=hkk;subst hkk1;refine Ba (Qp (Qf [_]) (Qp Cg ?_));refine Qp (Da q.returns.length rfl rfl (by simp)) ?_;refine Qp Aj (Ap (fun hc7=>Aa (Qp (D0 Ag) ?_)) fun hc7=>A5 (Ba (Qp Ah (Aq (AW.block ?_)))))
 .
  refine Bw 0 Ag (_::_) (Qp Ah (Rc ?_));refine Yx [.agg Ag,Iq _] (Zc 0) S1 ?_;exact Ye Gn (mP hc1 ((Y1 (aA hc2) hc3n hc4).trans (sn_5 (by rw [hk2];rfl) hc7)) (by decide))
 refine AW.Aan (fun (k:Nat)=>(⟨[(0,.sl 2 (T.map Js)),(3,.ptr (cQy q)),(4,.val (.pointer (some ⟨b4,0,none⟩))),(9,.ptr [.int .i64 4,.str (Tk T q).1,.str [],.int .i64 0,.sl 6 [],.int .i64 0]),(12,.int .i64 (k:Int))],.box b4 25 F1::H,178⟩:St)) (fun k=>k<=q.returns.length/\(q.returns.take k).any (fun x=>C2 x != 0)=false) (fun k=>q.returns.length-k) (0) ?_ Bx ?_
 . exact ⟨A3 _,by simp⟩
 rintro k hR;refine Ba (Qp Ai (Qp (Qf [_]) (Qp Cg ?_)));refine Qp (Da q.returns.length rfl rfl (by simp)) ?_;refine Qp Bt (Ap (fun hc8=>?_) fun hc8=>?_)
 .
  obtain ⟨a,ha⟩:=B3 hc8;have hlt:=Bf ha;have hm:=An ha;refine A5 (AW.seq (AW.block (Aa (Qp (Qf [_]) (Qp Cg (Qp Ai ?_))))));refine Qp (Cp Hh rfl rfl (by omega) (bP ha)) ?_;refine Qp Kt (Qp (Qc rfl (e8c25 a (hq.e a hm))) (Qp Ah (B2 (Qp Ai (Qp Bq (Ap (fun hc9=>Aa (Qp (D0 Ag) (Qp Ai ?_))) fun hc9=>Rf (AW.region (Qp Ai (Qp Dt (Qp Ah (Aq ?_)))))))))))
  .
   refine Bw 0 Ag (_::_) (Qp Ah (Ra (Au (Cn (Au ?_)))));refine Yx [.agg Ag,Iq _] (Zc 0) S1 ?_;exact Ye Gn (mP hc1 (((Y1 (aA hc2) hc3n hc4).trans (iG (by rw [hk2];rfl) hc7)).trans (sn_6 (U2 ha hR.2 hc9) hc9)) hc9)
  refine ⟨k+1,?_,?_,Bx⟩
  . exact ⟨hlt,Hr hR.2 ha hc9⟩
  omega
 have hte:=B9 hc8;have hrt:=hR.2;rw [hte] at hrt;have hnds:∀e∈(Jw q.pattern++q.returns),C0 e=0:=fun e he=>(Hg.1 he).elim (cd_nodes hc3n e) (fun h=>nT (U1 (F9 hrt) e h))
 refine AW.exit ?_;refine Bn (Ri (Aa (Qp Ez (Qp (Qf rY) (Qp Cg (Qp (D0 [_,_]) ?_))))));refine Dx [.sl 2 [],.sl 2 []] fun b14=>?_
 refine Bw 0 [_,_] (_::_::_) ?_;refine Ji 14 0 rfl ?_;refine B2 (Qp (B1 Hw) (Qp (Qc rfl (n4_conds q hq)) (Qp Xk (Aq (Ba (Qp Ah (Aq (AW.block ?_))))))));refine AW.Aan (fun (k:Nat)=>(⟨[(0,.sl 2 (T.map Js)),(3,.ptr (cQy q)),(4,.val (.pointer (some ⟨b4,0,none⟩))),(9,.ptr [.int .i64 4,.str (Tk T q).1,.str [],.int .i64 0,.sl 6 [],.int .i64 0]),(14,.ptr (cNm T q.vars)),(15,.sl 8 ((Jw q.pattern++q.returns).map F5)),(16,.int .i64 (k:Int))],.box b4 25 F1::H,178⟩:St)) (fun k=>k<=(Jw q.pattern++q.returns).length/\((Jw q.pattern++q.returns).take k).all (Kp T q.vars)=true) (fun k=>(Jw q.pattern++q.returns).length-k) (0) ?_ Bx ?_
 . exact ⟨A3 _,by simp⟩
 rintro k hR;refine Ba (Qp Ai (Qp Ez ?_));refine Qp (Da ((Jw q.pattern++q.returns).length) rfl rfl (by simp)) ?_;refine Qp Bt (Ap (fun hc10=>?_) fun hc10=>?_)
 .
  obtain ⟨a,ha⟩:=B3 hc10;have hlt:=Bf ha;have hm:=An ha;have hsa:Bz a<=1048576:=(Hg.1 hm).elim (kZ hq.p a) (hq.e a);have hna:=hnds a hm;refine A5 (AW.seq (AW.block (AW.seq ?_)));refine Id ?_;refine Qn 0 rfl (B1 [_,_]) (Qn 1 rfl Ez (Qn 2 rfl Ai ?_));refine Qn 3 rfl (Cp Hh rfl rfl (by omega) (bP ha)) ?_;refine Qn 4 rfl Kt (Qn 5 rfl (Qc rfl (n4_known T q.vars hrv.1 a hsa hna)) (Qn 6 rfl E7 ?_));refine Fs ?_;refine A2 (E9 (fun hc11=>Aa (Qp (D0 Ag) ?_)) fun hc11=>Rf (AW.region (Qp Ai (Qp Dt (Qp Ah (Aq ?_))))))
  .
   refine Bw 0 Ag (_::_) (Qp Ah (Ra (Au (Cn (Au ?_)))));refine Yx [.agg Ag,Iq _] (Zc 0) S1 ?_;exact Ye Gn (mP hc1 ((((Y1 (aA hc2) hc3n hc4).trans (iG (by rw [hk2];rfl) hc7)).trans (rF (F9 hrt))).trans (sn_7 (us_6 hnds hm hc11) (by decide))) (by decide))
  refine ⟨k+1,?_,?_,Bx⟩
  . exact ⟨hlt,dS hR.2 ha hc11⟩
  omega
 have hte:=B9 hc10;have hkn:=hR.2;rw [hte] at hkn;refine AW.exit ?_;refine Bn (Ri (Ba (Qp Ah (Aq (AW.block ?_)))));refine AW.Aan (fun (k:Nat)=>(⟨[(0,.sl 2 (T.map Js)),(3,.ptr (cQy q)),(4,.val (.pointer (some ⟨b4,0,none⟩))),(9,.ptr [.int .i64 4,.str (Tk T q).1,.str [],.int .i64 0,.sl 6 [],.int .i64 0]),(14,.ptr (cNm T q.vars)),(15,.sl 8 ((Jw q.pattern++q.returns).map F5)),(17,.int .i64 (k:Int))],.box b4 25 F1::H,178⟩:St)) (fun k=>k<=q.vars.length/\(q.vars.take k).all (fun v=>Q3 ((T[v.type.toNat]?).getD Yu).name)=true) (fun k=>q.vars.length-k) (0) ?_ Bx ?_
 . exact ⟨A3 _,by simp⟩
 rintro k hR;refine Ba (Qp Ai (Qp (Qf rY) (Qp Cg ?_)));refine Qp (Da q.vars.length rfl rfl (by simp)) ?_;refine Qp Bt (Ap (fun hc12=>?_) fun hc12=>?_)
 .
  obtain ⟨a,ha⟩:=B3 hc12;have hlt:=Bf ha;have hm:=An ha;refine A5 (AW.seq (AW.block (Aa (Qp Ez (Qp (Qf rY) (Qp Cg (Qp Ai ?_)))))));refine Qp (Cp E4 rfl rfl (by omega) (Bp ha)) ?_;refine Qp (Qf [Iq _]) (Qp Be (Qp (Cp Jl rfl rfl ((hrv.1.ty a hm).1) (Bp (kJ (hrv.1.ty a hm)))) (Qp (Qf Jl) (Qp Dk (Qp (Qc rfl (c21 ((T[a.type.toNat]?).getD Yu).name (hsn _ (An (kJ (hrv.1.ty a hm)))).1)) (Qp Bq (Ap (fun hc13=>Aa (Qp (D0 Ag) ?_)) fun hc13=>Rf (AW.region (Qp Ai (Qp Dt (Qp Ah (Aq ?_))))))))))))
  .
   refine Bw 0 Ag (_::_) (Qp Ah (Ra (Au (Cn (Au ?_)))));refine Yx [.agg Ag,Iq _] (Zc 0) S1 ?_;exact Ye Gn (mP hc1 ((((Y1 (aA hc2) hc3n hc4).trans (iG (by rw [hk2];rfl) hc7)).trans (rF (F9 hrt))).trans (sn_8 (us_t hnds hkn (show (rZ T q&&_)=false by rw [tn_no hm hc13];rfl)) rfl)) (by decide))
  refine ⟨k+1,?_,?_,Bx⟩
  . exact ⟨hlt,tv_on ha hR.2 hc13⟩
  omega
 have hte:=B9 hc12;have htn:rZ T q=true:=by have h:=hR.2;rw [hte] at h;exact h
 refine AW.exit ?_;refine Bn (Ri (Ba (Qp Ah (Aq (AW.block ?_)))));refine AW.Aan (fun (k:Nat)=>(⟨[(0,.sl 2 (T.map Js)),(3,.ptr (cQy q)),(4,.val (.pointer (some ⟨b4,0,none⟩))),(9,.ptr [.int .i64 4,.str (Tk T q).1,.str [],.int .i64 0,.sl 6 [],.int .i64 0]),(14,.ptr (cNm T q.vars)),(15,.sl 8 ((Jw q.pattern++q.returns).map F5)),(18,.int .i64 (k:Int))],.box b4 25 F1::H,178⟩:St)) (fun k=>k<=(Jw q.pattern++q.returns).length/\((Jw q.pattern++q.returns).take k).all (Nq T q.vars)=true) (fun k=>(Jw q.pattern++q.returns).length-k) (0) ?_ Bx ?_
 . exact ⟨A3 _,by simp⟩
 rintro k hR;refine Ba (Qp Ai (Qp Ez ?_));refine Qp (Da ((Jw q.pattern++q.returns).length) rfl rfl (by simp)) ?_;refine Qp Bt (Ap (fun hc14=>?_) fun hc14=>?_)
 .
  obtain ⟨a,ha⟩:=B3 hc14;have hlt:=Bf ha;have hm:=An ha;have hsa:Bz a<=1048576:=(Hg.1 hm).elim (kZ hq.p a) (hq.e a);have hna:=hnds a hm;have hka:=E3.1 hkn a hm;refine A5 (AW.seq (AW.block (AW.seq ?_)));refine Id ?_;refine Qn 0 rfl (B1 [_,_]) (Qn 1 rfl Ez (Qn 2 rfl Ai ?_));refine Qn 3 rfl (Cp Hh rfl rfl (by omega) (bP ha)) ?_;refine Qn 4 rfl Kt (Qn 5 rfl (Qc rfl (n4_named T q.vars hrv.1 hsn a hsa hna hka)) (Qn 6 rfl E7 ?_));refine Fs ?_;refine A2 (E9 (fun hc15=>Aa (Qp (D0 Ag) ?_)) fun hc15=>Rf (AW.region (Qp Ai (Qp Dt (Qp Ah (Aq ?_))))))
  .
   refine Bw 0 Ag (_::_) (Qp Ah (Ra (Au (Cn (Au ?_)))));refine Yx [.agg Ag,Iq _] (Zc 0) S1 ?_;exact Ye Gn (mP hc1 ((((Y1 (aA hc2) hc3n hc4).trans (iG (by rw [hk2];rfl) hc7)).trans (rF (F9 hrt))).trans (sn_8 (us_t hnds hkn (show (rZ T q&&_)=false by rw [al_no hm hc15,Gx])) rfl)) (by decide))
  refine ⟨k+1,?_,?_,Bx⟩
  . exact ⟨hlt,dS hR.2 ha hc15⟩
  omega
 have hte:=B9 hc14;have hnm:=hR.2;rw [hte] at hnm;have hus:=us_t hnds hkn (show (rZ T q&&_)=true by rw [htn,hnm];rfl);have hsh:Ti T q=((Tk T q).1,0):=(((Y1 (aA hc2) hc3n hc4).trans (iG (by rw [hk2];rfl) hc7)).trans (rF (F9 hrt))).trans (sn_9 hus rfl);have hc2s:((Ti T q).2 != 0)=false:=by rw [hsh];rfl
 have hok:ShOK T q:=(sh_ok hc1 hc2s).1;have hsk:(Ti T q).1=(Tk T q).1:=by rw [hsh]
 refine AW.exit ?_;refine Bn (Ri ?_);refine AW.Aar (fun (w:Nat×Value)=>(⟨[(3,.ptr (cQy q)),(4,.val (.pointer (some ⟨b4,0,none⟩))),(14,.ptr (cNm T q.vars)),(19,.val (.pointer (some ⟨w.1,0,none⟩)))],.row w.2 2 25 6 :: .box w.1 25 [.int .i64 3,.str q.name,.str [],.int .i64 0,.row w.2 6 [[.int .i64 4,.str (Tk T q).1,.str [],.int .i64 0,.sl 6 [],.int .i64 0],cSyn (Kr T q.vars q.pattern)],.int .i64 0] :: .box b4 25 F1::H,178⟩:St)) (fun w=>True) ?_ ?_
 .
  refine Id ?_;refine Qn 0 rfl (Qf Hw) (Qn 1 rfl Dk (Qn 2 rfl (B1 Ag) (Qn 3 rfl (B1 [_,_]) (Qn 4 rfl (Qf giy) (Qn 5 rfl (B1 Cy) (Qn 6 rfl (Qc rfl (n4_tree T q.vars hrv.1 q.pattern (hok.shn hq) hq.p.n)) ?_))))));refine Gi.two _ _ 7 9 _ _ _ _ rfl rfl (by kernel_rfl) rfl rfl rfl rfl (D7 (es:=[Ag,Ag]) tok rfl rfl rfl rfl rfl rfl rfl rfl rfl) (Gp (l:=F1) (by kernel_rfl)) (by rintro _ _ ⟨v147,rfl,rfl⟩;trivial) (by rintro _ _ ⟨b19,rfl,rfl⟩;trivial) ?_ ?_
  .
   rintro _ _ ⟨v147,rfl,rfl⟩;refine Qn 8 rfl (D0 Ag) ?_;refine hJ 9 rfl (Gp (l:=F1) (by kernel_rfl)) ?_;rintro _ _ ⟨b19,rfl,rfl⟩;refine Ma 10 rfl (Hx 0 (.agg _) Ag (_::_::_::_) rfl) ?_;refine Fs ?_;refine A2 ?_;refine ⟨(b19,v147),?_,GS.trans (GS.perm (List.Perm.swap _ _ _)) Bx⟩
   trivial
  rintro _ _ ⟨b19,rfl,rfl⟩;refine hJ 7 rfl (D7 (es:=[Ag,Ag]) tok rfl rfl rfl rfl rfl rfl rfl rfl rfl) ?_;rintro _ _ ⟨v147,rfl,rfl⟩;refine Qn 8 rfl (D0 Ag) ?_;refine Ma 10 rfl (Hx 1 (.agg _) Ag (_::_::_::_) rfl) ?_;refine Fs ?_;refine A2 ?_;refine ⟨(b19,v147),?_,GS.trans (GS.perm (List.Perm.refl _)) Bx⟩
  trivial
 rintro ⟨b19,v⟩ _;refine Ba (Qp Ah (Aq (AW.block ?_)));refine AW.Aan (fun (z:Nat×List (List AV)×Value)=>(⟨[(3,.ptr (cQy q)),(4,.val (.pointer (some ⟨b4,0,none⟩))),(14,.ptr (cNm T q.vars)),(19,.val (.pointer (some ⟨b19,0,none⟩))),(20,.int .i64 (z.1:Int))],.row z.2.2 z.2.1.length 25 6 :: .box b19 25 [.int .i64 3,.str q.name,.str [],.int .i64 0,.row z.2.2 6 z.2.1,.int .i64 0] :: .box b4 25 F1::H,178⟩:St)) (fun z=>z.1<=q.returns.length/\z.2.1=Ta T q z.1) (fun z=>q.returns.length-z.1) ((0,[[.int .i64 4,.str (Tk T q).1,.str [],.int .i64 0,.sl 6 [],.int .i64 0],cSyn (Kr T q.vars q.pattern)],v)) ?_ Bx ?_
 . exact ⟨A3 _,by simp only;rw [<-hsk];exact qk_0⟩
 rintro z hR;refine Ba (Qp Ai (Qp (Qf [_]) (Qp Cg ?_)));refine Qp (Da q.returns.length rfl rfl (by simp)) ?_;refine Qp Bt (Ap (fun hc16=>?_) fun hc16=>?_)
 .
  obtain ⟨a,ha⟩:=B3 hc16;have hlt:=Bf ha;have hm:=An ha;have hsc:∀c∈z.2.1,A7 c=true:=by rw [hR.2];exact qk_sc _
  have hzl:z.2.1.length=z.1+2:=by rw [hR.2];exact qk_len hR.1
  refine A5 (AW.seq (AW.block (N3 1 rfl (Qn 0 rfl Co (Qn 1 rfl (Kn (.row _ _ _) rfl) (Qn 2 rfl (B1 [_,_]) (Qn 3 rfl (Qf [_]) (Qn 4 rfl Cg (Qn 5 rfl Ai ?_)))))))));refine Qn 6 rfl (Cp Hh rfl rfl (by omega) (bP ha)) ?_;refine Qn 7 rfl Kt (Qn 8 rfl (Qc rfl (lS T q.vars hrv.1 a (hq.e a hm) (hok.conds a (Uk _ hm)).n (hok.conds a (Uk _ hm)).k)) (Qn 9 rfl (G0 [Ag] rfl) ?_));refine Ur 10 rfl (Pk 0 rfl (Dl rfl) (hsc) (by simp;omega) (by simp [maxLen];omega)) (by rintro _ _ ⟨v166,rfl,rfl⟩;simp) ?_;rintro _ _ ⟨v166,rfl,rfl⟩;refine Qn 11 rfl Co ?_;refine bH 12 rfl (Hx 1 (.row _ _ _) Ag (_::_::_::_) rfl) ?_;rintro _ _ ⟨rfl,rfl⟩;refine Gv (A2 (AW.region (Qp Ai (Qp Dt (Qp Ah (Aq ?_))))));refine ⟨(z.1+1,z.2.1 ++ [cSyn (Io T q.vars a)],v166),?_,?_,Bx⟩
  . exact ⟨hlt,(congrArg (· ++ [cSyn (Io T q.vars a)]) hR.2).trans (qk_on ha)⟩
  simp only;omega
 obtain ⟨z1,z2,z3⟩:=z;have hz1:z1=q.returns.length:=by have:=Di hc16;have:=hR.1;simp only at this;omega
 have hz2:z2=((⟨4,(Ti T q).1,[],0,[],0⟩:Syn)::Kr T q.vars q.pattern::q.returns.map (Io T q.vars)).map C3:=by have h:=hR.2;simp only [hz1,Ta,Ld] at h;exact h
 subst hz2;refine AW.exit ?_;refine Bn (Ri (Ba ?_));refine AOL.ghost (GS.cell (H2:=_::_::_::_) 1 4 rfl rfl rfl rfl Dv) ?_;refine Nu 1 Ag rfl (Qp (Qc rfl (r_Query (qT T q) (hmed hok))) (Qp Ml (Qp kT (Qp Km (Qp Dj (Qp Ah (B2 (Qp Ai (Qp Bq (Ap (fun hc17=>Aa (Qp (D0 Ag) (Qp Ai ?_))) fun hc17=>A5 (Aa (Nu 1 Ag rfl ?_))))))))))))
 .
  refine Bw 2 Ag (_::_::_::_) (Qp Ah (Rc ?_));refine Yx [.agg Ag,Iq _] (Zc 2) S3 ?_;exact Ye Gn (sw_3 hc1 hc2s hc17)
 refine Bw 2 Ag (_::_::_::_) (Qp Ah (Rb ?_));refine Yx [.agg Ag,Iq _] (Zc 2) S3 ?_;exact Ye Gn (sw_4 hc1 hc2s hc17)
theorem Wp {s:Av}(h:Q3 s=true):s.length<=24:=(name_is h).2.1
theorem vtext_len {v:Vl}(h:C4 v=0):v.text.length<=64:=by
 have key:∀w:Vl,P4 w=0->w.text.length<=64:=fun w hw=>by
  unfold P4 at hw;split at hw
  . cases hw
  split at hw
  . cases hw
  split at hw
  . cases hw
  rename_i h1;simp only [Dp] at h1;omega
 unfold C4 at h;split at h
 .
  split at h
  . cases h
  exact key v h
 split at h
 .
  split at h
  . cases h
  exact key v h
 cases h
theorem wcon (v:Vl)(h:C4 v=0):wC (Ro v)<=71:=by
 have h1:=vtext_len h
 have h2:(knm v.kind).length<=6:=by
  unfold knm;split
  . decide
  split <;> decide
 rw [Mz];show 1+v.text.length+(knm v.kind).length+wL []<=71;rw [wL];omega
theorem mU {α:Type}(f:α->Syn)(g:α->Nat)(c:Nat):∀l:List α,(∀a∈l,wC (f a)<=c*g a)->wL (l.map f)<=c*(l.map g).sum
  | [],_=>by rw [Ca,wL];exact A3 _
  | a::r,h=>by
    have h1:=h a (by simp);have h2:=mU f g c r fun b hb=>h b (by simp [hb])
    rw [Bj,wL,Bj,Ed,Nat.mul_add];omega
theorem wL_app (a b:List Syn):wL (a++b)=wL a+wL b:=by
 induction a with
 | nil=>rw [Fp,wL,Dz]
 | cons x r ih=>rw [E2,wL,wL,ih,Nat.add_assoc]
section
variable {T:List e8Sc} {V:List Va}
theorem wE (hV:∀v,(Y8 V v).length<=24):∀e:Ex,C0 e=0->Nq T V e=true->wC (Io T V e)<=120*Bz e:=by
  intro e
  induction e using Ex.ind with
  | h e ih=>
    intro hn hm;rw [Yf,Cz] at hm;have hna:=(D1 hn).2;have hf:=(jX (D1 hn).1).2.1;have hk:=mU (Io T V) Bz 120 e.args fun a ha=>ih a ha (hna a ha) (E3.1 hm.2 a ha)
    have hvn:=hV e.var
    have hfl:((e.op==1)||(e.op==4))=true->(iB T V e.var e.field).length<=24:=fun h=>by
      have h1:=hm.1;unfold Qz at h1;rw [if_pos h] at h1;exact Wp h1
    rw [L0,Gb,Nat.mul_add];unfold shN;split
    . rename_i h0
      have:=wcon e.val (hf (.inl (by simpa using h0)));omega
    . split
      . rename_i h0 h1
        have h2:=hfl (by rw [h1];rfl);rw [Mz];show 1+(Y8 V e.var).length+(iB T V e.var e.field).length+wL []<=_;rw [wL];omega
      . split
        . rw [Mz]
          show 1+(Y8 V e.var).length+4+wL []<=_;rw [wL];omega
        . split
          . rw [Mz]
            show 1+(Y8 V e.var).length+0+wL []<=_;rw [wL];omega
          . split
            . rename_i h4
              have h2:=hfl (by rw [h4];exact Hu _);have h3:=wcon e.val (hf (.inr (by simpa using h4)));rw [Mz];show 1+(Y8 V e.var).length+(iB T V e.var e.field).length+wL (if (e.kind != 1) then [Ro e.val] else [])<=_;split
              . rw [wL,wL];omega
              rw [wL];omega
            . split
              . rw [Mz]
                show 1+0+0+wL (e.args.map (Io T V))<=_;omega
              . rw [Mz]
                show 1+0+0+wL (e.args.map (Io T V))<=_;omega
theorem wEv (hV:∀v,(Y8 V v).length<=24){p:Pt}(ht:((T[p.type.toNat]?).getD Yu).name.length<=24)(hn:C0 p.cond=0)(hm:Nq T V p.cond=true)(hs:Bz p.cond<=64):wC (jG T V p)<=7729:=by
 have h1:=wE hV p.cond hn hm;have h2:=hV p.var;unfold jG;rw [Mz];show 1+((T[p.type.toNat]?).getD Yu).name.length+(Y8 V p.var).length+wL (if (!(F4 p.cond Lb)) then [Io T V p.cond] else [])<=_;split
 . rw [wL,wL];omega
 rw [wL];omega
theorem wP (hV:∀v,(Y8 V v).length<=24):∀p:Pt,(∀x∈Dd p,(Jo x=true->((T[x.type.toNat]?).getD Yu).name.length<=24)/\(Ko x=true->C0 x.cond=0/\Nq T V x.cond=true/\Bz x.cond<=64))->wC (Kr T V p)<=7730*Gy p:=by
  intro p
  induction p using Pt.ind with
  | h p ih=>
    intro hp;have hme:=hp p (Yg p);have hk:=mU (Kr T V) Gy 7730 p.args fun a ha=>ih a ha fun x hx=>hp x (lV ha hx)
    have ev:Jo p=true->wC (jG T V p)<=7729:=fun ht=>by
      have hc:=hme.2 (by unfold Ko;unfold Jo at ht;rw [ht];rfl);exact wEv hV (hme.1 ht) hc.1 hc.2.1 hc.2.2
    rw [uQ,J5,Nat.mul_add];unfold shPN;split
    . rename_i h0
      have:=ev (by unfold Jo;rw [h0];rfl);omega
    . rw [Mz]
      show 1+0+0+wL (p.args.map (Kr T V)++(if (p.op==5) then [jG T V p] else if (p.op==7) then [Io T V p.cond] else []))<=_;rw [wL_app];split
      . rename_i h5
        have:=ev (by unfold Jo;rw [h5];exact Hu _);rw [wL,wL];omega
      . split
        . rename_i h7
          have hc:=hme.2 (by unfold Ko;rw [h7];exact Hu _);have:=wE hV p.cond hc.1 hc.2.1;rw [wL,wL];omega
        rw [wL];omega
end
theorem sh_w {T:List e8Sc}{q:Qy}(h:ShOK T q)(hss:(Ti T q).1=(Tk T q).1)(hr:q.returns.length<=20):wC (qT T q)<=1000000:=by
  have hV:∀v,(Y8 q.vars v).length<=24:=fun v=>by
    unfold Y8;cases hv:q.vars[v.toNat]? with
    | none=>exact A3 _
    | some a=>
      obtain ⟨k,hk⟩:=J9.1 (An hv);exact Wp (h.va.2 k a hk).1
  have hsz:=(rst_0 (whl_0 (chk_0 h.p))).1
  have hp:=wP (T:=T) hV q.pattern fun x hx=>by
    have hx2:=h.pt x hx;refine ⟨fun ht=>?_,fun hc=>?_⟩
    . obtain ⟨i,hi⟩:=J9.1 (show (x.var,x.type)∈Jn q.pattern from Db.2 ⟨x,Ig.2 ⟨hx,ht⟩,rfl⟩)
      have hl:i<q.vars.length:=by rw [<-h.vl.1];exact (List.getElem?_eq_some_iff.1 hi).1
      obtain ⟨v,hv⟩:∃v,q.vars[i]? = some v:=⟨_,List.getElem?_eq_getElem hl⟩;obtain ⟨_,_,_,y,hy,_,h4⟩:=h.va.2 i v hv;rw [hi] at hy;have h5:=Option.some.inj hy;have h6:x.type=v.type:=by rw [<-h4,<-h5]
      have h7:=h.tn;unfold rZ at h7;have h8:=E3.1 h7 v (An hv);rw [h6];exact Wp h8
    . have hc2:=hx2.c hc
      have hk:=hx2.n.parts.2.2.1 (by rw [<-hx2.n.flags.2];exact hc);exact ⟨hc2.n,hc2.m,(Mo hk).1⟩
  have hret:=mU (Io T q.vars) (fun _=>64) 120 q.returns fun e he=>by
    have hc:=h.conds e (Uk _ he);have h1:=wE hV e hc.n hc.m;have h2:=(Mo (h.e e he)).1;omega
  have hsum:∀l:List Ex,(l.map (fun _=>64)).sum=64*l.length:=fun l=>by
    induction l with
    | nil=>rfl
    | cons a r ih=>rw [Bj,Ed,ih,A1];omega
  rw [hsum] at hret;have hq:q.name.length<=24:=Wp h.n
  have hky:(Tk T q).1.length<=24:=by
    have hk:=h.k;unfold Tk at hk ⊢;split
    . exact A3 _
    . split
      . exact A3 _
      . split
        . exact A3 _
        . rename_i h1 h2 h3
          rw [if_neg h1,if_neg h2,if_neg h3] at hk;unfold kyO at hk;rw [Cz] at hk;exact Wp hk.2
  have hsk:(Ti T q).1.length<=24:=by rw [hss];exact hky
  unfold qT;rw [Mz];show 1+q.name.length+0+wL ((⟨4,(Ti T q).1,[],0,[],0⟩:Syn)::Kr T q.vars q.pattern::q.returns.map (Io T q.vars))<=1000000;rw [wL,wL,Mz ⟨4,(Ti T q).1,[],0,[],0⟩];show 1+q.name.length+0+(1+(Ti T q).1.length+0+wL []+(wC (Kr T q.vars q.pattern)+_))<=_;rw [wL];have h9:7730*Gy q.pattern<=7730*64:=Nat.mul_le_mul_left _ hsz;have h10:120*(64*q.returns.length)<=120*(64*20):=by omega
  omega
theorem sh_med {T:List e8Sc}{q:Qy}(h:ShOK T q)(hss:(Ti T q).1=(Tk T q).1)(hr:q.returns.length<=20):It (qT T q):=tM (sh_w h hss hr)
theorem ydig1 {n:Int}(h:0<=n)(k:n<10):Lib.itoa n = [UInt8.ofNat (48+n.toNat)]:=by
 rw [show Lib.itoa n=Lib.decDigits n.toNat from if_neg (by omega),Lib.decDigits,dif_pos (by omega)]
theorem dK:Lib.itoa 1 = [49]:=ydig1 (by decide) (by decide)
def exT:List e8Sc:=[⟨[65],[⟨[120],0⟩]⟩]
def ye (v:Int):Ex:=⟨1,[],v,0,0,⟨0,0,[]⟩⟩
def y1:Syn:=⟨3,[113],[],0,[⟨4,[],[],0,[],0⟩,⟨6,[],[],0,[⟨5,[65],[97],0,[],18⟩,⟨5,[65],[98],0,[⟨17,[],[],7,[⟨14,[97],[120],0,[],36⟩,⟨14,[98],[120],0,[],30⟩],30⟩],23⟩],14⟩,⟨14,[97],[120],0,[],48⟩],0⟩
def z1:Qy:=⟨[113],[⟨[97],0⟩,⟨[98],0⟩],[],⟨1,[⟨0,[],0,0,0,0,Lb⟩,⟨0,[],0,1,0,0,⟨7,[ye 0,ye 1],0,0,0,v0⟩⟩],0,0,0,0,Zs⟩,[ye 0]⟩
def y2:Syn:=⟨3,[113],[],0,[⟨4,[],[],0,[],0⟩,⟨10,[],[],0,[⟨5,[65],[97],0,[],20⟩,⟨5,[65],[110],0,[],25⟩],14⟩,⟨13,[],Gd,1,[],37⟩],0⟩
def z2:Qy:=⟨[113],[⟨[110],0⟩,⟨[97],0⟩],[],⟨5,[⟨0,[],0,1,0,0,Lb⟩],0,0,0,0,Lb⟩,[⟨0,[],0,0,0,⟨0,1,[]⟩⟩]⟩
def y3:Syn:=⟨3,[113],[],0,[⟨4,[],[],0,[],0⟩,⟨6,[],[],0,[⟨5,[65],[97],0,[],18⟩,⟨5,[65],[97],0,[],23⟩],14⟩,⟨13,[],Gd,1,[],35⟩],0⟩
def y4:Syn:=⟨3,[113],[],0,[⟨4,[121],[],0,[],11⟩,⟨5,[65],[97],0,[],19⟩,⟨13,[],Gd,1,[],30⟩],0⟩
theorem y1_read:Fg (I0 EE TT) [113,117,101,114,121,32,113,32,109,97,116,99,104,32,115,101,113,40,65,32,97,44,32,65,32,98,32,105,102,32,98,46,120,32,62,32,97,46,120,41,32,114,101,116,117,114,110,32,97,46,120,59]=(y1,0,0):=by kernel_rfl
theorem y2_read:Fg (I0 EE TT) [113,117,101,114,121,32,113,32,109,97,116,99,104,32,108,97,99,107,115,40,65,32,97,44,32,65,32,110,41,32,114,101,116,117,114,110,32,49,59]=(y2,0,0):=by kernel_rfl
theorem y3_read:Fg (I0 EE TT) [113,117,101,114,121,32,113,32,109,97,116,99,104,32,115,101,113,40,65,32,97,44,32,65,32,97,41,32,114,101,116,117,114,110,32,49,59]=(y3,0,0):=by kernel_rfl
theorem y4_read:Fg (I0 EE TT) [113,117,101,114,121,32,113,32,98,121,32,121,32,109,97,116,99,104,32,65,32,97,32,114,101,116,117,114,110,32,49,59]=(y4,0,0):=by kernel_rfl
theorem yJ:Vp y1/\Vp y2/\Vp y3/\Vp y4:=⟨Ct (by kernel_rfl),Ct (by kernel_rfl),Ct (by kernel_rfl),Ct (by kernel_rfl)⟩
theorem y_wr {t:Syn}{p:Pl}{w:Av}(h1:Cb t p=0)(h2:decide (64<(Hp t:Int))=false)(h3:Ae t=w)(h4:decide (65536<(w.length:Int))=false):((B0 t p).2 != 0)=false:=by
 subst h3
 have:B0 t p=(Ae t,0):=by
  unfold B0;rw [h1];exact (Bl (by decide)).trans ((Bl h2).trans (Bl h4))
 rw [this];rfl
theorem y1_w:((B0 y1 (.only 3)).2 != 0)=false:=y_wr (by kernel_rfl) (by kernel_rfl) (show Ae y1 = [113,117,101,114,121,32,113,10,109,97,116,99,104,32,115,101,113,40,65,32,97,44,32,65,32,98,32,105,102,32,97,46,120,32,60,32,98,46,120,41,10,114,101,116,117,114,110,32,97,46,120,59,10] by simp [y1,Ae,Sp,D9,O0,Fw,Gq,Cd,H0,K4,Mn,C6,dK]) (by kernel_rfl)
theorem y2_w:((B0 y2 (.only 3)).2 != 0)=false:=y_wr (by kernel_rfl) (by kernel_rfl) (show Ae y2 = [113,117,101,114,121,32,113,10,109,97,116,99,104,32,108,97,99,107,115,40,65,32,97,44,32,65,32,110,41,10,114,101,116,117,114,110,32,49,59,10] by simp [y2,Ae,Sp,D9,O0,Fw,Gq,Cd,H0,K4,Mn,C6,dK]) (by kernel_rfl)
theorem y3_w:((B0 y3 (.only 3)).2 != 0)=false:=y_wr (by kernel_rfl) (by kernel_rfl) (show Ae y3 = [113,117,101,114,121,32,113,10,109,97,116,99,104,32,115,101,113,40,65,32,97,44,32,65,32,97,41,10,114,101,116,117,114,110,32,49,59,10] by simp [y3,Ae,Sp,D9,O0,Fw,Gq,Cd,H0,K4,Mn,C6,dK]) (by kernel_rfl)
theorem y4_w:((B0 y4 (.only 3)).2 != 0)=false:=y_wr (by kernel_rfl) (by kernel_rfl) (show Ae y4 = [113,117,101,114,121,32,113,32,98,121,32,121,10,109,97,116,99,104,32,65,32,97,10,114,101,116,117,114,110,32,49,59,10] by simp [y4,Ae,Sp,D9,O0,Fw,Gq,Cd,H0,K4,Mn,C6,dK]) (by kernel_rfl)
theorem lE:(C7 exT != 0)=false:=by kernel_rfl
theorem y1_q:cL exT y1=(z1,0,0):=(qp_3 _ _ lE y1_w).trans (by kernel_rfl)
theorem y2_q:cL exT y2=(z2,0,0):=(qp_3 _ _ lE y2_w).trans (by kernel_rfl)
theorem y3_q:cL exT y3=(qJ,23,7):=(qp_3 _ _ lE y3_w).trans (by kernel_rfl)
theorem y4_q:cL exT y4=(qJ,11,16):=(qp_3 _ _ lE y4_w).trans (by kernel_rfl)
theorem exT_sc:∀s∈exT,Ly s:=fun s h=>by
 rw [Hv.1 h];exact ⟨by decide,by decide,fun f hf=>by rw [Hv.1 hf];decide⟩
theorem c_qq (t:Syn)(ht:Vp t){r:Qy×Int×Int}(h:cL exT t=r):Ak Tryz.prog 14 [.sl 2 (exT.map Js),.agg (cSyn t)] (.tuple [.agg (cQy r.1),.int .i64 r.2.1,.int .i64 r.2.2]):=by
 subst h;exact rf_Query exT (by decide) exT_sc t ht
theorem c_pq (s:Av)(hs:s.length<=100000){t:Syn}(h:Fg (I0 EE TT) s=(t,0,0)):Ak Tryz.prog 40 [.str s] (.tuple [.agg (cSyn t),.int .i64 0,.int .i64 0]):=by
 have h2:=pp_Query s hs;rw [h] at h2;exact h2
theorem l_one  : Ak Tryz.prog 41 [] (.sl 2 (exT.map Js)):=by
 refine Cw 5 Tryz.func41 rfl fun H=>?_
 refine Aa (Qp (Cm (z:=2) rfl) (B2 (Qp (D0 E4) (Qp (G0 [E4] rfl) (Qp (D0 Jl) (Qp (G0 [Jl] rfl) (Qp Xk (Rb (Qr (.sl _ _) ?_)))))))));rfl
theorem wO (s:Av)(k e:Int)(t:Syn)(hs:s.length<=100000)(hp:Fg (I0 EE TT) s=(t,0,0))(ht:Vp t)(hq:cL exT t=(qJ,k,e)):Ak Tryz.prog 43 [.str s,.int .i64 k,.int .i64 e] (.bool true):=by
 refine Cw 38 Tryz.func43 rfl fun H=>?_
 refine Aa (Qp Ao (B2 (Qp D3 (Qp (Qc rfl (c_pq s hs hp)) (Qp Ml (Qp (Cq (v:=.agg Ag) rfl rfl) (Qp Km (Qp Km (Dx F1 fun b7=>?_)))))))));refine Bw 0 Ag (_::_) (Qp Ah (Qp Ah ?_));refine Ji 7 0 rfl ?_;refine Re ?_;refine Id ?_;refine Qn 0 rfl (Qc rfl (l_one)) (Qn 1 rfl (B1 Ag) (Qn 2 rfl (Qc rfl (c_qq t ht hq)) (Qn 3 rfl Ml (Qn 4 rfl (Cq (v:=.agg Hw) rfl rfl) (Qn 5 rfl Km (Qn 6 rfl Km ?_))))));refine hJ 7 rfl (Gp (l:=gkx) (by kernel_rfl)) ?_;rintro _ _ ⟨b10,rfl,rfl⟩;refine Ma 8 rfl (Hx 0 (.agg _) Hw (_::_) rfl) ?_;refine Qn 9 rfl Ah (Qn 10 rfl Ah ?_);refine Fs ?_;refine A2 ?_;refine AW.ghost (GS.freeze (t:=10) 0 rfl rfl) ?_;refine Aa (Qp Ai (Qp Aj (Qp A8 (Qg [] Qw Ai (Qg [] Qw Ai (Qg [(29,_),(30,_)] Yw Aj (Qp Ej (Qp A8 (Qg [] Qw Ai (Qg [] Qw Ai (Qg [(34,_),(35,_)] Yw Aj (Qp Ej (Qp Ao (Rb (Qr (.bool _) ?_)))))))))))))));show AV.bool (((0:Int)==0&&(e==e))&&(k==k))=AV.bool true;have h9:(e==e)=true:=by simp
 have h8:(k==k)=true:=by simp
 rw [h9,h8];rfl
theorem dC  : Ak Tryz.prog 13 [] (.bool true):=by
 refine Cw 133 Tryz.func13 rfl fun H=>?_
 refine Aa (Qp Ao (B2 ?_));refine Qp (Qc rfl (c_pq [113,117,101,114,121,32,113,32,109,97,116,99,104,32,115,101,113,40,65,32,97,44,32,65,32,98,32,105,102,32,98,46,120,32,62,32,97,46,120,41,32,114,101,116,117,114,110,32,97,46,120,59] (by decide) y1_read)) ?_;refine Qp Ml (Qp (Cq (v:=.agg Ag) rfl rfl) (Qp Km (Qp Km (Dx F1 fun b1=>?_))));refine Bw 0 Ag (_::_) (Qp Ah (Qp Ah (Re (N3 0 rfl (Qn 0 rfl (Qc rfl (l_one)) (Qn 1 rfl (Dc.mem (fun k=>G3 (k:=k) (l:=Ag) tok rfl rfl rfl rfl rfl) (fun _ h=>h)) ?_))))));refine Qn 2 rfl (Qc rfl (c_qq y1 yJ.1 y1_q)) (Qn 3 rfl Ml (Qn 4 rfl (Cq (v:=.agg Hw) rfl rfl) (Qn 5 rfl Km (Qn 6 rfl Km ?_))));refine Ur 7 rfl (Gp (l:=gkx) (by kernel_rfl)) (by rintro _ _ ⟨b4,rfl,rfl⟩;simp) ?_;rintro _ _ ⟨b4,rfl,rfl⟩;refine Ur 8 rfl (Hx 0 (.agg _) Hw (_::_::_) rfl) (by rintro _ _ ⟨rfl,rfl⟩;simp) ?_;rintro _ _ ⟨rfl,rfl⟩;refine Qn 9 rfl Ah (Qn 10 rfl Ah ?_);refine Fs ?_;refine A2 (Ba (Qp Ai (Qp Bq (Qp A8 (Qg [] Qw Ai (Qg [(23,_)] Qw Bq (Qp Cr (Qp A8 (Qg [] Qw Co (AOL.gk (y:=.sl _ _) _ [(27,_)] rfl (dN.all ⟨vC.self _ _,trivial⟩) (fun hG=>Cl (k:=0) (c:=.sl _ _) tok rfl rfl rfl rfl) rfl rfl ?_))))))))));refine Qg [(28,_)] Qw (Da 2 rfl rfl (rfl)) (Qg [(29,_)] Qw Bq (Qp Cr (Qp A8 (Qg [] Qw Co (AOL.gk (y:=.sl _ _) _ [(33,_)] rfl (dN.all ⟨vC.self _ _,trivial⟩) (fun hG=>Cl (k:=0) (c:=.sl _ _) tok rfl rfl rfl rfl) rfl rfl ?_)))));refine Yh [(34,_)] Qw (fun hG=>Cp E4 rfl rfl (by decide) (rfl)) ?_;refine Qg [(35,_)] Qw (B1 E4) (Qg [] Qw (D0 E4) (Qg [(36,_),(37,_)] Yw (H8 tok rfl rfl rfl rfl rfl) (Qp Cr (Qp A8 (Qg [] Qw Co (Qg [(41,_)] Qw Co (AOL.gk (y:=.sl _ _) _ [(42,_)] rfl (dN.all ⟨vC.self _ _,trivial⟩) (fun hG=>Cl (k:=0) (c:=.sl _ _) tok rfl rfl rfl rfl) rfl rfl ?_)))))));refine Qg [(43,_)] Qw (Da 2 rfl rfl (rfl)) (Qg [(44,_)] Qw Bq (Qp Cr (Qp A8 (Qg [] Qw Co (AOL.gk (y:=.sl _ _) _ [(48,_)] rfl (dN.all ⟨vC.self _ _,trivial⟩) (fun hG=>Cl (k:=0) (c:=.sl _ _) tok rfl rfl rfl rfl) rfl rfl ?_)))));refine Qg [(49,_)] Qw (Da 1 rfl rfl (rfl)) (Qg [(50,_)] Qw Bq (Qp Cr (Ap (fun hc1=>?_) fun hc1=>A5 (Aa (Qp (D0 Hh) (Qp (D0 Hh) (Qp (G0 [Hh,Hh] rfl) (Qp (D0 Hh) (Dx yY fun b7=>?_)))))))))
 . cases hc1
 refine Bw 0 Hh (_::_::_::_) ?_;refine Ji 7 0 rfl ?_;refine Re (AW.seq (N3 0 rfl (Qn 0 rfl Co (Qn 1 rfl Co (Qn 2 rfl (Kn (.sl _ _) rfl) ?_)))));refine Qn 3 rfl (Cp Cy rfl rfl (by decide) (rfl)) ?_;refine Qn 4 rfl Pj (Qn 5 rfl Kt (Qn 6 rfl Kt ?_));refine Qn 7 rfl (Qc rfl (nY ⟨7,[ye 0,ye 1],0,0,0,v0⟩ ⟨7,[ye 0,ye 1],0,0,0,v0⟩ (by decide))) ?_;refine Qn 8 rfl E7 (Qn 9 rfl A8 (Qo 10 rfl [] Qw Co (Qo 11 rfl [(67,_)] Qw (Kn (.sl _ _) rfl) ?_)));refine Yo 12 rfl [(68,_)] Qw (fun hG=>Cp Hh rfl rfl (by decide) (rfl)) ?_;refine Qo 13 rfl [(69,_)] Qw Kt (Qo 14 rfl [] Qw (D0 Hh) ?_);refine Yo 15 rfl [(70,_),(71,_)] Yw (fun hG=>Qc rfl (nY (ye 0) (ye 0) (by decide))) ?_;refine Qo 16 rfl [(72,_)] Qw E7 (Qn 17 rfl Cr ?_);refine Fs ?_;refine A2 (E9 (fun hc2=>?_) fun hc2=>A5 (Aa ?_))
 . rw [gH,gH] at hc2;cases hc2
 refine Qp (Qc rfl (c_pq [113,117,101,114,121,32,113,32,109,97,116,99,104,32,108,97,99,107,115,40,65,32,97,44,32,65,32,110,41,32,114,101,116,117,114,110,32,49,59] (by decide) y2_read)) ?_;refine Qp Ml (Qp (Cq (v:=.agg Ag) rfl rfl) (Qp Km (Qp Km ?_)));refine Bw 1 Ag (_::_::_) (Qp Ah (Re (N3 1 rfl (Qn 0 rfl (Qc rfl (l_one)) (Qn 1 rfl (Dc.mem (fun k=>G3 (k:=k) (l:=Ag) tok rfl rfl rfl rfl rfl) (fun _ h=>h)) ?_)))));refine Qn 2 rfl (Qc rfl (c_qq y2 yJ.2.1 y2_q)) (Qn 3 rfl Ml (Qn 4 rfl (Cq (v:=.agg Hw) rfl rfl) (Qn 5 rfl Km (Qn 6 rfl Km ?_))));refine Ur 7 rfl (Hx 0 (.agg _) Hw (_::_::_) rfl) (by rintro _ _ ⟨rfl,rfl⟩;simp) ?_;rintro _ _ ⟨rfl,rfl⟩;refine Qn 8 rfl Ah ?_;refine Fs ?_;refine A2 (Ba (Qp Ai (Qp Bq (Qp A8 (Qg [] Qw Ai (Qg [(90,_)] Qw Bq (Qp Cr (Qp A8 (Qg [] Qw Co (Qg [(94,_)] Qw Co (AOL.gk (y:=Iq _) _ [(95,_)] rfl (dN.all ⟨vC.self _ _,trivial⟩) (fun hG=>Cl (k:=0) (c:=Iq _) tok rfl rfl rfl rfl) rfl rfl ?_)))))))))));refine Qg [(96,_)] Qw Bq (Qp Cr (Qp A8 (Qg [] Qw Co (Qg [(100,_)] Qw Co (AOL.gk (y:=.sl _ _) _ [(101,_)] rfl (dN.all ⟨vC.self _ _,trivial⟩) (fun hG=>Cl (k:=0) (c:=.sl _ _) tok rfl rfl rfl rfl) rfl rfl ?_)))));refine Qg [(102,_)] Qw (Da 1 rfl rfl (rfl)) (Qg [(103,_)] Qw Bq (Qp Cr (Qp A8 (Qg [] Qw Co (Qg [(107,_)] Qw Co (AOL.gk (y:=.sl _ _) _ [(108,_)] rfl (dN.all ⟨vC.self _ _,trivial⟩) (fun hG=>Cl (k:=0) (c:=.sl _ _) tok rfl rfl rfl rfl) rfl rfl ?_))))));refine Yh [(109,_)] Qw (fun hG=>Cp Cy rfl rfl (by decide) (rfl)) ?_;refine Qg [(110,_)] Qw (Qf ghx) (Qg [(111,_)] Qw Be (Qg [(112,_)] Qw Bq (Qp Cr (Qp A8 (Qg [] Qw Co (AOL.gk (y:=.sl _ _) _ [(116,_)] rfl (dN.all ⟨vC.self _ _,trivial⟩) (fun hG=>Cl (k:=0) (c:=.sl _ _) tok rfl rfl rfl rfl) rfl rfl ?_))))));refine Qg [(117,_)] Qw (Da 2 rfl rfl (rfl)) (Qg [(118,_)] Qw Bq (Qp Cr (Qp A8 (Qg [] Qw Co (AOL.gk (y:=.sl _ _) _ [(122,_)] rfl (dN.all ⟨vC.self _ _,trivial⟩) (fun hG=>Cl (k:=0) (c:=.sl _ _) tok rfl rfl rfl rfl) rfl rfl ?_)))));refine Yh [(123,_)] Qw (fun hG=>Cp E4 rfl rfl (by decide) (rfl)) ?_;refine Qg [(124,_)] Qw (Qf E4) (Qg [(125,_)] Qw Dk (Qg [(126,_)] Qw (Dq rfl rfl) (Qp Cr (Ap (fun hc3=>?_) fun hc3=>A5 (Aa ?_)))))
 . cases hc3
 refine Qp (Qc rfl (wO [113,117,101,114,121,32,113,32,109,97,116,99,104,32,115,101,113,40,65,32,97,44,32,65,32,97,41,32,114,101,116,117,114,110,32,49,59] 23 7 y3 (by decide) y3_read yJ.2.2.1 y3_q)) ?_;refine Qp A8 ?_;refine Qg [] Qw (Qc rfl (wO [113,117,101,114,121,32,113,32,98,121,32,121,32,109,97,116,99,104,32,65,32,97,32,114,101,116,117,114,110,32,49,59] 11 16 y4 (by decide) y4_read yJ.2.2.2 y4_q)) ?_;refine Qp Ej (Qp Ao (Rb ?_));refine Yx [.bool _] Ze S2 ?_;rfl
def oF (T:List e8Sc):Bool:=if T.any (fun s=>decide ((20:Int)<(s.fields.length:Int))||decide ((100:Int)<(s.name.length:Int))) then false else decide ((T.length:Int)<=20)
theorem few_no {T:List e8Sc}{k:Nat}{a:e8Sc}(ha:T[k]? = some a)(h:(decide ((20:Int)<(a.fields.length:Int))||decide ((100:Int)<(a.name.length:Int)))=true):oF T=false:=by
 unfold oF;rw [if_pos (List.any_eq_true.2 ⟨a,An ha,h⟩)]
theorem n3_few (T:List e8Sc)(hl:T.length<=1048576)(hs:∀s∈T,Ly s):Ak Tryz.prog 12 [.sl 2 (T.map Js)] (.bool (oF T)):=by
 refine Cw 29 Tryz.func12 rfl fun H=>?_
 refine Aa (Qp Ao (Aq (Ba (Qp Ah (Aq (AW.block ?_))))));refine AW.Aan (fun (k:Nat)=>(⟨[(0,.sl 2 (T.map Js)),(3,.int .i64 (k:Int))],H,29⟩:St)) (fun k=>k<=T.length/\(T.take k).any (fun s=>decide ((20:Int)<(s.fields.length:Int))||decide ((100:Int)<(s.name.length:Int)))=false) (fun k=>T.length-k) (0) ?_ Bx ?_
 . exact ⟨A3 _,by simp⟩
 rintro k hR;refine Ba (Qp Ai (Qp Ez ?_));refine Qp (Da T.length rfl rfl (by simp)) ?_;refine Qp Bt (Ap (fun hc1=>?_) fun hc1=>?_)
 .
  obtain ⟨a,ha⟩:=B3 hc1;have hlt:=Bf ha;have hm:=An ha;have hok:=hs a hm;have ho1:=hok.1;have ho2:=hok.2.1;refine A5 (AW.seq (AW.block (Aa (Qp Ez (Qp Ai ?_)))));refine Qp (Cp Jl rfl rfl (by omega) (Bp ha)) ?_;refine Qp (Qf [_]) (Qp Cg ?_);refine Qp (Da a.fields.length rfl rfl (by simp)) ?_;refine Qp De (Qp A8 (Qg [] Qw Ez (Qg [] Qw Ai ?_)));refine Yh [(18,_),(19,_)] (Yv rfl Es Es) (fun hG=>Cp Jl rfl rfl (by omega) (Bp ha)) ?_;refine Qg [(20,_)] Qw (Qf Jl) (Qg [(21,_)] Qw Dk (Qg [(22,_)] Qw (Ck (n:=a.name.length) tok rfl rfl rfl (rfl)) (Qg [(23,_)] Qw De (Qp Cr (Ap (fun hc2=>Aa (Qp Ao (Ra (Au (Cn (Au (Qr (.bool _) ?_))))))) fun hc2=>Rf (AW.region (Qp Ai (Qp Dt (Qp Ah (Aq ?_))))))))))
  . exact Ye AV.bool (few_no ha hc2)
  refine ⟨k+1,?_,?_,Bx⟩
  . exact ⟨hlt,Hr hR.2 ha hc2⟩
  omega
 have hte:=B9 hc1;have hall:=hR.2;rw [hte] at hall;refine AW.exit ?_;refine Bn (Ri (Aa (Qp Ez ?_)));refine Qp (Da T.length rfl rfl (by simp)) ?_;refine Qp Mk (Qp Ao (Rb (Qr (.bool _) ?_)));exact Ye AV.bool ((Bl hall:oF T=decide ((T.length:Int)<=20)))
def fwQ (q:Qy):Bool:=(((decide ((20:Int)<(q.vars.length:Int))||decide ((30:Int)<(q.key.length:Int)))||decide ((20:Int)<(q.returns.length:Int)))||decide ((80:Int)<(q.name.length:Int))) || !(fewP q.pattern)
def Xz (q:Qy):Bool:=if fwQ q then false else q.returns.all (fun e=>decide (Bz e<=200/\Ea e<=100))
theorem fq_1 {q:Qy}(h:fwQ q=true):Xz q=false:=if_pos h
theorem fq_2 {q:Qy}(h:fwQ q=false){a:Ex}(hm:a∈q.returns)(h2:(!(decide (Bz a<=200/\Ea a<=100)))=true):Xz q=false:=(Bl h).trans (al_no (p:=(fun e=>decide (Bz e<=200/\Ea e<=100))) hm h2)
theorem fq_3 {q:Qy}(h:fwQ q=false)(h2:q.returns.all (fun e=>decide (Bz e<=200/\Ea e<=100))=true):Xz q=true:=(Bl h).trans h2
theorem fq_r {q:Qy}(h:Xz q=true):q.returns.length<=20:=by
 have h1:fwQ q=false:=by
  cases hc:fwQ q with
  | false=>rfl
  | true=>rw [fq_1 hc] at h;cases h
 unfold fwQ at h1;simp only [En,Ih] at h1;omega
theorem sh_key {T:List e8Sc}{q:Qy}(h:ShOK T q):(Ti T q).1=(Tk T q).1:=by
 have h1:Ti T q=((Tk T q).1,0):=by
  have hb:(F7 q.name != 0)=false:=by have:=h.n;unfold Q3 at this;simpa [bne] using this
  have hv:(vE T q != 0)=false:=by rw [h.v];rfl
  have hr:((q.returns.length:Int)==0)=false:=by
   rw [F0];intro hc;exact h.r (gY (by omega))
  have he:rtE q=0:=by
   unfold rtE;refine F9 ?_;rw [<-Qa,List.any_eq_true];rintro ⟨x,hx,hne⟩;rw [h.e x hx] at hne;cases hne
  exact (Y1 hb h.p hv).trans ((iG (by rw [h.k];rfl) hr).trans ((rF he).trans (sn_9 h.u rfl)))
 rw [h1]
theorem n4_fq (q:Qy)(hq:medQ q):Ak Tryz.prog 28 [.agg (cQy q)] (.bool (Xz q)):=by
 have hrl:=hq.r;have hvl:=hq.v;have hkl:=hq.k;refine Cw 46 Tryz.func28 rfl fun H=>?_
 refine Aa (Qp (Eh Hw) (Qp Ao (Aq (Ba (Qp (Qf rY) (Qp Cg ?_))))));refine Qp (Da q.vars.length rfl rfl (by simp)) ?_;refine Qp De (Qp A8 (Qg [] Qw (Qf ghy) (Qg [(9,_)] Qw Cg ?_)));refine Yh [(10,_)] Qw (fun hG=>Da q.key.length rfl rfl (by simp)) ?_;refine Qg [(11,_)] Qw De (Qp Cr (Qp A8 (Qg [] Qw (Qf [_]) (Qg [(15,_)] Qw Cg ?_))));refine Yh [(16,_)] Qw (fun hG=>Da q.returns.length rfl rfl (by simp)) ?_;refine Qg [(17,_)] Qw De (Qp Cr (Qp A8 (Qg [] Qw (Qf Hw) (Qg [(21,_)] Qw Dk ?_))));refine Qg [(22,_)] Qw (Ck tok rfl rfl rfl rfl) (Qg [(23,_)] Qw De (Qp Cr (Qp A8 (Qg [] Qw (Qf giy) (Qg [(27,_)] Qw (B1 Cy) (Qg [(28,_)] Qw (Qc rfl (n9_Few q.pattern hq.p)) (Qg [(29,_)] Qw E7 (Qp Cr (Ap (fun hc1=>Aa (Qp Ao (Rc (Qr (.bool _) ?_)))) fun hc1=>A5 (Ba (Qp Ah (Aq (AW.block ?_)))))))))))))
 . exact Ye AV.bool (fq_1 hc1)
 refine AW.Aan (fun (k:Nat)=>(⟨[(1,.ptr (cQy q)),(3,.int .i64 (k:Int))],H,46⟩:St)) (fun k=>k<=q.returns.length/\(q.returns.take k).all (fun e=>decide (Bz e<=200/\Ea e<=100))=true) (fun k=>q.returns.length-k) (0) ?_ Bx ?_
 . exact ⟨A3 _,by simp⟩
 rintro k hR;refine Ba (Qp Ai (Qp (Qf [_]) (Qp Cg ?_)));refine Qp (Da q.returns.length rfl rfl (by simp)) ?_;refine Qp Bt (Ap (fun hc2=>?_) fun hc2=>?_)
 .
  obtain ⟨a,ha⟩:=B3 hc2;have hlt:=Bf ha;have hm:=An ha;refine A5 (AW.seq (AW.block (Aa (Qp (Qf [_]) (Qp Cg (Qp Ai ?_))))));refine Qp (Cp Hh rfl rfl (by omega) (bP ha)) ?_;refine Qp Kt (Qp (Qc rfl (c34 a (hq.e a hm))) (Qp E7 (Ap (fun hc3=>Aa (Qp Ao (Ra (Au (Cn (Au (Qr (.bool _) ?_))))))) fun hc3=>Rf (AW.region (Qp Ai (Qp Dt (Qp Ah (Aq ?_))))))))
  . exact Ye AV.bool (fq_2 hc1 hm hc3)
  refine ⟨k+1,?_,?_,Bx⟩
  . exact ⟨hlt,dS (p:=(fun e=>decide (Bz e<=200/\Ea e<=100))) hR.2 ha hc3⟩
  omega
 have hte:=B9 hc2;have hall:=hR.2;rw [hte] at hall;refine AW.exit ?_;refine Bn (Ri (Aa (Qp Ao (Rb ?_))));refine Qr (.bool _) ?_;exact Ye AV.bool (fq_3 hc1 hall)
theorem fM (T:List e8Sc)(hl:T.length<=1048576)(hs:∀s∈T,Ly s)(q:Qy)(hq:medQ q)(hql:q.name.length<=1048576)(hvn:∀v∈q.vars,v.name.length<=1048576):Ak Tryz.prog 8 [.sl 2 (T.map Js),.agg (cQy q)] (.bool true):=by
 refine Cw 41 Tryz.func8 rfl fun H=>?_
 refine Aa (Qp (Eh Hw) (Qp Ao (Aq (Ba (Qp (B1 Hw) (Qp (Qc rfl (n4_fq q hq)) (Qp E7 (Qp A8 (Qg [] Qw Ez (Qg [(13,_)] Qw (Qc rfl (n3_few T hl hs)) (Qg [(14,_)] Qw E7 (Qp Cr (Ap (fun hc1=>Aa (Qp (Qc rfl (dC)) (Qp Ao (Rc (Qr (.bool _) ?_))))) fun hc1=>?_)))))))))))))
 . rfl
 have hf:Xz q=true:=by rw [En] at hc1;simpa using hc1.1
 have hmed:ShOK T q->It (qT T q):=fun h=>sh_med h (sh_key h) (fq_r hf)
 refine A5 (Aa (Qp Ez (Qp (B1 Hw) (Qp (Qc rfl (xO T hl hs q hq hql hvn hmed)) (Qp Ml (Qp (Cq (v:=.agg Ag) rfl rfl) (Qp Km (Dx F1 fun b5=>?_))))))));refine Bw 0 Ag (_::_) (Qp Ah ?_);refine Ji 5 0 rfl ?_;refine B2 (Qp Ez (Qp (B1 Hw) (Qp (Qc rfl (wU T hl hs q hq hql hvn hmed)) (Qp Ml (Qp (Cq (v:=.agg Ag) rfl rfl) (Qp Km (Dx F1 fun b7=>?_)))))));refine Bw 0 Ag (_::_) (Qp Ah ?_);refine Ji 7 0 rfl ?_;refine B2 (Qp (Qc rfl (dC)) (Qp A8 (Qg [] Qw (B1 Ag) (Qg [] Qw (B1 Ag) (Qg [(32,_),(33,_)] Yw (Qc rfl (qK (G5 T q).1 (G5 T q).1)) (Qp Ej (Qp A8 (Qg [] Qw Ai (Qg [] Qw Ai (Qg [(37,_),(38,_)] Yw Aj (Qp Ej (Qp Ao (Rb (Qr (.bool _) ?_))))))))))))));simp [Ad,gG]
end Go.Proofs.YtckhoadldibflaaGreatDoor
namespace Go.Aw
open Go
section
variable {H:Type} {enc:TypeId×Value->H} {P:Program} {w:World} {sp:Nat->Bool} {hd:Bool} {B:DataW H->Nat} {BA:List (DataW H)->Nat}
end
end Go.Aw
namespace Go.Proofs.YtckhoadldibflaaGreatDoor
open Go Go.Aw
theorem F2 {H:Type}:Bulk (Rows.uptoBulk (H:=H)) Rows.uptoBulkAll where
 nil:=by simp [Rows.uptoBulkAll]
 cons:=by intro x r;simp [Rows.uptoBulkAll]
 agg:=by intro ps;simp [Rows.uptoBulk]
 slice:=by intro es sp;simp only [Rows.uptoBulk];omega
 str:=by intro s;simp [Rows.uptoBulk]
 one:=by
  intro d;cases d with
  | lit l=>cases l <;> simp [Rows.uptoBulk]
  | _=>simp [Rows.uptoBulk]
theorem u_Sc : Tryz.prog.underlying 69 = some (.struct #[⟨ "Name", 9, 0, false, "", "", 0⟩, ⟨ "Fields", 67, 1, false, "", "", 16⟩]) := by kernel_rfl
theorem z_Sc:Tryz.prog.cellsOf 69=2:=by kernel_rfl
theorem u_Tys:Tryz.prog.underlying 22=some (.slice 69):=by kernel_rfl
theorem z_Tys:Tryz.prog.cellsOf 22=1:=by kernel_rfl
theorem u_Fi : Tryz.prog.underlying 111 = some (.struct #[⟨ "Name", 9, 0, false, "", "", 0⟩, ⟨ "Kind", 3, 1, false, "", "", 16⟩]) := by kernel_rfl
theorem z_Fi:Tryz.prog.cellsOf 111=2:=by kernel_rfl
theorem u_Fis:Tryz.prog.underlying 67=some (.slice 111):=by kernel_rfl
theorem z_Fis:Tryz.prog.cellsOf 67=1:=by kernel_rfl
def I64 (n:Int):Prop:=-9223372036854775808<=n/\n<=9223372036854775807
theorem wf_I64 {n:Int}(h:(Lit.int .i64 n).wf=true):I64 n:=by
 have h1:(decide (-9223372036854775808<=n)&&decide (n<=9223372036854775807))=true:=h;simp only [Cz,Dp] at h1;exact h1
theorem Ol {α:Type}{f:α->Nat}(h:∀x,1<=f x):∀l:List α,l.length<=(l.map f).sum
 | []=>B6 _
 | a::r=>by have:=Ol h r;have:=h a;simp only [A1,Bj,Ed];omega
theorem Om {α:Type}{f:α->Nat}:∀{l:List α} {x:α},x∈l->f x<=(l.map f).sum
  | a::r,x,h=>by
    rcases Dn.1 h with rfl | h
    . simp only [Bj,Ed];omega
    have:=Om (f:=f) h;simp only [Bj,Ed];omega
theorem sumB_ones {α:Type}(l:List α):(l.map fun _=>1).sum=l.length:=by
 induction l with
 | nil=>rfl
 | cons a r ih=>simp only [Bj,Ed,A1,ih];omega
def scN (s:e8Sc):Nat:=s.name.length+(s.fields.map fun f=>f.name.length+1).sum+1
def tysN (l:List e8Sc):Nat:=(l.map scN).sum+1
theorem sc_ok {s:e8Sc}(h:scN s<=1048576):Ly s:=by
 unfold scN at h;have h1:=Ol (f:=fun f:Fi=>f.name.length+1) (fun _=>Nat.succ_le_succ (A3 _)) s.fields;exact ⟨by omega,by omega,fun f hf=>by have:=Om (f:=fun f:Fi=>f.name.length+1) hf;have h2:f.name.length+1<=(s.fields.map fun f=>f.name.length+1).sum:=this;omega⟩
theorem uU {l:List e8Sc}(h:tysN l<=1048576):l.length<=1048576/\∀s∈l,Ly s:=by
 unfold tysN at h;have h1:=Ol (f:=scN) (fun s=>by unfold scN;omega) l;exact ⟨by omega,fun s hs=>sc_ok (by have:=Om (f:=scN) hs;omega)⟩
section
variable {H:Type} {enc:TypeId×Value->H} {w:World} {sp:Nat->Bool} {hd:Bool}
abbrev R (enc:TypeId×Value->H)(w:World)(sp:Nat->Bool)(hd:Bool){α:Type}(Bm:Nat)(t:TypeId)(f:α->List AV)(ok:α->Prop)(bk:α->Nat):Prop:=Rd enc Tryz.prog w sp hd Rows.uptoBulk Bm t f ok bk
theorem rI (Bm:Nat):R enc w sp hd Bm 3 (fun n:Int=>[.int .i64 n]) I64 (fun _=>1):=(Rd.int (k:=.i64) (by kernel_rfl) F2).congr rfl (fun _ h=>wf_I64 h) (fun _=>B6 _)
theorem rS (Bm:Nat):R enc w sp hd Bm 9 (fun s:List UInt8=>[.str s]) (fun s=>s.length<=maxLen) (fun s=>s.length+1):=Rd.str (by kernel_rfl) F2
theorem z3:Tryz.prog.cellsOf 3=1:=by kernel_rfl
theorem z9:Tryz.prog.cellsOf 9=1:=by kernel_rfl
theorem rFi (Bm:Nat):R enc w sp hd Bm 111 vM (fun _=>True) (fun f=>f.name.length+1):=
 (Rd.struct' u_Fi F2 rfl (by kernel_rfl) (by kernel_rfl) fun m _=>Rds.cons F2 z9 (rS m) <| Rds.cons F2 z3 (rI m) Rds.nil).map
  (fun x=>(⟨x.1,x.2.1⟩:Fi)) (fun _=>rfl) (fun _ _=>trivial) (fun _=>by simp only;omega)
theorem rSc (Bm:Nat):R enc w sp hd Bm 69 Js (fun _=>True) scN:=
 (Rd.struct' u_Sc F2 rfl (by kernel_rfl) (by kernel_rfl) fun m _=>Rds.cons F2 z9 (rS m) <| Rds.cons F2 z_Fis (Rd.slice' (z:=2) u_Fis z_Fi (by decide) F2 fun k _=>rFi k) Rds.nil).map
  (fun x=>(⟨x.1,x.2.1⟩:e8Sc)) (fun _=>rfl) (fun _ _=>trivial) (fun _=>by simp only [scN];omega)
theorem rTys (Bm:Nat):R enc w sp hd Bm 22 (fun l:List e8Sc=>[.sl 2 (l.map Js)]) (fun _=>True) tysN:=
 (Rd.slice' (z:=2) u_Tys z_Sc (by decide) F2 fun k _=>rSc k).congr rfl (fun _ _=>trivial) (fun _=>B6 _)
end
def ptB (p:Pt):Nat:=((Dd p).map fun x=>1+Bz x.cond).sum
theorem qD:∀l:List Pt,((l.flatMap Dd).map fun x=>1+Bz x.cond).sum=(l.map ptB).sum
 | []=>rfl
 | a::r=>by rw [P6,Em,List.sum_append,qD r,Bj,Ed];rfl
theorem ptB_eq (p:Pt):ptB p=1+Bz p.cond+(p.args.map ptB).sum:=by
 rw [<-qD];unfold ptB;rw [Oe,Bj,Ed]
theorem ptB_med {p:Pt}(h:ptB p<=1048576):medP p:=by
 unfold ptB at h;refine ⟨?_,fun x hx=>?_⟩
 .
  have:=Ol (f:=fun x:Pt=>1+Bz x.cond) (fun x=>by omega) (Dd p);rw [Pq] at this;omega
 have:=Om (f:=fun x:Pt=>1+Bz x.cond) hx;omega
def qyB (q:Qy):Nat:=q.name.length+(q.vars.map fun v=>v.name.length+1).sum+q.key.length+ptB q.pattern+(q.returns.map Bz).sum+1
theorem szq_pos (e:Ex):1<=Bz e:=by rw [Gb];omega
theorem xF {q:Qy}(h:qyB q<=1048576):medQ q/\q.name.length<=1048576/\∀v∈q.vars,v.name.length<=1048576:=by
 unfold qyB at h;have h1:=Ol (f:=fun v:Va=>v.name.length+1) (fun _=>Nat.succ_le_succ (A3 _)) q.vars;have h2:=Ol (f:=Bz) szq_pos q.returns;exact ⟨⟨by omega,by omega,by omega,ptB_med (by omega),fun e he=>by have:=Om (f:=Bz) he;omega⟩,by omega,fun v hv=>by have:=Om (f:=fun v:Va=>v.name.length+1) hv;omega⟩
section
variable {H:Type} {enc:TypeId×Value->H} {w:World} {sp:Nat->Bool} {hd:Bool}
abbrev u_Qy:=@Tryz.underlying40
theorem z_34:Tryz.prog.cellsOf 34=3:=by kernel_rfl
theorem z_32:Tryz.prog.cellsOf 32=1:=by kernel_rfl
theorem z_36:Tryz.prog.cellsOf 36=8:=by kernel_rfl
theorem z_31:Tryz.prog.cellsOf 31=1:=by kernel_rfl
theorem z_38:Tryz.prog.cellsOf 38=14:=by kernel_rfl
theorem z_50:Tryz.prog.cellsOf 50=2:=by kernel_rfl
theorem z_29:Tryz.prog.cellsOf 29=1:=by kernel_rfl
theorem z_30:Tryz.prog.cellsOf 30=1:=by kernel_rfl
theorem rV (Bm:Nat):R enc w sp hd Bm 34 cV (fun _=>True) (fun v=>v.text.length+1):=
 (Rd.struct' Tryz.underlying34 F2 rfl (by kernel_rfl) (by kernel_rfl) fun m _=>Rds.cons F2 z3 (rI m) <| Rds.cons F2 z3 (rI m) <| Rds.cons F2 z9 (rS m) Rds.nil).map
  (fun x=>(⟨x.1,x.2.1,x.2.2.1⟩:Vl)) (fun _=>rfl) (fun _ h=>trivial) (fun _=>by simp only;omega)
theorem eM:F5=cE:=funext Ky
theorem oA:Jd=cPt:=funext Uz
theorem rE (Bm:Nat):R enc w sp hd Bm 36 cE (fun _=>True) Bz:=by
  induction Bm using Nat.strongRecOn with
  | _ n ih=>
    exact (Rd.struct' Tryz.underlying36 F2 rfl (by kernel_rfl) (by kernel_rfl) fun m hm=>Rds.cons F2 z3 (rI m) <| Rds.cons F2 z_32 (Rd.slice' (z:=8) Tryz.underlying32 z_36 (by decide) F2 fun k hk=>ih k (Nat.lt_trans hk hm)) <|
      Rds.cons F2 z3 (rI m) <| Rds.cons F2 z3 (rI m) <| Rds.cons F2 z3 (rI m) <| Rds.cons F2 z_34 (rV m) Rds.nil).map
      (fun x=>(⟨x.1,x.2.1,x.2.2.1,x.2.2.2.1,x.2.2.2.2.1,x.2.2.2.2.2.1⟩:Ex)) (fun x=>by simp [cE,cV,eM]) (fun _ _=>trivial) (fun x=>by rw [Gb];simp only;omega)
theorem rPt (Bm:Nat):R enc w sp hd Bm 38 cPt (fun _=>True) ptB:=by
  induction Bm using Nat.strongRecOn with
  | _ n ih=>
    exact (Rd.struct' Tryz.underlying38 F2 rfl (by kernel_rfl) (by kernel_rfl) fun m hm=>Rds.cons F2 z3 (rI m) <| Rds.cons F2 z_31 (Rd.slice' (z:=14) Tryz.underlying31 z_38 (by decide) F2 fun k hk=>ih k (Nat.lt_trans hk hm)) <|
      Rds.cons F2 z3 (rI m) <| Rds.cons F2 z3 (rI m) <| Rds.cons F2 z3 (rI m) <| Rds.cons F2 z3 (rI m) <| Rds.cons F2 z_36 (rE m) Rds.nil).map
      (fun x=>(⟨x.1,x.2.1,x.2.2.1,x.2.2.2.1,x.2.2.2.2.1,x.2.2.2.2.2.1,x.2.2.2.2.2.2.1⟩:Pt)) (fun x=>by simp [cPt,cE,cV,eM,oA]) (fun _ _=>trivial) (fun x=>by rw [ptB_eq];simp only;omega)
theorem rVa (Bm:Nat):R enc w sp hd Bm 50 Ox (fun _=>True) (fun v=>v.name.length+1):=
 (Rd.struct' Tryz.underlying50 F2 rfl (by kernel_rfl) (by kernel_rfl) fun m _=>Rds.cons F2 z9 (rS m) <| Rds.cons F2 z3 (rI m) Rds.nil).map
  (fun x=>(⟨x.1,x.2.1⟩:Va)) (fun _=>rfl) (fun _ _=>trivial) (fun _=>by simp only;omega)
theorem rQy (Bm:Nat):R enc w sp hd Bm 40 cQy (fun _=>True) qyB:=
 (Rd.struct' Tryz.underlying40 F2 rfl (by kernel_rfl) (by kernel_rfl) fun m _=>Rds.cons F2 z9 (rS m) <| Rds.cons F2 z_29 (Rd.slice' (z:=2) Tryz.underlying29 z_50 (by decide) F2 fun k _=>rVa k) <|
  Rds.cons F2 z_30 (Rd.slice' (z:=1) Tryz.underlying30 z3 (by decide) F2 fun k _=>rI k) <| Rds.cons F2 z_38 (rPt m) <| Rds.cons F2 z_32 (Rd.slice' (z:=8) Tryz.underlying32 z_36 (by decide) F2 fun k _=>rE k) Rds.nil).map
  (fun x=>(⟨x.1,x.2.1,x.2.2.1,x.2.2.2.1,x.2.2.2.2.1⟩:Qy)) (fun x=>by simp [cQy,cQyW,cPt,cE,cV,eM,oA,cI]) (fun _ _=>trivial) (fun x=>by simp only [qyB,sumB_ones];omega)
end
open Go Go.Aw Go.ChangeShapes Go.WideShapes Go.ChangeAt Go.RowKit
theorem laid:laidOutB Tryz.prog=true:=by kernel_rfl
theorem own:ownKnob Tryz.prog.godebug=none:=by kernel_rfl
def yF:AV->Value
 | .str s=>.string ⟨s.toArray⟩
 | .int k n=>.int k n
 | .bool b=>.bool b
 | _=>.int .i64 0
def opsOf (l:List (Av×Int)):List AV:=l.flatMap fun x=>[.str x.1,.int .i64 x.2]
def gopL:List AV->List (Av×Int)
 | .str s :: .int _ n::r=>(s,n)::gopL r
 | _=>[]
def Vu (W:World)(gl:Nat)(l:List AV):Prop:=Rep g0 W (.pointer (some ⟨gl,0,none⟩)) (.ptr l)
def mE:AV->Bool
 | .str s=>decide (s.length<=maxLen)
 | .int _ _=>true
 | .bool _=>true
 | _=>false
theorem Aae {g:Gh}{w:World}{x:AV}(h:mE x=true):Rep g w (yF x) x:=by
 cases x <;> simp only [mE,Al,Dp] at h
 all_goals first | exact .int _ _ | exact .bool _ | exact Wv h
theorem Zx {W:World}{n:String}{gl:Nat}{cs:Array Value}{l:List AV}(hn:Tryz.prog.globalNamed n=some gl)(hv:W.var? Tryz.prog n=some cs)(hc:cs.toList=l.map yF)(hp:l.all mE=true):Vu W gl l:=by
 have hcell:∀j,W.cell? ⟨gl,j,none⟩=cs[j]? :=fun j=>World.var?_cell hn hv j
 refine .ptr gl 0 _ (fun j=>(l[j]?.map yF).getD default) (fun j x hj=>?_) (fun j x hj=>?_)
 .
  refine ⟨trivial,?_⟩;rw [Dz,hcell j,<-Array.getElem?_toList,hc,List.getElem?_map,hj];simp
 simp only [hj,Ij,Option.getD_some];exact Aae (E3.1 hp _ (An hj))
theorem iA {H:Type}{enc:TypeId×Value->H}{P:Program}{w:World}{base:Nat}{sp:Nat->Bool}{held:Bool}{Bm:Nat}{t e:TypeId}{n:Nat}{cs:List Value}{ss:List Av}{p:List MemPlace}
    (ht:P.underlying t=some (.array n e)) (he:P.underlying e=some .string) (hce:P.cellsOf e=1) (hct:P.cellsOf t=n)
    (h:DataW.trod enc P w base sp held Bm t cs=some (.agg (ss.map fun s=>.lit (.string s)),p)):cs=ss.map fun s=>Value.string ⟨s.toArray⟩:=by
  cases Bm with
  | zero=>simp [DataW.trod] at h
  | succ Bm=>
    simp only [DataW.trod,ht,hce,hct,Nat.mul_one] at h;split at h
    . rename_i hl
      obtain ⟨xs,hm,hx⟩:=Sr.1 h
      have hxs:xs.map (·.1)=ss.map fun s=>(DataW.lit (.string s):DataW H):=by
        have:=congrArg Prod.fst hx;simpa using this
      have hxl:xs.length=n:=by simpa using Lib.mapM_length hm
      have hzl:ss.length=n:=by
        have:=congrArg List.length hxs;simp at this;omega
      apply Xc
      intro i;by_cases hi:i<n
      . obtain ⟨b,hb,hf⟩:=Lib.mapM_at hm i i (by simp [hi])
        obtain ⟨z,hc,rfl,_⟩:=DataW.trod_string he hf
        have h1:cs[i]? = some (.string z):=by
          have:=congrArg (·[0]?) hc;simpa [List.getElem?_take,List.getElem?_drop] using this
        have h2:(xs.map (·.1))[i]? = some (DataW.lit (.string z.data.toList):DataW H):=by simp [hb]
        rw [hxs] at h2;simp only [List.getElem?_map,Sr,DataW.lit.injEq,Lit.string.injEq] at h2;obtain ⟨z',hz',rfl⟩:=h2;simp [h1,hz']
      rw [List.getElem?_eq_none (by omega),List.getElem?_eq_none (by simp;omega)]
    cases h
theorem chunk2 {α β:Type}(f g:α->β):∀(ss:List α) (cs:List β),cs.length=2*ss.length->(∀i x,ss[i]? = some x->(cs.drop (i*2)).take 2 = [f x,g x])->cs=ss.flatMap fun x=>[f x,g x]
  | [],cs,hl,_=>by simpa using hl
  | x::ss,cs,hl,h=>by
    have h0:=h 0 x rfl
    match cs,hl with
    | a::b::r,hl=>
      simp at h0;obtain ⟨rfl,rfl⟩:=h0
      have:=chunk2 f g ss r (by simp at hl;omega) (fun i y hy=>by
        have:=h (i+1) y (by simpa using hy)
        rwa [show (i+1)*2=i*2+1+1 by omega,List.drop_succ_cons,List.drop_succ_cons] at this)
      simp [<-this]
    | [],hl=>simp at hl
    | [_],hl=>simp at hl;omega
theorem Nm {H:Type}{enc:TypeId×Value->H}{P:Program}{w:World}{base:Nat}{sp:Nat->Bool}{held:Bool}{Bm:Nat}{t e:TypeId}{n:Nat}{cs:List Value}{ss:List (Av×Int)}{p:List MemPlace}{f0 f1:Field}
    (ht:P.underlying t=some (.array n e)) (he:P.underlying e=some (.struct #[f0,f1])) (o0:f0.offset=0) (o1:f1.offset=1) (t0:P.underlying f0.type=some .string) (t1:P.underlying f1.type=some (.int .i64)) (c0:P.cellsOf f0.type=1) (c1:P.cellsOf f1.type=1) (hce:P.cellsOf e=2) (hct:P.cellsOf t=n*2)
    (h:DataW.trod enc P w base sp held Bm t cs=some (.agg (ss.map fun s=>.agg [.lit (.string s.1),.lit (.int .i64 s.2)]),p)):cs=ss.flatMap fun s=>[Value.string ⟨s.1.toArray⟩,.int .i64 s.2]:=by
  cases Bm with
  | zero=>simp [DataW.trod] at h
  | succ Bm=>
    simp only [DataW.trod,ht,hce,hct] at h;split at h
    . rename_i hl
      obtain ⟨xs,hm,hx⟩:=Sr.1 h
      have hxs:xs.map (·.1)=ss.map fun s=>(DataW.agg [.lit (.string s.1),.lit (.int .i64 s.2)]:DataW H):=by
        have:=congrArg Prod.fst hx;simpa using this
      have hxl:xs.length=n:=by simpa using Lib.mapM_length hm
      have hzl:ss.length=n:=by
        have:=congrArg List.length hxs;simp at this;omega
      apply chunk2
      . omega
      intro i x hi;have hin:i<n:=by have:=(List.getElem?_eq_some_iff.1 hi).1;omega
      obtain ⟨b,hb,hf⟩:=Lib.mapM_at hm i i (by simp [hin]);obtain ⟨y0,y1,m,rfl,hlen,h0,h1⟩:=trod_struct2 he hf;obtain ⟨z,hz,rfl,_⟩:=DataW.trod_string t0 h0;obtain ⟨k,hk,rfl,_⟩:=DataW.trod_int t1 h1;have h2:(xs.map (·.1))[i]? = some (DataW.agg [.lit (.string z.data.toList),.lit (.int .i64 k)]:DataW H):=by simp [hb]
      rw [hxs] at h2;simp [hi] at h2;obtain ⟨e1,e2⟩:=h2;rw [o0,c0] at hz;rw [o1,c1] at hk;have hl2:((cs.drop (i*2)).take 2).length=2:=by rw [hlen,hce]
      match hq:(cs.drop (i*2)).take 2,hl2 with
      | [a,b],_=>
        rw [hq] at hz hk;simp at hz hk;subst hz hk;simp [e1,e2]
    cases h
theorem chunkN {α β:Type}(k:Nat)(f:α->List β)(hf:∀x,(f x).length=k):∀(ss:List α) (cs:List β),cs.length=k*ss.length->(∀i x,ss[i]? = some x->(cs.drop (i*k)).take k=f x)->cs=ss.flatMap f
  | [],cs,hl,_=>by simpa using hl
  | x::ss,cs,hl,h=>by
    have h0:=h 0 x rfl;rw [Nat.zero_mul,Nb] at h0
    have ih:=chunkN k f hf ss (cs.drop k) (by rw [Fk,hl,A1,Nat.mul_succ];omega) fun i y hy=>by
      have:=h (i+1) y (by simpa using hy)
      rwa [List.drop_drop,show k+i*k=(i+1)*k by rw [Nat.succ_mul,Nat.add_comm]]
    rw [P6,<-ih,<-h0,Xa]
theorem cM {H:Type}{enc:TypeId×Value->H}{P:Program}{w:World}{base:Nat}{sp:Nat->Bool}{held:Bool}{Bm:Nat}{t e:TypeId}{n:Nat}{cs:List Value}{ss:List Shp}{p:List MemPlace}{f0 f1 f2 f3 f4 f5:Field}
    (ht:P.underlying t=some (.array n e)) (he:P.underlying e=some (.struct #[f0,f1,f2,f3,f4,f5])) (ho:f0.offset=0/\f1.offset=1/\f2.offset=2/\f3.offset=3/\f4.offset=4/\f5.offset=5)
    (t0:P.underlying f0.type=some (.int .i64)) (t1:P.underlying f1.type=some (.int .i64)) (t2:P.underlying f2.type=some .bool) (t3:P.underlying f3.type=some .bool) (t4:P.underlying f4.type=some .bool) (t5:P.underlying f5.type=some .bool)
    (hcc:P.cellsOf f0.type=1/\P.cellsOf f1.type=1/\P.cellsOf f2.type=1/\P.cellsOf f3.type=1/\P.cellsOf f4.type=1/\P.cellsOf f5.type=1) (hce:P.cellsOf e=6) (hct:P.cellsOf t=n*6)
    (h:DataW.trod enc P w base sp held Bm t cs=some (.agg (ss.map fun s=>.agg [.lit (.int .i64 s.least),.lit (.int .i64 s.most),.lit (.bool s.typed),.lit (.bool s.cond),.lit (.bool s.scope),.lit (.bool s.span)]),p)) :
    cs=ss.flatMap fun s=>[Value.int .i64 s.least,.int .i64 s.most,.bool s.typed,.bool s.cond,.bool s.scope,.bool s.span]:=by
  cases Bm with
  | zero=>simp [DataW.trod] at h
  | succ Bm=>
    simp only [DataW.trod,ht,hce,hct] at h;split at h
    . rename_i hl
      obtain ⟨xs,hm,hx⟩:=Sr.1 h
      have hxs:xs.map (·.1)=ss.map fun s=>(DataW.agg [.lit (.int .i64 s.least),.lit (.int .i64 s.most),.lit (.bool s.typed),.lit (.bool s.cond),.lit (.bool s.scope),.lit (.bool s.span)]:DataW H):=by
        have:=congrArg Prod.fst hx;simpa using this
      have hxl:xs.length=n:=by simpa using Lib.mapM_length hm
      have hzl:ss.length=n:=by
        have:=congrArg List.length hxs;simp at this;omega
      apply chunkN 6 _ (fun _=>rfl)
      . omega
      intro i x hi;have hin:i<n:=by have:=(List.getElem?_eq_some_iff.1 hi).1;omega
      obtain ⟨b,hb,hf⟩:=Lib.mapM_at hm i i (by simp [hin]);obtain ⟨ys,m,_,rfl,hlen,hyl,hfs⟩:=DataW.trod_struct he hf
      match ys,hyl with
      | [y0,y1,y2,y3,y4,y5],_=>
        obtain ⟨o0,o1,o2,o3,o4,o5⟩:=ho;obtain ⟨c0,c1,c2,c3,c4,c5⟩:=hcc;obtain ⟨k0,e0,rfl,_⟩:=DataW.trod_int t0 (show _=some y0 by simpa using hfs 0 f0 rfl);obtain ⟨k1,e1,rfl,_⟩:=DataW.trod_int t1 (show _=some y1 by simpa using hfs 1 f1 rfl);obtain ⟨k2,e2,rfl⟩:=DataW.trod_bool t2 (show _=some y2 by simpa using hfs 2 f2 rfl);obtain ⟨k3,e3,rfl⟩:=DataW.trod_bool t3 (show _=some y3 by simpa using hfs 3 f3 rfl);obtain ⟨k4,e4,rfl⟩:=DataW.trod_bool t4 (show _=some y4 by simpa using hfs 4 f4 rfl);obtain ⟨k5,e5,rfl⟩:=DataW.trod_bool t5 (show _=some y5 by simpa using hfs 5 f5 rfl);have h2:(xs.map (·.1))[i]? = some (DataW.agg [.lit (.int .i64 k0),.lit (.int .i64 k1),.lit (.bool k2),.lit (.bool k3),.lit (.bool k4),.lit (.bool k5)]:DataW H):=by simp [hb]
        rw [hxs] at h2;simp [hi] at h2;obtain ⟨q0,q1,q2,q3,q4,q5⟩:=h2;rw [o0,c0] at e0;rw [o1,c1] at e1;rw [o2,c2] at e2;rw [o3,c3] at e3;rw [o4,c4] at e4;rw [o5,c5] at e5;have hl2:((cs.drop (i*6)).take 6).length=6:=by rw [hlen,hce]
        match hq:(cs.drop (i*6)).take 6,hl2 with
        | [a,b,c,d,e,f],_=>
          rw [hq] at e0 e1 e2 e3 e4 e5;simp at e0 e1 e2 e3 e4 e5;subst e0 e1 e2 e3 e4 e5;simp [q0,q1,q2,q3,q4,q5]
    cases h
theorem signs_of {W : World} {r : List (String × DataW Unit)} {ps : List MemPlace} (h : DataW.LaidVars Tryz.prog W (("tidegate/lexer.signs", Rows.laid_tidegate_lexer_signs) :: r) ps) : Vu W 4 L2 /\ ∃ q, DataW.LaidVars Tryz.prog W r q := by
 obtain ⟨g',t',cs,Bm,p,q,hg',ht',hvar,hd,hr,_⟩:=h;obtain rfl := Option.some.inj ((show Tryz.prog.globalNamed "tidegate/lexer.signs" = some 4 by kernel_rfl).symm.trans hg');obtain rfl:=Option.some.inj ((show (Tryz.prog.globals[4]?).map (·.type)=some 306 by kernel_rfl).symm.trans ht');have:=iA (ss:=L2.filterMap fun | .str s=>some s | _=>none) (n:=17) (e:=9) (by kernel_rfl) (by kernel_rfl) (by kernel_rfl) (by kernel_rfl) hd;exact ⟨Zx (n := "tidegate/lexer.signs") (by kernel_rfl) hvar (by rw [this]; rfl) (by decide), q, hr⟩
theorem ors_of {W : World} {r : List (String × DataW Unit)} {ps : List MemPlace} (h : DataW.LaidVars Tryz.prog W (("tidegate/parser.ors", Rows.laid_tidegate_parser_ors) :: r) ps) : Vu W 1 T3 /\ ∃ q, DataW.LaidVars Tryz.prog W r q := by
 obtain ⟨g',t',cs,Bm,p,q,hg',ht',hvar,hd,hr,_⟩:=h;obtain rfl := Option.some.inj ((show Tryz.prog.globalNamed "tidegate/parser.ors" = some 1 by kernel_rfl).symm.trans hg');obtain rfl:=Option.some.inj ((show (Tryz.prog.globals[1]?).map (·.type)=some 270 by kernel_rfl).symm.trans ht');have := Nm (ss := gopL T3) (n := 1) (e := 269) (by kernel_rfl) (show Tryz.prog.underlying 269 = some (.struct #[⟨ "text", 9, 0, false, "", "tidegate/parser", 0⟩, ⟨ "op", 3, 1, false, "", "tidegate/parser", 16⟩]) by kernel_rfl) rfl rfl (by kernel_rfl) (by kernel_rfl) (by kernel_rfl) (by kernel_rfl) (by kernel_rfl) (by kernel_rfl) hd;exact ⟨Zx (n := "tidegate/parser.ors") (by kernel_rfl) hvar (by rw [this]; rfl) (by decide), q, hr⟩
theorem ands_of {W : World} {r : List (String × DataW Unit)} {ps : List MemPlace} (h : DataW.LaidVars Tryz.prog W (("tidegate/parser.ands", Rows.laid_tidegate_parser_ands) :: r) ps) : Vu W 3 Qk /\ ∃ q, DataW.LaidVars Tryz.prog W r q := by
 obtain ⟨g',t',cs,Bm,p,q,hg',ht',hvar,hd,hr,_⟩:=h;obtain rfl := Option.some.inj ((show Tryz.prog.globalNamed "tidegate/parser.ands" = some 3 by kernel_rfl).symm.trans hg');obtain rfl:=Option.some.inj ((show (Tryz.prog.globals[3]?).map (·.type)=some 270 by kernel_rfl).symm.trans ht');have := Nm (ss := gopL Qk) (n := 1) (e := 269) (by kernel_rfl) (show Tryz.prog.underlying 269 = some (.struct #[⟨ "text", 9, 0, false, "", "tidegate/parser", 0⟩, ⟨ "op", 3, 1, false, "", "tidegate/parser", 16⟩]) by kernel_rfl) rfl rfl (by kernel_rfl) (by kernel_rfl) (by kernel_rfl) (by kernel_rfl) (by kernel_rfl) (by kernel_rfl) hd;exact ⟨Zx (n := "tidegate/parser.ands") (by kernel_rfl) hvar (by rw [this]; rfl) (by decide), q, hr⟩
theorem sums_of {W : World} {r : List (String × DataW Unit)} {ps : List MemPlace} (h : DataW.LaidVars Tryz.prog W (("tidegate/parser.sums", Rows.laid_tidegate_parser_sums) :: r) ps) : Vu W 6 Q9 /\ ∃ q, DataW.LaidVars Tryz.prog W r q := by
 obtain ⟨g',t',cs,Bm,p,q,hg',ht',hvar,hd,hr,_⟩:=h;obtain rfl := Option.some.inj ((show Tryz.prog.globalNamed "tidegate/parser.sums" = some 6 by kernel_rfl).symm.trans hg');obtain rfl:=Option.some.inj ((show (Tryz.prog.globals[6]?).map (·.type)=some 316 by kernel_rfl).symm.trans ht');have := Nm (ss := gopL Q9) (n := 2) (e := 269) (by kernel_rfl) (show Tryz.prog.underlying 269 = some (.struct #[⟨ "text", 9, 0, false, "", "tidegate/parser", 0⟩, ⟨ "op", 3, 1, false, "", "tidegate/parser", 16⟩]) by kernel_rfl) rfl rfl (by kernel_rfl) (by kernel_rfl) (by kernel_rfl) (by kernel_rfl) (by kernel_rfl) (by kernel_rfl) hd;exact ⟨Zx (n := "tidegate/parser.sums") (by kernel_rfl) hvar (by rw [this]; rfl) (by decide), q, hr⟩
theorem totals_of {W : World} {r : List (String × DataW Unit)} {ps : List MemPlace} (h : DataW.LaidVars Tryz.prog W (("tidegate/parser.totals", Rows.laid_tidegate_parser_totals) :: r) ps) : Vu W 8 Kj /\ ∃ q, DataW.LaidVars Tryz.prog W r q := by
 obtain ⟨g',t',cs,Bm,p,q,hg',ht',hvar,hd,hr,_⟩:=h;obtain rfl := Option.some.inj ((show Tryz.prog.globalNamed "tidegate/parser.totals" = some 8 by kernel_rfl).symm.trans hg');obtain rfl:=Option.some.inj ((show (Tryz.prog.globals[8]?).map (·.type)=some 321 by kernel_rfl).symm.trans ht');have := Nm (ss := gopL Kj) (n := 4) (e := 269) (by kernel_rfl) (show Tryz.prog.underlying 269 = some (.struct #[⟨ "text", 9, 0, false, "", "tidegate/parser", 0⟩, ⟨ "op", 3, 1, false, "", "tidegate/parser", 16⟩]) by kernel_rfl) rfl rfl (by kernel_rfl) (by kernel_rfl) (by kernel_rfl) (by kernel_rfl) (by kernel_rfl) (by kernel_rfl) hd;exact ⟨Zx (n := "tidegate/parser.totals") (by kernel_rfl) hvar (by rw [this]; rfl) (by decide), q, hr⟩
theorem Aal {W : World} {r : List (String × DataW Unit)} {ps : List MemPlace} (h : DataW.LaidVars Tryz.prog W (("tidegate/pattern.shapes", Rows.laid_tidegate_pattern_shapes) :: r) ps) : Vu W 0 Wx /\ ∃ q, DataW.LaidVars Tryz.prog W r q := by
 obtain ⟨g',t',cs,Bm,p,q,hg',ht',hvar,hd,hr,_⟩:=h;obtain rfl := Option.some.inj ((show Tryz.prog.globalNamed "tidegate/pattern.shapes" = some 0 by kernel_rfl).symm.trans hg');obtain rfl:=Option.some.inj ((show (Tryz.prog.globals[0]?).map (·.type)=some 181 by kernel_rfl).symm.trans ht');have := cM (ss := shpL) (n := 11) (e := 180) (by kernel_rfl) (show Tryz.prog.underlying 180 = some (.struct #[⟨ "least", 3, 0, false, "", "tidegate/pattern", 0⟩, ⟨ "most", 3, 1, false, "", "tidegate/pattern", 8⟩, ⟨ "typed", 4, 2, false, "", "tidegate/pattern", 16⟩, ⟨ "cond", 4, 3, false, "", "tidegate/pattern", 17⟩, ⟨ "scope", 4, 4, false, "", "tidegate/pattern", 18⟩, ⟨ "span", 4, 5, false, "", "tidegate/pattern", 19⟩]) by kernel_rfl) ⟨rfl, rfl, rfl, rfl, rfl, rfl⟩ (by kernel_rfl) (by kernel_rfl) (by kernel_rfl) (by kernel_rfl) (by kernel_rfl) (by kernel_rfl) ⟨by kernel_rfl, by kernel_rfl, by kernel_rfl, by kernel_rfl, by kernel_rfl, by kernel_rfl⟩ (by kernel_rfl) (by kernel_rfl) hd;exact ⟨Zx (n := "tidegate/pattern.shapes") (by kernel_rfl) hvar (by rw [this]; rfl) (by decide), q, hr⟩
def aH:List Int:=[1,10,100,1000,10000,100000,1000000,10000000,100000000,1000000000,10000000000,100000000000,1000000000000,10000000000000,100000000000000,1000000000000000,10000000000000000,100000000000000000,1000000000000000000,10000000000000000000]
theorem xW {W:World}{n:String}{d:DataW Unit}{r:List (String×DataW Unit)}{ps:List MemPlace}(h:DataW.LaidVars Tryz.prog W ((n,d)::r) ps):∃q,DataW.LaidVars Tryz.prog W r q:=by
 obtain ⟨g',t',cs,Bm,p,q,hg',ht',hvar,hd,hr,_⟩:=h;exact ⟨q,hr⟩
theorem pow_of {W : World} {r : List (String × DataW Unit)} {ps : List MemPlace} (h : DataW.LaidVars Tryz.prog W (("internal/strconv.uint64pow10", Rows.laid_internal_strconv_uint64pow10) :: r) ps) : Lib.TabIs Tryz.prog W "internal/strconv.uint64pow10" .u64 aH /\ ∃ q, DataW.LaidVars Tryz.prog W r q := by
 obtain ⟨g',t',cs,Bm,p,q,hg',ht',hvar,hd,hr,_⟩:=h;obtain rfl := Option.some.inj ((show Tryz.prog.globalNamed "internal/strconv.uint64pow10" = some 7 by kernel_rfl).symm.trans hg');obtain rfl:=Option.some.inj ((show (Tryz.prog.globals[7]?).map (·.type)=some 318 by kernel_rfl).symm.trans ht');have:=Lib.cells_of_tab (k:=.u64) (zs:=aH) (n:=20) (e:=298) (by kernel_rfl) (by kernel_rfl) (by kernel_rfl) (by kernel_rfl) hd;refine ⟨?_,q,hr⟩;unfold Lib.TabIs;rw [hvar,<-this]
theorem pow_heap {W : World} (h : Lib.TabIs Tryz.prog W "internal/strconv.uint64pow10" .u64 aH) : ∃ T fr, W.heap[7]? = some (.cells (aH.map fun z => Value.int .u64 z).toArray T fr) := by
 have e : Tryz.prog.globalNamed "internal/strconv.uint64pow10" = some 7 := by kernel_rfl
 unfold Lib.TabIs World.var? at h;rw [e] at h
 have hk:∀(X:Array Value) (o:Option Obj),(match o with | some (Obj.cells cs _ _)=>some cs | _=>none)=some X->∃T fr,o=some (Obj.cells X T fr):=by
  intro X o h
  match o,h with
  | some (Obj.cells cs T fr),h=>exact ⟨T,fr,by rw [Option.some.inj h]⟩
 exact hk _ _ h
theorem globOK {W:World}(h:laidMet Tryz.prog Rows.resolveTypesRow.laid W)(hS:W.ShapedOpen Tryz.prog):GlobOK g0 W:=by
  obtain ⟨ps,h,_⟩:=h;obtain ⟨ps,h⟩:=xW h;obtain ⟨ps,h⟩:=xW h;obtain ⟨ht,ps,h⟩:=pow_of h;obtain ⟨hsigns,ps,h⟩:=signs_of h;obtain ⟨hors,ps,h⟩:=ors_of h;obtain ⟨hands,ps,h⟩:=ands_of h;obtain ⟨hsums,ps,h⟩:=sums_of h;obtain ⟨htotals,ps,h⟩:=totals_of h;obtain ⟨hshapes,ps,h⟩:=Aal h;refine ⟨fun p hp=>?_,fun p hp=>?_⟩
  . simp only [globals,Dn,Xb,or_false] at hp
    rcases hp with rfl | rfl | rfl | rfl | rfl | rfl | rfl | rfl
    . exact ⟨_,rfl,hsigns⟩
    . exact ⟨_,rfl,hors⟩
    . exact ⟨_,rfl,hands⟩
    . exact ⟨_,rfl,hsums⟩
    . exact ⟨_,rfl,htotals⟩
    . skip
      refine ⟨Ws,rfl,?_⟩;have hcell : ∀ j, W.cell? ⟨7, j, none⟩ = (aH.map fun z => Value.int .u64 z).toArray[j]? := fun j => World.var?_cell (show Tryz.prog.globalNamed "internal/strconv.uint64pow10" = some 7 by kernel_rfl) ht j
      have hs:Ws=aH.map fun z=>AV.int .u64 z:=rfl
      rw [hs];refine .ptr 7 0 _ (fun j=>Value.int .u64 (aH.getD j 0)) (fun j x hj=>?_) (fun j x hj=>?_)
      . rw [List.getElem?_map] at hj
        cases hq:aH[j]? with
        | none=>rw [hq] at hj;cases hj
        | some y=>
          refine ⟨trivial,?_⟩;rw [Dz,hcell j];simp [hq,Ii]
      . rw [List.getElem?_map] at hj
        cases hq:aH[j]? with
        | none=>rw [hq] at hj;cases hj
        | some y=>
          rw [hq] at hj;simp only [Ij,Option.some.injEq] at hj;subst hj;have e:aH.getD j 0=y:=by rw [Ii,hq];rfl
          rw [e];exact .int _ _
    . exact ⟨_,rfl,hshapes⟩
    . obtain ⟨m,hm⟩:=Tryz.laysM144.s1_3 W hS
      refine ⟨[.int .i64 m],⟨m,rfl⟩,.ptr 5 0 _ (fun _=>.int .i64 m) (fun j x hj=>?_) (fun j x hj=>?_)⟩
      . have hj0:j=0:=by have:=(List.getElem?_eq_some_iff.1 hj).1;simp at this;omega
        subst hj0;exact ⟨trivial,hm⟩
      . have hj0:j=0:=by have:=(List.getElem?_eq_some_iff.1 hj).1;simp at this;omega
        subst hj0;simp only [List.getElem?_cons_zero,Option.some.injEq] at hj;subst hj;exact .int _ _
  . obtain rfl:=Hv.1 hp
    exact ⟨rfl,pow_heap ht⟩
def uP (k:IntKind)(l:List Int):Obj->Obj
 | .cells _ t frozen=>.cells (l.map fun z=>Value.int k z).toArray t frozen
 | o=>o
def ofTab (d:DataW Unit):List Int:=match d with
 | .agg l=>l.map fun | .lit (.int _ n)=>n | _=>0
 | _=>[]
def Q8 (l:List AV):Obj->Obj
 | .cells _ t frozen=>.cells (l.map yF).toArray t frozen
 | o=>o
noncomputable def laidWorld (os:Os):World:=
 { World.holding Tryz.prog os ⟨#[],#[],[]⟩ with heap:=((((((((((World.holding Tryz.prog os ⟨#[],#[],[]⟩).heap.modify 4 (Q8 L2)).modify 1 (Q8 T3)).modify 3 (Q8 Qk)).modify 6 (Q8 Q9)).modify 8 (Q8 Kj)).modify 0 (Q8 Wx)).modify 7 (uP .u64 aH)).modify 9 (uP .u8 (ofTab Rows.laid_math_bits_deBruijn32tab))).modify 10 (uP .u8 (ofTab Rows.laid_math_bits_deBruijn64tab))) }
end Go.Proofs.YtckhoadldibflaaGreatDoor
namespace Go.Aw
open Go
section
variable {P:Program} {w:World} {r:Reach} {base:Nat} {t:TypeId} {v:Value}
end
end Go.Aw
