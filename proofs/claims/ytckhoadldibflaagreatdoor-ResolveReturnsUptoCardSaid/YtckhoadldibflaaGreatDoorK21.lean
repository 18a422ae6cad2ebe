/-
  Several texts in one: R45w, R46w, R47w, R21w, R19w, R22w, R48w, R49w, R51w, R54w, Ab, B14, B15, B16. No condition.
-/
import Derived.Test.YtckhoadldibflaaGreatDoorK20
import Derived.Test.YtckhoadldibflaaGreatDoorK10
import Derived.KernelRfl
import Derived.Test.YtckhoadldibflaaGreatDoorK19
import Derived.Test.YtckhoadldibflaaGreatDoorK15
import Derived.Test.YtckhoadldibflaaGreatDoorK01
import Derived.Test.YtckhoadldibflaaGreatDoorK18
import Derived.Test.YtckhoadldibflaaGreatDoorK17
import Derived.Test.YtckhoadldibflaaGreatDoorK09
import Derived.Test.YtckhoadldibflaaGreatDoorK14
import Derived.Test.YtckhoadldibflaaGreatDoorK13
import Derived.Test.YtckhoadldibflaaGreatDoorAx
import Derived.OpenShut
import Derived.Test.YtckhoadldibflaaGreatDoorRows
import Derived.Test.YtckhoadldibflaaGreatDoorK02
import Derived.JoinedCond
import Derived.ProofKit
import Derived.Test.YtckhoadldibflaaGreatDoorK07
import Derived.Test.YtckhoadldibflaaGreatDoorK06
set_option linter.unusedVariables false
set_option linter.unusedSimpArgs false
set_option maxHeartbeats 25600000
set_option maxRecDepth 100000
namespace Go.Proofs.YtckhoadldibflaaGreatDoor
open Go Go.Aw
section
variable {T:List e8Sc} {V:List Va} {e:Ex}
end
section
variable {T:List e8Sc} {V:List Va} {p:Pt}
end
section
variable {T:List e8Sc} {q:Qy}
theorem al_no {p:Ex->Bool}{l:List Ex}{a:Ex}(hm:a∈l)(h:(!(p a))=true):l.all p=false:=by
 rw [<-Wt,Fu];intro hl;rw [hl a hm] at h;cases h
end
theorem ydig1 {n:Int}(h:0<=n)(k:n<10):Lib.itoa n = [UInt8.ofNat (48+n.toNat)]:=by
 rw [show Lib.itoa n=Lib.decDigits n.toNat from if_neg (by omega),Lib.decDigits,dif_pos (by omega)]
theorem gP:Lib.itoa 1 = [49]:=ydig1 (by decide) (by decide)
def exT:List e8Sc:=[⟨[65],[⟨[120],0⟩]⟩]
def ye (v:Int):Ex:=⟨1,[],v,0,0,⟨0,0,[]⟩⟩
def y1:Syn:=⟨3,[113],[],0,[⟨4,[],[],0,[],0⟩,⟨6,[],[],0,[⟨5,[65],[97],0,[],18⟩,⟨5,[65],[98],0,[⟨17,[],[],7,[⟨14,[97],[120],0,[],36⟩,⟨14,[98],[120],0,[],30⟩],30⟩],23⟩],14⟩,⟨14,[97],[120],0,[],48⟩],0⟩
def z1:Qy:=⟨[113],[⟨[97],0⟩,⟨[98],0⟩],[],⟨1,[⟨0,[],0,0,0,0,Mc⟩,⟨0,[],0,1,0,0,⟨7,[ye 0,ye 1],0,0,0,v0⟩⟩],0,0,0,0,rC⟩,[ye 0]⟩
def y2:Syn:=⟨3,[113],[],0,[⟨4,[],[],0,[],0⟩,⟨10,[],[],0,[⟨5,[65],[97],0,[],20⟩,⟨5,[65],[110],0,[],25⟩],14⟩,⟨13,[],G0,1,[],37⟩],0⟩
def z2:Qy:=⟨[113],[⟨[110],0⟩,⟨[97],0⟩],[],⟨5,[⟨0,[],0,1,0,0,Mc⟩],0,0,0,0,Mc⟩,[⟨0,[],0,0,0,⟨0,1,[]⟩⟩]⟩
def y3:Syn:=⟨3,[113],[],0,[⟨4,[],[],0,[],0⟩,⟨6,[],[],0,[⟨5,[65],[97],0,[],18⟩,⟨5,[65],[97],0,[],23⟩],14⟩,⟨13,[],G0,1,[],35⟩],0⟩
def y4:Syn:=⟨3,[113],[],0,[⟨4,[121],[],0,[],11⟩,⟨5,[65],[97],0,[],19⟩,⟨13,[],G0,1,[],30⟩],0⟩
theorem y1_read:Df (Fe EE TT) [113,117,101,114,121,32,113,32,109,97,116,99,104,32,115,101,113,40,65,32,97,44,32,65,32,98,32,105,102,32,98,46,120,32,62,32,97,46,120,41,32,114,101,116,117,114,110,32,97,46,120,59]=(y1,0,0):=by kernel_rfl
theorem y2_read:Df (Fe EE TT) [113,117,101,114,121,32,113,32,109,97,116,99,104,32,108,97,99,107,115,40,65,32,97,44,32,65,32,110,41,32,114,101,116,117,114,110,32,49,59]=(y2,0,0):=by kernel_rfl
theorem y3_read:Df (Fe EE TT) [113,117,101,114,121,32,113,32,109,97,116,99,104,32,115,101,113,40,65,32,97,44,32,65,32,97,41,32,114,101,116,117,114,110,32,49,59]=(y3,0,0):=by kernel_rfl
theorem y4_read:Df (Fe EE TT) [113,117,101,114,121,32,113,32,98,121,32,121,32,109,97,116,99,104,32,65,32,97,32,114,101,116,117,114,110,32,49,59]=(y4,0,0):=by kernel_rfl
theorem y_med:Wg y1/\Wg y2/\Wg y3/\Wg y4:=⟨Cv (by kernel_rfl),Cv (by kernel_rfl),Cv (by kernel_rfl),Cv (by kernel_rfl)⟩
theorem y_wr {t:Syn}{p:Pl}{w:Ag}(h1:Al t p=0)(h2:decide (64<(C7 t:Int))=false)(h3:Ae t=w)(h4:decide (65536<(w.length:Int))=false):((Bg t p).2 != 0)=false:=by
 subst h3
 have:Bg t p=(Ae t,0):=by
  unfold Bg;rw [h1];exact (Bo (by decide)).trans ((Bo h2).trans (Bo h4))
 rw [this];rfl
theorem y1_w:((Bg y1 (.only 3)).2 != 0)=false:=y_wr (by kernel_rfl) (by kernel_rfl) (show Ae y1 = [113,117,101,114,121,32,113,10,109,97,116,99,104,32,115,101,113,40,65,32,97,44,32,65,32,98,32,105,102,32,97,46,120,32,60,32,98,46,120,41,10,114,101,116,117,114,110,32,97,46,120,59,10] by simp [y1,Ae,Un,Do,U1,Hk,Dc,Bi,Mk,Im,Fz,D6,gP]) (by kernel_rfl)
theorem y2_w:((Bg y2 (.only 3)).2 != 0)=false:=y_wr (by kernel_rfl) (by kernel_rfl) (show Ae y2 = [113,117,101,114,121,32,113,10,109,97,116,99,104,32,108,97,99,107,115,40,65,32,97,44,32,65,32,110,41,10,114,101,116,117,114,110,32,49,59,10] by simp [y2,Ae,Un,Do,U1,Hk,Dc,Bi,Mk,Im,Fz,D6,gP]) (by kernel_rfl)
theorem y3_w:((Bg y3 (.only 3)).2 != 0)=false:=y_wr (by kernel_rfl) (by kernel_rfl) (show Ae y3 = [113,117,101,114,121,32,113,10,109,97,116,99,104,32,115,101,113,40,65,32,97,44,32,65,32,97,41,10,114,101,116,117,114,110,32,49,59,10] by simp [y3,Ae,Un,Do,U1,Hk,Dc,Bi,Mk,Im,Fz,D6,gP]) (by kernel_rfl)
theorem y4_w:((Bg y4 (.only 3)).2 != 0)=false:=y_wr (by kernel_rfl) (by kernel_rfl) (show Ae y4 = [113,117,101,114,121,32,113,32,98,121,32,121,10,109,97,116,99,104,32,65,32,97,10,114,101,116,117,114,110,32,49,59,10] by simp [y4,Ae,Un,Do,U1,Hk,Dc,Bi,Mk,Im,Fz,D6,gP]) (by kernel_rfl)
theorem oW:(Ef exT != 0)=false:=by kernel_rfl
theorem y1_q:fN exT y1=(z1,0,0):=(qp_3 _ _ oW y1_w).trans (by kernel_rfl)
theorem y2_q:fN exT y2=(z2,0,0):=(qp_3 _ _ oW y2_w).trans (by kernel_rfl)
theorem y3_q:fN exT y3=(kK,23,7):=(qp_3 _ _ oW y3_w).trans (by kernel_rfl)
theorem y4_q:fN exT y4=(kK,11,16):=(qp_3 _ _ oW y4_w).trans (by kernel_rfl)
theorem exT_sc:∀s∈exT,Th s:=fun s h=>by
 rw [Ft.1 h];exact ⟨by decide,by decide,fun f hf=>by rw [Ft.1 hf];decide⟩
theorem c_qq (t:Syn)(ht:Wg t){r:Qy×Int×Int}(h:fN exT t=r):An Tryz.prog 14 [.sl 2 (exT.map Lz),.agg (cSyn t)] (.tuple [.agg (cQy r.1),.int .i64 r.2.1,.int .i64 r.2.2]):=by
 subst h;exact rf_Query exT (by decide) exT_sc t ht
theorem c_pq (s:Ag)(hs:s.length<=100000){t:Syn}(h:Df (Fe EE TT) s=(t,0,0)):An Tryz.prog 40 [.str s] (.tuple [.agg (cSyn t),.int .i64 0,.int .i64 0]):=by
 have h2:=pp_Query s hs;rw [h] at h2;exact h2
theorem l_one  : An Tryz.prog 41 [] (.sl 2 (exT.map Lz)):=by
 refine Fb 5 Tryz.func41 rfl fun H=>?_
 refine Aa (Qp (B8 (z:=2) rfl) (B7 (Qp (Fj Iv) (Qp (Jh [Iv] rfl) (Qp (Fj Nd) (Qp (Jh [Nd] rfl) (Qp lK (Rb (Qr (.sl _ _) ?_)))))))));rfl
theorem l_fails (s:Ag)(k e:Int)(t:Syn)(hs:s.length<=100000)(hp:Df (Fe EE TT) s=(t,0,0))(ht:Wg t)(hq:fN exT t=(kK,k,e)):An Tryz.prog 43 [.str s,.int .i64 k,.int .i64 e] (.bool true):=by
 refine Fb 38 Tryz.func43 rfl fun H=>?_
 refine Aa (Qp Bc (B7 (Qp H7 (Qp (Qc rfl (c_pq s hs hp)) (Qp Oz (Qp (Ch (v:=.agg Ai) rfl rfl) (Qp Lv (Qp Lv ?_))))))));refine D5 I6 fun b7=>?_
 refine By 0 Ai (_::_) (Qp Aq (Qp Aq ?_));refine Kc 7 0 rfl ?_;refine Re ?_;refine Mo ?_;refine Qn 0 rfl (Qc rfl (l_one)) (Qn 1 rfl (Cm Ai) (Qn 2 rfl (Qc rfl (c_qq t ht hq)) (Qn 3 rfl Oz (Qn 4 rfl (Ch (v:=.agg J5) rfl rfl) (Qn 5 rfl Lv (Qn 6 rfl Lv ?_))))));refine rT 7 rfl (Ke (l:=ghz) (by kernel_rfl)) ?_;rintro _ _ ⟨b10,rfl,rfl⟩;refine Oj 8 rfl (Kt 0 (.agg _) J5 (_::_) rfl) ?_;refine Qn 9 rfl Aq (Qn 10 rfl Aq ?_);refine Ig ?_;refine Av ?_;refine AW.ghost (GS.freeze (t:=10) 0 rfl rfl) ?_;refine Aa (Qp Ap (Qp Bl (Qp Cc (Qg [] Qw Ap (Qg [] Qw Ap (Qg [(29,_),(30,_)] Yw Bl (Qp Ju (Qp Cc (Qg [] Qw Ap (Qg [] Qw Ap (Qg [(34,_),(35,_)] Yw Bl (Qp Ju (Qp Bc (Rb (Qr (.bool _) ?_)))))))))))))));show AV.bool (((0:Int)==0&&(e==e))&&(k==k))=AV.bool true;have h9:(e==e)=true:=by simp
 have h8:(k==k)=true:=by simp
 rw [h9,h8];rfl
theorem pR  : An Tryz.prog 13 [] (.bool true):=by
 refine Fb 133 Tryz.func13 rfl fun H=>?_
 refine Aa (Qp Bc (B7 ?_));refine Qp (Qc rfl (c_pq [113,117,101,114,121,32,113,32,109,97,116,99,104,32,115,101,113,40,65,32,97,44,32,65,32,98,32,105,102,32,98,46,120,32,62,32,97,46,120,41,32,114,101,116,117,114,110,32,97,46,120,59] (by decide) y1_read)) ?_;refine Qp Oz (Qp (Ch (v:=.agg Ai) rfl rfl) (Qp Lv (Qp Lv ?_)));refine D5 I6 fun b1=>?_
 refine By 0 Ai (_::_) (Qp Aq (Qp Aq (Re (Rm 0 rfl (Qn 0 rfl (Qc rfl (l_one)) (Qn 1 rfl (Dp.mem (fun k=>If (k:=k) (l:=Ai) tok rfl rfl rfl rfl rfl) (fun _ h=>h)) ?_))))));refine Qn 2 rfl (Qc rfl (c_qq y1 y_med.1 y1_q)) (Qn 3 rfl Oz (Qn 4 rfl (Ch (v:=.agg J5) rfl rfl) (Qn 5 rfl Lv (Qn 6 rfl Lv ?_))));refine Xa 7 rfl (Ke (l:=ghz) (by kernel_rfl)) (by rintro _ _ ⟨b4,rfl,rfl⟩;simp) ?_;rintro _ _ ⟨b4,rfl,rfl⟩;refine Xa 8 rfl (Kt 0 (.agg _) J5 (_::_::_) rfl) (by rintro _ _ ⟨rfl,rfl⟩;simp) ?_;rintro _ _ ⟨rfl,rfl⟩;refine Qn 9 rfl Aq (Qn 10 rfl Aq ?_);refine Ig ?_;refine Av (B5 (Qp Ap (Qp Cb (Qp Cc (Qg [] Qw Ap (Qg [(23,_)] Qw Cb (Qp E5 (Qp Cc (Qg [] Qw Cw (AOL.gk (y:=.sl _ _) _ [(27,_)] rfl (gT.all ⟨Ent.self _ _,trivial⟩) (fun hG=>Cr (k:=0) (c:=.sl _ _) tok rfl rfl rfl rfl) rfl rfl ?_))))))))));refine Qg [(28,_)] Qw (E6 2 rfl rfl (rfl)) (Qg [(29,_)] Qw Cb (Qp E5 (Qp Cc (Qg [] Qw Cw (AOL.gk (y:=.sl _ _) _ [(33,_)] rfl (gT.all ⟨Ent.self _ _,trivial⟩) (fun hG=>Cr (k:=0) (c:=.sl _ _) tok rfl rfl rfl rfl) rfl rfl ?_)))));refine Yh [(34,_)] Qw (fun hG=>Eh Iv rfl rfl (by decide) (rfl)) ?_;refine Qg [(35,_)] Qw (Cm Iv) (Qg [] Qw (Fj Iv) (Qg [(36,_),(37,_)] Yw (Lf tok rfl rfl rfl rfl rfl) (Qp E5 (Qp Cc (Qg [] Qw Cw (Qg [(41,_)] Qw Cw (AOL.gk (y:=.sl _ _) _ [(42,_)] rfl (gT.all ⟨Ent.self _ _,trivial⟩) (fun hG=>Cr (k:=0) (c:=.sl _ _) tok rfl rfl rfl rfl) rfl rfl ?_)))))));refine Qg [(43,_)] Qw (E6 2 rfl rfl (rfl)) (Qg [(44,_)] Qw Cb (Qp E5 (Qp Cc (Qg [] Qw Cw (AOL.gk (y:=.sl _ _) _ [(48,_)] rfl (gT.all ⟨Ent.self _ _,trivial⟩) (fun hG=>Cr (k:=0) (c:=.sl _ _) tok rfl rfl rfl rfl) rfl rfl ?_)))));refine Qg [(49,_)] Qw (E6 1 rfl rfl (rfl)) (Qg [(50,_)] Qw Cb (Qp E5 (Bh (fun hc1=>?_) fun hc1=>B2 (Aa (Qp (Fj Ko) (Qp (Fj Ko) (Qp (Jh [Ko,Ko] rfl) (Qp (Fj Ko) (D5 ggz fun b7=>?_)))))))))
 . cases hc1
 refine By 0 Ko (_::_::_::_) ?_;refine Kc 7 0 rfl ?_;refine Re (AW.seq (Rm 0 rfl (Qn 0 rfl Cw (Qn 1 rfl Cw (Qn 2 rfl (Lw (.sl _ _) rfl) ?_)))));refine Qn 3 rfl (Eh Fq rfl rfl (by decide) (rfl)) ?_;refine Qn 4 rfl fM (Qn 5 rfl Rl (Qn 6 rfl Rl ?_));refine Qn 7 rfl (Qc rfl (e8c20 ⟨7,[ye 0,ye 1],0,0,0,v0⟩ ⟨7,[ye 0,ye 1],0,0,0,v0⟩ (by decide))) ?_;refine Qn 8 rfl Ix (Qn 9 rfl Cc (Qo 10 rfl [] Qw Cw (Qo 11 rfl [(67,_)] Qw (Lw (.sl _ _) rfl) ?_)));refine Yo 12 rfl [(68,_)] Qw (fun hG=>Eh Ko rfl rfl (by decide) (rfl)) ?_;refine Qo 13 rfl [(69,_)] Qw Rl (Qo 14 rfl [] Qw (Fj Ko) ?_);refine Yo 15 rfl [(70,_),(71,_)] Yw (fun hG=>Qc rfl (e8c20 (ye 0) (ye 0) (by decide))) ?_;refine Qo 16 rfl [(72,_)] Qw Ix (Qn 17 rfl E5 ?_);refine Ig ?_;refine Av (Hb (fun hc2=>?_) fun hc2=>B2 (Aa ?_))
 . rw [Uf,Uf] at hc2;cases hc2
 refine Qp (Qc rfl (c_pq [113,117,101,114,121,32,113,32,109,97,116,99,104,32,108,97,99,107,115,40,65,32,97,44,32,65,32,110,41,32,114,101,116,117,114,110,32,49,59] (by decide) y2_read)) ?_;refine Qp Oz (Qp (Ch (v:=.agg Ai) rfl rfl) (Qp Lv (Qp Lv ?_)));refine By 1 Ai (_::_::_) (Qp Aq (Re (Rm 1 rfl (Qn 0 rfl (Qc rfl (l_one)) (Qn 1 rfl (Dp.mem (fun k=>If (k:=k) (l:=Ai) tok rfl rfl rfl rfl rfl) (fun _ h=>h)) ?_)))));refine Qn 2 rfl (Qc rfl (c_qq y2 y_med.2.1 y2_q)) (Qn 3 rfl Oz (Qn 4 rfl (Ch (v:=.agg J5) rfl rfl) (Qn 5 rfl Lv (Qn 6 rfl Lv ?_))));refine Xa 7 rfl (Kt 0 (.agg _) J5 (_::_::_) rfl) (by rintro _ _ ⟨rfl,rfl⟩;simp) ?_;rintro _ _ ⟨rfl,rfl⟩;refine Qn 8 rfl Aq ?_;refine Ig ?_;refine Av (B5 (Qp Ap (Qp Cb (Qp Cc (Qg [] Qw Ap (Qg [(90,_)] Qw Cb (Qp E5 (Qp Cc (Qg [] Qw Cw (Qg [(94,_)] Qw Cw (AOL.gk (y:=Iq _) _ [(95,_)] rfl (gT.all ⟨Ent.self _ _,trivial⟩) (fun hG=>Cr (k:=0) (c:=Iq _) tok rfl rfl rfl rfl) rfl rfl ?_)))))))))));refine Qg [(96,_)] Qw Cb (Qp E5 (Qp Cc (Qg [] Qw Cw (Qg [(100,_)] Qw Cw (AOL.gk (y:=.sl _ _) _ [(101,_)] rfl (gT.all ⟨Ent.self _ _,trivial⟩) (fun hG=>Cr (k:=0) (c:=.sl _ _) tok rfl rfl rfl rfl) rfl rfl ?_)))));refine Qg [(102,_)] Qw (E6 1 rfl rfl (rfl)) (Qg [(103,_)] Qw Cb (Qp E5 (Qp Cc (Qg [] Qw Cw (Qg [(107,_)] Qw Cw (AOL.gk (y:=.sl _ _) _ [(108,_)] rfl (gT.all ⟨Ent.self _ _,trivial⟩) (fun hG=>Cr (k:=0) (c:=.sl _ _) tok rfl rfl rfl rfl) rfl rfl ?_))))));refine Yh [(109,_)] Qw (fun hG=>Eh Fq rfl rfl (by decide) (rfl)) ?_;refine Qg [(110,_)] Qw (Qf gix) (Qg [(111,_)] Qw B6 (Qg [(112,_)] Qw Cb (Qp E5 (Qp Cc (Qg [] Qw Cw (AOL.gk (y:=.sl _ _) _ [(116,_)] rfl (gT.all ⟨Ent.self _ _,trivial⟩) (fun hG=>Cr (k:=0) (c:=.sl _ _) tok rfl rfl rfl rfl) rfl rfl ?_))))));refine Qg [(117,_)] Qw (E6 2 rfl rfl (rfl)) (Qg [(118,_)] Qw Cb (Qp E5 (Qp Cc (Qg [] Qw Cw (AOL.gk (y:=.sl _ _) _ [(122,_)] rfl (gT.all ⟨Ent.self _ _,trivial⟩) (fun hG=>Cr (k:=0) (c:=.sl _ _) tok rfl rfl rfl rfl) rfl rfl ?_)))));refine Yh [(123,_)] Qw (fun hG=>Eh Iv rfl rfl (by decide) (rfl)) ?_;refine Qg [(124,_)] Qw (Qf Iv) (Qg [(125,_)] Qw Gr (Qg [(126,_)] Qw (Fh rfl rfl) (Qp E5 (Bh (fun hc3=>?_) fun hc3=>B2 (Aa ?_)))))
 . cases hc3
 refine Qp (Qc rfl (l_fails [113,117,101,114,121,32,113,32,109,97,116,99,104,32,115,101,113,40,65,32,97,44,32,65,32,97,41,32,114,101,116,117,114,110,32,49,59] 23 7 y3 (by decide) y3_read y_med.2.2.1 y3_q)) ?_;refine Qp Cc ?_;refine Qg [] Qw (Qc rfl (l_fails [113,117,101,114,121,32,113,32,98,121,32,121,32,109,97,116,99,104,32,65,32,97,32,114,101,116,117,114,110,32,49,59] 11 16 y4 (by decide) y4_read y_med.2.2.2 y4_q)) ?_;refine Qp Ju (Qp Bc (Rb ?_));refine Yx [.bool _] Ze S2 ?_;rfl
def sT (T:List e8Sc):Bool:=if T.any (fun s=>decide ((20:Int)<(s.fields.length:Int))||decide ((100:Int)<(s.name.length:Int))) then false else decide ((T.length:Int)<=20)
theorem few_no {T:List e8Sc}{k:Nat}{a:e8Sc}(ha:T[k]? = some a)(h:(decide ((20:Int)<(a.fields.length:Int))||decide ((100:Int)<(a.name.length:Int)))=true):sT T=false:=by
 unfold sT;rw [if_pos (List.any_eq_true.2 ⟨a,Aj ha,h⟩)]
theorem n3_few (T:List e8Sc)(hl:T.length<=1048576)(hs:∀s∈T,Th s):An Tryz.prog 12 [.sl 2 (T.map Lz)] (.bool (sT T)):=by
 refine Fb 29 Tryz.func12 rfl fun H=>?_
 refine Aa (Qp Bc (Ax (B5 (Qp Aq (Ax (AW.block ?_))))));refine AW.Aad (fun (k:Nat)=>(⟨[(0,.sl 2 (T.map Lz)),(3,.int .i64 (k:Int))],H,29⟩:St)) (fun k=>k<=T.length/\(T.take k).any (fun s=>decide ((20:Int)<(s.fields.length:Int))||decide ((100:Int)<(s.name.length:Int)))=false) (fun k=>T.length-k) (0) ?_ C2 ?_
 . exact ⟨A9 _,by simp⟩
 rintro k hR;refine B5 (Qp Ap (Qp K7 ?_));refine Qp (E6 T.length rfl rfl (by simp)) ?_;refine Qp Cn (Bh (fun hc1=>?_) fun hc1=>?_)
 .
  obtain ⟨a,ha⟩:=Cj hc1;have hlt:=Bz ha;have hm:=Aj ha;have hok:=hs a hm;have ho1:=hok.1;have ho2:=hok.2.1;refine B2 (AW.seq (AW.block (Aa (Qp K7 (Qp Ap ?_)))));refine Qp (Eh Nd rfl rfl (by omega) (Cp ha)) ?_;refine Qp (Qf [_]) (Qp Dd ?_);refine Qp (E6 a.fields.length rfl rfl (by simp)) ?_;refine Qp Gx (Qp Cc (Qg [] Qw K7 (Qg [] Qw Ap ?_)));refine Yh [(18,_),(19,_)] (Yv rfl Es Es) (fun hG=>Eh Nd rfl rfl (by omega) (Cp ha)) ?_;refine Qg [(20,_)] Qw (Qf Nd) (Qg [(21,_)] Qw Gr (Qg [(22,_)] Qw (Du (n:=a.name.length) tok rfl rfl rfl (rfl)) (Qg [(23,_)] Qw Gx (Qp E5 (Bh (fun hc2=>Aa (Qp Bc (Ra (A7 (Dz (A7 (Qr (.bool _) ?_))))))) fun hc2=>Rf (AW.region (Qp Ap (Qp Gw (Qp Aq (Ax ?_))))))))))
  . exact Ye AV.bool (few_no ha hc2)
  refine ⟨k+1,?_,?_,C2⟩
  . exact ⟨hlt,M2 hR.2 ha hc2⟩
  omega
 have hte:=Ds hc1;have hall:=hR.2;rw [hte] at hall;refine AW.exit ?_;refine B1 (Ri (Aa (Qp K7 ?_)));refine Qp (E6 T.length rfl rfl (by simp)) ?_;refine Qp Ys (Qp Bc (Rb (Qr (.bool _) ?_)));exact Ye AV.bool ((Bo hall:sT T=decide ((T.length:Int)<=20)))
def fwQ (q:Qy):Bool:=(((decide ((20:Int)<(q.vars.length:Int))||decide ((30:Int)<(q.key.length:Int)))||decide ((20:Int)<(q.returns.length:Int)))||decide ((80:Int)<(q.name.length:Int))) || !(fewP q.pattern)
def cB (q:Qy):Bool:=if fwQ q then false else q.returns.all (fun e=>decide (B3 e<=200/\E9 e<=100))
theorem fq_1 {q:Qy}(h:fwQ q=true):cB q=false:=if_pos h
theorem fq_2 {q:Qy}(h:fwQ q=false){a:Ex}(hm:a∈q.returns)(h2:(!(decide (B3 a<=200/\E9 a<=100)))=true):cB q=false:=(Bo h).trans (al_no (p:=(fun e=>decide (B3 e<=200/\E9 e<=100))) hm h2)
theorem fq_3 {q:Qy}(h:fwQ q=false)(h2:q.returns.all (fun e=>decide (B3 e<=200/\E9 e<=100))=true):cB q=true:=(Bo h).trans h2
theorem fq_r {q:Qy}(h:cB q=true):q.returns.length<=20:=by
 have h1:fwQ q=false:=by
  cases hc:fwQ q with
  | false=>rfl
  | true=>rw [fq_1 hc] at h;cases h
 unfold fwQ at h1;simp only [Eb,It] at h1;omega
theorem sh_key {T:List e8Sc}{q:Qy}(h:ShOK T q):(Yk T q).1=(eV T q).1:=by
 have h1:Yk T q=((eV T q).1,0):=by
  have hb:(Hf q.name != 0)=false:=by have:=h.n;unfold X7 at this;simpa [bne] using this
  have hv:(VrE T q != 0)=false:=by rw [h.v];rfl
  have hr:((q.returns.length:Int)==0)=false:=by
   rw [Hm];intro hc;exact h.r (bJ (by omega))
  have he:rtE q=0:=by
   unfold rtE;refine Pi ?_;rw [<-Wt,List.any_eq_true];rintro ⟨x,hx,hne⟩;rw [h.e x hx] at hne;cases hne
  exact (zP hb h.p hv).trans ((sn_c (by rw [h.k];rfl) hr).trans ((sn_d he).trans (sn_9 h.u rfl)))
 rw [h1]
theorem n4_fq (q:Qy)(hq:medQ q):An Tryz.prog 28 [.agg (cQy q)] (.bool (cB q)):=by
 have hrl:=hq.r;have hvl:=hq.v;have hkl:=hq.k;refine Fb 46 Tryz.func28 rfl fun H=>?_
 refine Aa (Qp (Hu J5) (Qp Bc (Ax (B5 (Qp (Qf ggy) (Qp Dd ?_))))));refine Qp (E6 q.vars.length rfl rfl (by simp)) ?_;refine Qp Gx (Qp Cc (Qg [] Qw (Qf giz) (Qg [(9,_)] Qw Dd ?_)));refine Yh [(10,_)] Qw (fun hG=>E6 q.key.length rfl rfl (by simp)) ?_;refine Qg [(11,_)] Qw Gx (Qp E5 (Qp Cc (Qg [] Qw (Qf [_]) (Qg [(15,_)] Qw Dd ?_))));refine Yh [(16,_)] Qw (fun hG=>E6 q.returns.length rfl rfl (by simp)) ?_;refine Qg [(17,_)] Qw Gx (Qp E5 (Qp Cc (Qg [] Qw (Qf J5) (Qg [(21,_)] Qw Gr ?_))));refine Qg [(22,_)] Qw (Du tok rfl rfl rfl rfl) (Qg [(23,_)] Qw Gx (Qp E5 (Qp Cc (Qg [] Qw (Qf gjz) (Qg [(27,_)] Qw (Cm Fq) (Qg [(28,_)] Qw (Qc rfl (n9_Few q.pattern hq.p)) (Qg [(29,_)] Qw Ix (Qp E5 (Bh (fun hc1=>Aa (Qp Bc (Rc (Qr (.bool _) ?_)))) fun hc1=>B2 (B5 (Qp Aq (Ax (AW.block ?_)))))))))))))
 . exact Ye AV.bool (fq_1 hc1)
 refine AW.Aad (fun (k:Nat)=>(⟨[(1,.ptr (cQy q)),(3,.int .i64 (k:Int))],H,46⟩:St)) (fun k=>k<=q.returns.length/\(q.returns.take k).all (fun e=>decide (B3 e<=200/\E9 e<=100))=true) (fun k=>q.returns.length-k) (0) ?_ C2 ?_
 . exact ⟨A9 _,by simp⟩
 rintro k hR;refine B5 (Qp Ap (Qp (Qf [_]) (Qp Dd ?_)));refine Qp (E6 q.returns.length rfl rfl (by simp)) ?_;refine Qp Cn (Bh (fun hc2=>?_) fun hc2=>?_)
 .
  obtain ⟨a,ha⟩:=Cj hc2;have hlt:=Bz ha;have hm:=Aj ha;refine B2 (AW.seq (AW.block (Aa (Qp (Qf [_]) (Qp Dd (Qp Ap ?_))))));refine Qp (Eh Ko rfl rfl (by omega) (mR ha)) ?_;refine Qp Rl (Qp (Qc rfl (c34 a (hq.e a hm))) (Qp Ix (Bh (fun hc3=>Aa (Qp Bc (Ra (A7 (Dz (A7 (Qr (.bool _) ?_))))))) fun hc3=>Rf (AW.region (Qp Ap (Qp Gw (Qp Aq (Ax ?_))))))))
  . exact Ye AV.bool (fq_2 hc1 hm hc3)
  refine ⟨k+1,?_,?_,C2⟩
  . exact ⟨hlt,all_on (p:=(fun e=>decide (B3 e<=200/\E9 e<=100))) hR.2 ha hc3⟩
  omega
 have hte:=Ds hc2;have hall:=hR.2;rw [hte] at hall;refine AW.exit ?_;refine B1 (Ri (Aa (Qp Bc (Rb ?_))));refine Qr (.bool _) ?_;exact Ye AV.bool (fq_3 hc1 hall)
theorem rz_src1 (f:Fi)(hf:f.name.length<=1048576):An Tryz.prog 86 [.agg (xK f)] (.bool (Hf f.name != 0)):=by
 refine Fb 7 Tryz.func86 rfl fun H=>?_
 refine Aa (Qp (Hu Iv) (Qp Bc (B7 (Qp (Qf Iv) (Qp Gr (Qp (Qc rfl (c20 f.name hf)) (Qp Cb (Qp Bc (Rb (Qr (.bool _) ?_))))))))));rfl
theorem qJ (l:List Fi)(hl:l.length<=1048576)(K:FuncId)(hK:Xq Tryz.prog K=true)(cs:List AV)(p:Fi->Bool)(hf:∀a∈l,An Tryz.prog K (.agg (xK a)::cs) (.bool (p a))):An Tryz.prog 85 [.sl 2 (l.map xK),.fn (.func K) [] cs] (.bool (l.any p)):=by
 refine Fb 9 Tryz.func85 rfl fun H=>?_
 refine Aa (Qp Bc (B7 (Qp K7 (Qp (A1 (v:=.fn _ _ _) rfl) (Qp (Qc rfl (vH l hl K hK cs p hf)) (Qp Kv (Qp Bc (Rb (Qr (.bool _) ?_)))))))));exact Eq.trans rfl (congrArg (fun q:Bool=>AV.bool q) (jD p l).2)
section
variable {p:Pg}
theorem so_1 (h:(Ef p.types != 0)=true):Gc p=(Gz,Ef p.types):=if_pos h
theorem so_b (h:(Ef p.types != 0)=false):Gc p=src1 p:=Bo h
theorem ty_nm (a:e8Sc):((Hf a.name != 0)||a.fields.any (fun f=>Hf f.name != 0)) = !(Mm a):=by
 unfold Mm X7;rw [Bool.not_and,List.not_all_eq_any_not];rfl
theorem so_2 (h1:(Ef p.types != 0)=false){a:e8Sc}(hm:a∈p.types)(h:((Hf a.name != 0)||a.fields.any (fun f=>Hf f.name != 0))=true):Gc p=(Gz,8):=by
 rw [so_b h1]
 have h2:p.types.all Mm=false:=by
  rw [<-Wt,Fu];intro hl;rw [ty_nm,hl a hm] at h;cases h
 unfold src1;rw [h2];rfl
theorem so_c (h1:(Ef p.types != 0)=false)(h2:p.types.all Mm=true){c:Bool}(h3:decide ((16:Int)<(p.queries.length:Int))=c):Gc p=if c then (Gz,5) else vY p:=by
 rw [so_b h1];unfold src1;rw [h2,h3];rfl
theorem so_e (h1:(Ef p.types != 0)=false)(h2:p.types.all Mm=true)(h3:decide ((16:Int)<(p.queries.length:Int))=false){e:Int}(h:P4 p.types [] p.queries=e)(he:(e != 0)=true):Gc p=(Gz,e):=by
 refine (so_c h1 h2 h3).trans ?_;show vY p=_;unfold vY;rw [h,if_pos he]
theorem so_d (h1:(Ef p.types != 0)=false)(h2:p.types.all Mm=true)(h3:decide ((16:Int)<(p.queries.length:Int))=false)(h:P4 p.types [] p.queries=0):Gc p=src3 p:=by
 refine (so_c h1 h2 h3).trans ?_;show vY p=_;unfold vY;rw [h];rfl
theorem so_w (h:((Bg (Iy p) (.only 0)).2 != 0)=true):src3 p=(Gz,(Bg (Iy p) (.only 0)).2):=if_pos h
theorem so_y (h:((Bg (Iy p) (.only 0)).2 != 0)=false):src3 p=(Iy p,0):=Bo h
end
section
variable {T:List e8Sc} {l:List Qy} {k:Nat} {a:Qy} {seen:List Ag}
theorem sg_e (ha:l[k]? = some a)(h:((Li T a).2 != 0)=true):P4 T seen (l.drop k)=(Li T a).2:=by rw [A2 ha,P4,if_pos h]
theorem sg_7 (ha:l[k]? = some a)(h:((Li T a).2 != 0)=false)(h2:seen.contains a.name=true):P4 T seen (l.drop k)=7:=by rw [A2 ha,P4,Bo h,if_pos h2]
theorem sg_on (ha:l[k]? = some a)(h:((Li T a).2 != 0)=false)(h2:seen.contains a.name=false):P4 T seen (l.drop k)=P4 T (seen ++ [a.name]) (l.drop (k+1)):=by rw [A2 ha,P4,Bo h,Bo h2]
end
theorem fi_row (f:Fi):([.int .i64 2,.str f.name,.str [],.int .i64 f.kind,.sl 6 [],.int .i64 0]:List AV)=C6 (fiT f):=by rw [Bf];rfl
theorem ty_row (s:e8Sc):([.int .i64 1,.str s.name,.str [],.int .i64 0,.sl 6 ((s.fields.map fiT).map C6),.int .i64 0]:List AV)=C6 (tyT s):=by rw [Bf];rfl
def Uj (T:List e8Sc)(k:Nat):List (List AV):=((T.take k).map tyT).map C6
def Sf (s:e8Sc)(k:Nat):List (List AV):=((s.fields.take k).map fiT).map C6
def Vx (p:Pg)(k:Nat):List (List AV):=(p.types.map tyT++(p.queries.take k).map (qT p.types)).map C6
theorem fr_on {s:e8Sc}{k:Nat}{f:Fi}(hf:s.fields[k]? = some f):Sf s k ++ [[.int .i64 2,.str f.name,.str [],.int .i64 f.kind,.sl 6 [],.int .i64 0]]=Sf s (k+1):=by
 unfold Sf;rw [C9 hf,Dt,Dt,fi_row];rfl
theorem tr_on {T:List e8Sc}{k:Nat}{s:e8Sc}(hs:T[k]? = some s){r:List (List AV)}(hr:r=Sf s s.fields.length):Uj T k ++ [[.int .i64 1,.str s.name,.str [],.int .i64 0,.sl 6 r,.int .i64 0]]=Uj T (k+1):=by
 subst hr;unfold Uj;rw [C9 hs,Dt,Dt,Sf,Qm,ty_row];rfl
theorem qr_on {p:Pg}{k:Nat}{q:Qy}(hq:p.queries[k]? = some q)(h:((Li p.types q).2 != 0)=false):Vx p k ++ [cSyn (Li p.types q).1]=Vx p (k+1):=by
 unfold Vx;rw [(qO h).2.2.2];show _ ++ [cSyn (qT p.types q)]=_;rw [<-Bf (qT p.types q),C9 hq];simp
theorem vN (p:Pg):∀k,(Uj p.types k).length<=p.types.length/\(Vx p k).length<=p.types.length+p.queries.length:=fun k=>by
 unfold Uj Vx;rw [Bt,Bt,Bt,Au,Bt,Bt,G2,G2];exact ⟨by omega,by omega⟩
theorem fr_len (s:e8Sc)(k:Nat):(Sf s k).length<=s.fields.length:=by
 unfold Sf;rw [Bt,Bt,G2];omega
theorem sc_tyR (T:List e8Sc)(k:Nat):∀c∈Uj T k,A0 c=true:=scLe _
theorem sc_fiR (s:e8Sc)(k:Nat):∀c∈Sf s k,A0 c=true:=scLe _
theorem sc_qR (p:Pg)(k:Nat):∀c∈Vx p k,A0 c=true:=scLe _
theorem tr_end {p:Pg}{k:Nat}(h:p.types.take k=p.types):Uj p.types k=Vx p 0:=by
 unfold Uj Vx;rw [h,Wu,A5,A8]
theorem q_end {p:Pg}{k:Nat}(h:p.queries.take k=p.queries):Vx p k=(Iy p).kids.map C6:=by
 unfold Vx;rw [h];rfl
theorem ty_all {T:List e8Sc}{k:Nat}{a:e8Sc}(ha:T[k]? = some a)(h:(T.take k).all Mm=true)(h2:((Hf a.name != 0)||a.fields.any (fun f=>Hf f.name != 0))=false):(T.take (k+1)).all Mm=true:=by
 rw [ty_nm] at h2;rw [C9 ha,List.all_append,h,Jp,List.all_nil];simpa using h2
theorem nm_on {l:List Qy}{k:Nat}{a:Qy}(ha:l[k]? = some a):(l.take k).map (·.name) ++ [a.name]=(l.take (k+1)).map (·.name):=by
 rw [C9 ha,Dt];rfl
abbrev Mq (q:Syn×Int):AV:=AV.tuple [.agg (cSyn q.1),.int .i64 q.2]
theorem rz_Source (p:Pg)(hT:p.types.length<=1048576)(hsn:∀s∈p.types,Th s)(hql:p.queries.length<=1048576)(hqs:∀q∈p.queries,medQ q/\q.name.length<=1048576/\∀v∈q.vars,v.name.length<=1048576)(hm1:∀q∈p.queries,ShOK p.types q->Jv (qT p.types q))(hmed:(Ef p.types != 0)=false->p.types.all Mm=true->p.queries.length<=16->P4 p.types [] p.queries=0->Jv (Iy p)):An Tryz.prog 33 [.agg (cPg p)] (.tuple [.agg (cSyn (Gc p).1),.int .i64 (Gc p).2]):=by
 refine Fb 116 Tryz.func33 rfl fun H=>?_
 refine Aa (Qp (Hu [_,_]) ?_);refine D5 I6 fun b2=>?_
 refine Qp Aq (Ax (B5 (Qp (Qf [_,_]) (Qp Dd (Qp (Qc rfl (e8c57 p.types hT hsn)) (Qp Aq (B7 (Qp Ap (Qp Cb (Bh (fun hc1=>Aa (Qp (Fj Ai) (Qp Ap ?_))) fun hc1=>B2 (Aa ?_)))))))))))
 .
  refine By 0 Ai (_::_) (Qp Aq (Rc ?_));refine Yx [.agg Ai,Iq _] (Zc 0) S1 ?_;exact Ye Mq (so_1 hc1)
 refine Qp (Jz (l0:=[.int .i64 0,.str [],.str [],.int .i64 0,.val (.slice none 0 0),.int .i64 0]) (l:=Ai) tok rfl rfl (by kernel_rfl) rfl) ?_;refine D5 I6 fun b5=>?_
 refine By 0 Ai (_::_::_) ?_;refine AOL.ghost (GS.cellRow 0 4 25 6 rfl rfl rfl rfl) ?_;refine Ax (B5 (Qp (Qf [_,_]) (Qp Dd ?_)));refine Qp (E6 p.types.length rfl rfl (by simp)) ?_;refine Qp Ap (Ax (AW.block ?_));refine AW.Aad (fun (q:Nat×List (List AV)×Value)=>(⟨[(1,.ptr (cPg p)),(2,.val (.pointer (some ⟨b2,0,none⟩))),(3,.int .i64 0),(5,.val (.pointer (some ⟨b5,0,none⟩))),(26,.sl 2 (p.types.map Lz)),(27,.int .i64 p.types.length),(28,.int .i64 (q.1:Int))],.row q.2.2 q.2.1.length 25 6 :: .box b5 25 [.int .i64 0,.str [],.str [],.int .i64 0,.row q.2.2 6 q.2.1,.int .i64 0] :: .box b2 25 I6::H,116⟩:St)) (fun q=>q.1<=p.types.length/\q.2.1=Uj p.types q.1/\(p.types.take q.1).all Mm=true) (fun q=>p.types.length-q.1) ((0,[],.slice none 0 0)) ?_ C2 ?_
 . exact ⟨A9 _,rfl,rfl⟩
 rintro q hR;refine Aa (Qp Cn (Re (Hb (fun hc2=>?_) fun hc2=>?_)))
 .
  obtain ⟨a,ha⟩:=Cj hc2;have hlt:=Bz ha;have hm:=Aj ha;have hok:=hsn a hm;have hso:∀c∈q.2.1,A0 c=true:=by rw [hR.2.1];exact sc_tyR _ _
  have hol:q.2.1.length<=p.types.length:=by rw [hR.2.1];exact (vN p _).1
  have hfl0:=hok.2.1;refine B2 (AW.seq (AW.block (Aa ?_)));refine Qp (Eh Nd rfl rfl (by omega) (Cp ha)) ?_;refine Qp (Cm Nd) (D5 [.str [],.sl 2 []] fun b7=>?_);refine By 0 Nd (_::_::_::_::_) ?_;refine Kc 7 0 rfl ?_;refine Ax (B5 (Qp (Qf Nd) (Qp Gr (Qp (Qc rfl (c20 a.name hok.1)) (Qp Cb (Qp Cc (Qg [] Qw (Qf [_]) (Qg [(37,_)] Qw Dd ?_))))))));refine Qg [(38,_)] Qw (Qc rfl (qJ a.fields hok.2.1 86 (by kernel_rfl) [] (fun f=>Hf f.name != 0) (fun f hf=>rz_src1 f (hok.2.2 f hf)))) ?_;refine Qp E5 (Bh (fun hc3=>Aa (Qp (Fj Ai) ?_)) fun hc3=>B2 (Aa (Qp (Qf Nd) (Qp Gr ?_))))
  .
   refine By 2 Ai (_::_::_::_) (Qp Aq (Rc (Rj (A7 ?_))));refine Yx [.agg Ai,Iq _] (Zc 2) S3 ?_;exact Ye Mq (so_2 hc1 hm hc3)
  refine Qp (Jz (l0:=[.int .i64 0,.str [],.str [],.int .i64 0,.val (.slice none 0 0),.int .i64 0]) (l:=Ai) tok rfl rfl (by kernel_rfl) rfl) ?_;refine D5 I6 fun b8=>?_
  refine By 0 Ai (_::_::_::_::_) ?_;refine AOL.ghost (GS.cellRow 0 4 25 6 rfl rfl rfl rfl) ?_;refine Ax (B5 (Qp (Qf [_]) (Qp Dd ?_)));refine Qp (E6 a.fields.length rfl rfl (by simp)) ?_;refine Qp Ap (Ax (AW.block ?_));refine AW.Aad (fun (r:Nat×List (List AV)×Value)=>(⟨[(1,.ptr (cPg p)),(2,.val (.pointer (some ⟨b2,0,none⟩))),(3,.int .i64 0),(5,.val (.pointer (some ⟨b5,0,none⟩))),(26,.sl 2 (p.types.map Lz)),(27,.int .i64 p.types.length),(28,.int .i64 (q.1:Int)),(7,.ptr (Lz a)),(8,.val (.pointer (some ⟨b8,0,none⟩))),(46,.sl 2 (a.fields.map xK)),(47,.int .i64 a.fields.length),(48,.int .i64 (r.1:Int))],.row r.2.2 r.2.1.length 25 6 :: .box b8 25 [.int .i64 1,.str a.name,.str [],.int .i64 0,.row r.2.2 6 r.2.1,.int .i64 0] :: .row q.2.2 q.2.1.length 25 6 :: .box b5 25 [.int .i64 0,.str [],.str [],.int .i64 0,.row q.2.2 6 q.2.1,.int .i64 0] :: .box b2 25 I6::H,116⟩:St)) (fun r=>r.1<=a.fields.length/\r.2.1=Sf a r.1) (fun r=>a.fields.length-r.1) ((0,[],.slice none 0 0)) ?_ C2 ?_
  . exact ⟨A9 _,rfl⟩
  rintro r hP;refine Aa (Qp Cn (Re (Hb (fun hc4=>?_) fun hc4=>?_)))
  .
   obtain ⟨x,hax⟩:=Cj hc4;have hltx:=Bz hax;have hmx:=Aj hax;have hsf:∀c∈r.2.1,A0 c=true:=by rw [hP.2];exact sc_fiR _ _
   have hfl:r.2.1.length<=a.fields.length:=by rw [hP.2];exact fr_len _ _
   refine B2 (AW.seq (AW.block (Aa ?_)));refine Qp (Eh Iv rfl rfl (by omega) (Cp hax)) ?_;refine Qp (Cm Iv) (D5 gkx fun b10=>?_);refine By 0 Iv (_::_::_::_::_::_::_) ?_;refine Kc 10 0 rfl ?_;refine Ax (AW.region (Qp Cw (Sw 1 (.row _ _ _) rfl (Qp (Qf Iv) (Qp Gr (Qp (Qf [Iq _]) (Qp B6 (Qp (Fj Ai) (Qp (Jh [Ai] rfl) ?_)))))))));refine Qe (W0 0 rfl (Et rfl) (hsf) (by simp;omega) (by simp [maxLen];omega)) ?_;rintro _ _ ⟨v60,rfl,rfl⟩;refine Qp Cw ?_;refine By 1 Ai (_::_::_::_::_::_) (Rk (AW.region (Qp Gw (Qp Ap (Ax ?_)))));refine ⟨(r.1+1,r.2.1 ++ [[.int .i64 2,.str x.name,.str [],.int .i64 x.kind,.sl 6 [],.int .i64 0]],v60),?_,?_,C2⟩
   . exact ⟨hltx,(congrArg (· ++ _) hP.2).trans (fr_on hax)⟩
   simp only;omega
  have hdx:=Fw hc4;have hfw:r.2.1=Sf a a.fields.length:=by have h:=hP.2;have h9:r.1=a.fields.length:=(by have:=G3 hc4;have:=hP.1;omega);rw [h9] at h;exact h
  refine AW.exit ?_;refine B1 (Ri (AW.region (Qp Cw ?_)));refine Sw 3 (.row _ _ _) rfl ?_;refine AOL.ghost (GS.cell (H2:=_::_::_::_::_::_) 1 4 rfl rfl rfl rfl Eu) ?_;refine Sb 1 Ai rfl (Qp (Jh [Ai] rfl) ?_);refine Qe (W0 2 rfl (Et rfl) (hso) (by simp;omega) (by simp [maxLen];omega)) ?_;rintro _ _ ⟨v67,rfl,rfl⟩;refine Qp Cw ?_;refine By 3 Ai (_::_::_::_::_::_) (Rk (AW.region (Qp Gw (Qp Ap (Ax ?_)))));refine ⟨(q.1+1,q.2.1 ++ [[.int .i64 1,.str a.name,.str [],.int .i64 0,.sl 6 r.2.1,.int .i64 0]],v67),?_,?_,GS.weaken ⟨rfl,rfl,rfl,rfl,rfl,rfl,rfl,trivial⟩ (.cons _ (.cons _ (.refl _)))⟩
  . exact ⟨hlt,(congrArg (· ++ _) hR.2.1).trans (tr_on ha hfw),ty_all ha hR.2.2 hc3⟩
  simp only;omega
 have hte:=Ds hc2;have htn:=hR.2.2;rw [hte] at htn;have hqw:=hR.2.1.trans (tr_end hte);refine AW.exit ?_;refine B1 (Ri (B5 (Qp (Qf [_]) (Qp Dd ?_))));refine Qp (E6 p.queries.length rfl rfl (by simp)) ?_;refine Qp Gx (Bh (fun hc5=>Aa (Qp (Fj Ai) ?_)) fun hc5=>?_)
 .
  refine By 2 Ai (_::_::_::_) (Qp Aq (Rc ?_));refine Yx [.agg Ai,Iq _] (Zc 2) S3 ?_;exact Ye Mq ((so_c hc1 htn hc5:Gc p=if true then (Gz,5) else vY p))
 have hq16:p.queries.length<=16:=by have:=G3 hc5;omega
 refine B2 (Aa (Qe (Iz) ?_));rintro _ _ ⟨b75,rfl,rfl⟩;refine Qp Sa (Ax (B5 (Qp (Qf [_]) (Qp Dd ?_))));refine Qp (E6 p.queries.length rfl rfl (by simp)) ?_;refine Qp Ap (Ax (AW.block ?_));refine AW.Aad (fun (w:Nat×List (List AV)×List Ag×Value)=>(⟨[(1,.ptr (cPg p)),(2,.val (.pointer (some ⟨b2,0,none⟩))),(3,.int .i64 0),(5,.val (.pointer (some ⟨b5,0,none⟩))),(11,.val (.map (some b75))),(77,.sl 18 (p.queries.map cQy)),(78,.int .i64 p.queries.length),(79,.int .i64 (w.1:Int))],.smap b75 (U3 w.2.2.1) :: .row w.2.2.2 w.2.1.length 25 6 :: .box b5 25 [.int .i64 0,.str [],.str [],.int .i64 0,.row w.2.2.2 6 w.2.1,.int .i64 0] :: .box b2 25 I6::H,116⟩:St)) (fun w=>w.1<=p.queries.length/\w.2.1=Vx p w.1/\w.2.2.1=(p.queries.take w.1).map (·.name)/\P4 p.types [] p.queries=P4 p.types w.2.2.1 (p.queries.drop w.1)) (fun w=>p.queries.length-w.1) ((0,q.2.1,[],q.2.2)) ?_ C2 ?_
 . exact ⟨A9 _,hqw,rfl,rfl⟩
 rintro w hW;refine Aa (Qp Cn (Re (Hb (fun hc6=>?_) fun hc6=>?_)))
 .
  obtain ⟨a,ha⟩:=Cj hc6;have hlt:=Bz ha;have hm:=Aj ha;have hqa:=hqs a hm;have hso:∀c∈w.2.1,A0 c=true:=by rw [hW.2.1];exact sc_qR _ _
  have hol:w.2.1.length<=p.types.length+p.queries.length:=by rw [hW.2.1];exact (vN p _).2
  refine B2 (AW.seq (AW.block (Aa ?_)));refine Qp (Eh J5 rfl rfl (by omega) (Cp ha)) ?_;refine Qp (Cm J5) (D5 ghz fun b13=>?_);refine By 0 J5 (_::_::_::_::_::_) ?_;refine Kc 13 0 rfl ?_;refine B7 (Qp (Qf [_,_]) (Qp Dd (Qp (Cm J5) (Qp (Qc rfl (rz_Show p.types hT hsn a hqa.1 hqa.2.1 hqa.2.2 (hm1 a hm))) (Qp Oz (Qp (Ch (v:=.agg Ai) rfl rfl) (Qp Lv ?_)))))));refine D5 I6 fun b14=>?_
  refine By 0 Ai (_::_::_::_::_::_) (Qp Aq ?_);refine Kc 14 0 rfl ?_;refine Ax (B5 (Qp Ap (Qp Cb (Bh (fun hc7=>Aa (Qp (Fj Ai) (Qp Ap ?_))) fun hc7=>B2 (B5 (Qp Bx (Qp (Qf J5) (Qp Gr ?_))))))))
  .
   refine By 3 Ai (_::_::_::_::_) (Qp Aq (Rc (Rj (A7 ?_))));refine Yx [.agg Ai,Iq _] (Zc 3) S4 ?_;exact Ye Mq (so_e hc1 htn hc5 (hW.2.2.2.trans (sg_e ha hc7)) hc7)
  refine AOL.Aag (Mn (i:=0) (ks:=w.2.2.1) tok rfl rfl rfl rfl rfl (by kernel_rfl) rfl rfl rfl) rfl rfl ?_;refine Bh (fun hc8=>?_) fun hc8=>?_
  .
   have hc8n:w.2.2.1.contains a.name=true:=hc8;refine Aa (Qp (Fj Ai) ?_);refine By 3 Ai (_::_::_::_::_) (Qp Aq (Rc (Rj (A7 ?_))));refine Yx [.agg Ai,Iq _] (Zc 3) S4 ?_;exact Ye Mq (so_e hc1 htn hc5 (hW.2.2.2.trans (sg_7 ha hc7 hc8n)) rfl)
  have hc8n:w.2.2.1.contains a.name=false:=hc8;refine B2 (Aa (Qp Bx (Qp (Qf J5) (Qp Gr (Rt (O7 (i:=0) (H2:=_::_::_::_::_) tok rfl rfl rfl rfl rfl rfl rfl rfl (hc8) rfl) (Ax (AW.region (Qp Cw (Sw 2 (.row _ _ _) rfl (Qp (Cm Ai) (Qp (Jh [Ai] rfl) ?_)))))))))));refine Qe (W0 1 rfl (Et rfl) (hso) (by simp;omega) (by simp [maxLen];omega)) ?_;rintro _ _ ⟨v106,rfl,rfl⟩;refine Qp Cw ?_;refine By 2 Ai (_::_::_::_::_) (Rk (AW.region (Qp Gw (Qp Ap (Ax ?_)))));refine ⟨(w.1+1,w.2.1 ++ [cSyn (Li p.types a).1],w.2.2.1 ++ [a.name],v106),?_,?_,C2⟩
  . exact ⟨hlt,(congrArg (· ++ _) hW.2.1).trans (qr_on ha hc7),(congrArg (· ++ _) hW.2.2.1).trans (nm_on ha),hW.2.2.2.trans (sg_on ha hc7 hc8n)⟩
  simp only;omega
 have hde:=Fw hc6;have hte:=Ds hc6;have hsg:=hW.2.2.2;rw [hde,P4] at hsg;obtain ⟨w1,w2,w3,w4⟩:=w;have hw2:w2=(Iy p).kids.map C6:=hW.2.1.trans (q_end hte);subst hw2;refine AW.exit ?_;refine B1 (Ri (B5 ?_));refine AOL.ghost (GS.cell (H2:=_::_::_::_::_) 2 4 rfl rfl rfl rfl Eu) ?_;refine Sb 2 Ai rfl (Qp (Qc rfl (vF (Iy p) (hmed hc1 htn hq16 hsg))) (Qp Aq (B7 (Qp Ap (Qp Cb (Bh (fun hc9=>Aa (Qp (Fj Ai) (Qp Ap ?_))) fun hc9=>B2 (Aa (Sb 2 Ai rfl ?_))))))))
 .
  refine By 3 Ai (_::_::_::_::_) (Qp Aq (Rc ?_));refine Yx [.agg Ai,Iq _] (Zc 3) S4 ?_;exact Ye Mq (((so_d hc1 htn hc5 hsg).trans (so_w hc9)))
 refine By 3 Ai (_::_::_::_::_) (Qp Aq (Rb ?_));refine Yx [.agg Ai,Iq _] (Zc 3) S4 ?_;exact Ye Mq (((so_d hc1 htn hc5 hsg).trans (so_y hc9)))
theorem ret_c {p:Pg}(h:((Gc p).2 != 0)=false)(hm:(Ef p.types != 0)=false->p.types.all Mm=true->p.queries.length<=16->P4 p.types [] p.queries=0->Jv (Iy p)) :
  An Tryz.prog 22 [.agg (cSyn (Gc p).1)] (.tuple [.agg (cPg p),.int .i64 0,.int .i64 0])/\An Tryz.prog 36 [.agg (cSyn (Gc p).1)] (.tuple [.str (Ae (Iy p)),.int .i64 0])/\
  An Tryz.prog 37 [.str (Ae (Iy p))] (.tuple [.agg (cSyn (Df (Kz EE TT) (Ae (Iy p))).1),.int .i64 0,.int .i64 0])/\An Tryz.prog 22 [.agg (cSyn (Df (Kz EE TT) (Ae (Iy p))).1)] (.tuple [.agg (cPg p),.int .i64 0,.int .i64 0]):=by
 obtain ⟨h1,h2,h3,h4,h5,h6,h7,h8⟩:=src_rets h hm;rw [h1];have p1:=kM (Iy p) h2;have p2:=kM _ h7;have p3:=tZ (Iy p) h2;have p4:=pp_Parse (Ae (Iy p)) (by omega);rw [h5] at p1;rw [h8] at p2;rw [h3] at p3;rw [h6] at p4;exact ⟨p1,p3,p4,p2⟩
def xT (p:Pg):Bool:=if (!(sT p.types))||decide ((20:Int)<(p.queries.length:Int)) then false else p.queries.all cB
theorem fg_1 {p:Pg}(h:((!(sT p.types))||decide ((20:Int)<(p.queries.length:Int)))=true):xT p=false:=if_pos h
theorem fg_2 {p:Pg}(h:((!(sT p.types))||decide ((20:Int)<(p.queries.length:Int)))=false){a:Qy}(hm:a∈p.queries)(h2:(!(cB a))=true):xT p=false:=by
 refine (Bo h).trans ?_;rw [<-Wt,Fu];intro hl;rw [hl a hm] at h2;cases h2
theorem fg_3 {p:Pg}(h:((!(sT p.types))||decide ((20:Int)<(p.queries.length:Int)))=false)(h2:p.queries.all cB=true):xT p=true:=(Bo h).trans h2
theorem fg_q {p:Pg}(h:xT p=true):∀q∈p.queries,cB q=true:=by
 unfold xT at h;split at h
 . cases h
 exact Fu.1 h
theorem fq_on {l:List Qy}{k:Nat}{a:Qy}(ha:l[k]? = some a)(h:(l.take k).all cB=true)(h2:(!(cB a))=false):(l.take (k+1)).all cB=true:=by
 rw [C9 ha,List.all_append,h,Jp,List.all_nil];simpa using h2
theorem n4_Few (p:Pg)(hT:p.types.length<=1048576)(hsn:∀s∈p.types,Th s)(hql:p.queries.length<=1048576)(hqs:∀q∈p.queries,medQ q):An Tryz.prog 32 [.agg (cPg p)] (.bool (xT p)):=by
 refine Fb 28 Tryz.func32 rfl fun H=>?_
 refine Aa (Qp (Hu [_,_]) (Qp Bc (Ax (B5 (Qp (Qf [_,_]) (Qp Dd ?_))))));refine Qp (Qc rfl (n3_few p.types hT hsn)) ?_;refine Qp Ix (Qp Cc (Qg [] Qw (Qf [_]) (Qg [(9,_)] Qw Dd ?_)));refine Yh [(10,_)] Qw (fun hG=>E6 p.queries.length rfl rfl (by simp)) ?_;refine Qg [(11,_)] Qw Gx (Qp E5 (Bh (fun hc1=>?_) fun hc1=>?_))
 .
  refine Aa (Qp Bc (Rc ?_));refine Qr (.bool _) ?_;exact Ye AV.bool (fg_1 hc1)
 refine B2 (B5 (Qp Aq (Ax (AW.block ?_))));refine AW.Aad (fun (k:Nat)=>(⟨[(1,.ptr (cPg p)),(3,.int .i64 (k:Int))],H,28⟩:St)) (fun k=>k<=p.queries.length/\(p.queries.take k).all cB=true) (fun k=>p.queries.length-k) (0) ?_ C2 ?_
 . exact ⟨A9 _,by simp⟩
 rintro k hR;refine B5 (Qp Ap (Qp (Qf [_]) (Qp Dd ?_)));refine Qp (E6 p.queries.length rfl rfl (by simp)) ?_;refine Qp Cn (Bh (fun hc2=>?_) fun hc2=>?_)
 .
  obtain ⟨a,ha⟩:=Cj hc2;have hlt:=Bz ha;have hm:=Aj ha;refine B2 (AW.seq (AW.block (Aa (Qp (Qf [_]) (Qp Dd (Qp Ap ?_))))));refine Qp (Eh J5 rfl rfl (by omega) (Cp ha)) ?_;refine Qp (Cm J5) ?_;refine Qp (Qc rfl (n4_fq a (hqs a hm))) ?_;refine Qp Ix (Bh (fun hc3=>?_) fun hc3=>?_)
  .
   refine Aa (Qp Bc (Ra (A7 (Dz (A7 ?_)))));refine Qr (.bool _) ?_;exact Ye AV.bool (fg_2 hc1 hm hc3)
  refine Rf (AW.region (Qp Ap (Qp Gw (Qp Aq (Ax ?_)))));refine ⟨k+1,?_,?_,C2⟩
  . exact ⟨hlt,fq_on ha hR.2 hc3⟩
  omega
 have hte:=Ds hc2;have hall:=hR.2;rw [hte] at hall;refine AW.exit ?_;refine B1 (Ri (Aa (Qp Bc (Rb ?_))));refine Qr (.bool _) ?_;exact Ye AV.bool (fg_3 hc1 hall)
theorem cR (p:Pg)(hT:p.types.length<=1048576)(hsn:∀s∈p.types,Th s)(hql:p.queries.length<=1048576)(hqs:∀q∈p.queries,medQ q/\q.name.length<=1048576/\∀v∈q.vars,v.name.length<=1048576):An Tryz.prog 10 [.agg (cPg p)] (.bool true):=by
 have hmg:medG p:=⟨hT,fun s hs=>(hsn s hs).2.1,hql,fun q hq=>(hqs q hq).1⟩;refine Fb 87 Tryz.func10 rfl fun H=>?_
 refine Aa (Qp (Hu [_,_]) (Qp Bc (Ax (B5 (Qp (Cm [_,_]) ?_)))));refine Qp (Qc rfl (n4_Few p hT hsn hql (fun q hq=>(hqs q hq).1))) ?_;refine Qp Ix (Bh (fun hc1=>?_) fun hc1=>?_)
 .
  refine Aa ?_;refine Qp (Qc rfl (pR)) ?_;refine Qp Bc (Rc ?_);refine Qr (.bool _) ?_;rfl
 have hf:xT p=true:=by simpa using hc1
 have hm1:∀q∈p.queries,ShOK p.types q->Jv (qT p.types q):=fun q hq h=>sh_med h (sh_key h) (fq_r (fg_q hf q hq))
 have hmed:(Ef p.types != 0)=false->p.types.all Mm=true->p.queries.length<=16->P4 p.types [] p.queries=0->Jv (Iy p):=fun h1 h2 h3 h4=>src_med h1 h2 h3 h4 fun q hq=>fq_r (fg_q hf q hq)
 refine B2 (Aa (Qp (Cm [_,_]) ?_));refine Qp (Qc rfl (rz_Source p hT hsn hql hqs hm1 hmed)) ?_;refine Qp Oz ?_;refine Qp (Ch (v:=.agg Ai) rfl rfl) ?_;refine Qp Lv ?_;refine D5 I6 fun b3=>?_
 refine By 0 Ai (_::_) ?_;refine Qp Aq ?_;refine Kc 3 0 rfl ?_;refine Ax (B5 (Qp Ap (Qp Cb (Bh (fun hc2=>?_) fun hc2=>?_))))
 .
  have hsb:=src_bad hc2;refine Aa ?_;refine Qp (Qc rfl (pR)) ?_;refine Qp Cc (Qg [] Qw (Cm Ai) (Qg [] Qw (Fj Ai) ?_));refine Qg [(29,_),(30,_)] Yw (Qc rfl (r_Same (Gc p).1 Gz)) ?_;refine Qp Ju (Qp Bc (Rc ?_));refine Qr (.bool _) ?_;exact congrArg AV.bool (by rw [hsb];rfl)
 have hrc:=ret_c hc2 hmed;refine B2 (Aa (Qp (Cm Ai) ?_));refine Qp (Qc rfl (hrc.1)) ?_;refine Qp Oz ?_;refine Qp (Ch (v:=.agg [_,_]) rfl rfl) ?_;refine Qp Lv (Qp Lv ?_);refine D5 [.sl 2 [],.sl 18 []] fun b5=>?_
 refine By 0 [_,_] (_::_) ?_;refine Qp Aq (Qp Aq ?_);refine Kc 5 0 rfl ?_;refine B7 (Qp (Cm Ai) ?_);refine Qp (Qc rfl (hrc.2.1)) ?_;refine Qp Oz (Qp xE (Qp Lv (Qp Lu (Qp Aq (B7 (Qp H7 ?_))))));refine Qp (Qc rfl (hrc.2.2.1)) ?_;refine Qp Oz ?_;refine Qp (Ch (v:=.agg Ai) rfl rfl) ?_;refine Qp Lv (Qp Lv ?_);refine D5 I6 fun b10=>?_
 refine By 0 Ai (_::_) ?_;refine Qp Aq (Qp Aq ?_);refine Kc 10 0 rfl ?_;refine B7 (Qp (Cm Ai) ?_);refine Qp (Qc rfl (hrc.2.2.2)) ?_;refine Qp Oz ?_;refine Qp (Ch (v:=.agg [_,_]) rfl rfl) ?_;refine Qp Lv (Qp Lv ?_);refine D5 [.sl 2 [],.sl 18 []] fun b13=>?_
 refine By 0 [_,_] (_::_) ?_;refine Qp Aq (Qp Aq ?_);refine Kc 13 0 rfl ?_;refine B7 ?_;refine Qp (Qc rfl (pR)) ?_;refine Qp Cc (Qg [] Qw Ap (Qg [(58,_)] Qw Bl (Qp Ju (Qp Cc (Qg [] Qw Ap (Qg [(62,_)] Qw Bl (Qp Ju (Qp Cc (Qg [] Qw Ap ?_)))))))));refine Qg [(66,_)] Qw Bl (Qp Ju (Qp Cc (Qg [] Qw Ap (Qg [(70,_)] Qw Bl (Qp Ju (Qp Cc (Qg [] Qw Ap (Qg [(74,_)] Qw Bl (Qp Ju ?_)))))))));refine Qp Cc (Qg [] Qw (Cm [_,_]) (Qg [] Qw (Cm [_,_]) ?_));refine Qg [(78,_),(79,_)] Yw (Qc rfl (n4_sp p hmg)) ?_;refine Qp Ju (Qp Cc (Qg [] Qw (Cm [_,_]) (Qg [] Qw (Cm [_,_]) ?_)));refine Qg [(83,_),(84,_)] Yw (Qc rfl (n4_sp p hmg)) ?_;refine Qp Ju (Qp Bc (Rb ?_));refine Qr (.bool _) ?_;rfl
end Go.Proofs.YtckhoadldibflaaGreatDoor
namespace Go.Aw
open Go
section
variable {H:Type} {enc:TypeId×Value->H} {P:Program} {w:World} {sp:Nat->Bool} {hd:Bool} {B:DataW H->Nat} {BA:List (DataW H)->Nat}
end
end Go.Aw
namespace Go.Proofs.YtckhoadldibflaaGreatDoor
open Go Go.Aw
theorem G7 {H:Type}:Bulk (Rows.uptoBulk (H:=H)) Rows.uptoBulkAll where
 nil:=by simp [Rows.uptoBulkAll]
 cons:=by intro x r;simp [Rows.uptoBulkAll]
 agg:=by intro ps;simp [Rows.uptoBulk]
 slice:=by intro es sp;simp only [Rows.uptoBulk];omega
 str:=by intro s;simp [Rows.uptoBulk]
 one:=by
  intro d;cases d with
  | lit l=>cases l <;> simp [Rows.uptoBulk]
  | _=>simp [Rows.uptoBulk]
theorem u_Sc : Tryz.prog.underlying 69 = some (.struct #[⟨ "Name", 9, 0, false, "", "", 0⟩, ⟨ "Fields", 67, 1, false, "", "", 16⟩]) := by kernel_rfl
theorem z_Sc:Tryz.prog.cellsOf 69=2:=by kernel_rfl
theorem u_Tys:Tryz.prog.underlying 22=some (.slice 69):=by kernel_rfl
theorem z_Tys:Tryz.prog.cellsOf 22=1:=by kernel_rfl
theorem u_Fi : Tryz.prog.underlying 111 = some (.struct #[⟨ "Name", 9, 0, false, "", "", 0⟩, ⟨ "Kind", 3, 1, false, "", "", 16⟩]) := by kernel_rfl
theorem z_Fi:Tryz.prog.cellsOf 111=2:=by kernel_rfl
theorem u_Fis:Tryz.prog.underlying 67=some (.slice 111):=by kernel_rfl
theorem z_Fis:Tryz.prog.cellsOf 67=1:=by kernel_rfl
def I64 (n:Int):Prop:=-9223372036854775808<=n/\n<=9223372036854775807
theorem wf_I64 {n:Int}(h:(Lit.int .i64 n).wf=true):I64 n:=by
 have h1:(decide (-9223372036854775808<=n)&&decide (n<=9223372036854775807))=true:=h;simp only [Cd,Ck] at h1;exact h1
theorem P9 {α:Type}{f:α->Nat}(h:∀x,1<=f x):∀l:List α,l.length<=(l.map f).sum
 | []=>Br _
 | a::r=>by have:=P9 h r;have:=h a;simp only [Bb,Ao,Ew];omega
theorem Qh {α:Type}{f:α->Nat}:∀{l:List α} {x:α},x∈l->f x<=(l.map f).sum
  | a::r,x,h=>by
    rcases Db.1 h with rfl | h
    . simp only [Ao,Ew];omega
    have:=Qh (f:=f) h;simp only [Ao,Ew];omega
theorem sumB_ones {α:Type}(l:List α):(l.map fun _=>1).sum=l.length:=by
 induction l with
 | nil=>rfl
 | cons a r ih=>simp only [Ao,Ew,Bb,ih];omega
def scN (s:e8Sc):Nat:=s.name.length+(s.fields.map fun f=>f.name.length+1).sum+1
def tysN (l:List e8Sc):Nat:=(l.map scN).sum+1
theorem sc_ok {s:e8Sc}(h:scN s<=1048576):Th s:=by
 unfold scN at h;have h1:=P9 (f:=fun f:Fi=>f.name.length+1) (fun _=>Nat.succ_le_succ (A9 _)) s.fields;exact ⟨by omega,by omega,fun f hf=>by have:=Qh (f:=fun f:Fi=>f.name.length+1) hf;have h2:f.name.length+1<=(s.fields.map fun f=>f.name.length+1).sum:=this;omega⟩
theorem tys_ok {l:List e8Sc}(h:tysN l<=1048576):l.length<=1048576/\∀s∈l,Th s:=by
 unfold tysN at h;have h1:=P9 (f:=scN) (fun s=>by unfold scN;omega) l;exact ⟨by omega,fun s hs=>sc_ok (by have:=Qh (f:=scN) hs;omega)⟩
section
variable {H:Type} {enc:TypeId×Value->H} {w:World} {sp:Nat->Bool} {hd:Bool}
abbrev R (enc:TypeId×Value->H)(w:World)(sp:Nat->Bool)(hd:Bool){α:Type}(A3:Nat)(t:TypeId)(f:α->List AV)(ok:α->Prop)(bk:α->Nat):Prop:=Rd enc Tryz.prog w sp hd Rows.uptoBulk A3 t f ok bk
theorem rI (A3:Nat):R enc w sp hd A3 3 (fun n:Int=>[.int .i64 n]) I64 (fun _=>1):=(Rd.int (k:=.i64) (by kernel_rfl) G7).congr rfl (fun _ h=>wf_I64 h) (fun _=>Br _)
theorem rS (A3:Nat):R enc w sp hd A3 9 (fun s:List UInt8=>[.str s]) (fun s=>s.length<=maxLen) (fun s=>s.length+1):=Rd.str (by kernel_rfl) G7
theorem z3:Tryz.prog.cellsOf 3=1:=by kernel_rfl
theorem z9:Tryz.prog.cellsOf 9=1:=by kernel_rfl
theorem rFi (A3:Nat):R enc w sp hd A3 111 xK (fun _=>True) (fun f=>f.name.length+1):=
 (Rd.struct' u_Fi G7 rfl (by kernel_rfl) (by kernel_rfl) fun m _=>Rds.cons G7 z9 (rS m) <| Rds.cons G7 z3 (rI m) Rds.nil).map
  (fun x=>(⟨x.1,x.2.1⟩:Fi)) (fun _=>rfl) (fun _ _=>trivial) (fun _=>by simp only;omega)
theorem rSc (A3:Nat):R enc w sp hd A3 69 Lz (fun _=>True) scN:=
 (Rd.struct' u_Sc G7 rfl (by kernel_rfl) (by kernel_rfl) fun m _=>Rds.cons G7 z9 (rS m) <| Rds.cons G7 z_Fis (Rd.slice' (z:=2) u_Fis z_Fi (by decide) G7 fun k _=>rFi k) Rds.nil).map
  (fun x=>(⟨x.1,x.2.1⟩:e8Sc)) (fun _=>rfl) (fun _ _=>trivial) (fun _=>by simp only [scN];omega)
end
def ptB (p:Pt):Nat:=((F2 p).map fun x=>1+B3 x.cond).sum
theorem uX:∀l:List Pt,((l.flatMap F2).map fun x=>1+B3 x.cond).sum=(l.map ptB).sum
 | []=>rfl
 | a::r=>by rw [Ld,Dt,List.sum_append,uX r,Ao,Ew];rfl
theorem ptB_eq (p:Pt):ptB p=1+B3 p.cond+(p.args.map ptB).sum:=by
 rw [<-uX];unfold ptB;rw [Mx,Ao,Ew]
theorem ptB_med {p:Pt}(h:ptB p<=1048576):medP p:=by
 unfold ptB at h;refine ⟨?_,fun x hx=>?_⟩
 .
  have:=P9 (f:=fun x:Pt=>1+B3 x.cond) (fun x=>by omega) (F2 p);rw [jQ] at this;omega
 have:=Qh (f:=fun x:Pt=>1+B3 x.cond) hx;omega
def qyB (q:Qy):Nat:=q.name.length+(q.vars.map fun v=>v.name.length+1).sum+q.key.length+ptB q.pattern+(q.returns.map B3).sum+1
theorem szq_pos (e:Ex):1<=B3 e:=by rw [Hi];omega
theorem qy_ok {q:Qy}(h:qyB q<=1048576):medQ q/\q.name.length<=1048576/\∀v∈q.vars,v.name.length<=1048576:=by
 unfold qyB at h;have h1:=P9 (f:=fun v:Va=>v.name.length+1) (fun _=>Nat.succ_le_succ (A9 _)) q.vars;have h2:=P9 (f:=B3) szq_pos q.returns;exact ⟨⟨by omega,by omega,by omega,ptB_med (by omega),fun e he=>by have:=Qh (f:=B3) he;omega⟩,by omega,fun v hv=>by have:=Qh (f:=fun v:Va=>v.name.length+1) hv;omega⟩
section
variable {H:Type} {enc:TypeId×Value->H} {w:World} {sp:Nat->Bool} {hd:Bool}
theorem z_34:Tryz.prog.cellsOf 34=3:=by kernel_rfl
theorem z_32:Tryz.prog.cellsOf 32=1:=by kernel_rfl
theorem z_36:Tryz.prog.cellsOf 36=8:=by kernel_rfl
theorem z_31:Tryz.prog.cellsOf 31=1:=by kernel_rfl
theorem z_38:Tryz.prog.cellsOf 38=14:=by kernel_rfl
theorem z_50:Tryz.prog.cellsOf 50=2:=by kernel_rfl
theorem z_29:Tryz.prog.cellsOf 29=1:=by kernel_rfl
theorem z_30:Tryz.prog.cellsOf 30=1:=by kernel_rfl
theorem rV (A3:Nat):R enc w sp hd A3 34 cV (fun _=>True) (fun v=>v.text.length+1):=
 (Rd.struct' Tryz.underlying34 G7 rfl (by kernel_rfl) (by kernel_rfl) fun m _=>Rds.cons G7 z3 (rI m) <| Rds.cons G7 z3 (rI m) <| Rds.cons G7 z9 (rS m) Rds.nil).map
  (fun x=>(⟨x.1,x.2.1,x.2.2.1⟩:Vl)) (fun _=>rfl) (fun _ h=>trivial) (fun _=>by simp only;omega)
theorem iJ:H8=cE:=funext Nb
theorem sL:Oq=cPt:=funext Xk
theorem rE (A3:Nat):R enc w sp hd A3 36 cE (fun _=>True) B3:=by
  induction A3 using Nat.strongRecOn with
  | _ n ih=>
    exact (Rd.struct' Tryz.underlying36 G7 rfl (by kernel_rfl) (by kernel_rfl) fun m hm=>Rds.cons G7 z3 (rI m) <| Rds.cons G7 z_32 (Rd.slice' (z:=8) Tryz.underlying32 z_36 (by decide) G7 fun k hk=>ih k (Nat.lt_trans hk hm)) <|
      Rds.cons G7 z3 (rI m) <| Rds.cons G7 z3 (rI m) <| Rds.cons G7 z3 (rI m) <| Rds.cons G7 z_34 (rV m) Rds.nil).map
      (fun x=>(⟨x.1,x.2.1,x.2.2.1,x.2.2.2.1,x.2.2.2.2.1,x.2.2.2.2.2.1⟩:Ex)) (fun x=>by simp [cE,cV,iJ]) (fun _ _=>trivial) (fun x=>by rw [Hi];simp only;omega)
theorem rPt (A3:Nat):R enc w sp hd A3 38 cPt (fun _=>True) ptB:=by
  induction A3 using Nat.strongRecOn with
  | _ n ih=>
    exact (Rd.struct' Tryz.underlying38 G7 rfl (by kernel_rfl) (by kernel_rfl) fun m hm=>Rds.cons G7 z3 (rI m) <| Rds.cons G7 z_31 (Rd.slice' (z:=14) Tryz.underlying31 z_38 (by decide) G7 fun k hk=>ih k (Nat.lt_trans hk hm)) <|
      Rds.cons G7 z3 (rI m) <| Rds.cons G7 z3 (rI m) <| Rds.cons G7 z3 (rI m) <| Rds.cons G7 z3 (rI m) <| Rds.cons G7 z_36 (rE m) Rds.nil).map
      (fun x=>(⟨x.1,x.2.1,x.2.2.1,x.2.2.2.1,x.2.2.2.2.1,x.2.2.2.2.2.1,x.2.2.2.2.2.2.1⟩:Pt)) (fun x=>by simp [cPt,cE,cV,iJ,sL]) (fun _ _=>trivial) (fun x=>by rw [ptB_eq];simp only;omega)
theorem rVa (A3:Nat):R enc w sp hd A3 50 Tn (fun _=>True) (fun v=>v.name.length+1):=
 (Rd.struct' Tryz.underlying50 G7 rfl (by kernel_rfl) (by kernel_rfl) fun m _=>Rds.cons G7 z9 (rS m) <| Rds.cons G7 z3 (rI m) Rds.nil).map
  (fun x=>(⟨x.1,x.2.1⟩:Va)) (fun _=>rfl) (fun _ _=>trivial) (fun _=>by simp only;omega)
theorem rQy (A3:Nat):R enc w sp hd A3 40 cQy (fun _=>True) qyB:=
 (Rd.struct' Tryz.underlying40 G7 rfl (by kernel_rfl) (by kernel_rfl) fun m _=>Rds.cons G7 z9 (rS m) <| Rds.cons G7 z_29 (Rd.slice' (z:=2) Tryz.underlying29 z_50 (by decide) G7 fun k _=>rVa k) <|
  Rds.cons G7 z_30 (Rd.slice' (z:=1) Tryz.underlying30 z3 (by decide) G7 fun k _=>rI k) <| Rds.cons G7 z_38 (rPt m) <| Rds.cons G7 z_32 (Rd.slice' (z:=8) Tryz.underlying32 z_36 (by decide) G7 fun k _=>rE k) Rds.nil).map
  (fun x=>(⟨x.1,x.2.1,x.2.2.1,x.2.2.2.1,x.2.2.2.2.1⟩:Qy)) (fun x=>by simp [cQy,cQyW,cPt,cE,cV,iJ,sL,cI]) (fun _ _=>trivial) (fun x=>by simp only [qyB,sumB_ones];omega)
end
def pgB (p:Pg):Nat:=(p.types.map scN).sum+(p.queries.map qyB).sum+1
theorem qyB_pos (q:Qy):1<=qyB q:=by unfold qyB;omega
theorem pg_ok {p:Pg}(h:pgB p<=1048576):(p.types.length<=1048576/\∀s∈p.types,Th s)/\p.queries.length<=1048576/\∀q∈p.queries,medQ q/\q.name.length<=1048576/\∀v∈q.vars,v.name.length<=1048576:=by
 unfold pgB at h;have h2:=P9 (f:=qyB) qyB_pos p.queries;exact ⟨tys_ok (by unfold tysN;omega),by omega,fun q hq=>qy_ok (by have:=Qh (f:=qyB) hq;omega)⟩
section
variable {H:Type} {enc:TypeId×Value->H} {w:World} {sp:Nat->Bool} {hd:Bool}
abbrev u_Pg:=@Tryz.underlying59
theorem z_57:Tryz.prog.cellsOf 57=1:=by kernel_rfl
theorem z_40:Tryz.prog.cellsOf 40=18:=by kernel_rfl
theorem rPg (A3:Nat):R enc w sp hd A3 59 cPg (fun _=>True) pgB:=
 (Rd.struct' Tryz.underlying59 G7 rfl (by kernel_rfl) (by kernel_rfl) fun m _=>Rds.cons G7 z_Tys (Rd.slice' (z:=2) u_Tys z_Sc (by decide) G7 fun k _=>rSc k) <|
  Rds.cons G7 z_57 (Rd.slice' (z:=18) Tryz.underlying57 z_40 (by decide) G7 fun k _=>rQy k) Rds.nil).map
  (fun x=>(⟨x.1,x.2.1⟩:Pg)) (fun _=>rfl) (fun _ _=>trivial) (fun x=>by simp only [pgB];omega)
end
end Go.Proofs.YtckhoadldibflaaGreatDoor
