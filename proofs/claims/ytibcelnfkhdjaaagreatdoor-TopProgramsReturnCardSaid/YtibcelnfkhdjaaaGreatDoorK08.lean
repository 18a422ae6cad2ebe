/-
  Several texts in one: EW4, EW13, EW23, EW24, EW18, R8w, R9w, R10w, C13, W13b, W13c. No condition.
-/
import Derived.Test.YtibcelnfkhdjaaaGreatDoorK02
import Derived.Test.YtibcelnfkhdjaaaGreatDoorK07
import Derived.Test.YtibcelnfkhdjaaaGreatDoorK01
import Derived.KernelRfl
import Derived.Test.YtibcelnfkhdjaaaGreatDoorK04
import Derived.Test.YtibcelnfkhdjaaaGreatDoorTab
import Derived.Test.YtibcelnfkhdjaaaGreatDoorAx
import Derived.Lib.ItoaLen
import Derived.Test.YtibcelnfkhdjaaaGreatDoorK03
set_option linter.unusedVariables false
set_option linter.unusedSimpArgs false
set_option maxHeartbeats 12800000
set_option maxRecDepth 20000
namespace Go.Proofs.YtibcelnfkhdjaaaGreatDoor
open Go Go.Aw
theorem c82 (e:Ex):Au Tryz.prog 163 [.agg (cE e)] (.int .i64 (U8 e)):=by
 refine G3 32 Tryz.func163 rfl fun H=>?_
 refine Ab (Qp Qbe (Qp A3 (A7 (Cj (Qp Qf5 (Qp (C8 Z0) ?_))))));refine Qp (Qc rfl (c94 e.val)) (Qp A3 (Cf (Qp Ax (Qp Cq (Br (fun hc1=>Ab (Qp Ax (Qp A3 (Rc (Qr (Iq _) ?_))))) fun hc1=>B8 (Cj (Qp jY (Qp B7 (Qp Bv (Qp Cw (Qg [] Qw Qf4 (Qg [(14,_)] Qw B7 (Qg [] Qw Qf5 ?_)))))))))))))
 .
  try simp only [Mr,Dt] at *
  (simp only [Af,U8];rw [if_pos hc1];done)
 refine Qg [(16,_)] Qw (C8 Z0) (Qg [(15,_),(17,_)] Yw (Qc rfl (c99 e.kind e.val)) (Qg [(18,_)] Qw Ke (Qg [(19,_)] Qw Cw (Qg [] Qw Qf4 (Qg [(21,_)] Qw B7 (Qg [(22,_)] Qw Bv (Qg [(23,_)] Qw Cw (Qg [] Qw Qf5 (Qg [(25,_)] Qw (C8 Z0) (Qg [] Qw (Gz Z0) ?_))))))))));refine Qg [(26,_),(27,_)] Yw (Nk tok rfl rfl rfl rfl rfl) (Qg [(24,_),(28,_)] Qw Mu (Qg [(20,_),(29,_)] Qw G4 (Qp Mu (Br (fun hc2=>Ab (Qp A3 (Rc (Qr (Iq _) ?_)))) fun hc2=>B8 (Ab (Qp A3 (Rb (Qr (Iq _) ?_))))))))
 .
  try simp only [Mr,Dt] at *
  (simp only [Af,U8];rw [iN hc1];rw [if_pos hc2];done)
 try simp only [Mr,Dt] at *
 (simp only [Af,U8];rw [iN hc1];rw [iN hc2];done)
theorem c47 (e:Ex):Au Tryz.prog 104 [.agg (cE e)] (.int .i64 (Jd e)):=by
 refine G3 114 Tryz.func104 rfl fun H=>?_
 refine Ab (Qp Qbe (Qp A3 (Cf (Qp jY (Qp B7 (Qp (Qc rfl (c81 e.op)) (Qp Wz (Qp Wt (Qp oB (Qp A3 (Qp Bl (A7 (Cj (Qp Cw (Qp Ke (Br (fun hc1=>Ab (Qp A3 (Rc (Qr (Iq _) ?_)))) fun hc1=>B8 (Cj (Qp Qf1 (Qp Eg ?_)))))))))))))))))))
 .
  try simp only [Mr,Dt] at *
  (simp only [Af,Jd,Mj];rw [if_pos hc1];done)
 refine Qp (G6 e.args.length rfl rfl (by simp)) ?_;refine Qp Ax (Qp Cq (Br (fun hc2=>Ab (Qp A3 (Rc (Qr (Iq _) ?_)))) fun hc2=>B8 (Ab (Qp jY (Qp B7 (Qp (Qc rfl (e8c52 e.op)) (Qp Wz (Qp oB (Qp oB (Qp Bl (Qp Bl (A7 (Cj (Qp Cw (Qp Cw ?_)))))))))))))))
 .
  try simp only [Mr,Dt] at *
  (simp only [Af,Jd,Mj];rw [iN hc1];rw [if_pos hc2];done)
 refine Qg [] Qw Qf2 (Qg [(31,_)] Qw B7 (Qg [(32,_)] Qw C5 (Qg [(33,_)] Qw Cw (Qg [] Qw Qf2 (Qg [(35,_)] Qw B7 (Qg [(36,_)] Qw Lm (Qg [(34,_),(37,_)] Qw G4 (Qp Mu (Qp Cw ?_)))))))));refine Qg [] Qw Cw (Qg [(41,_)] Qw Cw (Qg [] Qw Qf3 (Qg [(43,_)] Qw B7 (Qg [(44,_)] Qw C5 (Qg [(45,_)] Qw Cw (Qg [] Qw Qf3 (Qg [(47,_)] Qw B7 (Qg [(48,_)] Qw Lm (Qg [(46,_),(49,_)] Qw G4 ?_)))))))));refine Qg [(42,_),(50,_)] Qw Mu (Qp G4 (Br (fun hc3=>Ab (Qp A3 (Rc (Qr (Iq _) ?_)))) fun hc3=>B8 (Ab (Qp jY (Qp B7 (Qp Bv (Qp Bl (A7 (Cj (Qp Cw ?_))))))))))
 .
  try simp only [Mr,Dt] at *
  (simp only [Af,Jd,Mj];rw [iN hc1];rw [iN hc2];rw [if_pos hc3];done)
 refine Qp Cw (Qg [] Qw Qf4 (Qg [(58,_)] Qw B7 (Qg [(59,_)] Qw C5 (Qg [(60,_)] Qw Cw (Qg [] Qw Qf4 (Qg [(62,_)] Qw B7 (Qg [(63,_)] Qw Jj (Qg [(61,_),(64,_)] Qw G4 (Qp Mu ?_)))))))));refine Br (fun hc4=>Ab (Qp A3 (Rc (Qr (Iq _) ?_)))) fun hc4=>B8 (Ab (Qp Cw (Qp Cw (Qg [] Qw jY (Qg [(69,_)] Qw B7 (Qg [(70,_)] Qw Bv (Qp G4 (Qp Bl (A7 ?_)))))))))
 .
  try simp only [Mr,Dt] at *
  (simp only [Af,Jd,Mj];rw [iN hc1];rw [iN hc2];rw [iN hc3];rw [if_pos hc4];done)
 refine Cj (Qp Cw (Br (fun hc5=>?_) fun hc5=>B8 (Cj (Qp Cw (Qp Ke (Qp Cw (Qg [] Qw Qf2 (Qg [(82,_)] Qw B7 (Qg [(83,_)] Qw Cq (Qp Mu ?_))))))))))
 .
  refine Ab (Qp Ws (Qp (Qc rfl (c82 e)) (Qp A3 (Cf (Qp Ax (Qp Cq (Br (fun hc6=>Ab (Qp Ax (Qp A3 (Rc (Qr (Iq _) ?_))))) fun hc6=>B8 (Cj (Qp Cw (Qp Ke (Qp Cw (Qg [] Qw Qf2 (Qg [(82,_)] Qw B7 (Qg [(83,_)] Qw Cq (Qp Mu ?_)))))))))))))))
  .
   try simp only [Mr,Dt] at *
   (simp only [Af,Jd,Mj];rw [iN hc1];rw [iN hc2];rw [iN hc3];rw [iN hc4];rw [if_pos hc5];rw [if_pos hc6];done)
  refine Qp Cw (Qg [] Qw Cw (Qg [(87,_)] Qw Ke (Qg [(88,_)] Qw Cw (Qg [] Qw Qf3 (Qg [(90,_)] Qw B7 (Qg [(91,_)] Qw Cq (Qg [(89,_),(92,_)] Qw Mu (Qp G4 (Qp Cw ?_)))))))));refine Qg [] Qw Cw (Qg [(96,_)] Qw Ke (Qg [(97,_)] Qw Cw (Qg [] Qw Qf4 (Qg [(99,_)] Qw B7 (Qg [(100,_)] Qw Cq (Qg [(98,_),(101,_)] Qw Mu (Qp G4 (Qp Cw (Qg [] Qw Cw ?_)))))))));refine Qg [(105,_)] Qw Ke (Qg [(106,_)] Qw Cw (Qg [] Qw Qf5 (Qg [(108,_)] Qw (C8 Z0) (Qg [] Qw (Gz Z0) (Qg [(109,_),(110,_)] Yw (Nk tok rfl rfl rfl rfl rfl) (Qg [(107,_),(111,_)] Qw Mu (Qp G4 (Br (fun hc7=>Ab (Qp A3 (Rc (Qr (Iq _) ?_)))) fun hc7=>B8 (Ab (Qp A3 (Rb (Qr (Iq _) ?_))))))))))))
  .
   try simp only [Mr,Dt] at *
   (simp only [Af,Jd,Mj];rw [iN hc1];rw [iN hc2];rw [iN hc3];rw [iN hc4];rw [if_pos hc5];rw [iN hc6];rw [if_pos hc7];done)
  try simp only [Mr,Dt] at *
  (simp only [Af,Jd,Mj];rw [iN hc1];rw [iN hc2];rw [iN hc3];rw [iN hc4];rw [if_pos hc5];rw [iN hc6];rw [iN hc7];done)
 refine Qp Cw (Qg [] Qw Cw (Qg [(87,_)] Qw Ke (Qg [(88,_)] Qw Cw (Qg [] Qw Qf3 (Qg [(90,_)] Qw B7 (Qg [(91,_)] Qw Cq (Qg [(89,_),(92,_)] Qw Mu (Qp G4 (Qp Cw ?_)))))))));refine Qg [] Qw Cw (Qg [(96,_)] Qw Ke (Qg [(97,_)] Qw Cw (Qg [] Qw Qf4 (Qg [(99,_)] Qw B7 (Qg [(100,_)] Qw Cq (Qg [(98,_),(101,_)] Qw Mu (Qp G4 (Qp Cw (Qg [] Qw Cw ?_)))))))));refine Qg [(105,_)] Qw Ke (Qg [(106,_)] Qw Cw (Qg [] Qw Qf5 (Qg [(108,_)] Qw (C8 Z0) (Qg [] Qw (Gz Z0) (Qg [(109,_),(110,_)] Yw (Nk tok rfl rfl rfl rfl rfl) (Qg [(107,_),(111,_)] Qw Mu (Qp G4 (Br (fun hc8=>Ab (Qp A3 (Rc (Qr (Iq _) ?_)))) fun hc8=>B8 (Ab (Qp A3 (Rb (Qr (Iq _) ?_))))))))))))
 .
  try simp only [Mr,Dt] at *
  (simp only [Af,Jd,Mj];rw [iN hc1];rw [iN hc2];rw [iN hc3];rw [iN hc4];rw [iN hc5];rw [if_pos hc8];done)
 try simp only [Mr,Dt] at *
 (simp only [Af,Jd,Mj];rw [iN hc1];rw [iN hc2];rw [iN hc3];rw [iN hc4];rw [iN hc5];rw [iN hc8];done)
theorem e8c23 (e:Ex)(hs:Ef e<=1048576):Au Tryz.prog 102 [.agg (cE e)] (.tuple [.int .i64 (Ef e),.int .i64 (J5 e)]):=by
 revert hs
 induction e using Ex.ind
 rename_i e ih;intro hs;refine G3 32 Tryz.func102 rfl fun H=>?_
 refine Ab (Qp Qbe (Qp A3 (Qp A3 (Cf (Qp A3 (Qp A3 (A7 (Cj (Qp Qf1 (Qp Eg ?_))))))))));refine Qp (G6 e.args.length rfl rfl (by simp)) ?_;refine Qp Ax (A7 (AW.block (AW.sllen 11 rfl fun hlen=>?_)));simp only [Bg,maxLen] at hlen;refine AW.Aan (fun (p:Nat×Nat×Nat)=>(⟨[(4,.int .i64 (p.2.1:Int)),(5,.int .i64 (p.2.2:Int)),(11,.sl 8 (e.args.map Ix)),(12,.int .i64 e.args.length),(13,.int .i64 (p.1:Int))],H,32⟩:St)) (fun p=>p.1<=e.args.length/\Ef e=p.2.1+((e.args.drop p.1).map Ef).sum/\J5 e=max p.2.2 (((e.args.drop p.1).map J5).foldr max 0)+1/\p.2.2<=1048576) (fun p=>e.args.length-p.1) ((0,1,0)) ?_ Dp ?_
 . exact ⟨Bk _,by simpa using Ls e,by simpa using pC e,Bk _⟩
 rintro p hR;refine Ab (Qp C5 (Re (Hs (fun hc1=>?_) fun hc1=>?_)))
 .
  obtain ⟨a,ha⟩:=De hc1;have hlt:=Ch ha;have hm:=Ak ha;have hsa:=Ut hm;have hda:=Zz a;have h1:=sum_drop p.2.1 ha;have h2:=lF p.2.2 ha;refine B8 (AW.seq (AW.block (Ab ?_)));refine Qp (F5 Nd rfl rfl (by omega) (Yp ha)) ?_;refine Qp Ws (E8 ghx fun b7=>?_);refine B4 0 Nd (_::_) ?_;refine Me 7 0 rfl ?_;refine Cf (Qp Ws ?_);refine Qp (Qc rfl (ih a hm (by have:=Ut hm;omega))) ?_;refine Qp Wz (Qp Wt (Qp Wt (Qp A3 (Qp A3 (A7 (AW.region (Qp Ax (Qp Ax (Qp Ii (Qp Ax (Qp Ax (Qp (P_max rfl rfl) (Qp A3 (Qp A3 (Rk (AW.region (Qp Ii (Qp Ax (A7 ?_)))))))))))))))))));refine ⟨(p.1+1,p.2.1+Ef a,max p.2.2 (J5 a)),?_,?_,GS.weaken ⟨rfl,congrArg (AV.int .i64) (by simp only;omega),rfl,rfl,rfl,trivial⟩ (.refl _)⟩
  . simp only;exact ⟨hlt,by omega,by omega,by omega⟩
  omega
 have hd:=Hk hc1;refine AW.exit ?_;refine B9 (Ri (Ab (Qp Ax (Qp Ax ?_))));refine Qp (gL rfl rfl rfl (by have:=Zz e;constructor <;> omega)) ?_;refine Qp A3 (Qp A3 (Rb (Py (Iq _) (Iq _) ?_)));rw [hd] at hR;simp only [A0,List.sum_nil,List.foldr_nil] at hR;simp only [Af,AV.tuple.injEq,List.cons.injEq,AV.int.injEq,true_and,and_true];omega
theorem e8c46 (f:Nat)(hfn:Y0 Tryz.prog f=true)(cap:List AV)(fs:Ex->Int)(Pr:Ex->Prop)(hp:∀a,Pr a->∀b∈a.args,Pr b)(hf:∀a,Pr a->Au Tryz.prog f (.agg (cE a)::cap) (.int .i64 (fs a)))(e:Ex)(he:Pr e):Au Tryz.prog 103 [.agg (cE e),.fn (.func f) [] cap] (.int .i64 (O1 fs e)):=by
 revert he
 induction e using Ex.ind
 rename_i e ih;intro he;refine G3 29 Tryz.func103 rfl fun H=>?_
 refine Ab (Qp Qbe (Qp A3 (A7 (Cj (Qp (Ai (v:=.fn _ _ _) rfl) (Qp Ws (Qp (Tl hfn rfl rfl rfl (hf e he)) (Qp A3 (Cf (Qp Ax (Qp Cq (Br (fun hc1=>Ab (Qp Ax (Qp A3 (Rc (Qr (Iq _) ?_))))) fun hc1=>?_))))))))))))
 .
  simp only [Af,AV.int.injEq,true_and];rw [gA,if_pos hc1]
 have hn:O1 fs e=Dk (O1 fs) e.args:=by rw [gA,if_neg (by simpa using hc1)]
 refine B8 (Cj (Qp Qf1 (Qp Eg ?_)));refine Qp (G6 e.args.length rfl rfl (by simp)) ?_;refine Qp Ax (A7 (AW.block (AW.sllen 16 rfl fun hlen=>?_)));simp only [Bg,maxLen] at hlen;refine AW.Aan (fun (p:Nat)=>(⟨[(1,.fn (.func f) [] cap),(16,.sl 8 (e.args.map Ix)),(17,.int .i64 e.args.length),(18,.int .i64 (p:Int))],H,29⟩:St)) (fun p=>p<=e.args.length/\O1 fs e=Dk (O1 fs) (e.args.drop p)) (fun p=>e.args.length-p) (0) ?_ Dp ?_
 . exact ⟨Bk _,by simpa using hn⟩
 rintro p hR;refine Ab (Qp C5 (Re (Hs (fun hc2=>?_) fun hc2=>?_)))
 .
  obtain ⟨a,ha⟩:=De hc2;have hlt:=Ch ha;have hm:=Ak ha;refine B8 (AW.seq (AW.block (Ab ?_)));refine Qp (F5 Nd rfl rfl (by omega) (Yp ha)) ?_;refine Qp Ws (E8 ghx fun b7=>?_);refine B4 0 Nd (_::_) ?_;refine Me 7 0 rfl ?_;refine Cf (Qp Ws (Qp (Ai (v:=.fn _ _ _) rfl) (Qp (Qc rfl (ih a hm (hp e he a hm))) (Qp A3 (Cf (Qp Ax (Qp Cq (Br (fun hc3=>Ab (Qp Ax (Qp A3 (Ra (Bc (Ep (Bc (Qr (Iq _) ?_)))))))) fun hc3=>Rf (AW.region (Qp Ii (Qp Ax (A7 ?_))))))))))))
  .
   simp only [Af,AV.int.injEq,true_and];rw [hR.2,A4 ha,Dk,if_pos hc3]
  refine ⟨p+1,?_,?_,Dp⟩
  . exact ⟨hlt,by rw [hR.2,A4 ha,Dk,if_neg (by simpa using hc3)]⟩
  omega
 have hd:=Hk hc2;refine AW.exit ?_;refine B9 (Ri (Ab (Qp A3 (Rb ?_))));refine Qr (Iq _) ?_;simp only [Af,AV.int.injEq,true_and];rw [hR.2,hd];rfl
theorem e8c21 (e:Ex)(hs:Ef e<=1048576):Au Tryz.prog 53 [.agg (cE e)] (.int .i64 (Gn e)):=by
 refine G3 18 Tryz.func53 rfl fun H=>?_
 refine Ab (Qp Qbe (Qp A3 (Cf (Qp Ws (Qp (Qc rfl (e8c23 e hs)) (Qp Wz (Qp Wt (Qp Wt (Qp A3 (Qp A3 (Re (AW.block (Ab (Qp Ax ?_))))))))))))));refine Qp Jj (Qp Bl (Br (fun hc1=>Ab (Qp A3 (Ra (Qr (Iq _) ?_)))) fun hc1=>Ab (Qp Ax (Qp Jj (Qp Bl (Br (fun hc2=>Ab (Qp A3 (Ra (Qr (Iq _) ?_)))) fun hc2=>Rf (Ab (Qp Ws ?_))))))))
 .
  try simp only [Mr,Dt] at *
  (simp only [Af,Gn];rw [if_pos hc1];done)
 .
  try simp only [Mr,Dt] at *
  (simp only [Af,Gn];rw [iN hc1];rw [if_pos hc2];done)
 refine Qp (Qc rfl (e8c46 104 (by kernel_rfl) [] Jd (fun _=>True) (fun _ _ _ _=>trivial) (fun a _=>c47 a) e trivial)) ?_;refine Qp A3 (Rb (Qr (Iq _) ?_))
 try simp only [Mr,Dt] at *
 (simp only [Af,Gn];rw [iN hc1];rw [iN hc2];done)
theorem gU {a b:Ex}(h:Rl a b=false):a.args.length=b.args.length:=by
 simp [Rl] at h;omega
theorem e8c20 (a b:Ex)(hs:Ef a<=1048576):Au Tryz.prog 72 [.agg (cE a),.agg (cE b)] (.bool (Fx a b)):=by
 revert b hs
 induction a using Ex.ind
 rename_i a ih;intro b hs;have hal:=iS a hs;refine G3 67 Tryz.func72 rfl fun H=>?_
 refine Ab (Qp Qbe (Qp Qbe (Qp Bl (A7 (Cj (Qp jY (Qp B7 (Qp jY (Qp B7 (Qp Cq (Qp Cw (Qg [] Qw Qf2 (Qg [(12,_)] Qw B7 (Qg [] Qw Qf2 (Qg [(14,_)] Qw B7 ?_)))))))))))))));refine Qg [(13,_),(15,_)] Yw Cq (Qp G4 (Qp Cw (Qg [] Qw Qf3 (Qg [(19,_)] Qw B7 (Qg [] Qw Qf3 (Qg [(21,_)] Qw B7 (Qg [(20,_),(22,_)] Yw Cq (Qp G4 (Qp Cw (Qg [] Qw Qf4 (Qg [(26,_)] Qw B7 (Qg [] Qw Qf4 (Qg [(28,_)] Qw B7 ?_)))))))))))));refine Qg [(27,_),(29,_)] Yw Cq (Qp G4 (Qp Cw (Qg [] Qw Qf5 (Qg [(33,_)] Qw (C8 Z0) (Qg [] Qw Qf5 (Qg [(35,_)] Qw (C8 Z0) (Qg [(34,_),(36,_)] Yw (Nk tok rfl rfl rfl rfl rfl) (Qp G4 (Qp Cw (Qg [] Qw Qf1 (Qg [(40,_)] Qw Eg ?_)))))))))));refine Yh [(41,_)] Qw (fun hG=>G6 a.args.length rfl rfl (by simp)) ?_;refine Qg [] Qw Qf1 (Qg [(43,_)] Qw Eg ?_);refine Yh [(44,_)] Qw (fun hG=>G6 b.args.length rfl rfl (by simp)) ?_;refine Qg [(42,_),(45,_)] Yw Cq (Qp G4 (Br (fun hc1=>?_) fun hc1=>?_))
 .
  have hh:Rl a b=true:=by simpa [Rl] using hc1
  refine Ab (Qp Bl (Rc (Qr (.bool _) ?_)));rw [Se,if_pos hh];rfl
 have hh:Rl a b=false:=by simpa [Rl] using hc1
 have hlen:=gU hh;refine B8 (Cj (Qp A3 (A7 (AW.block ?_))));refine AW.Aan (fun (p:Nat)=>(⟨[(2,.ptr (cE a)),(3,.ptr (cE b)),(5,.int .i64 (p:Int))],H,67⟩:St)) (fun p=>p<=a.args.length/\Wj a.args b.args=Wj (a.args.drop p) (b.args.drop p)) (fun p=>a.args.length-p) (0) ?_ Dp ?_
 . exact ⟨Bk _,rfl⟩
 rintro p hR;refine Cj (Qp Ax (Qp Qf1 (Qp Eg ?_)));refine Qp (G6 a.args.length rfl rfl (by simp)) ?_;refine Qp C5 (Br (fun hc2=>?_) fun hc2=>?_)
 .
  obtain ⟨x,hx⟩:=De hc2;have hlt:=Ch hx;have hm:=Ak hx;obtain ⟨y,hy⟩:∃y,b.args[p]? = some y:=⟨_,List.getElem?_eq_getElem (by omega)⟩;refine B8 (AW.seq (AW.block (AW.seq ?_)));refine Oe ?_;refine Qn 0 rfl Qf1 (Qn 1 rfl Eg (Qn 2 rfl Ax ?_));refine Qn 3 rfl (F5 Nd rfl rfl (by omega) (Yp hx)) ?_;refine Qn 4 rfl Ws (Qn 5 rfl Qf1 (Qn 6 rfl Eg (Qn 7 rfl Ax ?_)));refine Qn 8 rfl (F5 Nd rfl rfl (by omega) (Yp hy)) ?_;refine Qn 9 rfl Ws ?_;refine Qn 10 rfl (Qc rfl (ih x hm y (by have:=Ut hm;omega))) ?_;refine Qn 11 rfl Ke ?_;refine Jr ?_;refine Ap (Hs (fun hc3=>Ab (Qp Bl (Ra (Bc (Ep (Bc (Qr (.bool _) ?_))))))) fun hc3=>Rf (AW.region (Qp Ax (Qp Ii (Qp A3 (A7 ?_))))))
  . rw [Se,if_neg (by simp [hh]),hR.2,A4 hx,A4 hy];show _=AV.bool (if (!Fx x y)=true then false else _);rw [if_pos hc3];rfl
  refine ⟨p+1,?_,?_,Dp⟩
  . exact ⟨hlt,by rw [hR.2,A4 hx,A4 hy,Wj];simp [hc3]⟩
  omega
 have hd:=Hk hc2;refine AW.exit ?_;refine B9 (Ri (Ab (Qp Bl (Rb ?_))));refine Qr (.bool _) ?_;rw [Se,if_neg (by simp [hh]),hR.2,hd];rfl
theorem head_at {s:List UInt8}(h:s.length≠0):s[(0:Int).toNat]? = some (s.headD 0):=by
 cases s with
 | nil=>exact absurd rfl h
 | cons a r=>rfl
theorem guard_len {s:List UInt8}{x:Bool}(h:Ow [((((s.length:Nat):Int)==0||x),false)]):s.length≠0:=by
 have h1:=h _ (D5.2 rfl);intro h0;simp [h0] at h1
theorem byte_at {s:List UInt8}{k:Nat}{c:UInt8}(h:s[k]? = some c):s[((k:Nat):Int).toNat]? = some c:=h
theorem tK {s:List UInt8}(h:s.length=0\/24<s.length\/rX ((s.headD 0).toNat)=true):Lz s=false:=by
 unfold Lz;rcases h with h | h | h
 .
  have e:(s.length==0)=true:=by simp [h]
  rw [e];rfl
 .
  have e:decide (s.length<=24)=false:=by simp;omega
  rw [e,Su,O6,O6]
 rw [h,A6,Su,O6]
theorem name_yes {s:List UInt8}(h:s.length≠0/\s.length<=24/\rX ((s.headD 0).toNat)=false)(ha:s.all chS=true):Lz s=true:=by
 unfold Lz;have e1:(s.length==0)=false:=by rw [Hz];exact h.1
 have e2:decide (s.length<=24)=true:=by simp;exact h.2.1
 rw [e1,e2,h.2.2,ha];rfl
theorem name_bad {s:List UInt8}{c:UInt8}(hm:c∈s)(h:chS c=false):s.all chS=false:=by
 rw [zqal52];intro ha;rw [F3.1 ha c hm] at h;cases h
theorem rN {s:List UInt8}{k:Nat}{c:UInt8}(hc:s[k]? = some c)(h:(s.take k).all chS=true)(hx:chS c=true):(s.take (k+1)).all chS=true:=by
 rw [El hc,List.all_append,h];simp [hx]
theorem c111 (n:Int):Au Tryz.prog 140 [.int .u8 n] (.bool (rX n)):=by
 refine G3 9 Tryz.func140 rfl fun H=>?_
 refine Ab (Qp Bl (Cf (Qp (Ai (v:=.int .u8 _) rfl) (Qp Lm (Qp Cw (Qg [] Qw (Ai (v:=.int .u8 _) rfl) (Qg [(6,_)] Qw oE (Qp Mu (Qp Bl (Rb (Qr (.bool _) ?_)))))))))));rfl
theorem c112 (n:Int):Au Tryz.prog 141 [.int .u8 n] (.bool (letS n)):=by
 refine G3 21 Tryz.func141 rfl fun H=>?_
 refine Ab (Qp Bl (Cf (Qp (Ai (v:=.int .u8 _) rfl) (Qp Bv (Qp Cw (Qg [] Qw (Ai (v:=.int .u8 _) rfl) ?_))))));refine Qg [(6,_)] Qw Lm (Qg [(7,_)] Qw Cw (Qg [] Qw (Ai (v:=.int .u8 _) rfl) (Qg [(9,_)] Qw oE (Qg [(8,_),(10,_)] Qw Mu (Qp G4 (Qp Cw (Qg [] Qw (Ai (v:=.int .u8 _) rfl) (Qg [(14,_)] Qw Lm (Qg [(15,_)] Qw Cw (Qg [] Qw (Ai (v:=.int .u8 _) rfl) (Qg [(17,_)] Qw oE (Qg [(16,_),(18,_)] Qw Mu (Qp G4 (Qp Bl (Rb (Qr (.bool _) ?_))))))))))))))));rfl
theorem c102 (s:List UInt8)(hs:s.length<=1048576):Au Tryz.prog 78 [.str s] (.bool (Lz s)):=by
 refine G3 35 Tryz.func78 rfl fun H=>?_
 refine Ab (Qp Bl (A7 (Cj (Qp Iw (Qp (D7 (n:=s.length) tok rfl rfl rfl (rfl)) (Qp Bv (Qp Cw (Qg [] Qw Iw (Qg [(8,_)] Qw (D7 (n:=s.length) tok rfl rfl rfl (rfl)) (Qg [(9,_)] Qw Jj (Qp G4 (Qp Cw (Qg [] Qw Iw ?_)))))))))))));refine Yh [(13,_)] Qw (fun hG=>Dd tok rfl rfl rfl rfl (by decide) (head_at (guard_len hG))) ?_;refine Qg [(14,_)] Qw (Qc rfl (c111 _)) (Qp G4 (Br (fun hc1=>Ab (Qp Bl (Rc (Qr (.bool _) ?_)))) fun hc1=>?_))
 .
  simp only [Af,AV.bool.injEq];simp only [Hm,Cb,beq_iff_eq] at hc1;rcases hc1 with (h1 | h1) | h1
  . exact (tK (.inl (by omega))).symm
  . exact (tK (.inr (.inl (by omega)))).symm
  exact (tK (.inr (.inr h1))).symm
 have hn1:s.length≠0/\s.length<=24/\rX ((s.headD 0).toNat)=false:=by
    simp only [Ey,Jh,Hz] at hc1;exact ⟨by omega,by omega,hc1.2⟩
 refine B8 (Cj (Qp Iw (Qp (D7 (n:=s.length) tok rfl rfl rfl (rfl)) (Qp Ax (A7 (AW.block ?_))))));refine AW.Aan (fun (p:Nat)=>(⟨[(0,.str s),(18,.int .i64 s.length),(19,.int .i64 (p:Int))],H,35⟩:St)) (fun p=>p<=s.length/\(s.take p).all chS=true) (fun p=>s.length-p) (0) ?_ Dp ?_
 . exact ⟨Bk _,by simp⟩
 rintro p hR;refine Ab (Qp C5 (Re (Hs (fun hc2=>?_) fun hc2=>?_)))
 .
  obtain ⟨c,hc⟩:=De hc2;have hlt:=Ch hc;have hm:=Ak hc;refine B8 (AW.seq (AW.block (Ab (Qp Ax (Qp A3 (Cf (Qp Iw (Qp Ax ?_))))))));refine Qp (Dd tok rfl rfl rfl rfl (by omega) (byte_at hc)) ?_;refine Qp (Qc rfl (c112 _)) (Qp Ke (Qp Cw (Qg [] Qw Iw (Qg [] Qw Ax ?_))));refine Yh [(28,_),(29,_)] Yw (fun hG=>Dd tok rfl rfl rfl rfl (by omega) (byte_at hc)) ?_;refine Qg [(30,_)] Qw (Qc rfl (c111 _)) (Qg [(31,_)] Qw Ke (Qp Mu (Br (fun hc3=>?_) fun hc3=>?_)))
  .
   have hch:chS c=false:=by
    unfold chS;cases hl:letS c.toNat <;> cases hd:rX c.toNat <;> simp_all
   refine Ab (Qp Bl (Ra (Bc (Ep (Bc (Qr (.bool _) ?_))))));simp only [Af,AV.bool.injEq]
   symm
   unfold Lz;rw [name_bad hm hch,Su]
  have hch:chS c=true:=by
   unfold chS;cases hl:letS c.toNat <;> cases hd:rX c.toNat <;> simp_all
  refine Rf (AW.region (Qp Ii (Qp Ax (A7 ?_))));refine ⟨p+1,?_,?_,Dp⟩
  . exact ⟨hlt,rN hc hR.2 hch⟩
  omega
 have hte:=F1 hc2;refine AW.exit ?_;refine B9 (Ri (Ab (Qp Bl (Rb ?_))));refine Qr (.bool _) ?_;simp only [Af,AV.bool.injEq];exact (name_yes hn1 (by rw [<-hte];exact hR.2)).symm
theorem c103 (s:List UInt8)(hs:s.length<=1048576):Au Tryz.prog 80 [.str s] (.bool (eU s)):=by
 refine G3 9 Tryz.func80 rfl fun H=>?_
 refine Ab (Qp Bl (Cf (Qp Iw (Qp (Qc rfl (c102 s hs)) (Qp Cw (Qg [] Qw Iw (Qg [(6,_)] Qw (Gl rfl rfl) (Qp Mu (Qp Bl (Rb (Qr (.bool _) ?_)))))))))));rfl
def fO (s:e8Sc):Prop:=s.name.length<=1048576/\s.fields.length<=1048576/\∀f∈s.fields,f.name.length<=1048576
theorem wH {seen:List (List UInt8)}{a:Fi}{r:List Fi}(h:Ja seen a=0):Ld seen (a::r)=Ld (seen ++ [a.name]) r:=by rw [Ld,if_neg (by rw [h];decide)]
theorem Xd {seen:List (List UInt8)}{a:Fi}{r:List Fi}(h:Ja seen a≠0):Ld seen (a::r)=Ja seen a:=by rw [Ld,if_pos (by simpa using h)]
theorem types_step {seen:List (List UInt8)}{a:e8Sc}{r:List e8Sc}(h:Nj seen a=0):N3 seen (a::r)=N3 (seen ++ [a.name]) r:=by rw [N3,if_neg (by rw [h];decide)]
theorem nM {seen:List (List UInt8)}{a:e8Sc}{r:List e8Sc}(h:Nj seen a≠0):N3 seen (a::r)=Nj seen a:=by rw [N3,if_pos (by simpa using h)]
theorem c85 (s:e8Sc)(hs:fO s):Au Tryz.prog 36 [.agg (Oh s)] (.int .i64 (Ot s)):=by
 refine G3 45 Tryz.func36 rfl fun H=>?_
 refine Ab (Qp (Ji Pn) (Qp A3 (A7 (Cj (Qp (Qf Pn) (Qp Hn (Qp (Qc rfl (c102 _ hs.1)) (Qp Ke (Br (fun hc1=>Ab (Qp A3 (Rc (Qr (Iq _) ?_)))) fun hc1=>B8 (Cj (Qp (Qf [_]) (Qp Eg ?_))))))))))))
 . rw [show Ot s=8 by unfold Ot;rw [if_pos (by simpa using hc1)]];rfl
 refine Qp (G6 s.fields.length rfl rfl (by simp)) ?_;refine Qp Jj (Br (fun hc2=>Ab (Qp A3 (Rc (Qr (Iq _) ?_)))) fun hc2=>B8 (Ab (Qe (Jm) ?_)))
 . rw [show Ot s=5 by unfold Ot;rw [if_neg (by simpa using hc1),if_pos (by simpa using hc2)]];rfl
 rintro _ _ ⟨b14,rfl,rfl⟩;refine Qp Tm (A7 (Cj (Qp (Qf [_]) (Qp Eg ?_))));refine Qp (G6 s.fields.length rfl rfl (by simp)) ?_;refine Qp Ax (A7 (AW.block ?_));have hfl:=hs.2.1;refine AW.Aan (fun (p:Nat×List (List UInt8))=>(⟨[(3,.val (.map (some b14))),(16,.sl 2 (s.fields.map cFi)),(17,.int .i64 s.fields.length),(18,.int .i64 (p.1:Int))],.smap b14 (Wp p.2)::H,45⟩:St)) (fun p=>p.1<=s.fields.length/\Ld [] s.fields=Ld p.2 (s.fields.drop p.1)) (fun p=>s.fields.length-p.1) ((0,[])) ?_ Dp ?_
 . exact ⟨Bk _,rfl⟩
 rintro p hR;refine Ab (Qp C5 (Re (Hs (fun hc3=>?_) fun hc3=>?_)))
 .
  obtain ⟨a,ha⟩:=De hc3;have hlt:=Ch ha;have hm:=Ak ha;refine B8 (AW.seq (AW.block (Ab ?_)));refine Qp (F5 J6 rfl rfl (by omega) (C2 ha)) ?_;refine Qp (C8 J6) (E8 gjy fun b5=>?_);refine B4 0 J6 (_::_::_) ?_;refine Me 5 0 rfl ?_;refine Re (AW.block (Ab (Qp (Qf J6) (Qp Hn (Qp (Qc rfl (c103 _ (hs.2.2 a hm))) (Qp Ke (Qp Bl (Br (fun hc4=>?_) fun hc4=>?_))))))))
  .
   have hb4:(!eU a.name)=true:=hc4;refine Ab (Qp A3 (Ra (Rj (Bc ?_))));refine Yx [Iq _] Ze S1 ?_
   have he:Ja p.2 a=8:=by
    unfold Ja;rw [if_pos hb4]
   rw [show Ot s=Ja p.2 a by unfold Ot;rw [if_neg (by simpa using hc1),if_neg (by simpa using hc2),hR.2,A4 ha,Xd (by rw [he];decide)],he];rfl
  have hb4:¬(!eU a.name)=true:=by simpa using hc4
  refine Ab (Qp B3 (Qp (Qf J6) (Qp Hn ?_)));refine AOL.Aaq (Nl (i:=0) (ks:=p.2) tok rfl rfl rfl rfl rfl (by kernel_rfl) rfl rfl rfl) rfl rfl ?_;refine Qp Bl (Br (fun hc5=>?_) fun hc5=>?_)
  .
   have hb5:p.2.contains a.name=true:=hc5;refine Ab (Qp A3 (Ra (Rj (Bc ?_))));refine Yx [Iq _] Ze S1 ?_
   have he:Ja p.2 a=7:=by
    unfold Ja;rw [if_neg hb4,if_pos hb5]
   rw [show Ot s=Ja p.2 a by unfold Ot;rw [if_neg (by simpa using hc1),if_neg (by simpa using hc2),hR.2,A4 ha,Xd (by rw [he];decide)],he];rfl
  have hb5:¬p.2.contains a.name=true:=by simpa using hc5
  refine Ab (Qp (Qf [Iq _]) (Qp B7 (Qp C5 (Qp Cw (Qg [] Qw (Qf [Iq _]) (Qg [(37,_)] Qw B7 (Qg [(38,_)] Qw Lm (Qp G4 (Qp Bl (Br (fun hc6=>?_) fun hc6=>?_))))))))))
  .
   have hb6:=hc6;refine Ab (Qp A3 (Ra (Rj (Bc ?_))));refine Yx [Iq _] Ze S1 ?_
   have he:Ja p.2 a=1:=by
    unfold Ja;rw [if_neg hb4,if_neg hb5,if_pos hb6]
   rw [show Ot s=Ja p.2 a by unfold Ot;rw [if_neg (by simpa using hc1),if_neg (by simpa using hc2),hR.2,A4 ha,Xd (by rw [he];decide)],he];rfl
  have hb6:=zqal52.mp hc6;have he0:Ja p.2 a=0:=by unfold Ja;rw [if_neg hb4,if_neg hb5,if_neg hb6]
  refine Rf (AW.region (Qp B3 (Qp (Qf J6) (Qp Hn ?_))));refine Rt (Qu (i:=0) (H2:=_::_) tok rfl rfl rfl rfl rfl rfl rfl rfl (by simpa using hb5) rfl) ?_;refine Rk (AW.region (Qp Ii (Qp Ax (A7 ?_))));refine ⟨(p.1+1,p.2 ++ [a.name]),?_,?_,Dp⟩
  . exact ⟨hlt,by rw [hR.2,A4 ha,wH he0]⟩
  omega
 have hd:=Hk hc3;refine AW.exit ?_;refine B9 (Ri (Ab (Qp A3 (Rb ?_))));refine Yx [Iq _] Ze S1 ?_;rw [show Ot s=0 by unfold Ot;rw [if_neg (by simpa using hc1),if_neg (by simpa using hc2),hR.2,hd];rfl];rfl
theorem e8c57 (l:List e8Sc)(hl:l.length<=1048576)(hs:∀s∈l,fO s):Au Tryz.prog 21 [.sl 2 (l.map Oh)] (.int .i64 (Fv l)):=by
 refine G3 30 Tryz.func21 rfl fun H=>?_
 refine Ab (Qp A3 (A7 (Cj (Qp Ng ?_))));refine Qp (G6 l.length rfl rfl (by simp)) ?_;refine Qp Jj (Br (fun hc1=>Ab (Qp A3 (Rc (Qr (Iq _) ?_)))) fun hc1=>B8 (Ab (Qe (Jm) ?_)))
 . rw [show Fv l=5 by unfold Fv;rw [if_pos (by simpa using hc1)]];rfl
 rintro _ _ ⟨b10,rfl,rfl⟩;refine Qp Tm (A7 (Cj (Qp Ng ?_)));refine Qp (G6 l.length rfl rfl (by simp)) ?_;refine Qp Ax (A7 (AW.block ?_));refine AW.Aan (fun (p:Nat×List (List UInt8))=>(⟨[(3,.val (.map (some b10))),(11,.sl 2 (l.map Oh)),(12,.int .i64 l.length),(13,.int .i64 (p.1:Int))],.smap b10 (Wp p.2)::H,30⟩:St)) (fun p=>p.1<=l.length/\N3 [] l=N3 p.2 (l.drop p.1)) (fun p=>l.length-p.1) ((0,[])) ?_ Dp ?_
 . exact ⟨Bk _,rfl⟩
 rintro p hR;refine Ab (Qp C5 (Re (Hs (fun hc2=>?_) fun hc2=>?_)))
 .
  obtain ⟨a,ha⟩:=De hc2;have hlt:=Ch ha;have hm:=Ak ha;refine B8 (AW.seq (AW.block (Ab ?_)));refine Qp (F5 Pn rfl rfl (by omega) (C2 ha)) ?_;refine Qp (C8 Pn) (E8 [.str [],.sl 2 []] fun b5=>?_);refine B4 0 Pn (_::_::_) ?_;refine Me 5 0 rfl ?_;refine A7 (Cj (Qp (C8 Pn) (Qp (Qc rfl (c85 a (hs a hm))) (Qp A3 (Cf (Qp Ax (Qp Cq (Br (fun hc3=>Ab (Qp Ax (Qp A3 (Rc (Rj (Bc ?_)))))) fun hc3=>?_))))))))
  .
   refine Yx [Iq _] Ze S1 ?_;have he:Nj p.2 a=Ot a:=by unfold Nj;rw [if_pos hc3]
   rw [show Fv l=Nj p.2 a by unfold Fv;rw [if_neg (by simpa using hc1),hR.2,A4 ha,nM (by rw [he];simpa using hc3)],he];rfl
  have hb3:=zqal52.mp hc3;refine B8 (Cj (Qp B3 (Qp (Qf Pn) (Qp Hn ?_))));refine AOL.Aaq (Nl (i:=0) (ks:=p.2) tok rfl rfl rfl rfl rfl (by kernel_rfl) rfl rfl rfl) rfl rfl ?_;refine Br (fun hc4=>?_) fun hc4=>?_
  .
   have hb4:p.2.contains a.name=true:=hc4;refine Ab (Qp A3 (Rc (Rj (Bc ?_))));refine Yx [Iq _] Ze S1 ?_;have he:Nj p.2 a=7:=by unfold Nj;rw [if_neg hb3,if_pos hb4]
   rw [show Fv l=Nj p.2 a by unfold Fv;rw [if_neg (by simpa using hc1),hR.2,A4 ha,nM (by rw [he];decide)],he];rfl
  have hb4:¬p.2.contains a.name=true:=by simpa using hc4
  have he0:Nj p.2 a=0:=by unfold Nj;rw [if_neg hb3,if_neg hb4]
  refine B8 (AW.region (Qp B3 (Qp (Qf Pn) (Qp Hn ?_))));refine Rt (Qu (i:=0) (H2:=_::_) tok rfl rfl rfl rfl rfl rfl rfl rfl (by simpa using hb4) rfl) ?_;refine Rk (AW.region (Qp Ii (Qp Ax (A7 ?_))));refine ⟨(p.1+1,p.2 ++ [a.name]),?_,?_,Dp⟩
  . exact ⟨hlt,by rw [hR.2,A4 ha,types_step he0]⟩
  omega
 have hd:=Hk hc2;refine AW.exit ?_;refine B9 (Ri (Ab (Qp A3 (Rb ?_))));refine Yx [Iq _] Ze S1 ?_;rw [show Fv l=0 by unfold Fv;rw [if_neg (by simpa using hc1),hR.2,hd];rfl];rfl
theorem e8c22 (a b:Ex)(hs:Ef a<=1048576):Au Tryz.prog 167 [.agg (cE a),.agg (cE b)] (.bool (Fx a b)):=by
 revert b hs
 induction a using Ex.ind
 rename_i a ih;intro b hs;have hal:=iS a hs;refine G3 67 Tryz.func167 rfl fun H=>?_
 refine Ab (Qp Qbe (Qp Qbe (Qp Bl (A7 (Cj (Qp jY (Qp B7 (Qp jY (Qp B7 (Qp Cq (Qp Cw (Qg [] Qw Qf2 (Qg [(12,_)] Qw B7 (Qg [] Qw Qf2 (Qg [(14,_)] Qw B7 ?_)))))))))))))));refine Qg [(13,_),(15,_)] Yw Cq (Qp G4 (Qp Cw (Qg [] Qw Qf3 (Qg [(19,_)] Qw B7 (Qg [] Qw Qf3 (Qg [(21,_)] Qw B7 (Qg [(20,_),(22,_)] Yw Cq (Qp G4 (Qp Cw (Qg [] Qw Qf4 (Qg [(26,_)] Qw B7 (Qg [] Qw Qf4 (Qg [(28,_)] Qw B7 ?_)))))))))))));refine Qg [(27,_),(29,_)] Yw Cq (Qp G4 (Qp Cw (Qg [] Qw Qf5 (Qg [(33,_)] Qw (C8 Z0) (Qg [] Qw Qf5 (Qg [(35,_)] Qw (C8 Z0) (Qg [(34,_),(36,_)] Yw (Nk tok rfl rfl rfl rfl rfl) (Qp G4 (Qp Cw (Qg [] Qw Qf1 (Qg [(40,_)] Qw Eg ?_)))))))))));refine Yh [(41,_)] Qw (fun hG=>G6 a.args.length rfl rfl (by simp)) ?_;refine Qg [] Qw Qf1 (Qg [(43,_)] Qw Eg ?_);refine Yh [(44,_)] Qw (fun hG=>G6 b.args.length rfl rfl (by simp)) ?_;refine Qg [(42,_),(45,_)] Yw Cq (Qp G4 (Br (fun hc1=>?_) fun hc1=>?_))
 .
  have hh:Rl a b=true:=by simpa [Rl] using hc1
  refine Ab (Qp Bl (Rc (Qr (.bool _) ?_)));rw [Se,if_pos hh];rfl
 have hh:Rl a b=false:=by simpa [Rl] using hc1
 have hlen:=gU hh;refine B8 (Cj (Qp Qf1 (Qp Eg ?_)));refine Qp (G6 a.args.length rfl rfl (by simp)) ?_;refine Qp Ax (A7 (AW.block ?_));refine AW.Aan (fun (p:Nat)=>(⟨[(2,.ptr (cE a)),(3,.ptr (cE b)),(50,.int .i64 a.args.length),(51,.int .i64 (p:Int))],H,67⟩:St)) (fun p=>p<=a.args.length/\Wj a.args b.args=Wj (a.args.drop p) (b.args.drop p)) (fun p=>a.args.length-p) (0) ?_ Dp ?_
 . exact ⟨Bk _,rfl⟩
 rintro p hR;refine Ab (Qp C5 (Re (Hs (fun hc2=>?_) fun hc2=>?_)))
 .
  obtain ⟨x,hx⟩:=De hc2;have hlt:=Ch hx;have hm:=Ak hx;obtain ⟨y,hy⟩:∃y,b.args[p]? = some y:=⟨_,List.getElem?_eq_getElem (by omega)⟩;refine B8 (AW.seq (AW.block (Ab (Qp Ax (Qp A3 (Re ?_))))));refine Oe ?_;refine Qn 0 rfl Qf1 (Qn 1 rfl Eg (Qn 2 rfl Ax ?_));refine Qn 3 rfl (F5 Nd rfl rfl (by omega) (Yp hx)) ?_;refine Qn 4 rfl Ws (Qn 5 rfl Qf1 (Qn 6 rfl Eg (Qn 7 rfl Ax ?_)));refine Qn 8 rfl (F5 Nd rfl rfl (by omega) (Yp hy)) ?_;refine Qn 9 rfl Ws ?_;refine Qn 10 rfl (Qc rfl (ih x hm y (by have:=Ut hm;omega))) ?_;refine Qn 11 rfl Ke ?_;refine Jr ?_;refine Ap (Hs (fun hc3=>Ab (Qp Bl (Ra (Bc (Ep (Bc (Qr (.bool _) ?_))))))) fun hc3=>Rf (AW.region (Qp Ii (Qp Ax (A7 ?_)))))
  . rw [Se,if_neg (by simp [hh]),hR.2,A4 hx,A4 hy];show _=AV.bool (if (!Fx x y)=true then false else _);rw [if_pos hc3];rfl
  refine ⟨p+1,?_,?_,Dp⟩
  . exact ⟨hlt,by rw [hR.2,A4 hx,A4 hy,Wj];simp [hc3]⟩
  omega
 have hd:=Hk hc2;refine AW.exit ?_;refine B9 (Ri (Ab (Qp Bl (Rb ?_))));refine Qr (.bool _) ?_;rw [Se,if_neg (by simp [hh]),hR.2,hd];rfl
theorem sz_part {p a:Pt}{k:Nat}(h:p.args[k]? = some a):((p.args.take k).map L2).sum+L2 a+1<=L2 p:=by
 rw [Oy p];have h2:=tT p.args (k+1);rw [El h,Di,List.sum_append,X6,List.sum_singleton] at h2;omega
theorem max_cast (a b:Nat):max (a:Int) (b:Int)=((max a b:Nat):Int):=by omega
theorem op_range {p:Pt}(h:(decide (p.op<0)||decide (11<=p.op))=false):0<=p.op/\p.op<11:=by
 rw [Ey] at h;have h1:=He h.1;have h2:=He h.2;omega
theorem Zh (u:Bool)(n m:Int):Au Tryz.prog 214 [.bool u,.int .i64 n,.int .i64 m] (.bool (wth u n m)):=by
 refine G3 18 Tryz.func214 rfl fun H=>?_
 refine Ab (Qp Bl (Cf (Qp Cw (Qp Ke (Qp Cw (Qg [] Qw Ax (Qg [(10,_)] Qw Lm (Qg [(11,_)] Qw Cw (Qg [] Qw Ax (Qg [] Qw Ax (Qg [(13,_),(14,_)] Yw oE (Qg [(12,_),(15,_)] Qw Mu (Qp G4 (Qp Bl (Rb (Qr (.bool _) ?_))))))))))))))));rfl
theorem Mn (u:Bool)(n:Int):Au Tryz.prog 215 [.bool u,.int .i64 n] (.bool (unu u n)):=by
 refine G3 10 Tryz.func215 rfl fun H=>?_
 refine Ab (Qp Bl (Cf (Qp Cw (Qp Cw (Qg [] Qw Ax (Qg [(7,_)] Qw Bv (Qp G4 (Qp Bl (A7 (AW.ret (Qr (.bool _) ?_)))))))))));rfl
theorem rp_check (p:Pt)(hc:Ef p.cond<=1048576)(hl:p.args.length<=1048576):Au Tryz.prog 199 [.agg (cPt p)] (.int .i64 (iV p)):=by
 refine G3 113 Tryz.func199 rfl fun H=>?_
 refine Ab (Qp (Ji Hp) (Qp A3 (A7 (Cj (Qp (Qf Hp) (Qp B7 (Qp C5 (Qp Cw (Qg [] Qw (Qf Hp) (Qg [(9,_)] Qw B7 (Qg [(10,_)] Qw Lm (Qp G4 (Br (fun hc1=>Ab (Qp A3 (Rc (Qr (Iq _) ?_)))) fun hc1=>B8 (AW.seq ?_))))))))))))))
 . exact Ye (AV.int .i64) (ck_1 hc1)
 have hop:=op_range hc1;refine (shp_at hop.1 hop.2).elim fun rest hrest=>?_
 refine AW.region (Qp (Qf Hp) (Qp B7 ?_));refine Qp (T7 (cs':=cShp (Ll p.op)++rest) tok ⟨_,by simp [globals],fun _ h=>h⟩ rfl rfl rfl rfl (hop.1) (hop.2) hrest rfl) ?_;refine Qp (C8 glx) (E8 [.int .i64 0,.int .i64 0,.bool false,.bool false,.bool false,.bool false] fun b3=>?_);refine B4 0 glx (_::_) ?_;refine Me 3 0 rfl ?_;refine Re (AW.block (Ab (Qp (Qf ggx) (Qp Eg ?_))));refine Qp (G6 p.args.length rfl rfl (by simp)) ?_;refine Qp (Qf glx) (Qp B7 (Qp C5 (Qp Cw (Qg [] Qw (Qf ggx) (Qg [(25,_)] Qw Eg ?_)))));refine Yh [(26,_)] Qw (fun hG=>G6 p.args.length rfl rfl (by simp)) ?_;refine Qg [] Qw (Qf [Iq _,.bool _,.bool _,.bool _,.bool _]) (Qg [(28,_)] Qw B7 (Qg [(27,_),(29,_)] Yw Jj (Qp G4 (Qp Bl (Br (fun hc2=>Ab (Qp A3 (Ra (Qr (Iq _) ?_)))) fun hc2=>Ab (Qp (Qf giy) (Qp uP (Qp (Qf giz) (Qp B7 ?_)))))))))
 . exact Ye (AV.int .i64) (ck_2 hc1 hc2)
 refine Qp (Qc rfl (Zh _ _ _)) (Qp Ke (Qp Cw (Qg [] Qw (Qf giy) (Qg [(40,_)] Qw uP (Qg [] Qw (Qf gix) (Qg [(42,_)] Qw B7 (Qg [(41,_),(43,_)] Yw (Qc rfl (Zh _ _ _)) (Qg [(44,_)] Qw Ke (Qp G4 (Qp Cw (Qg [] Qw (Qf [.bool _,.bool _]) (Qg [(48,_)] Qw uP (Qg [] Qw (Qf gjx) (Qg [(50,_)] Qw B7 ?_))))))))))))));refine Qg [(49,_),(51,_)] Yw (Qc rfl (Zh _ _ _)) (Qg [(52,_)] Qw Ke (Qp G4 (Qp Cw (Qg [] Qw (Qf [.bool _]) (Qg [(56,_)] Qw uP (Qg [] Qw (Qf gkx) (Qg [(58,_)] Qw B7 (Qg [(57,_),(59,_)] Yw (Qc rfl (Zh _ _ _)) (Qg [(60,_)] Qw Ke (Qp G4 (Qp Bl (Br (fun hc3=>Ab (Qp A3 (Ra (Qr (Iq _) ?_)))) fun hc3=>?_))))))))))))
 . exact Ye (AV.int .i64) (ck_3 hc1 hc2 hc3)
 refine Rf (Cj (Qp (Qf [.bool _,.bool _,.bool _]) (Qp uP (Br (fun hc4=>Ab (Qp jY (Qp Ws ?_))) fun hc4=>B8 (Cj (Qp (Qf [.bool _,.bool _,.bool _]) (Qp uP (Qp Ke (Qp Cw (Qg [] Qw jY (Qg [(75,_)] Qw Ws (Qg [] Qw (Gz Nd) ?_))))))))))))
 .
  refine Qp (Qc rfl (e8c21 p.cond hc)) (Qp A3 (Cf (Qp Ax (Qp Cq (Br (fun hc5=>Ab (Qp Ax (Qp A3 (Rc (Qr (Iq _) ?_))))) fun hc5=>B8 (Cj (Qp (Qf [.bool _,.bool _,.bool _]) (Qp uP (Qp Ke (Qp Cw (Qg [] Qw jY (Qg [(75,_)] Qw Ws (Qg [] Qw (Gz Nd) ?_)))))))))))))
  . exact Ye (AV.int .i64) (ck_4 hc1 hc2 hc3 hc4 hc5)
  refine Qg [(76,_),(77,_)] Yw (Qc rfl (e8c22 p.cond wD hc)) (Qg [(78,_)] Qw Ke (Qp Mu (Qp Cw (Qg [] Qw (Qf giy) (Qg [(82,_)] Qw uP (Qg [] Qw (Qf giz) (Qg [(84,_)] Qw B7 (Qg [(83,_),(85,_)] Yw (Qc rfl (Mn _ _)) ?_))))))));refine Qg [(86,_)] Qw Ke (Qp G4 (Qp Cw (Qg [] Qw (Qf giy) (Qg [(90,_)] Qw uP (Qg [] Qw (Qf gix) (Qg [(92,_)] Qw B7 (Qg [(91,_),(93,_)] Yw (Qc rfl (Mn _ _)) (Qg [(94,_)] Qw Ke (Qp G4 (Qp Cw (Qg [] Qw (Qf [.bool _,.bool _]) (Qg [(98,_)] Qw uP (Qg [] Qw (Qf gjx) (Qg [(100,_)] Qw B7 ?_))))))))))))));refine Qg [(99,_),(101,_)] Yw (Qc rfl (Mn _ _)) (Qg [(102,_)] Qw Ke (Qp G4 (Qp Cw (Qg [] Qw (Qf [.bool _]) (Qg [(106,_)] Qw uP (Qg [] Qw (Qf gkx) (Qg [(108,_)] Qw B7 (Qg [(107,_),(109,_)] Yw (Qc rfl (Mn _ _)) (Qg [(110,_)] Qw Ke (Qp G4 (Br (fun hc6=>Ab (Qp A3 (Rc (Qr (Iq _) ?_)))) fun hc6=>B8 (Ab (Qp A3 (Rb (Qr (Iq _) ?_)))))))))))))))
  . exact Ye (AV.int .i64) ((ck_n hc1 hc2 hc3 (by rw [hc5];simp)).trans (if_pos hc6))
  exact Ye (AV.int .i64) ((ck_n hc1 hc2 hc3 (by rw [hc5];simp)).trans (Bu hc6))
 refine Qg [(76,_),(77,_)] Yw (Qc rfl (e8c22 p.cond wD hc)) (Qg [(78,_)] Qw Ke (Qp Mu (Qp Cw (Qg [] Qw (Qf giy) (Qg [(82,_)] Qw uP (Qg [] Qw (Qf giz) (Qg [(84,_)] Qw B7 (Qg [(83,_),(85,_)] Yw (Qc rfl (Mn _ _)) ?_))))))));refine Qg [(86,_)] Qw Ke (Qp G4 (Qp Cw (Qg [] Qw (Qf giy) (Qg [(90,_)] Qw uP (Qg [] Qw (Qf gix) (Qg [(92,_)] Qw B7 (Qg [(91,_),(93,_)] Yw (Qc rfl (Mn _ _)) (Qg [(94,_)] Qw Ke (Qp G4 (Qp Cw (Qg [] Qw (Qf [.bool _,.bool _]) (Qg [(98,_)] Qw uP (Qg [] Qw (Qf gjx) (Qg [(100,_)] Qw B7 ?_))))))))))))));refine Qg [(99,_),(101,_)] Yw (Qc rfl (Mn _ _)) (Qg [(102,_)] Qw Ke (Qp G4 (Qp Cw (Qg [] Qw (Qf [.bool _]) (Qg [(106,_)] Qw uP (Qg [] Qw (Qf gkx) (Qg [(108,_)] Qw B7 (Qg [(107,_),(109,_)] Yw (Qc rfl (Mn _ _)) (Qg [(110,_)] Qw Ke (Qp G4 (Br (fun hc7=>Ab (Qp A3 (Rc (Qr (Iq _) ?_)))) fun hc7=>B8 (Ab (Qp A3 (Rb (Qr (Iq _) ?_)))))))))))))))
 . exact Ye (AV.int .i64) ((ck_n hc1 hc2 hc3 (by rw [hc4];rfl)).trans (if_pos hc7))
 exact Ye (AV.int .i64) ((ck_n hc1 hc2 hc3 (by rw [hc4];rfl)).trans (Bu hc7))
theorem rp_Size (p:Pt)(hp:L2 p<=1048576):Au Tryz.prog 198 [.agg (cPt p)] (.tuple [.int .i64 (L2 p:Nat),.int .i64 (dpP p:Nat)]):=by
 induction p using Pt.ind
 rename_i p ih;have hal:=Vt p;refine G3 32 Tryz.func198 rfl fun H=>?_
 refine Ab (Qp (Ji Hp) (Qp A3 (Qp A3 (Cf (Qp A3 (Qp A3 (A7 (Cj (Qp (Qf ggx) (Qp Eg ?_))))))))));refine Qp (G6 p.args.length rfl rfl (by simp)) ?_;refine Qp Ax (A7 (AW.block ?_));refine AW.Aan (fun (q:Nat×Nat×Nat)=>(⟨[(4,.int .i64 (q.2.1:Int)),(5,.int .i64 (q.2.2:Int)),(11,.sl 14 (p.args.map Xa)),(12,.int .i64 p.args.length),(13,.int .i64 (q.1:Int))],H,32⟩:St)) (fun q=>q.1<=p.args.length/\q.2.1=1+((p.args.take q.1).map L2).sum/\q.2.2=dZ (p.args.take q.1)) (fun q=>p.args.length-q.1) ((0,1,0)) ?_ Dp ?_
 . exact ⟨Bk _,rfl,by rw [List.take_zero,dZ]⟩
 rintro q hR;refine Ab (Qp C5 (Re (Hs (fun hc1=>?_) fun hc1=>?_)))
 .
  obtain ⟨a,ha⟩:=De hc1;have hlt:=Ch ha;have hm:=Ak ha;have hsm:=Rw hm;have hps:=sz_part (p:=p) ha;have hq1:=hR.2.1;refine B8 (AW.seq (AW.block (Ab ?_)));refine Qp (F5 Hp rfl rfl (by omega) (gW ha)) ?_;refine Qp (C8 Hp) (E8 ggz fun b7=>?_);refine B4 0 Hp (_::_) ?_;refine Me 7 0 rfl ?_;refine Cf (Qp (C8 Hp) ?_);refine Qp (Qc rfl (ih a hm (by have:=Rw hm;omega))) ?_;refine Qp Wz (Qp Wt (Qp Wt (Qp A3 (Qp A3 (A7 (AW.region (Qp Ax (Qp Ax (Qp Ii (Qp Ax (Qp Ax (Qp (P_max rfl rfl) (Qp A3 (Qp A3 (Rk (AW.region (Qp Ii (Qp Ax (A7 ?_)))))))))))))))))));refine ⟨(q.1+1,q.2.1+L2 a,max q.2.2 (dpP a)),?_,?_,GS.weaken ⟨rfl,congrArg (AV.int .i64) (max_cast q.2.2 (dpP a)),rfl,rfl,rfl,trivial⟩ (.refl _)⟩
  . exact ⟨hlt,by simp only;rw [El ha,hR.2.1];simp;omega,by simp only;rw [El ha,pE,hR.2.2]⟩
  simp only;omega
 have hte:=F1 hc1;have h1:=hR.2.1;have h2:=hR.2.2;rw [hte] at h1 h2;have hdp:=dp_le p;have hde:=dpP_eq p;refine AW.exit ?_;refine B9 (Ri (Ab (Qp Ax (Qp Ax (Qp Ii (Qp A3 (Qp A3 ?_)))))));refine Rb (Py (Iq _) (Iq _) ?_);exact Eq.trans rfl (congrArg (fun q:Nat×Nat=>AV.tuple [.int .i64 (q.1:Int),.int .i64 (q.2:Int)]) (show (q.2.1,q.2.2+1)=(L2 p,dpP p) by rw [h1,h2,Oy,dpP_eq];simp;omega))
theorem rp_walk (S:Type)(live:S->Bool)(step:S->Pt->S)(Mp:S->Nat->Prop)(hmo:∀s n m,Mp s n->m<=n->Mp s m)(hgo:∀s q n,Mp s (n+1)->Mp (step s q) n)(Q:Pt->Prop)(HH:S->List HO)(l:Nat)(rec:Loop)(hrec:rec.params.size=1)(hobj:∀s,live s=true->∃i:Nat,(HH s)[i]? = some (HO.obj l (Obj.loop rec)))(hY:∀s q n,live s=true->Q q->Mp s (n+1)->U1 Tryz.prog l rec (HH s) [.agg (cPt q)] (fun r H'=>r = .bool (live (step s q))/\H'=HH (step s q)))(p:Pt)(hp:L2 p<=1048576)(hq:∀q∈H1 p,Q q)(s:S)(m:Nat)(hs:live s=true)(hg:Mp s (L2 p+m)):Cc Tryz.prog 201 (HH s) [.agg (cPt p),.val (.func (.yield l) #[] #[])] (fun r H'=>r = .bool (live (Xg live step s (H1 p)))/\H'=HH (Xg live step s (H1 p))):=by
 revert m
 revert s
 induction p using Pt.ind
 rename_i p ih;intro s hs m hg;have hal:=Vt p;refine Jz 23 Tryz.func201 rfl ?_;refine Ab (Qp (Ji Hp) (Qp Bl (Re (AW.seq ?_))));refine AW.regionYk 2 rfl (by kernel_rfl) (by kernel_rfl) ?_;refine Qp B3 (Qp (C8 Hp) (AOL.nil ?_));have hg1:Mp s (L2 p-1+m+1):=by rw [show L2 p-1+m+1=L2 p+m by omega];exact hg
 refine ⟨l,rec,_,hobj s hs,rfl,hrec.symm,rfl,hY s p (L2 p-1+m) hs (hq p (Vn p)) hg1,?_⟩;rintro _ _ ⟨rfl,rfl⟩;refine Qp Ke (Br (fun hc1=>Ab (Qp Bl (Rc ?_))) fun hc1=>B8 (Cj (Qp (Qf ggx) (Qp Eg ?_))))
 .
  refine ⟨.inr rfl,[.bool _],Ze,_,S0,?_⟩;have hx:=goY_stop live step hs (show live (step s p)=false by simpa using hc1);exact ⟨congrArg AV.bool (by rw [hx];simpa using hc1:false=live _),congrArg HH hx.symm⟩
 refine Qp (G6 p.args.length rfl rfl (by simp)) ?_;refine Qp Ax (A7 (AW.block ?_));have hg2:Mp (Xg live step (step s p) ((p.args.take 0).flatMap H1)) (((p.args.drop 0).map L2).sum+m):=by have h:=hgo s p (L2 p-1+m) hg1;rw [show L2 p-1=(p.args.map L2).sum by rw [Oy];rfl] at h;exact h
 refine AW.Aan (fun (k:Nat)=>(⟨[(1,.val (.func (.yield l) #[] #[])),(12,.sl 14 (p.args.map Xa)),(13,.int .i64 p.args.length),(14,.int .i64 (k:Int))],HH (Xg live step (step s p) ((p.args.take k).flatMap H1)),23⟩:St)) (fun k=>k<=p.args.length/\live (Xg live step (step s p) ((p.args.take k).flatMap H1))=true/\Mp (Xg live step (step s p) ((p.args.take k).flatMap H1)) (((p.args.drop k).map L2).sum+m)) (fun k=>p.args.length-k) (0) ?_ Dp ?_
 . exact ⟨Bk _,by simpa [Xg] using hc1,hg2⟩
 rintro k hR;refine Ab (Qp C5 (Re (Hs (fun hc2=>?_) fun hc2=>?_)))
 .
  obtain ⟨a,ha⟩:=De hc2;have hlt:=Ch ha;have hm:=Ak ha;refine B8 (AW.seq (AW.block (Ab ?_)));refine Qp (F5 Hp rfl rfl (by omega) (gW ha)) ?_;refine Qp (C8 Hp) (E8 ggz fun b6=>?_);refine B4 0 Hp (_::_) ?_;refine Me 6 0 rfl ?_;refine Cf (Qp (C8 Hp) (Qp B3 ?_));refine Rt (D2 rfl (ih a hm (by have:=Rw hm;omega) (fun q h=>hq q (mA hm h)) _ hR.2.1 (((p.args.drop (k+1)).map L2).sum+m) (by have h:=hR.2.2;rw [A4 ha,Ao,Jq,T2] at h;exact h))) ?_;refine Qp Ke (Br (fun hc3=>Ab (Qp Bl (Ra (Bc (Ep (Bc ?_)))))) fun hc3=>Rf (AW.region (Qp Ii (Qp Ax (A7 ?_)))))
  .
   refine ⟨.inr rfl,[.bool _],Ze,_,S0,?_⟩;have hd:live (Xg live step (step s p) ((p.args.take (k+1)).flatMap H1))=false:=by rw [lG live step ha];simpa using hc3
   have hx:=(goY_nd live step hs p).trans (goY_cut live step ha hd);exact ⟨congrArg AV.bool (by rw [hx,hd]:false=live _),congrArg HH ((lG live step ha).symm.trans hx.symm)⟩
  refine ⟨k+1,?_,?_,GS.trans (GS.heq (congrArg HH (lG live step ha).symm)) Dp⟩
  . exact ⟨hlt,by rw [lG live step ha];simpa using hc3,by rw [lG live step ha];exact qB live step hmo hgo (H1 a) _ _ (by have h:=hR.2.2;rw [A4 ha,Ao,Jq,T2,<-nd_len] at h;exact h)⟩
  omega
 have hte:=F1 hc2;refine AW.exit ?_;refine B9 (Ri (Ab (Qp Bl (Rb ?_))));refine ⟨.inr rfl,[.bool _],Ze,_,S0,?_⟩;have hx:=goY_nd live step hs p;have h9:=hR.2.1;rw [hte] at h9;exact ⟨congrArg AV.bool (by rw [hx,h9]:true=live _),congrArg HH ((congrArg (fun L:List Pt=>Xg live step (step s p) (L.flatMap H1)) hte).trans hx.symm)⟩
theorem rp_pre (p:Pt):Au Tryz.prog 160 [.agg (cPt p)] (.fn (.func 200) [] [.ptr (cPt p)]):=by
 refine G3 4 Tryz.func160 rfl fun H=>?_
 refine Ab (Qp (Ji Hp) (Qp Tm (Cf (Qp (Ca (l:=[]) (l':=[.ptr _]) rfl rfl) (Qp (An (v:=.fn _ _ _) rfl) (Rb (Qr (.fn _ _ _) ?_)))))));rfl
theorem tW (S:Type)(live:S->Bool)(step:S->Pt->S)(Mp:S->Nat->Prop)(hmo:∀s n m,Mp s n->m<=n->Mp s m)(hgo:∀s q n,Mp s (n+1)->Mp (step s q) n)(Q:Pt->Prop)(HH:S->List HO)(l:Nat)(rec:Loop)(hrec:rec.params.size=1)(hobj:∀s,live s=true->∃i:Nat,(HH s)[i]? = some (HO.obj l (Obj.loop rec)))(hY:∀s q n,live s=true->Q q->Mp s (n+1)->U1 Tryz.prog l rec (HH s) [.agg (cPt q)] (fun r H'=>r = .bool (live (step s q))/\H'=HH (step s q)))(p:Pt)(hp:L2 p<=1048576)(hq:∀q∈H1 p,Q q)(s:S)(m:Nat)(hs:live s=true)(hg:Mp s (L2 p+m)):Cc Tryz.prog 200 (HH s) [.val (.func (.yield l) #[] #[]),.ptr (cPt p)] (fun r H'=>r = .tuple []/\H'=HH (Xg live step s (H1 p))):=by
 refine Jz 6 Tryz.func200 rfl ?_;refine AW.region (Qp (C8 Hp) (Qp B3 (Rcl (rp_walk S live step Mp hmo hgo Q HH l rec hrec hobj hY p hp hq s m hs hg) (AOL.nil ?_))));refine ⟨.inl rfl,[],.nil,_,.refl _,?_⟩;exact ⟨rfl,rfl⟩
theorem rp_restA (p:Pt)(hp:medP p)(H:List HO):Cc Tryz.prog 159 H [.agg (cPt p)] (fun r H'=>r = .int .i64 (Sd p)/\H'=H):=by
 refine Cc.bodyX (n:=24) tok Tryz.func159 rfl rfl rfl ?_;refine AWX.seq ?_;refine AW.region (Qp (Ji Hp) (E8 [.int .i64 0] fun b2=>A7 ?_));refine AWX.seq ?_;refine AW.region (Qp (C8 Hp) (Qp (Qc rfl (rp_Size p hp.n)) (Qp Wz (Qp Wt (Qp Wt (Qp A3 (Qp A3 (A7 ?_))))))));refine AWX.seq ?_;refine Ab (Qp Ax (Qp Jj (Br (fun hc1=>Ab ?_) fun hc1=>B8 ?_)))
 .
  refine B4 0 [Iq _] (_::_) (Rc ?_);refine ⟨.inr rfl,[Iq _],.cons (.boxs _ _ _ 0 _ _ _ rfl _ rfl rfl rfl) <| .nil,_,S1,?_⟩;exact ⟨congrArg (AV.int .i64) (rst_1 hc1).symm,rfl⟩
 refine AWX.seq ?_;refine Ab (Qp Ax (Qp Jj (Br (fun hc2=>Ab ?_) fun hc2=>B8 ?_)))
 .
  refine B4 0 [Iq _] (_::_) (Rc ?_);refine ⟨.inr rfl,[Iq _],.cons (.boxs _ _ _ 0 _ _ _ rfl _ rfl rfl rfl) <| .nil,_,S1,?_⟩;exact ⟨congrArg (AV.int .i64) (rst_2 hc1 hc2).symm,rfl⟩
 refine AWX.assoc ?_;refine AW.region (Qp (C8 Hp) (Qp (Qc rfl (rp_pre p)) (A7 ?_)));refine AWX.rangeE tok (fun H2=>Dk iV (H1 p)=0/\H2 = .box b2 26 [.int .i64 0]::H) (fun H2=>Dk iV (H1 p)≠0/\H2 = .box b2 26 [.int .i64 (Dk iV (H1 p))]::H) rfl (by kernel_rfl) (fun rec D l hst hpe hps has hbo hsz htm=>?_) (fun D H2 hZ=>?_) (fun D H2 hY=>?_)
 .
  refine Cc.post (tW Int (fun e=>e==0) (fun _ q=>iV q) (fun _ _=>True) (fun _ _ _ _ _=>trivial) (fun _ _ _ _=>trivial) (fun q=>Ef q.cond<=1048576/\q.args.length<=1048576) (fun e:Int=>(.obj l (.loop (if (e==0)=true then rec else { rec with state:=.done,pending:=some .ret })) :: .obj D (.deferred (some [])) :: .box b2 26 [.int .i64 e]::H:List HO)) l rec (by rw [hps];rfl) (fun e he=>⟨0,by show some (HO.obj l (.loop (if (e==0)=true then rec else { rec with state:=.done,pending:=some .ret })))=_;rw [if_pos he]⟩) (fun e q n he hq _=>?_) p hp.n (hp.len) 0 0 rfl trivial) ?_
  .
   obtain rfl:e=0:=by simpa using he
   show U1 _ l rec (.obj l (.loop rec) :: .obj D (.deferred (some [])) :: .box b2 26 [.int .i64 0]::H) _ _;refine U1.ofE2 ((18,.agg (cPt q)) :: [(2,Value.pointer (some ⟨b2,0,none⟩))].map fun p=>(p.1,.val p.2)) hst hpe hsz (by rw [hps];exact par1 hsz rfl ⟨htm 2 _ rfl,trivial⟩) has hbo ?_;refine AWr.region (by kernel_rfl) ?_;refine E8 ggz fun b5=>?_
   refine B4 0 Hp (_::_::_::_::_) ?_;refine Me 5 0 rfl ?_;refine AOL.nil ?_;refine ⟨rfl,0,rfl,?_⟩;refine AWr.block ?_;refine AWr.seq ?_;refine AWr.region (by kernel_rfl) ?_;refine Qp (C8 Hp) (Qp (Qc rfl (rp_check q hq.1 hq.2)) (Qp A3 (A7 ?_)));refine AWr.seq ?_;refine AWr.region (by kernel_rfl) ?_;refine Qp Ax (Qp Cq (A7 ?_));refine AWr.cond (b:=_) rfl (fun hc3=>?_) (fun hc3=>?_)
   .
    refine AWr.seq ?_;refine AWr.region (by kernel_rfl) ?_;refine Qp Ax ?_;refine B4 2 [Iq _] (_::_::_::_) (A7 ?_);refine AWr.ret ?_;refine Ep ?_;have h0:(iV q==0)=false:=by simpa using hc3
    have hH:(fun e:Int=>(.obj l (.loop (if (e==0)=true then rec else { rec with state:=.done,pending:=some .ret })) :: .obj D (.deferred (some [])) :: .box b2 26 [.int .i64 e]::H:List HO)) (iV q)=(.obj l (.loop { rec with state:=.done,pending:=some .ret }) :: .obj D (.deferred (some [])) :: .box b2 26 [.int .i64 (iV q)]::H:List HO):=Eq.trans (congrArg (fun r:Loop=>(.obj l (.loop r) :: .obj D (.deferred (some [])) :: .box b2 26 [.int .i64 (iV q)]::H:List HO)) (if_neg (by rw [h0];decide))) (congrArg (fun v:Int=>(.obj l (.loop { rec with state:=.done,pending:=some .ret }) :: .obj D (.deferred (some [])) :: .box b2 26 [.int .i64 v]::H:List HO)) (rfl));exact ⟨0,rfl,Or.inr ⟨rfl,congrArg AV.bool h0.symm,hH.symm⟩⟩
   refine AWr.skip ?_;refine Km ?_;have h0:iV q=0:=by simpa using hc3
   exact ⟨0,rfl,Or.inl ⟨rfl,congrArg AV.bool (by rw [h0];rfl),congrArg (fun e:Int=>(.obj l (.loop (if (e==0)=true then rec else { rec with state:=.done,pending:=some .ret })) :: .obj D (.deferred (some [])) :: .box b2 26 [.int .i64 e]::H:List HO)) h0.symm⟩⟩
  rintro r K ⟨rfl,rfl⟩;have hfin:=eX iV (H1 p);by_cases h0:Dk iV (H1 p)=0
  . exact ⟨_,List.Perm.refl _,rec,_,congrArg (fun e:Int=>(.obj l (.loop (if (e==0)=true then rec else { rec with state:=.done,pending:=some .ret })) :: .obj D (.deferred (some [])) :: .box b2 26 [.int .i64 e]::H:List HO)) (hfin.trans h0),by rw [hst];decide,Or.inl ⟨hpe,h0,rfl⟩⟩
  exact ⟨_,List.Perm.refl _,{ rec with state:=.done,pending:=some .ret },.box b2 26 [.int .i64 (Dk iV (H1 p))]::H,(congrArg (fun e:Int=>(.obj l (.loop (if (e==0)=true then rec else { rec with state:=.done,pending:=some .ret })) :: .obj D (.deferred (some [])) :: .box b2 26 [.int .i64 e]::H:List HO)) hfin).trans (congrArg (fun r:Loop=>(.obj l (.loop r) :: .obj D (.deferred (some [])) :: .box b2 26 [.int .i64 (Dk iV (H1 p))]::H:List HO)) (if_neg (by simpa using h0))),(fun h=>LoopState.noConfusion h),Or.inr ⟨rfl,h0,rfl⟩⟩
 .
  obtain ⟨h0,rfl⟩:=hZ;refine Tail.region ?_;refine B4 1 [Iq _] (_::_::_) (AOL.nil ?_);exact ⟨0,rfl,[_],.cons (.boxs _ _ _ 1 _ _ _ rfl _ rfl rfl rfl) .nil,H,.cons _ (.cons _ (.refl _)),congrArg (AV.int .i64) (((rst_3 hc1 hc2).trans h0).symm),rfl⟩
 obtain ⟨h0,rfl⟩:=hY;exact ⟨_,GS.refl _,0,rfl,[_],.cons (.boxs _ _ _ 1 _ _ _ rfl _ rfl rfl rfl) .nil,H,.cons _ (.cons _ (.refl _)),congrArg (AV.int .i64) ((rst_3 hc1 hc2).symm),rfl⟩
theorem rp_rest (p:Pt)(hp:medP p):Au Tryz.prog 159 [.agg (cPt p)] (.int .i64 (Sd p)):=fun H=>rp_restA p hp H
theorem rp_wholeA (p:Pt)(hp:medP p)(H:List HO):Cc Tryz.prog 98 H [.agg (cPt p)] (fun r H'=>r = .int .i64 (Uz p)/\H'=H):=by
 refine Cc.bodyX (n:=16) tok Tryz.func98 rfl rfl rfl ?_;refine AWX.seq ?_;refine AW.region (Qp (Ji Hp) (E8 [.int .i64 0] fun b2=>A7 ?_));refine AWX.seq ?_;refine Ab (Qp (C8 Hp) (Qp (Qc rfl (rp_rest p hp)) (Qp A3 (Cf (Qp Ax (Qp Cq (Br (fun hc1=>Ab (Qp Ax ?_)) fun hc1=>B8 ?_)))))))
 .
  refine B4 0 [Iq _] (_::_) (Rc ?_);refine ⟨.inr rfl,[Iq _],.cons (.boxs _ _ _ 0 _ _ _ rfl _ rfl rfl rfl) <| .nil,_,S1,?_⟩;exact ⟨congrArg (AV.int .i64) (whl_1 hc1).symm,rfl⟩
 refine AWX.assoc ?_;refine AW.region (Qp (C8 Hp) (Qp (Qc rfl (rp_pre p)) (A7 ?_)));refine AWX.rangeE tok (fun H2=>Dk uS (H1 p)=0/\H2 = .box b2 26 [.int .i64 0]::H) (fun H2=>Dk uS (H1 p)≠0/\H2 = .box b2 26 [.int .i64 (Dk uS (H1 p))]::H) rfl (by kernel_rfl) (fun rec D l hst hpe hps has hbo hsz htm=>?_) (fun D H2 hZ=>?_) (fun D H2 hY=>?_)
 .
  refine Cc.post (tW Int (fun e=>e==0) (fun _ q=>uS q) (fun _ _=>True) (fun _ _ _ _ _=>trivial) (fun _ _ _ _=>trivial) (fun q=>True) (fun e:Int=>(.obj l (.loop (if (e==0)=true then rec else { rec with state:=.done,pending:=some .ret })) :: .obj D (.deferred (some [])) :: .box b2 26 [.int .i64 e]::H:List HO)) l rec (by rw [hps];rfl) (fun e he=>⟨0,by show some (HO.obj l (.loop (if (e==0)=true then rec else { rec with state:=.done,pending:=some .ret })))=_;rw [if_pos he]⟩) (fun e q n he hq _=>?_) p hp.n (fun _ _=>trivial) 0 0 rfl trivial) ?_
  .
   obtain rfl:e=0:=by simpa using he
   show U1 _ l rec (.obj l (.loop rec) :: .obj D (.deferred (some [])) :: .box b2 26 [.int .i64 0]::H) _ _;refine U1.ofE2 ((12,.agg (cPt q)) :: [(2,Value.pointer (some ⟨b2,0,none⟩))].map fun p=>(p.1,.val p.2)) hst hpe hsz (by rw [hps];exact par1 hsz rfl ⟨htm 2 _ rfl,trivial⟩) has hbo ?_;refine AWr.region (by kernel_rfl) ?_;refine E8 ggz fun b4=>?_
   refine B4 0 Hp (_::_::_::_::_) ?_;refine Me 4 0 rfl ?_;refine AOL.nil ?_;refine ⟨rfl,0,rfl,?_⟩;refine AWr.block ?_;refine AWr.seq ?_;refine AWr.region (by kernel_rfl) ?_;refine Qp (Qf Hp) (Qp B7 (Qp Lm (A7 ?_)));refine AWr.cond (b:=_) rfl (fun hc2=>?_) (fun hc2=>?_)
   .
    refine AWr.seq ?_;refine AWr.region (by kernel_rfl) ?_;refine B4 2 [Iq _] (_::_::_::_) (A7 ?_);refine AWr.ret ?_;refine Ep ?_;have h0:(uS q==0)=false:=by rw [show uS q=1 from if_pos hc2];rfl
    have hH:(fun e:Int=>(.obj l (.loop (if (e==0)=true then rec else { rec with state:=.done,pending:=some .ret })) :: .obj D (.deferred (some [])) :: .box b2 26 [.int .i64 e]::H:List HO)) (uS q)=(.obj l (.loop { rec with state:=.done,pending:=some .ret }) :: .obj D (.deferred (some [])) :: .box b2 26 [.int .i64 (1)]::H:List HO):=Eq.trans (congrArg (fun r:Loop=>(.obj l (.loop r) :: .obj D (.deferred (some [])) :: .box b2 26 [.int .i64 (uS q)]::H:List HO)) (if_neg (by rw [h0];decide))) (congrArg (fun v:Int=>(.obj l (.loop { rec with state:=.done,pending:=some .ret }) :: .obj D (.deferred (some [])) :: .box b2 26 [.int .i64 v]::H:List HO)) ((if_pos hc2:uS q=1)));exact ⟨0,rfl,Or.inr ⟨rfl,congrArg AV.bool h0.symm,hH.symm⟩⟩
   refine AWr.skip ?_;refine Km ?_;have h0:uS q=0:=Bu hc2;exact ⟨0,rfl,Or.inl ⟨rfl,congrArg AV.bool (by rw [h0];rfl),congrArg (fun e:Int=>(.obj l (.loop (if (e==0)=true then rec else { rec with state:=.done,pending:=some .ret })) :: .obj D (.deferred (some [])) :: .box b2 26 [.int .i64 e]::H:List HO)) h0.symm⟩⟩
  rintro r K ⟨rfl,rfl⟩;have hfin:=eX uS (H1 p);by_cases h0:Dk uS (H1 p)=0
  . exact ⟨_,List.Perm.refl _,rec,_,congrArg (fun e:Int=>(.obj l (.loop (if (e==0)=true then rec else { rec with state:=.done,pending:=some .ret })) :: .obj D (.deferred (some [])) :: .box b2 26 [.int .i64 e]::H:List HO)) (hfin.trans h0),by rw [hst];decide,Or.inl ⟨hpe,h0,rfl⟩⟩
  exact ⟨_,List.Perm.refl _,{ rec with state:=.done,pending:=some .ret },.box b2 26 [.int .i64 (Dk uS (H1 p))]::H,(congrArg (fun e:Int=>(.obj l (.loop (if (e==0)=true then rec else { rec with state:=.done,pending:=some .ret })) :: .obj D (.deferred (some [])) :: .box b2 26 [.int .i64 e]::H:List HO)) hfin).trans (congrArg (fun r:Loop=>(.obj l (.loop r) :: .obj D (.deferred (some [])) :: .box b2 26 [.int .i64 (Dk uS (H1 p))]::H:List HO)) (if_neg (by simpa using h0))),(fun h=>LoopState.noConfusion h),Or.inr ⟨rfl,h0,rfl⟩⟩
 .
  obtain ⟨h0,rfl⟩:=hZ;refine Tail.region ?_;refine B4 1 [Iq _] (_::_::_) (AOL.nil ?_);exact ⟨0,rfl,[_],.cons (.boxs _ _ _ 1 _ _ _ rfl _ rfl rfl rfl) .nil,H,.cons _ (.cons _ (.refl _)),congrArg (AV.int .i64) (((whl_2 hc1).trans h0).symm),rfl⟩
 obtain ⟨h0,rfl⟩:=hY;exact ⟨_,GS.refl _,0,rfl,[_],.cons (.boxs _ _ _ 1 _ _ _ rfl _ rfl rfl rfl) .nil,H,.cons _ (.cons _ (.refl _)),congrArg (AV.int .i64) ((whl_2 hc1).symm),rfl⟩
theorem rp_whole (p:Pt)(hp:medP p):Au Tryz.prog 98 [.agg (cPt p)] (.int .i64 (Uz p)):=fun H=>rp_wholeA p hp H
theorem rp_countA (p:Pt)(hp:medP p)(ho:∀q∈H1 p,opOK q)(H:List HO):Cc Tryz.prog 99 H [.agg (cPt p)] (fun r H'=>r = .tuple [.int .i64 (Rd p).vars,.int .i64 (Rd p).scopes,.bool (Rd p).ok]/\H'=H):=by
 refine Cc.bodyX (n:=42) tok Tryz.func99 rfl rfl rfl ?_;refine AWX.seq ?_;refine AW.region (Qp (Ji Hp) (Qp A3 (Qp A3 (Qp Bl (A7 ?_)))));refine AWX.seq ?_;refine AW.region (E8 [.int .i64 0] fun b5=>E8 [.int .i64 0] fun b6=>E8 [.bool false] fun b7=>?_);refine B4 2 [Iq _] (_::_::_::_) ?_;refine B4 1 [Iq _] (_::_::_::_) ?_;refine B4 0 [.bool _] (_::_::_::_) (A7 ?_);refine AWX.assoc ?_;refine AW.region (Qp (C8 Hp) (Qp (Qc rfl (rp_pre p)) (A7 ?_)));refine AWX.rangeE tok (fun H2=>H2 = .box b7 4 [.bool (Rd p).ok] :: .box b6 3 [.int .i64 (Rd p).scopes] :: .box b5 3 [.int .i64 (Rd p).vars]::H) (fun H2=>False) rfl (by kernel_rfl) (fun rec D l hst hpe hps has hbo hsz htm=>?_) (fun D H2 hZ=>?_) (fun D H2 hY=>hY.elim)
 .
  refine Cc.post (tW Cnt (fun _=>true) Lt oW cnt_mono cnt_step opOK (fun c:Cnt=>(.obj l (.loop rec) :: .obj D (.deferred (some [])) :: .box b7 4 [.bool c.ok] :: .box b6 3 [.int .i64 c.scopes] :: .box b5 3 [.int .i64 c.vars]::H:List HO)) l rec (by rw [hps];rfl) (fun e he=>⟨0,rfl⟩) (fun c q n he hq hc=>?_) p hp.n ho ⟨0,0,true⟩ 0 rfl (by have:=hp.n;exact ⟨D6 _,D6 _,by simp only;omega,by simp only;omega⟩)) ?_
  .
   show U1 _ l rec (.obj l (.loop rec) :: .obj D (.deferred (some [])) :: .box b7 4 [.bool c.ok] :: .box b6 3 [.int .i64 c.scopes] :: .box b5 3 [.int .i64 c.vars]::H) _ _;refine U1.ofE2 ((12,.agg (cPt q)) :: [(5,Value.pointer (some ⟨b5,0,none⟩)),(6,Value.pointer (some ⟨b6,0,none⟩)),(7,Value.pointer (some ⟨b7,0,none⟩))].map fun p=>(p.1,.val p.2)) hst hpe hsz (by rw [hps];exact par1 hsz rfl ⟨htm 5 _ rfl,htm 6 _ rfl,htm 7 _ rfl,trivial⟩) has hbo ?_;obtain ⟨hv0,hs0,hv1,hs1⟩:=hc;refine (shp_at hq.1 hq.2).elim fun rest hrest=>?_
   refine AWr.region (by kernel_rfl) ?_;refine E8 ggz fun b8=>?_
   refine B4 0 Hp (_::_::_::_::_::_::_) ?_;refine Me 8 0 rfl ?_;refine AOL.nil ?_;refine ⟨rfl,0,rfl,?_⟩;refine AWr.block ?_;refine AWr.seq ?_;refine AWr.region (by kernel_rfl) ?_;refine Qp (Qf Hp) (Qp B7 ?_);refine Qp (T7 (cs':=cShp (Ll q.op)++rest) tok ⟨_,by simp [globals],fun _ h=>h⟩ rfl rfl rfl rfl (hq.1) (hq.2) hrest rfl) ?_;refine Qp (C8 glx) (E8 [.int .i64 0,.int .i64 0,.bool false,.bool false,.bool false,.bool false] fun b9=>?_);refine B4 0 glx (_::_::_::_::_::_::_) ?_;refine Me 9 0 rfl ?_;refine A7 ?_;refine AWr.seq ?_;refine AWr.seq ?_;refine AWr.region (by kernel_rfl) ?_;refine Qp (Qf giy) (Qp uP (A7 ?_));refine AWr.cond (b:=_) rfl (fun hc1=>?_) (fun hc1=>?_)
   .
    refine AWr.seq ?_;refine AWr.region (by kernel_rfl) ?_;refine Ua 2 (.bool _) rfl (Qp Cw (Qg [] Qw (Qf gix) (Qg [(21,_)] Qw B7 (AOL.gk (y:=Iq _) _ [] rfl (jS.all trivial) (fun hG=>Fb (k:=4) (c:=Iq _) tok rfl rfl rfl rfl) rfl rfl ?_))));refine Qg [(22,_),(23,_)] Yw Bv (Qp Mu ?_);refine B4 2 [.bool _] (_::_::_::_::_::_) (A7 ?_);refine AWr.region (by kernel_rfl) ?_;refine Ua 4 (Iq _) rfl (Qp Ii ?_);refine B4 4 [Iq _] (_::_::_::_::_::_) (A7 ?_);refine AWr.seq ?_;refine AWr.region (by kernel_rfl) ?_;refine Qp (Qf [.bool _,.bool _]) (Qp uP (A7 ?_));refine AWr.cond (b:=_) rfl (fun hc2=>?_) (fun hc2=>?_)
    .
     refine AWr.seq ?_;refine AWr.region (by kernel_rfl) ?_;refine Ua 2 (.bool _) rfl (Qp Cw (Qg [] Qw (Qf gjx) (Qg [(32,_)] Qw B7 (AOL.gk (y:=Iq _) _ [] rfl (jS.all trivial) (fun hG=>Fb (k:=3) (c:=Iq _) tok rfl rfl rfl rfl) rfl rfl ?_))));refine Qg [(33,_),(34,_)] Yw Bv (Qp Mu ?_);refine B4 2 [.bool _] (_::_::_::_::_::_) (A7 ?_);refine AWr.region (by kernel_rfl) ?_;refine Ua 3 (Iq _) rfl (Qp Ii ?_);refine B4 3 [Iq _] (_::_::_::_::_::_) (AOL.nil (Km ?_));exact ⟨0,rfl,Or.inl ⟨rfl,rfl,congrArg (fun c:Cnt=>(.obj l (.loop rec) :: .obj D (.deferred (some [])) :: .box b7 4 [.bool c.ok] :: .box b6 3 [.int .i64 c.scopes] :: .box b5 3 [.int .i64 c.vars]::H:List HO)) (stp_yy hc1 hc2)⟩⟩
    refine AWr.skip ?_;refine Km ?_;exact ⟨0,rfl,Or.inl ⟨rfl,rfl,congrArg (fun c:Cnt=>(.obj l (.loop rec) :: .obj D (.deferred (some [])) :: .box b7 4 [.bool c.ok] :: .box b6 3 [.int .i64 c.scopes] :: .box b5 3 [.int .i64 c.vars]::H:List HO)) (stp_yn hc1 hc2)⟩⟩
   refine AWr.skip ?_;refine Ap ?_;refine AWr.seq ?_;refine AWr.region (by kernel_rfl) ?_;refine Qp (Qf [.bool _,.bool _]) (Qp uP (A7 ?_));refine AWr.cond (b:=_) rfl (fun hc3=>?_) (fun hc3=>?_)
   .
    refine AWr.seq ?_;refine AWr.region (by kernel_rfl) ?_;refine Ua 2 (.bool _) rfl (Qp Cw (Qg [] Qw (Qf gjx) (Qg [(32,_)] Qw B7 (AOL.gk (y:=Iq _) _ [] rfl (jS.all trivial) (fun hG=>Fb (k:=3) (c:=Iq _) tok rfl rfl rfl rfl) rfl rfl ?_))));refine Qg [(33,_),(34,_)] Yw Bv (Qp Mu ?_);refine B4 2 [.bool _] (_::_::_::_::_::_) (A7 ?_);refine AWr.region (by kernel_rfl) ?_;refine Ua 3 (Iq _) rfl (Qp Ii ?_);refine B4 3 [Iq _] (_::_::_::_::_::_) (AOL.nil (Km ?_));exact ⟨0,rfl,Or.inl ⟨rfl,rfl,congrArg (fun c:Cnt=>(.obj l (.loop rec) :: .obj D (.deferred (some [])) :: .box b7 4 [.bool c.ok] :: .box b6 3 [.int .i64 c.scopes] :: .box b5 3 [.int .i64 c.vars]::H:List HO)) (stp_ny hc1 hc3)⟩⟩
   refine AWr.skip ?_;refine Km ?_;exact ⟨0,rfl,Or.inl ⟨rfl,rfl,congrArg (fun c:Cnt=>(.obj l (.loop rec) :: .obj D (.deferred (some [])) :: .box b7 4 [.bool c.ok] :: .box b6 3 [.int .i64 c.scopes] :: .box b5 3 [.int .i64 c.vars]::H:List HO)) (stp_nn hc1 hc3)⟩⟩
  rintro r K ⟨rfl,rfl⟩;exact ⟨_,List.Perm.refl _,rec,_,congrArg (fun c:Cnt=>(.obj l (.loop rec) :: .obj D (.deferred (some [])) :: .box b7 4 [.bool c.ok] :: .box b6 3 [.int .i64 c.scopes] :: .box b5 3 [.int .i64 c.vars]::H:List HO)) (goY_cnt (H1 p) ⟨0,0,true⟩:_=Rd p),by rw [hst];decide,Or.inl ⟨hpe,rfl⟩⟩
 obtain rfl:=hZ;refine Tail.drawn ?_;refine AWD.draw mixed (fun H'=>_∈H'/\_∈H'/\_∈H') ⟨(Ak (i:=3) rfl),(Ak (i:=2) rfl),(Ak (i:=1) rfl)⟩ (by kernel_rfl) ?_;refine Qn 0 rfl (D1.mem (fun k=>Fb (k:=k) (c:=Iq _) tok rfl rfl rfl rfl) (fun _ h=>h.1)) ?_;refine Qn 1 rfl (D1.mem (fun k=>Fb (k:=k) (c:=Iq _) tok rfl rfl rfl rfl) (fun _ h=>h.2.1)) ?_;refine Qn 2 rfl (D1.mem (fun k=>Fb (k:=k) (c:=.bool _) tok rfl rfl rfl rfl) (fun _ h=>h.2.2)) ?_;refine Qn 3 rfl A3 (Qn 4 rfl A3 (Qn 5 rfl Bl ?_));refine Jr ?_;exact ⟨0,rfl,[_,_,_],.cons (.tmp _ _ rfl) (.cons (.tmp _ _ rfl) (.cons (.tmp _ _ rfl) .nil)),H,.cons _ (.cons _ (.cons _ (.cons _ (.refl _)))),rfl,rfl⟩
theorem rp_count (p:Pt)(hp:medP p)(ho:∀q∈H1 p,opOK q):Au Tryz.prog 99 [.agg (cPt p)] (.tuple [.int .i64 (Rd p).vars,.int .i64 (Rd p).scopes,.bool (Rd p).ok]):=fun H=>rp_countA p hp ho H
theorem zC (p:Pt)(hp:medP p):Au Tryz.prog 51 [.agg (cPt p)] (.int .i64 (I6 p)):=by
 refine G3 20 Tryz.func51 rfl fun H=>?_
 refine Ab (Qp (Ji Hp) (Qp A3 (A7 (Cj (Qp (C8 Hp) (Qp (Qc rfl (rp_whole p hp)) (Qp A3 (Cf (Qp Ax (Qp Cq (Br (fun hc1=>Ab (Qp Ax (Qp A3 (Rc (Qr (Iq _) ?_))))) fun hc1=>?_)))))))))))
 . exact Ye (AV.int .i64) (chk_1 hc1)
 refine B8 (Cj (Qp (C8 Hp) (Qp (Qc rfl (rp_count p hp (rst_ops (whl_0 hc1)))) (Qp Wz (Qp Wt (Qp Wt (Qp oB (Qp A3 (Qp A3 (Qp Bl (Cf (Qp Cw (Qp Ke (Br (fun hc2=>Ab (Qp A3 (Rc (Qr (Iq _) ?_)))) fun hc2=>B8 (Ab (Qp A3 (Rb (Qr (Iq _) ?_))))))))))))))))))
 . exact Ye (AV.int .i64) (chk_2 hc1 hc2)
 exact Ye (AV.int .i64) (chk_3 hc1 hc2)
abbrev T8 (q:Qy×Fa):AV:=AV.tuple [.agg (cQy q.1),.agg (rR q.2)]
theorem rf_query (T:List e8Sc)(hT:TsOK T)(t:Syn)(ht:QryOK t):Au Tryz.prog 20 [.sl 2 (T.map Oh),.agg (cSyn t)] (.tuple [.agg (cQy (Co T t).1),.agg (rR (Co T t).2)]):=by
 have hl3:=ht.len;have hkl:=bA ht.m;have hdl:(t.kids.drop 2).length<=1000000:=by rw [Eh];omega
 have hpt:=ht.pat;have hrv:=dec_rv hT (Lb (Aq t 1));have hev:=ht.evl;refine G3 119 Tryz.func20 rfl fun H=>?_
 refine Ab (Qp (Ji Aj) (E8 gky fun b4=>E8 oF fun b5=>Cf (Qp Ng (Qe (D2 rfl (Xv T hT.tl hT.nd _)) ?_))));rintro _ _ ⟨b6,s6,rfl,rfl⟩;refine Qp Tm ?_;refine AOL.ghost (GS.cellRow 0 2 60 2 rfl rfl rfl rfl) ?_;refine A7 (Cj (Qp (Qf Po) (Qp Eg ?_)));refine Qp (F5 Aj rfl rfl (by decide) (Je (Hc (by omega)))) ?_;refine Qp (C8 Aj) (Qp (Qc rfl (rf_events (Aq t 1) ht.med1 hpt)) (Qp B3 (Qp (Ca (l:=[.val _]) (l':=[]) rfl rfl) ?_)));refine Qe (D2 rfl (Cc.front3 (R:=_::_::_) 2 1 0 rfl rfl rfl rfl (rf_eachD T [] (by decide) _ b6 s6 (Lb (Aq t 1)) hev _))) ?_;rintro _ _ ⟨v7,rfl,rfl⟩;refine E8 oF fun b7=>?_
 refine B4 0 Jb (_::_::_::_::_::_::_) ?_;refine Me 7 0 rfl ?_;refine Cf (Qp (Qf [Iq _]) (Qp B7 (Qp Cq (Br (fun hc1=>AW.seq ?_) fun hc1=>?_))))
 .
  refine Oe ?_;refine Qn 0 rfl (Gz O8) (Qn 1 rfl (C8 Jb) ?_);refine Qz 2 rfl (Mf 4 (.agg _) O8 (_::_::_::_::_::_) rfl) ?_;refine Qz 3 rfl (Mf 3 (.agg _) Jb (_::_::_::_::_::_) rfl) ?_;refine Jr ?_;refine Ap (oN ?_);refine Yx [.agg O8,.agg Jb] (.cons (Yb 4) <| .cons (Yb 3) <| .nil) S5 ?_;exact Ye T8 (qr_1 hc1)
 have hTp:0<T.length:=dec_pos (ev_some _ hpt) hc1;refine B8 (AW.seq ?_);refine AW.ghost (GS.cell (H2:=_::_::_::_::_::_) 1 2 rfl rfl rfl rfl Fg) ?_;refine AW.ghost (GS.freezeSMapCell 2 1 3 rfl rfl rfl rfl rfl) ?_
 skip
 refine T6 1 rfl (Qn 0 rfl (Qf Zr) (Qn 1 rfl Hn (Qn 2 rfl B3 (Qn 3 rfl (Aa rfl) (Qn 4 rfl Dg (Qn 5 rfl (Nc (.sl _ _) rfl) ?_))))));refine Qn 6 rfl (Kj (l0:=[.str [],.sl 2 [],.sl 1 [],.int .i64 0,.sl 14 [],.int .i64 0,.int .i64 0,.int .i64 0,.int .i64 0,.int .i64 0,.sl 8 [],.int .i64 0,.int .i64 0,.int .i64 0,.int .i64 0,.int .i64 0,.str [],.val (.slice none 0 0)]) (l:=O8) tok rfl rfl (by kernel_rfl) rfl) ?_;refine aB 7 rfl (G5 (l:=gky) (by kernel_rfl)) (by rintro _ _ ⟨b8,rfl,rfl⟩;simp) ?_;rintro _ _ ⟨b8,rfl,rfl⟩;refine iR 8 rfl (Mf 0 (.agg _) O8 (_::_::_::_::_::_) rfl) ?_;rintro _ _ ⟨rfl,rfl⟩;refine Ap ?_;refine AW.Aat (fun (w:List Int)=>(⟨[(3,.ptr (cSyn t)),(4,.val (.pointer (some ⟨b4,0,none⟩))),(5,.val (.pointer (some ⟨b5,0,none⟩))),(6,.val (.pointer (some ⟨b6,0,none⟩))),(8,.val (.pointer (some ⟨b8,0,none⟩)))],.box b8 57 (cQyW ⟨t.text,(H8 T t),w,pt0,[]⟩ (.val (.slice none 0 0))) :: .box b6 126 (dU T (H8 T t) ⟨0,0⟩) :: .box b5 72 oF :: .box b4 57 gky::H,119⟩:St)) (fun w=>w=(qG T t (H8 T t)).1/\(!(qG T t (H8 T t)).2)=false) ?_ ?_
 .
  refine Ab (Qp (Qf Po) (Qp Eg ?_));refine Qp (F5 Aj rfl rfl (by decide) (Je (Hc (by omega)))) ?_;refine Qp (C8 Aj) ?_;refine E8 Kb fun b9=>?_
  refine B4 0 Aj (_::_::_::_::_::_::_) ?_;refine Me 9 0 rfl ?_;refine Cf (Qp (Qf Zr) (Qp Hn (Qp (Gl rfl rfl) (Br (fun hc2=>Ab (Qp B3 (Qp (Qf Zr) (Qp Hn ?_)))) fun hc2=>B8 ?_))))
  .
   refine AOL.Aaq (C0 (k:=2) (by kernel_rfl) rfl rfl (rf_key T (H8 T t) ⟨0,0⟩ b6 hrv (Aq t 0).text hTp)) rfl rfl ?_;refine Qp Wz (Qp Qxs (Qp oB (Qp rL (Qp Bl (A7 (Cj (Qp Cw (Qp Ke (Br (fun hc3=>AW.seq ?_) fun hc3=>B8 (AW.region (Qp Ng (Qp Dg ?_))))))))))))
   .
    refine Oe ?_;refine Qn 0 rfl (Gz O8) (Qn 1 rfl (Qf [Iq _]) (Qn 2 rfl B7 (Qn 3 rfl (Gz Jb) ?_)));refine Qz 4 rfl (Mf 4 (.agg _) O8 (_::_::_::_::_::_) rfl) ?_;refine Qz 5 rfl (Mf 3 (.agg _) Jb (_::_::_::_::_::_) rfl) ?_;refine Jr ?_;refine Ap (oN (Bc ?_));refine Yx [.agg O8,.agg Jb] (.cons (Yb 4) <| .cons (Yb 3) <| .nil) S5 ?_;exact Ye T8 ((qr_b hc1).trans (qr_2 (by rw [lT hc2];exact hc3)))
   refine B4 0 O8 (_::_::_::_::_::_) (A7 ?_);refine ⟨(Pf T (H8 T t) (Aq t 0).text).1,?_,GS.weaken ⟨rfl,rfl,rfl,rfl,rfl,trivial⟩ (.cons_cons _ (.cons _ (.refl _)))⟩;exact ⟨by rw [lT hc2],by rw [lT hc2];exact hc3⟩
  refine ⟨[],?_,GS.weaken ⟨rfl,rfl,rfl,rfl,rfl,trivial⟩ (.cons_cons _ (.cons _ (.refl _)))⟩;exact ⟨by rw [ky_no hc2],by rw [ky_no hc2];rfl⟩
 rintro w hK;obtain ⟨hk1,hk2⟩:=hK;subst hk1;refine Cj (Qp B3 (Qp (C8 Aj) ?_));refine AOL.Aaq (C0 (k:=1) (by kernel_rfl) rfl rfl (rf_walk T (H8 T t) ⟨0,0⟩ b6 hrv t ht.m)) rfl rfl ?_;refine E8 oF fun b12=>?_
 refine B4 0 Jb (_::_::_::_::_::_) ?_;refine Me 12 0 rfl ?_;refine Cf (Qp (Qf [Iq _]) (Qp B7 (Qp Cq (Br (fun hc4=>AW.seq ?_) fun hc4=>?_))))
 .
  refine Oe ?_;refine Qn 0 rfl (Gz O8) (Qn 1 rfl (C8 Jb) ?_);refine Qz 2 rfl (Mf 3 (.agg _) O8 (_::_::_::_::_) rfl) ?_;refine Qz 3 rfl (Mf 2 (.agg _) Jb (_::_::_::_::_) rfl) ?_;refine Jr ?_;refine Ap (oN ?_);refine Yx [.agg O8,.agg Jb] (.cons (Yb 3) <| .cons (Yb 2) <| .nil) S4 ?_;exact Ye T8 ((qr_b hc1).trans ((qr_c hk2).trans (qr_3 hc4)))
 have hw0:(Fr T (H8 T t) t).err=0:=by simpa using hc4
 have hw1:=(Gr hw0).2 _ (Ak (Hc (t:=t) (k:=1) (by omega)));refine B8 (Ab (Qp B3 (Qp (Qf Po) (Qp Eg ?_))));refine Qp (F5 Aj rfl rfl (by decide) (Je (Hc (by omega)))) ?_;refine Qp (C8 Aj) ?_;refine Rt (D2 rfl ((rf_pattern T (H8 T t) ⟨0,0⟩ b6 hrv (Aq t 1) ht.med1 hpt hw1 ⟨by decide,by decide,by have:=Vz ht.med1;simp only;omega,by have:=Vz ht.med1;simp only;omega⟩).at (k:=1) (H2:=_::_::_::_::_) rfl rfl)) ?_;refine Qp Dg ?_;refine B4 0 O8 (_::_::_::_::_) (A7 (Cj (Qp Dg (Tn 0 Hp rfl (Qp (Qc rfl (zC (uR T t (H8 T t)) (ptt_med ht.med1 hpt _))) (Qp A3 (Cf (Qp Ax (Qp Cq (Br (fun hc5=>AW.seq ?_) fun hc5=>B8 (AW.seq (AW.seq ?_))))))))))))
 .
  refine Oe ?_;refine Qn 0 rfl (Gz O8) (Qn 1 rfl (Qf Po) (Qn 2 rfl Eg ?_));refine Qn 3 rfl (F5 Aj rfl rfl (by decide) (Je (Hc (by omega)))) ?_;refine Qn 4 rfl (Qf [Iq _]) (Qn 5 rfl B7 (Qn 6 rfl Ax (Qn 7 rfl (Gz Jb) ?_)));refine Qz 8 rfl (Mf 3 (.agg _) O8 (_::_::_::_::_) rfl) ?_;refine Qz 9 rfl (Mf 2 (.agg _) Jb (_::_::_::_::_) rfl) ?_;refine Jr ?_;refine Ap (oN ?_);refine Yx [.agg O8,.agg Jb] (.cons (Yb 3) <| .cons (Yb 2) <| .nil) S4 ?_;exact Ye T8 ((qr_b hc1).trans ((qr_c hk2).trans ((qr_d hc4).trans (qr_4 hc5))))
 refine AW.ghost (GS.cellRow 0 17 53 8 rfl rfl rfl rfl) ?_
 skip
 refine AW.region (Qp (Qf Po) (Qp Eg ?_));refine Qp (Qx (l:=2) (h:=(t.kids.map Df).length) tok rfl rfl rfl rfl rfl (⟨_,rfl⟩) (rfl) (by rw [Bg];omega) (Be _) (((congrArg (List.drop 2) Sm).trans List.map_drop.symm))) ?_;refine Qp (G6 ((t.kids.drop 2).length) rfl rfl (by simp)) ?_;refine Qp Ax (A7 (AW.block ?_));refine AW.Aan (fun (q:Nat×List (List AV)×Value)=>(⟨[(3,.ptr (cSyn t)),(4,.val (.pointer (some ⟨b4,0,none⟩))),(5,.val (.pointer (some ⟨b5,0,none⟩))),(6,.val (.pointer (some ⟨b6,0,none⟩))),(8,.val (.pointer (some ⟨b8,0,none⟩))),(92,.sl 6 ((t.kids.drop 2).map Df)),(93,.int .i64 ((t.kids.drop 2).length:Int)),(94,.int .i64 (q.1:Int))],.row q.2.2 q.2.1.length 53 8 :: .box b8 57 (cQyW ⟨t.text,(H8 T t),(qG T t (H8 T t)).1,(Iy T (H8 T t) (Aq t 1) ⟨0,0⟩).1,[]⟩ (.row q.2.2 8 q.2.1)) :: .box b6 126 (dU T (H8 T t) (Iy T (H8 T t) (Aq t 1) ⟨0,0⟩).2) :: .box b5 72 oF :: .box b4 57 gky::H,119⟩:St)) (fun q=>q.1<=(t.kids.drop 2).length/\q.2.1=(((t.kids.drop 2).take q.1).map (Dv T (H8 T t))).map Ix/\((t.kids.drop 2).take q.1).any (fun x=>(rtF T (H8 T t) x).err != 0)=false) (fun q=>(t.kids.drop 2).length-q.1) ((0,[],.slice none 0 0)) ?_ Dp ?_
 . exact ⟨Bk _,rfl,rfl⟩
 rintro q hR;refine Ab (Qp C5 (Re (Hs (fun hc6=>?_) fun hc6=>?_)))
 .
  obtain ⟨a,ha⟩:=De hc6;have hlt:=Ch ha;have hm:=Ak ha;have hsc:∀c∈q.2.1,Av c=true:=by rw [hR.2.1];exact scE _
  have hmk:a∈t.kids:=Wd hm;have hma:=N0 ht.m hmk;have hwa:=(Gr hw0).2 a hmk;refine B8 (AW.seq (AW.block (Ab ?_)));refine Qp (F5 Aj rfl rfl (by omega) (Je ha)) ?_;refine Qp (C8 Aj) ?_;refine E8 Kb fun b15=>?_
  refine B4 0 Aj (_::_::_::_::_::_::_) ?_;refine Me 15 0 rfl ?_;refine Cf (Qp B3 (Qp (C8 Aj) ?_));refine AOL.Aaq (C0 (k:=2) (by kernel_rfl) rfl rfl (tV T (H8 T t) (Iy T (H8 T t) (Aq t 1) ⟨0,0⟩).2 b6 hrv a hma hwa)) rfl rfl ?_;refine E8 ghx fun b16=>?_
  refine B4 0 Nd (_::_::_::_::_::_::_) ?_;refine Me 16 0 rfl ?_;refine A7 (Cj (Qp Ws ?_));refine Qp (Qc rfl (e8c21 (Dv T (H8 T t) a) (by have h:=Ys (T:=T) (V:=(H8 T t)) a;have:=Vz hma;omega))) ?_;refine Qp A3 (Cf (Qp Ax (Qp Cq (Br (fun hc7=>AW.seq ?_) fun hc7=>B8 (AW.region (Qp Dg (Ua 1 (.row _ _ _) rfl (Qp Ws (Qp (Kf [Nd] rfl) ?_)))))))))
  .
   refine Oe ?_;refine Qn 0 rfl (Gz O8) (Qn 1 rfl (Qf [Iq _]) (Qn 2 rfl B7 (Qn 3 rfl Ax (Qn 4 rfl (Gz Jb) ?_))));refine Qz 5 rfl (Mf 4 (.agg _) O8 (_::_::_::_::_::_) rfl) ?_;refine Qz 6 rfl (Mf 3 (.agg _) Jb (_::_::_::_::_::_) rfl) ?_;refine Jr ?_;refine Ap (oN (Rj (Bc ?_)));refine Yx [.agg O8,.agg Jb] (.cons (Yb 4) <| .cons (Yb 3) <| .nil) S5 ?_;exact Ye T8 ((qr_b hc1).trans ((qr_c hk2).trans ((qr_d hc4).trans ((qr_e hc5).trans (qr_5 ha hR.2.2 hc7)))))
  refine Qe (Zq 0 rfl (Ff rfl) (hsc) (by have h9:=congrArg List.length hR.2.1;simp only [Bg,Gv] at h9;simp;omega) (by have h9:=congrArg List.length hR.2.1;simp only [Bg,Gv] at h9;simp [maxLen];omega)) ?_;rintro _ _ ⟨v114,rfl,rfl⟩;refine Qp Dg ?_;refine B4 1 O8 (_::_::_::_::_::_) (Rk (AW.region (Qp Ii (Qp Ax (A7 ?_)))));refine ⟨(q.1+1,q.2.1 ++ [cE (Dv T (H8 T t) a)],v114),?_,?_,Dp⟩
  . exact ⟨hlt,by simp only;rw [El ha,hR.2.1];simp [Pm],R0 hR.2.2 ha (by rw [rt_no hc7];rfl)⟩
  simp only;omega
 have hte:=F1 hc6;have hall:=hR.2.1;have hnn:=hR.2.2;rw [hte] at hall hnn;refine AW.exit ?_;refine B9 (Ri (AW.seq ?_));refine AW.ghost (GS.cell (H2:=_::_::_::_::_::_) 1 17 rfl rfl rfl rfl Fg) ?_
 skip
 refine T6 1 rfl (Qn 0 rfl (D1.mem (fun k=>Mt (k:=k) (l:=O8) tok rfl rfl rfl rfl rfl) (fun _ h=>h)) ?_);refine Qn 1 rfl (Qc rfl (Te)) ?_;refine aB 2 rfl (Mf 4 (.agg _) O8 (_::_::_::_::_::_) rfl) (by rintro _ _ ⟨rfl,rfl⟩;simp) ?_;rintro _ _ ⟨rfl,rfl⟩;refine iR 3 rfl (Mf 3 (.agg _) Jb (_::_::_::_::_::_) rfl) ?_;rintro _ _ ⟨rfl,rfl⟩;refine Ap (AW.ret ?_);refine Yx [.agg O8,.agg Jb] (.cons (Yb 4) <| .cons (Yb 3) <| .nil) S5 ?_;exact Eq.trans (congrArg (fun l:List (List AV)=>AV.tuple [.agg (cQyW ⟨t.text,(H8 T t),(qG T t (H8 T t)).1,(Iy T (H8 T t) (Aq t 1) ⟨0,0⟩).1,[]⟩ (.sl 8 l)),.agg (rR Np)]) hall) (congrArg (fun q:Qy×Fa=>AV.tuple [.agg (cQy q.1),.agg (rR q.2)]) ((qr_b hc1).trans ((qr_c hk2).trans ((qr_d hc4).trans ((qr_e hc5).trans (qr_6 hnn)))))).symm
open Go Go.Aw Go.Sort Go.Lib
theorem below_grow (w:World)(k:Nat)(os:Array Obj):Go.RowKit.Below w.heap.size w (grow (w.drewN k) os):=
 ⟨rfl,rfl,rfl,by first | (simp [grow];done) | (simp [grow];omega),fun i hi=>by
  show ((w.drewN k).heap++os)[i]? = _;rw [Array.getElem?_append_left (by show i<w.heap.size;omega)];rfl⟩
theorem pow10_is {g : Gh} {w : World} (h : GlobOK g w) : Lib.TabIs Tryz.prog w "internal/strconv.uint64pow10" .u64 Lib.pow10Tab := by
 obtain ⟨_,T,fr,h2⟩:=h.tabs _ (D5.2 rfl);have e : Tryz.prog.globalNamed "internal/strconv.uint64pow10" = some 10 := by kernel_rfl
 unfold Lib.TabIs World.var?;rw [e];show (match w.heap[10]? with | some (.cells cs _ _)=>some cs | _=>none)=_;rw [h2];rfl
theorem kItoa (n:Int)(h0 : -9223372036854775808<=n)(h1:n<=9223372036854775807):Au Tryz.prog 175 [.int .i64 n] (.str (Go.Lib.itoa n)):=
 .of_calls fun g w vs hg ha=>by
  obtain ⟨v,rfl,h2⟩:=ha.inv1;have e1:=h2.inv_int;subst e1;have hl:=Go.Lib.itoa_length_le n h0 h1;refine ⟨.string ⟨(Go.Lib.itoa n).toArray⟩,fun _ _ _=>aV (by unfold maxLen;omega),(Tryz.strconv_Itoa n h0 h1 w (pow10_is hg)).mono ?_⟩;rintro e w' ⟨rfl,k,os,rfl⟩;exact ⟨rfl,below_grow w k os⟩
theorem k_check0 (b TT:Nat)(r:AV)(rest:List AV)(hl:liesAt Tryz.prog Tryz.prog.depth TT ((rest.length+2) / Tryz.prog.cellsOf TT) 0 93 1=true)(R:List HO):Cc Tryz.prog 73 (.box b TT (.val (.pointer none)::r::rest)::R) [.val (.pointer (some ⟨b,0,none⟩))] (fun x H'=>x = .tuple []/\H' = .box b TT (.val (.pointer (some ⟨b,0,none⟩))::r::rest)::R):=by
 refine Jz 20 Tryz.func73 rfl ?_;refine Ab (Qp B3 (Qp (Aa rfl) (Qp Dg (AOL.Aaq (Fb (k:=0) (c:=.val (.pointer none)) tok rfl rfl rfl (rfl)) rfl rfl (Qp (jW Tryz.underlying90 rfl rfl) (Br (fun hc1=>AW.region (Qp B3 (Qp B3 (AOL.Aaq (vB (k:=0) tok Tryz.underlying90 Tryz.underlying201 rfl rfl rfl (rfl)) rfl rfl ?_)))) fun hc1=>?_))))))
 .
  refine Qp (P_noEscape Tryz.func135 (by kernel_rfl) (by kernel_rfl) (by kernel_rfl) (by kernel_rfl) rfl) ?_;refine AOL.Aaq (oD (k:=0) tok Tryz.underlying201 Tryz.underlying90 rfl (rfl) (hl) rfl) rfl rfl (Qp (Aa rfl) (Qp Dg ?_));refine Rt (I0 (k:=0) (v:=.val _) (cs':=(.val (.pointer (some ⟨b,0,none⟩))::r::rest)) (H2:=_::_) tok rfl rfl rfl rfl rfl rfl (Nat.ble_eq_true_of_le (by show 0+1<=rest.length+1+1;omega)) (rfl) rfl) ?_;refine AOL.nil ?_;refine ⟨.inl rfl,[],.nil,_,.refl _,?_⟩;exact ⟨rfl,rfl⟩
 cases hc1
theorem k_check1 (b TT:Nat)(r:AV)(rest:List AV)(hl:liesAt Tryz.prog Tryz.prog.depth TT ((rest.length+2) / Tryz.prog.cellsOf TT) 0 93 1=true)(R:List HO):Cc Tryz.prog 73 (.box b TT (.val (.pointer (some ⟨b,0,none⟩))::r::rest)::R) [.val (.pointer (some ⟨b,0,none⟩))] (fun x H'=>x = .tuple []/\H' = .box b TT (.val (.pointer (some ⟨b,0,none⟩))::r::rest)::R):=by
 refine Jz 20 Tryz.func73 rfl ?_;refine Ab (Qp B3 (Qp (Aa rfl) (Qp Dg (AOL.Aaq (Fb (k:=0) (c:=.val (.pointer (some ⟨b,0,none⟩))) tok rfl rfl rfl (rfl)) rfl rfl (Qp (jW Tryz.underlying90 rfl rfl) (Br (fun hc1=>?_) fun hc1=>Ab (Qp B3 (Qp (Aa rfl) (Qp Dg (AOL.Aaq (Fb (k:=0) (c:=.val (.pointer (some ⟨b,0,none⟩))) tok rfl rfl rfl (rfl)) rfl rfl (Qp B3 ?_)))))))))))
 . cases hc1
 refine Qp (P_neqPtr (z:=2) Tryz.underlying90 (by kernel_rfl) rfl rfl rfl) ?_;refine Br (fun hc2=>?_) fun hc2=>AW.skip ?_
 . cases hc2
 refine ⟨.inl rfl,[],.nil,_,.refl _,?_⟩;exact ⟨rfl,rfl⟩
theorem k_check (b TT:Nat)(p:Option Addr)(hp:p=none\/p=some ⟨b,0,none⟩)(r:AV)(rest:List AV)(hl:liesAt Tryz.prog Tryz.prog.depth TT ((rest.length+2) / Tryz.prog.cellsOf TT) 0 93 1=true)(R:List HO) :
  Cc Tryz.prog 73 (.box b TT (.val (.pointer p)::r::rest)::R) [.val (.pointer (some ⟨b,0,none⟩))] (fun x H'=>x = .tuple []/\H' = .box b TT (.val (.pointer (some ⟨b,0,none⟩))::r::rest)::R):=by
 rcases hp with rfl | rfl
 . exact k_check0 b TT r rest hl R
 exact k_check1 b TT r rest hl R
theorem k_checkP (b TT:Nat)(p:Option Addr)(hp:p=none\/p=some ⟨b,0,none⟩)(r:AV)(rest:List AV)(hl:liesAt Tryz.prog Tryz.prog.depth TT ((rest.length+2) / Tryz.prog.cellsOf TT) 0 93 1=true) :
 Bp Tryz.prog 73 b TT (.val (.pointer p)::r::rest) (.val (.pointer (some ⟨b,0,none⟩))::r::rest) [.val (.pointer (some ⟨b,0,none⟩))] (.tuple []):=fun R=>k_check b TT p hp r rest hl R
theorem k_write (b TT:Nat)(p:Option Addr)(hp:p=none\/p=some ⟨b,0,none⟩)(v:Value)(t s:Ac)(rest:List AV)(hl:liesAt Tryz.prog Tryz.prog.depth TT ((rest.length+2) / Tryz.prog.cellsOf TT) 0 93 1=true)(hb:t.length+s.length<=140737488355328)(R:List HO):Cc Tryz.prog 29 (.row v (Ic t).length 5 1 :: .box b TT (.val (.pointer p) :: .row v 1 (Ic t)::rest)::R) [.val (.pointer (some ⟨b,0,none⟩)),.str s] (fun x H'=>∃v',x = .tuple [.int .i64 (s.length:Int),.val .nilIface]/\H' = .row v' (Ic (t++s)).length 5 1 :: .box b TT (.val (.pointer (some ⟨b,0,none⟩)) :: .row v' 1 (Ic (t++s))::rest)::R):=by
 refine Jz 19 Tryz.func29 rfl ?_;refine Ab (Qp A3 (Qp Tm (Cf (Qp B3 (Rcl ((k_checkP b TT p hp _ rest hl).at (k:=1) (H2:=_::_::_) rfl rfl) (Cf (Qp B3 (Qp B3 (Qp (Aa rfl) (Qp Dg (Ua 1 (.row _ _ _) rfl (Qp Iw ?_))))))))))));refine Qe (uT (k:=0) tok rfl rfl rfl rfl Tryz.underlying9 rfl rfl rfl rfl (byc_sc _) (by rw [Pj];exact hb)) ?_;rintro _ _ ⟨v14,rfl,rfl⟩;refine Qp (Aa rfl) (Qp Dg ?_);refine Rt (I0 (k:=1) (v:=.row _ _ _) (cs':=(.val (.pointer (some ⟨b,0,none⟩)) :: .row v14 1 (Ic t++Ic s)::rest)) (H2:=_::_::_) tok rfl rfl rfl rfl rfl rfl (Nat.ble_eq_true_of_le (by show 1+1<=rest.length+1+1;omega)) (rfl) rfl) ?_;refine Cf (Qp Iw (Qp (D7 (n:=s.length) tok rfl rfl rfl (rfl)) (Qp A3 (Qp Tm (Rb ?_)))));refine ⟨.inr rfl,[Iq _,.val _],Zf,_,S0,?_⟩;exact ⟨v14,rfl,congrArg (fun l=>HO.row v14 l.length 5 1::HO.box b TT (.val (.pointer (some ⟨b,0,none⟩)) :: .row v14 1 l::rest)::R) (byc_app t s).symm⟩
theorem k_string (b TT:Nat)(a0:AV)(v:Value)(t:Ac)(rest:List AV)(R:List HO):Cc Tryz.prog 30 (.row v (Ic t).length 5 1 :: .box b TT (a0 :: .row v 1 (Ic t)::rest)::R) [.val (.pointer (some ⟨b,0,none⟩))] (fun x H'=>x = .str t/\H' = .row (.slice none 0 0) 0 5 1 :: .box b TT (a0 :: .row v 1 (Ic t)::rest)::R):=by
 refine Jz 14 Tryz.func30 rfl ?_;refine Ab (Qp Nb (Re (T6 1 rfl (Qn 0 rfl B3 (Qn 1 rfl (Aa rfl) (Qn 2 rfl Dg (Qn 3 rfl (Nc (.row _ _ _) rfl) (Qn 5 rfl B3 (Qn 6 rfl (Aa rfl) (Qn 7 rfl Dg (Qn 8 rfl (Nc (.row _ _ _) rfl) (Qn 9 rfl (Ho (n:=t.length) tok rfl rfl rfl (Pj t)) ?_))))))))))));refine aB 4 rfl (uW (k:=0) Tryz.underlying153 rfl rfl) (by rintro _ _ ⟨q7,hq7,rfl,rfl⟩;simp) ?_;rintro _ _ ⟨q7,hq7,rfl,rfl⟩;refine aB 10 rfl (jR (k:=0) (kb:=1) (o:=1) Tryz.underlying153 (by kernel_rfl) rfl (rfl) hq7 rfl rfl rfl rfl) (by rintro _ _ ⟨rfl,rfl⟩;simp) ?_;rintro _ _ ⟨rfl,rfl⟩;refine Qn 11 rfl Nb ?_;refine Jr ?_;refine Ap (AW.ret ?_);refine ⟨.inr rfl,[.str _],Ze,_,S0,?_⟩;exact ⟨rfl,rfl⟩
theorem k_blen (b TT:Nat)(a0:AV)(v:Value)(t:Ac)(rest:List AV)(R:List HO):Cc Tryz.prog 68 (.row v (Ic t).length 5 1 :: .box b TT (a0 :: .row v 1 (Ic t)::rest)::R) [.val (.pointer (some ⟨b,0,none⟩))] (fun x H'=>x = .int .i64 (t.length:Int)/\H' = .row v (Ic t).length 5 1 :: .box b TT (a0 :: .row v 1 (Ic t)::rest)::R):=by
 refine Jz 8 Tryz.func68 rfl ?_;refine Ab (Qp A3 (Cf (Qp B3 (Qp (Aa rfl) (Qp Dg (Ua 1 (.row _ _ _) rfl (Qp (Ho (n:=t.length) tok rfl rfl rfl (Pj t)) (Qp A3 (Rb ?_)))))))));refine ⟨.inr rfl,[Iq _],Ze,_,S0,?_⟩;exact ⟨rfl,rfl⟩
theorem k_fb0 (c:Bool):Au Tryz.prog 205 [.bool c] (.str (if c then L4 else Jx)):=by
 refine G3 4 Tryz.func205 rfl fun H=>?_
 refine Ab (Qp Nb (A7 (Cj (Qp Cw (Br (fun hc1=>Ab (Qp Nb (Rc (Qr (.str _) ?_)))) fun hc1=>B8 (Ab (Qp Nb (Rb (Qr (.str _) ?_)))))))))
 .
  simp only [Af];rw [if_pos hc1]
 simp only [Af];rw [Bu hc1]
theorem k_fbool (c:Bool):Au Tryz.prog 176 [.bool c] (.str (if c then L4 else Jx)):=by
 refine G3 5 Tryz.func176 rfl fun H=>?_
 refine Ab (Qp Nb (Cf (Qp Cw (Qp (Qc rfl (k_fb0 c)) (Qp Nb (Rb (Qr (.str _) ?_)))))));rfl
def bJ (b:Nat):List AV:=
  [.fn (.func 121) [] [.ptr [.val (.pointer (some ⟨b,0,none⟩))]],
   .fn (.func 122) [.val (.pointer (some ⟨b,0,none⟩))] [],
   .fn (.func 123) [] [.ptr [.val (.pointer (some ⟨b,0,none⟩))]],
   .fn (.func 125) [.val (.pointer (some ⟨b,0,none⟩))] [],
   .val .nilFunc,
   .fn (.func 126) [.val (.pointer (some ⟨b,0,none⟩))] [],
   .fn (.func 174) [] [.ptr [.val (.pointer (some ⟨b,0,none⟩))],.ptr [.str Z8]],
   .fn (.func 174) [] [.ptr [.val (.pointer (some ⟨b,0,none⟩))],.ptr [.str Z7]],
   .fn (.func 174) [] [.ptr [.val (.pointer (some ⟨b,0,none⟩))],.ptr [.str Z6]],
   .fn (.func 174) [] [.ptr [.val (.pointer (some ⟨b,0,none⟩))],.ptr [.str T0]],
   .fn (.func 174) [] [.ptr [.val (.pointer (some ⟨b,0,none⟩))],.ptr [.str Oc]],
   .fn (.func 174) [] [.ptr [.val (.pointer (some ⟨b,0,none⟩))],.ptr [.str Lx]],
   .fn (.func 174) [] [.ptr [.val (.pointer (some ⟨b,0,none⟩))],.ptr [.str Lw]],
   .fn (.func 128) [.val (.pointer (some ⟨b,0,none⟩))] [],
   .fn (.func 129) [] [.ptr [.val (.pointer (some ⟨b,0,none⟩))]],
   .fn (.func 130) [] [.ptr [.val (.pointer (some ⟨b,0,none⟩))]],
   .fn (.func 131) [.val (.pointer (some ⟨b,0,none⟩))] [],
   .fn (.func 132) [.val (.pointer (some ⟨b,0,none⟩))] [],
   .fn (.func 133) [] [.ptr [.val (.pointer (some ⟨b,0,none⟩))]]]
def WQ (b:Nat)(o:Ac)(R:List HO):AV->List HO->Prop:=fun x H'=>∃v a,x = .tuple []/\(a=none\/a=some ⟨b,0,none⟩)/\H'=(.row v (Ic o).length 5 1 :: .box b 148 (.val (.pointer a) :: .row v 1 (Ic o)::bJ b)::R)
theorem wq {b:Nat}{o o':Ac}{v:Value}{a:Option Addr}{R:List HO}(ha:a=none\/a=some ⟨b,0,none⟩)(e:o=o'):WQ b o' R (.tuple []) (.row v (Ic o).length 5 1 :: .box b 148 (.val (.pointer a) :: .row v 1 (Ic o)::bJ b)::R):=e▸⟨v,a,rfl,ha,rfl⟩
theorem wlies0:liesAt Tryz.prog Tryz.prog.depth 148 (21 / Tryz.prog.cellsOf 148) 0 93 1=true:=by kernel_rfl
theorem wlies (b:Nat):liesAt Tryz.prog Tryz.prog.depth 148 (((bJ b).length+2) / Tryz.prog.cellsOf 148) 0 93 1=true:=wlies0
abbrev oT:Nat:=140737488355328
def sc (ws:List Ac):List (List AV):=ws.map fun s=>[.str s]
theorem sc_at {l:List Ac}{k:Nat}{x:Ac}(h:l[k]? = some x):(sc l)[k]? = some [.str x]:=by unfold sc;rw [List.getElem?_map,h];rfl
theorem pW {l:List Ac}{k:Nat}{x:Ac}(h:l[k]? = some x):(l.take (k+1)).flatten=(l.take k).flatten++x:=by
 rw [List.take_add_one,h];simp
theorem flat_le {l:List Ac}{k:Nat}{x:Ac}(h:l[k]? = some x):(l.take k).flatten.length+x.length<=l.flatten.length:=by
 have h1:=congrArg List.length (pW h);have h2:=congrArg List.length (congrArg List.flatten (gH (k+1) l));rw [Zo] at h2;simp only [Al] at h1 h2;omega
theorem Hi (b:Nat)(o:Ac)(v:Value)(a:Option Addr)(ha:a=none\/a=some ⟨b,0,none⟩)(R:List HO)(l:List Ac)(hl:l.length<=100)(hb:o.length+l.flatten.length<=oT):Cc Tryz.prog 124 (.row v (Ic o).length 5 1 :: .box b 148 (.val (.pointer a) :: .row v 1 (Ic o)::bJ b)::R) [.val (.pointer (some ⟨b,0,none⟩)),.sl 1 (sc l)] (WQ b (o++l.flatten) R):=by
 refine Jz 18 Tryz.func124 rfl ?_;refine Ab (Qp Ng ?_);refine Qp (G6 l.length rfl rfl (by simp [sc])) ?_;refine Qp Ax (A7 (AW.block ?_));refine AW.Aan (fun (p:Nat×Ac×Value×Option Addr)=>(⟨[(0,.val (.pointer (some ⟨b,0,none⟩))),(6,.sl 1 (sc l)),(7,.int .i64 l.length),(8,.int .i64 (p.1:Int))],(.row p.2.2.1 (Ic p.2.1).length 5 1 :: .box b 148 (.val (.pointer p.2.2.2) :: .row p.2.2.1 1 (Ic p.2.1)::bJ b)::R),18⟩:St)) (fun p=>p.1<=l.length/\p.2.1=o++(l.take p.1).flatten/\(p.2.2.2=none\/p.2.2.2=some ⟨b,0,none⟩)) (fun p=>l.length-p.1) ((0,o,v,a)) ?_ Dp ?_
 . exact ⟨Bk _,by simp,ha⟩
 rintro p hR;refine Ab (Qp C5 (Re (Hs (fun hc1=>?_) fun hc1=>?_)))
 .
  obtain ⟨x,hx⟩:=gt2 (l:=l) (k:=p.1) (by have:=Ec hc1;omega);have hlt:=qC hx;have hle:=flat_le hx;refine B8 (AW.seq (AW.block (Ab ?_)));refine Qp (F5 [.str _] rfl rfl (by omega) (sc_at hx)) ?_;refine Qp Hn (Qp Nb (A7 (AW.region (Qp B3 (Qp (Aa rfl) (Qp Dg (Qp Iw ?_)))))));refine Qe (D2 rfl (k_write b 148 p.2.2.2 hR.2.2 p.2.2.1 p.2.1 x (bJ b) (wlies b) (by rw [hR.2.1,Al];unfold oT at hb;omega) R)) ?_;rintro _ _ ⟨v16,rfl,rfl⟩;refine Rk (AW.region (Qp Ii (Qp Ax (A7 ?_))));refine ⟨(p.1+1,p.2.1++x,v16,some ⟨b,0,none⟩),?_,?_,Dp⟩
  . exact ⟨hlt,by rw [pW hx,<-C4,<-hR.2.1],.inr rfl⟩
  simp only;omega
 have hk:l.length<=p.1:=by have:=He hc1;omega
 refine AW.exit ?_;refine B9 (B9 (W0 ?_));refine ⟨.inl rfl,[],.nil,_,.refl _,?_⟩;exact wq hR.2.2 (by rw [hR.2.1,List.take_of_length_le hk])
def Pb:List Ac->Ac
 | []=>[]
 | x::r=>[44,32]++x++Pb r
theorem lO:∀(x:Ac) (r:List Ac),D8 (x::r)=x++Pb r
 | x,[]=>by simp [D8,Pb]
 | x,y::r=>by rw [D8,lO y r,Pb];simp
def gZ (k:Nat)(ws:List Ac):Ac:=if k=0 then D8 ws else Pb (ws.drop k)
theorem restC_0 {ws:List Ac}{x:Ac}(h:ws[0]? = some x):gZ 0 ws=x++gZ 1 ws:=by
 cases ws with
 | nil=>cases h
 | cons y r=>cases h;exact lO _ _
theorem restC_s {ws:List Ac}{k:Nat}{x:Ac}(h:ws[k]? = some x)(hk:0<k):gZ k ws = [44,32]++x++gZ (k+1) ws:=by
 unfold gZ;obtain ⟨h1,rfl⟩:=List.getElem?_eq_some_iff.1 h;rw [if_neg (by omega),if_neg (by omega),Sr h1,Pb]
theorem restC_end {ws:List Ac}{k:Nat}(h:ws.length<=k):gZ k ws = []:=by
 unfold gZ;split
 .
  rename_i h0;subst h0;have:ws = []:=bG (by omega);rw [this];rfl
 rw [Ss h];rfl
theorem wm_at {l:List Syn}{k:Nat}{x:Syn}(h:l[k]? = some x):(l.map Ad)[k]? = some (Ad x):=by rw [List.getElem?_map,h];rfl
theorem kind_at {n:Int}(h:0<=n/\n<=2):([[.str Ig],[.str Gg],[.str Ha]]:List (List AV))[n.toNat]? = some [.str (Kp n)]:=by
 have:n=0\/n=1\/n=2:=by omega
 rcases this with rfl | rfl | rfl <;> rfl
def J3 (b:Nat)(t:Syn):Prop:=∀(o:Ac) (v:Value) (a:Option Addr),(a=none\/a=some ⟨b,0,none⟩)->∀(R:List HO),o.length+(Ad t).length<=oT->
 Cc Tryz.prog 67 (.row v (Ic o).length 5 1 :: .box b 148 (.val (.pointer a) :: .row v 1 (Ic o)::bJ b)::R) [.val (.pointer (some ⟨b,0,none⟩)),.agg (cSyn t)] (WQ b (o++Ad t) R)
theorem uM (b:Nat)(o:Ac)(v:Value)(a:Option Addr)(ha:a=none\/a=some ⟨b,0,none⟩)(R:List HO)(l:List Syn)(hn:∀x∈l,J3 b x)(hb:o.length+(D8 (l.map Ad)).length<=oT):Cc Tryz.prog 173 (.row v (Ic o).length 5 1 :: .box b 148 (.val (.pointer a) :: .row v 1 (Ic o)::bJ b)::R) [.val (.pointer (some ⟨b,0,none⟩)),.sl 6 (l.map Df)] (WQ b (o++D8 (l.map Ad)) R):=by
 refine Jz 22 Tryz.func173 rfl ?_;refine Ab (Qp Ng ?_);refine Qp (G6 l.length rfl rfl (by simp)) ?_;refine Qp Ax (A7 (AW.block (AW.sllen 6 rfl fun hlen=>?_)));simp only [Bg,maxLen] at hlen;refine AW.Aan (fun (p:Nat×Ac×Value×Option Addr)=>(⟨[(0,.val (.pointer (some ⟨b,0,none⟩))),(6,.sl 6 (l.map Df)),(7,.int .i64 l.length),(8,.int .i64 (p.1:Int))],(.row p.2.2.1 (Ic p.2.1).length 5 1 :: .box b 148 (.val (.pointer p.2.2.2) :: .row p.2.2.1 1 (Ic p.2.1)::bJ b)::R),22⟩:St)) (fun p=>p.1<=l.length/\p.2.1++gZ p.1 (l.map Ad)=o++D8 (l.map Ad)/\(p.2.2.2=none\/p.2.2.2=some ⟨b,0,none⟩)) (fun p=>l.length-p.1) ((0,o,v,a)) ?_ Dp ?_
 . exact ⟨Bk _,rfl,ha⟩
 rintro p hR;have ha:=hR.2.2;refine Ab (Qp C5 (Re (Hs (fun hc1=>?_) fun hc1=>?_)))
 .
  obtain ⟨x,hx⟩:=gt2 (l:=l) (k:=p.1) (by have:=Ec hc1;omega);have hlt:=qC hx;have hnx:=hn x (Ak hx);have hle:=congrArg List.length hR.2.1;simp only [Al] at hle;refine B8 (AW.seq (AW.block (Ab (Qp Ax ?_))));refine Qp (F5 Aj rfl rfl (by omega) (I3 hx)) ?_;refine Qp (C8 Aj) ?_;refine E8 Kb fun b5=>?_
  refine Qp A3 ?_;refine B4 0 Aj (_::_::_::_) ?_;refine Me 5 0 rfl ?_;refine A7 (Cj (Qp Ax (Qp Jj (Br (fun hc2=>?_) fun hc2=>?_))))
  .
   have hr:=restC_s (wm_at hx) (by have:=Ec hc2;omega);rw [hr] at hle;simp only [Al,A8,Bn] at hle;refine AW.region (Qp B3 (Qp (Kf ([[.str _]]) rfl) ?_));refine Qe (D2 rfl (Hi b _ _ _ hR.2.2 R [[44,32]] (by decide) (by simp only [Bj,B0,A1,A8,Bn];omega))) ?_;rintro _ _ ⟨v17,a17,rfl,ha17,rfl⟩;refine A7 (AW.region (Qp B3 (Qp (C8 Aj) ?_)));refine Qe (D2 rfl (hnx _ _ _ (by assumption) R (by (try simp only [Bj,B0,A1,Al,A8,Bn]);omega))) ?_;rintro _ _ ⟨v20,a20,rfl,ha20,rfl⟩;refine Rk (AW.region (Qp Ii (Qp Ax (A7 ?_))));refine ⟨(p.1+1,(p.2.1 ++ [[44,32]].flatten)++Ad x,v20,a20),?_,?_,Dp⟩
   . exact ⟨hlt,by rw [<-hR.2.1,hr];simp,ha20⟩
   simp only;omega
  have h0:p.1=0:=by have:=He hc2;omega
  have hr:=restC_0 (ws:=l.map Ad) (by have:=wm_at hx;rwa [h0] at this);rw [h0,hr] at hle;simp only [Al] at hle;refine B8 (AW.region (Qp B3 (Qp (C8 Aj) ?_)));refine Qe (D2 rfl (hnx _ _ _ (by assumption) R (by (try simp only [Bj,B0,A1,Al,A8,Bn]);omega))) ?_;rintro _ _ ⟨v20,a20,rfl,ha20,rfl⟩;refine Rk (AW.region (Qp Ii (Qp Ax (A7 ?_))));refine ⟨(p.1+1,p.2.1++Ad x,v20,a20),?_,?_,Dp⟩
  . exact ⟨hlt,by rw [<-hR.2.1,h0,hr];simp,ha20⟩
  simp only;omega
 have hk:(l.map Ad).length<=p.1:=by have:=He hc1;rw [Bg];omega
 refine AW.exit ?_;refine B9 (B9 (W0 ?_));refine ⟨.inl rfl,[],.nil,_,.refl _,?_⟩;exact wq hR.2.2 (by rw [<-hR.2.1,restC_end hk,A1])
theorem gC (b:Nat)(o:Ac)(v:Value)(a:Option Addr)(ha:a=none\/a=some ⟨b,0,none⟩)(R:List HO)(p t:Syn)(hn:J3 b t)(hb:o.length+(Hy p t (Ad t)).length<=oT):Cc Tryz.prog 134 (.row v (Ic o).length 5 1 :: .box b 148 (.val (.pointer a) :: .row v 1 (Ic o)::bJ b)::R) [.val (.pointer (some ⟨b,0,none⟩)),.agg (cSyn p),.agg (cSyn t)] (WQ b (o++Hy p t (Ad t)) R):=by
 refine Jz 24 Tryz.func134 rfl ?_;refine Ab (Qp (Ji Aj) (Qp (Ji Aj) (A7 (Cj (Qp (Qf Aj) (Qp B7 (Qp (Qf Aj) (Qp B7 (Qp (Qc rfl (Aad p.kind t.kind)) (Qp Ke (Br (fun hc1=>?_) fun hc1=>?_)))))))))))
 .
  have hcl:Ed p.kind t.kind=false:=by simpa using hc1
  have e:Hy p t (Ad t)=Ad t:=if_neg (by rw [hcl];decide);rw [e] at hb;refine Ab (Qp B3 (Qp (C8 Aj) ?_));refine Qe (D2 rfl (hn _ _ _ ha R (by have h:=hb;(try simp only [Bj,B0,Al,A8,Bn,A1] at h ⊢);omega))) ?_;rintro _ _ ⟨v14,a14,rfl,ha14,rfl⟩;refine Rc ?_;refine ⟨.inr rfl,[],.nil,_,.refl _,?_⟩;exact wq ha14 (by rw [e])
 have hcl:Ed p.kind t.kind=true:=by simpa using hc1
 have e:Hy p t (Ad t) = [40]++Ad t ++ [41]:=if_pos hcl;rw [e] at hb;refine B8 (Ab (Qp B3 (Qp (Kf ([[.str _]]) rfl) ?_)));refine Qe (D2 rfl (Hi b _ _ _ ha R [[40]] (Da rfl) (by have h:=hb;(try simp only [Bj,B0,Al,A8,Bn,A1] at h ⊢);omega))) ?_;rintro _ _ ⟨v17,a17,rfl,ha17,rfl⟩;refine Cf (Qp B3 (Qp (C8 Aj) ?_));refine Qe (D2 rfl (hn _ _ _ ha17 R (by have h:=hb;(try simp only [Bj,B0,Al,A8,Bn,A1] at h ⊢);omega))) ?_;rintro _ _ ⟨v20,a20,rfl,ha20,rfl⟩;refine A7 (AW.region (Qp B3 (Qp (Kf ([[.str _]]) rfl) ?_)));refine Qe (D2 rfl (Hi b _ _ _ ha20 R [[41]] (Da rfl) (by have h:=hb;(try simp only [Bj,B0,Al,A8,Bn,A1] at h ⊢);omega))) ?_;rintro _ _ ⟨v23,a23,rfl,ha23,rfl⟩;refine AOL.nil ?_;refine ⟨.inl rfl,[],.nil,_,.refl _,?_⟩;exact wq ha23 (by rw [e];simp only [Bj,B0,A1,C4,Cp,Cv])
theorem w_decl (b:Nat)(o:Ac)(v:Value)(a:Option Addr)(ha:a=none\/a=some ⟨b,0,none⟩)(R:List HO)(t:Syn)(hn:∀x∈t.kids,J3 b x)(hb:o.length+([116,121,112,101,32]++t.text ++ [32,123]++(if 0<t.kids.length then [32]++D8 (t.kids.map Ad) ++ [32] else []) ++ [125,10]).length<=oT):Cc Tryz.prog 122 (.row v (Ic o).length 5 1 :: .box b 148 (.val (.pointer a) :: .row v 1 (Ic o)::bJ b)::R) [.val (.pointer (some ⟨b,0,none⟩)),.agg (cSyn t)] (WQ b (o++([116,121,112,101,32]++t.text ++ [32,123]++(if 0<t.kids.length then [32]++D8 (t.kids.map Ad) ++ [32] else []) ++ [125,10])) R):=by
 refine Jz 26 Tryz.func122 rfl ?_;refine Ab (Qp (Ji Aj) (Re ?_));have hb0:o.length+([116,121,112,101,32]++t.text ++ [32,123]).length<=oT:=by have h:=hb;simp only [Al] at h ⊢;omega
 refine AW.region (Qp B3 (Qp (Qf Zr) (Qp Hn (Qp (Kf ([[.str _],[.str _],[.str _]]) rfl) ?_))));refine Qe (D2 rfl (Hi b _ _ _ ha R [[116,121,112,101,32],t.text,[32,123]] (Da rfl) (by have h:=hb;(try simp only [Bj,B0,Al,A8,Bn,A1] at h ⊢);omega))) ?_;rintro _ _ ⟨v8,a8,rfl,ha8,rfl⟩;refine A7 (Cj (Qp (Qf Po) (Qp Eg ?_)));refine Qp (G6 t.kids.length rfl rfl (by simp)) ?_;refine Qp Jj (Br (fun hc1=>?_) fun hc1=>?_)
 .
  have hk:0<t.kids.length:=by have:=Ec hc1;omega
  have ha:=ha8;rw [if_pos hk] at hb;refine Ab (Qp B3 (Qp (Kf ([[.str _]]) rfl) ?_));refine Qe (D2 rfl (Hi b _ _ _ ha8 R [[32]] (Da rfl) (by have h:=hb;(try simp only [Bj,B0,Al,A8,Bn,A1] at h ⊢);omega))) ?_;rintro _ _ ⟨v15,a15,rfl,ha15,rfl⟩;refine Cf (Qp B3 (Qp (Qf Po) (Qp Eg ?_)));refine Qe (D2 rfl (uM b _ _ _ ha15 R t.kids hn (by have h:=hb;(try simp only [Bj,B0,Al,A8,Bn,A1] at h ⊢);omega))) ?_;rintro _ _ ⟨v19,a19,rfl,ha19,rfl⟩;refine A7 (AW.region (Qp B3 (Qp (Kf ([[.str _]]) rfl) ?_)));refine Qe (D2 rfl (Hi b _ _ _ ha19 R [[32]] (Da rfl) (by have h:=hb;(try simp only [Bj,B0,Al,A8,Bn,A1] at h ⊢);omega))) ?_;rintro _ _ ⟨v22,a22,rfl,ha22,rfl⟩;refine A7 (AW.region (Qp B3 (Qp (Kf ([[.str _]]) rfl) ?_)));refine Qe (D2 rfl (Hi b _ _ _ ha22 R [[125,10]] (Da rfl) (by have h:=hb;(try simp only [Bj,B0,Al,A8,Bn,A1] at h ⊢);omega))) ?_;rintro _ _ ⟨v25,a25,rfl,ha25,rfl⟩;refine AOL.nil ?_;refine ⟨.inl rfl,[],.nil,_,.refl _,?_⟩;exact wq ha25 (by rw [if_pos hk];simp only [Bj,B0,A1,C4,Cp,Cv])
 have hk:¬0<t.kids.length:=by have:=He hc1;omega
 rw [if_neg hk] at hb;have ha22:=ha8;refine B8 (AW.region (Qp B3 (Qp (Kf ([[.str _]]) rfl) ?_)));refine Qe (D2 rfl (Hi b _ _ _ ha22 R [[125,10]] (Da rfl) (by have h:=hb;(try simp only [Bj,B0,Al,A8,Bn,A1] at h ⊢);omega))) ?_;rintro _ _ ⟨v25,a25,rfl,ha25,rfl⟩;refine AOL.nil ?_;refine ⟨.inl rfl,[],.nil,_,.refl _,?_⟩;exact wq ha25 (by rw [if_neg hk];simp only [Bj,B0,A1,C4,Cp,Cv])
theorem w_event (b:Nat)(o:Ac)(v:Value)(a:Option Addr)(ha:a=none\/a=some ⟨b,0,none⟩)(R:List HO)(t:Syn)(hn:∀x∈t.kids,J3 b x)(hb:o.length+(t.text++([32]:Ac)++t.name++(if h:0<t.kids.length then ([32,105,102,32]:Ac)++Ad t.kids[0] else [])).length<=oT):Cc Tryz.prog 126 (.row v (Ic o).length 5 1 :: .box b 148 (.val (.pointer a) :: .row v 1 (Ic o)::bJ b)::R) [.val (.pointer (some ⟨b,0,none⟩)),.agg (cSyn t)] (WQ b (o++(t.text++([32]:Ac)++t.name++(if h:0<t.kids.length then ([32,105,102,32]:Ac)++Ad t.kids[0] else []))) R):=by
 refine Jz 24 Tryz.func126 rfl ?_;refine Ab (Qp (Ji Aj) (Cf (Qp B3 (Qp (Qf Zr) (Qp Hn (Qp (Qf sR) (Qp Hn (Qp (Kf ([[.str _],[.str _],[.str _]]) rfl) ?_))))))));refine Qe (D2 rfl (Hi b _ _ _ ha R [t.text,[32],t.name] (Da rfl) (by have h:=hb;(try simp only [Bj,B0,Al,A8,Bn,A1] at h ⊢);omega))) ?_;rintro _ _ ⟨v10,a10,rfl,ha10,rfl⟩;refine Cf (Qp (Qf Po) (Qp Eg ?_));refine Qp (G6 t.kids.length rfl rfl (by simp)) ?_;refine Qp Jj (Br (fun hc1=>?_) fun hc1=>?_)
 .
  have hk:0<t.kids.length:=by have:=Ec hc1;omega
  rw [dif_pos hk] at hb;have hnx:=hn _ (X7 hk);refine Ab (Qp B3 (Qp (Kf ([[.str _]]) rfl) ?_));refine Qe (D2 rfl (Hi b _ _ _ ha10 R [[32,105,102,32]] (Da rfl) (by have h:=hb;(try simp only [Bj,B0,Al,A8,Bn,A1] at h ⊢);omega))) ?_;rintro _ _ ⟨v17,a17,rfl,ha17,rfl⟩;refine A7 (AW.region (Qp B3 (Qp (Qf Po) (Qp Eg ?_))));refine Qp (F5 Aj rfl rfl (by decide) (I3 (List.getElem?_eq_getElem hk))) ?_;refine Qp (C8 Aj) ?_;refine Qe (D2 rfl (hnx _ _ _ ha17 R (by have h:=hb;(try simp only [Bj,B0,Al,A8,Bn,A1] at h ⊢);omega))) ?_;rintro _ _ ⟨v23,a23,rfl,ha23,rfl⟩;refine AOL.nil ?_;refine ⟨.inl rfl,[],.nil,_,.refl _,?_⟩;exact wq ha23 (by rw [dif_pos hk];simp only [Bj,B0,A1,C4,Cp,Cv])
 have hk:¬0<t.kids.length:=by have:=He hc1;omega
 rw [dif_neg hk] at hb;refine AW.skip ?_;refine ⟨.inl rfl,[],.nil,_,.refl _,?_⟩;exact wq ha10 (by rw [dif_neg hk];simp only [Bj,B0,A1,C4,Cp,Cv])
theorem w_constant (b:Nat)(o:Ac)(v:Value)(a:Option Addr)(ha:a=none\/a=some ⟨b,0,none⟩)(R:List HO)(t:Syn)(hi : -9223372036854775808<=t.num/\t.num<=9223372036854775807)(ht:t.text.length<=1048576)(hb:o.length+(aN t).length<=oT):Cc Tryz.prog 128 (.row v (Ic o).length 5 1 :: .box b 148 (.val (.pointer a) :: .row v 1 (Ic o)::bJ b)::R) [.val (.pointer (some ⟨b,0,none⟩)),.agg (cSyn t)] (WQ b (o++aN t) R):=by
 refine Jz 35 Tryz.func128 rfl ?_;refine Ab (Qp (Ji Aj) (Cf (Qp (Qf sR) (Qp Hn (A7 (AW.block (Ab (Qp (Gk rfl rfl) (Qp Bl (Br (fun hc1=>?_) fun hc1=>Ab (Qp (Gk rfl rfl) (Qp Bl (Br (fun hc2=>?_) fun hc2=>?_)))))))))))))
 .
  have e:aN t=Lib.itoa t.num:=if_pos hc1;rw [e] at hb;refine AW.region (Qp B3 (Qp (Qf bK) (Qp B7 (Qp (Qc rfl (kItoa t.num hi.1 hi.2)) (Qp (Kf ([[.str _]]) rfl) ?_)))));refine Qe (D2 rfl (Hi b _ _ _ ha R [Lib.itoa t.num] (Da rfl) (by have h:=hb;(try simp only [Bj,B0,Al,A8,Bn,A1] at h ⊢);omega))) ?_;rintro _ _ ⟨v25,a25,rfl,ha25,rfl⟩;refine AOL.nil (Km ?_);refine ⟨.inl rfl,[],.nil,_,.refl _,?_⟩;exact wq ha25 (by rw [e];simp only [Bj,B0,A1,C4,Cp,Cv])
 .
  have e:aN t=(if t.num==1 then L4 else Jx):=by unfold aN;exact (Bu hc1).trans (if_pos hc2)
  rw [e] at hb;refine AW.region (Qp B3 (Qp (Qf bK) (Qp B7 (Qp Bv (Qp (Qc rfl (k_fbool (t.num==1))) (Qp (Kf ([[.str _]]) rfl) ?_))))));refine Qe (D2 rfl (Hi b _ _ _ ha R [if t.num==1 then L4 else Jx] (Da rfl) (by have h:=hb;(try simp only [Bj,B0,Al,A8,Bn,A1] at h ⊢);omega))) ?_;rintro _ _ ⟨v34,a34,rfl,ha34,rfl⟩;refine AOL.nil (Km ?_);refine ⟨.inl rfl,[],.nil,_,.refl _,?_⟩;exact wq ha34 (by rw [e];simp only [Bj,B0,A1,C4,Cp,Cv])
 have e:aN t=(Rz t.text).1:=by unfold aN;exact (Bu hc1).trans (Bu hc2)
 rw [e] at hb;refine Ab (Qp (Qf Zr) (Qp Hn (Qp (Qc rfl (c24 t.text ht)) (Qp Wz (Qp Qxt (Qp Wt (Qp Nb (Qp A3 (A7 (AW.region (Qp B3 (Qp Iw (Qp (Kf ([[.str _]]) rfl) ?_)))))))))))));refine Qe (D2 rfl (Hi b _ _ _ ha R [(Rz t.text).1] (Da rfl) (by have h:=hb;(try simp only [Bj,B0,Al,A8,Bn,A1] at h ⊢);omega))) ?_;rintro _ _ ⟨v17,a17,rfl,ha17,rfl⟩;refine AOL.nil (Km ?_);refine ⟨.inl rfl,[],.nil,_,.refl _,?_⟩;exact wq ha17 (by rw [e];simp only [Bj,B0,A1,C4,Cp,Cv])
theorem w_ref (b:Nat)(o:Ac)(v:Value)(a:Option Addr)(ha:a=none\/a=some ⟨b,0,none⟩)(R:List HO)(t:Syn)(hb:o.length+(t.text++([46]:Ac)++t.name).length<=oT):Cc Tryz.prog 129 (.row v (Ic o).length 5 1 :: .box b 148 (.val (.pointer a) :: .row v 1 (Ic o)::bJ b)::R) [.agg (cSyn t),.ptr [.val (.pointer (some ⟨b,0,none⟩))]] (WQ b (o++(t.text++([46]:Ac)++t.name)) R):=by
 refine Jz 10 Tryz.func129 rfl ?_;refine Ab (Qp (Ji Aj) (A7 (AW.region (Qp Md (Qp (Qf Zr) (Qp Hn (Qp (Qf sR) (Qp Hn (Qp (Kf ([[.str _],[.str _],[.str _]]) rfl) ?_)))))))));refine Qe (D2 rfl (Hi b _ _ _ ha R [t.text,[46],t.name] (Da rfl) (by have h:=hb;(try simp only [Bj,B0,Al,A8,Bn,A1] at h ⊢);omega))) ?_;rintro _ _ ⟨v9,a9,rfl,ha9,rfl⟩;refine AOL.nil ?_;refine ⟨.inl rfl,[],.nil,_,.refl _,?_⟩;exact wq ha9 (by simp only [Bj,B0,A1,C4,Cp,Cv])
theorem w_count (b:Nat)(o:Ac)(v:Value)(a:Option Addr)(ha:a=none\/a=some ⟨b,0,none⟩)(R:List HO)(t:Syn)(hb:o.length+(([99,111,117,110,116,40]:Ac)++t.text++([41]:Ac)).length<=oT):Cc Tryz.prog 130 (.row v (Ic o).length 5 1 :: .box b 148 (.val (.pointer a) :: .row v 1 (Ic o)::bJ b)::R) [.agg (cSyn t),.ptr [.val (.pointer (some ⟨b,0,none⟩))]] (WQ b (o++(([99,111,117,110,116,40]:Ac)++t.text++([41]:Ac))) R):=by
 refine Jz 8 Tryz.func130 rfl ?_;refine Ab (Qp (Ji Aj) (A7 (AW.region (Qp Md (Qp (Qf Zr) (Qp Hn (Qp (Kf ([[.str _],[.str _],[.str _]]) rfl) ?_)))))));refine Qe (D2 rfl (Hi b _ _ _ ha R [[99,111,117,110,116,40],t.text,[41]] (Da rfl) (by have h:=hb;(try simp only [Bj,B0,Al,A8,Bn,A1] at h ⊢);omega))) ?_;rintro _ _ ⟨v7,a7,rfl,ha7,rfl⟩;refine AOL.nil ?_;refine ⟨.inl rfl,[],.nil,_,.refl _,?_⟩;exact wq ha7 (by simp only [Bj,B0,A1,C4,Cp,Cv])
theorem w_not (b:Nat)(o:Ac)(v:Value)(a:Option Addr)(ha:a=none\/a=some ⟨b,0,none⟩)(R:List HO)(t k:Syn)(h0:t.kids[0]? = some k)(hk:J3 b k)(hb:o.length+(([110,111,116,32]:Ac)++Hy t k (Ad k)).length<=oT):Cc Tryz.prog 133 (.row v (Ic o).length 5 1 :: .box b 148 (.val (.pointer a) :: .row v 1 (Ic o)::bJ b)::R) [.agg (cSyn t),.ptr [.val (.pointer (some ⟨b,0,none⟩))]] (WQ b (o++(([110,111,116,32]:Ac)++Hy t k (Ad k))) R):=by
 refine Jz 13 Tryz.func133 rfl ?_;refine Ab (Qp (Ji Aj) (Cf (Qp Md (Qp (Kf ([[.str _]]) rfl) ?_))));refine Qe (D2 rfl (Hi b _ _ _ ha R [[110,111,116,32]] (Da rfl) (by have h:=hb;(try simp only [Bj,B0,Al,A8,Bn,A1] at h ⊢);omega))) ?_;rintro _ _ ⟨v5,a5,rfl,ha5,rfl⟩;refine A7 ?_;refine Oe ?_;refine Qn 0 rfl Md (Qn 1 rfl (C8 Aj) (Qn 2 rfl (Qf Po) (Qn 3 rfl Eg ?_)));refine Qn 4 rfl (F5 Aj rfl rfl (by decide) (I3 h0)) ?_;refine Qn 5 rfl (C8 Aj) ?_;refine Sef 6 rfl (D2 rfl (gC b _ _ _ ha5 R t k hk (by have h:=hb;(try simp only [Bj,B0,Al,A8,Bn,A1] at h ⊢);omega))) ?_;rintro _ _ ⟨v12,a12,rfl,ha12,rfl⟩;refine Jr ?_;refine ⟨.inl rfl,[],.nil,_,.refl _,?_⟩;exact wq ha12 (by simp only [Bj,B0,A1,C4,Cp,Cv])
theorem Wb (b:Nat)(o:Ac)(v:Value)(a:Option Addr)(ha:a=none\/a=some ⟨b,0,none⟩)(R:List HO)(t:Syn)(w:Ac)(hi : -9223372036854775808<=t.num/\t.num<=9223372036854775807)(hn:∀x∈t.kids,J3 b x)(hb:o.length+(w++([40]:Ac)++D8 (t.kids.map Ad)++(if t.kind==11 then ([44,32]:Ac)++Lib.itoa t.num else [])++([41]:Ac)).length<=oT):Cc Tryz.prog 174 (.row v (Ic o).length 5 1 :: .box b 148 (.val (.pointer a) :: .row v 1 (Ic o)::bJ b)::R) [.agg (cSyn t),.ptr [.val (.pointer (some ⟨b,0,none⟩))],.ptr [.str w]] (WQ b (o++(w++([40]:Ac)++D8 (t.kids.map Ad)++(if t.kind==11 then ([44,32]:Ac)++Lib.itoa t.num else [])++([41]:Ac))) R):=by
 refine Jz 24 Tryz.func174 rfl ?_;refine Ab (Qp (Ji Aj) (Re ?_));have hb0:=hb;refine AW.region (Qp Md (Qp Hn (Qp (Kf ([[.str _],[.str _]]) rfl) ?_)));refine Qe (D2 rfl (Hi b _ _ _ ha R [w,[40]] (Da rfl) (by have h:=hb;(try simp only [Bj,B0,Al,A8,Bn,A1] at h ⊢);omega))) ?_;rintro _ _ ⟨v7,a7,rfl,ha7,rfl⟩;refine Cf (Qp Md (Qp (Qf Po) (Qp Eg ?_)));refine Qe (D2 rfl (uM b _ _ _ ha7 R t.kids hn (by have h:=hb;(try simp only [Bj,B0,Al,A8,Bn,A1] at h ⊢);omega))) ?_;rintro _ _ ⟨v11,a11,rfl,ha11,rfl⟩;refine A7 (Cj (Qp (Qf Aj) (Qp B7 (Qp Bv (Br (fun hc1=>?_) fun hc1=>?_)))))
 .
  rw [if_pos hc1] at hb;refine Oe ?_;refine Qn 0 rfl Md (Qn 1 rfl (Qf bK) (Qn 2 rfl B7 (Qn 3 rfl (Qc rfl (kItoa t.num hi.1 hi.2)) (Qn 4 rfl (Kf ([[.str _],[.str _]]) rfl) ?_))));refine Sef 5 rfl (D2 rfl (Hi b _ _ _ ha11 R [[44,32],Lib.itoa t.num] (Da rfl) (by have h:=hb;(try simp only [Bj,B0,Al,A8,Bn,A1] at h ⊢);omega))) ?_;rintro _ _ ⟨v20,a20,rfl,ha20,rfl⟩;refine Jr ?_;refine Ap (AW.region (Qp Md (Qp (Kf ([[.str _]]) rfl) ?_)));refine Qe (D2 rfl (Hi b _ _ _ ha20 R [[41]] (Da rfl) (by have h:=hb;(try simp only [Bj,B0,Al,A8,Bn,A1] at h ⊢);omega))) ?_;rintro _ _ ⟨v23,a23,rfl,ha23,rfl⟩;refine AOL.nil ?_;refine ⟨.inl rfl,[],.nil,_,.refl _,?_⟩;exact wq ha23 (by rw [if_pos hc1];simp only [Bj,B0,A1,C4,Cp,Cv])
 rw [Bu hc1] at hb;have ha20:=ha11;refine B8 (AW.region (Qp Md (Qp (Kf ([[.str _]]) rfl) ?_)));refine Qe (D2 rfl (Hi b _ _ _ ha20 R [[41]] (Da rfl) (by have h:=hb;(try simp only [Bj,B0,Al,A8,Bn,A1] at h ⊢);omega))) ?_;rintro _ _ ⟨v23,a23,rfl,ha23,rfl⟩;refine AOL.nil ?_;refine ⟨.inl rfl,[],.nil,_,.refl _,?_⟩;exact wq ha23 (by rw [Bu hc1];simp only [Bj,B0,A1,C4,Cp,Cv])
theorem w_field (b:Nat)(o:Ac)(v:Value)(a:Option Addr)(ha:a=none\/a=some ⟨b,0,none⟩)(R:List HO)(t:Syn)(hi:0<=t.num/\t.num<=2)(hb:o.length+(t.text++([58,32]:Ac)++Kp t.num).length<=oT):Cc Tryz.prog 123 (.row v (Ic o).length 5 1 :: .box b 148 (.val (.pointer a) :: .row v 1 (Ic o)::bJ b)::R) [.agg (cSyn t),.ptr [.val (.pointer (some ⟨b,0,none⟩))]] (WQ b (o++(t.text++([58,32]:Ac)++Kp t.num)) R):=by
 refine Jz 13 Tryz.func123 rfl ?_;refine Ab (Qp (Ji Aj) (A7 ?_));refine Oe ?_;refine Qn 0 rfl Md (Qn 1 rfl (Qf Zr) (Qn 2 rfl Hn (Qn 3 rfl (Kf ([[.str _],[.str _],[.str _]]) rfl) (Qn 4 rfl (Qf bK) (Qn 5 rfl B7 (Qn 6 rfl (F5 [.str (Kp t.num)] rfl rfl (hi.1) (kind_at hi)) (Qn 7 rfl Hn (Qn 8 rfl (Kf ([[.str _],[.str _],[.str _]]) rfl) ?_))))))));refine Sef 9 rfl (D2 rfl (Hi b _ _ _ ha R [t.text,[58,32],Kp t.num] (Da rfl) (by have h:=hb;(try simp only [Bj,B0,Al,A8,Bn,A1] at h ⊢);omega))) ?_;rintro _ _ ⟨v12,a12,rfl,ha12,rfl⟩;refine Jr ?_;refine ⟨.inl rfl,[],.nil,_,.refl _,?_⟩;exact wq ha12 (by simp only [Bj,B0,A1,C4,Cp,Cv])
end Go.Proofs.YtibcelnfkhdjaaaGreatDoor
