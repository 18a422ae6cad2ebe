/-
  Several texts in one: EW4, EW23, EW24, EW13, EW18. No condition.
-/
import Derived.Test.YtckhoadldibflaaGreatDoorK01
import Derived.Test.YtckhoadldibflaaGreatDoorK09
import Derived.Test.YtckhoadldibflaaGreatDoorK02
import Derived.KernelRfl
set_option linter.unusedVariables false
set_option linter.unusedSimpArgs false
namespace Go.Proofs.YtckhoadldibflaaGreatDoor
open Go Go.Aw
set_option maxHeartbeats 400000
set_option maxRecDepth 20000

theorem c82 (e:Ex):Ap Tryz.prog 118 [.agg (cE e)] (.int .i64 (Po e)):=by
 refine Ap.body (n:=32) tok Tryz.func118 rfl rfl rfl fun H=>?_
 refine Ae (Qp jP (Qp Al (Ag (Bk (Qp S5 (Qp (B0 Mj) (Qp (Qc rfl (c94 e.val)) ?_)))))));refine Qp Al (Bs (Qp Ao (Qp Br (Ag (Aq (fun hc1=>Ae (Qp Ao (Qp Al (Rc (Qr (Iq _) ?_))))) fun hc1=>Bg (Bk (Qp S4 (Qp Bi (Qp Av (Qp A9 (Qg [] Qw dN (Qg [(14,_)] Qw Bi (Qg [] Qw S5 (Qg [(16,_)] Qw (B0 Mj) (AOL.g (y:=.bool _) _ [(15,_),(17,_)] rfl (qZ.all ⟨Ent.Aad _ _,Ent.Aad _ _,trivial⟩) (fun hG=>Qc rfl (c99 e.kind e.val)) rfl ?_)))))))))))))))
 ·
  try simp only [D0,C3] at *
  simp only [Ai,Po];rw [if_pos hc1]
 refine Qg [(18,_)] Qw Et (Qg [(19,_)] Qw A9 (Qg [] Qw dN (Qg [(21,_)] Qw Bi (Qg [(22,_)] Qw Av (Qg [(23,_)] Qw A9 (Qg [] Qw S5 (Qg [(25,_)] Qw (B0 Mj) (Qg [] Qw (E4 Mj) (AOL.g (y:=.bool _) _ [(26,_),(27,_)] rfl (qZ.all ⟨Ent.Aad _ _,Ent.Aad _ _,trivial⟩) (fun hG=>Fm tok rfl rfl rfl rfl rfl) rfl ?_)))))))));refine Qg [(24,_),(28,_)] Qw E0 (Qg [(20,_),(29,_)] Qw B9 (Qp E0 (Ag (Aq (fun hc2=>Ae (Qp Al (Rc (Qr (Iq _) ?_)))) fun hc2=>Bg (Ae (Qp Al (Rb (Qr (Iq _) ?_))))))))
 ·
  try simp only [D0,C3] at *
  (simp only [Ai,Po];rw [iN hc1];rw [if_pos hc2];done)
 try simp only [D0,C3] at *
 (simp only [Ai,Po];rw [iN hc1];rw [iN hc2];done)
theorem c47 (e:Ex):Ap Tryz.prog 68 [.agg (cE e)] (.int .i64 (Ge e)):=by
 refine Ap.body (n:=114) tok Tryz.func68 rfl rfl rfl fun H=>?_
 refine Ae (Qp jP (Qp Al (Bs (Qp S4 (Qp Bi ?_)))));refine Qp (Qc rfl (c81 e.op)) (Qp N4 (Qp Iu (Qp eU (Qp Al (Qp A0 (Ag (Bk (Qp A9 (Qp Et (Ag (Aq (fun hc1=>Ae (Qp Al (Rc (Qr (Iq _) ?_)))) fun hc1=>Bg (Bk (Qp Zy (Qp Cw ?_))))))))))))))
 ·
  try simp only [D0,C3] at *
  simp only [Ai,Ge,E8];rw [if_pos hc1]
 refine Qp (Ah (n:=e.args.length) tok rfl rfl rfl (by simp)) ?_;refine Qp Ao (Qp Br (Ag (Aq (fun hc2=>Ae (Qp Al (Rc (Qr (Iq _) ?_)))) fun hc2=>Bg (Ae (Qp S4 (Qp Bi (Qp (Qc rfl (e8c52 e.op)) (Qp N4 (Qp eU (Qp eU (Qp A0 (Qp A0 (Ag (Bk (Qp A9 (Qp A9 ?_))))))))))))))))
 ·
  try simp only [D0,C3] at *
  (simp only [Ai,Ge,E8];rw [iN hc1];rw [if_pos hc2];done)
 refine Qg [] Qw nP (Qg [(31,_)] Qw Bi (Qg [(32,_)] Qw Bx (Qg [(33,_)] Qw A9 (Qg [] Qw nP (Qg [(35,_)] Qw Bi (Qg [(36,_)] Qw H6 (Qg [(34,_),(37,_)] Qw B9 (Qp E0 (Qp A9 ?_)))))))));refine Qg [] Qw A9 (Qg [(41,_)] Qw A9 (Qg [] Qw nU (Qg [(43,_)] Qw Bi (Qg [(44,_)] Qw Bx (Qg [(45,_)] Qw A9 (Qg [] Qw nU (Qg [(47,_)] Qw Bi (Qg [(48,_)] Qw H6 (Qg [(46,_),(49,_)] Qw B9 ?_)))))))));refine Qg [(42,_),(50,_)] Qw E0 (Qp B9 (Ag (Aq (fun hc3=>Ae (Qp Al (Rc (Qr (Iq _) ?_)))) fun hc3=>Bg (Ae (Qp S4 (Qp Bi (Qp Av (Qp A0 (Ag (Bk (Qp A9 ?_)))))))))))
 ·
  try simp only [D0,C3] at *
  (simp only [Ai,Ge,E8];rw [iN hc1];rw [iN hc2];rw [if_pos hc3];done)
 refine Qp A9 (Qg [] Qw dN (Qg [(58,_)] Qw Bi (Qg [(59,_)] Qw Bx (Qg [(60,_)] Qw A9 (Qg [] Qw dN (Qg [(62,_)] Qw Bi (Qg [(63,_)] Qw Ej (Qg [(61,_),(64,_)] Qw B9 (Qp E0 ?_)))))))));refine Ag (Aq (fun hc4=>Ae (Qp Al (Rc (Qr (Iq _) ?_)))) fun hc4=>Bg (Ae (Qp A9 (Qp A9 (Qg [] Qw S4 (Qg [(69,_)] Qw Bi (Qg [(70,_)] Qw Av (Qp B9 (Qp A0 (Ag ?_))))))))))
 ·
  try simp only [D0,C3] at *
  (simp only [Ai,Ge,E8];rw [iN hc1];rw [iN hc2];rw [iN hc3];rw [if_pos hc4];done)
 refine Bk (Qp A9 (Ag (Aq (fun hc5=>?_) fun hc5=>Bg (Bk (Qp A9 (Qp Et (Qp A9 (Qg [] Qw nP (Qg [(82,_)] Qw Bi (Qg [(83,_)] Qw Br (Qp E0 ?_)))))))))))
 ·
  refine Ae (Qp Nh (Qp (Qc rfl (c82 e)) (Qp Al (Bs (Qp Ao (Qp Br (Ag (Aq (fun hc6=>Ae (Qp Ao (Qp Al (Rc (Qr (Iq _) ?_))))) fun hc6=>Bg (Bk (Qp A9 (Qp Et (Qp A9 (Qg [] Qw nP (Qg [(82,_)] Qw Bi (Qg [(83,_)] Qw Br (Qp E0 ?_))))))))))))))))
  ·
   try simp only [D0,C3] at *
   (simp only [Ai,Ge,E8];rw [iN hc1];rw [iN hc2];rw [iN hc3];rw [iN hc4];rw [if_pos hc5];rw [if_pos hc6];done)
  refine Qp A9 (Qg [] Qw A9 (Qg [(87,_)] Qw Et (Qg [(88,_)] Qw A9 (Qg [] Qw nU (Qg [(90,_)] Qw Bi (Qg [(91,_)] Qw Br (Qg [(89,_),(92,_)] Qw E0 (Qp B9 (Qp A9 ?_)))))))));refine Qg [] Qw A9 (Qg [(96,_)] Qw Et (Qg [(97,_)] Qw A9 (Qg [] Qw dN (Qg [(99,_)] Qw Bi (Qg [(100,_)] Qw Br (Qg [(98,_),(101,_)] Qw E0 (Qp B9 (Qp A9 (Qg [] Qw A9 ?_)))))))));refine Qg [(105,_)] Qw Et (Qg [(106,_)] Qw A9 (Qg [] Qw S5 (Qg [(108,_)] Qw (B0 Mj) (Qg [] Qw (E4 Mj) (AOL.g (y:=.bool _) _ [(109,_),(110,_)] rfl (qZ.all ⟨Ent.Aad _ _,Ent.Aad _ _,trivial⟩) (fun hG=>Fm tok rfl rfl rfl rfl rfl) rfl ?_)))));refine Qg [(107,_),(111,_)] Qw E0 (Qp B9 (Ag (Aq (fun hc7=>Ae (Qp Al (Rc (Qr (Iq _) ?_)))) fun hc7=>Bg (Ae (Qp Al (Rb (Qr (Iq _) ?_)))))))
  ·
   try simp only [D0,C3] at *
   (simp only [Ai,Ge,E8];rw [iN hc1];rw [iN hc2];rw [iN hc3];rw [iN hc4];rw [if_pos hc5];rw [iN hc6];rw [if_pos hc7];done)
  try simp only [D0,C3] at *
  (simp only [Ai,Ge,E8];rw [iN hc1];rw [iN hc2];rw [iN hc3];rw [iN hc4];rw [if_pos hc5];rw [iN hc6];rw [iN hc7];done)
 refine Qp A9 (Qg [] Qw A9 (Qg [(87,_)] Qw Et (Qg [(88,_)] Qw A9 (Qg [] Qw nU (Qg [(90,_)] Qw Bi (Qg [(91,_)] Qw Br (Qg [(89,_),(92,_)] Qw E0 (Qp B9 (Qp A9 ?_)))))))));refine Qg [] Qw A9 (Qg [(96,_)] Qw Et (Qg [(97,_)] Qw A9 (Qg [] Qw dN (Qg [(99,_)] Qw Bi (Qg [(100,_)] Qw Br (Qg [(98,_),(101,_)] Qw E0 (Qp B9 (Qp A9 (Qg [] Qw A9 ?_)))))))));refine Qg [(105,_)] Qw Et (Qg [(106,_)] Qw A9 (Qg [] Qw S5 (Qg [(108,_)] Qw (B0 Mj) (Qg [] Qw (E4 Mj) (AOL.g (y:=.bool _) _ [(109,_),(110,_)] rfl (qZ.all ⟨Ent.Aad _ _,Ent.Aad _ _,trivial⟩) (fun hG=>Fm tok rfl rfl rfl rfl rfl) rfl ?_)))));refine Qg [(107,_),(111,_)] Qw E0 (Qp B9 (Ag (Aq (fun hc8=>Ae (Qp Al (Rc (Qr (Iq _) ?_)))) fun hc8=>Bg (Ae (Qp Al (Rb (Qr (Iq _) ?_)))))))
 ·
  try simp only [D0,C3] at *
  (simp only [Ai,Ge,E8];rw [iN hc1];rw [iN hc2];rw [iN hc3];rw [iN hc4];rw [iN hc5];rw [if_pos hc8];done)
 try simp only [D0,C3] at *
 (simp only [Ai,Ge,E8];rw [iN hc1];rw [iN hc2];rw [iN hc3];rw [iN hc4];rw [iN hc5];rw [iN hc8];done)
theorem c83 (e:Ex):Ap Tryz.prog 197 [.agg (cE e)] (.int .i64 (Ge e)):=by
 refine Ap.body (n:=131) tok Tryz.func197 rfl rfl rfl fun H=>?_
 refine Ae (Qp jP (Qp Al (Bs (Qp S4 (Qp Bi (Qp (Qc rfl (c100 e.op)) (Qp Al (Ag (Bk (Qp Ao (Qp Bx (Ag (Aq (fun hc1=>Ae (Qp Al (Rc (Qr (Iq _) ?_)))) fun hc1=>Bg (Bk (Qp Zy (Qp Cw ?_))))))))))))))))
 ·
  rw [←G6]
  try simp only [D0,C3] at *
  simp only [Ai,Jk,E8];rw [if_pos hc1]
 refine Qp (Ah (n:=e.args.length) tok rfl rfl rfl (by simp)) ?_;refine Qp Ao (Qp Br (Ag (Aq (fun hc2=>Ae (Qp Al (Rc (Qr (Iq _) ?_)))) fun hc2=>Bg (Ae (Qp S4 (Qp Bi (Qp (Qc rfl (c84 e.op)) (Qp N4 (Qp eU (Qp eU (Qp A0 (Qp A0 (Ag (Bk (Qp A9 (Qp A9 ?_))))))))))))))))
 ·
  rw [←G6]
  try simp only [D0,C3] at *
  (simp only [Ai,Jk,E8];rw [iN hc1];rw [if_pos hc2];done)
 refine Qg [] Qw nP (Qg [(27,_)] Qw Bi (Qg [(28,_)] Qw Bx (Qg [(29,_)] Qw A9 (Qg [] Qw nP (Qg [(31,_)] Qw Bi (Qg [(32,_)] Qw H6 (Qg [(30,_),(33,_)] Qw B9 (Qp E0 (Qp A9 ?_)))))))));refine Qg [] Qw A9 (Qg [(37,_)] Qw A9 (Qg [] Qw nU (Qg [(39,_)] Qw Bi (Qg [(40,_)] Qw Bx (Qg [(41,_)] Qw A9 (Qg [] Qw nU (Qg [(43,_)] Qw Bi (Qg [(44,_)] Qw H6 (Qg [(42,_),(45,_)] Qw B9 ?_)))))))));refine Qg [(38,_),(46,_)] Qw E0 (Qp B9 (Ag (Aq (fun hc3=>Ae (Qp Al (Rc (Qr (Iq _) ?_)))) fun hc3=>Bg (Ae (Qp S4 (Qp Bi (Qp Av (Qp A0 (Ag (Bk (Qp A9 ?_)))))))))))
 ·
  rw [←G6]
  try simp only [D0,C3] at *
  (simp only [Ai,Jk,E8];rw [iN hc1];rw [iN hc2];rw [if_pos hc3];done)
 refine Qp A9 (Qg [] Qw dN (Qg [(54,_)] Qw Bi (Qg [(55,_)] Qw Bx (Qg [(56,_)] Qw A9 (Qg [] Qw dN (Qg [(58,_)] Qw Bi (Qg [(59,_)] Qw Ej (Qg [(57,_),(60,_)] Qw B9 (Qp E0 ?_)))))))));refine Ag (Aq (fun hc4=>Ae (Qp Al (Rc (Qr (Iq _) ?_)))) fun hc4=>Bg (Ae (Qp A9 (Qp A9 (Qg [] Qw S4 (Qg [(65,_)] Qw Bi (Qg [(66,_)] Qw Av (Qp B9 (Qp A0 (Ag ?_))))))))))
 ·
  rw [←G6]
  try simp only [D0,C3] at *
  (simp only [Ai,Jk,E8];rw [iN hc1];rw [iN hc2];rw [iN hc3];rw [if_pos hc4];done)
 refine Bk (Qp A9 (Ag (Aq (fun hc5=>Ae (Qp S5 (Qp (B0 Mj) ?_))) fun hc5=>Bg (Bk (Qp A9 (Qp A9 (Qg [] Qw dN (Qg [(78,_)] Qw Bi (Qg [] Qw S5 (Qg [(80,_)] Qw (B0 Mj) (AOL.g (y:=.bool _) _ [(79,_),(81,_)] rfl (qZ.all ⟨Ent.Aad _ _,Ent.Aad _ _,trivial⟩) (fun hG=>Qc rfl (c101 e.kind e.val)) rfl ?_)))))))))))
 ·
  refine Qp (Qc rfl (c79 e.val)) (Qp Al (Bs (Qp Ao (Qp Br (Ag (Aq (fun hc6=>Ae (Qp Ao (Qp Al (Rc (Qr (Iq _) ?_))))) fun hc6=>Bg (Bk (Qp A9 (Qp A9 (Qg [] Qw dN (Qg [(78,_)] Qw Bi (Qg [] Qw S5 (Qg [(80,_)] Qw (B0 Mj) (AOL.g (y:=.bool _) _ [(79,_),(81,_)] rfl (qZ.all ⟨Ent.Aad _ _,Ent.Aad _ _,trivial⟩) (fun hG=>Qc rfl (c101 e.kind e.val)) rfl ?_))))))))))))))
  ·
   rw [←G6]
   try simp only [D0,C3] at *
   (simp only [Ai,Jk,E8];rw [iN hc1];rw [iN hc2];rw [iN hc3];rw [iN hc4];rw [if_pos hc5];rw [if_pos hc6];done)
  refine Qg [(82,_)] Qw Et (Qg [(83,_)] Qw A9 (Qg [] Qw dN (Qg [(85,_)] Qw Bi (Qg [(86,_)] Qw Av (Qg [(87,_)] Qw A9 (Qg [] Qw S5 (Qg [(89,_)] Qw (B0 Mj) (Qg [] Qw (E4 Mj) (AOL.g (y:=.bool _) _ [(90,_),(91,_)] rfl (qZ.all ⟨Ent.Aad _ _,Ent.Aad _ _,trivial⟩) (fun hG=>Fm tok rfl rfl rfl rfl rfl) rfl ?_)))))))));refine Qg [(88,_),(92,_)] Qw E0 (Qg [(84,_),(93,_)] Qw B9 (Qp E0 (Ag (Aq (fun hc7=>Ae (Qp Al (Rc (Qr (Iq _) ?_)))) fun hc7=>Bg (Bk (Qp A9 (Qp Et (Qp A9 (Qg [] Qw nP (Qg [(99,_)] Qw Bi (Qg [(100,_)] Qw Br (Qp E0 ?_))))))))))))
  ·
   rw [←G6]
   try simp only [D0,C3] at *
   (simp only [Ai,Jk,E8];rw [iN hc1];rw [iN hc2];rw [iN hc3];rw [iN hc4];rw [if_pos hc5];rw [iN hc6];rw [if_pos hc7];done)
  refine Qp A9 (Qg [] Qw A9 (Qg [(104,_)] Qw Et (Qg [(105,_)] Qw A9 (Qg [] Qw nU (Qg [(107,_)] Qw Bi (Qg [(108,_)] Qw Br (Qg [(106,_),(109,_)] Qw E0 (Qp B9 (Qp A9 ?_)))))))));refine Qg [] Qw A9 (Qg [(113,_)] Qw Et (Qg [(114,_)] Qw A9 (Qg [] Qw dN (Qg [(116,_)] Qw Bi (Qg [(117,_)] Qw Br (Qg [(115,_),(118,_)] Qw E0 (Qp B9 (Qp A9 (Qg [] Qw A9 ?_)))))))));refine Qg [(122,_)] Qw Et (Qg [(123,_)] Qw A9 (Qg [] Qw S5 (Qg [(125,_)] Qw (B0 Mj) (Qg [] Qw (E4 Mj) (AOL.g (y:=.bool _) _ [(126,_),(127,_)] rfl (qZ.all ⟨Ent.Aad _ _,Ent.Aad _ _,trivial⟩) (fun hG=>Fm tok rfl rfl rfl rfl rfl) rfl ?_)))));refine Qg [(124,_),(128,_)] Qw E0 (Qp B9 (Ag (Aq (fun hc8=>Ae (Qp Al (Rc (Qr (Iq _) ?_)))) fun hc8=>Bg (Ae (Qp Al (Rb (Qr (Iq _) ?_)))))))
  ·
   rw [←G6]
   try simp only [D0,C3] at *
   (simp only [Ai,Jk,E8];rw [iN hc1];rw [iN hc2];rw [iN hc3];rw [iN hc4];rw [if_pos hc5];rw [iN hc6];rw [iN hc7];rw [if_pos hc8];done)
  rw [←G6]
  try simp only [D0,C3] at *
  (simp only [Ai,Jk,E8];rw [iN hc1];rw [iN hc2];rw [iN hc3];rw [iN hc4];rw [if_pos hc5];rw [iN hc6];rw [iN hc7];rw [iN hc8];done)
 refine Qg [(82,_)] Qw Et (Qg [(83,_)] Qw A9 (Qg [] Qw dN (Qg [(85,_)] Qw Bi (Qg [(86,_)] Qw Av (Qg [(87,_)] Qw A9 (Qg [] Qw S5 (Qg [(89,_)] Qw (B0 Mj) (Qg [] Qw (E4 Mj) (AOL.g (y:=.bool _) _ [(90,_),(91,_)] rfl (qZ.all ⟨Ent.Aad _ _,Ent.Aad _ _,trivial⟩) (fun hG=>Fm tok rfl rfl rfl rfl rfl) rfl ?_)))))))));refine Qg [(88,_),(92,_)] Qw E0 (Qg [(84,_),(93,_)] Qw B9 (Qp E0 (Ag (Aq (fun hc9=>Ae (Qp Al (Rc (Qr (Iq _) ?_)))) fun hc9=>Bg (Bk (Qp A9 (Qp Et (Qp A9 (Qg [] Qw nP (Qg [(99,_)] Qw Bi (Qg [(100,_)] Qw Br (Qp E0 ?_))))))))))))
 ·
  rw [←G6]
  try simp only [D0,C3] at *
  (simp only [Ai,Jk,E8];rw [iN hc1];rw [iN hc2];rw [iN hc3];rw [iN hc4];rw [iN hc5];rw [if_pos hc9];done)
 refine Qp A9 (Qg [] Qw A9 (Qg [(104,_)] Qw Et (Qg [(105,_)] Qw A9 (Qg [] Qw nU (Qg [(107,_)] Qw Bi (Qg [(108,_)] Qw Br (Qg [(106,_),(109,_)] Qw E0 (Qp B9 (Qp A9 ?_)))))))));refine Qg [] Qw A9 (Qg [(113,_)] Qw Et (Qg [(114,_)] Qw A9 (Qg [] Qw dN (Qg [(116,_)] Qw Bi (Qg [(117,_)] Qw Br (Qg [(115,_),(118,_)] Qw E0 (Qp B9 (Qp A9 (Qg [] Qw A9 ?_)))))))));refine Qg [(122,_)] Qw Et (Qg [(123,_)] Qw A9 (Qg [] Qw S5 (Qg [(125,_)] Qw (B0 Mj) (Qg [] Qw (E4 Mj) (AOL.g (y:=.bool _) _ [(126,_),(127,_)] rfl (qZ.all ⟨Ent.Aad _ _,Ent.Aad _ _,trivial⟩) (fun hG=>Fm tok rfl rfl rfl rfl rfl) rfl ?_)))));refine Qg [(124,_),(128,_)] Qw E0 (Qp B9 (Ag (Aq (fun hc10=>Ae (Qp Al (Rc (Qr (Iq _) ?_)))) fun hc10=>Bg (Ae (Qp Al (Rb (Qr (Iq _) ?_)))))))
 ·
  rw [←G6]
  try simp only [D0,C3] at *
  (simp only [Ai,Jk,E8];rw [iN hc1];rw [iN hc2];rw [iN hc3];rw [iN hc4];rw [iN hc5];rw [iN hc9];rw [if_pos hc10];done)
 rw [←G6]
 try simp only [D0,C3] at *
 (simp only [Ai,Jk,E8];rw [iN hc1];rw [iN hc2];rw [iN hc3];rw [iN hc4];rw [iN hc5];rw [iN hc9];rw [iN hc10];done)
theorem e8c23 (e:Ex)(hs:Bw e≤1048576):Ap Tryz.prog 66 [.agg (cE e)] (.tuple [.int .i64 (Bw e),.int .i64 (Ez e)]):=by
 revert hs
 induction e using Ex.ind
 rename_i e ih;intro hs;refine Ap.body (n:=32) tok Tryz.func66 rfl rfl rfl fun H=>?_
 refine Ae (Qp jP (Qp Al (Qp Al (Bs (Qp Al (Qp Al (Ag (Bk (Qp Zy (Qp Cw ?_))))))))));refine Qp (Ah (n:=e.args.length) tok rfl rfl rfl (by simp)) ?_;refine Qp Ao (Ag (AW.block (AW.sllen 11 rfl fun hlen=>?_)));simp only [Dx,maxLen] at hlen;refine AW.Aag (fun (p:Nat×Nat×Nat)=>(⟨[(4,.int .i64 (p.2.1:Int)),(5,.int .i64 (p.2.2:Int)),(11,.sl 8 (e.args.map M5)),(12,.int .i64 e.args.length),(13,.int .i64 (p.1:Int))],H,32⟩:St)) (fun p=>p.1≤e.args.length∧Bw e=p.2.1+((e.args.drop p.1).map Bw).sum∧Ez e=max p.2.2 (((e.args.drop p.1).map Ez).foldr max 0)+1∧p.2.2≤1048576) (fun p=>e.args.length-p.1) ((0,1,0)) ?_ Cs ?_
 · exact ⟨E2 _,by simpa using Ga e,by simpa using Uv e,E2 _⟩
 rintro p hR;refine Ae (Qp Bx (Re (Aq (fun hc1=>?_) fun hc1=>?_)))
 ·
  obtain ⟨a,ha⟩:=Cc hc1;have hlt:=Bu ha;have hm:=B4 ha;have hsa:=Hu hm;have hda:=Jt a;have h1:=gN p.2.1 ha;have h2:=Qa p.2.2 ha;refine Bg (AW.seq (AW.block (Ae ?_)));refine Qp (Aa (c:=Ie) tok rfl rfl rfl rfl rfl rfl (by omega) (Jq ha)) ?_;refine Qp Nh (Ed gix fun b7=>?_);refine Bt 0 Ie (_::_) ?_;refine AOL.ghost (GS.freeze (t:=7) 0 rfl rfl) ?_;refine Bs (Qp Nh ?_);refine Qp (Qc rfl (ih a hm (by have:=Hu hm;omega))) ?_;refine Qp N4 (Qp Iu (Qp Iu (Qp Al (Qp Al (Ag (AW.region (Qp Ao (Qp Ao (Qp E9 (Qp Ao (Qp Ao (Qp (Y1 rfl rfl) (Qp Al (Qp Al (Rk (AW.region (Qp E9 (Qp Ao (Ag ?_)))))))))))))))))));refine ⟨(p.1+1,p.2.1+Bw a,max p.2.2 (Ez a)),?_,?_,GS.weaken ⟨rfl,congrArg (AV.int .i64) (by simp only;omega),rfl,rfl,rfl,trivial⟩ (.refl _)⟩
  · simp only;exact ⟨hlt,by omega,by omega,by omega⟩
  omega
 have hd:=E3 hc1;refine AW.exit ?_;refine Bq (Ri (Ae (Qp Ao (Qp Ao ?_))));refine Qp (oE rfl rfl rfl (by have:=Jt e;constructor <;> omega)) ?_;refine Qp Al (Qp Al (Rb (Mf (Iq _) (Iq _) ?_)));rw [hd] at hR;simp only [C8,List.sum_nil,List.foldr_nil] at hR;simp only [Ai,AV.tuple.injEq,List.cons.injEq,AV.int.injEq,true_and,and_true];omega
theorem c48 (L:Nat)(e:Ex)(hs:Bw e≤1048576):Ap Tryz.prog 121 [.agg (cE e),.int .i64 (L:Int)] (.int .i64 (F1 L e)):=by
 revert hs
 induction e using Ex.ind
 rename_i e ih;intro hs;refine Ap.body (n:=29) tok Tryz.func121 rfl rfl rfl fun H=>?_
 refine Ae (Qp jP (Qp Al (Bs (Qp Al (Ag (Bk (Qp Al (Ag (AW.block ?_)))))))));refine AW.Aag (fun (p:Nat×Nat)=>(⟨[(1,.int .i64 (L:Int)),(2,.ptr (cE e)),(5,.int .i64 (p.2:Int)),(6,.int .i64 (p.1:Int))],H,29⟩:St)) (fun p=>p.1≤e.args.length∧F1 L e=Fe L (e.args.drop p.1) p.2∧p.2+((e.args.drop p.1).map Bw).sum≤Bw e∧e.args.length≤1048576) (fun p=>e.args.length-p.1) ((0,1)) ?_ Cs ?_
 · exact ⟨E2 _,by simpa using aI L e,by simpa using Nat.le_of_eq (Ga e).symm,Q4 e hs⟩
 rintro p hR;refine Bk (Qp Ao (Qp Zy (Qp Cw ?_)));refine Qp (Ah (n:=e.args.length) tok rfl rfl rfl (by simp)) ?_;refine Qp Bx (Qp A9 (Qg [] Qw Ao (Qg [] Qw Ao (AOL.g (y:=.bool _) _ [(13,_),(14,_)] rfl (qZ.all ⟨Ent.Aad _ _,Ent.Aad _ _,trivial⟩) (fun hG=>jF rfl rfl) rfl ?_))));refine Qp E0 (Ag (Aq (fun hc1=>?_) fun hc1=>AW.exit ?_))
 ·
  simp only [Gs] at hc1;obtain ⟨a,ha⟩:=Cc hc1.1;have hlt:=Bu ha;have hm:=B4 ha;have hsa:=Hu hm;have hle:p.2≤L:=by simpa using hc1.2
  have h1:=gN p.2 ha;have h2:=Zm L a;have h3:=hR.2.1;rw [A5 ha,Fe,if_pos hle] at h3;refine Bg (AW.seq (AW.block (AW.region (Qp Ao (Qp Zy (Qp Cw (Qp Ao ?_)))))));refine Qp (Aa (c:=Ie) tok rfl rfl rfl rfl rfl rfl (by omega) (Jq ha)) ?_;refine Qp Nh (Qp Ao ?_);refine Qp (Qc rfl (ih a hm (by have:=Hu hm;omega))) ?_;refine Qp E9 (Qp Al (Rk (AW.region (Qp Ao (Qp E9 (Qp Al (Ag ?_)))))));refine ⟨(p.1+1,p.2+F1 L a),?_,?_,Cs⟩
  · simp only;exact ⟨hlt,h3,by omega,hR.2.2.2⟩
  omega
 refine Bq (Ri (Ae (Qp Ao (Qp Al (Rb ?_)))));refine Qr (Iq _) ?_;simp only [Ai,AV.int.injEq,true_and];rw [hR.2.1];simp only [Bool.and_eq_false_iff] at hc1;rcases hc1 with hc1 | hc1
 · rw [E3 hc1,Fe]
 rw [eT (by simpa using hc1)]
theorem c49 (e:Ex)(hs:Bw e≤1048576):Ap Tryz.prog 122 [.agg (cE e)] (.int .i64 (Ez e)):=by
 revert hs
 induction e using Ex.ind
 rename_i e ih;intro hs;refine Ap.body (n:=22) tok Tryz.func122 rfl rfl rfl fun H=>?_
 refine Ae (Qp jP (Qp Al (Bs (Qp Al (Ag (Bk (Qp Al (Ag (AW.block ?_)))))))));refine AW.Aag (fun (p:Nat×Nat)=>(⟨[(1,.ptr (cE e)),(3,.int .i64 (p.2:Int)),(4,.int .i64 (p.1:Int))],H,22⟩:St)) (fun p=>p.1≤e.args.length∧Ez e=max p.2 (((e.args.drop p.1).map Ez).foldr max 0)+1∧p.2≤1048576∧e.args.length≤1048576) (fun p=>e.args.length-p.1) ((0,0)) ?_ Cs ?_
 · exact ⟨E2 _,by simpa using Uv e,E2 _,Q4 e hs⟩
 rintro p hR;refine Bk (Qp Ao (Qp Zy (Qp Cw ?_)));refine Qp (Ah (n:=e.args.length) tok rfl rfl rfl (by simp)) ?_;refine Qp Bx (Ag (Aq (fun hc1=>?_) fun hc1=>?_))
 ·
  obtain ⟨a,ha⟩:=Cc hc1;have hlt:=Bu ha;have hm:=B4 ha;have hsa:=Hu hm;have hda:=Jt a;have h2:=Qa p.2 ha;refine Bg (AW.seq (AW.block (AW.region (Qp Ao (Qp Zy (Qp Cw (Qp Ao ?_)))))));refine Qp (Aa (c:=Ie) tok rfl rfl rfl rfl rfl rfl (by omega) (Jq ha)) ?_;refine Qp Nh ?_;refine Qp (Qc rfl (ih a hm (by have:=Hu hm;omega))) ?_;refine Qp (Y1 rfl rfl) (Qp Al (Rk (AW.region (Qp Ao (Qp E9 (Qp Al (Ag ?_)))))));refine ⟨(p.1+1,max p.2 (Ez a)),?_,?_,GS.weaken ⟨rfl,congrArg (AV.int .i64) (by simp only;omega),rfl,trivial⟩ (.refl _)⟩
  · simp only;exact ⟨hlt,by omega,by omega,hR.2.2.2⟩
  omega
 have hd:=E3 hc1;refine AW.exit ?_;refine Bq (Ri (Ae (Qp Ao ?_)));refine Qp (oE rfl rfl rfl (by have:=Jt e;constructor <;> omega)) ?_;refine Qp Al (Rb (Qr (Iq _) ?_));rw [hd] at hR;simp only [C8,List.foldr_nil] at hR;simp only [Ai,AV.int.injEq,true_and];omega
theorem c50 (e:Ex)(hs:Bw e≤1048576):Ap Tryz.prog 138 [.agg (cE e)] (.int .i64 (Jl e)):=by
 revert hs
 induction e using Ex.ind
 rename_i e ih;intro hs;refine Ap.body (n:=27) tok Tryz.func138 rfl rfl rfl fun H=>?_
 refine Ae (Qp jP (Qp Al (Ag (Bk (Qp Nh (Qp (Qc rfl (c83 e)) (Qp Al (Bs (Qp Ao (Qp Br (Ag (Aq (fun hc1=>Ae (Qp Ao (Qp Al (Rc (Qr (Iq _) ?_))))) fun hc1=>?_))))))))))))
 ·
  simp only [Ai,AV.int.injEq,true_and];rw [Up,if_pos hc1]
 have hn:Jl e=A2 Jl e.args:=by rw [Up,if_neg (by simpa using hc1)]
 refine Bg (Bk (Qp Al (Ag (AW.block ?_))));have hlen:=Q4 e hs;refine AW.Aag (fun (p:Nat)=>(⟨[(1,.ptr (cE e)),(4,.int .i64 (p:Int))],H,27⟩:St)) (fun p=>p≤e.args.length∧Jl e=A2 Jl (e.args.drop p)) (fun p=>e.args.length-p) (0) ?_ Cs ?_
 · exact ⟨E2 _,by simpa using hn⟩
 rintro p hR;refine Bk (Qp Ao (Qp Zy (Qp Cw ?_)));refine Qp (Ah (n:=e.args.length) tok rfl rfl rfl (by simp)) ?_;refine Qp Bx (Ag (Aq (fun hc2=>?_) fun hc2=>?_))
 ·
  obtain ⟨a,ha⟩:=Cc hc2;have hlt:=Bu ha;have hm:=B4 ha;refine Bg (AW.seq (AW.block (Ae (Qp Zy (Qp Cw (Qp Ao ?_))))));refine Qp (Aa (c:=Ie) tok rfl rfl rfl rfl rfl rfl (by omega) (Jq ha)) ?_;refine Qp Nh ?_;refine Qp (Qc rfl (ih a hm (by have:=Hu hm;omega))) ?_;refine Qp Al (Bs (Qp Ao (Qp Br (Ag (Aq (fun hc3=>Ae (Qp Ao (Qp Al (Ra (Be (Db (Be (Qr (Iq _) ?_)))))))) fun hc3=>Rf (AW.region (Qp Ao (Qp E9 (Qp Al (Ag ?_))))))))))
  ·
   simp only [Ai,AV.int.injEq,true_and];rw [hR.2,A5 ha,A2,if_pos hc3]
  refine ⟨p+1,?_,?_,Cs⟩
  · exact ⟨hlt,by rw [hR.2,A5 ha,A2,if_neg (by simpa using hc3)]⟩
  omega
 have hd:=E3 hc2;refine AW.exit ?_;refine Bq (Ri (Ae (Qp Al (Rb ?_))));refine Qr (Iq _) ?_;simp only [Ai,AV.int.injEq,true_and];rw [hR.2,hd];rfl
theorem e8c46 (f:Nat)(hfn:Sj Tryz.prog f=true)(cap:List AV)(fs:Ex→Int)(Pr:Ex→Prop)(hp:∀a,Pr a→∀b∈a.args,Pr b)(hf:∀a,Pr a→Ap Tryz.prog f (.agg (cE a)::cap) (.int .i64 (fs a)))(e:Ex)(he:Pr e):Ap Tryz.prog 67 [.agg (cE e),.fn (.func f) [] cap] (.int .i64 (H4 fs e)):=by
 revert he
 induction e using Ex.ind
 rename_i e ih;intro he;refine Ap.body (n:=29) tok Tryz.func67 rfl rfl rfl fun H=>?_
 refine Ae (Qp jP (Qp Al (Ag (Bk (Qp (A1 (v:=.fn _ _ _) rfl) (Qp Nh (Qp (Nj hfn rfl rfl rfl (hf e he)) (Qp Al (Bs (Qp Ao (Qp Br (Ag (Aq (fun hc1=>Ae (Qp Ao (Qp Al (Rc (Qr (Iq _) ?_))))) fun hc1=>?_)))))))))))))
 ·
  simp only [Ai,AV.int.injEq,true_and];rw [Vc,if_pos hc1]
 have hn:H4 fs e=A2 (H4 fs) e.args:=by rw [Vc,if_neg (by simpa using hc1)]
 refine Bg (Bk (Qp Zy (Qp Cw ?_)));refine Qp (Ah (n:=e.args.length) tok rfl rfl rfl (by simp)) ?_;refine Qp Ao (Ag (AW.block (AW.sllen 16 rfl fun hlen=>?_)));simp only [Dx,maxLen] at hlen;refine AW.Aag (fun (p:Nat)=>(⟨[(1,.fn (.func f) [] cap),(16,.sl 8 (e.args.map M5)),(17,.int .i64 e.args.length),(18,.int .i64 (p:Int))],H,29⟩:St)) (fun p=>p≤e.args.length∧H4 fs e=A2 (H4 fs) (e.args.drop p)) (fun p=>e.args.length-p) (0) ?_ Cs ?_
 · exact ⟨E2 _,by simpa using hn⟩
 rintro p hR;refine Ae (Qp Bx (Re (Aq (fun hc2=>?_) fun hc2=>?_)))
 ·
  obtain ⟨a,ha⟩:=Cc hc2;have hlt:=Bu ha;have hm:=B4 ha;refine Bg (AW.seq (AW.block (Ae ?_)));refine Qp (Aa (c:=Ie) tok rfl rfl rfl rfl rfl rfl (by omega) (Jq ha)) ?_;refine Qp Nh (Ed gix fun b7=>?_);refine Bt 0 Ie (_::_) ?_;refine AOL.ghost (GS.freeze (t:=7) 0 rfl rfl) ?_;refine Bs (Qp Nh (Qp (A1 (v:=.fn _ _ _) rfl) (Qp (Qc rfl (ih a hm (hp e he a hm))) (Qp Al (Bs (Qp Ao (Qp Br (Ag (Aq (fun hc3=>Ae (Qp Ao (Qp Al (Ra (Be (Db (Be (Qr (Iq _) ?_)))))))) fun hc3=>Rf (AW.region (Qp E9 (Qp Ao (Ag ?_)))))))))))))
  ·
   simp only [Ai,AV.int.injEq,true_and];rw [hR.2,A5 ha,A2,if_pos hc3]
  refine ⟨p+1,?_,?_,Cs⟩
  · exact ⟨hlt,by rw [hR.2,A5 ha,A2,if_neg (by simpa using hc3)]⟩
  omega
 have hd:=E3 hc2;refine AW.exit ?_;refine Bq (Ri (Ae (Qp Al (Rb ?_))));refine Qr (Iq _) ?_;simp only [Ai,AV.int.injEq,true_and];rw [hR.2,hd];rfl
theorem oM (e:Ex)(hs:Bw e≤1048576):Ap Tryz.prog 26 [.agg (cE e)] (.int .i64 (Cf e)):=by
 refine Ap.body (n:=18) tok Tryz.func26 rfl rfl rfl fun H=>?_
 refine Ae (Qp jP (Qp Al (Bs (Qp Nh (Qp (Qc rfl (e8c23 e hs)) (Qp N4 (Qp Iu (Qp Iu (Qp Al (Qp Al (Re (AW.block (Ae (Qp Ao ?_))))))))))))));refine Qp Ej (Qp A0 (Ag (Aq (fun hc1=>Ae (Qp Al (Ra (Qr (Iq _) ?_)))) fun hc1=>Ae (Qp Ao (Qp Ej (Qp A0 (Ag (Aq (fun hc2=>Ae (Qp Al (Ra (Qr (Iq _) ?_)))) fun hc2=>Rf (Ae (Qp Nh ?_))))))))))
 ·
  try simp only [D0,C3] at *
  simp only [Ai,Cf];rw [if_pos hc1]
 ·
  try simp only [D0,C3] at *
  (simp only [Ai,Cf];rw [iN hc1];rw [if_pos hc2];done)
 refine Qp (Qc rfl (e8c46 68 (by kernel_rfl) [] Ge (fun _=>True) (fun _ _ _ _=>trivial) (fun a _=>c47 a) e trivial)) ?_;refine Qp Al (Rb (Qr (Iq _) ?_))
 try simp only [D0,C3] at *
 (simp only [Ai,Cf];rw [iN hc1];rw [iN hc2];done)
theorem e8c25 (e:Ex)(hs:Bw e≤1048576):Ap Tryz.prog 78 [.agg (cE e)] (.int .i64 (Cf e)):=by
 refine Ap.body (n:=11) tok Tryz.func78 rfl rfl rfl fun H=>?_
 refine Ae (Qp jP (Qp Al (Ag (Bk (Qp Nh (Qp (Qc rfl (c48 64 e hs)) (Qp Ej (Ag (Aq (fun hc1=>?_) fun hc1=>?_)))))))))
 ·
  have hct:decide (64<(Bw e:Int))=true:=by have:=gG 64 e;simp at hc1 ⊢;omega
  refine Ae (Qp Al (Rc (Qr (Iq _) ?_)))
  try simp only [D0,C3] at *
  try simp only [Dp,Eo] at *
  simp only [Ai,Cf, *,Bz,↓reduceIte,O4,Rn,Lb,Oz,Lk,C3,Rp,Ox,Ew,Ef]
 have hct:decide (64<(Bw e:Int))=false:=by have:=gG 64 e;simp at hc1 ⊢;omega
 refine Bg (Bk (Qp Nh (Qp (Qc rfl (c49 e hs)) (Qp Ej (Ag (Aq (fun hc2=>Ae (Qp Al (Rc (Qr (Iq _) ?_)))) fun hc2=>Bg (Ae (Qp Nh (Qp (Qc rfl (c50 e hs)) (Qp Al (Rb (Qr (Iq _) ?_))))))))))))
 ·
  try simp only [D0,C3] at *
  try simp only [Dp,Eo] at *
  simp only [Ai,Cf, *,Bz,↓reduceIte,O4,Rn,Lb,Oz,Lk,C3,Rp,Ox,Ew,Ef]
 try simp only [D0,C3] at *
 try simp only [Dp,Eo] at *
 simp only [Ai,Cf, *,Bz,↓reduceIte,O4,Rn,Lb,Oz,Lk,C3,Rp,Ox,Ew,Ef]
set_option maxHeartbeats 400000
set_option maxRecDepth 20000

theorem head_at {s:List UInt8}(h:s.length≠0):s[(0:Int).toNat]? = some (s.headD 0):=by
 cases s with
 | nil=>exact absurd rfl h
 | cons a r=>rfl
theorem rQ {s:List UInt8}{x:Bool}(h:K7 [((((s.length:Nat):Int)==0||x),false)]):s.length≠0:=by
 have h1:=h _ (My.2 rfl);intro h0;simp [h0] at h1
theorem oI {s:List UInt8}{k:Nat}{c:UInt8}(h:s[k]? = some c):s[((k:Nat):Int).toNat]? = some c:=h
theorem eG {s:List UInt8}(h:s.length=0∨24<s.length∨hU ((s.headD 0).toNat)=true):Mb s=false:=by
 unfold Mb;rcases h with h | h | h
 ·
  have e:(s.length==0)=true:=by simp [h]
  rw [e];rfl
 ·
  have e:decide (s.length≤24)=false:=by simp;omega
  rw [e,Ox,Rp,Rp]
 rw [h,Ew,Ox,Rp]
theorem vU {s:List UInt8}(h:s.length≠0∧s.length≤24∧hU ((s.headD 0).toNat)=false)(ha:s.all rU=true):Mb s=true:=by
 unfold Mb;have e1:(s.length==0)=false:=by rw [Pu];exact h.1
 have e2:decide (s.length≤24)=true:=by simp;exact h.2.1
 rw [e1,e2,h.2.2,ha];rfl
theorem tQ {s:List UInt8}{c:UInt8}(hm:c∈s)(h:rU c=false):s.all rU=false:=by
 rw [zz53];intro ha;rw [Z2.1 ha c hm] at h;cases h
theorem dB {s:List UInt8}{k:Nat}{c:UInt8}(hc:s[k]? = some c)(h:(s.take k).all rU=true)(hx:rU c=true):(s.take (k+1)).all rU=true:=by
 rw [Eu hc,List.all_append,h];simp [hx]
theorem c111 (n:Int):Ap Tryz.prog 231 [.int .u8 n] (.bool (hU n)):=by
 refine Ap.body (n:=9) tok Tryz.func231 rfl rfl rfl fun H=>?_
 refine Ae (Qp A0 (Bs (Qp (A1 (v:=.int .u8 _) rfl) (Qp H6 (Qp A9 (AOL.g (y:=.int .u8 _) _ [] rfl (qZ.all trivial) (fun hG=>A1 (v:=.int .u8 _) rfl) rfl ?_))))));refine Qg [(6,_)] Qw Z5 (Qp E0 (Qp A0 (Rb (Qr (.bool _) ?_))));rfl
theorem c112 (n:Int):Ap Tryz.prog 232 [.int .u8 n] (.bool (letS n)):=by
 refine Ap.body (n:=21) tok Tryz.func232 rfl rfl rfl fun H=>?_
 refine Ae (Qp A0 (Bs (Qp (A1 (v:=.int .u8 _) rfl) (Qp Av (Qp A9 (AOL.g (y:=.int .u8 _) _ [] rfl (qZ.all trivial) (fun hG=>A1 (v:=.int .u8 _) rfl) rfl ?_))))));refine Qg [(6,_)] Qw H6 (Qg [(7,_)] Qw A9 (AOL.g (y:=.int .u8 _) _ [] rfl (qZ.all trivial) (fun hG=>A1 (v:=.int .u8 _) rfl) rfl ?_));refine Qg [(9,_)] Qw Z5 (Qg [(8,_),(10,_)] Qw E0 (Qp B9 (Qp A9 (AOL.g (y:=.int .u8 _) _ [] rfl (qZ.all trivial) (fun hG=>A1 (v:=.int .u8 _) rfl) rfl ?_))));refine Qg [(14,_)] Qw H6 (Qg [(15,_)] Qw A9 (AOL.g (y:=.int .u8 _) _ [] rfl (qZ.all trivial) (fun hG=>A1 (v:=.int .u8 _) rfl) rfl ?_));refine Qg [(17,_)] Qw Z5 (Qg [(16,_),(18,_)] Qw E0 (Qp B9 (Qp A0 (Rb (Qr (.bool _) ?_)))));rfl
theorem c102 (s:List UInt8)(hs:s.length≤1048576):Ap Tryz.prog 165 [.str s] (.bool (Mb s)):=by
 refine Ap.body (n:=35) tok Tryz.func165 rfl rfl rfl fun H=>?_
 refine Ae (Qp A0 (Ag (Bk (Qp Gj (Qp (B8 (n:=s.length) tok rfl rfl rfl (rfl)) (Qp Av (Qp A9 (Qg [] Qw Gj (AOL.g (y:=Iq _) _ [(8,_)] rfl (qZ.all ⟨Ent.Aad _ _,trivial⟩) (fun hG=>B8 (n:=s.length) tok rfl rfl rfl (rfl)) rfl ?_)))))))));refine Qg [(9,_)] Qw Ej (Qp B9 (Qp A9 (Qg [] Qw Gj ?_)));refine AOL.g (y:=.int .u8 _) _ [(13,_)] rfl (qZ.all ⟨Ent.Aad _ _,trivial⟩) (fun hG=>B3 tok rfl rfl rfl rfl (by decide) (head_at (rQ hG))) rfl ?_;refine Qg [(14,_)] Qw (Qc rfl (c111 _)) (Qp B9 (Ag (Aq (fun hc1=>Ae (Qp A0 (Rc (Qr (.bool _) ?_)))) fun hc1=>?_)))
 ·
  simp only [Ai,AV.bool.injEq];simp only [Nv,H5,beq_iff_eq] at hc1;rcases hc1 with (h1 | h1) | h1
  · exact (eG (.inl (by omega))).symm
  · exact (eG (.inr (.inl (by omega)))).symm
  exact (eG (.inr (.inr h1))).symm
 have hn1:s.length≠0∧s.length≤24∧hU ((s.headD 0).toNat)=false:=by
    simp only [Ka,Wu,Pu] at hc1;exact ⟨by omega,by omega,hc1.2⟩
 refine Bg (Bk (Qp Gj (Qp (B8 (n:=s.length) tok rfl rfl rfl (rfl)) (Qp Ao (Ag (AW.block ?_))))));refine AW.Aag (fun (p:Nat)=>(⟨[(0,.str s),(18,.int .i64 s.length),(19,.int .i64 (p:Int))],H,35⟩:St)) (fun p=>p≤s.length∧(s.take p).all rU=true) (fun p=>s.length-p) (0) ?_ Cs ?_
 · exact ⟨E2 _,by simp⟩
 rintro p hR;refine Ae (Qp Bx (Re (Aq (fun hc2=>?_) fun hc2=>?_)))
 ·
  obtain ⟨c,hc⟩:=Cc hc2;have hlt:=Bu hc;have hm:=B4 hc;refine Bg (AW.seq (AW.block (Ae (Qp Ao (Qp Al (Bs (Qp Gj (Qp Ao ?_))))))));refine Qp (B3 tok rfl rfl rfl rfl (by omega) (oI hc)) ?_;refine Qp (Qc rfl (c112 _)) (Qp Et (Qp A9 (Qg [] Qw Gj (Qg [] Qw Ao ?_))));refine AOL.g (y:=.int .u8 _) _ [(28,_),(29,_)] rfl (qZ.all ⟨Ent.Aad _ _,Ent.Aad _ _,trivial⟩) (fun hG=>B3 tok rfl rfl rfl rfl (by omega) (oI hc)) rfl ?_;refine Qg [(30,_)] Qw (Qc rfl (c111 _)) (Qg [(31,_)] Qw Et (Qp E0 (Ag (Aq (fun hc3=>?_) fun hc3=>?_))))
  ·
   have hch:rU c=false:=by
    unfold rU;cases hl:letS c.toNat <;> cases hd:hU c.toNat <;> simp_all
   refine Ae (Qp A0 (Ra (Be (Db (Be (Qr (.bool _) ?_))))));simp only [Ai,AV.bool.injEq]
   symm
   unfold Mb;rw [tQ hm hch,Ox]
  have hch:rU c=true:=by
   unfold rU;cases hl:letS c.toNat <;> cases hd:hU c.toNat <;> simp_all
  refine Rf (AW.region (Qp E9 (Qp Ao (Ag ?_))));refine ⟨p+1,?_,?_,Cs⟩
  · exact ⟨hlt,dB hc hR.2 hch⟩
  omega
 have hte:=Dm hc2;refine AW.exit ?_;refine Bq (Ri (Ae (Qp A0 (Rb ?_))));refine Qr (.bool _) ?_;simp only [Ai,AV.bool.injEq];exact (vU hn1 (by rw [←hte];exact hR.2)).symm
theorem c103 (s:List UInt8)(hs:s.length≤1048576):Ap Tryz.prog 166 [.str s] (.bool (cL s)):=by
 refine Ap.body (n:=9) tok Tryz.func166 rfl rfl rfl fun H=>?_
 refine Ae (Qp A0 (Bs (Qp Gj (Qp (Qc rfl (c102 s hs)) (Qp A9 (Qg [] Qw Gj (AOL.g (y:=.bool _) _ [(6,_)] rfl (qZ.all ⟨Ent.Aad _ _,trivial⟩) (fun hG=>Dk rfl rfl) rfl ?_)))))));refine Qp E0 (Qp A0 (Rb (Qr (.bool _) ?_)));rfl

set_option maxHeartbeats 800000
set_option maxRecDepth 20000

def Zj (s:e8Sc):Prop:=s.name.length≤1048576∧s.fields.length≤1048576∧∀f∈s.fields,f.name.length≤1048576
theorem iA {seen:List (List UInt8)}{a:Fi}{r:List Fi}(h:Hr seen a=0):Kt seen (a::r)=Kt (seen ++ [a.name]) r:=by rw [Kt,if_neg (by rw [h];decide)]
theorem Pi {seen:List (List UInt8)}{a:Fi}{r:List Fi}(h:Hr seen a≠0):Kt seen (a::r)=Hr seen a:=by rw [Kt,if_pos (by simpa using h)]
theorem mB {seen:List (List UInt8)}{a:e8Sc}{r:List e8Sc}(h:Km seen a=0):Li seen (a::r)=Li (seen ++ [a.name]) r:=by rw [Li,if_neg (by rw [h];decide)]
theorem X6 {seen:List (List UInt8)}{a:e8Sc}{r:List e8Sc}(h:Km seen a≠0):Li seen (a::r)=Km seen a:=by rw [Li,if_pos (by simpa using h)]
theorem c85 (s:e8Sc)(hs:Zj s):Ap Tryz.prog 92 [.agg (Mt s)] (.int .i64 (Mk s)):=by
 refine Ap.body (n:=45) tok Tryz.func92 rfl rfl rfl fun H=>?_
 refine Ae (Qp (Gc Ub) (Qp Al (Ag (Bk (Qp (Qf Ub) (Qp Hc (Qp (Qc rfl (c102 _ hs.1)) (Qp Et (Ag (Aq (fun hc1=>Ae (Qp Al (Rc (Qr (Iq _) ?_)))) fun hc1=>Bg (Bk (Qp (Qf [_]) (Qp Cw ?_)))))))))))))
 · rw [show Mk s=8 by unfold Mk;rw [if_pos (by simpa using hc1)]];rfl
 refine Qp (Ah (n:=s.fields.length) tok rfl rfl rfl (by simp)) ?_;refine Qp Ej (Ag (Aq (fun hc2=>Ae (Qp Al (Rc (Qr (Iq _) ?_)))) fun hc2=>Bg (Ae (Qe (Nl) ?_))))
 · rw [show Mk s=5 by unfold Mk;rw [if_neg (by simpa using hc1),if_pos (by simpa using hc2)]];rfl
 rintro _ _ ⟨b14,rfl,rfl⟩;refine Qp Ua (Ag (Bk (Qp (Qf [_]) (Qp Cw ?_))));refine Qp (Ah (n:=s.fields.length) tok rfl rfl rfl (by simp)) ?_;refine Qp Ao (Ag (AW.block ?_));have hfl:=hs.2.1;refine AW.Aag (fun (p:Nat×List (List UInt8))=>(⟨[(3,.val (.map (some b14))),(16,.sl 2 (s.fields.map cFi)),(17,.int .i64 s.fields.length),(18,.int .i64 (p.1:Int))],.smap b14 (Wl p.2)::H,45⟩:St)) (fun p=>p.1≤s.fields.length∧Kt [] s.fields=Kt p.2 (s.fields.drop p.1)) (fun p=>s.fields.length-p.1) ((0,[])) ?_ Cs ?_
 · exact ⟨E2 _,rfl⟩
 rintro p hR;refine Ae (Qp Bx (Re (Aq (fun hc3=>?_) fun hc3=>?_)))
 ·
  obtain ⟨a,ha⟩:=Cc hc3;have hlt:=Bu ha;have hm:=B4 ha;refine Bg (AW.seq (AW.block (Ae ?_)));refine Qp (Aa (c:=Jz) tok rfl rfl rfl rfl rfl rfl (by omega) (Dv ha)) ?_;refine Qp (B0 Jz) (Ed [.str [],.int .i64 0] fun b5=>?_);refine Bt 0 Jz (_::_::_) ?_;refine AOL.ghost (GS.freeze (t:=5) 0 rfl rfl) ?_;refine Re (AW.block (Ae (Qp (Qf Jz) (Qp Hc (Qp (Qc rfl (c103 _ (hs.2.2 a hm))) (Qp Et (Qp A0 (Ag (Aq (fun hc4=>?_) fun hc4=>?_)))))))))
  ·
   have hb4:(!cL a.name)=true:=hc4;refine Ae (Qp Al (Ra (Rj (Be ?_))));refine ⟨.inr rfl,[Iq _],.cons (.tmp _ _ rfl) <| .nil,.cons _ (.refl _),?_⟩
   have he:Hr p.2 a=8:=by
    unfold Hr;rw [if_pos hb4]
   rw [show Mk s=Hr p.2 a by unfold Mk;rw [if_neg (by simpa using hc1),if_neg (by simpa using hc2),hR.2,A5 ha,Pi (by rw [he];decide)],he];rfl
  have hb4:¬(!cL a.name)=true:=by simpa using hc4
  refine Ae (Qp Bm (Qp (Qf Jz) (Qp Hc ?_)));refine AOL.Aae (aM (i:=0) (ks:=p.2) tok rfl rfl rfl rfl rfl (by kernel_rfl) rfl rfl rfl) rfl rfl ?_;refine Qp A0 (Ag (Aq (fun hc5=>?_) fun hc5=>?_))
  ·
   have hb5:p.2.contains a.name=true:=hc5;refine Ae (Qp Al (Ra (Rj (Be ?_))));refine ⟨.inr rfl,[Iq _],.cons (.tmp _ _ rfl) <| .nil,.cons _ (.refl _),?_⟩
   have he:Hr p.2 a=7:=by
    unfold Hr;rw [if_neg hb4,if_pos hb5]
   rw [show Mk s=Hr p.2 a by unfold Mk;rw [if_neg (by simpa using hc1),if_neg (by simpa using hc2),hR.2,A5 ha,Pi (by rw [he];decide)],he];rfl
  have hb5:¬p.2.contains a.name=true:=by simpa using hc5
  refine Ae (Qp (Qf [Iq _]) (Qp Bi (Qp Bx (Qp A9 (Qg [] Qw (Qf [Iq _]) (Qg [(37,_)] Qw Bi (Qg [(38,_)] Qw H6 (Qp B9 (Qp A0 (Ag (Aq (fun hc6=>?_) fun hc6=>?_)))))))))))
  ·
   have hb6:=hc6;refine Ae (Qp Al (Ra (Rj (Be ?_))));refine ⟨.inr rfl,[Iq _],.cons (.tmp _ _ rfl) <| .nil,.cons _ (.refl _),?_⟩
   have he:Hr p.2 a=1:=by
    unfold Hr;rw [if_neg hb4,if_neg hb5,if_pos hb6]
   rw [show Mk s=Hr p.2 a by unfold Mk;rw [if_neg (by simpa using hc1),if_neg (by simpa using hc2),hR.2,A5 ha,Pi (by rw [he];decide)],he];rfl
  have hb6:=zz53.mp hc6;have he0:Hr p.2 a=0:=by unfold Hr;rw [if_neg hb4,if_neg hb5,if_neg hb6]
  refine Rf (AW.region (Qp Bm (Qp (Qf Jz) (Qp Hc ?_))));refine Rt (jK (i:=0) (H2:=_::_) tok rfl rfl rfl rfl rfl rfl rfl rfl (by simpa using hb5) rfl) ?_;refine Rk (AW.region (Qp E9 (Qp Ao (Ag ?_))));refine ⟨(p.1+1,p.2 ++ [a.name]),?_,?_,Cs⟩
  · exact ⟨hlt,by rw [hR.2,A5 ha,iA he0]⟩
  omega
 have hd:=E3 hc3;refine AW.exit ?_;refine Bq (Ri (Ae (Qp Al (Rb ?_))));refine ⟨.inr rfl,[Iq _],.cons (.tmp _ _ rfl) <| .nil,.cons _ (.refl _),?_⟩;rw [show Mk s=0 by unfold Mk;rw [if_neg (by simpa using hc1),if_neg (by simpa using hc2),hR.2,hd];rfl];rfl
theorem e8c57 (l:List e8Sc)(hl:l.length≤1048576)(hs:∀s∈l,Zj s):Ap Tryz.prog 44 [.sl 2 (l.map Mt)] (.int .i64 (Fw l)):=by
 refine Ap.body (n:=30) tok Tryz.func44 rfl rfl rfl fun H=>?_
 refine Ae (Qp Al (Ag (Bk (Qp G4 ?_))));refine Qp (Ah (n:=l.length) tok rfl rfl rfl (by simp)) ?_;refine Qp Ej (Ag (Aq (fun hc1=>Ae (Qp Al (Rc (Qr (Iq _) ?_)))) fun hc1=>Bg (Ae (Qe (Nl) ?_))))
 · rw [show Fw l=5 by unfold Fw;rw [if_pos (by simpa using hc1)]];rfl
 rintro _ _ ⟨b10,rfl,rfl⟩;refine Qp Ua (Ag (Bk (Qp G4 ?_)));refine Qp (Ah (n:=l.length) tok rfl rfl rfl (by simp)) ?_;refine Qp Ao (Ag (AW.block ?_));refine AW.Aag (fun (p:Nat×List (List UInt8))=>(⟨[(3,.val (.map (some b10))),(11,.sl 2 (l.map Mt)),(12,.int .i64 l.length),(13,.int .i64 (p.1:Int))],.smap b10 (Wl p.2)::H,30⟩:St)) (fun p=>p.1≤l.length∧Li [] l=Li p.2 (l.drop p.1)) (fun p=>l.length-p.1) ((0,[])) ?_ Cs ?_
 · exact ⟨E2 _,rfl⟩
 rintro p hR;refine Ae (Qp Bx (Re (Aq (fun hc2=>?_) fun hc2=>?_)))
 ·
  obtain ⟨a,ha⟩:=Cc hc2;have hlt:=Bu ha;have hm:=B4 ha;refine Bg (AW.seq (AW.block (Ae ?_)));refine Qp (Aa (c:=Ub) tok rfl rfl rfl rfl rfl rfl (by omega) (Dv ha)) ?_;refine Qp (B0 Ub) (Ed [.str [],.sl 2 []] fun b5=>?_);refine Bt 0 Ub (_::_::_) ?_;refine AOL.ghost (GS.freeze (t:=5) 0 rfl rfl) ?_;refine Ag (Bk (Qp (B0 Ub) (Qp (Qc rfl (c85 a (hs a hm))) (Qp Al (Bs (Qp Ao (Qp Br (Ag (Aq (fun hc3=>Ae (Qp Ao (Qp Al (Rc (Rj (Be ?_)))))) fun hc3=>?_)))))))))
  ·
   refine ⟨.inr rfl,[Iq _],.cons (.tmp _ _ rfl) <| .nil,.cons _ (.refl _),?_⟩;have he:Km p.2 a=Mk a:=by unfold Km;rw [if_pos hc3]
   rw [show Fw l=Km p.2 a by unfold Fw;rw [if_neg (by simpa using hc1),hR.2,A5 ha,X6 (by rw [he];simpa using hc3)],he];rfl
  have hb3:=zz53.mp hc3;refine Bg (Bk (Qp Bm (Qp (Qf Ub) (Qp Hc ?_))));refine AOL.Aae (aM (i:=0) (ks:=p.2) tok rfl rfl rfl rfl rfl (by kernel_rfl) rfl rfl rfl) rfl rfl ?_;refine Ag (Aq (fun hc4=>?_) fun hc4=>?_)
  ·
   have hb4:p.2.contains a.name=true:=hc4;refine Ae (Qp Al (Rc (Rj (Be ?_))));refine ⟨.inr rfl,[Iq _],.cons (.tmp _ _ rfl) <| .nil,.cons _ (.refl _),?_⟩;have he:Km p.2 a=7:=by unfold Km;rw [if_neg hb3,if_pos hb4]
   rw [show Fw l=Km p.2 a by unfold Fw;rw [if_neg (by simpa using hc1),hR.2,A5 ha,X6 (by rw [he];decide)],he];rfl
  have hb4:¬p.2.contains a.name=true:=by simpa using hc4
  have he0:Km p.2 a=0:=by unfold Km;rw [if_neg hb3,if_neg hb4]
  refine Bg (AW.region (Qp Bm (Qp (Qf Ub) (Qp Hc ?_))));refine Rt (jK (i:=0) (H2:=_::_) tok rfl rfl rfl rfl rfl rfl rfl rfl (by simpa using hb4) rfl) ?_;refine Rk (AW.region (Qp E9 (Qp Ao (Ag ?_))));refine ⟨(p.1+1,p.2 ++ [a.name]),?_,?_,Cs⟩
  · exact ⟨hlt,by rw [hR.2,A5 ha,mB he0]⟩
  omega
 have hd:=E3 hc2;refine AW.exit ?_;refine Bq (Ri (Ae (Qp Al (Rb ?_))));refine ⟨.inr rfl,[Iq _],.cons (.tmp _ _ rfl) <| .nil,.cons _ (.refl _),?_⟩;rw [show Fw l=0 by unfold Fw;rw [if_neg (by simpa using hc1),hR.2,hd];rfl];rfl
set_option maxHeartbeats 1600000
set_option maxRecDepth 20000

theorem Vq {a b:Ex}(h:Lj a b=false):a.args.length=b.args.length:=by
 simp [Lj] at h;omega

def badS (l:List Ev):Bool:=decide (12<(l.length:Int))||l.any fun v=>decide (10<(v.values.length:Int))
def fewEnvS (vars:List (List Ev)):Bool:=!((vars.take 20).any badS)&&decide ((vars.length:Int)≤20)
def fewE (e:Ex):Bool:=decide (Bw e≤200∧Ez e≤100)
theorem bD (a b:Ex)(hs:Bw a≤1048576):Ap Tryz.prog 42 [.agg (cE a),.agg (cE b)] (.bool (Fx a b)):=by
 revert b hs
 induction a using Ex.ind
 rename_i a ih;intro b hs;have hal:=Q4 a hs;refine Ap.body (n:=67) tok Tryz.func42 rfl rfl rfl fun H=>?_
 refine Ae (Qp jP (Qp jP (Qp A0 (Ag (Bk (Qp S4 (Qp Bi (Qp S4 (Qp Bi (Qp Br (Qp A9 (Qg [] Qw nP (Qg [(12,_)] Qw Bi (Qg [] Qw nP (Qg [(14,_)] Qw Bi (AOL.g (y:=.bool _) _ [(13,_),(15,_)] rfl (qZ.all ⟨Ent.Aad _ _,Ent.Aad _ _,trivial⟩) (fun hG=>Ik rfl rfl) rfl ?_))))))))))))))));refine Qp B9 (Qp A9 (Qg [] Qw nU (Qg [(19,_)] Qw Bi (Qg [] Qw nU (Qg [(21,_)] Qw Bi (AOL.g (y:=.bool _) _ [(20,_),(22,_)] rfl (qZ.all ⟨Ent.Aad _ _,Ent.Aad _ _,trivial⟩) (fun hG=>Ik rfl rfl) rfl ?_))))));refine Qp B9 (Qp A9 (Qg [] Qw dN (Qg [(26,_)] Qw Bi (Qg [] Qw dN (Qg [(28,_)] Qw Bi (AOL.g (y:=.bool _) _ [(27,_),(29,_)] rfl (qZ.all ⟨Ent.Aad _ _,Ent.Aad _ _,trivial⟩) (fun hG=>Ik rfl rfl) rfl ?_))))));refine Qp B9 (Qp A9 (Qg [] Qw S5 (Qg [(33,_)] Qw (B0 Mj) (Qg [] Qw S5 (Qg [(35,_)] Qw (B0 Mj) (AOL.g (y:=.bool _) _ [(34,_),(36,_)] rfl (qZ.all ⟨Ent.Aad _ _,Ent.Aad _ _,trivial⟩) (fun hG=>Fm tok rfl rfl rfl rfl rfl) rfl ?_))))));refine Qp B9 (Qp A9 (Qg [] Qw Zy (Qg [(40,_)] Qw Cw ?_)));refine AOL.g (y:=Iq _) _ [(41,_)] rfl (qZ.all ⟨Ent.Aad _ _,trivial⟩) (fun hG=>Ah (n:=a.args.length) tok rfl rfl rfl (by simp)) rfl ?_;refine Qg [] Qw Zy (Qg [(43,_)] Qw Cw ?_);refine AOL.g (y:=Iq _) _ [(44,_)] rfl (qZ.all ⟨Ent.Aad _ _,trivial⟩) (fun hG=>Ah (n:=b.args.length) tok rfl rfl rfl (by simp)) rfl ?_;refine AOL.g (y:=.bool _) _ [(42,_),(45,_)] rfl (qZ.all ⟨Ent.Aad _ _,Ent.Aad _ _,trivial⟩) (fun hG=>Ik rfl rfl) rfl ?_;refine Qp B9 (Ag (Aq (fun hc1=>?_) fun hc1=>?_))
 ·
  have hh:Lj a b=true:=by simpa [Lj] using hc1
  refine Ae (Qp A0 (Rc (Qr (.bool _) ?_)));rw [Lo,if_pos hh];rfl
 have hh:Lj a b=false:=by simpa [Lj] using hc1
 have hlen:=Vq hh;refine Bg (Bk (Qp Al (Ag (AW.block ?_))));refine AW.Aag (fun (p:Nat)=>(⟨[(2,.ptr (cE a)),(3,.ptr (cE b)),(5,.int .i64 (p:Int))],H,67⟩:St)) (fun p=>p≤a.args.length∧Ot a.args b.args=Ot (a.args.drop p) (b.args.drop p)) (fun p=>a.args.length-p) (0) ?_ Cs ?_
 · exact ⟨E2 _,rfl⟩
 rintro p hR;refine Bk (Qp Ao (Qp Zy (Qp Cw ?_)));refine Qp (Ah (n:=a.args.length) tok rfl rfl rfl (by simp)) ?_;refine Qp Bx (Ag (Aq (fun hc2=>?_) fun hc2=>?_))
 ·
  obtain ⟨x,hx⟩:=Cc hc2;have hlt:=Bu hx;have hm:=B4 hx;obtain ⟨y,hy⟩:∃y,b.args[p]? = some y:=⟨_,List.getElem?_eq_getElem (by omega)⟩;refine Bg (AW.seq (AW.block (AW.seq ?_)));refine Ol ?_;refine Qn 0 rfl Zy (Qn 1 rfl Cw (Qn 2 rfl Ao ?_));refine Qn 3 rfl (Aa (c:=Ie) tok rfl rfl rfl rfl rfl rfl (by omega) (Jq hx)) ?_;refine Qn 4 rfl Nh (Qn 5 rfl Zy (Qn 6 rfl Cw (Qn 7 rfl Ao ?_)));refine Qn 8 rfl (Aa (c:=Ie) tok rfl rfl rfl rfl rfl rfl (by omega) (Jq hy)) ?_;refine Qn 9 rfl Nh ?_;refine Qn 10 rfl (Qc rfl (ih x hm y (by have:=Hu hm;omega))) ?_;refine Qn 11 rfl Et ?_;refine Hs ?_;refine Bh (Aq (fun hc3=>Ae (Qp A0 (Ra (Be (Db (Be (Qr (.bool _) ?_))))))) fun hc3=>Rf (AW.region (Qp Ao (Qp E9 (Qp Al (Ag ?_))))))
  · rw [Lo,if_neg (by simp [hh]),hR.2,A5 hx,A5 hy];show _=AV.bool (if (!Fx x y)=true then false else _);rw [if_pos hc3];rfl
  refine ⟨p+1,?_,?_,Cs⟩
  · exact ⟨hlt,by rw [hR.2,A5 hx,A5 hy,Ot];simp [hc3]⟩
  omega
 have hd:=E3 hc2;refine AW.exit ?_;refine Bq (Ri (Ae (Qp A0 (Rb ?_))));refine Qr (.bool _) ?_;rw [Lo,if_neg (by simp [hh]),hR.2,hd];rfl
set_option maxHeartbeats 1600000
set_option maxRecDepth 20000

def cTo (to:List Int):List (List AV):=to.map fun k=>[AV.int .i64 k]
def QR (to:List Int)(e:Ex):Prop:=Jl e=0∧H4 (dW to) e=0
theorem e8c22 (a b:Ex)(hs:Bw a≤1048576):Ap Tryz.prog 194 [.agg (cE a),.agg (cE b)] (.bool (Fx a b)):=by
 revert b hs
 induction a using Ex.ind
 rename_i a ih;intro b hs;have hal:=Q4 a hs;refine Ap.body (n:=67) tok Tryz.func194 rfl rfl rfl fun H=>?_
 refine Ae (Qp jP (Qp jP (Qp A0 (Ag (Bk (Qp S4 (Qp Bi (Qp S4 (Qp Bi (Qp Br (Qp A9 (Qg [] Qw nP (Qg [(12,_)] Qw Bi (Qg [] Qw nP (Qg [(14,_)] Qw Bi (AOL.g (y:=.bool _) _ [(13,_),(15,_)] rfl (qZ.all ⟨Ent.Aad _ _,Ent.Aad _ _,trivial⟩) (fun hG=>Ik rfl rfl) rfl ?_))))))))))))))));refine Qp B9 (Qp A9 (Qg [] Qw nU (Qg [(19,_)] Qw Bi (Qg [] Qw nU (Qg [(21,_)] Qw Bi (AOL.g (y:=.bool _) _ [(20,_),(22,_)] rfl (qZ.all ⟨Ent.Aad _ _,Ent.Aad _ _,trivial⟩) (fun hG=>Ik rfl rfl) rfl ?_))))));refine Qp B9 (Qp A9 (Qg [] Qw dN (Qg [(26,_)] Qw Bi (Qg [] Qw dN (Qg [(28,_)] Qw Bi (AOL.g (y:=.bool _) _ [(27,_),(29,_)] rfl (qZ.all ⟨Ent.Aad _ _,Ent.Aad _ _,trivial⟩) (fun hG=>Ik rfl rfl) rfl ?_))))));refine Qp B9 (Qp A9 (Qg [] Qw S5 (Qg [(33,_)] Qw (B0 Mj) (Qg [] Qw S5 (Qg [(35,_)] Qw (B0 Mj) (AOL.g (y:=.bool _) _ [(34,_),(36,_)] rfl (qZ.all ⟨Ent.Aad _ _,Ent.Aad _ _,trivial⟩) (fun hG=>Fm tok rfl rfl rfl rfl rfl) rfl ?_))))));refine Qp B9 (Qp A9 (Qg [] Qw Zy (Qg [(40,_)] Qw Cw ?_)));refine AOL.g (y:=Iq _) _ [(41,_)] rfl (qZ.all ⟨Ent.Aad _ _,trivial⟩) (fun hG=>Ah (n:=a.args.length) tok rfl rfl rfl (by simp)) rfl ?_;refine Qg [] Qw Zy (Qg [(43,_)] Qw Cw ?_);refine AOL.g (y:=Iq _) _ [(44,_)] rfl (qZ.all ⟨Ent.Aad _ _,trivial⟩) (fun hG=>Ah (n:=b.args.length) tok rfl rfl rfl (by simp)) rfl ?_;refine AOL.g (y:=.bool _) _ [(42,_),(45,_)] rfl (qZ.all ⟨Ent.Aad _ _,Ent.Aad _ _,trivial⟩) (fun hG=>Ik rfl rfl) rfl ?_;refine Qp B9 (Ag (Aq (fun hc1=>?_) fun hc1=>?_))
 ·
  have hh:Lj a b=true:=by simpa [Lj] using hc1
  refine Ae (Qp A0 (Rc (Qr (.bool _) ?_)));rw [Lo,if_pos hh];rfl
 have hh:Lj a b=false:=by simpa [Lj] using hc1
 have hlen:=Vq hh;refine Bg (Bk (Qp Zy (Qp Cw ?_)));refine Qp (Ah (n:=a.args.length) tok rfl rfl rfl (by simp)) ?_;refine Qp Ao (Ag (AW.block ?_));refine AW.Aag (fun (p:Nat)=>(⟨[(2,.ptr (cE a)),(3,.ptr (cE b)),(50,.int .i64 a.args.length),(51,.int .i64 (p:Int))],H,67⟩:St)) (fun p=>p≤a.args.length∧Ot a.args b.args=Ot (a.args.drop p) (b.args.drop p)) (fun p=>a.args.length-p) (0) ?_ Cs ?_
 · exact ⟨E2 _,rfl⟩
 rintro p hR;refine Ae (Qp Bx (Re (Aq (fun hc2=>?_) fun hc2=>?_)))
 ·
  obtain ⟨x,hx⟩:=Cc hc2;have hlt:=Bu hx;have hm:=B4 hx;obtain ⟨y,hy⟩:∃y,b.args[p]? = some y:=⟨_,List.getElem?_eq_getElem (by omega)⟩;refine Bg (AW.seq (AW.block (Ae (Qp Ao (Qp Al (Re ?_))))));refine Ol ?_;refine Qn 0 rfl Zy (Qn 1 rfl Cw (Qn 2 rfl Ao ?_));refine Qn 3 rfl (Aa (c:=Ie) tok rfl rfl rfl rfl rfl rfl (by omega) (Jq hx)) ?_;refine Qn 4 rfl Nh (Qn 5 rfl Zy (Qn 6 rfl Cw (Qn 7 rfl Ao ?_)));refine Qn 8 rfl (Aa (c:=Ie) tok rfl rfl rfl rfl rfl rfl (by omega) (Jq hy)) ?_;refine Qn 9 rfl Nh ?_;refine Qn 10 rfl (Qc rfl (ih x hm y (by have:=Hu hm;omega))) ?_;refine Qn 11 rfl Et ?_;refine Hs ?_;refine Bh (Aq (fun hc3=>Ae (Qp A0 (Ra (Be (Db (Be (Qr (.bool _) ?_))))))) fun hc3=>Rf (AW.region (Qp E9 (Qp Ao (Ag ?_)))))
  · rw [Lo,if_neg (by simp [hh]),hR.2,A5 hx,A5 hy];show _=AV.bool (if (!Fx x y)=true then false else _);rw [if_pos hc3];rfl
  refine ⟨p+1,?_,?_,Cs⟩
  · exact ⟨hlt,by rw [hR.2,A5 hx,A5 hy,Ot];simp [hc3]⟩
  omega
 have hd:=E3 hc2;refine AW.exit ?_;refine Bq (Ri (Ae (Qp A0 (Rb ?_))));refine Qr (.bool _) ?_;rw [Lo,if_neg (by simp [hh]),hR.2,hd];rfl
end Go.Proofs.YtckhoadldibflaaGreatDoor
