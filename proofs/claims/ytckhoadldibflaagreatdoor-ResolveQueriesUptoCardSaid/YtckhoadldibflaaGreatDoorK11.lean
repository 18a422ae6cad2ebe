/-
  Several texts in one: EW1, EW4, EW23. No condition.
-/
import Derived.Test.YtckhoadldibflaaGreatDoorK01
import Derived.Test.YtckhoadldibflaaGreatDoorK02
import Derived.Test.YtckhoadldibflaaGreatDoorTab
import Derived.KernelRfl
set_option linter.unusedVariables false
set_option linter.unusedSimpArgs false
namespace Go.Proofs.YtckhoadldibflaaGreatDoor
open Go Go.Aw
set_option maxHeartbeats 400000
set_option maxRecDepth 20000

theorem e8c52 (op:Int):An Tryz.prog 117 [.int .i64 op] (.tuple [.bool (Hc op).1,.bool (Hc op).2]):=by
 refine An.body (n:=11) tok Tryz.func117 rfl rfl rfl fun H=>?_
 refine Ad (Qp Au (Qp Au (Ae (Rd (Qp Am (Ae (AW.block (AW.seq ?_))))))));refine Ad (Qp Ap (Qp Au (Ae (Ao (fun hc1=>A7 (Ao (fun hc2=>Ad (Qp Au (Qp Au (Ra (M6 (.bool _) (.bool _) ?_))))) fun hc2=>Rd (Qp Ap (Qp Au (Ae (Ao (fun hc3=>A7 (Ao (fun hc4=>Ad (Qp Au (Qp Au (Ra (M6 (.bool _) (.bool _) ?_))))) fun hc4=>Rf (Ad (Qp Au (Qp Au (Rb (M6 (.bool _) (.bool _) ?_))))))) fun hc3=>?_)))))) fun hc1=>?_))))
 · simp_all [Ag,Hc]
 · simp_all [Ag,Hc]
 · simp_all [Ag,Hc]
 ·
  refine AW.region (Qp Ap (Qp Au (Ae (Ao (fun hc5=>Ad (Qp Au (Qp Au (Ra (M6 (.bool _) (.bool _) ?_))))) fun hc5=>Rf (Ad (Qp Au (Qp Au (Rb (M6 (.bool _) (.bool _) ?_)))))))))
  · simp_all [Ag,Hc]
  simp_all [Ag,Hc]
 refine AW.region (Qp Ap (Qp Au (Ae (Ao (fun hc6=>Ad (Qp Au (Qp Au (Ra (M6 (.bool _) (.bool _) ?_))))) fun hc6=>Rd (Qp Ap (Qp Au (Ae (Ao (fun hc7=>A7 (Ao (fun hc8=>Ad (Qp Au (Qp Au (Ra (M6 (.bool _) (.bool _) ?_))))) fun hc8=>Rf (Ad (Qp Au (Qp Au (Rb (M6 (.bool _) (.bool _) ?_))))))) fun hc7=>?_))))))))
 · simp_all [Ag,Hc]
 · simp_all [Ag,Hc]
 · simp_all [Ag,Hc]
 refine AW.region (Qp Ap (Qp Au (Ae (Ao (fun hc9=>Ad (Qp Au (Qp Au (Ra (M6 (.bool _) (.bool _) ?_))))) fun hc9=>Rf (Ad (Qp Au (Qp Au (Rb (M6 (.bool _) (.bool _) ?_)))))))))
 · simp_all [Ag,Hc]
 simp_all [Ag,Hc]
theorem c84 (op:Int):An Tryz.prog 257 [.int .i64 op] (.tuple [.bool (Hc op).1,.bool (Hc op).2]):=by
 refine An.body (n:=21) tok Tryz.func257 rfl rfl rfl fun H=>?_
 refine Ad (Qp Au (Qp Au (Bs (Qp Am (Qp Ap (Qp A9 (Qg [] Qw Am (Qg [(8,_)] Qw Ap (Qp Cf ?_)))))))));refine Qp Au (Bs (Qp A9 (Qp A9 (Qg [] Qw Am (Qg [(13,_)] Qw Ap (Qp Cf (Qp A9 (Qg [] Qw Am (Qg [(17,_)] Qw Ap (Qp Cf (Qp A9 (Qp Au (Qp Au (Rb (M6 (.bool _) (.bool _) ?_)))))))))))))));by_cases h1:op=1 <;> by_cases h2:op=2 <;> by_cases h3:op=3 <;> by_cases h4:op=4 <;> simp_all [Hc,Ag]
theorem c81 (op:Int):An Tryz.prog 116 [.int .i64 op] (.tuple [.int .i64 (Iv op),.bool (decide (0≤op∧op≤12))]):=by
 refine An.body (n:=17) tok Tryz.func116 rfl rfl rfl fun H=>?_
 refine Ad (Qp Al (Qp Au (Re (AW.block (Ad (Qp Am (Qp Bp (Qp A9 (Qg [] Qw Am (Qg [(8,_)] Qw Do (Qp Cf (Qp Au (Ae (Ao (fun hc1=>Ad (Qp Al (Qp Au (Ra (M6 (Iq _) (.bool _) ?_))))) fun hc1=>?_))))))))))))))
 ·
  simp only [N2,Ke,Hi,U8,beq_iff_eq,Ov] at *;simp only [Ag,Iv,AV.tuple.injEq,List.cons.injEq,AV.int.injEq,AV.bool.injEq,true_and,and_true];refine ⟨?_,?_⟩
  ·
   repeat' split
   all_goals omega
  simp <;> omega
 refine Ad (Qp Am (Qp Bp (Qp Au (Ae (Ao (fun hc2=>Ad (Qp Al (Qp Au (Ra (M6 (Iq _) (.bool _) ?_))))) fun hc2=>Ad (Qp Am (Qp Ap (Qp Au (Ae (Ao (fun hc3=>Ad (Qp Al (Qp Au (Ra (M6 (Iq _) (.bool _) ?_))))) fun hc3=>Rf (Ad (Qp Al (Qp Au (Rb (M6 (Iq _) (.bool _) ?_)))))))))))))))
 ·
  simp only [N2,Ke,Hi,U8,beq_iff_eq,Ov] at *;simp only [Ag,Iv,AV.tuple.injEq,List.cons.injEq,AV.int.injEq,AV.bool.injEq,true_and,and_true];refine ⟨?_,?_⟩
  ·
   repeat' split
   all_goals omega
  simp <;> omega
 ·
  simp only [N2,Ke,Hi,U8,beq_iff_eq,Ov] at *;simp only [Ag,Iv,AV.tuple.injEq,List.cons.injEq,AV.int.injEq,AV.bool.injEq,true_and,and_true];refine ⟨?_,?_⟩
  ·
   repeat' split
   all_goals omega
  simp <;> omega
 simp only [N2,Ke,Hi,U8,beq_iff_eq,Ov] at *;simp only [Ag,Iv,AV.tuple.injEq,List.cons.injEq,AV.int.injEq,AV.bool.injEq,true_and,and_true];refine ⟨?_,?_⟩
 ·
  repeat' split
  all_goals omega
 simp <;> omega
theorem c100 (op:Int):An Tryz.prog 256 [.int .i64 op] (.int .i64 (if 0≤op∧op≤12 then Iv op else -1)):=by
 refine An.body (n:=20) tok Tryz.func256 rfl rfl rfl fun H=>?_
 refine Ad (Qp Al (Ae (Rd (Qp Am (Ae (AW.block ?_))))));refine AW.Aas (fun (_:Unit)=>(⟨[(0,.int .i64 op),(3,.int .i64 op),(4,.bool (op==0||op==1||op==2||op==3||op==4))],H,20⟩:St)) (fun _=>True) ?_ ?_
 ·
  refine Ad (Qp Ap (Qp Au (Ae (Ao (fun hc1=>A7 ?_) fun hc1=>Ad (Qp Ap (Qp Au (Ae (Ao (fun hc2=>A7 ?_) fun hc2=>Ad (Qp Ap (Qp Au (Ae (Ao (fun hc3=>A7 ?_) fun hc3=>Ad (Qp Ap (Qp Au (Ae (Ao (fun hc4=>A7 ?_) fun hc4=>AW.region (Qp Ap (Qp Au (Ae ?_)))))))))))))))))))
  ·
   refine ⟨(),?_,GS.weaken ⟨rfl,rfl,congrArg AV.bool (by simp [*]),trivial⟩ (.refl _)⟩
   trivial
  ·
   refine ⟨(),?_,GS.weaken ⟨rfl,rfl,congrArg AV.bool (by simp [*]),trivial⟩ (.refl _)⟩
   trivial
  ·
   refine ⟨(),?_,GS.weaken ⟨rfl,rfl,congrArg AV.bool (by simp [*]),trivial⟩ (.refl _)⟩
   trivial
  ·
   refine ⟨(),?_,GS.weaken ⟨rfl,rfl,congrArg AV.bool (by simp [*]),trivial⟩ (.refl _)⟩
   trivial
  refine ⟨(),?_,GS.weaken ⟨rfl,rfl,congrArg AV.bool (by simp [*]),trivial⟩ (.refl _)⟩
  trivial
 rintro _ _;refine Ao (fun hc5=>Ad (Qp Al (Ra (Qr (Iq _) ?_)))) fun hc5=>Ad (Qp Ap (Qp Au (Ae (Ao (fun hc6=>Ad (Qp Al (Ra (Qr (Iq _) ?_)))) fun hc6=>?_))))
 ·
  simp only [N2,Ke,beq_iff_eq,Ov] at *;simp only [Ag,Iv,AV.int.injEq,true_and]
  repeat' split
  all_goals omega
 ·
  simp only [N2,Ke,beq_iff_eq,Ov] at *;simp only [Ag,Iv,AV.int.injEq,true_and]
  repeat' split
  all_goals omega
 refine AW.Aas (fun (_:Unit)=>(⟨[(12,.bool (op==5||op==6||op==7||op==8||op==9||op==10||op==11))],H,20⟩:St)) (fun _=>True) ?_ ?_
 ·
  refine Ad (Qp Ap (Qp Au (Ae (Ao (fun hc7=>A7 ?_) fun hc7=>Ad (Qp Ap (Qp Au (Ae (Ao (fun hc8=>A7 ?_) fun hc8=>?_))))))))
  ·
   refine ⟨(),?_,GS.weaken ⟨congrArg AV.bool (by simp [*]),trivial⟩ (.refl _)⟩
   trivial
  ·
   refine ⟨(),?_,GS.weaken ⟨congrArg AV.bool (by simp [*]),trivial⟩ (.refl _)⟩
   trivial
  refine Ad (Qp Ap (Qp Au (Ae (Ao (fun hc9=>A7 ?_) fun hc9=>Ad (Qp Ap (Qp Au (Ae (Ao (fun hc10=>A7 ?_) fun hc10=>Ad (Qp Ap (Qp Au (Ae (Ao (fun hc11=>A7 ?_) fun hc11=>Ad (Qp Ap (Qp Au (Ae (Ao (fun hc12=>A7 ?_) fun hc12=>AW.region (Qp Ap (Qp Au (Ae ?_)))))))))))))))))))
  ·
   refine ⟨(),?_,GS.weaken ⟨congrArg AV.bool (by simp [*]),trivial⟩ (.refl _)⟩
   trivial
  ·
   refine ⟨(),?_,GS.weaken ⟨congrArg AV.bool (by simp [*]),trivial⟩ (.refl _)⟩
   trivial
  ·
   refine ⟨(),?_,GS.weaken ⟨congrArg AV.bool (by simp [*]),trivial⟩ (.refl _)⟩
   trivial
  ·
   refine ⟨(),?_,GS.weaken ⟨congrArg AV.bool (by simp [*]),trivial⟩ (.refl _)⟩
   trivial
  refine ⟨(),?_,GS.weaken ⟨congrArg AV.bool (by simp [*]),trivial⟩ (.refl _)⟩
  trivial
 rintro _ _;refine Ao (fun hc13=>Ad (Qp Al (Ra (Qr (Iq _) ?_)))) fun hc13=>Rf (Ad (Qp Al (Rb (Qr (Iq _) ?_))))
 ·
  simp only [N2,Ke,beq_iff_eq,Ov] at *;simp only [Ag,Iv,AV.int.injEq,true_and]
  repeat' split
  all_goals omega
 simp only [N2,Ke,beq_iff_eq,Ov] at *;simp only [Ag,Iv,AV.int.injEq,true_and]
 repeat' split
 all_goals omega
theorem c107 (v:Vl):An Tryz.prog 255 [.agg (cV v)] (.int .i64 (Qh v)):=by
 refine An.body (n:=36) tok Tryz.func255 rfl rfl rfl fun H=>?_
 refine Ad (Qp (Ed J2) (Qp Al (Re (AW.block (Ad (Qp X4 (Qp Bf (Qp Ap ?_))))))));refine Qp A9 (Qg [] Qw Qf6 (Qg [(8,_)] Qw Bf (Qg [(9,_)] Qw Bp (Qg [(10,_)] Qw A9 (Qg [] Qw Qf6 (Qg [(12,_)] Qw Bf (Qg [(13,_)] Qw Do (Qg [(11,_),(14,_)] Qw Cf (Qp Ea ?_)))))))));refine Qp Au (Ae (Ao (fun hc1=>Ad (Qp Al (Ra (Qr (Iq _) ?_)))) fun hc1=>Ad (Qp X4 (Qp Bf (Qp Ap (Qp A9 (Qg [] Qw Qf6 (Qg [(22,_)] Qw Bf (Qg [(23,_)] Qw Bu (Qp Ea (Qp A9 ?_)))))))))))
 ·
  try simp only [Eu,Dq] at *
  simp only [Ag,Qh];rw [if_pos hc1]
 refine Qg [] Qw Qf6 (Qg [(27,_)] Qw Bf (Qg [(28,_)] Qw Bu (Qp Ea (Qp Au (Ae (Ao (fun hc2=>Ad (Qp Al (Ra (Qr (Iq _) ?_)))) fun hc2=>?_))))))
 ·
  try simp only [Eu,Dq] at *
  (simp only [Ag,Qh];rw [iN hc1];rw [if_pos hc2];done)
 refine Ad (Qp Qf7 (Qp C9 (Qp (Bx tok rfl rfl rfl rfl) (Qp Do (Qp Au (Ae (Ao (fun hc3=>Ad (Qp Al (Ra (Qr (Iq _) ?_)))) fun hc3=>Rf (Ad (Qp Al (Rb (Qr (Iq _) ?_)))))))))))
 ·
  try simp only [Eu,Dq] at *
  (simp only [Ag,Qh];rw [iN hc1];rw [iN hc2];rw [if_pos hc3];done)
 try simp only [Eu,Dq] at *
 (simp only [Ag,Qh];rw [iN hc1];rw [iN hc2];rw [iN hc3];done)
theorem c94 (v:Vl):An Tryz.prog 189 [.agg (cV v)] (.int .i64 (C3 v)):=by
 refine An.body (n:=18) tok Tryz.func189 rfl rfl rfl fun H=>?_
 refine Ad (Qp (Ed J2) (Qp Al (Ae (Rd (Qp X4 (Qp Bf (Ae (AW.block ?_))))))));refine Rd (Qp Ap (Qp Au (Ae (Ao (fun hc1=>A7 (Ao (fun hc2=>Ad (Qp Qf7 (Qp C9 (Qp (Cs rfl rfl) (Ae (Ao (fun hc3=>Ad (Qp Al (Ra (Qr (Iq _) ?_)))) fun hc3=>Rf (Ad (Qp (Bo J2) (Qp (Qc rfl (c107 v)) (Qp Al (Rb (Qr (Iq _) ?_)))))))))))) fun hc2=>?_)) fun hc1=>?_))))
 ·
  try simp only [Eu,Dq] at *
  try simp only [Et,Fp] at *
  simp only [Ag,C3, *,B0,↓reduceIte,Q5,Sk,Md,Pw,K5,Dq,Sm,N5,Ce,Fg]
 ·
  try simp only [Eu,Dq] at *
  try simp only [Et,Fp] at *
  simp only [Ag,C3, *,B0,↓reduceIte,Q5,Sk,Md,Pw,K5,Dq,Sm,N5,Ce,Fg]
 ·
  refine Ad (Qp Ap (Qp Au (Ae (Ao (fun hc4=>Ad (Qp Qf6 (Qp Bf (Qp Bu (Ae (Ao (fun hc5=>Ad (Qp Al (Ra (Qr (Iq _) ?_)))) fun hc5=>Rf (Ad (Qp (Bo J2) (Qp (Qc rfl (c107 v)) (Qp Al (Rb (Qr (Iq _) ?_)))))))))))) fun hc4=>Ad (Qp Al (Ra (Qr (Iq _) ?_)))))))
  ·
   try simp only [Eu,Dq] at *
   try simp only [Et,Fp] at *
   simp_all [Ag,C3]
  ·
   try simp only [Eu,Dq] at *
   try simp only [Et,Fp] at *
   simp_all [Ag,C3]
  try simp only [Eu,Dq] at *
  try simp only [Et,Fp] at *
  simp_all [Ag,C3]
 refine AW.region (Qp Ap (Qp Au (Ae (Ao (fun hc6=>Ad (Qp Qf7 (Qp C9 (Qp (Cs rfl rfl) (Ae (Ao (fun hc7=>Ad (Qp Al (Ra (Qr (Iq _) ?_)))) fun hc7=>Rf (Ad (Qp (Bo J2) (Qp (Qc rfl (c107 v)) (Qp Al (Rb (Qr (Iq _) ?_)))))))))))) fun hc6=>?_))))
 ·
  try simp only [Eu,Dq] at *
  try simp only [Et,Fp] at *
  simp only [Ag,C3, *,B0,↓reduceIte,Q5,Sk,Md,Pw,K5,Dq,Sm,N5,Ce,Fg]
 ·
  try simp only [Eu,Dq] at *
  try simp only [Et,Fp] at *
  simp only [Ag,C3, *,B0,↓reduceIte,Q5,Sk,Md,Pw,K5,Dq,Sm,N5,Ce,Fg]
 refine Ad (Qp Ap (Qp Au (Ae (Ao (fun hc8=>Ad (Qp Qf6 (Qp Bf (Qp Bu (Ae (Ao (fun hc9=>Ad (Qp Al (Ra (Qr (Iq _) ?_)))) fun hc9=>Rf (Ad (Qp (Bo J2) (Qp (Qc rfl (c107 v)) (Qp Al (Rb (Qr (Iq _) ?_)))))))))))) fun hc8=>Ad (Qp Al (Ra (Qr (Iq _) ?_)))))))
 ·
  try simp only [Eu,Dq] at *
  try simp only [Et,Fp] at *
  simp only [Ag,C3, *,B0,↓reduceIte,Q5,Sk,Md,Pw,K5,Dq,Sm,N5,Ce,Fg]
 ·
  try simp only [Eu,Dq] at *
  try simp only [Et,Fp] at *
  simp only [Ag,C3, *,B0,↓reduceIte,Q5,Sk,Md,Pw,K5,Dq,Sm,N5,Ce,Fg]
 try simp only [Eu,Dq] at *
 try simp only [Et,Fp] at *
 simp only [Ag,C3, *,B0,↓reduceIte,Q5,Sk,Md,Pw,K5,Dq,Sm,N5,Ce,Fg]
theorem c79 (v:Vl):An Tryz.prog 258 [.agg (cV v)] (.int .i64 (C3 v)):=by
 refine An.body (n:=47) tok Tryz.func258 rfl rfl rfl fun H=>?_
 refine Ad (Qp (Ed J2) (Qp Al (Ae (Rd (Qp X4 (Qp Bf (Qp Bp (Qp A9 ?_))))))));refine Qg [] Qw X4 (Qg [(7,_)] Qw Bf (Qg [(8,_)] Qw Do (Qp Cf (Ae (Ao (fun hc1=>Ad (Qp Al (Rc (Qr (Iq _) ?_)))) fun hc1=>A7 (Rd (Qp X4 (Qp Bf (Qp Ap (Ae (Ao (fun hc2=>?_) fun hc2=>?_)))))))))))
 ·
  rw [←Iy]
  try simp only [Eu,Dq] at *
  simp only [Ag,Jq];rw [if_pos hc1]
 ·
  refine Rd (Qp Qf6 (Qp Bf (Qp Bu (Ae (Ao (fun hc3=>Ad (Qp Al (Rc (Av (Qr (Iq _) ?_))))) fun hc3=>A7 (Rd (Qp Qf7 (Qp C9 (Qp (Bx tok rfl rfl rfl rfl) (Qp Do (Ae (Ao (fun hc4=>Ad (Qp Al (Rc (Av (Qr (Iq _) ?_))))) fun hc4=>A7 (Ad (Qp Al (Rc (Qr (Iq _) ?_))))))))))))))))
  ·
   rw [←Iy]
   try simp only [Eu,Dq] at *
   (simp only [Ag,Jq];rw [iN hc1];rw [if_pos hc2];rw [if_pos hc3];done)
  ·
   rw [←Iy]
   try simp only [Eu,Dq] at *
   (simp only [Ag,Jq];rw [iN hc1];rw [if_pos hc2];rw [iN hc3];rw [if_pos hc4];done)
  rw [←Iy]
  try simp only [Eu,Dq] at *
  (simp only [Ag,Jq];rw [iN hc1];rw [if_pos hc2];rw [iN hc3];rw [iN hc4];done)
 refine A7 (Rd (Qp Qf7 (Qp C9 (Qp (Cs rfl rfl) (Ae (Ao (fun hc5=>Ad (Qp Al (Rc (Qr (Iq _) ?_)))) fun hc5=>A7 (Rd (Qp X4 (Qp Bf (Qp Ap (Qp A9 (Qg [] Qw Qf6 (Qg [(28,_)] Qw Bf (Qg [(29,_)] Qw Bp ?_))))))))))))))
 ·
  rw [←Iy]
  try simp only [Eu,Dq] at *
  (simp only [Ag,Jq];rw [iN hc1];rw [iN hc2];rw [if_pos hc5];done)
 refine Qg [(30,_)] Qw A9 (Qg [] Qw Qf6 (Qg [(32,_)] Qw Bf (Qg [(33,_)] Qw Do (Qg [(31,_),(34,_)] Qw Cf (Qp Ea (Qp A9 (Qg [] Qw Qf6 (Qg [(38,_)] Qw Bf (Qg [(39,_)] Qw Bp ?_)))))))));refine Qp Cf (Qp A9 (Qg [] Qw Qf6 (Qg [(43,_)] Qw Bf (Qg [(44,_)] Qw Do (Qp Cf (Ae (Ao (fun hc6=>Ad (Qp Al (Rc (Qr (Iq _) ?_)))) fun hc6=>A7 (Ad (Qp Al (Rb (Qr (Iq _) ?_)))))))))))
 ·
  rw [←Iy]
  try simp only [Eu,Dq] at *
  (simp only [Ag,Jq];rw [iN hc1];rw [iN hc2];rw [iN hc5];rw [if_pos hc6];done)
 rw [←Iy]
 try simp only [Eu,Dq] at *
 (simp only [Ag,Jq];rw [iN hc1];rw [iN hc2];rw [iN hc5];rw [iN hc6];done)
theorem c101 (k:Int)(v:Vl):An Tryz.prog 259 [.int .i64 k,.agg (cV v)] (.bool (Mp k v)):=by
 refine An.body (n:=20) tok Tryz.func259 rfl rfl rfl fun H=>?_
 refine Ad (Qp (Ed J2) (Qp Au (Bs (Qp X4 (Qp Bf (Qp Ap (Qp A9 (Qg [] Qw Am (Qg [(9,_)] Qw Ap ?_)))))))));refine Qp Cf (Qp A9 (Qg [] Qw Am (Qg [(13,_)] Qw Ap (Qp Cf (Qp A9 (Qg [] Qw Am (Qg [(17,_)] Qw Ap (Qp Cf (Qp Au (Rb (Qr (.bool _) ?_)))))))))))
 try simp only [Eu,Dq] at *
 simp only [Ag,Mp]
theorem c99 (k:Int)(v:Vl):An Tryz.prog 190 [.int .i64 k,.agg (cV v)] (.bool (Oz k v)):=by
 refine An.body (n:=16) tok Tryz.func190 rfl rfl rfl fun H=>?_
 refine Ad (Qp (Ed J2) (Qp Au (Bs (Qp X4 (Qp Bf (Qp Ap (Qp A9 (Qg [] Qw Am (Qg [(9,_)] Qw Ap (Qp Cf (Qp A9 (Qg [] Qw Am (Qg [(13,_)] Qw Ap (Qp Cf (Qp Au (Rb (Qr (.bool _) ?_)))))))))))))))))
 try simp only [Eu,Dq] at *
 simp only [Ag,Oz]
set_option maxHeartbeats 400000
set_option maxRecDepth 20000

theorem c82 (e:Ex):An Tryz.prog 118 [.agg (cE e)] (.int .i64 (Q7 e)):=by
 refine An.body (n:=32) tok Tryz.func118 rfl rfl rfl fun H=>?_
 refine Ad (Qp qR (Qp Al (Ae (Rd (Qp X4 (Qp (Bo J2) (Qp (Qc rfl (c94 e.val)) ?_)))))));refine Qp Al (Bs (Qp Am (Qp Bu (Ae (Ao (fun hc1=>Ad (Qp Am (Qp Al (Rc (Qr (Iq _) ?_))))) fun hc1=>A7 (Rd (Qp bB (Qp Bf (Qp Ap (Qp A9 (Qg [] Qw gT (Qg [(14,_)] Qw Bf (Qg [] Qw X4 (Qg [(16,_)] Qw (Bo J2) (AOL.Aal (y:=.bool _) _ [(15,_),(17,_)] rfl (uB.all ⟨Ent.Aak _ _,Ent.Aak _ _,trivial⟩) (fun hG=>Qc rfl (c99 e.kind e.val)) rfl ?_)))))))))))))))
 ·
  try simp only [Eu,Dq] at *
  simp only [Ag,Q7];rw [if_pos hc1]
 refine Qg [(18,_)] Qw Ew (Qg [(19,_)] Qw A9 (Qg [] Qw gT (Qg [(21,_)] Qw Bf (Qg [(22,_)] Qw Ap (Qg [(23,_)] Qw A9 (Qg [] Qw X4 (Qg [(25,_)] Qw (Bo J2) (Qg [] Qw (Du J2) (AOL.Aal (y:=.bool _) _ [(26,_),(27,_)] rfl (uB.all ⟨Ent.Aak _ _,Ent.Aak _ _,trivial⟩) (fun hG=>F5 tok rfl rfl rfl rfl rfl) rfl ?_)))))))));refine Qg [(24,_),(28,_)] Qw Ea (Qg [(20,_),(29,_)] Qw Cf (Qp Ea (Ae (Ao (fun hc2=>Ad (Qp Al (Rc (Qr (Iq _) ?_)))) fun hc2=>A7 (Ad (Qp Al (Rb (Qr (Iq _) ?_))))))))
 ·
  try simp only [Eu,Dq] at *
  (simp only [Ag,Q7];rw [iN hc1];rw [if_pos hc2];done)
 try simp only [Eu,Dq] at *
 (simp only [Ag,Q7];rw [iN hc1];rw [iN hc2];done)
theorem c47 (e:Ex):An Tryz.prog 68 [.agg (cE e)] (.int .i64 (J5 e)):=by
 refine An.body (n:=114) tok Tryz.func68 rfl rfl rfl fun H=>?_
 refine Ad (Qp qR (Qp Al (Bs (Qp bB (Qp Bf ?_)))));refine Qp (Qc rfl (c81 e.op)) (Qp Lm (Qp Ib (Qp gX (Qp Al (Qp Au (Ae (Rd (Qp A9 (Qp Ew (Ae (Ao (fun hc1=>Ad (Qp Al (Rc (Qr (Iq _) ?_)))) fun hc1=>A7 (Rd (Qp dJ (Qp B7 ?_))))))))))))))
 ·
  try simp only [Eu,Dq] at *
  simp only [Ag,J5,Hd];rw [if_pos hc1]
 refine Qp (Ai (n:=e.args.length) tok rfl rfl rfl (by simp)) ?_;refine Qp Am (Qp Bu (Ae (Ao (fun hc2=>Ad (Qp Al (Rc (Qr (Iq _) ?_)))) fun hc2=>A7 (Ad (Qp bB (Qp Bf (Qp (Qc rfl (e8c52 e.op)) (Qp Lm (Qp gX (Qp gX (Qp Au (Qp Au (Ae (Rd (Qp A9 (Qp A9 ?_))))))))))))))))
 ·
  try simp only [Eu,Dq] at *
  (simp only [Ag,J5,Hd];rw [iN hc1];rw [if_pos hc2];done)
 refine Qg [] Qw uP (Qg [(31,_)] Qw Bf (Qg [(32,_)] Qw Bp (Qg [(33,_)] Qw A9 (Qg [] Qw uP (Qg [(35,_)] Qw Bf (Qg [(36,_)] Qw Gb (Qg [(34,_),(37,_)] Qw Cf (Qp Ea (Qp A9 ?_)))))))));refine Qg [] Qw A9 (Qg [(41,_)] Qw A9 (Qg [] Qw uN (Qg [(43,_)] Qw Bf (Qg [(44,_)] Qw Bp (Qg [(45,_)] Qw A9 (Qg [] Qw uN (Qg [(47,_)] Qw Bf (Qg [(48,_)] Qw Gb (Qg [(46,_),(49,_)] Qw Cf ?_)))))))));refine Qg [(42,_),(50,_)] Qw Ea (Qp Cf (Ae (Ao (fun hc3=>Ad (Qp Al (Rc (Qr (Iq _) ?_)))) fun hc3=>A7 (Ad (Qp bB (Qp Bf (Qp Ap (Qp Au (Ae (Rd (Qp A9 ?_)))))))))))
 ·
  try simp only [Eu,Dq] at *
  (simp only [Ag,J5,Hd];rw [iN hc1];rw [iN hc2];rw [if_pos hc3];done)
 refine Qp A9 (Qg [] Qw gT (Qg [(58,_)] Qw Bf (Qg [(59,_)] Qw Bp (Qg [(60,_)] Qw A9 (Qg [] Qw gT (Qg [(62,_)] Qw Bf (Qg [(63,_)] Qw Do (Qg [(61,_),(64,_)] Qw Cf (Qp Ea ?_)))))))));refine Ae (Ao (fun hc4=>Ad (Qp Al (Rc (Qr (Iq _) ?_)))) fun hc4=>A7 (Ad (Qp A9 (Qp A9 (Qg [] Qw bB (Qg [(69,_)] Qw Bf (Qg [(70,_)] Qw Ap (Qp Cf (Qp Au (Ae ?_))))))))))
 ·
  try simp only [Eu,Dq] at *
  (simp only [Ag,J5,Hd];rw [iN hc1];rw [iN hc2];rw [iN hc3];rw [if_pos hc4];done)
 refine Rd (Qp A9 (Ae (Ao (fun hc5=>?_) fun hc5=>A7 (Rd (Qp A9 (Qp Ew (Qp A9 (Qg [] Qw uP (Qg [(82,_)] Qw Bf (Qg [(83,_)] Qw Bu (Qp Ea ?_)))))))))))
 ·
  refine Ad (Qp Py (Qp (Qc rfl (c82 e)) (Qp Al (Bs (Qp Am (Qp Bu (Ae (Ao (fun hc6=>Ad (Qp Am (Qp Al (Rc (Qr (Iq _) ?_))))) fun hc6=>A7 (Rd (Qp A9 (Qp Ew (Qp A9 (Qg [] Qw uP (Qg [(82,_)] Qw Bf (Qg [(83,_)] Qw Bu (Qp Ea ?_))))))))))))))))
  ·
   try simp only [Eu,Dq] at *
   (simp only [Ag,J5,Hd];rw [iN hc1];rw [iN hc2];rw [iN hc3];rw [iN hc4];rw [if_pos hc5];rw [if_pos hc6];done)
  refine Qp A9 (Qg [] Qw A9 (Qg [(87,_)] Qw Ew (Qg [(88,_)] Qw A9 (Qg [] Qw uN (Qg [(90,_)] Qw Bf (Qg [(91,_)] Qw Bu (Qg [(89,_),(92,_)] Qw Ea (Qp Cf (Qp A9 ?_)))))))));refine Qg [] Qw A9 (Qg [(96,_)] Qw Ew (Qg [(97,_)] Qw A9 (Qg [] Qw gT (Qg [(99,_)] Qw Bf (Qg [(100,_)] Qw Bu (Qg [(98,_),(101,_)] Qw Ea (Qp Cf (Qp A9 (Qg [] Qw A9 ?_)))))))));refine Qg [(105,_)] Qw Ew (Qg [(106,_)] Qw A9 (Qg [] Qw X4 (Qg [(108,_)] Qw (Bo J2) (Qg [] Qw (Du J2) (AOL.Aal (y:=.bool _) _ [(109,_),(110,_)] rfl (uB.all ⟨Ent.Aak _ _,Ent.Aak _ _,trivial⟩) (fun hG=>F5 tok rfl rfl rfl rfl rfl) rfl ?_)))));refine Qg [(107,_),(111,_)] Qw Ea (Qp Cf (Ae (Ao (fun hc7=>Ad (Qp Al (Rc (Qr (Iq _) ?_)))) fun hc7=>A7 (Ad (Qp Al (Rb (Qr (Iq _) ?_)))))))
  ·
   try simp only [Eu,Dq] at *
   (simp only [Ag,J5,Hd];rw [iN hc1];rw [iN hc2];rw [iN hc3];rw [iN hc4];rw [if_pos hc5];rw [iN hc6];rw [if_pos hc7];done)
  try simp only [Eu,Dq] at *
  (simp only [Ag,J5,Hd];rw [iN hc1];rw [iN hc2];rw [iN hc3];rw [iN hc4];rw [if_pos hc5];rw [iN hc6];rw [iN hc7];done)
 refine Qp A9 (Qg [] Qw A9 (Qg [(87,_)] Qw Ew (Qg [(88,_)] Qw A9 (Qg [] Qw uN (Qg [(90,_)] Qw Bf (Qg [(91,_)] Qw Bu (Qg [(89,_),(92,_)] Qw Ea (Qp Cf (Qp A9 ?_)))))))));refine Qg [] Qw A9 (Qg [(96,_)] Qw Ew (Qg [(97,_)] Qw A9 (Qg [] Qw gT (Qg [(99,_)] Qw Bf (Qg [(100,_)] Qw Bu (Qg [(98,_),(101,_)] Qw Ea (Qp Cf (Qp A9 (Qg [] Qw A9 ?_)))))))));refine Qg [(105,_)] Qw Ew (Qg [(106,_)] Qw A9 (Qg [] Qw X4 (Qg [(108,_)] Qw (Bo J2) (Qg [] Qw (Du J2) (AOL.Aal (y:=.bool _) _ [(109,_),(110,_)] rfl (uB.all ⟨Ent.Aak _ _,Ent.Aak _ _,trivial⟩) (fun hG=>F5 tok rfl rfl rfl rfl rfl) rfl ?_)))));refine Qg [(107,_),(111,_)] Qw Ea (Qp Cf (Ae (Ao (fun hc8=>Ad (Qp Al (Rc (Qr (Iq _) ?_)))) fun hc8=>A7 (Ad (Qp Al (Rb (Qr (Iq _) ?_)))))))
 ·
  try simp only [Eu,Dq] at *
  (simp only [Ag,J5,Hd];rw [iN hc1];rw [iN hc2];rw [iN hc3];rw [iN hc4];rw [iN hc5];rw [if_pos hc8];done)
 try simp only [Eu,Dq] at *
 (simp only [Ag,J5,Hd];rw [iN hc1];rw [iN hc2];rw [iN hc3];rw [iN hc4];rw [iN hc5];rw [iN hc8];done)
theorem c83 (e:Ex):An Tryz.prog 197 [.agg (cE e)] (.int .i64 (J5 e)):=by
 refine An.body (n:=131) tok Tryz.func197 rfl rfl rfl fun H=>?_
 refine Ad (Qp qR (Qp Al (Bs (Qp bB (Qp Bf (Qp (Qc rfl (c100 e.op)) (Qp Al (Ae (Rd (Qp Am (Qp Bp (Ae (Ao (fun hc1=>Ad (Qp Al (Rc (Qr (Iq _) ?_)))) fun hc1=>A7 (Rd (Qp dJ (Qp B7 ?_))))))))))))))))
 ·
  rw [←Hu]
  try simp only [Eu,Dq] at *
  simp only [Ag,Kf,Hd];rw [if_pos hc1]
 refine Qp (Ai (n:=e.args.length) tok rfl rfl rfl (by simp)) ?_;refine Qp Am (Qp Bu (Ae (Ao (fun hc2=>Ad (Qp Al (Rc (Qr (Iq _) ?_)))) fun hc2=>A7 (Ad (Qp bB (Qp Bf (Qp (Qc rfl (c84 e.op)) (Qp Lm (Qp gX (Qp gX (Qp Au (Qp Au (Ae (Rd (Qp A9 (Qp A9 ?_))))))))))))))))
 ·
  rw [←Hu]
  try simp only [Eu,Dq] at *
  (simp only [Ag,Kf,Hd];rw [iN hc1];rw [if_pos hc2];done)
 refine Qg [] Qw uP (Qg [(27,_)] Qw Bf (Qg [(28,_)] Qw Bp (Qg [(29,_)] Qw A9 (Qg [] Qw uP (Qg [(31,_)] Qw Bf (Qg [(32,_)] Qw Gb (Qg [(30,_),(33,_)] Qw Cf (Qp Ea (Qp A9 ?_)))))))));refine Qg [] Qw A9 (Qg [(37,_)] Qw A9 (Qg [] Qw uN (Qg [(39,_)] Qw Bf (Qg [(40,_)] Qw Bp (Qg [(41,_)] Qw A9 (Qg [] Qw uN (Qg [(43,_)] Qw Bf (Qg [(44,_)] Qw Gb (Qg [(42,_),(45,_)] Qw Cf ?_)))))))));refine Qg [(38,_),(46,_)] Qw Ea (Qp Cf (Ae (Ao (fun hc3=>Ad (Qp Al (Rc (Qr (Iq _) ?_)))) fun hc3=>A7 (Ad (Qp bB (Qp Bf (Qp Ap (Qp Au (Ae (Rd (Qp A9 ?_)))))))))))
 ·
  rw [←Hu]
  try simp only [Eu,Dq] at *
  (simp only [Ag,Kf,Hd];rw [iN hc1];rw [iN hc2];rw [if_pos hc3];done)
 refine Qp A9 (Qg [] Qw gT (Qg [(54,_)] Qw Bf (Qg [(55,_)] Qw Bp (Qg [(56,_)] Qw A9 (Qg [] Qw gT (Qg [(58,_)] Qw Bf (Qg [(59,_)] Qw Do (Qg [(57,_),(60,_)] Qw Cf (Qp Ea ?_)))))))));refine Ae (Ao (fun hc4=>Ad (Qp Al (Rc (Qr (Iq _) ?_)))) fun hc4=>A7 (Ad (Qp A9 (Qp A9 (Qg [] Qw bB (Qg [(65,_)] Qw Bf (Qg [(66,_)] Qw Ap (Qp Cf (Qp Au (Ae ?_))))))))))
 ·
  rw [←Hu]
  try simp only [Eu,Dq] at *
  (simp only [Ag,Kf,Hd];rw [iN hc1];rw [iN hc2];rw [iN hc3];rw [if_pos hc4];done)
 refine Rd (Qp A9 (Ae (Ao (fun hc5=>Ad (Qp X4 (Qp (Bo J2) ?_))) fun hc5=>A7 (Rd (Qp A9 (Qp A9 (Qg [] Qw gT (Qg [(78,_)] Qw Bf (Qg [] Qw X4 (Qg [(80,_)] Qw (Bo J2) (AOL.Aal (y:=.bool _) _ [(79,_),(81,_)] rfl (uB.all ⟨Ent.Aak _ _,Ent.Aak _ _,trivial⟩) (fun hG=>Qc rfl (c101 e.kind e.val)) rfl ?_)))))))))))
 ·
  refine Qp (Qc rfl (c79 e.val)) (Qp Al (Bs (Qp Am (Qp Bu (Ae (Ao (fun hc6=>Ad (Qp Am (Qp Al (Rc (Qr (Iq _) ?_))))) fun hc6=>A7 (Rd (Qp A9 (Qp A9 (Qg [] Qw gT (Qg [(78,_)] Qw Bf (Qg [] Qw X4 (Qg [(80,_)] Qw (Bo J2) (AOL.Aal (y:=.bool _) _ [(79,_),(81,_)] rfl (uB.all ⟨Ent.Aak _ _,Ent.Aak _ _,trivial⟩) (fun hG=>Qc rfl (c101 e.kind e.val)) rfl ?_))))))))))))))
  ·
   rw [←Hu]
   try simp only [Eu,Dq] at *
   (simp only [Ag,Kf,Hd];rw [iN hc1];rw [iN hc2];rw [iN hc3];rw [iN hc4];rw [if_pos hc5];rw [if_pos hc6];done)
  refine Qg [(82,_)] Qw Ew (Qg [(83,_)] Qw A9 (Qg [] Qw gT (Qg [(85,_)] Qw Bf (Qg [(86,_)] Qw Ap (Qg [(87,_)] Qw A9 (Qg [] Qw X4 (Qg [(89,_)] Qw (Bo J2) (Qg [] Qw (Du J2) (AOL.Aal (y:=.bool _) _ [(90,_),(91,_)] rfl (uB.all ⟨Ent.Aak _ _,Ent.Aak _ _,trivial⟩) (fun hG=>F5 tok rfl rfl rfl rfl rfl) rfl ?_)))))))));refine Qg [(88,_),(92,_)] Qw Ea (Qg [(84,_),(93,_)] Qw Cf (Qp Ea (Ae (Ao (fun hc7=>Ad (Qp Al (Rc (Qr (Iq _) ?_)))) fun hc7=>A7 (Rd (Qp A9 (Qp Ew (Qp A9 (Qg [] Qw uP (Qg [(99,_)] Qw Bf (Qg [(100,_)] Qw Bu (Qp Ea ?_))))))))))))
  ·
   rw [←Hu]
   try simp only [Eu,Dq] at *
   (simp only [Ag,Kf,Hd];rw [iN hc1];rw [iN hc2];rw [iN hc3];rw [iN hc4];rw [if_pos hc5];rw [iN hc6];rw [if_pos hc7];done)
  refine Qp A9 (Qg [] Qw A9 (Qg [(104,_)] Qw Ew (Qg [(105,_)] Qw A9 (Qg [] Qw uN (Qg [(107,_)] Qw Bf (Qg [(108,_)] Qw Bu (Qg [(106,_),(109,_)] Qw Ea (Qp Cf (Qp A9 ?_)))))))));refine Qg [] Qw A9 (Qg [(113,_)] Qw Ew (Qg [(114,_)] Qw A9 (Qg [] Qw gT (Qg [(116,_)] Qw Bf (Qg [(117,_)] Qw Bu (Qg [(115,_),(118,_)] Qw Ea (Qp Cf (Qp A9 (Qg [] Qw A9 ?_)))))))));refine Qg [(122,_)] Qw Ew (Qg [(123,_)] Qw A9 (Qg [] Qw X4 (Qg [(125,_)] Qw (Bo J2) (Qg [] Qw (Du J2) (AOL.Aal (y:=.bool _) _ [(126,_),(127,_)] rfl (uB.all ⟨Ent.Aak _ _,Ent.Aak _ _,trivial⟩) (fun hG=>F5 tok rfl rfl rfl rfl rfl) rfl ?_)))));refine Qg [(124,_),(128,_)] Qw Ea (Qp Cf (Ae (Ao (fun hc8=>Ad (Qp Al (Rc (Qr (Iq _) ?_)))) fun hc8=>A7 (Ad (Qp Al (Rb (Qr (Iq _) ?_)))))))
  ·
   rw [←Hu]
   try simp only [Eu,Dq] at *
   (simp only [Ag,Kf,Hd];rw [iN hc1];rw [iN hc2];rw [iN hc3];rw [iN hc4];rw [if_pos hc5];rw [iN hc6];rw [iN hc7];rw [if_pos hc8];done)
  rw [←Hu]
  try simp only [Eu,Dq] at *
  (simp only [Ag,Kf,Hd];rw [iN hc1];rw [iN hc2];rw [iN hc3];rw [iN hc4];rw [if_pos hc5];rw [iN hc6];rw [iN hc7];rw [iN hc8];done)
 refine Qg [(82,_)] Qw Ew (Qg [(83,_)] Qw A9 (Qg [] Qw gT (Qg [(85,_)] Qw Bf (Qg [(86,_)] Qw Ap (Qg [(87,_)] Qw A9 (Qg [] Qw X4 (Qg [(89,_)] Qw (Bo J2) (Qg [] Qw (Du J2) (AOL.Aal (y:=.bool _) _ [(90,_),(91,_)] rfl (uB.all ⟨Ent.Aak _ _,Ent.Aak _ _,trivial⟩) (fun hG=>F5 tok rfl rfl rfl rfl rfl) rfl ?_)))))))));refine Qg [(88,_),(92,_)] Qw Ea (Qg [(84,_),(93,_)] Qw Cf (Qp Ea (Ae (Ao (fun hc9=>Ad (Qp Al (Rc (Qr (Iq _) ?_)))) fun hc9=>A7 (Rd (Qp A9 (Qp Ew (Qp A9 (Qg [] Qw uP (Qg [(99,_)] Qw Bf (Qg [(100,_)] Qw Bu (Qp Ea ?_))))))))))))
 ·
  rw [←Hu]
  try simp only [Eu,Dq] at *
  (simp only [Ag,Kf,Hd];rw [iN hc1];rw [iN hc2];rw [iN hc3];rw [iN hc4];rw [iN hc5];rw [if_pos hc9];done)
 refine Qp A9 (Qg [] Qw A9 (Qg [(104,_)] Qw Ew (Qg [(105,_)] Qw A9 (Qg [] Qw uN (Qg [(107,_)] Qw Bf (Qg [(108,_)] Qw Bu (Qg [(106,_),(109,_)] Qw Ea (Qp Cf (Qp A9 ?_)))))))));refine Qg [] Qw A9 (Qg [(113,_)] Qw Ew (Qg [(114,_)] Qw A9 (Qg [] Qw gT (Qg [(116,_)] Qw Bf (Qg [(117,_)] Qw Bu (Qg [(115,_),(118,_)] Qw Ea (Qp Cf (Qp A9 (Qg [] Qw A9 ?_)))))))));refine Qg [(122,_)] Qw Ew (Qg [(123,_)] Qw A9 (Qg [] Qw X4 (Qg [(125,_)] Qw (Bo J2) (Qg [] Qw (Du J2) (AOL.Aal (y:=.bool _) _ [(126,_),(127,_)] rfl (uB.all ⟨Ent.Aak _ _,Ent.Aak _ _,trivial⟩) (fun hG=>F5 tok rfl rfl rfl rfl rfl) rfl ?_)))));refine Qg [(124,_),(128,_)] Qw Ea (Qp Cf (Ae (Ao (fun hc10=>Ad (Qp Al (Rc (Qr (Iq _) ?_)))) fun hc10=>A7 (Ad (Qp Al (Rb (Qr (Iq _) ?_)))))))
 ·
  rw [←Hu]
  try simp only [Eu,Dq] at *
  (simp only [Ag,Kf,Hd];rw [iN hc1];rw [iN hc2];rw [iN hc3];rw [iN hc4];rw [iN hc5];rw [iN hc9];rw [if_pos hc10];done)
 rw [←Hu]
 try simp only [Eu,Dq] at *
 (simp only [Ag,Kf,Hd];rw [iN hc1];rw [iN hc2];rw [iN hc3];rw [iN hc4];rw [iN hc5];rw [iN hc9];rw [iN hc10];done)
theorem e8c23 (e:Ex)(hs:Cg e≤1048576):An Tryz.prog 66 [.agg (cE e)] (.tuple [.int .i64 (Cg e),.int .i64 (Fw e)]):=by
 revert hs
 induction e using Ex.ind
 rename_i e ih;intro hs;refine An.body (n:=32) tok Tryz.func66 rfl rfl rfl fun H=>?_
 refine Ad (Qp qR (Qp Al (Qp Al (Bs (Qp Al (Qp Al (Ae (Rd (Qp dJ (Qp B7 ?_))))))))));refine Qp (Ai (n:=e.args.length) tok rfl rfl rfl (by simp)) ?_;refine Qp Am (Ae (AW.block (AW.sllen 11 rfl fun hlen=>?_)));simp only [D9,maxLen] at hlen;refine AW.Aam (fun (p:Nat×Nat×Nat)=>(⟨[(4,.int .i64 (p.2.1:Int)),(5,.int .i64 (p.2.2:Int)),(11,.sl 8 (e.args.map M2)),(12,.int .i64 e.args.length),(13,.int .i64 (p.1:Int))],H,32⟩:St)) (fun p=>p.1≤e.args.length∧Cg e=p.2.1+((e.args.drop p.1).map Cg).sum∧Fw e=max p.2.2 (((e.args.drop p.1).map Fw).foldr max 0)+1∧p.2.2≤1048576) (fun p=>e.args.length-p.1) ((0,1,0)) ?_ Bv ?_
 · exact ⟨Dh _,by simpa using G5 e,by simpa using U9 e,Dh _⟩
 rintro p hR;refine Ad (Qp Bp (Re (Ao (fun hc1=>?_) fun hc1=>?_)))
 ·
  obtain ⟨a,ha⟩:=By hc1;have hlt:=Bj ha;have hm:=B6 ha;have hsa:=Jx hm;have hda:=Kr a;have h1:=kL p.2.1 ha;have h2:=Qi p.2.2 ha;refine A7 (AW.seq (AW.block (Ad ?_)));refine Qp (Aa (c:=Ft) tok rfl rfl rfl rfl rfl rfl (by omega) (Lh ha)) ?_;refine Qp Py (Dt oB fun b7=>?_);refine Bt 0 Ft (_::_) ?_;refine AOL.ghost (GS.freeze (t:=7) 0 rfl rfl) ?_;refine Bs (Qp Py ?_);refine Qp (Qc rfl (ih a hm (by have:=Jx hm;omega))) ?_;refine Qp Lm (Qp Ib (Qp Ib (Qp Al (Qp Al (Ae (AW.region (Qp Am (Qp Am (Qp Dl (Qp Am (Qp Am (Qp (Tu rfl rfl) (Qp Al (Qp Al (Rk (AW.region (Qp Dl (Qp Am (Ae ?_)))))))))))))))))));refine ⟨(p.1+1,p.2.1+Cg a,max p.2.2 (Fw a)),?_,?_,GS.weaken ⟨rfl,congrArg (AV.int .i64) (by simp only;omega),rfl,rfl,rfl,trivial⟩ (.refl _)⟩
  · simp only;exact ⟨hlt,by omega,by omega,by omega⟩
  omega
 have hd:=D8 hc1;refine AW.exit ?_;refine Bk (Ri (Ad (Qp Am (Qp Am ?_))));refine Qp (qO rfl rfl rfl (by have:=Kr e;constructor <;> omega)) ?_;refine Qp Al (Qp Al (Rb (M6 (Iq _) (Iq _) ?_)));rw [hd] at hR;simp only [Di,List.sum_nil,List.foldr_nil] at hR;simp only [Ag,AV.tuple.injEq,List.cons.injEq,AV.int.injEq,true_and,and_true];omega
theorem c48 (L:Nat)(e:Ex)(hs:Cg e≤1048576):An Tryz.prog 121 [.agg (cE e),.int .i64 (L:Int)] (.int .i64 (Gx L e)):=by
 revert hs
 induction e using Ex.ind
 rename_i e ih;intro hs;refine An.body (n:=29) tok Tryz.func121 rfl rfl rfl fun H=>?_
 refine Ad (Qp qR (Qp Al (Bs (Qp Al (Ae (Rd (Qp Al (Ae (AW.block ?_)))))))));refine AW.Aam (fun (p:Nat×Nat)=>(⟨[(1,.int .i64 (L:Int)),(2,.ptr (cE e)),(5,.int .i64 (p.2:Int)),(6,.int .i64 (p.1:Int))],H,29⟩:St)) (fun p=>p.1≤e.args.length∧Gx L e=F6 L (e.args.drop p.1) p.2∧p.2+((e.args.drop p.1).map Cg).sum≤Cg e∧e.args.length≤1048576) (fun p=>e.args.length-p.1) ((0,1)) ?_ Bv ?_
 · exact ⟨Dh _,by simpa using dL L e,by simpa using Nat.le_of_eq (G5 e).symm,Up e hs⟩
 rintro p hR;refine Rd (Qp Am (Qp dJ (Qp B7 ?_)));refine Qp (Ai (n:=e.args.length) tok rfl rfl rfl (by simp)) ?_;refine Qp Bp (Qp A9 (Qg [] Qw Am (Qg [] Qw Am (AOL.Aal (y:=.bool _) _ [(13,_),(14,_)] rfl (uB.all ⟨Ent.Aak _ _,Ent.Aak _ _,trivial⟩) (fun hG=>jT rfl rfl) rfl ?_))));refine Qp Ea (Ae (Ao (fun hc1=>?_) fun hc1=>AW.exit ?_))
 ·
  simp only [G2] at hc1;obtain ⟨a,ha⟩:=By hc1.1;have hlt:=Bj ha;have hm:=B6 ha;have hsa:=Jx hm;have hle:p.2≤L:=by simpa using hc1.2
  have h1:=kL p.2 ha;have h2:=Zc L a;have h3:=hR.2.1;rw [Ax ha,F6,if_pos hle] at h3;refine A7 (AW.seq (AW.block (AW.region (Qp Am (Qp dJ (Qp B7 (Qp Am ?_)))))));refine Qp (Aa (c:=Ft) tok rfl rfl rfl rfl rfl rfl (by omega) (Lh ha)) ?_;refine Qp Py (Qp Am ?_);refine Qp (Qc rfl (ih a hm (by have:=Jx hm;omega))) ?_;refine Qp Dl (Qp Al (Rk (AW.region (Qp Am (Qp Dl (Qp Al (Ae ?_)))))));refine ⟨(p.1+1,p.2+Gx L a),?_,?_,Bv⟩
  · simp only;exact ⟨hlt,h3,by omega,hR.2.2.2⟩
  omega
 refine Bk (Ri (Ad (Qp Am (Qp Al (Rb ?_)))));refine Qr (Iq _) ?_;simp only [Ag,AV.int.injEq,true_and];rw [hR.2.1];simp only [Bool.and_eq_false_iff] at hc1;rcases hc1 with hc1 | hc1
 · rw [D8 hc1,F6]
 rw [fP (by simpa using hc1)]
theorem c49 (e:Ex)(hs:Cg e≤1048576):An Tryz.prog 122 [.agg (cE e)] (.int .i64 (Fw e)):=by
 revert hs
 induction e using Ex.ind
 rename_i e ih;intro hs;refine An.body (n:=22) tok Tryz.func122 rfl rfl rfl fun H=>?_
 refine Ad (Qp qR (Qp Al (Bs (Qp Al (Ae (Rd (Qp Al (Ae (AW.block ?_)))))))));refine AW.Aam (fun (p:Nat×Nat)=>(⟨[(1,.ptr (cE e)),(3,.int .i64 (p.2:Int)),(4,.int .i64 (p.1:Int))],H,22⟩:St)) (fun p=>p.1≤e.args.length∧Fw e=max p.2 (((e.args.drop p.1).map Fw).foldr max 0)+1∧p.2≤1048576∧e.args.length≤1048576) (fun p=>e.args.length-p.1) ((0,0)) ?_ Bv ?_
 · exact ⟨Dh _,by simpa using U9 e,Dh _,Up e hs⟩
 rintro p hR;refine Rd (Qp Am (Qp dJ (Qp B7 ?_)));refine Qp (Ai (n:=e.args.length) tok rfl rfl rfl (by simp)) ?_;refine Qp Bp (Ae (Ao (fun hc1=>?_) fun hc1=>?_))
 ·
  obtain ⟨a,ha⟩:=By hc1;have hlt:=Bj ha;have hm:=B6 ha;have hsa:=Jx hm;have hda:=Kr a;have h2:=Qi p.2 ha;refine A7 (AW.seq (AW.block (AW.region (Qp Am (Qp dJ (Qp B7 (Qp Am ?_)))))));refine Qp (Aa (c:=Ft) tok rfl rfl rfl rfl rfl rfl (by omega) (Lh ha)) ?_;refine Qp Py ?_;refine Qp (Qc rfl (ih a hm (by have:=Jx hm;omega))) ?_;refine Qp (Tu rfl rfl) (Qp Al (Rk (AW.region (Qp Am (Qp Dl (Qp Al (Ae ?_)))))));refine ⟨(p.1+1,max p.2 (Fw a)),?_,?_,GS.weaken ⟨rfl,congrArg (AV.int .i64) (by simp only;omega),rfl,trivial⟩ (.refl _)⟩
  · simp only;exact ⟨hlt,by omega,by omega,hR.2.2.2⟩
  omega
 have hd:=D8 hc1;refine AW.exit ?_;refine Bk (Ri (Ad (Qp Am ?_)));refine Qp (qO rfl rfl rfl (by have:=Kr e;constructor <;> omega)) ?_;refine Qp Al (Rb (Qr (Iq _) ?_));rw [hd] at hR;simp only [Di,List.foldr_nil] at hR;simp only [Ag,AV.int.injEq,true_and];omega
theorem c50 (e:Ex)(hs:Cg e≤1048576):An Tryz.prog 138 [.agg (cE e)] (.int .i64 (Oa e)):=by
 revert hs
 induction e using Ex.ind
 rename_i e ih;intro hs;refine An.body (n:=27) tok Tryz.func138 rfl rfl rfl fun H=>?_
 refine Ad (Qp qR (Qp Al (Ae (Rd (Qp Py (Qp (Qc rfl (c83 e)) (Qp Al (Bs (Qp Am (Qp Bu (Ae (Ao (fun hc1=>Ad (Qp Am (Qp Al (Rc (Qr (Iq _) ?_))))) fun hc1=>?_))))))))))))
 ·
  simp only [Ag,AV.int.injEq,true_and];rw [cG,if_pos hc1]
 have hn:Oa e=B3 Oa e.args:=by rw [cG,if_neg (by simpa using hc1)]
 refine A7 (Rd (Qp Al (Ae (AW.block ?_))));have hlen:=Up e hs;refine AW.Aam (fun (p:Nat)=>(⟨[(1,.ptr (cE e)),(4,.int .i64 (p:Int))],H,27⟩:St)) (fun p=>p≤e.args.length∧Oa e=B3 Oa (e.args.drop p)) (fun p=>e.args.length-p) (0) ?_ Bv ?_
 · exact ⟨Dh _,by simpa using hn⟩
 rintro p hR;refine Rd (Qp Am (Qp dJ (Qp B7 ?_)));refine Qp (Ai (n:=e.args.length) tok rfl rfl rfl (by simp)) ?_;refine Qp Bp (Ae (Ao (fun hc2=>?_) fun hc2=>?_))
 ·
  obtain ⟨a,ha⟩:=By hc2;have hlt:=Bj ha;have hm:=B6 ha;refine A7 (AW.seq (AW.block (Ad (Qp dJ (Qp B7 (Qp Am ?_))))));refine Qp (Aa (c:=Ft) tok rfl rfl rfl rfl rfl rfl (by omega) (Lh ha)) ?_;refine Qp Py ?_;refine Qp (Qc rfl (ih a hm (by have:=Jx hm;omega))) ?_;refine Qp Al (Bs (Qp Am (Qp Bu (Ae (Ao (fun hc3=>Ad (Qp Am (Qp Al (Ra (Av (B9 (Av (Qr (Iq _) ?_)))))))) fun hc3=>Rf (AW.region (Qp Am (Qp Dl (Qp Al (Ae ?_))))))))))
  ·
   simp only [Ag,AV.int.injEq,true_and];rw [hR.2,Ax ha,B3,if_pos hc3]
  refine ⟨p+1,?_,?_,Bv⟩
  · exact ⟨hlt,by rw [hR.2,Ax ha,B3,if_neg (by simpa using hc3)]⟩
  omega
 have hd:=D8 hc2;refine AW.exit ?_;refine Bk (Ri (Ad (Qp Al (Rb ?_))));refine Qr (Iq _) ?_;simp only [Ag,AV.int.injEq,true_and];rw [hR.2,hd];rfl
theorem e8c46 (f:Nat)(hfn:Tm Tryz.prog f=true)(cap:List AV)(fs:Ex→Int)(Pr:Ex→Prop)(hp:∀a,Pr a→∀b∈a.args,Pr b)(hf:∀a,Pr a→An Tryz.prog f (.agg (cE a)::cap) (.int .i64 (fs a)))(e:Ex)(he:Pr e):An Tryz.prog 67 [.agg (cE e),.fn (.func f) [] cap] (.int .i64 (Iw fs e)):=by
 revert he
 induction e using Ex.ind
 rename_i e ih;intro he;refine An.body (n:=29) tok Tryz.func67 rfl rfl rfl fun H=>?_
 refine Ad (Qp qR (Qp Al (Ae (Rd (Qp (A0 (v:=.fn _ _ _) rfl) (Qp Py (Qp (Om hfn rfl rfl rfl (hf e he)) (Qp Al (Bs (Qp Am (Qp Bu (Ae (Ao (fun hc1=>Ad (Qp Am (Qp Al (Rc (Qr (Iq _) ?_))))) fun hc1=>?_)))))))))))))
 ·
  simp only [Ag,AV.int.injEq,true_and];rw [Vo,if_pos hc1]
 have hn:Iw fs e=B3 (Iw fs) e.args:=by rw [Vo,if_neg (by simpa using hc1)]
 refine A7 (Rd (Qp dJ (Qp B7 ?_)));refine Qp (Ai (n:=e.args.length) tok rfl rfl rfl (by simp)) ?_;refine Qp Am (Ae (AW.block (AW.sllen 16 rfl fun hlen=>?_)));simp only [D9,maxLen] at hlen;refine AW.Aam (fun (p:Nat)=>(⟨[(1,.fn (.func f) [] cap),(16,.sl 8 (e.args.map M2)),(17,.int .i64 e.args.length),(18,.int .i64 (p:Int))],H,29⟩:St)) (fun p=>p≤e.args.length∧Iw fs e=B3 (Iw fs) (e.args.drop p)) (fun p=>e.args.length-p) (0) ?_ Bv ?_
 · exact ⟨Dh _,by simpa using hn⟩
 rintro p hR;refine Ad (Qp Bp (Re (Ao (fun hc2=>?_) fun hc2=>?_)))
 ·
  obtain ⟨a,ha⟩:=By hc2;have hlt:=Bj ha;have hm:=B6 ha;refine A7 (AW.seq (AW.block (Ad ?_)));refine Qp (Aa (c:=Ft) tok rfl rfl rfl rfl rfl rfl (by omega) (Lh ha)) ?_;refine Qp Py (Dt oB fun b7=>?_);refine Bt 0 Ft (_::_) ?_;refine AOL.ghost (GS.freeze (t:=7) 0 rfl rfl) ?_;refine Bs (Qp Py (Qp (A0 (v:=.fn _ _ _) rfl) (Qp (Qc rfl (ih a hm (hp e he a hm))) (Qp Al (Bs (Qp Am (Qp Bu (Ae (Ao (fun hc3=>Ad (Qp Am (Qp Al (Ra (Av (B9 (Av (Qr (Iq _) ?_)))))))) fun hc3=>Rf (AW.region (Qp Dl (Qp Am (Ae ?_)))))))))))))
  ·
   simp only [Ag,AV.int.injEq,true_and];rw [hR.2,Ax ha,B3,if_pos hc3]
  refine ⟨p+1,?_,?_,Bv⟩
  · exact ⟨hlt,by rw [hR.2,Ax ha,B3,if_neg (by simpa using hc3)]⟩
  omega
 have hd:=D8 hc2;refine AW.exit ?_;refine Bk (Ri (Ad (Qp Al (Rb ?_))));refine Qr (Iq _) ?_;simp only [Ag,AV.int.injEq,true_and];rw [hR.2,hd];rfl
theorem e8c21 (e:Ex)(hs:Cg e≤1048576):An Tryz.prog 26 [.agg (cE e)] (.int .i64 (De e)):=by
 refine An.body (n:=18) tok Tryz.func26 rfl rfl rfl fun H=>?_
 refine Ad (Qp qR (Qp Al (Bs (Qp Py (Qp (Qc rfl (e8c23 e hs)) (Qp Lm (Qp Ib (Qp Ib (Qp Al (Qp Al (Re (AW.block (Ad (Qp Am ?_))))))))))))));refine Qp Do (Qp Au (Ae (Ao (fun hc1=>Ad (Qp Al (Ra (Qr (Iq _) ?_)))) fun hc1=>Ad (Qp Am (Qp Do (Qp Au (Ae (Ao (fun hc2=>Ad (Qp Al (Ra (Qr (Iq _) ?_)))) fun hc2=>Rf (Ad (Qp Py ?_))))))))))
 ·
  try simp only [Eu,Dq] at *
  simp only [Ag,De];rw [if_pos hc1]
 ·
  try simp only [Eu,Dq] at *
  (simp only [Ag,De];rw [iN hc1];rw [if_pos hc2];done)
 refine Qp (Qc rfl (e8c46 68 (by kernel_rfl) [] J5 (fun _=>True) (fun _ _ _ _=>trivial) (fun a _=>c47 a) e trivial)) ?_;refine Qp Al (Rb (Qr (Iq _) ?_))
 try simp only [Eu,Dq] at *
 (simp only [Ag,De];rw [iN hc1];rw [iN hc2];done)
theorem e8c25 (e:Ex)(hs:Cg e≤1048576):An Tryz.prog 78 [.agg (cE e)] (.int .i64 (De e)):=by
 refine An.body (n:=11) tok Tryz.func78 rfl rfl rfl fun H=>?_
 refine Ad (Qp qR (Qp Al (Ae (Rd (Qp Py (Qp (Qc rfl (c48 64 e hs)) (Qp Do (Ae (Ao (fun hc1=>?_) fun hc1=>?_)))))))))
 ·
  have hct:decide (64<(Cg e:Int))=true:=by have:=kQ 64 e;simp at hc1 ⊢;omega
  refine Ad (Qp Al (Rc (Qr (Iq _) ?_)))
  try simp only [Eu,Dq] at *
  try simp only [Et,Fp] at *
  simp only [Ag,De, *,B0,↓reduceIte,Q5,Sk,Md,Pw,K5,Dq,Sm,N5,Ce,Fg]
 have hct:decide (64<(Cg e:Int))=false:=by have:=kQ 64 e;simp at hc1 ⊢;omega
 refine A7 (Rd (Qp Py (Qp (Qc rfl (c49 e hs)) (Qp Do (Ae (Ao (fun hc2=>Ad (Qp Al (Rc (Qr (Iq _) ?_)))) fun hc2=>A7 (Ad (Qp Py (Qp (Qc rfl (c50 e hs)) (Qp Al (Rb (Qr (Iq _) ?_))))))))))))
 ·
  try simp only [Eu,Dq] at *
  try simp only [Et,Fp] at *
  simp only [Ag,De, *,B0,↓reduceIte,Q5,Sk,Md,Pw,K5,Dq,Sm,N5,Ce,Fg]
 try simp only [Eu,Dq] at *
 try simp only [Et,Fp] at *
 simp only [Ag,De, *,B0,↓reduceIte,Q5,Sk,Md,Pw,K5,Dq,Sm,N5,Ce,Fg]
set_option maxHeartbeats 400000
set_option maxRecDepth 20000

theorem pC {s:List UInt8}(h:s.length≠0):s[(0:Int).toNat]? = some (s.headD 0):=by
 cases s with
 | nil=>exact absurd rfl h
 | cons a r=>rfl
theorem dX {s:List UInt8}{x:Bool}(h:Me [((((s.length:Nat):Int)==0||x),false)]):s.length≠0:=by
 have h1:=h _ (N6.2 rfl);intro h0;simp [h0] at h1
theorem Uu {s:List UInt8}{k:Nat}{c:UInt8}(h:s[k]? = some c):s[((k:Nat):Int).toNat]? = some c:=h
theorem Se {s:List UInt8}(h:s.length=0∨24<s.length∨Ve ((s.headD 0).toNat)=true):Hf s=false:=by
 unfold Hf;rcases h with h | h | h
 ·
  have e:(s.length==0)=true:=by simp [h]
  rw [e];rfl
 ·
  have e:decide (s.length≤24)=false:=by simp;omega
  rw [e,N5,Sm,Sm]
 rw [h,Ce,N5,Sm]
theorem iH {s:List UInt8}(h:s.length≠0∧s.length≤24∧Ve ((s.headD 0).toNat)=false)(ha:s.all eV=true):Hf s=true:=by
 unfold Hf;have e1:(s.length==0)=false:=by rw [Ov];exact h.1
 have e2:decide (s.length≤24)=true:=by simp;exact h.2.1
 rw [e1,e2,h.2.2,ha];rfl
theorem nJ {s:List UInt8}(h:Vp ((s.headD 0).toNat)=false):Hf s=false:=by
  cases s with
  | nil=>rfl
  | cons a r=>
    have h1:Vp a.toNat=false:=h;cases hd:Ve a.toNat with
    | true=>exact Se (.inr (.inr hd))
    | false=>
      unfold Hf;have:(a::r).all eV=false:=by rw [List.all_cons];unfold eV;rw [h1,hd];rfl
      rw [this,N5]
theorem kD {s:List UInt8}{c:UInt8}(hm:c∈s)(h:eV c=false):s.all eV=false:=by
 rw [zz45];intro ha;rw [bS.1 ha c hm] at h;cases h
theorem T8 {s:List UInt8}{k:Nat}{c:UInt8}(hc:s[k]? = some c)(h:(s.take k).all eV=true)(hx:eV c=true):(s.take (k+1)).all eV=true:=by
 rw [C2 hc,List.all_append,h];simp [hx]
theorem let_dig {b:UInt8}(h:Vp b.toNat=true):Ve b.toNat=false:=by
 simp [Vp,Ve] at h ⊢;omega
theorem nR {l:List Fi}{k:Nat}{a:Fi}(h:l[k]? = some a):(l.take (k+1)).map (·.name)=(l.take k).map (·.name) ++ [a.name]:=by rw [C2 h];simp
theorem lL {l:List e8Sc}{k:Nat}{a:e8Sc}(h:l[k]? = some a):(l.take (k+1)).map (·.name)=(l.take k).map (·.name) ++ [a.name]:=by rw [C2 h];simp

theorem c111 (n:Int):An Tryz.prog 231 [.int .u8 n] (.bool (Ve n)):=by
 refine An.body (n:=9) tok Tryz.func231 rfl rfl rfl fun H=>?_
 refine Ad (Qp Au (Bs (Qp (A0 (v:=.int .u8 _) rfl) (Qp Gb (Qp A9 (AOL.Aal (y:=.int .u8 _) _ [] rfl (uB.all trivial) (fun hG=>A0 (v:=.int .u8 _) rfl) rfl ?_))))));refine Qg [(6,_)] Qw Ox (Qp Ea (Qp Au (Rb (Qr (.bool _) ?_))));rfl
theorem c112 (n:Int):An Tryz.prog 232 [.int .u8 n] (.bool (Vp n)):=by
 refine An.body (n:=21) tok Tryz.func232 rfl rfl rfl fun H=>?_
 refine Ad (Qp Au (Bs (Qp (A0 (v:=.int .u8 _) rfl) (Qp Ap (Qp A9 (AOL.Aal (y:=.int .u8 _) _ [] rfl (uB.all trivial) (fun hG=>A0 (v:=.int .u8 _) rfl) rfl ?_))))));refine Qg [(6,_)] Qw Gb (Qg [(7,_)] Qw A9 (AOL.Aal (y:=.int .u8 _) _ [] rfl (uB.all trivial) (fun hG=>A0 (v:=.int .u8 _) rfl) rfl ?_));refine Qg [(9,_)] Qw Ox (Qg [(8,_),(10,_)] Qw Ea (Qp Cf (Qp A9 (AOL.Aal (y:=.int .u8 _) _ [] rfl (uB.all trivial) (fun hG=>A0 (v:=.int .u8 _) rfl) rfl ?_))));refine Qg [(14,_)] Qw Gb (Qg [(15,_)] Qw A9 (AOL.Aal (y:=.int .u8 _) _ [] rfl (uB.all trivial) (fun hG=>A0 (v:=.int .u8 _) rfl) rfl ?_));refine Qg [(17,_)] Qw Ox (Qg [(16,_),(18,_)] Qw Ea (Qp Cf (Qp Au (Rb (Qr (.bool _) ?_)))));rfl
theorem c113 (n:Int):An Tryz.prog 235 [.int .u8 n] (.bool (Vp n)):=by
 refine An.body (n:=21) tok Tryz.func235 rfl rfl rfl fun H=>?_
 refine Ad (Qp Au (Bs (Qp (A0 (v:=.int .u8 _) rfl) (Qp Gb (Qp A9 (AOL.Aal (y:=.int .u8 _) _ [] rfl (uB.all trivial) (fun hG=>A0 (v:=.int .u8 _) rfl) rfl ?_))))));refine Qg [(6,_)] Qw Ox (Qp Ea (Qp A9 (AOL.Aal (y:=.int .u8 _) _ [] rfl (uB.all trivial) (fun hG=>A0 (v:=.int .u8 _) rfl) rfl ?_)));refine Qg [(10,_)] Qw Gb (Qg [(11,_)] Qw A9 (AOL.Aal (y:=.int .u8 _) _ [] rfl (uB.all trivial) (fun hG=>A0 (v:=.int .u8 _) rfl) rfl ?_));refine Qg [(13,_)] Qw Ox (Qg [(12,_),(14,_)] Qw Ea (Qp Cf (Qp A9 (AOL.Aal (y:=.int .u8 _) _ [] rfl (uB.all trivial) (fun hG=>A0 (v:=.int .u8 _) rfl) rfl ?_))));refine Qg [(18,_)] Qw Ap (Qp Cf (Qp Au (Rb (Qr (.bool _) ?_))));simp only [Ag,Vp,AV.bool.injEq];cases h1:(n==95) <;> simp
theorem c102 (s:List UInt8)(hs:s.length≤1048576):An Tryz.prog 165 [.str s] (.bool (Hf s)):=by
 refine An.body (n:=35) tok Tryz.func165 rfl rfl rfl fun H=>?_
 refine Ad (Qp Au (Ae (Rd (Qp D2 (Qp (Bx (n:=s.length) tok rfl rfl rfl (rfl)) (Qp Ap (Qp A9 (Qg [] Qw D2 (AOL.Aal (y:=Iq _) _ [(8,_)] rfl (uB.all ⟨Ent.Aak _ _,trivial⟩) (fun hG=>Bx (n:=s.length) tok rfl rfl rfl (rfl)) rfl ?_)))))))));refine Qg [(9,_)] Qw Do (Qp Cf (Qp A9 (Qg [] Qw D2 ?_)));refine AOL.Aal (y:=.int .u8 _) _ [(13,_)] rfl (uB.all ⟨Ent.Aak _ _,trivial⟩) (fun hG=>Bq tok rfl rfl rfl rfl (by decide) (pC (dX hG))) rfl ?_;refine Qg [(14,_)] Qw (Qc rfl (c111 _)) (Qp Cf (Ae (Ao (fun hc1=>Ad (Qp Au (Rc (Qr (.bool _) ?_)))) fun hc1=>?_)))
 ·
  simp only [Ag,AV.bool.injEq];simp only [N2,Hi,beq_iff_eq] at hc1;rcases hc1 with (h1 | h1) | h1
  · exact (Se (.inl (by omega))).symm
  · exact (Se (.inr (.inl (by omega)))).symm
  exact (Se (.inr (.inr h1))).symm
 have hn1:s.length≠0∧s.length≤24∧Ve ((s.headD 0).toNat)=false:=by
    simp only [Ke,U8,Ov] at hc1;exact ⟨by omega,by omega,hc1.2⟩
 refine A7 (Rd (Qp D2 (Qp (Bx (n:=s.length) tok rfl rfl rfl (rfl)) (Qp Am (Ae (AW.block ?_))))));refine AW.Aam (fun (p:Nat)=>(⟨[(0,.str s),(18,.int .i64 s.length),(19,.int .i64 (p:Int))],H,35⟩:St)) (fun p=>p≤s.length∧(s.take p).all eV=true) (fun p=>s.length-p) (0) ?_ Bv ?_
 · exact ⟨Dh _,by simp⟩
 rintro p hR;refine Ad (Qp Bp (Re (Ao (fun hc2=>?_) fun hc2=>?_)))
 ·
  obtain ⟨c,hc⟩:=By hc2;have hlt:=Bj hc;have hm:=B6 hc;refine A7 (AW.seq (AW.block (Ad (Qp Am (Qp Al (Bs (Qp D2 (Qp Am ?_))))))));refine Qp (Bq tok rfl rfl rfl rfl (by omega) (Uu hc)) ?_;refine Qp (Qc rfl (c112 _)) (Qp Ew (Qp A9 (Qg [] Qw D2 (Qg [] Qw Am ?_))));refine AOL.Aal (y:=.int .u8 _) _ [(28,_),(29,_)] rfl (uB.all ⟨Ent.Aak _ _,Ent.Aak _ _,trivial⟩) (fun hG=>Bq tok rfl rfl rfl rfl (by omega) (Uu hc)) rfl ?_;refine Qg [(30,_)] Qw (Qc rfl (c111 _)) (Qg [(31,_)] Qw Ew (Qp Ea (Ae (Ao (fun hc3=>?_) fun hc3=>?_))))
  ·
   have hch:eV c=false:=by
    unfold eV;cases hl:Vp c.toNat <;> cases hd:Ve c.toNat <;> simp_all
   refine Ad (Qp Au (Ra (Av (B9 (Av (Qr (.bool _) ?_))))));simp only [Ag,AV.bool.injEq]
   symm
   unfold Hf;rw [kD hm hch,N5]
  have hch:eV c=true:=by
   unfold eV;cases hl:Vp c.toNat <;> cases hd:Ve c.toNat <;> simp_all
  refine Rf (AW.region (Qp Dl (Qp Am (Ae ?_))));refine ⟨p+1,?_,?_,Bv⟩
  · exact ⟨hlt,T8 hc hR.2 hch⟩
  omega
 have hte:=Cn hc2;refine AW.exit ?_;refine Bk (Ri (Ad (Qp Au (Rb ?_))));refine Qr (.bool _) ?_;simp only [Ag,AV.bool.injEq];exact (iH hn1 (by rw [←hte];exact hR.2)).symm
theorem c104 (s:List UInt8)(hs:s.length≤1048576):An Tryz.prog 175 [.str s] (.bool (Hf s)):=by
 refine An.body (n:=41) tok Tryz.func175 rfl rfl rfl fun H=>?_
 refine Ad (Qp Au (Ae (Rd (Qp D2 (Qp (Bx (n:=s.length) tok rfl rfl rfl (rfl)) (Qp Ap (Qp A9 (Qg [] Qw D2 (AOL.Aal (y:=Iq _) _ [(8,_)] rfl (uB.all ⟨Ent.Aak _ _,trivial⟩) (fun hG=>Bx (n:=s.length) tok rfl rfl rfl (rfl)) rfl ?_)))))))));refine Qg [(9,_)] Qw Do (Qp Cf (Qp A9 (Qg [] Qw D2 ?_)));refine AOL.Aal (y:=.int .u8 _) _ [(13,_)] rfl (uB.all ⟨Ent.Aak _ _,trivial⟩) (fun hG=>Bq tok rfl rfl rfl rfl (by decide) (pC (dX hG))) rfl ?_;refine Qg [(14,_)] Qw (Qc rfl (c113 _)) (Qg [(15,_)] Qw Ew (Qp Cf (Ae (Ao (fun hc1=>Ad (Qp Au (Rc (Qr (.bool _) ?_)))) fun hc1=>?_))))
 ·
  simp only [Ag,AV.bool.injEq];simp only [N2,Hi,beq_iff_eq,Et] at hc1;rcases hc1 with (h1 | h1) | h1
  · exact (Se (.inl (by omega))).symm
  · exact (Se (.inr (.inl (by omega)))).symm
  exact (nJ h1).symm
 have hn1:s.length≠0∧s.length≤24∧Vp ((s.headD 0).toNat)=true:=by
    simp only [Ke,U8,Ov,Fp] at hc1;exact ⟨by omega,by omega,hc1.2⟩
 refine A7 (Rd (Qp Al (Ae (AW.block ?_))));refine AW.Aam (fun (p:Nat)=>(⟨[(0,.str s),(3,.int .i64 (p:Int))],H,41⟩:St)) (fun p=>p≤s.length∧(s.take p).all eV=true) (fun p=>s.length-p) (0) ?_ Bv ?_
 · exact ⟨Dh _,by simp⟩
 rintro p hR;refine Rd (Qp Am (Qp D2 (Qp (Bx (n:=s.length) tok rfl rfl rfl (rfl)) (Qp Bp (Ae (Ao (fun hc2=>?_) fun hc2=>?_))))))
 ·
  obtain ⟨c,hc⟩:=By hc2;have hlt:=Bj hc;have hm:=B6 hc;refine A7 (AW.seq (AW.block (Ad (Qp D2 (Qp Am ?_)))));refine Qp (Bq tok rfl rfl rfl rfl (by omega) (Uu hc)) ?_;refine Qp (Qc rfl (c113 _)) (Qp Ew (Qp A9 (Qg [] Qw D2 (Qg [] Qw Am ?_))));refine AOL.Aal (y:=.int .u8 _) _ [(30,_),(31,_)] rfl (uB.all ⟨Ent.Aak _ _,Ent.Aak _ _,trivial⟩) (fun hG=>Bq tok rfl rfl rfl rfl (by omega) (Uu hc)) rfl ?_;refine Qg [(32,_)] Qw Bp (Qg [(33,_)] Qw A9 (Qg [] Qw D2 (Qg [] Qw Am ?_)));refine AOL.Aal (y:=.int .u8 _) _ [(35,_),(36,_)] rfl (uB.all ⟨Ent.Aak _ _,Ent.Aak _ _,trivial⟩) (fun hG=>Bq tok rfl rfl rfl rfl (by omega) (Uu hc)) rfl ?_;refine Qg [(37,_)] Qw Do (Qg [(34,_),(38,_)] Qw Cf (Qp Ea (Ae (Ao (fun hc3=>?_) fun hc3=>?_))))
  ·
   have hch:eV c=false:=by
    unfold eV Ve;cases hl:Vp c.toNat <;> simp_all <;> omega
   refine Ad (Qp Au (Ra (Av (B9 (Av (Qr (.bool _) ?_))))));simp only [Ag,AV.bool.injEq]
   symm
   unfold Hf;rw [kD hm hch,N5]
  have hch:eV c=true:=by
   unfold eV Ve;cases hl:Vp c.toNat <;> simp_all <;> omega
  refine Rf (AW.region (Qp Am (Qp Dl (Qp Al (Ae ?_)))));refine ⟨p+1,?_,?_,Bv⟩
  · exact ⟨hlt,T8 hc hR.2 hch⟩
  omega
 have hte:=Cn hc2;refine AW.exit ?_;refine Bk (Ri (Ad (Qp Au (Rb ?_))));refine Qr (.bool _) ?_;simp only [Ag,AV.bool.injEq];exact (iH ⟨hn1.1,hn1.2.1,let_dig hn1.2.2⟩ (by rw [←hte];exact hR.2)).symm
theorem c103 (s:List UInt8)(hs:s.length≤1048576):An Tryz.prog 166 [.str s] (.bool (Rx s)):=by
 refine An.body (n:=9) tok Tryz.func166 rfl rfl rfl fun H=>?_
 refine Ad (Qp Au (Bs (Qp D2 (Qp (Qc rfl (c102 s hs)) (Qp A9 (Qg [] Qw D2 (AOL.Aal (y:=.bool _) _ [(6,_)] rfl (uB.all ⟨Ent.Aak _ _,trivial⟩) (fun hG=>Cs rfl rfl) rfl ?_)))))));refine Qp Ea (Qp Au (Rb (Qr (.bool _) ?_)));rfl

end Go.Proofs.YtckhoadldibflaaGreatDoor
