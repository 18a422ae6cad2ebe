/-
  Several texts in one: W13r, W13s, W13t. No condition.
-/
import Derived.Test.YtckhoadldibflaaGreatDoorK01
import Derived.Test.YtckhoadldibflaaGreatDoorK15
import Derived.Test.YtckhoadldibflaaGreatDoorK19
import Derived.KernelRfl
import Derived.Test.YtckhoadldibflaaGreatDoorK14
set_option linter.unusedVariables false
set_option linter.unusedSimpArgs false
namespace Go.Proofs.YtckhoadldibflaaGreatDoor
open Go Go.Aw
set_option maxHeartbeats 3200000
set_option maxRecDepth 20000

def nmR (s:A1):Bool:=cZ s==0
theorem nmR_eq (s:A1):nmR s=oV s:=by unfold nmR oV;rw [name_eq]
def Jw (k r:Int):Bool:=
 if (r==5) then isPat k else if (r==7) then isExp k else if (r==6) then (k==5) else if (r==8) then (k==13) else if (r==0) then (k==0) else if (r==1) then (k==1) else if (r==2) then (k==2) else if (r==3) then (k==3) else (k==4)
theorem tJ {p:Pl}(h:p.ok)(k:Int):Jw k p.role=p.at k:=by
 cases p with
 | pats=>rfl
 | exps=>rfl
 | only n=>rcases h with rfl | rfl | rfl | rfl | rfl | rfl | rfl <;> rfl
def L6 (t:Syn):Bool:=
 if (t.kind==0)||(t.kind==1) then true
 else if (t.kind==3) then decide (3≤(t.kids.length:Int))
 else if (t.kind==5) then decide ((t.kids.length:Int)≤1)
 else if ((t.kind==6)||(t.kind==7))||(t.kind==8) then decide (2≤(t.kids.length:Int))
 else if ((t.kind==9)||(t.kind==11))||(t.kind==18) then ((t.kids.length:Int)==1)
 else if ((t.kind==10)||(t.kind==12))||(t.kind==17) then ((t.kids.length:Int)==2)
 else if (t.kind==16) then (((t.kids.length:Int)==1)&&(t.num != 1))||(((t.kids.length:Int)==0)&&(t.num==1))
 else ((t.kids.length:Int)==0)
theorem shape_eq (t:Syn):L6 t=En t:=by
 have e:((((t.kids.length:Int)==1)&&(t.num != 1))||(((t.kids.length:Int)==0)&&(t.num==1)))=if (t.num==1) then ((t.kids.length:Int)==0) else ((t.kids.length:Int)==1):=by
  cases h:(t.num==1) <;> simp [bne,h]
 unfold L6 En;rw [e]
def P7 (t:Syn):Bool:=
 if (((t.kind==1)||(t.kind==2))||(t.kind==3))||(t.kind==15) then oV t.text
 else if (t.kind==4) then (t.text == [])||oV t.text
 else if (t.kind==5)||(t.kind==16) then oV t.text&&oV t.name
 else if (t.kind==14) then oV t.text&&((t.name==E6)||oV t.name)
 else true
theorem Ys (k:Int):(k=0∨k=1∨k=2∨k=3∨k=4∨k=5∨k=6∨k=7∨k=8∨k=9∨k=10∨k=11∨k=12∨k=13∨k=14∨k=15∨k=16∨k=17∨k=18)∨(∀n:Int,0≤n→n≤18→(k==n)=false):=by
 by_cases h:0≤k∧k≤18
 · left;omega
 right;intro n h0 h1;simp only [Ov];omega
theorem wA (t:Syn):P7 t=Tc t:=by
 unfold P7 Tc Pb;rcases Ys t.kind with h | h
 · rcases h with h | h | h | h | h | h | h | h | h | h | h | h | h | h | h | h | h | h | h <;> rw [h] <;> cases h1:oV t.text <;> cases h2:oV t.name <;> cases h3:(t.text == []) <;> cases h4:(t.name==E6) <;> rfl
 rw [h 1 (by decide) (by decide),h 2 (by decide) (by decide),h 3 (by decide) (by decide),h 4 (by decide) (by decide),h 5 (by decide) (by decide),h 14 (by decide) (by decide),h 15 (by decide) (by decide),h 16 (by decide) (by decide)];rfl
def H4 (t:Syn):Int:=
 if (t.name==Gz) then if (decide (t.num < -1099511627776)||decide (1099511627776<t.num)) then 2 else if !(t.text == []) then 3 else 0
 else if (t.name==Fy) then if ((t.num != 0)&&(t.num != 1)) then 2 else if !(t.text == []) then 3 else 0
 else if (t.name==Ee) then if decide (64<(t.text.length:Int)) then 13 else if (t.num != 0) then 3 else 0
 else 1
theorem sD (t:Syn):H4 t=Gl t:=by
 have e:((t.num != 0)&&(t.num != 1))=(decide (t.num<0)||decide (1<t.num)):=by
  rw [Bool.eq_iff_iff];simp only [G2,bne_iff_ne,N2,Hi];omega
 unfold H4 Gl;rw [e]
def xB (k:Int):Bool:=(((((((k==1)||(k==2))||(k==3))||(k==4))||(k==5))||(k==14))||(k==15))||(k==16)
def uU (k:Int):Bool:=((k==5)||(k==14))||(k==16)
def Pi (t:Syn)(u:Int):Int:=if ((u != 0)||(!(xB t.kind) && !(t.text == [])))||(!(uU t.kind) && !(t.name == [])) then 3 else 0
def Io (t:Syn):Int:=
 if (t.kind==13) then Gl t
 else if (t.kind==2) then if (decide (t.num<0)||decide (2<t.num)) then 1 else Pi t 0
 else if (t.kind==16) then if (decide (t.num<1)||decide (5<t.num)) then 1 else Pi t 0
 else if (t.kind==17) then if (decide (t.num<5)||decide (11<t.num)) then 1 else Pi t 0
 else if (t.kind==11) then if (decide (t.num<0)||decide (1099511627776<t.num)) then 2 else Pi t 0
 else Pi t t.num
theorem uses_eq (k:Int):Pb k=(xB k,uU k):=by
 unfold Pb xB uU;rcases Ys k with h | h
 · rcases h with h | h | h | h | h | h | h | h | h | h | h | h | h | h | h | h | h | h | h <;> rw [h] <;> rfl
 rw [h 1 (by decide) (by decide),h 2 (by decide) (by decide),h 3 (by decide) (by decide),h 4 (by decide) (by decide),h 5 (by decide) (by decide),h 14 (by decide) (by decide),h 15 (by decide) (by decide),h 16 (by decide) (by decide)];rfl
theorem sK (t:Syn):Io t=Dn t:=by
 unfold Io Dn Ny Pi;rw [uses_eq]
 have e:(decide (t.num<0)||decide (0<t.num))=(t.num != 0):=by
  rw [Bool.eq_iff_iff];simp only [bne_iff_ne,N2,Hi];omega
 rw [e];cases h13:(t.kind==13)
 ·
  cases h2:(t.kind==2)
  ·
   cases h16:(t.kind==16)
   ·
    cases h17:(t.kind==17)
    ·
     cases h11:(t.kind==11)
     · cases hn:(t.num != 0) <;> simp
     cases hn:(decide (t.num<0)||decide (1099511627776<t.num)) <;> simp
    cases hn:(decide (t.num<5)||decide (11<t.num)) <;> simp
   cases hn:(decide (t.num<1)||decide (5<t.num)) <;> simp
  cases hn:(decide (t.num<0)||decide (2<t.num)) <;> simp
 simp
def S4 (t:Syn)(i:Nat):Int:=
 if (t.kind==0) then if ((Bb t i).kind==1)&&(((i:Int)==0)||((Bb t (i-1)).kind==1)) then 1 else 3
 else if (t.kind==1) then 2
 else if (t.kind==3) then if decide ((i:Int)<2) then 4+(i:Int) else 7
 else if (t.kind==10) then if ((i:Int)==1) then 6 else 5
 else if (t.kind==12) then if ((i:Int)==1) then 7 else 5
 else if (t.kind==16) then 8
 else if ((t.kind==5)||(t.kind==17))||(t.kind==18) then 7
 else 5
def rQ (p k:Int):Bool:=((k==17)&&((p==17)||(p==18)))||((k==18)&&(p==17))
theorem sJ (p k:Int):rQ p k=Gc p k:=by
 unfold rQ Gc;cases h1:(p==17)
 · cases h2:(p==18) <;> cases (k==17) <;> cases (k==18) <;> rfl
 have h2:(p==18)=false:=by
  have:p=17:=by simpa using h1
  rw [this];rfl
 rw [h2];cases (k==17) <;> cases (k==18) <;> rfl
theorem vQ (t:Syn)(i:Nat):S4 t i=(Eh t i).role:=by
  have e:(if decide ((i:Int)<2) then 4+(i:Int) else 7)=(if ((i:Int)==0) then Pl.only 4 else if ((i:Int)==1) then Pl.pats else Pl.exps).role:=by
    match i with
    | 0=>rfl
    | 1=>rfl
    | n+2=>
      have h1:decide (((n+2:Nat):Int)<2)=false:=by simp;omega
      have h2:(((n+2:Nat):Int)==0)=false:=by simp;omega
      have h3:(((n+2:Nat):Int)==1)=false:=by simp;omega
      rw [h1,h2,h3];rfl
  unfold S4 Eh;rw [e]
  repeat' split
  all_goals rfl
theorem yZ (t:Syn)(i:Nat):(Eh t i).ok:=by
 unfold Eh
 repeat' split
 all_goals simp [Pl.ok]

theorem rH (k:Int):An Tryz.prog 242 [.int .i64 k] (.bool (isPat k)):=by
 refine An.body (n:=9) tok Tryz.func242 rfl rfl rfl fun H=>?_
 refine Ad (Qp Au (Bs (Qp Am (Qp Gb (Qp A9 (Qg [] Qw Am (Qg [(6,_)] Qw Ox (Qp Ea (Qp Au (Rb (Qr (.bool _) ?_)))))))))));rfl
theorem r_isExp (k:Int):An Tryz.prog 291 [.int .i64 k] (.bool (isExp k)):=by
 refine An.body (n:=9) tok Tryz.func291 rfl rfl rfl fun H=>?_
 refine Ad (Qp Au (Bs (Qp Am (Qp Gb (Qp A9 (Qg [] Qw Am (Qg [(6,_)] Qw Ox (Qp Ea (Qp Au (Rb (Qr (.bool _) ?_)))))))))));rfl
theorem xE (k r:Int):An Tryz.prog 236 [.int .i64 k,.int .i64 r] (.bool (Jw k r)):=by
 refine An.body (n:=40) tok Tryz.func236 rfl rfl rfl fun H=>?_
 refine Ad (Qp Au (Ae (Rd (Qp Am (Ae (AW.block (Ad (Qp Ap (Qp Au (Ae (Ao (fun hc1=>Ad (Qp Am (Qp (Qc rfl (rH k)) (Qp Au (Ra (Qr (.bool _) ?_)))))) fun hc1=>?_)))))))))))
 · simp only [Ag,Jw,hc1,↓reduceIte,B0]
 refine Ad (Qp Ap (Qp Au (Ae (Ao (fun hc2=>Ad (Qp Am (Qp (Qc rfl (r_isExp k)) (Qp Au (Ra (Qr (.bool _) ?_)))))) fun hc2=>Ad (Qp Ap (Qp Au (Ae (Ao (fun hc3=>Ad (Qp Am (Qp Ap (Qp Au (Ra (Qr (.bool _) ?_)))))) fun hc3=>?_))))))))
 · simp only [Ag,Jw,hc1,hc2,↓reduceIte,B0]
 · simp only [Ag,Jw,hc1,hc2,hc3,↓reduceIte,B0]
 refine Ad (Qp Ap (Qp Au (Ae (Ao (fun hc4=>Ad (Qp Am (Qp Ap (Qp Au (Ra (Qr (.bool _) ?_)))))) fun hc4=>Ad (Qp Ap (Qp Au (Ae (Ao (fun hc5=>Ad (Qp Am (Qp Ap (Qp Au (Ra (Qr (.bool _) ?_)))))) fun hc5=>?_))))))))
 · simp only [Ag,Jw,hc1,hc2,hc3,hc4,↓reduceIte,B0]
 · simp only [Ag,Jw,hc1,hc2,hc3,hc4,hc5,↓reduceIte,B0]
 refine Ad (Qp Ap (Qp Au (Ae (Ao (fun hc6=>Ad (Qp Am (Qp Ap (Qp Au (Ra (Qr (.bool _) ?_)))))) fun hc6=>Ad (Qp Ap (Qp Au (Ae (Ao (fun hc7=>Ad (Qp Am (Qp Ap (Qp Au (Ra (Qr (.bool _) ?_)))))) fun hc7=>?_))))))))
 · simp only [Ag,Jw,hc1,hc2,hc3,hc4,hc5,hc6,↓reduceIte,B0]
 · simp only [Ag,Jw,hc1,hc2,hc3,hc4,hc5,hc6,hc7,↓reduceIte,B0]
 refine Ad (Qp Ap (Qp Au (Ae (Ao (fun hc8=>Ad (Qp Am (Qp Ap (Qp Au (Ra (Qr (.bool _) ?_)))))) fun hc8=>Rf (Ad (Qp Am (Qp Ap (Qp Au (Rb (Qr (.bool _) ?_))))))))))
 · simp only [Ag,Jw,hc1,hc2,hc3,hc4,hc5,hc6,hc7,hc8,↓reduceIte,B0]
 simp only [Ag,Jw,hc1,hc2,hc3,hc4,hc5,hc6,hc7,hc8,↓reduceIte,B0]
theorem r_shape (t:Syn):An Tryz.prog 237 [.agg (cSyn t)] (.bool (L6 t)):=by
 refine An.body (n:=58) tok Tryz.func237 rfl rfl rfl fun H=>?_
 refine Ad (Qp (Ed Aq) (Qp Au (Bs (Qp (Qf Ef) (Qp B7 ?_)))));refine Qp (Ai (n:=t.kids.length) tok rfl rfl rfl (by simp)) ?_;refine Qp Al (Ae (Rd (Qp (Qf Aq) (Qp Bf (Ae (AW.block ?_))))));refine AW.Aas (fun (_:Unit)=>(⟨[(1,.ptr (cSyn t)),(3,.int .i64 (t.kids.length:Int)),(8,.int .i64 t.kind),(9,.bool (((t.kind==0)||(t.kind==1))))],H,58⟩:St)) (fun _=>True) ?_ ?_
 ·
  refine Ad (Qp Ap (Qp Au (Ae (Ao (fun hc1=>A7 ?_) fun hc1=>AW.region (Qp Ap (Qp Au (Ae ?_)))))))
  ·
   refine ⟨(),?_,GS.weaken ⟨rfl,rfl,rfl,congrArg AV.bool (by simp [*]),trivial⟩ (.refl _)⟩
   trivial
  refine ⟨(),?_,GS.weaken ⟨rfl,rfl,rfl,congrArg AV.bool (by simp [*]),trivial⟩ (.refl _)⟩
  trivial
 rintro _ _;refine Ao (fun hc2=>Ad (Qp Au (Ra (Qr (.bool _) ?_)))) fun hc2=>Ad (Qp Ap (Qp Au (Ae (Ao (fun hc3=>Ad (Qp Am (Qp Gb (Qp Au (Ra (Qr (.bool _) ?_)))))) fun hc3=>Ad (Qp Ap (Qp Au (Ae (Ao (fun hc4=>Ad (Qp Am (Qp Ox (Qp Au (Ra (Qr (.bool _) ?_)))))) fun hc4=>?_))))))))
 · simp only [Ag,L6,hc2,↓reduceIte,B0]
 · simp only [Ag,L6,hc2,hc3,↓reduceIte,B0]
 · simp only [Ag,L6,hc2,hc3,hc4,↓reduceIte,B0]
 refine AW.Aas (fun (_:Unit)=>(⟨[(1,.ptr (cSyn t)),(3,.int .i64 (t.kids.length:Int)),(8,.int .i64 t.kind),(20,.bool ((((t.kind==6)||(t.kind==7))||(t.kind==8))))],H,58⟩:St)) (fun _=>True) ?_ ?_
 ·
  refine Ad (Qp Ap (Qp Au (Ae (Ao (fun hc5=>A7 ?_) fun hc5=>Ad (Qp Ap (Qp Au (Ae (Ao (fun hc6=>A7 ?_) fun hc6=>AW.region (Qp Ap (Qp Au (Ae ?_)))))))))))
  ·
   refine ⟨(),?_,GS.weaken ⟨rfl,rfl,rfl,congrArg AV.bool (by simp [*]),trivial⟩ (.refl _)⟩
   trivial
  ·
   refine ⟨(),?_,GS.weaken ⟨rfl,rfl,rfl,congrArg AV.bool (by simp [*]),trivial⟩ (.refl _)⟩
   trivial
  refine ⟨(),?_,GS.weaken ⟨rfl,rfl,rfl,congrArg AV.bool (by simp [*]),trivial⟩ (.refl _)⟩
  trivial
 rintro _ _;refine Ao (fun hc7=>Ad (Qp Am (Qp Gb (Qp Au (Ra (Qr (.bool _) ?_)))))) fun hc7=>?_
 · simp only [Ag,L6,hc2,hc3,hc4,hc7,↓reduceIte,B0]
 refine AW.Aas (fun (_:Unit)=>(⟨[(1,.ptr (cSyn t)),(3,.int .i64 (t.kids.length:Int)),(8,.int .i64 t.kind),(26,.bool ((((t.kind==9)||(t.kind==11))||(t.kind==18))))],H,58⟩:St)) (fun _=>True) ?_ ?_
 ·
  refine Ad (Qp Ap (Qp Au (Ae (Ao (fun hc8=>A7 ?_) fun hc8=>Ad (Qp Ap (Qp Au (Ae (Ao (fun hc9=>A7 ?_) fun hc9=>AW.region (Qp Ap (Qp Au (Ae ?_)))))))))))
  ·
   refine ⟨(),?_,GS.weaken ⟨rfl,rfl,rfl,congrArg AV.bool (by simp [*]),trivial⟩ (.refl _)⟩
   trivial
  ·
   refine ⟨(),?_,GS.weaken ⟨rfl,rfl,rfl,congrArg AV.bool (by simp [*]),trivial⟩ (.refl _)⟩
   trivial
  refine ⟨(),?_,GS.weaken ⟨rfl,rfl,rfl,congrArg AV.bool (by simp [*]),trivial⟩ (.refl _)⟩
  trivial
 rintro _ _;refine Ao (fun hc10=>Ad (Qp Am (Qp Ap (Qp Au (Ra (Qr (.bool _) ?_)))))) fun hc10=>?_
 · simp only [Ag,L6,hc2,hc3,hc4,hc7,hc10,↓reduceIte,B0]
 refine AW.Aas (fun (_:Unit)=>(⟨[(1,.ptr (cSyn t)),(3,.int .i64 (t.kids.length:Int)),(8,.int .i64 t.kind),(32,.bool ((((t.kind==10)||(t.kind==12))||(t.kind==17))))],H,58⟩:St)) (fun _=>True) ?_ ?_
 ·
  refine Ad (Qp Ap (Qp Au (Ae (Ao (fun hc11=>A7 ?_) fun hc11=>Ad (Qp Ap (Qp Au (Ae (Ao (fun hc12=>A7 ?_) fun hc12=>AW.region (Qp Ap (Qp Au (Ae ?_)))))))))))
  ·
   refine ⟨(),?_,GS.weaken ⟨rfl,rfl,rfl,congrArg AV.bool (by simp [*]),trivial⟩ (.refl _)⟩
   trivial
  ·
   refine ⟨(),?_,GS.weaken ⟨rfl,rfl,rfl,congrArg AV.bool (by simp [*]),trivial⟩ (.refl _)⟩
   trivial
  refine ⟨(),?_,GS.weaken ⟨rfl,rfl,rfl,congrArg AV.bool (by simp [*]),trivial⟩ (.refl _)⟩
  trivial
 rintro _ _;refine Ao (fun hc13=>Ad (Qp Am (Qp Ap (Qp Au (Ra (Qr (.bool _) ?_)))))) fun hc13=>?_
 · simp only [Ag,L6,hc2,hc3,hc4,hc7,hc10,hc13,↓reduceIte,B0]
 refine Ad (Qp Ap (Qp Au (Ae (Ao (fun hc14=>Ad (Qp Am (Qp Ap (Qp A9 (Qg [] Qw (Qf J8) (Qg [(43,_)] Qw Bf (Qg [(44,_)] Qw Bu (Qp Ea (Qp A9 (Qg [] Qw Am ?_)))))))))) fun hc14=>Rf (Ad (Qp Am (Qp Ap (Qp Au (Rb (Qr (.bool _) ?_))))))))))
 ·
  refine Qg [(48,_)] Qw Ap (Qg [(49,_)] Qw A9 (Qg [] Qw (Qf J8) (Qg [(51,_)] Qw Bf (Qg [(52,_)] Qw Ap (Qg [(50,_),(53,_)] Qw Ea (Qp Cf (Qp Au (Rb (B9 (Av (Qr (.bool _) ?_)))))))))));simp only [Ag,L6,hc2,hc3,hc4,hc7,hc10,hc13,hc14,↓reduceIte,B0]
 simp only [Ag,L6,hc2,hc3,hc4,hc7,hc10,hc13,hc14,↓reduceIte,B0]
theorem Wj (s:A1)(hl:s.length≤1048576):An Tryz.prog 292 [.str s] (.bool (oV s)):=by
 refine An.body (n:=6) tok Tryz.func292 rfl rfl rfl fun H=>?_
 refine Ad (Qp Au (Bs (Qp D2 (Qp (Qc rfl (c21 s hl)) (Qp Ap (Qp Au (Rb (Qr (.bool _) ?_))))))));rw [←nmR_eq];rfl
theorem r_names (t:Syn)(ht:t.text.length≤1048576)(hn:t.name.length≤1048576):An Tryz.prog 238 [.agg (cSyn t)] (.bool (P7 t)):=by
 refine An.body (n:=49) tok Tryz.func238 rfl rfl rfl fun H=>?_
 refine Ad (Qp (Ed Aq) (Qp Au (Ae (Rd (Qp (Qf Aq) (Qp Bf (Ae (AW.block ?_))))))));refine AW.Aas (fun (_:Unit)=>(⟨[(1,.ptr (cSyn t)),(4,.int .i64 t.kind),(5,.bool (((((t.kind==1)||(t.kind==2))||(t.kind==3))||(t.kind==15))))],H,49⟩:St)) (fun _=>True) ?_ ?_
 ·
  refine Ad (Qp Ap (Qp Au (Ae (Ao (fun hc1=>A7 ?_) fun hc1=>Ad (Qp Ap (Qp Au (Ae (Ao (fun hc2=>A7 ?_) fun hc2=>Ad (Qp Ap (Qp Au (Ae (Ao (fun hc3=>A7 ?_) fun hc3=>AW.region (Qp Ap (Qp Au (Ae ?_)))))))))))))))
  ·
   refine ⟨(),?_,GS.weaken ⟨rfl,rfl,congrArg AV.bool (by simp [*]),trivial⟩ (.refl _)⟩
   trivial
  ·
   refine ⟨(),?_,GS.weaken ⟨rfl,rfl,congrArg AV.bool (by simp [*]),trivial⟩ (.refl _)⟩
   trivial
  ·
   refine ⟨(),?_,GS.weaken ⟨rfl,rfl,congrArg AV.bool (by simp [*]),trivial⟩ (.refl _)⟩
   trivial
  refine ⟨(),?_,GS.weaken ⟨rfl,rfl,congrArg AV.bool (by simp [*]),trivial⟩ (.refl _)⟩
  trivial
 rintro _ _;refine Ao (fun hc4=>Ad (Qp (Qf Ik) (Qp C9 ?_))) fun hc4=>Ad (Qp Ap (Qp Au (Ae (Ao (fun hc5=>Ad (Qp (Qf Ik) (Qp C9 (Qp (A4 rfl rfl) (Qp A9 (Qg [] Qw (Qf Ik) (Qg [(19,_)] Qw C9 ?_))))))) fun hc5=>?_))))
 ·
  refine Qp (Qc rfl (Wj _ (by assumption))) ?_;refine Qp Au (Ra (Qr (.bool _) ?_));simp only [Ag,P7,hc4,↓reduceIte,B0]
 ·
  refine Qg [(20,_)] Qw (Qc rfl (Wj _ (by assumption))) ?_;refine Qp Cf (Qp Au (Ra (Qr (.bool _) ?_)));simp only [Ag,P7,hc4,hc5,↓reduceIte,B0]
 refine AW.Aas (fun (_:Unit)=>(⟨[(1,.ptr (cSyn t)),(4,.int .i64 t.kind),(23,.bool (((t.kind==5)||(t.kind==16))))],H,49⟩:St)) (fun _=>True) ?_ ?_
 ·
  refine Ad (Qp Ap (Qp Au (Ae (Ao (fun hc6=>A7 ?_) fun hc6=>AW.region (Qp Ap (Qp Au (Ae ?_)))))))
  ·
   refine ⟨(),?_,GS.weaken ⟨rfl,rfl,congrArg AV.bool (by simp [*]),trivial⟩ (.refl _)⟩
   trivial
  refine ⟨(),?_,GS.weaken ⟨rfl,rfl,congrArg AV.bool (by simp [*]),trivial⟩ (.refl _)⟩
  trivial
 rintro _ _;refine Ao (fun hc7=>Ad (Qp (Qf Ik) (Qp C9 ?_))) fun hc7=>Ad (Qp Ap (Qp Au (Ae (Ao (fun hc8=>Ad (Qp (Qf Ik) (Qp C9 ?_))) fun hc8=>Rf (Ad (Qp Au (Rb (Qr (.bool _) ?_))))))))
 ·
  refine Qp (Qc rfl (Wj _ (by assumption))) ?_;refine Qp A9 (Qg [] Qw (Qf Po) (Qg [(30,_)] Qw C9 ?_));refine Qg [(31,_)] Qw (Qc rfl (Wj _ (by assumption))) ?_;refine Qp Ea (Qp Au (Ra (Qr (.bool _) ?_)));simp only [Ag,P7,hc4,hc5,hc7,↓reduceIte,B0]
 ·
  refine Qp (Qc rfl (Wj _ (by assumption))) ?_;refine Qp A9 (Qg [] Qw (Qf Po) (Qg [(40,_)] Qw C9 (AOL.Aal (y:=.bool _) _ [(41,_)] rfl (uB.all ⟨Ent.Aak _ _,trivial⟩) (fun hG=>A4 rfl rfl) rfl ?_)));refine Qg [(42,_)] Qw A9 (Qg [] Qw (Qf Po) (Qg [(44,_)] Qw C9 ?_));refine Qg [(45,_)] Qw (Qc rfl (Wj _ (by assumption))) ?_;refine Qg [(43,_),(46,_)] Qw Cf (Qp Ea (Qp Au (Ra (Qr (.bool _) ?_))));simp only [Ag,P7,hc4,hc5,hc7,hc8,↓reduceIte,B0]
 simp only [Ag,P7,hc4,hc5,hc7,hc8,↓reduceIte,B0]
theorem r_const (t:Syn):An Tryz.prog 293 [.agg (cSyn t)] ((.int .i64 (H4 t))):=by
 refine An.body (n:=40) tok Tryz.func293 rfl rfl rfl fun H=>?_
 refine Ad (Qp (Ed Aq) (Qp Al (Ae (Rd (Qp (Qf Po) (Qp C9 (Ae (AW.block (Ad (Qp (A4 rfl rfl) (Qp Au (Ae (Ao (fun hc1=>Rd (Qp (Qf J8) (Qp Bf (Qp Bp (Qp A9 (Qg [] Qw (Qf J8) (Qg [(11,_)] Qw Bf (Qg [(12,_)] Qw Do (Qp Cf ?_))))))))) fun hc1=>?_)))))))))))))
 ·
  refine Ae (Ao (fun hc2=>Ad (Qp Al (Rc (B9 (Av (Qr (Iq _) ?_)))))) fun hc2=>A7 (Ad (Qp (Qf Ik) (Qp C9 (Qp (Cs rfl rfl) (Ae (Ao (fun hc3=>Ad (Qp Al (Ra (Qr (Iq _) ?_)))) fun hc3=>Rf (Ad (Qp Al (Rb (Qr (Iq _) ?_)))))))))))
  ·
   simp only [Ag,H4];rw [if_pos hc1,if_pos hc2]
  ·
   simp only [Ag,H4];rw [if_pos hc1,Bi hc2,if_pos hc3]
  simp only [Ag,H4];rw [if_pos hc1,Bi hc2,Bi hc3]
 refine Ad (Qp (A4 rfl rfl) (Qp Au (Ae (Ao (fun hc4=>Rd (Qp (Qf J8) (Qp Bf (Qp Bu (Qp A9 (Qg [] Qw (Qf J8) (Qg [(24,_)] Qw Bf (Qg [(25,_)] Qw Bu (Qp Ea ?_))))))))) fun hc4=>Ad (Qp (A4 rfl rfl) ?_)))))
 ·
  refine Ae (Ao (fun hc5=>Ad (Qp Al (Rc (B9 (Av (Qr (Iq _) ?_)))))) fun hc5=>A7 (Ad (Qp (Qf Ik) (Qp C9 (Qp (Cs rfl rfl) (Ae (Ao (fun hc6=>Ad (Qp Al (Ra (Qr (Iq _) ?_)))) fun hc6=>Rf (Ad (Qp Al (Rb (Qr (Iq _) ?_)))))))))))
  ·
   simp only [Ag,H4];rw [Bi hc1,if_pos hc4,if_pos hc5]
  ·
   simp only [Ag,H4];rw [Bi hc1,if_pos hc4,Bi hc5,if_pos hc6]
  simp only [Ag,H4];rw [Bi hc1,if_pos hc4,Bi hc5,Bi hc6]
 refine Qp Au (Ae (Ao (fun hc7=>Rd (Qp (Qf Ik) (Qp C9 (Qp (Bx tok rfl rfl rfl rfl) (Qp Do (Ae (Ao (fun hc8=>Ad (Qp Al (Rc (B9 (Av (Qr (Iq _) ?_)))))) fun hc8=>A7 (Ad (Qp (Qf J8) (Qp Bf (Qp Bu (Ae (Ao (fun hc9=>Ad (Qp Al (Ra (Qr (Iq _) ?_)))) fun hc9=>Rf (Ad (Qp Al (Rb (Qr (Iq _) ?_))))))))))))))))) fun hc7=>?_))
 ·
  simp only [Ag,H4];rw [Bi hc1,Bi hc4,if_pos hc7,if_pos hc8]
 ·
  simp only [Ag,H4];rw [Bi hc1,Bi hc4,if_pos hc7,Bi hc8,if_pos hc9]
 ·
  simp only [Ag,H4];rw [Bi hc1,Bi hc4,if_pos hc7,Bi hc8,Bi hc9]
 refine Ad (Qp Al (Ra (Qr (Iq _) ?_)));simp only [Ag,H4];rw [Bi hc1,Bi hc4,Bi hc7]
theorem vW (t:Syn):An Tryz.prog 239 [.agg (cSyn t)] (.int .i64 (Io t)):=by
 refine An.body (n:=125) tok Tryz.func239 rfl rfl rfl fun H=>?_
 refine Ad (Qp (Ed Aq) (Qp Al (Bs (Qp (Qf J8) (Qp Bf (Qp Al (Ae ?_)))))));refine AW.Aas (fun (u:Int)=>(⟨[(1,.ptr (cSyn t)),(3,.int .i64 u)],H,125⟩:St)) (fun u=>Io t=Pi t u) ?_ ?_
 ·
  refine Ad (Qp (Qf Aq) (Qp Bf (Ae (AW.block (Ad (Qp Ap (Qp Au (Ae (Ao (fun hc1=>Ad (Qp (Bo Aq) (Qp (Qc rfl ((sD t▸r_const t))) (Qp Al (Ra (Qr (Iq _) ?_)))))) fun hc1=>?_)))))))))
  ·
   have h9:Io t=Gl t:=if_pos hc1;rw [h9];rfl
  refine Ad (Qp Ap (Qp Au (Ae (Ao (fun hc2=>?_) fun hc2=>Ad (Qp Ap (Qp Au (Ae (Ao (fun hc4=>?_) fun hc4=>Ad (Qp Ap (Qp Au (Ae (Ao (fun hc6=>?_) fun hc6=>Ad (Qp Ap (Qp Au (Ae (Ao (fun hc8=>?_) fun hc8=>?_))))))))))))))))
  ·
   have h8:Io t=if (decide (t.num<0)||decide (2<t.num)) then 1 else Pi t 0:=(Bi hc1).trans (if_pos hc2)
   refine Rd (Qp (Qf J8) (Qp Bf (Qp Bp (Qp A9 (Qg [] Qw (Qf J8) (Qg [(20,_)] Qw Bf (Qg [(21,_)] Qw Do (Qp Cf (Ae (Ao (fun hc3=>Ad (Qp Al (Rc (B9 (Av (Qr (Iq _) ?_)))))) fun hc3=>A7 (AW.region (Qp Al (Rk ?_)))))))))))))
   · rw [h8,if_pos hc3];rfl
   refine ⟨0,?_,Bv⟩;exact h8.trans (Bi hc3)
  ·
   have h8:Io t=if (decide (t.num<1)||decide (5<t.num)) then 1 else Pi t 0:=((Bi hc1).trans (Bi hc2)).trans (if_pos hc4)
   refine Rd (Qp (Qf J8) (Qp Bf (Qp Bp (Qp A9 (Qg [] Qw (Qf J8) (Qg [(30,_)] Qw Bf (Qg [(31,_)] Qw Do (Qp Cf (Ae (Ao (fun hc5=>Ad (Qp Al (Rc (B9 (Av (Qr (Iq _) ?_)))))) fun hc5=>A7 (AW.region (Qp Al (Rk ?_)))))))))))))
   · rw [h8,if_pos hc5];rfl
   refine ⟨0,?_,Bv⟩;exact h8.trans (Bi hc5)
  ·
   have h8:Io t=if (decide (t.num<5)||decide (11<t.num)) then 1 else Pi t 0:=(((Bi hc1).trans (Bi hc2)).trans (Bi hc4)).trans (if_pos hc6)
   refine Rd (Qp (Qf J8) (Qp Bf (Qp Bp (Qp A9 (Qg [] Qw (Qf J8) (Qg [(40,_)] Qw Bf (Qg [(41,_)] Qw Do (Qp Cf (Ae (Ao (fun hc7=>Ad (Qp Al (Rc (B9 (Av (Qr (Iq _) ?_)))))) fun hc7=>A7 (AW.region (Qp Al (Rk ?_)))))))))))))
   · rw [h8,if_pos hc7];rfl
   refine ⟨0,?_,Bv⟩;exact h8.trans (Bi hc7)
  ·
   have h8:Io t=if (decide (t.num<0)||decide (1099511627776<t.num)) then 2 else Pi t 0:=((((Bi hc1).trans (Bi hc2)).trans (Bi hc4)).trans (Bi hc6)).trans (if_pos hc8)
   refine Rd (Qp (Qf J8) (Qp Bf (Qp Bp (Qp A9 (Qg [] Qw (Qf J8) (Qg [(50,_)] Qw Bf (Qg [(51,_)] Qw Do (Qp Cf (Ae (Ao (fun hc9=>Ad (Qp Al (Rc (B9 (Av (Qr (Iq _) ?_)))))) fun hc9=>A7 (AW.region (Qp Al (Rk ?_)))))))))))))
   · rw [h8,if_pos hc9];rfl
   refine ⟨0,?_,Bv⟩;exact h8.trans (Bi hc9)
  have h8:Io t=Pi t t.num:=((((Bi hc1).trans (Bi hc2)).trans (Bi hc4)).trans (Bi hc6)).trans (Bi hc8);refine Rf ?_;refine ⟨t.num,?_,Bv⟩;exact h8
 rintro u hR;refine Ad (Qp (Qf Aq) (Qp Bf (Qp Ap (Qp A9 (Qg [] Qw (Qf Aq) (Qg [(58,_)] Qw Bf (Qg [(59,_)] Qw Ap (Qp Cf (Qp A9 ?_)))))))));refine Qg [] Qw (Qf Aq) (Qg [(63,_)] Qw Bf (Qg [(64,_)] Qw Ap (Qp Cf (Qp A9 (Qg [] Qw (Qf Aq) (Qg [(68,_)] Qw Bf (Qg [(69,_)] Qw Ap (Qp Cf (Qp A9 ?_)))))))));refine Qg [] Qw (Qf Aq) (Qg [(73,_)] Qw Bf (Qg [(74,_)] Qw Ap (Qp Cf (Qp A9 (Qg [] Qw (Qf Aq) (Qg [(78,_)] Qw Bf (Qg [(79,_)] Qw Ap (Qp Cf (Qp A9 ?_)))))))));refine Qg [] Qw (Qf Aq) (Qg [(83,_)] Qw Bf (Qg [(84,_)] Qw Ap (Qp Cf (Qp A9 (Qg [] Qw (Qf Aq) (Qg [(88,_)] Qw Bf (Qg [(89,_)] Qw Ap (Qp Cf (Qp Au ?_)))))))));refine Bs (Qp (Qf Aq) (Qp Bf (Qp Ap (Qp A9 (Qg [] Qw (Qf Aq) (Qg [(96,_)] Qw Bf (Qg [(97,_)] Qw Ap (Qp Cf (Qp A9 ?_)))))))));refine Qg [] Qw (Qf Aq) (Qg [(101,_)] Qw Bf (Qg [(102,_)] Qw Ap (Qp Cf (Qp Au (Ae (Rd (Qp Am (Qp Bu (Qp A9 (Qg [] Qw A9 (Qg [(108,_)] Qw Ew (Qg [(109,_)] Qw A9 (Qg [] Qw (Qf Ik) (Qg [(111,_)] Qw C9 (AOL.Aal (y:=.bool _) _ [(112,_)] rfl (uB.all ⟨Ent.Aak _ _,trivial⟩) (fun hG=>Cs rfl rfl) rfl ?_)))))))))))))));refine Qg [(110,_),(113,_)] Qw Ea (Qp Cf (Qp A9 (Qg [] Qw A9 (Qg [(117,_)] Qw Ew (Qg [(118,_)] Qw A9 (Qg [] Qw (Qf Po) (Qg [(120,_)] Qw C9 (AOL.Aal (y:=.bool _) _ [(121,_)] rfl (uB.all ⟨Ent.Aak _ _,trivial⟩) (fun hG=>Cs rfl rfl) rfl ?_))))))));refine Qg [(119,_),(122,_)] Qw Ea (Qp Cf (Ae (Ao (fun hc10=>Ad (Qp Al (Rc (Qr (Iq _) ?_)))) fun hc10=>A7 (Ad (Qp Al (Rb (Qr (Iq _) ?_)))))))
 ·
  have h9:Io t=3:=hR.trans (if_pos hc10);rw [h9];rfl
 have h9:Io t=0:=hR.trans (Bi hc10);rw [h9];rfl
theorem r_kid (t:Syn)(i:Nat)(hi:i<t.kids.length)(hl:t.kids.length≤1048576):An Tryz.prog 240 [.agg (cSyn t),.int .i64 (i:Int)] (.int .i64 (S4 t i)):=by
 refine An.body (n:=52) tok Tryz.func240 rfl rfl rfl fun H=>?_
 refine Ad (Qp (Ed Aq) (Qp Al (Ae (Rd (Qp (Qf Aq) (Qp Bf (Ae (AW.block (Ad (Qp Ap (Qp Au (Ae (Ao (fun hc1=>Rd (Qp (Qf Ef) (Qp B7 (Qp Am ?_)))) fun hc1=>Ad (Qp Ap (Qp Au (Ae (Ao (fun hc3=>Ad (Qp Al (Ra (Qr (Iq _) ?_)))) fun hc3=>?_)))))))))))))))))
 ·
  refine Qp (Aa (c:=cSyn (Bb t i)) tok rfl rfl rfl rfl rfl rfl (by omega) (Cl (fE hi))) ?_;refine Qp (Qf Aq) (Qp Bf (Qp Ap (Qp A9 (Qg [] Qw Am (Qg [(17,_)] Qw Ap (Qg [(18,_)] Qw A9 (Qg [] Qw (Qf Ef) (Qg [(20,_)] Qw B7 (Qg [] Qw Am ?_)))))))));refine AOL.Aal (y:=Iq _) _ [(22,_)] rfl (uB.all ⟨Ent.Aak _ _,trivial⟩) (fun hG=>P_sub rfl rfl rfl (by constructor <;> omega)) rfl ?_;refine AOL.Aal (y:=.ptr _) _ [(21,_),(23,_)] rfl (uB.all ⟨Ent.Aak _ _,Ent.Aak _ _,trivial⟩) (fun hG=>Aa (c:=cSyn (Bb t (i-1))) tok rfl rfl rfl rfl rfl rfl ((Ul hi hG).1) ((Ul hi hG).2)) rfl ?_;refine Qg [(24,_)] Qw (Qf Aq) (Qg [(25,_)] Qw Bf (Qg [(26,_)] Qw Ap (Qg [(19,_),(27,_)] Qw Cf (Qp Ea (Ae (Ao (fun hc2=>Ad (Qp Al (Rc (B9 (Av (Qr (Iq _) ?_)))))) fun hc2=>A7 (Ad (Qp Al (Ra (Qr (Iq _) ?_))))))))))
  · simp only [Ag,S4,hc1,hc2,↓reduceIte,B0]
  simp only [Ag,S4,hc1,hc2,↓reduceIte,B0]
 · simp only [Ag,S4,hc1,hc3,↓reduceIte,B0]
 refine Ad (Qp Ap (Qp Au (Ae (Ao (fun hc4=>Rd (Qp Am (Qp Bp (Ae (Ao (fun hc5=>Ad (Qp Am (Qp Dl (Qp Al (Rc (B9 (Av (Qr (Iq _) ?_)))))))) fun hc5=>A7 (Ad (Qp Al (Ra (Qr (Iq _) ?_))))))))) fun hc4=>?_))))
 · simp only [Ag,S4,hc1,hc3,hc4,hc5,↓reduceIte,B0]
 · simp only [Ag,S4,hc1,hc3,hc4,hc5,↓reduceIte,B0]
 refine Ad (Qp Ap (Qp Au (Ae (Ao (fun hc6=>Rd (Qp Am (Qp Ap (Ae (Ao (fun hc7=>Ad (Qp Al (Rc (B9 (Av (Qr (Iq _) ?_)))))) fun hc7=>A7 (Ad (Qp Al (Ra (Qr (Iq _) ?_))))))))) fun hc6=>?_))))
 · simp only [Ag,S4,hc1,hc3,hc4,hc6,hc7,↓reduceIte,B0]
 · simp only [Ag,S4,hc1,hc3,hc4,hc6,hc7,↓reduceIte,B0]
 refine Ad (Qp Ap (Qp Au (Ae (Ao (fun hc8=>Rd (Qp Am (Qp Ap (Ae (Ao (fun hc9=>Ad (Qp Al (Rc (B9 (Av (Qr (Iq _) ?_)))))) fun hc9=>A7 (Ad (Qp Al (Ra (Qr (Iq _) ?_))))))))) fun hc8=>Ad (Qp Ap (Qp Au (Ae (Ao (fun hc10=>Ad (Qp Al (Ra (Qr (Iq _) ?_)))) fun hc10=>?_))))))))
 · simp only [Ag,S4,hc1,hc3,hc4,hc6,hc8,hc9,↓reduceIte,B0]
 · simp only [Ag,S4,hc1,hc3,hc4,hc6,hc8,hc9,↓reduceIte,B0]
 · simp only [Ag,S4,hc1,hc3,hc4,hc6,hc8,hc10,↓reduceIte,B0]
 refine AW.Aas (fun (_:Unit)=>(⟨[(2,.ptr (cSyn t)),(48,.bool ((((t.kind==5)||(t.kind==17))||(t.kind==18))))],H,52⟩:St)) (fun _=>True) ?_ ?_
 ·
  refine Ad (Qp Ap (Qp Au (Ae (Ao (fun hc11=>A7 ?_) fun hc11=>Ad (Qp Ap (Qp Au (Ae (Ao (fun hc12=>A7 ?_) fun hc12=>AW.region (Qp Ap (Qp Au (Ae ?_)))))))))))
  ·
   refine ⟨(),?_,GS.weaken ⟨rfl,congrArg AV.bool (by simp [*]),trivial⟩ (.refl _)⟩
   trivial
  ·
   refine ⟨(),?_,GS.weaken ⟨rfl,congrArg AV.bool (by simp [*]),trivial⟩ (.refl _)⟩
   trivial
  refine ⟨(),?_,GS.weaken ⟨rfl,congrArg AV.bool (by simp [*]),trivial⟩ (.refl _)⟩
  trivial
 rintro _ _;refine Ao (fun hc13=>Ad (Qp Al (Ra (Qr (Iq _) ?_)))) fun hc13=>Rf (Ad (Qp Al (Rb (Qr (Iq _) ?_))))
 · simp only [Ag,S4,hc1,hc3,hc4,hc6,hc8,hc10,hc13,↓reduceIte,B0]
 simp only [Ag,S4,hc1,hc3,hc4,hc6,hc8,hc10,hc13,↓reduceIte,B0]
theorem r_check (t:Syn)(p:Pl)(hp:p.ok)(hfew:G0 t=true):An Tryz.prog 177 [.agg (cSyn t),.int .i64 p.role] (.int .i64 (Ba t p)):=by
 revert p hp hfew
 induction t using Syn.ind
 rename_i t ih;intro p hp hfew;have hkl:=eQ hfew;have htx:=kF hfew;refine An.body (n:=43) tok Tryz.func177 rfl rfl rfl fun H=>?_
 refine Ad (Qp (Ed Aq) (Qp Al (Ae (Rd (Qp (Qf Aq) (Qp Bf (Qp Am (Qp (Qc rfl ((tJ hp t.kind▸xE t.kind p.role))) (Qp Ew (Ae (Ao (fun hc1=>Ad (Qp Al (Rc (Qr (Iq _) ?_)))) fun hc1=>A7 (Rd (Qp (Bo Aq) (Qp (Qc rfl ((shape_eq t▸r_shape t))) (Qp Ew (Ae (Ao (fun hc2=>Ad (Qp Al (Rc (Qr (Iq _) ?_)))) fun hc2=>?_)))))))))))))))))
 ·
  have h9:Ba t p=1:=I6 (if_pos hc1) (by decide);rw [h9];rfl
 ·
  have h9:Ba t p=15:=I6 ((Bi hc1).trans (if_pos hc2)) (by decide);rw [h9];rfl
 refine A7 (Rd (Qp (Bo Aq) (Qp (Qc rfl ((wA t▸r_names t htx.1 htx.2))) (Qp Ew (Ae (Ao (fun hc3=>Ad (Qp Al (Rc (Qr (Iq _) ?_)))) fun hc3=>A7 (Rd (Qp (Bo Aq) (Qp (Qc rfl ((sK t▸vW t))) (Qp Al (Bs (Qp Am (Qp Bu (Ae (Ao (fun hc4=>Ad (Qp Am (Qp Al (Rc (Qr (Iq _) ?_))))) fun hc4=>?_)))))))))))))))
 ·
  have h9:Ba t p=8:=I6 (((Bi hc1).trans (Bi hc2)).trans (if_pos hc3)) (by decide);rw [h9];rfl
 ·
  have h9:Ba t p=Dn t:=I6 (((Bi hc1).trans (Bi hc2)).trans (Bi hc3)) (by simpa using hc4);rw [h9];rfl
 have h0:Wh p t=0:=by unfold Wh;rw [Bi hc1,Bi hc2,Bi hc3];simpa using hc4
 refine A7 (Rd (Qp Al (Ae (AW.block ?_))));refine AW.Aam (fun (k:Nat)=>(⟨[(2,.ptr (cSyn t)),(6,.int .i64 (k:Int))],H,43⟩:St)) (fun k=>k≤t.kids.length∧Ba t p=Lc t k (t.kids.drop k)) (fun k=>t.kids.length-k) (0) ?_ Bv ?_
 · exact ⟨Dh _,Zj h0⟩
 rintro k hR;refine Rd (Qp Am (Qp (Qf Ef) (Qp B7 ?_)));refine Qp (Ai (n:=t.kids.length) tok rfl rfl rfl (by simp)) ?_;refine Qp Bp (Ae (Ao (fun hc5=>?_) fun hc5=>?_))
 ·
  obtain ⟨x,hx⟩:=mH (l:=t.kids) (k:=k) (by have:=Gv hc5;omega);have hlt:=Mf hx;have hm:=B6 hx;refine A7 (AW.seq (AW.block (AW.seq ?_)));refine Gi ?_;refine Qn 0 rfl (Qf Ef) (Qn 1 rfl B7 (Qn 2 rfl Am ?_));refine Qn 3 rfl (Aa (c:=Aq) tok rfl rfl rfl rfl rfl rfl (by omega) (Cl hx)) ?_;refine Qn 4 rfl (Bo Aq) (Qn 5 rfl (Bo Aq) (Qn 6 rfl Am ?_));refine Qn 7 rfl (Qc rfl ((vQ t k▸r_kid t k hlt (by omega)))) ?_;refine Qn 8 rfl (Qc rfl (ih x hm (Eh t k) (yZ t k) (Ks hfew hm))) (Qn 9 rfl Al ?_);refine Ej ?_;refine A5 (Ad (Qp Am (Qp Bu (Ae (Ao (fun hc6=>Ad (Qp Am (Qp Al (Ra (Av (B9 (Av (Qr (Iq _) ?_)))))))) fun hc6=>Rf (AW.region (Qp Am (Qp Dl (Qp Al (Ae ?_))))))))))
  ·
   have h9:Ba t p=Ba x (Eh t k):=by rw [hR.2,O9 hx,if_pos hc6]
   rw [h9];rfl
  refine ⟨k+1,?_,?_,Bv⟩
  · exact ⟨hlt,by rw [hR.2,O9 hx,Bi hc6]⟩
  omega
 have hk:t.kids.length≤k:=by have:=If hc5;omega
 refine AW.exit ?_;refine Bk (Ri (Ad (Qp Al (Rb ?_))));refine Qr (Iq _) ?_;have h9:Ba t p=0:=by rw [hR.2,O7 hk,Lc]
 rw [h9];rfl
theorem lP (p t:Syn):An Tryz.prog 241 [.agg (cSyn p),.agg (cSyn t)] (.bool (Gc p.kind t.kind)):=by
 refine An.body (n:=28) tok Tryz.func241 rfl rfl rfl fun H=>?_
 refine Ad (Qp (Ed Aq) (Qp (Ed Aq) (Qp Au (Bs (Qp (Qf Aq) (Qp Bf (Qp Ap (Qp A9 (Qg [] Qw (Qf Aq) ?_)))))))));refine Qg [(9,_)] Qw Bf (Qg [(10,_)] Qw Ap (Qg [(11,_)] Qw A9 (Qg [] Qw (Qf Aq) (Qg [(13,_)] Qw Bf (Qg [(14,_)] Qw Ap (Qg [(12,_),(15,_)] Qw Cf (Qp Ea (Qp A9 (Qg [] Qw (Qf Aq) ?_)))))))));refine Qg [(19,_)] Qw Bf (Qg [(20,_)] Qw Ap (Qg [(21,_)] Qw A9 (Qg [] Qw (Qf Aq) (Qg [(23,_)] Qw Bf (Qg [(24,_)] Qw Ap (Qg [(22,_),(25,_)] Qw Ea (Qp Cf (Qp Au (Ae (AW.ret (Qr (.bool _) ?_)))))))))));rw [←sJ];rfl
theorem tP (t:Syn)(hfew:G0 t=true):An Tryz.prog 178 [.agg (cSyn t)] (.int .i64 (Gf t:Int)):=by
 revert hfew
 induction t using Syn.ind
 rename_i t ih;intro hfew;have hkl:=eQ hfew;refine An.body (n:=47) tok Tryz.func178 rfl rfl rfl fun H=>?_
 refine Ad (Qp (Ed Aq) (Qp Al (Bs (Qp Al (Ae (Rd (Qp Al (Ae (AW.block ?_)))))))));refine AW.Aam (fun (p:Nat×Nat)=>(⟨[(1,.ptr (cSyn t)),(3,.int .i64 (p.2:Int)),(4,.int .i64 (p.1:Int))],H,47⟩:St)) (fun p=>p.1≤t.kids.length∧Iz t.kind t.kids=max p.2 (Iz t.kind (t.kids.drop p.1))∧p.2≤1000) (fun p=>t.kids.length-p.1) ((0,0)) ?_ Bv ?_
 · exact ⟨Dh _,by simp,Dh _⟩
 rintro p hR;refine Rd (Qp Am (Qp (Qf Ef) (Qp B7 ?_)));refine Qp (Ai (n:=t.kids.length) tok rfl rfl rfl (by simp)) ?_;refine Qp Bp (Ae (Ao (fun hc1=>?_) fun hc1=>?_))
 ·
  obtain ⟨x,hx⟩:=mH (l:=t.kids) (k:=p.1) (by have:=Gv hc1;omega);have hlt:=Mf hx;have hm:=B6 hx;have hdx:=bT (Ks hfew hm);have hd2:=Xt hx;refine A7 (AW.seq (AW.block (Ad (Qp (Qf Ef) (Qp B7 (Qp Am ?_))))));refine Qp (Aa (c:=Aq) tok rfl rfl rfl rfl rfl rfl (by omega) (Cl hx)) ?_;refine Qp (Bo Aq) (Qp (Qc rfl (ih x hm (Ks hfew hm))) (Qp Al (Re (AW.seq ?_))));refine Gi ?_;refine Qn 0 rfl (Bo Aq) (Qn 1 rfl (Qf Ef) (Qn 2 rfl B7 (Qn 3 rfl Am ?_)));refine Qn 4 rfl (Aa (c:=Aq) tok rfl rfl rfl rfl rfl rfl (by omega) (Cl hx)) ?_;refine Qn 5 rfl (Bo Aq) (Qn 6 rfl (Qc rfl (lP t x)) ?_);refine Ej ?_;refine A5 (Ao (fun hc2=>?_) fun hc2=>?_)
  ·
   rw [if_pos hc2] at hd2;refine AW.region (Qp Am (Qp Dl (Qp Al (Ae (AW.region (Qp Am (Qp Am (Qp (Tu rfl rfl) (Qp Al (Rk (AW.region (Qp Am (Qp Dl (Qp Al (Ae ?_)))))))))))))));refine ⟨(p.1+1,max p.2 (Gf x+1)),?_,?_,GS.weaken ⟨rfl,congrArg (AV.int .i64) (by simp only;omega),rfl,trivial⟩ (.refl _)⟩
   · exact ⟨hlt,by simp only;omega,by simp only;omega⟩
   simp only;omega
  rw [Bi hc2] at hd2;refine A7 (AW.region (Qp Am (Qp Am (Qp (Tu rfl rfl) (Qp Al (Rk (AW.region (Qp Am (Qp Dl (Qp Al (Ae ?_)))))))))));refine ⟨(p.1+1,max p.2 (Gf x)),?_,?_,GS.weaken ⟨rfl,congrArg (AV.int .i64) (by simp only;omega),rfl,trivial⟩ (.refl _)⟩
  · exact ⟨hlt,by simp only;omega,by simp only;omega⟩
  simp only;omega
 have hk:t.kids.length≤p.1:=by have:=If hc1;omega
 have he:=hR.2.1;rw [O7 hk,Iz] at he;have hfd:=bT hfew;have hde:=cN t;refine AW.exit ?_;refine Bk (Ri (Rd (Qp (Qf Aq) (Qp Bf (Qp Ap (Qp A9 ?_))))));refine Qg [] Qw (Qf Aq) (Qg [(35,_)] Qw Bf ?_);refine Qg [(36,_)] Qw (Qc rfl (rH t.kind)) (Qg [(37,_)] Qw A9 (Qg [] Qw (Qf Aq) (Qg [(39,_)] Qw Bf (Qg [(40,_)] Qw Bu (Qg [(38,_),(41,_)] Qw Ea (Qp Cf (Ae (Ao (fun hc3=>AW.region (Qp Am (Qp Dl (Qp Al (Bs (Qp Am (Qp Al (Rb (Qr (Iq _) ?_))))))))) fun hc3=>?_))))))))
 ·
  have h9:Gf t=p.2+1:=by rw [hde,if_pos hc3];omega
  rw [h9];rfl
 refine A7 (Ad (Qp Am (Qp Al (Rb (Qr (Iq _) ?_)))));have h9:Gf t=p.2:=by rw [hde,Bi hc3];omega
 rw [h9];rfl
set_option maxHeartbeats 3200000
set_option maxRecDepth 20000

theorem Ug {n:Nat}(h:n<10):(Utf8.encode (48+(n:Int))).data.toList = [UInt8.ofNat (48+n)]:=by
 have:n=0∨n=1∨n=2∨n=3∨n=4∨n=5∨n=6∨n=7∨n=8∨n=9:=by omega
 rcases this with rfl | rfl | rfl | rfl | rfl | rfl | rfl | rfl | rfl | rfl <;> rfl
theorem rR {n:Nat}(h:n<10):IntKind.i32.wrap (48+(n:Int))=48+(n:Int):=by
 have:n=0∨n=1∨n=2∨n=3∨n=4∨n=5∨n=6∨n=7∨n=8∨n=9:=by omega
 rcases this with rfl | rfl | rfl | rfl | rfl | rfl | rfl | rfl | rfl | rfl <;> rfl
theorem tL {n m:Int}(h:n=m)(h2 : -1099511627776≤m∧m≤1099511627776):IntKind.i64.wrap n=m:=by
 subst h;unfold IntKind.wrap IntKind.signed IntKind.bits;simp only [↓reduceIte,K5,Hi,ge_iff_le];split <;> omega
theorem pL {n:Nat}(h:n≤1099511627776):(Lib.decDigits n).length≤21:=by
 have:=Lib.itoa_length_le (n:Int) (by omega) (by omega)
 rwa [show Lib.itoa (n:Int)=Lib.decDigits n by unfold Lib.itoa;rw [if_neg (by omega),gK]] at this
theorem uH {s:A1}(hk:s=Gz∨s=Fy∨s=Ee)(h1:s≠Gz)(h2:s≠Ee):s=Fy:=by
 rcases hk with h | h | h
 · exact absurd h h1
 · exact h
 exact absurd h h2
def WOK (t:Syn):Prop:=An Tryz.prog 179 [.agg (cSyn t)] (.str (Ah t))∧(Ah t).length≤100000

theorem r_dec (n:Nat)(hn:n≤1099511627776):An Tryz.prog 246 [.int .i64 (n:Int)] (.str (Lib.decDigits n)):=by
 revert hn
 induction n using Nat.strongRecOn
 rename_i n ih;intro hn;refine An.body (n:=24) tok Tryz.func246 rfl rfl rfl fun H=>?_
 refine Ad (Qp D1 (Ae (Rd (Qp Am (Qp Bp (Ae (Ao (fun hc1=>?_) fun hc1=>A7 (Rd (Qp Am (Qp Bp (Ae (Ao (fun hc2=>?_) fun hc2=>?_))))))))))))
 ·
  exfalso;have:=Gv hc1;omega
 ·
  have h10:n<10:=by have:=Gv hc2;omega
  refine Ad (Qp Am (Qp Dl (Qp (S2 (m:=(48+(n:Int))) tok rfl rfl rfl rfl rfl (rR h10)) ?_)));refine Qp (dU tok rfl rfl rfl rfl rfl rfl (by rw [Ug h10];simp [maxLen])) ?_;refine Qp D1 (Rc (Qr (.str _) ?_));have h9:Lib.decDigits n = [UInt8.ofNat (48+n)]:=by rw [Lib.decDigits,dif_pos h10]
  rw [h9,Ug h10];rfl
 have h10:¬n<10:=by have:=If hc2;omega
 have hm10:n % 10<10:=Nat.mod_lt _ (by decide);have hq:IntKind.i64.wrap (((n:Int)).tdiv 10)=((n / 10:Nat):Int):=by rw [Int.tdiv_eq_ediv_of_nonneg (by omega)];exact tL (by omega) (by omega)
 have hih:=ih (n / 10) (by omega) (by omega);rw [←hq] at hih;have hdl:=pL (n:=n / 10) (by omega);have henc:=congrArg List.length (Ug hm10);have hr:((n:Int)).tmod 10=((n % 10:Nat):Int):=by rw [Int.tmod_eq_emod_of_nonneg (by omega)];omega
 refine A7 (Ad (Qp Am ?_));refine Qp (mQ rfl rfl (by omega)) ?_;refine Qp (Qc rfl (hih)) (Qp Am ?_);refine Qp (vL rfl rfl (by omega)) ?_;refine Qp Dl ?_;refine Qp (S2 (m:=(48+((n % 10:Nat):Int))) tok rfl rfl rfl rfl rfl (by rw [hr];exact rR hm10)) ?_;refine Qp (dU tok rfl rfl rfl rfl rfl rfl (by rw [Ug hm10];simp [maxLen])) ?_;refine Qp (A3 rfl rfl rfl (by unfold maxLen;(try simp only [Cb,Cj,Cw] at *);omega)) ?_;refine Qp D1 (Rb (Qr (.str _) ?_));have h9:Lib.decDigits n=Lib.decDigits (n / 10) ++ [UInt8.ofNat (48+n % 10)]:=by rw [Lib.decDigits,dif_neg h10]
 rw [h9,Ug hm10];rfl
theorem r_decN (n:Int)(hn : -1099511627776≤n∧n<0):An Tryz.prog 246 [.int .i64 n] (.str (Lib.itoa n)):=by
 refine An.body (n:=24) tok Tryz.func246 rfl rfl rfl fun H=>?_
 refine Ad (Qp D1 (Ae (Rd (Qp Am (Qp Bp (Ae (Ao (fun hc1=>?_) fun hc1=>?_)))))))
 ·
  have hneg:0-n=((n.natAbs:Nat):Int):=by omega
  have hih:=r_dec n.natAbs (by omega);rw [←hneg] at hih;have hdl:=pL (n:=n.natAbs) (by omega);refine Ad (Qp Am ?_);refine Qp (P_neg rfl rfl (by constructor <;> omega)) ?_;refine Qp (Qc rfl (hih)) ?_;refine Qp (A3 rfl rfl rfl (by unfold maxLen;(try simp only [Cb,Cj,Cw] at *);omega)) ?_;refine Qp D1 (Rc (Qr (.str _) ?_));have h9:Lib.itoa n=45::Lib.decDigits n.natAbs:=by unfold Lib.itoa;rw [if_pos hn.2]
  rw [h9];rfl
 exfalso;have:=If hc1;omega
theorem cM (n:Int)(hn : -1099511627776≤n∧n≤1099511627776):An Tryz.prog 246 [.int .i64 n] (.str (Lib.itoa n)):=by
 by_cases h:n<0
 · exact r_decN n ⟨hn.1,h⟩
 have h1:=r_dec n.toNat (by omega);have h2:((n.toNat:Nat):Int)=n:=by omega
 rw [h2] at h1;have h3:Lib.itoa n=Lib.decDigits n.toNat:=by unfold Lib.itoa;rw [if_neg h]
 rw [h3];exact h1
theorem nS (n:Int):An Tryz.prog 244 [.int .i64 n] (.str (J6 n)):=by
 refine An.body (n:=8) tok Tryz.func244 rfl rfl rfl fun H=>?_
 refine Ad (Qp D1 (Ae (Rd (Qp Am (Ae (AW.block (Ad (Qp Ap (Qp Au (Ae (Ao (fun hc1=>Ad (Qp D1 (Ra (Qr (.str _) ?_)))) fun hc1=>Ad (Qp Ap (Qp Au (Ae (Ao (fun hc2=>Ad (Qp D1 (Ra (Qr (.str _) ?_)))) fun hc2=>Rf (Ad (Qp D1 (Rb (Qr (.str _) ?_)))))))))))))))))))
 · simp only [Ag,J6,hc1,↓reduceIte,B0]
 · simp only [Ag,J6,hc1,hc2,↓reduceIte,B0]
 simp only [Ag,J6,hc1,hc2,↓reduceIte,B0]
theorem mN (n:Int):An Tryz.prog 250 [.int .i64 n] (.str (Hs n)):=by
 refine An.body (n:=16) tok Tryz.func250 rfl rfl rfl fun H=>?_
 refine Ad (Qp D1 (Ae (Rd (Qp Am (Ae (AW.block (Ad (Qp Ap (Qp Au (Ae (Ao (fun hc1=>Ad (Qp D1 (Ra (Qr (.str _) ?_)))) fun hc1=>?_)))))))))))
 · simp only [Ag,Hs,hc1,↓reduceIte,B0]
 refine Ad (Qp Ap (Qp Au (Ae (Ao (fun hc2=>Ad (Qp D1 (Ra (Qr (.str _) ?_)))) fun hc2=>Ad (Qp Ap (Qp Au (Ae (Ao (fun hc3=>Ad (Qp D1 (Ra (Qr (.str _) ?_)))) fun hc3=>Ad (Qp Ap (Qp Au (Ae (Ao (fun hc4=>Ad (Qp D1 (Ra (Qr (.str _) ?_)))) fun hc4=>?_))))))))))))
 · simp only [Ag,Hs,hc1,hc2,↓reduceIte,B0]
 · simp only [Ag,Hs,hc1,hc2,hc3,↓reduceIte,B0]
 · simp only [Ag,Hs,hc1,hc2,hc3,hc4,↓reduceIte,B0]
 refine Ad (Qp Ap (Qp Au (Ae (Ao (fun hc5=>Ad (Qp D1 (Ra (Qr (.str _) ?_)))) fun hc5=>Ad (Qp Ap (Qp Au (Ae (Ao (fun hc6=>Ad (Qp D1 (Ra (Qr (.str _) ?_)))) fun hc6=>Rf (Ad (Qp D1 (Rb (Qr (.str _) ?_))))))))))))
 · simp only [Ag,Hs,hc1,hc2,hc3,hc4,hc5,↓reduceIte,B0]
 · simp only [Ag,Hs,hc1,hc2,hc3,hc4,hc5,hc6,↓reduceIte,B0]
 simp only [Ag,Hs,hc1,hc2,hc3,hc4,hc5,hc6,↓reduceIte,B0]
theorem lS (n:Int):An Tryz.prog 248 [.int .i64 n] (.str (Nl n)):=by
 refine An.body (n:=12) tok Tryz.func248 rfl rfl rfl fun H=>?_
 refine Ad (Qp D1 (Ae (Rd (Qp Am (Ae (AW.block (Ad (Qp Ap (Qp Au (Ae (Ao (fun hc1=>Ad (Qp D1 (Ra (Qr (.str _) ?_)))) fun hc1=>Ad (Qp Ap (Qp Au (Ae (Ao (fun hc2=>Ad (Qp D1 (Ra (Qr (.str _) ?_)))) fun hc2=>?_)))))))))))))))
 · simp only [Ag,Nl,hc1,↓reduceIte,B0]
 · simp only [Ag,Nl,hc1,hc2,↓reduceIte,B0]
 refine Ad (Qp Ap (Qp Au (Ae (Ao (fun hc3=>Ad (Qp D1 (Ra (Qr (.str _) ?_)))) fun hc3=>Ad (Qp Ap (Qp Au (Ae (Ao (fun hc4=>Ad (Qp D1 (Ra (Qr (.str _) ?_)))) fun hc4=>Rf (Ad (Qp D1 (Rb (Qr (.str _) ?_))))))))))))
 · simp only [Ag,Nl,hc1,hc2,hc3,↓reduceIte,B0]
 · simp only [Ag,Nl,hc1,hc2,hc3,hc4,↓reduceIte,B0]
 simp only [Ag,Nl,hc1,hc2,hc3,hc4,↓reduceIte,B0]
theorem sX (n:Int):An Tryz.prog 251 [.int .i64 n] (.str (Lb n)):=by
 refine An.body (n:=16) tok Tryz.func251 rfl rfl rfl fun H=>?_
 refine Ad (Qp D1 (Ae (Rd (Qp Am (Ae (AW.block (Ad (Qp Ap (Qp Au (Ae (Ao (fun hc1=>Ad (Qp D1 (Ra (Qr (.str _) ?_)))) fun hc1=>?_)))))))))))
 · simp only [Ag,Lb,hc1,↓reduceIte,B0]
 refine Ad (Qp Ap (Qp Au (Ae (Ao (fun hc2=>Ad (Qp D1 (Ra (Qr (.str _) ?_)))) fun hc2=>Ad (Qp Ap (Qp Au (Ae (Ao (fun hc3=>Ad (Qp D1 (Ra (Qr (.str _) ?_)))) fun hc3=>Ad (Qp Ap (Qp Au (Ae (Ao (fun hc4=>Ad (Qp D1 (Ra (Qr (.str _) ?_)))) fun hc4=>?_))))))))))))
 · simp only [Ag,Lb,hc1,hc2,↓reduceIte,B0]
 · simp only [Ag,Lb,hc1,hc2,hc3,↓reduceIte,B0]
 · simp only [Ag,Lb,hc1,hc2,hc3,hc4,↓reduceIte,B0]
 refine Ad (Qp Ap (Qp Au (Ae (Ao (fun hc5=>Ad (Qp D1 (Ra (Qr (.str _) ?_)))) fun hc5=>Ad (Qp Ap (Qp Au (Ae (Ao (fun hc6=>Ad (Qp D1 (Ra (Qr (.str _) ?_)))) fun hc6=>Rf (Ad (Qp D1 (Rb (Qr (.str _) ?_))))))))))))
 · simp only [Ag,Lb,hc1,hc2,hc3,hc4,hc5,↓reduceIte,B0]
 · simp only [Ag,Lb,hc1,hc2,hc3,hc4,hc5,hc6,↓reduceIte,B0]
 simp only [Ag,Lb,hc1,hc2,hc3,hc4,hc5,hc6,↓reduceIte,B0]
theorem eB (t:Syn)(hn : -1099511627776≤t.num∧t.num≤1099511627776)(hx:t.text.length≤1048576)(hk:t.name=Gz∨t.name=Fy∨t.name=Ee):An Tryz.prog 247 [.agg (cSyn t)] (.str (Lg t)):=by
 refine An.body (n:=24) tok Tryz.func247 rfl rfl rfl fun H=>?_
 refine Ad (Qp (Ed Aq) (Qp D1 (Ae (Rd (Qp (Qf Po) (Qp C9 (Qp (A4 rfl rfl) (Ae (Ao (fun hc1=>?_) fun hc1=>?_)))))))))
 ·
  have hs:t.name=Ee:=by simpa using hc1
  have e:Lg t=(Tl t.text).1:=by unfold Lg;rw [hs,xZ];rfl
  refine Ad (Qp (Qf Ik) (Qp C9 (Qp (Qc rfl (c25 t.text hx)) (Qp Lm (Qp uM (Qp Ib (Qp D1 (Qp Al (Bs (Qp D2 (Qp D1 (Rc (Qr (.str _) ?_)))))))))))));rw [e];rfl
 have hs:t.name≠Ee:=by simpa using hc1
 refine A7 (Rd (Qp (Qf Po) (Qp C9 (Qp (A4 rfl rfl) (Ae (Ao (fun hc2=>?_) fun hc2=>?_))))))
 ·
  have e:Lg t=Lib.itoa t.num:=if_pos hc2;refine Ad (Qp (Qf J8) (Qp Bf (Qp (Qc rfl (cM t.num hn)) (Qp D1 (Rc (Qr (.str _) ?_))))));rw [e];rfl
 have hb:t.name=Fy:=uH hk (by simpa using hc2) hs;have e:Lg t=if t.num==1 then Mv else Kx:=by unfold Lg;rw [hb];rfl
 refine A7 (Rd (Qp (Qf J8) (Qp Bf (Qp Ap (Ae (Ao (fun hc3=>Ad (Qp D1 (Rc (Qr (.str _) ?_)))) fun hc3=>A7 (Ad (Qp D1 (Rb (Qr (.str _) ?_))))))))))
 · rw [e,if_pos hc3];rfl
 rw [e,Bi hc3];rfl
theorem vS (t:Syn)(f:Nat)(hf:f≤2)(hl:t.kids.length≤1000)(hn:∀x∈t.kids.drop f,WOK x)(hb:(Ci ((t.kids.drop f).map Ah)).length≤100000):An Tryz.prog 252 [.agg (cSyn t),.int .i64 (f:Int)] (.str (Ci ((t.kids.drop f).map Ah))):=by
 refine An.body (n:=29) tok Tryz.func252 rfl rfl rfl fun H=>?_
 refine Ad (Qp (Ed Aq) (Qp D1 (Bs (Qp D1 (Ae (Rd (Qp Am (Qp Al (Ae (AW.block ?_))))))))));refine AW.Aam (fun (p:Nat×A1)=>(⟨[(1,.int .i64 (f:Int)),(2,.ptr (cSyn t)),(5,.str p.2),(6,.int .i64 ((f+p.1:Nat):Int))],H,29⟩:St)) (fun p=>p.1≤t.kids.length∧p.2++Ty p.1 ((t.kids.drop f).map Ah)=Ci ((t.kids.drop f).map Ah)) (fun p=>t.kids.length-(f+p.1)) ((0,[])) ?_ Bv ?_
 · exact ⟨Dh _,rfl⟩
 rintro p hR;refine Rd (Qp Am (Qp (Qf Ef) (Qp B7 ?_)));refine Qp (Ai (n:=t.kids.length) tok rfl rfl rfl (by simp)) ?_;refine Qp Bp (Ae (Ao (fun hc1=>?_) fun hc1=>?_))
 ·
  obtain ⟨x,hx⟩:=mH (l:=t.kids) (k:=f+p.1) (by have:=Gv hc1;omega);have hlt:=Mf hx;have hxd:(t.kids.drop f)[p.1]? = some x:=by rw [List.getElem?_drop];exact hx
  have hnx:=hn x (B6 hxd);have hle:=congrArg List.length hR.2;simp only [Cb] at hle;have hwx:=hnx.2;refine A7 (AW.seq (AW.block (Rd (Qp Am (Qp Am (Qp Do (Ae (Ao (fun hc2=>?_) fun hc2=>?_))))))))
  ·
   have hr:=rY (dQ hxd) (by have:=Gv hc2;omega);rw [hr] at hle;simp only [Cb,Cj,Cw] at hle;refine AW.region (Qp D2 ?_);refine Qp (A3 rfl rfl rfl (by unfold maxLen;(try simp only [Cb,Cj,Cw] at *);omega)) ?_;refine Qp D1 (Ae (AW.region (Qp D2 (Qp (Qf Ef) (Qp B7 (Qp Am ?_))))));refine Qp (Aa (c:=Aq) tok rfl rfl rfl rfl rfl rfl (by omega) (Cl hx)) ?_;refine Qp (Bo Aq) (Qp (Qc rfl (hnx.1)) ?_);refine Qp (A3 rfl rfl rfl (by unfold maxLen;(try simp only [Cb,Cj,Cw] at *);omega)) ?_;refine Qp D1 (Rk (AW.region (Qp Am (Qp Dl (Qp Al (Ae ?_))))));refine ⟨(p.1+1,(p.2 ++ [44,32])++Ah x),?_,?_,Bv⟩
   · exact ⟨by omega,by rw [←hR.2,hr];simp⟩
   simp only;omega
  have h0:p.1=0:=by have:=If hc2;omega
  have hr:=pO (ws:=(t.kids.drop f).map Ah) (by have:=dQ hxd;rwa [h0] at this);rw [h0,hr] at hle;simp only [Cb] at hle;refine A7 (AW.region (Qp D2 (Qp (Qf Ef) (Qp B7 (Qp Am ?_)))));refine Qp (Aa (c:=Aq) tok rfl rfl rfl rfl rfl rfl (by omega) (Cl hx)) ?_;refine Qp (Bo Aq) (Qp (Qc rfl (hnx.1)) ?_);refine Qp (A3 rfl rfl rfl (by unfold maxLen;(try simp only [Cb,Cj,Cw] at *);omega)) ?_;refine Qp D1 (Rk (AW.region (Qp Am (Qp Dl (Qp Al (Ae ?_))))));refine ⟨(p.1+1,p.2++Ah x),?_,?_,Bv⟩
  · exact ⟨by omega,by rw [←hR.2,h0,hr];simp⟩
  simp only;omega
 have hk:((t.kids.drop f).map Ah).length≤p.1:=by have:=If hc1;rw [D9,Jf];omega
 refine AW.exit ?_;refine Bk (Ri (Ad (Qp D2 (Qp D1 (Rb ?_)))));refine Qr (.str _) ?_;have h9:Ci ((t.kids.drop f).map Ah)=p.2:=by rw [←hR.2,bU hk,Cm]
 rw [h9];rfl
theorem Vb (p t:Syn)(ht:WOK t):An Tryz.prog 249 [.agg (cSyn p),.agg (cSyn t)] (.str (E2 p t (Ah t))):=by
 have hwx:=ht.2;refine An.body (n:=15) tok Tryz.func249 rfl rfl rfl fun H=>?_
 refine Ad (Qp (Ed Aq) (Qp (Ed Aq) (Qp D1 (Bs (Qp (Bo Aq) (Qp (Qc rfl (ht.1)) (Qp D1 (Ae (Rd (Qp (Bo Aq) (Qp (Bo Aq) (Qp (Qc rfl (lP p t)) (Ae (Ao (fun hc1=>Ad (Qp D2 ?_)) fun hc1=>A7 (Ad (Qp D2 (Qp D1 (Rb (Qr (.str _) ?_)))))))))))))))))))
 ·
  refine Qp (A3 rfl rfl rfl (by unfold maxLen;(try simp only [Cb,Cj,Cw] at *);omega)) ?_;refine Qp (A3 rfl rfl rfl (by unfold maxLen;(try simp only [Cb,Cj,Cw] at *);omega)) ?_;refine Qp D1 (Rc (Qr (.str _) ?_));have h9:E2 p t (Ah t) = [40]++Ah t ++ [41]:=if_pos hc1;rw [h9];rfl
 have h9:E2 p t (Ah t)=Ah t:=Bi hc1;rw [h9];rfl
set_option maxHeartbeats 3200000
set_option maxRecDepth 20000

theorem iG {α:Type}{l:List α}(h:((l.length:Int)==0)=true):¬0<l.length:=by simp only [beq_iff_eq] at h;omega
theorem pE {α:Type}{l:List α}(h:((l.length:Int)==0)=false):0<l.length:=by simp only [Ov,ne_eq] at h;omega
theorem yV {t:Syn}:(t.kids.map Ah == [])=true↔¬0<t.kids.length:=by
 cases hq:t.kids <;> simp
theorem wt_type0 {t:Syn}(hk:t.kind=1)(h:¬0<t.kids.length):Ah t = [116,121,112,101,32]++t.text ++ [32,123,125,10]:=by
 rw [Dd];unfold Df;rw [hk];show Ln ++ [32]++t.text ++ [32,123]++(if (t.kids.map Ah == [])=true then [] else [32]++Ci (t.kids.map Ah) ++ [32]) ++ [125,10]=_;rw [if_pos (yV.2 h)];simp
theorem wt_type1 {t:Syn}(hk:t.kind=1)(h:0<t.kids.length):Ah t = [116,121,112,101,32]++t.text ++ [32,123,32]++Ci (t.kids.map Ah) ++ [32,125,10]:=by
 rw [Dd];unfold Df;rw [hk];show Ln ++ [32]++t.text ++ [32,123]++(if (t.kids.map Ah == [])=true then [] else [32]++Ci (t.kids.map Ah) ++ [32]) ++ [125,10]=_;rw [if_neg (fun e=>(yV.1 e) h)];simp
theorem xP {t q0 q1:Syn}{r:List Syn}(hk:t.kind=3)(hq:t.kids=q0::q1::r):Ah t=([113,117,101,114,121,32]++t.text++(if !(q0.text == []) then [32,98,121,32]++q0.text else [])) ++ [10,109,97,116,99,104,32]++Ah q1 ++ [10,114,101,116,117,114,110,32]++Ci (r.map Ah) ++ [59,10]:=by
 rw [Dd];unfold Df;rw [hk];show Hr ++ [32]++t.text++(if ((Bb t 0).text == [])=true then [] else [32]++aT ++ [32]++(Bb t 0).text) ++ [10]++Ij ++ [32]++(t.kids.map Ah).getD 1 [] ++ [10]++Hw ++ [32]++Ci ((t.kids.map Ah).drop 2) ++ [59,10]=_;have k0:Bb t 0=q0:=by unfold Bb;rw [hq];rfl
 rw [k0,hq];show Hr ++ [32]++t.text++(if (q0.text == [])=true then [] else [32]++aT ++ [32]++q0.text) ++ [10]++Ij ++ [32]++Ah q1 ++ [10]++Hw ++ [32]++Ci (r.map Ah) ++ [59,10]=_;cases hc:(q0.text == [])
 · simp
 simp
theorem wt_ev0 {t:Syn}(hk:t.kind=5)(h:¬0<t.kids.length):Ah t=t.text ++ [32]++t.name:=by
 rw [Dd];unfold Df;rw [hk];show t.text ++ [32]++t.name++(if (t.kids.map Ah == [])=true then [] else [32]++Xh ++ [32]++(t.kids.map Ah).getD 0 [])=_;rw [if_pos (yV.2 h)];simp
theorem wt_ev1 {t x:Syn}(hk:t.kind=5)(h0:t.kids[0]? = some x):Ah t=t.text ++ [32]++t.name ++ [32,105,102,32]++Ah x:=by
 rw [Dd];unfold Df;rw [hk];show t.text ++ [32]++t.name++(if (t.kids.map Ah == [])=true then [] else [32]++Xh ++ [32]++(t.kids.map Ah).getD 0 [])=_;have h1:(t.kids.map Ah).getD 0 []=Ah x:=by rw [Nv,List.getElem?_map,h0];rfl
 rw [if_neg (fun e=>(yV.1 e) (Mf h0)),h1];simp
theorem wt_tot0 {t:Syn}(hk:t.kind=16)(h:¬0<t.kids.length):Ah t=Nl t.num ++ [40]++t.text ++ [46]++t.name ++ [41]:=by
 rw [Dd];unfold Df;rw [hk];show Nl t.num ++ [40]++t.text ++ [46]++t.name++(if (t.kids.map Ah == [])=true then [] else [44,32]++(t.kids.map Ah).getD 0 []) ++ [41]=_;rw [if_pos (yV.2 h)];simp
theorem wt_tot1 {t x:Syn}(hk:t.kind=16)(h0:t.kids[0]? = some x):Ah t=Nl t.num ++ [40]++t.text ++ [46]++t.name++([44,32]++Ah x) ++ [41]:=by
 rw [Dd];unfold Df;rw [hk];show Nl t.num ++ [40]++t.text ++ [46]++t.name++(if (t.kids.map Ah == [])=true then [] else [44,32]++(t.kids.map Ah).getD 0 []) ++ [41]=_;have h1:(t.kids.map Ah).getD 0 []=Ah x:=by rw [Nv,List.getElem?_map,h0];rfl
 rw [if_neg (fun e=>(yV.1 e) (Mf h0)),h1]
theorem zO {t:Syn}(hk:t.kind=13):Ah t=Lg t:=by rw [Dd];unfold Df;rw [hk];rfl
theorem wt_bin {t x y:Syn}(hk:t.kind=17)(hq:t.kids = [x,y]):Ah t=E2 t x (Ah x) ++ [32]++Hs t.num ++ [32]++E2 t y (Ah y):=by
 rw [Dd];unfold Df;rw [hk];show E2 t (Bb t 0) ((t.kids.map Ah).getD 0 []) ++ [32]++Hs t.num ++ [32]++E2 t (Bb t 1) ((t.kids.map Ah).getD 1 [])=_;have k0:Bb t 0=x:=by unfold Bb;rw [hq];rfl
 have k1:Bb t 1=y:=by unfold Bb;rw [hq];rfl
 rw [k0,k1,hq];rfl
theorem wt_not {t x:Syn}(hk:t.kind=18)(hq:t.kids = [x]):Ah t = [110,111,116,32]++E2 t x (Ah x):=by
 rw [Dd];unfold Df;rw [hk];show Ww ++ [32]++E2 t (Bb t 0) ((t.kids.map Ah).getD 0 [])=_;have k0:Bb t 0=x:=by unfold Bb;rw [hq];rfl
 rw [k0,hq];rfl
theorem tZ {t x:Syn}(hk:t.kind=11)(hq:t.kids = [x]):Ah t = [119,105,116,104,105,110,40]++Ah x ++ [44,32]++Lib.itoa t.num ++ [41]:=by
 rw [Dd];unfold Df;rw [hk,hq];show Hq ++ [40]++Ah x++([44,32]++Lib.itoa t.num) ++ [41]=_;simp
theorem wt_call {t:Syn}(h0:0≤t.kind)(h18:t.kind≤18)(hn:t.kind≠0∧t.kind≠1∧t.kind≠2∧t.kind≠3∧t.kind≠5∧t.kind≠11∧t.kind≠13∧t.kind≠14∧t.kind≠15∧t.kind≠16∧t.kind≠17∧t.kind≠18):Ah t=Lb t.kind ++ [40]++Ci (t.kids.map Ah) ++ [41]:=by
 have e:∀k:Int,t.kind≠k→¬(t.kind==k)=true:=fun k h=>by simpa using h
 obtain ⟨a,b,c,d,f,g,h,i,j,k,l,m⟩:=hn;rw [Dd];unfold Df;rw [if_neg (e _ a),if_neg (e _ b),if_neg (e _ c),if_neg (e _ d),if_neg (e _ f),if_neg (e _ h),if_neg (e _ i),if_neg (e _ j),if_neg (e _ k),if_neg (e _ l),if_neg (e _ m),if_neg (e _ g),Cm]
theorem cR {t:Syn}(hf:Dn t=0)(hk:t.kind=13):t.name=Gz∨t.name=Fy∨t.name=Ee:=by
 unfold Dn at hf;rw [hk] at hf
 replace hf:Gl t=0:=hf
 unfold Gl at hf;split at hf
 · rename_i h;exact .inl (by simpa using h)
 split at hf
 · rename_i h;exact .inr (.inl (by simpa using h))
 split at hf
 · rename_i h;exact .inr (.inr (by simpa using h))
 cases hf
theorem pS (t:Syn)(hl:t.kids.length≤1000)(hn:∀x∈t.kids,WOK x)(hb:(Ci (t.kids.map Ah)).length≤100000):An Tryz.prog 252 [.agg (cSyn t),.int .i64 0] (.str (Ci (t.kids.map Ah))):=vS t 0 (by omega) hl hn hb

theorem mX (t:Syn)(hk:t.kind=1)(hl:t.kids.length≤1000)(hx:t.text.length≤80)(hn:∀x∈t.kids,WOK x)(hb:(Ah t).length≤100000):An Tryz.prog 243 [.agg (cSyn t)] (.str (Ah t)):=by
 refine An.body (n:=19) tok Tryz.func243 rfl rfl rfl fun H=>?_
 refine Ad (Qp (Ed Aq) (Qp D1 (Ae (Rd (Qp (Qf Ef) (Qp B7 ?_))))));refine Qp (Ai (n:=t.kids.length) tok rfl rfl rfl (by simp)) ?_;refine Qp Ap (Ae (Ao (fun hc1=>?_) fun hc1=>?_))
 ·
  have e:=wt_type0 hk (iG hc1);refine Ad (Qp (Qf Ik) (Qp C9 ?_));refine Qp (A3 rfl rfl rfl (by unfold maxLen;(try simp only [Cb,Cj,Cw]);omega)) ?_;refine Qp (A3 rfl rfl rfl (by unfold maxLen;(try simp only [Cb,Cj,Cw]);omega)) ?_;refine Qp D1 (Rc (Qr (.str _) ?_));rw [e];rfl
 have h0:=pE hc1;have e:=wt_type1 hk h0;have hb2:=hb;rw [e] at hb2;simp only [Cb,Cj,Cw] at hb2;refine A7 (AW.seq ?_);refine Gi ?_;refine Qn 0 rfl (Qf Ik) (Qn 1 rfl C9 ?_);refine Qn 2 rfl (A3 rfl rfl rfl (by unfold maxLen;(try simp only [Cb,Cj,Cw]);omega)) ?_;refine Qn 3 rfl (A3 rfl rfl rfl (by unfold maxLen;(try simp only [Cb,Cj,Cw]);omega)) ?_;refine Qn 4 rfl (Bo Aq) ?_;refine Qn 5 rfl (Qc rfl (pS t hl hn (by omega))) ?_;refine Qn 6 rfl (A3 rfl rfl rfl (by unfold maxLen;(try simp only [Cb,Cj,Cw]);omega)) ?_;refine Qn 7 rfl (A3 rfl rfl rfl (by unfold maxLen;(try simp only [Cb,Cj,Cw]);omega)) ?_;refine Qn 8 rfl D1 ?_;refine Ej ?_;refine A5 (AW.ret (Qr (.str _) ?_));rw [e];rfl
theorem r_asked (t q0 q1:Syn)(r:List Syn)(hk:t.kind=3)(hq:t.kids=q0::q1::r)(hl:t.kids.length≤1000)(hx:t.text.length≤80)(hx0:q0.text.length≤80)(h1:WOK q1)(hn:∀x∈r,WOK x)(hb:(Ah t).length≤100000):An Tryz.prog 245 [.agg (cSyn t)] (.str (Ah t)):=by
 have e:=xP hk hq;have hb2:=hb;rw [e] at hb2;simp only [Cb,Cj,Cw] at hb2;have hw1:=h1.2;have hlist:=vS t 2 (by omega) hl (by rw [hq];exact hn) (by rw [hq];show (Ci (r.map Ah)).length≤100000;omega);rw [hq] at hlist
 replace hlist:An Tryz.prog 252 [.agg (cSyn t),.int .i64 2] (.str (Ci (r.map Ah))):=by rw [hq] at *;exact hlist
 refine An.body (n:=34) tok Tryz.func245 rfl rfl rfl fun H=>?_
 refine Ad (Qp (Ed Aq) (Qp D1 (Bs (Qp (Qf Ik) (Qp C9 ?_)))));refine Qp (A3 rfl rfl rfl (by unfold maxLen;(try simp only [Cb,Cj,Cw]);omega)) ?_;refine Qp D1 (Ae (Rd (Qp (Qf Ef) (Qp B7 ?_))));refine Qp (Aa (c:=Aq) tok rfl rfl rfl rfl rfl rfl (by decide) (Cl (k:=0) (a:=q0) (by rw [hq];rfl))) ?_;refine Qp (Qf Ik) (Qp C9 (Qp (Cs rfl rfl) (Ae (Ao (fun hc1=>?_) fun hc1=>?_))))
 ·
  rw [if_pos hc1] at e;refine AW.region (Qp D2 (Qp (Qf Ef) (Qp B7 ?_)));refine Qp (Aa (c:=Aq) tok rfl rfl rfl rfl rfl rfl (by decide) (Cl (k:=0) (a:=q0) (by rw [hq];rfl))) ?_;refine Qp (Qf Ik) (Qp C9 ?_);refine Qp (A3 rfl rfl rfl (by unfold maxLen;(try simp only [Cb,Cj,Cw]);omega)) ?_;refine Qp (A3 rfl rfl rfl (by unfold maxLen;(try simp only [Cb,Cj,Cw]);omega)) ?_;refine Qp D1 (Re ?_);refine Gi ?_;refine Qn 0 rfl D2 ?_;refine Qn 1 rfl (A3 rfl rfl rfl (by unfold maxLen;(try simp only [Cb,Cj,Cw]);omega)) ?_;refine Qn 2 rfl (Qf Ef) (Qn 3 rfl B7 ?_);refine Qn 4 rfl (Aa (c:=Aq) tok rfl rfl rfl rfl rfl rfl (by decide) (Cl (k:=1) (a:=q1) (by rw [hq];rfl))) ?_;refine Qn 5 rfl (Bo Aq) (Qn 6 rfl (Qc rfl (h1.1)) ?_);refine Qn 7 rfl (A3 rfl rfl rfl (by unfold maxLen;(try simp only [Cb,Cj,Cw]);omega)) ?_;refine Qn 8 rfl (A3 rfl rfl rfl (by unfold maxLen;(try simp only [Cb,Cj,Cw]);omega)) ?_;refine Qn 9 rfl (Bo Aq) (Qn 10 rfl (Qc rfl (hlist)) ?_);refine Qn 11 rfl (A3 rfl rfl rfl (by unfold maxLen;(try simp only [Cb,Cj,Cw]);omega)) ?_;refine Qn 12 rfl (A3 rfl rfl rfl (by unfold maxLen;(try simp only [Cb,Cj,Cw]);omega)) ?_;refine Qn 13 rfl D1 ?_;refine Ej ?_;refine A5 (AW.ret (Qr (.str _) ?_));rw [e];simp only [J1];rfl
 rw [Bi hc1] at e;refine A7 (AW.seq ?_);refine Gi ?_;refine Qn 0 rfl D2 ?_;refine Qn 1 rfl (A3 rfl rfl rfl (by unfold maxLen;(try simp only [Cb,Cj,Cw]);omega)) ?_;refine Qn 2 rfl (Qf Ef) (Qn 3 rfl B7 ?_);refine Qn 4 rfl (Aa (c:=Aq) tok rfl rfl rfl rfl rfl rfl (by decide) (Cl (k:=1) (a:=q1) (by rw [hq];rfl))) ?_;refine Qn 5 rfl (Bo Aq) (Qn 6 rfl (Qc rfl (h1.1)) ?_);refine Qn 7 rfl (A3 rfl rfl rfl (by unfold maxLen;(try simp only [Cb,Cj,Cw]);omega)) ?_;refine Qn 8 rfl (A3 rfl rfl rfl (by unfold maxLen;(try simp only [Cb,Cj,Cw]);omega)) ?_;refine Qn 9 rfl (Bo Aq) (Qn 10 rfl (Qc rfl (hlist)) ?_);refine Qn 11 rfl (A3 rfl rfl rfl (by unfold maxLen;(try simp only [Cb,Cj,Cw]);omega)) ?_;refine Qn 12 rfl (A3 rfl rfl rfl (by unfold maxLen;(try simp only [Cb,Cj,Cw]);omega)) ?_;refine Qn 13 rfl D1 ?_;refine Ej ?_;refine A5 (AW.ret (Qr (.str _) ?_));rw [e];simp only [Cm,J1];rfl
end Go.Proofs.YtckhoadldibflaaGreatDoor
