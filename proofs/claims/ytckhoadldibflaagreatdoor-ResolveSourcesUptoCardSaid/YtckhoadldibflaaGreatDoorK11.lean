/-
  Several texts in one: W13r, W13s, W13t, W13u, R17w, R18w, R42w. No condition.
-/
import Derived.Test.YtckhoadldibflaaGreatDoorK01
import Derived.Test.YtckhoadldibflaaGreatDoorK08
import Derived.KernelRfl
import Derived.Test.YtckhoadldibflaaGreatDoorK07
import Derived.Test.YtckhoadldibflaaGreatDoorK10
import Derived.Test.YtckhoadldibflaaGreatDoorK06
import Derived.Test.YtckhoadldibflaaGreatDoorK05
set_option linter.unusedVariables false
set_option linter.unusedSimpArgs false
set_option maxHeartbeats 12800000
set_option maxRecDepth 20000
namespace Go.Proofs.YtckhoadldibflaaGreatDoor
open Go Go.Aw
def nmR (s:Av):Bool:=Il s==0
theorem nmR_eq (s:Av):nmR s=Q3 s:=by unfold nmR Q3;rw [K5]
def K9 (k r:Int):Bool:=
 if (r==5) then isPat k else if (r==7) then isExp k else if (r==6) then (k==5) else if (r==8) then (k==13) else if (r==0) then (k==0) else if (r==1) then (k==1) else if (r==2) then (k==2) else if (r==3) then (k==3) else (k==4)
theorem stands_eq {p:Pl}(h:p.ok)(k:Int):K9 k p.role=p.at k:=by
 cases p with
 | pats=>rfl
 | exps=>rfl
 | only n=>rcases h with rfl | rfl | rfl | rfl | rfl | rfl | rfl <;> rfl
def Oi (t:Syn):Bool:=
 if (t.kind==0)||(t.kind==1) then true
 else if (t.kind==3) then decide (3<=(t.kids.length:Int))
 else if (t.kind==5) then decide ((t.kids.length:Int)<=1)
 else if ((t.kind==6)||(t.kind==7))||(t.kind==8) then decide (2<=(t.kids.length:Int))
 else if ((t.kind==9)||(t.kind==11))||(t.kind==18) then ((t.kids.length:Int)==1)
 else if ((t.kind==10)||(t.kind==12))||(t.kind==17) then ((t.kids.length:Int)==2)
 else if (t.kind==16) then (((t.kids.length:Int)==1)&&(t.num != 1))||(((t.kids.length:Int)==0)&&(t.num==1))
 else ((t.kids.length:Int)==0)
theorem shape_eq (t:Syn):Oi t=Fy t:=by
 have e:((((t.kids.length:Int)==1)&&(t.num != 1))||(((t.kids.length:Int)==0)&&(t.num==1)))=if (t.num==1) then ((t.kids.length:Int)==0) else ((t.kids.length:Int)==1):=by
  cases h:(t.num==1) <;> simp [bne,h]
 unfold Oi Fy;rw [e]
def Tz (t:Syn):Bool:=
 if (((t.kind==1)||(t.kind==2))||(t.kind==3))||(t.kind==15) then Q3 t.text
 else if (t.kind==4) then (t.text == [])||Q3 t.text
 else if (t.kind==5)||(t.kind==16) then Q3 t.text&&Q3 t.name
 else if (t.kind==14) then Q3 t.text&&((t.name==F6)||Q3 t.name)
 else true
theorem fL (k:Int):(k=0\/k=1\/k=2\/k=3\/k=4\/k=5\/k=6\/k=7\/k=8\/k=9\/k=10\/k=11\/k=12\/k=13\/k=14\/k=15\/k=16\/k=17\/k=18)\/(∀n:Int,0<=n->n<=18->(k==n)=false):=by
 by_cases h:0<=k/\k<=18
 . left;omega
 right;intro n h0 h1;simp only [F0];omega
theorem names_eq (t:Syn):Tz t=Wm t:=by
 unfold Tz Wm Te;rcases fL t.kind with h | h
 . rcases h with h | h | h | h | h | h | h | h | h | h | h | h | h | h | h | h | h | h | h <;> rw [h] <;> cases h1:Q3 t.text <;> cases h2:Q3 t.name <;> cases h3:(t.text == []) <;> cases h4:(t.name==F6) <;> rfl
 rw [h 1 (by decide) (by decide),h 2 (by decide) (by decide),h 3 (by decide) (by decide),h 4 (by decide) (by decide),h 5 (by decide) (by decide),h 14 (by decide) (by decide),h 15 (by decide) (by decide),h 16 (by decide) (by decide)];rfl
def Jc (t:Syn):Int:=
 if (t.name==Gd) then if (decide (t.num < -1099511627776)||decide (1099511627776<t.num)) then 2 else if !(t.text == []) then 3 else 0
 else if (t.name==E6) then if ((t.num != 0)&&(t.num != 1)) then 2 else if !(t.text == []) then 3 else 0
 else if (t.name==D4) then if decide (64<(t.text.length:Int)) then 13 else if (t.num != 0) then 3 else 0
 else 1
theorem yV (t:Syn):Jc t=G7 t:=by
 have e:((t.num != 0)&&(t.num != 1))=(decide (t.num<0)||decide (1<t.num)):=by
  rw [Sq];simp only [Cz,bne_iff_ne,Ff,Dp];omega
 unfold Jc G7;rw [e]
def textU (k:Int):Bool:=(((((((k==1)||(k==2))||(k==3))||(k==4))||(k==5))||(k==14))||(k==15))||(k==16)
def nameU (k:Int):Bool:=((k==5)||(k==14))||(k==16)
def Td (t:Syn)(u:Int):Int:=if ((u != 0)||(!(textU t.kind) && !(t.text == [])))||(!(nameU t.kind) && !(t.name == [])) then 3 else 0
def J2 (t:Syn):Int:=
 if (t.kind==13) then G7 t
 else if (t.kind==2) then if (decide (t.num<0)||decide (2<t.num)) then 1 else Td t 0
 else if (t.kind==16) then if (decide (t.num<1)||decide (5<t.num)) then 1 else Td t 0
 else if (t.kind==17) then if (decide (t.num<5)||decide (11<t.num)) then 1 else Td t 0
 else if (t.kind==11) then if (decide (t.num<0)||decide (1099511627776<t.num)) then 2 else Td t 0
 else Td t t.num
theorem uses_eq (k:Int):Te k=(textU k,nameU k):=by
 unfold Te textU nameU;rcases fL k with h | h
 . rcases h with h | h | h | h | h | h | h | h | h | h | h | h | h | h | h | h | h | h | h <;> rw [h] <;> rfl
 rw [h 1 (by decide) (by decide),h 2 (by decide) (by decide),h 3 (by decide) (by decide),h 4 (by decide) (by decide),h 5 (by decide) (by decide),h 14 (by decide) (by decide),h 15 (by decide) (by decide),h 16 (by decide) (by decide)];rfl
theorem zJ (t:Syn):J2 t=D8 t:=by
 unfold J2 D8 Q5 Td;rw [uses_eq]
 have e:(decide (t.num<0)||decide (0<t.num))=(t.num != 0):=by
  rw [Sq];simp only [bne_iff_ne,Ff,Dp];omega
 rw [e];cases h13:(t.kind==13)
 .
  cases h2:(t.kind==2)
  .
   cases h16:(t.kind==16)
   .
    cases h17:(t.kind==17)
    .
     cases h11:(t.kind==11)
     . cases hn:(t.num != 0) <;> simp
     cases hn:(decide (t.num<0)||decide (1099511627776<t.num)) <;> simp
    cases hn:(decide (t.num<5)||decide (11<t.num)) <;> simp
   cases hn:(decide (t.num<1)||decide (5<t.num)) <;> simp
  cases hn:(decide (t.num<0)||decide (2<t.num)) <;> simp
 simp
def Wh (t:Syn)(i:Nat):Int:=
 if (t.kind==0) then if ((Cd t i).kind==1)&&(((i:Int)==0)||((Cd t (i-1)).kind==1)) then 1 else 3
 else if (t.kind==1) then 2
 else if (t.kind==3) then if decide ((i:Int)<2) then 4+(i:Int) else 7
 else if (t.kind==10) then if ((i:Int)==1) then 6 else 5
 else if (t.kind==12) then if ((i:Int)==1) then 7 else 5
 else if (t.kind==16) then 8
 else if ((t.kind==5)||(t.kind==17))||(t.kind==18) then 7
 else 5
def vO (p k:Int):Bool:=((k==17)&&((p==17)||(p==18)))||((k==18)&&(p==17))
theorem yT (p k:Int):vO p k=Gq p k:=by
 unfold vO Gq;cases h1:(p==17)
 . cases h2:(p==18) <;> cases (k==17) <;> cases (k==18) <;> rfl
 have h2:(p==18)=false:=by
  have:p=17:=by simpa using h1
  rw [this];rfl
 rw [h2];cases (k==17) <;> cases (k==18) <;> rfl
theorem kid_role (t:Syn)(i:Nat):Wh t i=(G1 t i).role:=by
  have e:(if decide ((i:Int)<2) then 4+(i:Int) else 7)=(if ((i:Int)==0) then Pl.only 4 else if ((i:Int)==1) then Pl.pats else Pl.exps).role:=by
    match i with
    | 0=>rfl
    | 1=>rfl
    | n+2=>
      have h1:decide (((n+2:Nat):Int)<2)=false:=by simp;omega
      have h2:(((n+2:Nat):Int)==0)=false:=by simp;omega
      have h3:(((n+2:Nat):Int)==1)=false:=by simp;omega
      rw [h1,h2,h3];rfl
  unfold Wh G1;rw [e]
  repeat' split
  all_goals rfl
theorem kid_fine (t:Syn)(i:Nat):(G1 t i).ok:=by
 unfold G1
 repeat' split
 all_goals simp [Pl.ok]
theorem xG (k:Int):Ak Tryz.prog 242 [.int .i64 k] (.bool (isPat k)):=by
 refine Cw 9 Tryz.func242 rfl fun H=>?_
 refine Aa (Qp Ao (B2 (Qp Ai (Qp Fc (Qp A8 (Qg [] Qw Ai (Qg [(6,_)] Qw Mk (Qp Ej (Qp Ao (Rb (Qr (.bool _) ?_)))))))))));rfl
theorem r_isExp (k:Int):Ak Tryz.prog 291 [.int .i64 k] (.bool (isExp k)):=by
 refine Cw 9 Tryz.func291 rfl fun H=>?_
 refine Aa (Qp Ao (B2 (Qp Ai (Qp Fc (Qp A8 (Qg [] Qw Ai (Qg [(6,_)] Qw Mk (Qp Ej (Qp Ao (Rb (Qr (.bool _) ?_)))))))))));rfl
theorem r_stands (k r:Int):Ak Tryz.prog 236 [.int .i64 k,.int .i64 r] (.bool (K9 k r)):=by
 refine Cw 40 Tryz.func236 rfl fun H=>?_
 refine Aa (Qp Ao (Aq (Ba (Qp Ai (Aq (AW.block (Aa (Qp Aj (Qp Ao (Ap (fun hc1=>Aa (Qp Ai (Qp (Qc rfl (xG k)) (Qp Ao (Ra (Qr (.bool _) ?_)))))) fun hc1=>Aa (Qp Aj (Qp Ao (Ap (fun hc2=>Aa (Qp Ai (Qp (Qc rfl (r_isExp k)) (Qp Ao (Ra (Qr (.bool _) ?_)))))) fun hc2=>?_)))))))))))))
 . simp only [Ad,K9,hc1,↓reduceIte,Al]
 . simp only [Ad,K9,hc1,hc2,↓reduceIte,Al]
 refine Aa (Qp Aj (Qp Ao (Ap (fun hc3=>Aa (Qp Ai (Qp Aj (Qp Ao (Ra (Qr (.bool _) ?_)))))) fun hc3=>Aa (Qp Aj (Qp Ao (Ap (fun hc4=>Aa (Qp Ai (Qp Aj (Qp Ao (Ra (Qr (.bool _) ?_)))))) fun hc4=>?_))))))
 . simp only [Ad,K9,hc1,hc2,hc3,↓reduceIte,Al]
 . simp only [Ad,K9,hc1,hc2,hc3,hc4,↓reduceIte,Al]
 refine Aa (Qp Aj (Qp Ao (Ap (fun hc5=>Aa (Qp Ai (Qp Aj (Qp Ao (Ra (Qr (.bool _) ?_)))))) fun hc5=>Aa (Qp Aj (Qp Ao (Ap (fun hc6=>Aa (Qp Ai (Qp Aj (Qp Ao (Ra (Qr (.bool _) ?_)))))) fun hc6=>?_))))))
 . simp only [Ad,K9,hc1,hc2,hc3,hc4,hc5,↓reduceIte,Al]
 . simp only [Ad,K9,hc1,hc2,hc3,hc4,hc5,hc6,↓reduceIte,Al]
 refine Aa (Qp Aj (Qp Ao (Ap (fun hc7=>Aa (Qp Ai (Qp Aj (Qp Ao (Ra (Qr (.bool _) ?_)))))) fun hc7=>Aa (Qp Aj (Qp Ao (Ap (fun hc8=>Aa (Qp Ai (Qp Aj (Qp Ao (Ra (Qr (.bool _) ?_)))))) fun hc8=>Rf (Aa (Qp Ai (Qp Aj (Qp Ao (Rb (Qr (.bool _) ?_))))))))))))
 . simp only [Ad,K9,hc1,hc2,hc3,hc4,hc5,hc6,hc7,↓reduceIte,Al]
 . simp only [Ad,K9,hc1,hc2,hc3,hc4,hc5,hc6,hc7,hc8,↓reduceIte,Al]
 simp only [Ad,K9,hc1,hc2,hc3,hc4,hc5,hc6,hc7,hc8,↓reduceIte,Al]
theorem r_shape (t:Syn):Ak Tryz.prog 237 [.agg (cSyn t)] (.bool (Oi t)):=by
 refine Cw 58 Tryz.func237 rfl fun H=>?_
 refine Aa (Qp (Eh Ag) (Qp Ao (B2 (Qp (Qf Iv) (Qp Cg ?_)))));refine Qp (Da t.kids.length rfl rfl (by simp)) ?_;refine Qp Ah (Aq (Ba (Qp (Qf Ag) (Qp Be (Aq (AW.block ?_))))));refine AW.Aar (fun (_:Unit)=>(⟨[(1,.ptr (cSyn t)),(3,.int .i64 (t.kids.length:Int)),(8,.int .i64 t.kind),(9,.bool (((t.kind==0)||(t.kind==1))))],H,58⟩:St)) (fun _=>True) ?_ ?_
 .
  refine Aa (Qp Aj (Qp Ao (Ap (fun hc1=>A5 ?_) fun hc1=>AW.region (Qp Aj (Qp Ao (Aq ?_))))))
  .
   refine ⟨(),?_,GS.weaken ⟨rfl,rfl,rfl,congrArg AV.bool (by simp [*]),trivial⟩ (.refl _)⟩
   trivial
  refine ⟨(),?_,GS.weaken ⟨rfl,rfl,rfl,congrArg AV.bool (by simp [*]),trivial⟩ (.refl _)⟩
  trivial
 rintro _ _;refine E9 (fun hc2=>Aa (Qp Ao (Ra (Qr (.bool _) ?_)))) fun hc2=>Aa (Qp Aj (Qp Ao (Ap (fun hc3=>Aa (Qp Ai (Qp Fc (Qp Ao (Ra (Qr (.bool _) ?_)))))) fun hc3=>Aa (Qp Aj (Qp Ao (Ap (fun hc4=>Aa (Qp Ai (Qp Mk (Qp Ao (Ra (Qr (.bool _) ?_)))))) fun hc4=>?_))))))
 . simp only [Ad,Oi,hc2,↓reduceIte,Al]
 . simp only [Ad,Oi,hc2,hc3,↓reduceIte,Al]
 . simp only [Ad,Oi,hc2,hc3,hc4,↓reduceIte,Al]
 refine AW.Aar (fun (_:Unit)=>(⟨[(1,.ptr (cSyn t)),(3,.int .i64 (t.kids.length:Int)),(8,.int .i64 t.kind),(20,.bool ((((t.kind==6)||(t.kind==7))||(t.kind==8))))],H,58⟩:St)) (fun _=>True) ?_ ?_
 .
  refine Aa (Qp Aj (Qp Ao (Ap (fun hc5=>A5 ?_) fun hc5=>Aa (Qp Aj (Qp Ao (Ap (fun hc6=>A5 ?_) fun hc6=>AW.region (Qp Aj (Qp Ao (Aq ?_)))))))))
  .
   refine ⟨(),?_,GS.weaken ⟨rfl,rfl,rfl,congrArg AV.bool (by simp [*]),trivial⟩ (.refl _)⟩
   trivial
  .
   refine ⟨(),?_,GS.weaken ⟨rfl,rfl,rfl,congrArg AV.bool (by simp [*]),trivial⟩ (.refl _)⟩
   trivial
  refine ⟨(),?_,GS.weaken ⟨rfl,rfl,rfl,congrArg AV.bool (by simp [*]),trivial⟩ (.refl _)⟩
  trivial
 rintro _ _;refine E9 (fun hc7=>Aa (Qp Ai (Qp Fc (Qp Ao (Ra (Qr (.bool _) ?_)))))) fun hc7=>?_
 . simp only [Ad,Oi,hc2,hc3,hc4,hc7,↓reduceIte,Al]
 refine AW.Aar (fun (_:Unit)=>(⟨[(1,.ptr (cSyn t)),(3,.int .i64 (t.kids.length:Int)),(8,.int .i64 t.kind),(26,.bool ((((t.kind==9)||(t.kind==11))||(t.kind==18))))],H,58⟩:St)) (fun _=>True) ?_ ?_
 .
  refine Aa (Qp Aj (Qp Ao (Ap (fun hc8=>A5 ?_) fun hc8=>Aa (Qp Aj (Qp Ao (Ap (fun hc9=>A5 ?_) fun hc9=>AW.region (Qp Aj (Qp Ao (Aq ?_)))))))))
  .
   refine ⟨(),?_,GS.weaken ⟨rfl,rfl,rfl,congrArg AV.bool (by simp [*]),trivial⟩ (.refl _)⟩
   trivial
  .
   refine ⟨(),?_,GS.weaken ⟨rfl,rfl,rfl,congrArg AV.bool (by simp [*]),trivial⟩ (.refl _)⟩
   trivial
  refine ⟨(),?_,GS.weaken ⟨rfl,rfl,rfl,congrArg AV.bool (by simp [*]),trivial⟩ (.refl _)⟩
  trivial
 rintro _ _;refine E9 (fun hc10=>Aa (Qp Ai (Qp Aj (Qp Ao (Ra (Qr (.bool _) ?_)))))) fun hc10=>?_
 . simp only [Ad,Oi,hc2,hc3,hc4,hc7,hc10,↓reduceIte,Al]
 refine AW.Aar (fun (_:Unit)=>(⟨[(1,.ptr (cSyn t)),(3,.int .i64 (t.kids.length:Int)),(8,.int .i64 t.kind),(32,.bool ((((t.kind==10)||(t.kind==12))||(t.kind==17))))],H,58⟩:St)) (fun _=>True) ?_ ?_
 .
  refine Aa (Qp Aj (Qp Ao (Ap (fun hc11=>A5 ?_) fun hc11=>Aa (Qp Aj (Qp Ao (Ap (fun hc12=>A5 ?_) fun hc12=>AW.region (Qp Aj (Qp Ao (Aq ?_)))))))))
  .
   refine ⟨(),?_,GS.weaken ⟨rfl,rfl,rfl,congrArg AV.bool (by simp [*]),trivial⟩ (.refl _)⟩
   trivial
  .
   refine ⟨(),?_,GS.weaken ⟨rfl,rfl,rfl,congrArg AV.bool (by simp [*]),trivial⟩ (.refl _)⟩
   trivial
  refine ⟨(),?_,GS.weaken ⟨rfl,rfl,rfl,congrArg AV.bool (by simp [*]),trivial⟩ (.refl _)⟩
  trivial
 rintro _ _;refine E9 (fun hc13=>Aa (Qp Ai (Qp Aj (Qp Ao (Ra (Qr (.bool _) ?_)))))) fun hc13=>?_
 . simp only [Ad,Oi,hc2,hc3,hc4,hc7,hc10,hc13,↓reduceIte,Al]
 refine Aa (Qp Aj (Qp Ao (Ap (fun hc14=>Aa (Qp Ai (Qp Aj (Qp A8 (Qg [] Qw (Qf M7) (Qg [(43,_)] Qw Be (Qg [(44,_)] Qw Bq (Qp Ej (Qp A8 (Qg [] Qw Ai ?_)))))))))) fun hc14=>Rf (Aa (Qp Ai (Qp Aj (Qp Ao (Rb (Qr (.bool _) ?_)))))))))
 .
  refine Qg [(48,_)] Qw Aj (Qg [(49,_)] Qw A8 (Qg [] Qw (Qf M7) (Qg [(51,_)] Qw Be (Qg [(52,_)] Qw Aj (Qg [(50,_),(53,_)] Qw Ej (Qp Cr (Qp Ao (Rb (Cn (Au (Qr (.bool _) ?_)))))))))));simp only [Ad,Oi,hc2,hc3,hc4,hc7,hc10,hc13,hc14,↓reduceIte,Al]
 simp only [Ad,Oi,hc2,hc3,hc4,hc7,hc10,hc13,hc14,↓reduceIte,Al]
theorem aI (s:Av)(hl:s.length<=1048576):Ak Tryz.prog 292 [.str s] (.bool (Q3 s)):=by
 refine Cw 6 Tryz.func292 rfl fun H=>?_
 refine Aa (Qp Ao (B2 (Qp D3 (Qp (Qc rfl (c21 s hl)) (Qp Aj (Qp Ao (Rb (Qr (.bool _) ?_))))))));rw [<-nmR_eq];rfl
theorem r_names (t:Syn)(ht:t.text.length<=1048576)(hn:t.name.length<=1048576):Ak Tryz.prog 238 [.agg (cSyn t)] (.bool (Tz t)):=by
 refine Cw 49 Tryz.func238 rfl fun H=>?_
 refine Aa (Qp (Eh Ag) (Qp Ao (Aq (Ba (Qp (Qf Ag) (Qp Be (Aq (AW.block ?_))))))));refine AW.Aar (fun (_:Unit)=>(⟨[(1,.ptr (cSyn t)),(4,.int .i64 t.kind),(5,.bool (((((t.kind==1)||(t.kind==2))||(t.kind==3))||(t.kind==15))))],H,49⟩:St)) (fun _=>True) ?_ ?_
 .
  refine Aa (Qp Aj (Qp Ao (Ap (fun hc1=>A5 ?_) fun hc1=>Aa (Qp Aj (Qp Ao (Ap (fun hc2=>A5 ?_) fun hc2=>Aa (Qp Aj (Qp Ao (Ap (fun hc3=>A5 ?_) fun hc3=>AW.region (Qp Aj (Qp Ao (Aq ?_))))))))))))
  .
   refine ⟨(),?_,GS.weaken ⟨rfl,rfl,congrArg AV.bool (by simp [*]),trivial⟩ (.refl _)⟩
   trivial
  .
   refine ⟨(),?_,GS.weaken ⟨rfl,rfl,congrArg AV.bool (by simp [*]),trivial⟩ (.refl _)⟩
   trivial
  .
   refine ⟨(),?_,GS.weaken ⟨rfl,rfl,congrArg AV.bool (by simp [*]),trivial⟩ (.refl _)⟩
   trivial
  refine ⟨(),?_,GS.weaken ⟨rfl,rfl,congrArg AV.bool (by simp [*]),trivial⟩ (.refl _)⟩
  trivial
 rintro _ _;refine E9 (fun hc4=>Aa (Qp (Qf Oy) (Qp Dk ?_))) fun hc4=>Aa (Qp Aj (Qp Ao (Ap (fun hc5=>Aa (Qp (Qf Oy) (Qp Dk (Qp (A9 rfl rfl) (Qp A8 (Qg [] Qw (Qf Oy) (Qg [(19,_)] Qw Dk ?_))))))) fun hc5=>?_)))
 .
  refine Qp (Qc rfl (aI _ (by assumption))) ?_;refine Qp Ao (Ra (Qr (.bool _) ?_));simp only [Ad,Tz,hc4,↓reduceIte,Al]
 .
  refine Qg [(20,_)] Qw (Qc rfl (aI _ (by assumption))) ?_;refine Qp Cr (Qp Ao (Ra (Qr (.bool _) ?_)));simp only [Ad,Tz,hc4,hc5,↓reduceIte,Al]
 refine AW.Aar (fun (_:Unit)=>(⟨[(1,.ptr (cSyn t)),(4,.int .i64 t.kind),(23,.bool (((t.kind==5)||(t.kind==16))))],H,49⟩:St)) (fun _=>True) ?_ ?_
 .
  refine Aa (Qp Aj (Qp Ao (Ap (fun hc6=>A5 ?_) fun hc6=>AW.region (Qp Aj (Qp Ao (Aq ?_))))))
  .
   refine ⟨(),?_,GS.weaken ⟨rfl,rfl,congrArg AV.bool (by simp [*]),trivial⟩ (.refl _)⟩
   trivial
  refine ⟨(),?_,GS.weaken ⟨rfl,rfl,congrArg AV.bool (by simp [*]),trivial⟩ (.refl _)⟩
  trivial
 rintro _ _;refine E9 (fun hc7=>Aa (Qp (Qf Oy) (Qp Dk ?_))) fun hc7=>Aa (Qp Aj (Qp Ao (Ap (fun hc8=>Aa (Qp (Qf Oy) (Qp Dk ?_))) fun hc8=>Rf (Aa (Qp Ao (Rb (Qr (.bool _) ?_)))))))
 .
  refine Qp (Qc rfl (aI _ (by assumption))) ?_;refine Qp A8 (Qg [] Qw (Qf Xe) (Qg [(30,_)] Qw Dk ?_));refine Qg [(31,_)] Qw (Qc rfl (aI _ (by assumption))) ?_;refine Qp Ej (Qp Ao (Ra (Qr (.bool _) ?_)));simp only [Ad,Tz,hc4,hc5,hc7,↓reduceIte,Al]
 .
  refine Qp (Qc rfl (aI _ (by assumption))) ?_;refine Qp A8 (Qg [] Qw (Qf Xe) (Qg [(40,_)] Qw Dk (Qg [(41,_)] Qw (A9 rfl rfl) (Qg [(42,_)] Qw A8 (Qg [] Qw (Qf Xe) (Qg [(44,_)] Qw Dk ?_))))));refine Qg [(45,_)] Qw (Qc rfl (aI _ (by assumption))) ?_;refine Qg [(43,_),(46,_)] Qw Cr (Qp Ej (Qp Ao (Ra (Qr (.bool _) ?_))));simp only [Ad,Tz,hc4,hc5,hc7,hc8,↓reduceIte,Al]
 simp only [Ad,Tz,hc4,hc5,hc7,hc8,↓reduceIte,Al]
theorem r_const (t:Syn):Ak Tryz.prog 293 [.agg (cSyn t)] ((.int .i64 (Jc t))):=by
 refine Cw 40 Tryz.func293 rfl fun H=>?_
 refine Aa (Qp (Eh Ag) (Qp Ah (Aq (Ba (Qp (Qf Xe) (Qp Dk (Aq (AW.block (Aa (Qp (A9 rfl rfl) (Qp Ao (Ap (fun hc1=>Ba (Qp (Qf M7) (Qp Be (Qp Bt (Qp A8 (Qg [] Qw (Qf M7) (Qg [(11,_)] Qw Be (Qg [(12,_)] Qw De (Qp Cr ?_))))))))) fun hc1=>?_))))))))))))
 .
  refine Ap (fun hc2=>Aa (Qp Ah (Rc (Cn (Au (Qr (Iq _) ?_)))))) fun hc2=>A5 (Aa (Qp (Qf Oy) (Qp Dk (Qp (Dq rfl rfl) (Ap (fun hc3=>Aa (Qp Ah (Ra (Qr (Iq _) ?_)))) fun hc3=>Rf (Aa (Qp Ah (Rb (Qr (Iq _) ?_)))))))))
  .
   simp only [Ad,Jc];rw [if_pos hc1,if_pos hc2]
  .
   simp only [Ad,Jc];rw [if_pos hc1,Bl hc2,if_pos hc3]
  simp only [Ad,Jc];rw [if_pos hc1,Bl hc2,Bl hc3]
 refine Aa (Qp (A9 rfl rfl) (Qp Ao (Ap (fun hc4=>Ba (Qp (Qf M7) (Qp Be (Qp Bq (Qp A8 (Qg [] Qw (Qf M7) (Qg [(24,_)] Qw Be (Qg [(25,_)] Qw Bq (Qp Ej ?_))))))))) fun hc4=>?_)))
 .
  refine Ap (fun hc5=>Aa (Qp Ah (Rc (Cn (Au (Qr (Iq _) ?_)))))) fun hc5=>A5 (Aa (Qp (Qf Oy) (Qp Dk (Qp (Dq rfl rfl) (Ap (fun hc6=>Aa (Qp Ah (Ra (Qr (Iq _) ?_)))) fun hc6=>Rf (Aa (Qp Ah (Rb (Qr (Iq _) ?_)))))))))
  .
   simp only [Ad,Jc];rw [Bl hc1,if_pos hc4,if_pos hc5]
  .
   simp only [Ad,Jc];rw [Bl hc1,if_pos hc4,Bl hc5,if_pos hc6]
  simp only [Ad,Jc];rw [Bl hc1,if_pos hc4,Bl hc5,Bl hc6]
 refine Aa (Qp (A9 rfl rfl) (Qp Ao (Ap (fun hc7=>Ba (Qp (Qf Oy) (Qp Dk (Qp (Ck tok rfl rfl rfl rfl) (Qp De (Ap (fun hc8=>Aa (Qp Ah (Rc (Cn (Au (Qr (Iq _) ?_)))))) fun hc8=>A5 (Aa (Qp (Qf M7) (Qp Be (Qp Bq (Ap (fun hc9=>Aa (Qp Ah (Ra (Qr (Iq _) ?_)))) fun hc9=>Rf (Aa (Qp Ah (Rb (Qr (Iq _) ?_))))))))))))))) fun hc7=>?_)))
 .
  simp only [Ad,Jc];rw [Bl hc1,Bl hc4,if_pos hc7,if_pos hc8]
 .
  simp only [Ad,Jc];rw [Bl hc1,Bl hc4,if_pos hc7,Bl hc8,if_pos hc9]
 .
  simp only [Ad,Jc];rw [Bl hc1,Bl hc4,if_pos hc7,Bl hc8,Bl hc9]
 refine Aa (Qp Ah (Ra (Qr (Iq _) ?_)));simp only [Ad,Jc];rw [Bl hc1,Bl hc4,Bl hc7]
theorem r_number (t:Syn):Ak Tryz.prog 239 [.agg (cSyn t)] (.int .i64 (J2 t)):=by
 refine Cw 125 Tryz.func239 rfl fun H=>?_
 refine Aa (Qp (Eh Ag) (Qp Ah (B2 (Qp (Qf M7) (Qp Be (Qp Ah (Aq ?_)))))));refine AW.Aar (fun (u:Int)=>(⟨[(1,.ptr (cSyn t)),(3,.int .i64 u)],H,125⟩:St)) (fun u=>J2 t=Td t u) ?_ ?_
 .
  refine Aa (Qp (Qf Ag) (Qp Be (Aq (AW.block (Aa (Qp Aj (Qp Ao (Ap (fun hc1=>Aa (Qp (B1 Ag) (Qp (Qc rfl ((yV t▸r_const t))) (Qp Ah (Ra (Qr (Iq _) ?_)))))) fun hc1=>?_))))))))
  .
   have h9:J2 t=G7 t:=if_pos hc1;rw [h9];rfl
  refine Aa (Qp Aj (Qp Ao (Ap (fun hc2=>?_) fun hc2=>Aa (Qp Aj (Qp Ao (Ap (fun hc4=>?_) fun hc4=>Aa (Qp Aj (Qp Ao (Ap (fun hc6=>?_) fun hc6=>Aa (Qp Aj (Qp Ao (Ap (fun hc8=>?_) fun hc8=>?_))))))))))))
  .
   have h8:J2 t=if (decide (t.num<0)||decide (2<t.num)) then 1 else Td t 0:=(Bl hc1).trans (if_pos hc2)
   refine Ba (Qp (Qf M7) (Qp Be (Qp Bt (Qp A8 (Qg [] Qw (Qf M7) (Qg [(20,_)] Qw Be (Qg [(21,_)] Qw De (Qp Cr (Ap (fun hc3=>Aa (Qp Ah (Rc (Cn (Au (Qr (Iq _) ?_)))))) fun hc3=>A5 (AW.region (Qp Ah (Rk ?_))))))))))))
   . rw [h8,if_pos hc3];rfl
   refine ⟨0,?_,Bx⟩;exact h8.trans (Bl hc3)
  .
   have h8:J2 t=if (decide (t.num<1)||decide (5<t.num)) then 1 else Td t 0:=((Bl hc1).trans (Bl hc2)).trans (if_pos hc4)
   refine Ba (Qp (Qf M7) (Qp Be (Qp Bt (Qp A8 (Qg [] Qw (Qf M7) (Qg [(30,_)] Qw Be (Qg [(31,_)] Qw De (Qp Cr (Ap (fun hc5=>Aa (Qp Ah (Rc (Cn (Au (Qr (Iq _) ?_)))))) fun hc5=>A5 (AW.region (Qp Ah (Rk ?_))))))))))))
   . rw [h8,if_pos hc5];rfl
   refine ⟨0,?_,Bx⟩;exact h8.trans (Bl hc5)
  .
   have h8:J2 t=if (decide (t.num<5)||decide (11<t.num)) then 1 else Td t 0:=(((Bl hc1).trans (Bl hc2)).trans (Bl hc4)).trans (if_pos hc6)
   refine Ba (Qp (Qf M7) (Qp Be (Qp Bt (Qp A8 (Qg [] Qw (Qf M7) (Qg [(40,_)] Qw Be (Qg [(41,_)] Qw De (Qp Cr (Ap (fun hc7=>Aa (Qp Ah (Rc (Cn (Au (Qr (Iq _) ?_)))))) fun hc7=>A5 (AW.region (Qp Ah (Rk ?_))))))))))))
   . rw [h8,if_pos hc7];rfl
   refine ⟨0,?_,Bx⟩;exact h8.trans (Bl hc7)
  .
   have h8:J2 t=if (decide (t.num<0)||decide (1099511627776<t.num)) then 2 else Td t 0:=((((Bl hc1).trans (Bl hc2)).trans (Bl hc4)).trans (Bl hc6)).trans (if_pos hc8)
   refine Ba (Qp (Qf M7) (Qp Be (Qp Bt (Qp A8 (Qg [] Qw (Qf M7) (Qg [(50,_)] Qw Be (Qg [(51,_)] Qw De (Qp Cr (Ap (fun hc9=>Aa (Qp Ah (Rc (Cn (Au (Qr (Iq _) ?_)))))) fun hc9=>A5 (AW.region (Qp Ah (Rk ?_))))))))))))
   . rw [h8,if_pos hc9];rfl
   refine ⟨0,?_,Bx⟩;exact h8.trans (Bl hc9)
  have h8:J2 t=Td t t.num:=((((Bl hc1).trans (Bl hc2)).trans (Bl hc4)).trans (Bl hc6)).trans (Bl hc8);refine Rf ?_;refine ⟨t.num,?_,Bx⟩;exact h8
 rintro u hR;refine Aa (Qp (Qf Ag) (Qp Be (Qp Aj (Qp A8 (Qg [] Qw (Qf Ag) (Qg [(58,_)] Qw Be (Qg [(59,_)] Qw Aj (Qp Cr (Qp A8 ?_)))))))));refine Qg [] Qw (Qf Ag) (Qg [(63,_)] Qw Be (Qg [(64,_)] Qw Aj (Qp Cr (Qp A8 (Qg [] Qw (Qf Ag) (Qg [(68,_)] Qw Be (Qg [(69,_)] Qw Aj (Qp Cr (Qp A8 ?_)))))))));refine Qg [] Qw (Qf Ag) (Qg [(73,_)] Qw Be (Qg [(74,_)] Qw Aj (Qp Cr (Qp A8 (Qg [] Qw (Qf Ag) (Qg [(78,_)] Qw Be (Qg [(79,_)] Qw Aj (Qp Cr (Qp A8 ?_)))))))));refine Qg [] Qw (Qf Ag) (Qg [(83,_)] Qw Be (Qg [(84,_)] Qw Aj (Qp Cr (Qp A8 (Qg [] Qw (Qf Ag) (Qg [(88,_)] Qw Be (Qg [(89,_)] Qw Aj (Qp Cr (Qp Ao ?_)))))))));refine B2 (Qp (Qf Ag) (Qp Be (Qp Aj (Qp A8 (Qg [] Qw (Qf Ag) (Qg [(96,_)] Qw Be (Qg [(97,_)] Qw Aj (Qp Cr (Qp A8 ?_)))))))));refine Qg [] Qw (Qf Ag) (Qg [(101,_)] Qw Be (Qg [(102,_)] Qw Aj (Qp Cr (Qp Ao (Aq (Ba (Qp Ai (Qp Bq (Qp A8 (Qg [] Qw A8 (Qg [(108,_)] Qw E7 (Qg [(109,_)] Qw A8 (Qg [] Qw (Qf Oy) (Qg [(111,_)] Qw Dk ?_))))))))))))));refine Qg [(112,_)] Qw (Dq rfl rfl) (Qg [(110,_),(113,_)] Qw Ej (Qp Cr (Qp A8 (Qg [] Qw A8 (Qg [(117,_)] Qw E7 (Qg [(118,_)] Qw A8 (Qg [] Qw (Qf Xe) (Qg [(120,_)] Qw Dk ?_))))))));refine Qg [(121,_)] Qw (Dq rfl rfl) (Qg [(119,_),(122,_)] Qw Ej (Qp Cr (Ap (fun hc10=>Aa (Qp Ah (Rc (Qr (Iq _) ?_)))) fun hc10=>A5 (Aa (Qp Ah (Rb (Qr (Iq _) ?_)))))))
 .
  have h9:J2 t=3:=hR.trans (if_pos hc10);rw [h9];rfl
 have h9:J2 t=0:=hR.trans (Bl hc10);rw [h9];rfl
theorem r_kid (t:Syn)(i:Nat)(hi:i<t.kids.length)(hl:t.kids.length<=1048576):Ak Tryz.prog 240 [.agg (cSyn t),.int .i64 (i:Int)] (.int .i64 (Wh t i)):=by
 refine Cw 52 Tryz.func240 rfl fun H=>?_
 refine Aa (Qp (Eh Ag) (Qp Ah (Aq (Ba (Qp (Qf Ag) (Qp Be (Aq (AW.block (Aa (Qp Aj (Qp Ao (Ap (fun hc1=>Ba (Qp (Qf Iv) (Qp Cg (Qp Ai ?_)))) fun hc1=>?_))))))))))))
 .
  refine Qp (Cp (cSyn (Cd t i)) rfl rfl (by omega) (C8 (lP hi))) ?_;refine Qp (Qf Ag) (Qp Be (Qp Aj (Qp A8 (Qg [] Qw Ai (Qg [(17,_)] Qw Aj (Qg [(18,_)] Qw A8 (Qg [] Qw (Qf Iv) (Qg [(20,_)] Qw Cg (Qg [] Qw Ai ?_)))))))));refine Yh [(22,_)] Qw (fun hG=>P_sub rfl rfl rfl (by constructor <;> omega)) ?_;refine Yh [(21,_),(23,_)] (Yv rfl Es Es) (fun hG=>Cp (cSyn (Cd t (i-1))) rfl rfl ((X7 hi hG).1) ((X7 hi hG).2)) ?_;refine Qg [(24,_)] Qw (Qf Ag) (Qg [(25,_)] Qw Be (Qg [(26,_)] Qw Aj (Qg [(19,_),(27,_)] Qw Cr (Qp Ej (Ap (fun hc2=>Aa (Qp Ah (Rc (Cn (Au (Qr (Iq _) ?_)))))) fun hc2=>A5 (Aa (Qp Ah (Ra (Qr (Iq _) ?_)))))))))
  . simp only [Ad,Wh,hc1,hc2,↓reduceIte,Al]
  simp only [Ad,Wh,hc1,hc2,↓reduceIte,Al]
 refine Aa (Qp Aj (Qp Ao (Ap (fun hc3=>Aa (Qp Ah (Ra (Qr (Iq _) ?_)))) fun hc3=>Aa (Qp Aj (Qp Ao (Ap (fun hc4=>Ba (Qp Ai (Qp Bt (Ap (fun hc5=>Aa (Qp Ai (Qp Dt (Qp Ah (Rc (Cn (Au (Qr (Iq _) ?_)))))))) fun hc5=>A5 (Aa (Qp Ah (Ra (Qr (Iq _) ?_)))))))) fun hc4=>?_))))))
 . simp only [Ad,Wh,hc1,hc3,↓reduceIte,Al]
 . simp only [Ad,Wh,hc1,hc3,hc4,hc5,↓reduceIte,Al]
 . simp only [Ad,Wh,hc1,hc3,hc4,hc5,↓reduceIte,Al]
 refine Aa (Qp Aj (Qp Ao (Ap (fun hc6=>Ba (Qp Ai (Qp Aj (Ap (fun hc7=>Aa (Qp Ah (Rc (Cn (Au (Qr (Iq _) ?_)))))) fun hc7=>A5 (Aa (Qp Ah (Ra (Qr (Iq _) ?_)))))))) fun hc6=>?_)))
 . simp only [Ad,Wh,hc1,hc3,hc4,hc6,hc7,↓reduceIte,Al]
 . simp only [Ad,Wh,hc1,hc3,hc4,hc6,hc7,↓reduceIte,Al]
 refine Aa (Qp Aj (Qp Ao (Ap (fun hc8=>Ba (Qp Ai (Qp Aj (Ap (fun hc9=>Aa (Qp Ah (Rc (Cn (Au (Qr (Iq _) ?_)))))) fun hc9=>A5 (Aa (Qp Ah (Ra (Qr (Iq _) ?_)))))))) fun hc8=>Aa (Qp Aj (Qp Ao (Ap (fun hc10=>Aa (Qp Ah (Ra (Qr (Iq _) ?_)))) fun hc10=>?_))))))
 . simp only [Ad,Wh,hc1,hc3,hc4,hc6,hc8,hc9,↓reduceIte,Al]
 . simp only [Ad,Wh,hc1,hc3,hc4,hc6,hc8,hc9,↓reduceIte,Al]
 . simp only [Ad,Wh,hc1,hc3,hc4,hc6,hc8,hc10,↓reduceIte,Al]
 refine AW.Aar (fun (_:Unit)=>(⟨[(2,.ptr (cSyn t)),(48,.bool ((((t.kind==5)||(t.kind==17))||(t.kind==18))))],H,52⟩:St)) (fun _=>True) ?_ ?_
 .
  refine Aa (Qp Aj (Qp Ao (Ap (fun hc11=>A5 ?_) fun hc11=>Aa (Qp Aj (Qp Ao (Ap (fun hc12=>A5 ?_) fun hc12=>AW.region (Qp Aj (Qp Ao (Aq ?_)))))))))
  .
   refine ⟨(),?_,GS.weaken ⟨rfl,congrArg AV.bool (by simp [*]),trivial⟩ (.refl _)⟩
   trivial
  .
   refine ⟨(),?_,GS.weaken ⟨rfl,congrArg AV.bool (by simp [*]),trivial⟩ (.refl _)⟩
   trivial
  refine ⟨(),?_,GS.weaken ⟨rfl,congrArg AV.bool (by simp [*]),trivial⟩ (.refl _)⟩
  trivial
 rintro _ _;refine E9 (fun hc13=>Aa (Qp Ah (Ra (Qr (Iq _) ?_)))) fun hc13=>Rf (Aa (Qp Ah (Rb (Qr (Iq _) ?_))))
 . simp only [Ad,Wh,hc1,hc3,hc4,hc6,hc8,hc10,hc13,↓reduceIte,Al]
 simp only [Ad,Wh,hc1,hc3,hc4,hc6,hc8,hc10,hc13,↓reduceIte,Al]
theorem r_check (t:Syn)(p:Pl)(hp:p.ok)(hfew:It t):Ak Tryz.prog 177 [.agg (cSyn t),.int .i64 p.role] (.int .i64 (Cb t p)):=by
 revert p hp hfew
 induction t using Syn.ind
 rename_i t ih;intro p hp hfew;have hkl:=Yd hfew;have htx:=Od hfew;refine Cw 43 Tryz.func177 rfl fun H=>?_
 refine Aa (Qp (Eh Ag) (Qp Ah (Aq (Ba (Qp (Qf Ag) (Qp Be (Qp Ai (Qp (Qc rfl ((stands_eq hp t.kind▸r_stands t.kind p.role))) (Qp E7 (Ap (fun hc1=>Aa (Qp Ah (Rc (Qr (Iq _) ?_)))) fun hc1=>A5 (Ba (Qp (B1 Ag) (Qp (Qc rfl ((shape_eq t▸r_shape t))) (Qp E7 (Ap (fun hc2=>Aa (Qp Ah (Rc (Qr (Iq _) ?_)))) fun hc2=>?_)))))))))))))))
 .
  have h9:Cb t p=1:=Kd (if_pos hc1) (by decide);rw [h9];rfl
 .
  have h9:Cb t p=15:=Kd ((Bl hc1).trans (if_pos hc2)) (by decide);rw [h9];rfl
 refine A5 (Ba (Qp (B1 Ag) (Qp (Qc rfl ((names_eq t▸r_names t htx.1 htx.2))) (Qp E7 (Ap (fun hc3=>Aa (Qp Ah (Rc (Qr (Iq _) ?_)))) fun hc3=>A5 (Ba (Qp (B1 Ag) (Qp (Qc rfl ((zJ t▸r_number t))) (Qp Ah (B2 (Qp Ai (Qp Bq (Ap (fun hc4=>Aa (Qp Ai (Qp Ah (Rc (Qr (Iq _) ?_))))) fun hc4=>?_)))))))))))))
 .
  have h9:Cb t p=8:=Kd (((Bl hc1).trans (Bl hc2)).trans (if_pos hc3)) (by decide);rw [h9];rfl
 .
  have h9:Cb t p=D8 t:=Kd (((Bl hc1).trans (Bl hc2)).trans (Bl hc3)) (by simpa using hc4);rw [h9];rfl
 have h0:aD p t=0:=by unfold aD;rw [Bl hc1,Bl hc2,Bl hc3];simpa using hc4
 refine A5 (Ba (Qp Ah (Aq (AW.block ?_))));refine AW.Aan (fun (k:Nat)=>(⟨[(2,.ptr (cSyn t)),(6,.int .i64 (k:Int))],H,43⟩:St)) (fun k=>k<=t.kids.length/\Cb t p=Ng t k (t.kids.drop k)) (fun k=>t.kids.length-k) (0) ?_ Bx ?_
 . exact ⟨A3 _,eC h0⟩
 rintro k hR;refine Ba (Qp Ai (Qp (Qf Iv) (Qp Cg ?_)));refine Qp (Da t.kids.length rfl rfl (by simp)) ?_;refine Qp Bt (Ap (fun hc5=>?_) fun hc5=>?_)
 .
  obtain ⟨x,hx⟩:=gt2 (l:=t.kids) (k:=k) (by have:=Do hc5;omega);have hlt:=Sz hx;have hm:=An hx;refine A5 (AW.seq (AW.block (AW.seq ?_)));refine Id ?_;refine Qn 0 rfl (Qf Iv) (Qn 1 rfl Cg (Qn 2 rfl Ai ?_));refine Qn 3 rfl (Cp Ag rfl rfl (by omega) (C8 hx)) ?_;refine Qn 4 rfl (B1 Ag) (Qn 5 rfl (B1 Ag) (Qn 6 rfl Ai ?_));refine Qn 7 rfl (Qc rfl ((kid_role t k▸r_kid t k hlt (by omega)))) ?_;refine Qn 8 rfl (Qc rfl (ih x hm (G1 t k) (kid_fine t k) (J1 hfew hm))) (Qn 9 rfl Ah ?_);refine Fs ?_;refine A2 (Aa (Qp Ai (Qp Bq (Ap (fun hc6=>Aa (Qp Ai (Qp Ah (Ra (Au (Cn (Au (Qr (Iq _) ?_)))))))) fun hc6=>Rf (AW.region (Qp Ai (Qp Dt (Qp Ah (Aq ?_)))))))))
  .
   have h9:Cb t p=Cb x (G1 t k):=by rw [hR.2,Ry hx,if_pos hc6]
   rw [h9];rfl
  refine ⟨k+1,?_,?_,Bx⟩
  . exact ⟨hlt,by rw [hR.2,Ry hx,Bl hc6]⟩
  omega
 have hk:t.kids.length<=k:=by have:=Di hc5;omega
 refine AW.exit ?_;refine Bn (Ri (Aa (Qp Ah (Rb ?_))));refine Qr (Iq _) ?_;have h9:Cb t p=0:=by rw [hR.2,L7 hk,Ng]
 rw [h9];rfl
theorem qM (p t:Syn):Ak Tryz.prog 241 [.agg (cSyn p),.agg (cSyn t)] (.bool (Gq p.kind t.kind)):=by
 refine Cw 28 Tryz.func241 rfl fun H=>?_
 refine Aa (Qp (Eh Ag) (Qp (Eh Ag) (Qp Ao (B2 (Qp (Qf Ag) (Qp Be (Qp Aj (Qp A8 (Qg [] Qw (Qf Ag) ?_)))))))));refine Qg [(9,_)] Qw Be (Qg [(10,_)] Qw Aj (Qg [(11,_)] Qw A8 (Qg [] Qw (Qf Ag) (Qg [(13,_)] Qw Be (Qg [(14,_)] Qw Aj (Qg [(12,_),(15,_)] Qw Cr (Qp Ej (Qp A8 (Qg [] Qw (Qf Ag) ?_)))))))));refine Qg [(19,_)] Qw Be (Qg [(20,_)] Qw Aj (Qg [(21,_)] Qw A8 (Qg [] Qw (Qf Ag) (Qg [(23,_)] Qw Be (Qg [(24,_)] Qw Aj (Qg [(22,_),(25,_)] Qw Ej (Qp Cr (Qp Ao (Aq (AW.ret (Qr (.bool _) ?_)))))))))));rw [<-yT];rfl
theorem Aab (t:Syn)(hfew:It t):Ak Tryz.prog 178 [.agg (cSyn t)] (.int .i64 (Hp t:Int)):=by
 revert hfew
 induction t using Syn.ind
 rename_i t ih;intro hfew;have hkl:=Yd hfew;refine Cw 47 Tryz.func178 rfl fun H=>?_
 refine Aa (Qp (Eh Ag) (Qp Ah (B2 (Qp Ah (Aq (Ba (Qp Ah (Aq (AW.block ?_)))))))));refine AW.Aan (fun (p:Nat×Nat)=>(⟨[(1,.ptr (cSyn t)),(3,.int .i64 (p.2:Int)),(4,.int .i64 (p.1:Int))],H,47⟩:St)) (fun p=>p.1<=t.kids.length/\J3 t.kind t.kids=max p.2 (J3 t.kind (t.kids.drop p.1))/\p.2<=50000000) (fun p=>t.kids.length-p.1) ((0,0)) ?_ Bx ?_
 . exact ⟨A3 _,by simp,A3 _⟩
 rintro p hR;refine Ba (Qp Ai (Qp (Qf Iv) (Qp Cg ?_)));refine Qp (Da t.kids.length rfl rfl (by simp)) ?_;refine Qp Bt (Ap (fun hc1=>?_) fun hc1=>?_)
 .
  obtain ⟨x,hx⟩:=gt2 (l:=t.kids) (k:=p.1) (by have:=Do hc1;omega);have hlt:=Sz hx;have hm:=An hx;have hdx:=U5 (J1 hfew hm);have hd2:=bO hx;refine A5 (AW.seq (AW.block (Aa (Qp (Qf Iv) (Qp Cg (Qp Ai ?_))))));refine Qp (Cp Ag rfl rfl (by omega) (C8 hx)) ?_;refine Qp (B1 Ag) (Qp (Qc rfl (ih x hm (J1 hfew hm))) (Qp Ah (Re (AW.seq ?_))));refine Id ?_;refine Qn 0 rfl (B1 Ag) (Qn 1 rfl (Qf Iv) (Qn 2 rfl Cg (Qn 3 rfl Ai ?_)));refine Qn 4 rfl (Cp Ag rfl rfl (by omega) (C8 hx)) ?_;refine Qn 5 rfl (B1 Ag) (Qn 6 rfl (Qc rfl (qM t x)) ?_);refine Fs ?_;refine A2 (E9 (fun hc2=>?_) fun hc2=>?_)
  .
   rw [if_pos hc2] at hd2;refine AW.region (Qp Ai (Qp Dt (Qp Ah (Aq (AW.region (Qp Ai (Qp Ai (Qp (bD rfl rfl) (Qp Ah (Rk (AW.region (Qp Ai (Qp Dt (Qp Ah (Aq ?_)))))))))))))));refine ⟨(p.1+1,max p.2 (Hp x+1)),?_,?_,GS.weaken ⟨rfl,congrArg (AV.int .i64) (by simp only;omega),rfl,trivial⟩ (.refl _)⟩
   . exact ⟨hlt,by simp only;omega,by simp only;omega⟩
   simp only;omega
  rw [Bl hc2] at hd2;refine A5 (AW.region (Qp Ai (Qp Ai (Qp (bD rfl rfl) (Qp Ah (Rk (AW.region (Qp Ai (Qp Dt (Qp Ah (Aq ?_)))))))))));refine ⟨(p.1+1,max p.2 (Hp x)),?_,?_,GS.weaken ⟨rfl,congrArg (AV.int .i64) (by simp only;omega),rfl,trivial⟩ (.refl _)⟩
  . exact ⟨hlt,by simp only;omega,by simp only;omega⟩
  simp only;omega
 have hk:t.kids.length<=p.1:=by have:=Di hc1;omega
 have he:=hR.2.1;rw [L7 hk,J3] at he;have hfd:=U5 hfew;have hde:=iY t;refine AW.exit ?_;refine Bn (Ri (Ba (Qp (Qf Ag) (Qp Be (Qp Aj (Qp A8 ?_))))));refine Qg [] Qw (Qf Ag) (Qg [(35,_)] Qw Be (Qg [(36,_)] Qw (Qc rfl (xG t.kind)) ?_));refine Qg [(37,_)] Qw A8 (Qg [] Qw (Qf Ag) (Qg [(39,_)] Qw Be (Qg [(40,_)] Qw Bq (Qg [(38,_),(41,_)] Qw Ej (Qp Cr (Ap (fun hc3=>AW.region (Qp Ai (Qp Dt (Qp Ah (B2 (Qp Ai (Qp Ah (Rb (Qr (Iq _) ?_))))))))) fun hc3=>A5 (Aa (Qp Ai (Qp Ah (Rb (Qr (Iq _) ?_)))))))))))
 .
  have h9:Hp t=p.2+1:=by rw [hde,if_pos hc3];omega
  rw [h9];rfl
 have h9:Hp t=p.2:=by rw [hde,Bl hc3];omega
 rw [h9];rfl
theorem Xw {n:Nat}(h:n<10):(Utf8.encode (48+(n:Int))).data.toList = [UInt8.ofNat (48+n)]:=by
 have:n=0\/n=1\/n=2\/n=3\/n=4\/n=5\/n=6\/n=7\/n=8\/n=9:=by omega
 rcases this with rfl | rfl | rfl | rfl | rfl | rfl | rfl | rfl | rfl | rfl <;> first | rfl | decide
theorem wF {n:Nat}(h:n<10):IntKind.i32.wrap (48+(n:Int))=48+(n:Int):=by
 have:n=0\/n=1\/n=2\/n=3\/n=4\/n=5\/n=6\/n=7\/n=8\/n=9:=by omega
 rcases this with rfl | rfl | rfl | rfl | rfl | rfl | rfl | rfl | rfl | rfl <;> first | rfl | decide
theorem yZ {n m:Int}(h:n=m)(h2 : -1099511627776<=m/\m<=1099511627776):IntKind.i64.wrap n=m:=by
 subst h;unfold IntKind.wrap IntKind.signed IntKind.bits;simp only [↓reduceIte,Ee,Dp,ge_iff_le];split <;> omega
theorem vR {n:Nat}(h:n<=1099511627776):(Lib.decDigits n).length<=21:=by
 have:=Lib.itoa_length_le (n:Int) (by omega) (by omega)
 rwa [show Lib.itoa (n:Int)=Lib.decDigits n by unfold Lib.itoa;rw [if_neg (by omega),Um]] at this
theorem zK {s:Av}(hk:s=Gd\/s=E6\/s=D4)(h1:s≠Gd)(h2:s≠D4):s=E6:=by
 rcases hk with h | h | h
 . exact absurd h h1
 . exact h
 exact absurd h h2
def WOK (t:Syn):Prop:=Ak Tryz.prog 179 [.agg (cSyn t)] (.str (Ae t))/\(Ae t).length<=100000000000000
theorem r_dec (n:Nat)(hn:n<=1099511627776):Ak Tryz.prog 246 [.int .i64 (n:Int)] (.str (Lib.decDigits n)):=by
 revert hn
 induction n using Nat.strongRecOn
 rename_i n ih;intro hn;refine Cw 24 Tryz.func246 rfl fun H=>?_
 refine Aa (Qp Dj (Aq (Ba (Qp Ai (Qp Bt (Ap (fun hc1=>?_) fun hc1=>A5 (Ba (Qp Ai (Qp Bt (Ap (fun hc2=>?_) fun hc2=>?_))))))))))
 .
  exfalso;have:=Do hc1;omega
 .
  have h10:n<10:=by have:=Do hc2;omega
  refine Aa (Qp Ai (Qp Dt (Qp (Vw (m:=(48+(n:Int))) tok rfl rfl rfl rfl rfl (wF h10)) ?_)));refine Qp (iJ tok rfl rfl rfl rfl rfl rfl (by rw [Xw h10];simp [maxLen])) ?_;refine Qp Dj (Rc (Qr (.str _) ?_));have h9:Lib.decDigits n = [UInt8.ofNat (48+n)]:=by rw [Lib.decDigits,dif_pos h10]
  rw [h9,Xw h10];rfl
 have h10:¬n<10:=by have:=Di hc2;omega
 have hm10:n % 10<10:=Nat.mod_lt _ (by decide);have hq:IntKind.i64.wrap (((n:Int)).tdiv 10)=((n / 10:Nat):Int):=by rw [Int.tdiv_eq_ediv_of_nonneg (by omega)];exact yZ (by omega) (by omega)
 have hih:=ih (n / 10) (by omega) (by omega);rw [<-hq] at hih;have hdl:=vR (n:=n / 10) (by omega);have henc:=congrArg List.length (Xw hm10);have hr:((n:Int)).tmod 10=((n % 10:Nat):Int):=by rw [Int.tmod_eq_emod_of_nonneg (by omega)];omega
 refine A5 (Aa (Qp Ai ?_));refine Qp (sE rfl rfl (by omega)) ?_;refine Qp (Qc rfl (hih)) (Qp Ai ?_);refine Qp (P_rem rfl rfl (by omega)) ?_;refine Qp Dt ?_;refine Qp (Vw (m:=(48+((n % 10:Nat):Int))) tok rfl rfl rfl rfl rfl (by rw [hr];exact wF hm10)) ?_;refine Qp (iJ tok rfl rfl rfl rfl rfl rfl (by rw [Xw hm10];simp [maxLen])) ?_;refine Qp (A4 rfl rfl rfl (by unfold maxLen;(try simp only [Ax,A1,A6] at *);omega)) ?_;refine Qp Dj (Rb (Qr (.str _) ?_));have h9:Lib.decDigits n=Lib.decDigits (n / 10) ++ [UInt8.ofNat (48+n % 10)]:=by rw [Lib.decDigits,dif_neg h10]
 rw [h9,Xw hm10];rfl
theorem r_decN (n:Int)(hn : -1099511627776<=n/\n<0):Ak Tryz.prog 246 [.int .i64 n] (.str (Lib.itoa n)):=by
 refine Cw 24 Tryz.func246 rfl fun H=>?_
 refine Aa (Qp Dj (Aq (Ba (Qp Ai (Qp Bt (Ap (fun hc1=>?_) fun hc1=>?_))))))
 .
  have hneg:0-n=((n.natAbs:Nat):Int):=by omega
  have hih:=r_dec n.natAbs (by omega);rw [<-hneg] at hih;have hdl:=vR (n:=n.natAbs) (by omega);refine Aa (Qp Ai ?_);refine Qp (P_neg rfl rfl (by constructor <;> omega)) ?_;refine Qp (Qc rfl (hih)) ?_;refine Qp (A4 rfl rfl rfl (by unfold maxLen;(try simp only [Ax,A1,A6] at *);omega)) ?_;refine Qp Dj (Rc (Qr (.str _) ?_));have h9:Lib.itoa n=45::Lib.decDigits n.natAbs:=by unfold Lib.itoa;rw [if_pos hn.2]
  rw [h9];rfl
 exfalso;have:=Di hc1;omega
theorem kA (n:Int)(hn : -1099511627776<=n/\n<=1099511627776):Ak Tryz.prog 246 [.int .i64 n] (.str (Lib.itoa n)):=by
 by_cases h:n<0
 . exact r_decN n ⟨hn.1,h⟩
 have h1:=r_dec n.toNat (by omega);have h2:((n.toNat:Nat):Int)=n:=by omega
 rw [h2] at h1;have h3:Lib.itoa n=Lib.decDigits n.toNat:=by unfold Lib.itoa;rw [if_neg h]
 rw [h3];exact h1
theorem uA (n:Int):Ak Tryz.prog 244 [.int .i64 n] (.str (K4 n)):=by
 refine Cw 8 Tryz.func244 rfl fun H=>?_
 refine Aa (Qp Dj (Aq (Ba (Qp Ai (Aq (AW.block (Aa (Qp Aj (Qp Ao (Ap (fun hc1=>Aa (Qp Dj (Ra (Qr (.str _) ?_)))) fun hc1=>Aa (Qp Aj (Qp Ao (Ap (fun hc2=>Aa (Qp Dj (Ra (Qr (.str _) ?_)))) fun hc2=>Rf (Aa (Qp Dj (Rb (Qr (.str _) ?_)))))))))))))))))
 . simp only [Ad,K4,hc1,↓reduceIte,Al]
 . simp only [Ad,K4,hc1,hc2,↓reduceIte,Al]
 simp only [Ad,K4,hc1,hc2,↓reduceIte,Al]
theorem uB (n:Int):Ak Tryz.prog 250 [.int .i64 n] (.str (H0 n)):=by
 refine Cw 16 Tryz.func250 rfl fun H=>?_
 refine Aa (Qp Dj (Aq (Ba (Qp Ai (Aq (AW.block (Aa (Qp Aj ?_))))))));refine Qp Ao (Ap (fun hc1=>Aa (Qp Dj (Ra (Qr (.str _) ?_)))) fun hc1=>Aa (Qp Aj (Qp Ao (Ap (fun hc2=>Aa (Qp Dj (Ra (Qr (.str _) ?_)))) fun hc2=>Aa (Qp Aj (Qp Ao (Ap (fun hc3=>Aa (Qp Dj (Ra (Qr (.str _) ?_)))) fun hc3=>?_)))))))
 . simp only [Ad,H0,hc1,↓reduceIte,Al]
 . simp only [Ad,H0,hc1,hc2,↓reduceIte,Al]
 . simp only [Ad,H0,hc1,hc2,hc3,↓reduceIte,Al]
 refine Aa (Qp Aj (Qp Ao (Ap (fun hc4=>Aa (Qp Dj (Ra (Qr (.str _) ?_)))) fun hc4=>Aa (Qp Aj (Qp Ao (Ap (fun hc5=>Aa (Qp Dj (Ra (Qr (.str _) ?_)))) fun hc5=>Aa (Qp Aj (Qp Ao (Ap (fun hc6=>Aa (Qp Dj (Ra (Qr (.str _) ?_)))) fun hc6=>Rf (Aa (Qp Dj (Rb (Qr (.str _) ?_)))))))))))))
 . simp only [Ad,H0,hc1,hc2,hc3,hc4,↓reduceIte,Al]
 . simp only [Ad,H0,hc1,hc2,hc3,hc4,hc5,↓reduceIte,Al]
 . simp only [Ad,H0,hc1,hc2,hc3,hc4,hc5,hc6,↓reduceIte,Al]
 simp only [Ad,H0,hc1,hc2,hc3,hc4,hc5,hc6,↓reduceIte,Al]
theorem qL (n:Int):Ak Tryz.prog 248 [.int .i64 n] (.str (Pm n)):=by
 refine Cw 12 Tryz.func248 rfl fun H=>?_
 refine Aa (Qp Dj (Aq (Ba (Qp Ai (Aq (AW.block (Aa (Qp Aj (Qp Ao (Ap (fun hc1=>Aa (Qp Dj (Ra (Qr (.str _) ?_)))) fun hc1=>?_))))))))))
 . simp only [Ad,Pm,hc1,↓reduceIte,Al]
 refine Aa (Qp Aj (Qp Ao (Ap (fun hc2=>Aa (Qp Dj (Ra (Qr (.str _) ?_)))) fun hc2=>Aa (Qp Aj (Qp Ao (Ap (fun hc3=>Aa (Qp Dj (Ra (Qr (.str _) ?_)))) fun hc3=>Aa (Qp Aj (Qp Ao (Ap (fun hc4=>Aa (Qp Dj (Ra (Qr (.str _) ?_)))) fun hc4=>Rf (Aa (Qp Dj (Rb (Qr (.str _) ?_)))))))))))))
 . simp only [Ad,Pm,hc1,hc2,↓reduceIte,Al]
 . simp only [Ad,Pm,hc1,hc2,hc3,↓reduceIte,Al]
 . simp only [Ad,Pm,hc1,hc2,hc3,hc4,↓reduceIte,Al]
 simp only [Ad,Pm,hc1,hc2,hc3,hc4,↓reduceIte,Al]
theorem Aaa (n:Int):Ak Tryz.prog 251 [.int .i64 n] (.str (Mn n)):=by
 refine Cw 16 Tryz.func251 rfl fun H=>?_
 refine Aa (Qp Dj (Aq (Ba (Qp Ai (Aq (AW.block (Aa (Qp Aj ?_))))))));refine Qp Ao (Ap (fun hc1=>Aa (Qp Dj (Ra (Qr (.str _) ?_)))) fun hc1=>Aa (Qp Aj (Qp Ao (Ap (fun hc2=>Aa (Qp Dj (Ra (Qr (.str _) ?_)))) fun hc2=>Aa (Qp Aj (Qp Ao (Ap (fun hc3=>Aa (Qp Dj (Ra (Qr (.str _) ?_)))) fun hc3=>?_)))))))
 . simp only [Ad,Mn,hc1,↓reduceIte,Al]
 . simp only [Ad,Mn,hc1,hc2,↓reduceIte,Al]
 . simp only [Ad,Mn,hc1,hc2,hc3,↓reduceIte,Al]
 refine Aa (Qp Aj (Qp Ao (Ap (fun hc4=>Aa (Qp Dj (Ra (Qr (.str _) ?_)))) fun hc4=>Aa (Qp Aj (Qp Ao (Ap (fun hc5=>Aa (Qp Dj (Ra (Qr (.str _) ?_)))) fun hc5=>Aa (Qp Aj (Qp Ao (Ap (fun hc6=>Aa (Qp Dj (Ra (Qr (.str _) ?_)))) fun hc6=>Rf (Aa (Qp Dj (Rb (Qr (.str _) ?_)))))))))))))
 . simp only [Ad,Mn,hc1,hc2,hc3,hc4,↓reduceIte,Al]
 . simp only [Ad,Mn,hc1,hc2,hc3,hc4,hc5,↓reduceIte,Al]
 . simp only [Ad,Mn,hc1,hc2,hc3,hc4,hc5,hc6,↓reduceIte,Al]
 simp only [Ad,Mn,hc1,hc2,hc3,hc4,hc5,hc6,↓reduceIte,Al]
theorem kB (t:Syn)(hn : -1099511627776<=t.num/\t.num<=1099511627776)(hx:t.text.length<=1048576)(hk:t.name=Gd\/t.name=E6\/t.name=D4):Ak Tryz.prog 247 [.agg (cSyn t)] (.str (O0 t)):=by
 refine Cw 24 Tryz.func247 rfl fun H=>?_
 refine Aa (Qp (Eh Ag) (Qp Dj (Aq (Ba (Qp (Qf Xe) (Qp Dk (Qp (A9 rfl rfl) (Ap (fun hc1=>?_) fun hc1=>?_))))))))
 .
  have hs:t.name=D4:=by simpa using hc1
  have e:O0 t=(Wt t.text).1:=by unfold O0;rw [hs,quote_eq];rfl
  refine Aa (Qp (Qf Oy) (Qp Dk (Qp (Qc rfl (c25 t.text hx)) (Qp Ml (Qp kT (Qp Km (Qp Dj (Qp Ah (B2 (Qp D3 (Qp Dj (Rc (Qr (.str _) ?_)))))))))))));rw [e];rfl
 have hs:t.name≠D4:=by simpa using hc1
 refine A5 (Ba (Qp (Qf Xe) (Qp Dk (Qp (A9 rfl rfl) (Ap (fun hc2=>?_) fun hc2=>?_)))))
 .
  have e:O0 t=Lib.itoa t.num:=if_pos hc2;refine Aa (Qp (Qf M7) (Qp Be (Qp (Qc rfl (kA t.num hn)) (Qp Dj (Rc (Qr (.str _) ?_))))));rw [e];rfl
 have hb:t.name=E6:=zK hk (by simpa using hc2) hs;have e:O0 t=if t.num==1 then Ns else Lc:=by unfold O0;rw [hb];rfl
 refine A5 (Ba (Qp (Qf M7) (Qp Be (Qp Aj (Ap (fun hc3=>Aa (Qp Dj (Rc (Qr (.str _) ?_)))) fun hc3=>A5 (Aa (Qp Dj (Rb (Qr (.str _) ?_)))))))))
 . rw [e,if_pos hc3];rfl
 rw [e,Bl hc3];rfl
theorem r_list (t:Syn)(f:Nat)(hf:f<=2)(hl:t.kids.length<=1048576)(hn:∀x∈t.kids.drop f,WOK x)(hb:(C6 ((t.kids.drop f).map Ae)).length<=100000000000000):Ak Tryz.prog 252 [.agg (cSyn t),.int .i64 (f:Int)] (.str (C6 ((t.kids.drop f).map Ae))):=by
 refine Cw 29 Tryz.func252 rfl fun H=>?_
 refine Aa (Qp (Eh Ag) (Qp Dj (B2 (Qp Dj (Aq (Ba (Qp Ai (Qp Ah (Aq (AW.block ?_))))))))));refine AW.Aan (fun (p:Nat×Av)=>(⟨[(1,.int .i64 (f:Int)),(2,.ptr (cSyn t)),(5,.str p.2),(6,.int .i64 ((f+p.1:Nat):Int))],H,29⟩:St)) (fun p=>p.1<=t.kids.length/\p.2++Yp p.1 ((t.kids.drop f).map Ae)=C6 ((t.kids.drop f).map Ae)) (fun p=>t.kids.length-(f+p.1)) ((0,[])) ?_ Bx ?_
 . exact ⟨A3 _,rfl⟩
 rintro p hR;refine Ba (Qp Ai (Qp (Qf Iv) (Qp Cg ?_)));refine Qp (Da t.kids.length rfl rfl (by simp)) ?_;refine Qp Bt (Ap (fun hc1=>?_) fun hc1=>?_)
 .
  obtain ⟨x,hx⟩:=gt2 (l:=t.kids) (k:=f+p.1) (by have:=Do hc1;omega);have hlt:=Sz hx;have hxd:(t.kids.drop f)[p.1]? = some x:=by rw [List.getElem?_drop];exact hx
  have hnx:=hn x (An hxd);have hle:=congrArg List.length hR.2;simp only [Ax] at hle;have hwx:=hnx.2;refine A5 (AW.seq (AW.block (Ba (Qp Ai (Qp Ai (Qp De (Ap (fun hc2=>?_) fun hc2=>?_)))))))
  .
   have hr:=xK (kM hxd) (by have:=Do hc2;omega);rw [hr] at hle;simp only [Ax,A1,A6] at hle;refine AW.region (Qp D3 ?_);refine Qp (A4 rfl rfl rfl (by unfold maxLen;(try simp only [Ax,A1,A6] at *);omega)) ?_;refine Qp Dj (Aq (AW.region (Qp D3 (Qp (Qf Iv) (Qp Cg (Qp Ai ?_))))));refine Qp (Cp Ag rfl rfl (by omega) (C8 hx)) ?_;refine Qp (B1 Ag) (Qp (Qc rfl (hnx.1)) ?_);refine Qp (A4 rfl rfl rfl (by unfold maxLen;(try simp only [Ax,A1,A6] at *);omega)) ?_;refine Qp Dj (Rk (AW.region (Qp Ai (Qp Dt (Qp Ah (Aq ?_))))));refine ⟨(p.1+1,(p.2 ++ [44,32])++Ae x),?_,?_,Bx⟩
   . exact ⟨by omega,by rw [<-hR.2,hr];simp⟩
   simp only;omega
  have h0:p.1=0:=by have:=Di hc2;omega
  have hr:=xJ (ws:=(t.kids.drop f).map Ae) (by have:=kM hxd;rwa [h0] at this);rw [h0,hr] at hle;simp only [Ax] at hle;refine A5 (AW.region (Qp D3 (Qp (Qf Iv) (Qp Cg (Qp Ai ?_)))));refine Qp (Cp Ag rfl rfl (by omega) (C8 hx)) ?_;refine Qp (B1 Ag) (Qp (Qc rfl (hnx.1)) ?_);refine Qp (A4 rfl rfl rfl (by unfold maxLen;(try simp only [Ax,A1,A6] at *);omega)) ?_;refine Qp Dj (Rk (AW.region (Qp Ai (Qp Dt (Qp Ah (Aq ?_))))));refine ⟨(p.1+1,p.2++Ae x),?_,?_,Bx⟩
  . exact ⟨by omega,by rw [<-hR.2,h0,hr];simp⟩
  simp only;omega
 have hk:((t.kids.drop f).map Ae).length<=p.1:=by have:=Di hc1;rw [B7,Fk];omega
 refine AW.exit ?_;refine Bn (Ri (Aa (Qp D3 (Qp Dj (Rb ?_)))));refine Qr (.str _) ?_;have h9:C6 ((t.kids.drop f).map Ae)=p.2:=by rw [<-hR.2,kE hk,Bh]
 rw [h9];rfl
theorem aJ (p t:Syn)(ht:WOK t):Ak Tryz.prog 249 [.agg (cSyn p),.agg (cSyn t)] (.str (Fw p t (Ae t))):=by
 have hwx:=ht.2;refine Cw 15 Tryz.func249 rfl fun H=>?_
 refine Aa (Qp (Eh Ag) (Qp (Eh Ag) (Qp Dj (B2 (Qp (B1 Ag) (Qp (Qc rfl (ht.1)) (Qp Dj (Aq (Ba (Qp (B1 Ag) (Qp (B1 Ag) (Qp (Qc rfl (qM p t)) (Ap (fun hc1=>Aa (Qp D3 ?_)) fun hc1=>A5 (Aa (Qp D3 (Qp Dj (Rb (Qr (.str _) ?_))))))))))))))))))
 .
  refine Qp (A4 rfl rfl rfl (by unfold maxLen;(try simp only [Ax,A1,A6] at *);omega)) ?_;refine Qp (A4 rfl rfl rfl (by unfold maxLen;(try simp only [Ax,A1,A6] at *);omega)) ?_;refine Qp Dj (Rc (Qr (.str _) ?_));have h9:Fw p t (Ae t) = [40]++Ae t ++ [41]:=if_pos hc1;rw [h9];rfl
 have h9:Fw p t (Ae t)=Ae t:=Bl hc1;rw [h9];rfl
theorem pC {α:Type}{l:List α}(h:((l.length:Int)==0)=true):¬0<l.length:=by simp only [beq_iff_eq] at h;omega
theorem wQ {α:Type}{l:List α}(h:((l.length:Int)==0)=false):0<l.length:=by simp only [F0,ne_eq] at h;omega
theorem wsn {t:Syn}:(t.kids.map Ae == [])=true↔¬0<t.kids.length:=by
 cases hq:t.kids <;> simp
theorem wt_type0 {t:Syn}(hk:t.kind=1)(h:¬0<t.kids.length):Ae t = [116,121,112,101,32]++t.text ++ [32,123,125,10]:=by
 rw [D5];unfold D9;rw [hk];show Mi ++ [32]++t.text ++ [32,123]++(if (t.kids.map Ae == [])=true then [] else [32]++C6 (t.kids.map Ae) ++ [32]) ++ [125,10]=_;rw [if_pos (wsn.2 h)];simp
theorem wt_type1 {t:Syn}(hk:t.kind=1)(h:0<t.kids.length):Ae t = [116,121,112,101,32]++t.text ++ [32,123,32]++C6 (t.kids.map Ae) ++ [32,125,10]:=by
 rw [D5];unfold D9;rw [hk];show Mi ++ [32]++t.text ++ [32,123]++(if (t.kids.map Ae == [])=true then [] else [32]++C6 (t.kids.map Ae) ++ [32]) ++ [125,10]=_;rw [if_neg (fun e=>(wsn.1 e) h)];simp
theorem wt_query {t q0 q1:Syn}{r:List Syn}(hk:t.kind=3)(hq:t.kids=q0::q1::r):Ae t=([113,117,101,114,121,32]++t.text++(if !(q0.text == []) then [32,98,121,32]++q0.text else [])) ++ [10,109,97,116,99,104,32]++Ae q1 ++ [10,114,101,116,117,114,110,32]++C6 (r.map Ae) ++ [59,10]:=by
 rw [D5];unfold D9;rw [hk];show He ++ [32]++t.text++(if ((Cd t 0).text == [])=true then [] else [32]++cR ++ [32]++(Cd t 0).text) ++ [10]++H4 ++ [32]++(t.kids.map Ae).getD 1 [] ++ [10]++Ib ++ [32]++C6 ((t.kids.map Ae).drop 2) ++ [59,10]=_;have k0:Cd t 0=q0:=by unfold Cd;rw [hq];rfl
 rw [k0,hq];show He ++ [32]++t.text++(if (q0.text == [])=true then [] else [32]++cR ++ [32]++q0.text) ++ [10]++H4 ++ [32]++Ae q1 ++ [10]++Ib ++ [32]++C6 (r.map Ae) ++ [59,10]=_;cases hc:(q0.text == [])
 . simp
 simp
theorem wt_ev0 {t:Syn}(hk:t.kind=5)(h:¬0<t.kids.length):Ae t=t.text ++ [32]++t.name:=by
 rw [D5];unfold D9;rw [hk];show t.text ++ [32]++t.name++(if (t.kids.map Ae == [])=true then [] else [32]++cG ++ [32]++(t.kids.map Ae).getD 0 [])=_;rw [if_pos (wsn.2 h)];simp
theorem wt_ev1 {t x:Syn}(hk:t.kind=5)(h0:t.kids[0]? = some x):Ae t=t.text ++ [32]++t.name ++ [32,105,102,32]++Ae x:=by
 rw [D5];unfold D9;rw [hk];show t.text ++ [32]++t.name++(if (t.kids.map Ae == [])=true then [] else [32]++cG ++ [32]++(t.kids.map Ae).getD 0 [])=_;have h1:(t.kids.map Ae).getD 0 []=Ae x:=by rw [Ii,List.getElem?_map,h0];rfl
 rw [if_neg (fun e=>(wsn.1 e) (Sz h0)),h1];simp
theorem wt_tot0 {t:Syn}(hk:t.kind=16)(h:¬0<t.kids.length):Ae t=Pm t.num ++ [40]++t.text ++ [46]++t.name ++ [41]:=by
 rw [D5];unfold D9;rw [hk];show Pm t.num ++ [40]++t.text ++ [46]++t.name++(if (t.kids.map Ae == [])=true then [] else [44,32]++(t.kids.map Ae).getD 0 []) ++ [41]=_;rw [if_pos (wsn.2 h)];simp
theorem wt_tot1 {t x:Syn}(hk:t.kind=16)(h0:t.kids[0]? = some x):Ae t=Pm t.num ++ [40]++t.text ++ [46]++t.name++([44,32]++Ae x) ++ [41]:=by
 rw [D5];unfold D9;rw [hk];show Pm t.num ++ [40]++t.text ++ [46]++t.name++(if (t.kids.map Ae == [])=true then [] else [44,32]++(t.kids.map Ae).getD 0 []) ++ [41]=_;have h1:(t.kids.map Ae).getD 0 []=Ae x:=by rw [Ii,List.getElem?_map,h0];rfl
 rw [if_neg (fun e=>(wsn.1 e) (Sz h0)),h1]
theorem wt_lit {t:Syn}(hk:t.kind=13):Ae t=O0 t:=by rw [D5];unfold D9;rw [hk];rfl
theorem wt_bin {t x y:Syn}(hk:t.kind=17)(hq:t.kids = [x,y]):Ae t=Fw t x (Ae x) ++ [32]++H0 t.num ++ [32]++Fw t y (Ae y):=by
 rw [D5];unfold D9;rw [hk];show Fw t (Cd t 0) ((t.kids.map Ae).getD 0 []) ++ [32]++H0 t.num ++ [32]++Fw t (Cd t 1) ((t.kids.map Ae).getD 1 [])=_;have k0:Cd t 0=x:=by unfold Cd;rw [hq];rfl
 have k1:Cd t 1=y:=by unfold Cd;rw [hq];rfl
 rw [k0,k1,hq];rfl
theorem wt_not {t x:Syn}(hk:t.kind=18)(hq:t.kids = [x]):Ae t = [110,111,116,32]++Fw t x (Ae x):=by
 rw [D5];unfold D9;rw [hk];show Wz ++ [32]++Fw t (Cd t 0) ((t.kids.map Ae).getD 0 [])=_;have k0:Cd t 0=x:=by unfold Cd;rw [hq];rfl
 rw [k0,hq];rfl
theorem wt_within {t x:Syn}(hk:t.kind=11)(hq:t.kids = [x]):Ae t = [119,105,116,104,105,110,40]++Ae x ++ [44,32]++Lib.itoa t.num ++ [41]:=by
 rw [D5];unfold D9;rw [hk,hq];show I6 ++ [40]++Ae x++([44,32]++Lib.itoa t.num) ++ [41]=_;simp
theorem wt_call {t:Syn}(h0:0<=t.kind)(h18:t.kind<=18)(hn:t.kind≠0/\t.kind≠1/\t.kind≠2/\t.kind≠3/\t.kind≠5/\t.kind≠11/\t.kind≠13/\t.kind≠14/\t.kind≠15/\t.kind≠16/\t.kind≠17/\t.kind≠18):Ae t=Mn t.kind ++ [40]++C6 (t.kids.map Ae) ++ [41]:=by
 have e:∀k:Int,t.kind≠k->¬(t.kind==k)=true:=fun k h=>by simpa using h
 obtain ⟨a,b,c,d,f,g,h,i,j,k,l,m⟩:=hn;rw [D5];unfold D9;rw [if_neg (e _ a),if_neg (e _ b),if_neg (e _ c),if_neg (e _ d),if_neg (e _ f),if_neg (e _ h),if_neg (e _ i),if_neg (e _ j),if_neg (e _ k),if_neg (e _ l),if_neg (e _ m),if_neg (e _ g),Bh]
theorem jV {t:Syn}(hf:D8 t=0)(hk:t.kind=13):t.name=Gd\/t.name=E6\/t.name=D4:=by
 unfold D8 at hf;rw [hk] at hf
 replace hf:G7 t=0:=hf
 unfold G7 at hf;split at hf
 . rename_i h;exact .inl (by simpa using h)
 split at hf
 . rename_i h;exact .inr (.inl (by simpa using h))
 split at hf
 . rename_i h;exact .inr (.inr (by simpa using h))
 cases hf
theorem xH (t:Syn)(hl:t.kids.length<=1048576)(hn:∀x∈t.kids,WOK x)(hb:(C6 (t.kids.map Ae)).length<=100000000000000):Ak Tryz.prog 252 [.agg (cSyn t),.int .i64 0] (.str (C6 (t.kids.map Ae))):=r_list t 0 (by omega) hl hn hb
theorem tZ (t:Syn)(hk:t.kind=1)(hl:t.kids.length<=1048576)(hx:t.text.length<=1048576)(hn:∀x∈t.kids,WOK x)(hb:(Ae t).length<=100000000000000):Ak Tryz.prog 243 [.agg (cSyn t)] (.str (Ae t)):=by
 refine Cw 19 Tryz.func243 rfl fun H=>?_
 refine Aa (Qp (Eh Ag) (Qp Dj (Aq (Ba (Qp (Qf Iv) (Qp Cg ?_))))));refine Qp (Da t.kids.length rfl rfl (by simp)) ?_;refine Qp Aj (Ap (fun hc1=>?_) fun hc1=>?_)
 .
  have e:=wt_type0 hk (pC hc1);refine Aa (Qp (Qf Oy) (Qp Dk ?_));refine Qp (A4 rfl rfl rfl (by unfold maxLen;(try simp only [Ax,A1,A6]);omega)) ?_;refine Qp (A4 rfl rfl rfl (by unfold maxLen;(try simp only [Ax,A1,A6]);omega)) ?_;refine Qp Dj (Rc (Qr (.str _) ?_));rw [e];rfl
 have h0:=wQ hc1;have e:=wt_type1 hk h0;have hb2:=hb;rw [e] at hb2;simp only [Ax,A1,A6] at hb2;refine A5 (AW.seq ?_);refine Id ?_;refine Qn 0 rfl (Qf Oy) (Qn 1 rfl Dk ?_);refine Qn 2 rfl (A4 rfl rfl rfl (by unfold maxLen;(try simp only [Ax,A1,A6]);omega)) ?_;refine Qn 3 rfl (A4 rfl rfl rfl (by unfold maxLen;(try simp only [Ax,A1,A6]);omega)) ?_;refine Qn 4 rfl (B1 Ag) ?_;refine Qn 5 rfl (Qc rfl (xH t hl hn (by omega))) ?_;refine Qn 6 rfl (A4 rfl rfl rfl (by unfold maxLen;(try simp only [Ax,A1,A6]);omega)) ?_;refine Qn 7 rfl (A4 rfl rfl rfl (by unfold maxLen;(try simp only [Ax,A1,A6]);omega)) ?_;refine Qn 8 rfl Dj ?_;refine Fs ?_;refine A2 (AW.ret (Qr (.str _) ?_));rw [e];rfl
theorem r_asked (t q0 q1:Syn)(r:List Syn)(hk:t.kind=3)(hq:t.kids=q0::q1::r)(hl:t.kids.length<=1048576)(hx:t.text.length<=1048576)(hx0:q0.text.length<=1048576)(h1:WOK q1)(hn:∀x∈r,WOK x)(hb:(Ae t).length<=100000000000000):Ak Tryz.prog 245 [.agg (cSyn t)] (.str (Ae t)):=by
 have e:=wt_query hk hq;have hb2:=hb;rw [e] at hb2;simp only [Ax,A1,A6] at hb2;have hw1:=h1.2;have hlist:=r_list t 2 (by omega) hl (by rw [hq];exact hn) (by rw [hq];show (C6 (r.map Ae)).length<=100000000000000;omega);rw [hq] at hlist
 replace hlist:Ak Tryz.prog 252 [.agg (cSyn t),.int .i64 2] (.str (C6 (r.map Ae))):=by rw [hq] at *;exact hlist
 refine Cw 34 Tryz.func245 rfl fun H=>?_
 refine Aa (Qp (Eh Ag) (Qp Dj (B2 (Qp (Qf Oy) (Qp Dk ?_)))));refine Qp (A4 rfl rfl rfl (by unfold maxLen;(try simp only [Ax,A1,A6]);omega)) ?_;refine Qp Dj (Aq (Ba (Qp (Qf Iv) (Qp Cg ?_))));refine Qp (Cp Ag rfl rfl (by decide) (C8 (k:=0) (a:=q0) (by rw [hq];rfl))) ?_;refine Qp (Qf Oy) (Qp Dk (Qp (Dq rfl rfl) (Ap (fun hc1=>?_) fun hc1=>?_)))
 .
  rw [if_pos hc1] at e;refine AW.region (Qp D3 (Qp (Qf Iv) (Qp Cg ?_)));refine Qp (Cp Ag rfl rfl (by decide) (C8 (k:=0) (a:=q0) (by rw [hq];rfl))) ?_;refine Qp (Qf Oy) (Qp Dk ?_);refine Qp (A4 rfl rfl rfl (by unfold maxLen;(try simp only [Ax,A1,A6]);omega)) ?_;refine Qp (A4 rfl rfl rfl (by unfold maxLen;(try simp only [Ax,A1,A6]);omega)) ?_;refine Qp Dj (Re ?_);refine Id ?_;refine Qn 0 rfl D3 ?_;refine Qn 1 rfl (A4 rfl rfl rfl (by unfold maxLen;(try simp only [Ax,A1,A6]);omega)) ?_;refine Qn 2 rfl (Qf Iv) (Qn 3 rfl Cg ?_);refine Qn 4 rfl (Cp Ag rfl rfl (by decide) (C8 (k:=1) (a:=q1) (by rw [hq];rfl))) ?_;refine Qn 5 rfl (B1 Ag) (Qn 6 rfl (Qc rfl (h1.1)) ?_);refine Qn 7 rfl (A4 rfl rfl rfl (by unfold maxLen;(try simp only [Ax,A1,A6]);omega)) ?_;refine Qn 8 rfl (A4 rfl rfl rfl (by unfold maxLen;(try simp only [Ax,A1,A6]);omega)) ?_;refine Qn 9 rfl (B1 Ag) (Qn 10 rfl (Qc rfl (hlist)) ?_);refine Qn 11 rfl (A4 rfl rfl rfl (by unfold maxLen;(try simp only [Ax,A1,A6]);omega)) ?_;refine Qn 12 rfl (A4 rfl rfl rfl (by unfold maxLen;(try simp only [Ax,A1,A6]);omega)) ?_;refine Qn 13 rfl Dj ?_;refine Fs ?_;refine A2 (AW.ret (Qr (.str _) ?_));rw [e];simp only [Eg];rfl
 rw [Bl hc1] at e;refine A5 (AW.seq ?_);refine Id ?_;refine Qn 0 rfl D3 ?_;refine Qn 1 rfl (A4 rfl rfl rfl (by unfold maxLen;(try simp only [Ax,A1,A6]);omega)) ?_;refine Qn 2 rfl (Qf Iv) (Qn 3 rfl Cg ?_);refine Qn 4 rfl (Cp Ag rfl rfl (by decide) (C8 (k:=1) (a:=q1) (by rw [hq];rfl))) ?_;refine Qn 5 rfl (B1 Ag) (Qn 6 rfl (Qc rfl (h1.1)) ?_);refine Qn 7 rfl (A4 rfl rfl rfl (by unfold maxLen;(try simp only [Ax,A1,A6]);omega)) ?_;refine Qn 8 rfl (A4 rfl rfl rfl (by unfold maxLen;(try simp only [Ax,A1,A6]);omega)) ?_;refine Qn 9 rfl (B1 Ag) (Qn 10 rfl (Qc rfl (hlist)) ?_);refine Qn 11 rfl (A4 rfl rfl rfl (by unfold maxLen;(try simp only [Ax,A1,A6]);omega)) ?_;refine Qn 12 rfl (A4 rfl rfl rfl (by unfold maxLen;(try simp only [Ax,A1,A6]);omega)) ?_;refine Qn 13 rfl Dj ?_;refine Fs ?_;refine A2 (AW.ret (Qr (.str _) ?_));rw [e];simp only [Bh,Eg];rfl
theorem N5 {a b:Int}(h:(a==b)=true):a=b:=by simpa using h
theorem Ql {a b:Int}(h:(a==b)=false):a≠b:=by simpa using h
theorem r_write (t:Syn)(p:Pl)(h:Cb t p=0)(hf:It t)(k0:0<=t.kind)(k18:t.kind<=18)(k4:t.kind≠4):Ak Tryz.prog 179 [.agg (cSyn t)] (.str (Ae t)):=by
 revert h hf k0 k18 k4 p
 refine Syn.ind (P:=fun t=>∀p,Cb t p=0->It t->0<=t.kind->t.kind<=18->t.kind≠4->Ak Tryz.prog 179 [.agg (cSyn t)] (.str (Ae t))) (fun t ih p h hf k0 k18 k4=>?_) t;have hi:=lY h;have hx:t.text.length<=1048576:=(Od hf).1;have hnm:t.name.length<=1048576:=(Od hf).2;have hkl:=Yd hf;have hbig:=dE h hf;have ho:=(Lr h).1;have hs:=(Ls ho).2.1;have hfl:=(Ls ho).2.2.2
 have kid:∀(j:Nat) a,t.kids[j]? = some a->a.kind≠4->WOK a:=fun j a ha h4=>by
  have ck:=Po h ha;have kk:=oT ck.2;have hfa:=J1 hf (An ha);exact ⟨ih a (An ha) _ ck.1 hfa (by omega) kk.2 h4,dE ck.1 hfa⟩
 have kids:t.kind≠3->∀a∈t.kids,WOK a:=fun h3 a ha=>by
  obtain ⟨j,hj⟩:=J9.1 ha;refine kid j a hj ?_;have k:=(Po h hj).2;unfold G1 at k;rw [if_neg (show ¬(t.kind==3)=true by simpa using h3)] at k
  repeat' split at k
  all_goals first | (have:=Sd k;omega) | (have:=eR k;omega) | (have:=aE k;omega)
 have wl:=kN;have wl1:=wl.1 t.num;have wl2:=wl.2.1 t.num;have wl3:=wl.2.2.1 t.num;have wl4:=wl.2.2.2 t.kind;have hil:=Lib.itoa_length_le t.num (by omega) (by omega);refine Cw 165 Tryz.func179 rfl fun H=>?_
 refine Aa (Qp (Eh Ag) (Qp Dj (Aq (Ba (Qp (Qf Ag) (Qp Be (Aq (AW.block ?_))))))));refine Aa (Qp Aj (Qp Ao (Ap (fun hc1=>?_) fun hc1=>Aa (Qp Aj (Qp Ao (Ap (fun hc3=>?_) fun hc3=>Aa (Qp Aj (Qp Ao (Ap (fun hc4=>?_) fun hc4=>Aa (Qp Aj (Qp Ao (Ap (fun hc5=>?_) fun hc5=>Aa (Qp Aj (Qp Ao (Ap (fun hc6=>?_) fun hc6=>Aa (Qp Aj (Qp Ao (Ap (fun hc8=>?_) fun hc8=>?_))))))))))))))))))
 .
  have hk:=N5 hc1;have e:Ae t=(t.kids.map Ae).flatten:=by rw [D5];unfold D9;rw [hk];rfl
  refine Aa (Qp Dj (Aq (Ba (Qp Ah (Aq (AW.block ?_))))));refine AW.Aan (fun (p:Nat×Av)=>(⟨[(1,.ptr (cSyn t)),(3,.str p.2),(4,.int .i64 (p.1:Int))],H,165⟩:St)) (fun p=>p.1<=t.kids.length/\p.2++((t.kids.map Ae).drop p.1).flatten=Ae t) (fun p=>t.kids.length-p.1) ((0,[])) ?_ Bx ?_
  . exact ⟨A3 _,by rw [e];rfl⟩
  rintro p hR;refine Ba (Qp Ai (Qp (Qf Iv) (Qp Cg ?_)));refine Qp (Da t.kids.length rfl rfl (by simp)) ?_;refine Qp Bt (Ap (fun hc2=>?_) fun hc2=>?_)
  .
   obtain ⟨x,hxk⟩:=gt2 (l:=t.kids) (k:=p.1) (by have:=Do hc2;omega);have hlt:=Sz hxk;have hwx:=kids (by omega) x (An hxk);have hr:=Rv hxk;have hle:=congrArg List.length hR.2;rw [hr] at hle;simp only [Ax] at hle;refine A5 (AW.seq (AW.block (AW.region (Qp D3 (Qp (Qf Iv) (Qp Cg (Qp Ai ?_)))))));refine Qp (Cp Ag rfl rfl (by omega) (C8 hxk)) ?_;refine Qp (B1 Ag) (Qp (Qc rfl (hwx.1)) ?_);refine Qp (A4 rfl rfl rfl (by unfold maxLen;(try simp only [Ax,A1,A6]);omega)) ?_;refine Qp Dj (Rk (AW.region (Qp Ai (Qp Dt (Qp Ah (Aq ?_))))));refine ⟨(p.1+1,p.2++Ae x),?_,?_,Bx⟩
   . exact ⟨by omega,by rw [<-hR.2,hr];simp⟩
   simp only;omega
  have hkk:(t.kids.map Ae).length<=p.1:=by have:=Di hc2;rw [B7];omega
  have he:=hR.2;rw [L7 hkk,B4,Bh] at he;refine AW.exit ?_;refine Bn (Ri (Aa (Qp D3 (Qp Dj (Rb (Cn ?_))))));refine Au (Qr (.str _) ?_);rw [<-he];rfl
 .
  have hk:=N5 hc3;refine Aa (Qp (B1 Ag) ?_);refine Qp (Qc rfl (tZ t hk (by omega) hx (kids (by omega)) hbig)) ?_;refine Qp Dj (Ra (Qr (.str _) ?_));rfl
 .
  have hk:=N5 hc4;have e:Ae t=t.text ++ [58,32]++K4 t.num:=by rw [D5];unfold D9;rw [hk];rfl
  refine AW.seq ?_;refine Id ?_;refine Qn 0 rfl (Qf Oy) (Qn 1 rfl Dk ?_);refine Qn 2 rfl (A4 rfl rfl rfl (by unfold maxLen;(try simp only [Ax,A1,A6]);omega)) ?_;refine Qn 3 rfl (Qf M7) (Qn 4 rfl Be (Qn 5 rfl (Qc rfl (uA t.num)) ?_));refine Qn 6 rfl (A4 rfl rfl rfl (by unfold maxLen;(try simp only [Ax,A1,A6]);omega)) ?_;refine Qn 7 rfl Dj ?_;refine Fs ?_;refine A2 (AW.ret (Cn (Au (Qr (.str _) ?_))));rw [e]
  try rfl
 .
  have hk:=N5 hc5
  obtain ⟨q0,q1,r,hq⟩:∃q0 q1 r,t.kids=q0::q1::r:=by
   unfold Fy at hs;rw [hk] at hs
   replace hs:decide (3<=(t.kids.length:Int))=true:=hs
   simp only [Dp] at hs
   match hq:t.kids with
   | []=>rw [hq] at hs;simp at hs
   | [x]=>rw [hq] at hs;simp at hs
   | x::y::r=>exact ⟨x,y,r,rfl⟩
  have no4:∀(j:Nat) x,1<=j->t.kids[j]? = some x->x.kind≠4:=fun j x hj hx=>by
   have k:=(Po h hx).2;unfold G1 at k;rw [hk] at k;have e3:((j:Int)==0)=false:=by simp;omega
   simp only [e3] at k
   replace k:(if ((j:Int)==1)=true then Pl.pats else Pl.exps).at x.kind=true:=k
   split at k
   . have:=aE k;omega
   have:=eR k;omega
  have hq1:WOK q1:=kid 1 q1 (by rw [hq];rfl) (no4 1 q1 (B6 _) (by rw [hq];rfl))
  have hqr:∀x∈r,WOK x:=fun x hx=>by
   obtain ⟨j,hj⟩:=J9.1 hx;have hj2:t.kids[j+2]? = some x:=by rw [hq];simpa using hj
   exact kid (j+2) x hj2 (no4 (j+2) x (by omega) hj2)
  have hx0:q0.text.length<=1048576:=(Od (J1 hf (by rw [hq];simp))).1;refine Aa (Qp (B1 Ag) ?_);refine Qp (Qc rfl (r_asked t q0 q1 r hk hq (by omega) hx hx0 hq1 hqr hbig)) ?_;refine Qp Dj (Ra (Qr (.str _) ?_));rfl
 .
  have hk:=N5 hc6;refine Ba (Qp (Qf Iv) (Qp Cg ?_));refine Qp (Da t.kids.length rfl rfl (by simp)) ?_;refine Qp Aj (Ap (fun hc7=>?_) fun hc7=>?_)
  .
   have e:=wt_ev0 hk (pC hc7);refine Aa (Qp (Qf Oy) (Qp Dk ?_));refine Qp (A4 rfl rfl rfl (by unfold maxLen;(try simp only [Ax,A1,A6]);omega)) ?_;refine Qp (Qf Xe) (Qp Dk ?_);refine Qp (A4 rfl rfl rfl (by unfold maxLen;(try simp only [Ax,A1,A6]);omega)) ?_;refine Qp Dj (Rc (Cn (Au (Qr (.str _) ?_))));rw [e]
   try rfl
  have hp:=wQ hc7;refine (gt2 hp).elim fun x0 h0=>?_
  have hw0:=kids (by omega) x0 (An h0);have hw2:=hw0.2;have e:=wt_ev1 hk h0;refine A5 (AW.seq ?_);refine Id ?_;refine Qn 0 rfl (Qf Oy) (Qn 1 rfl Dk ?_);refine Qn 2 rfl (A4 rfl rfl rfl (by unfold maxLen;(try simp only [Ax,A1,A6]);omega)) ?_;refine Qn 3 rfl (Qf Xe) (Qn 4 rfl Dk ?_);refine Qn 5 rfl (A4 rfl rfl rfl (by unfold maxLen;(try simp only [Ax,A1,A6]);omega)) ?_;refine Qn 6 rfl (A4 rfl rfl rfl (by unfold maxLen;(try simp only [Ax,A1,A6]);omega)) ?_;refine Qn 7 rfl (Qf Iv) (Qn 8 rfl Cg ?_);refine Qn 9 rfl (Cp Ag rfl rfl (by decide) (C8 h0)) ?_;refine Qn 10 rfl (B1 Ag) (Qn 11 rfl (Qc rfl (hw0.1)) ?_);refine Qn 12 rfl (A4 rfl rfl rfl (by unfold maxLen;(try simp only [Ax,A1,A6]);omega)) ?_;refine Qn 13 rfl Dj ?_;refine Fs ?_;refine A2 (AW.ret (Cn (Au (Qr (.str _) ?_))));rw [e]
  try rfl
 .
  have hk:=N5 hc8;unfold Fy at hs;rw [hk] at hs
  replace hs:((t.kids.length:Int)==1)=true:=hs
  refine (fJ (t:=t) (N5 hs)).elim fun x0 hq=>?_
  have h0:t.kids[0]? = some x0:=by rw [hq];rfl
  have hw0:=kids (by omega) x0 (An h0);have hw2:=hw0.2;have e:=wt_within hk hq;refine AW.seq ?_;refine Id ?_;refine Qn 0 rfl (Qf Iv) (Qn 1 rfl Cg ?_);refine Qn 2 rfl (Cp Ag rfl rfl (by decide) (C8 h0)) ?_;refine Qn 3 rfl (B1 Ag) (Qn 4 rfl (Qc rfl (hw0.1)) ?_);refine Qn 5 rfl (A4 rfl rfl rfl (by unfold maxLen;(try simp only [Ax,A1,A6]);omega)) ?_;refine Qn 6 rfl (A4 rfl rfl rfl (by unfold maxLen;(try simp only [Ax,A1,A6]);omega)) ?_;refine Qn 7 rfl (Qf M7) (Qn 8 rfl Be (Qn 9 rfl (Qc rfl (kA t.num hi)) ?_));refine Qn 10 rfl (A4 rfl rfl rfl (by unfold maxLen;(try simp only [Ax,A1,A6]);omega)) ?_;refine Qn 11 rfl (A4 rfl rfl rfl (by unfold maxLen;(try simp only [Ax,A1,A6]);omega)) ?_;refine Qn 12 rfl Dj ?_;refine Fs ?_;refine A2 (AW.ret (Cn (Au (Qr (.str _) ?_))));rw [e]
  try rfl
 refine Aa (Qp Aj (Qp Ao (Ap (fun hc9=>?_) fun hc9=>Aa (Qp Aj (Qp Ao (Ap (fun hc10=>?_) fun hc10=>Aa (Qp Aj (Qp Ao (Ap (fun hc11=>?_) fun hc11=>Aa (Qp Aj (Qp Ao (Ap (fun hc12=>?_) fun hc12=>Aa (Qp Aj (Qp Ao (Ap (fun hc14=>?_) fun hc14=>Aa (Qp Aj (Qp Ao (Ap (fun hc15=>?_) fun hc15=>?_))))))))))))))))))
 .
  have hk:=N5 hc9;have e:=wt_lit hk;have hnames:=jV hfl hk;refine Aa (Qp (B1 Ag) ?_);refine Qp (Qc rfl (kB t hi (by omega) hnames)) ?_;refine Qp Dj (Ra (Qr (.str _) ?_));rw [e]
  try rfl
 .
  have hk:=N5 hc10;have e:Ae t=t.text ++ [46]++t.name:=by rw [D5];unfold D9;rw [hk];rfl
  refine Aa (Qp (Qf Oy) (Qp Dk ?_));refine Qp (A4 rfl rfl rfl (by unfold maxLen;(try simp only [Ax,A1,A6]);omega)) ?_;refine Qp (Qf Xe) (Qp Dk ?_);refine Qp (A4 rfl rfl rfl (by unfold maxLen;(try simp only [Ax,A1,A6]);omega)) ?_;refine Qp Dj (Ra (Qr (.str _) ?_));rw [e]
  try rfl
 .
  have hk:=N5 hc11;have e:Ae t = [99,111,117,110,116,40]++t.text ++ [41]:=by rw [D5];unfold D9;rw [hk];rfl
  refine Aa (Qp (Qf Oy) (Qp Dk ?_));refine Qp (A4 rfl rfl rfl (by unfold maxLen;(try simp only [Ax,A1,A6]);omega)) ?_;refine Qp (A4 rfl rfl rfl (by unfold maxLen;(try simp only [Ax,A1,A6]);omega)) ?_;refine Qp Dj (Ra (Qr (.str _) ?_));rw [e]
  try rfl
 .
  have hk:=N5 hc12;refine AW.seq ?_;refine Id ?_;refine Qn 0 rfl (Qf M7) (Qn 1 rfl Be (Qn 2 rfl (Qc rfl (qL t.num)) ?_));refine Qn 3 rfl (A4 rfl rfl rfl (by unfold maxLen;(try simp only [Ax,A1,A6]);omega)) ?_;refine Qn 4 rfl (Qf Oy) (Qn 5 rfl Dk ?_);refine Qn 6 rfl (A4 rfl rfl rfl (by unfold maxLen;(try simp only [Ax,A1,A6]);omega)) ?_;refine Qn 7 rfl (A4 rfl rfl rfl (by unfold maxLen;(try simp only [Ax,A1,A6]);omega)) ?_;refine Qn 8 rfl (Qf Xe) (Qn 9 rfl Dk ?_);refine Qn 10 rfl (A4 rfl rfl rfl (by unfold maxLen;(try simp only [Ax,A1,A6]);omega)) ?_;refine Qn 11 rfl Dj ?_;refine Fs ?_;refine A2 (Ba (Qp (Qf Iv) (Qp Cg ?_)));refine Qp (Da t.kids.length rfl rfl (by simp)) ?_;refine Qp De (Ap (fun hc13=>?_) fun hc13=>?_)
  .
   have hp:0<t.kids.length:=by have:=Do hc13;omega
   refine (gt2 hp).elim fun x0 h0=>?_
   have hw0:=kids (by omega) x0 (An h0);have hw2:=hw0.2;have hk0:=Po h h0;have hk13:x0.kind=13:=Sd (n:=13) (by have e0:G1 t 0 = .only 13:=by { unfold G1;rw [hk];rfl };have:=hk0.2;rwa [e0] at this);have hfx:=(Ls (Lr hk0.1).1).2.2.2;have hnames:=jV hfx hk13;have e:=wt_tot1 hk h0;have e2:=wt_lit hk13;have hix:=lY hk0.1;have htx:=(Od (J1 hf (An h0))).1;rw [e2] at e hw2;refine AW.region (Qp D3 (Qp (Qf Iv) (Qp Cg ?_)));refine Qp (Cp Ag rfl rfl (by decide) (C8 h0)) ?_;refine Qp (B1 Ag) (Qp (Qc rfl (kB x0 hix htx hnames)) ?_);refine Qp (A4 rfl rfl rfl (by unfold maxLen;(try simp only [Ax,A1,A6]);omega)) ?_;refine Qp (A4 rfl rfl rfl (by unfold maxLen;(try simp only [Ax,A1,A6]);omega)) ?_;refine Qp Dj (B2 (Qp D3 ?_));refine Qp (A4 rfl rfl rfl (by unfold maxLen;(try simp only [Ax,A1,A6]);omega)) ?_;refine Qp Dj (Ra (Qr (.str _) ?_));rw [e]
   try rfl
  have hp:¬0<t.kids.length:=by have:=Di hc13;omega
  have e:=wt_tot0 hk hp;refine A5 (Aa (Qp D3 ?_));refine Qp (A4 rfl rfl rfl (by unfold maxLen;(try simp only [Ax,A1,A6]);omega)) ?_;refine Qp Dj (Ra (Qr (.str _) ?_));rw [e]
  try rfl
 .
  have hk:=N5 hc14;unfold Fy at hs;rw [hk] at hs
  replace hs:((t.kids.length:Int)==2)=true:=hs
  refine (oV (t:=t) (N5 hs)).elim fun x0 hx1=>?_
  refine hx1.elim fun x1 hq=>?_
  have h0:t.kids[0]? = some x0:=by rw [hq];rfl
  have h1:t.kids[1]? = some x1:=by rw [hq];rfl
  have hw0:=kids (by omega) x0 (An h0);have hw1:=kids (by omega) x1 (An h1);have hl0:=Ui t x0 (Ae x0);have hl1:=Ui t x1 (Ae x1);have hw2:=hw0.2;have hw3:=hw1.2;have e:=wt_bin hk hq;refine AW.seq ?_;refine Id ?_;refine Qn 0 rfl (B1 Ag) (Qn 1 rfl (Qf Iv) (Qn 2 rfl Cg ?_));refine Qn 3 rfl (Cp Ag rfl rfl (by decide) (C8 h0)) ?_;refine Qn 4 rfl (B1 Ag) (Qn 5 rfl (Qc rfl (aJ t x0 hw0)) ?_);refine Qn 6 rfl (A4 rfl rfl rfl (by unfold maxLen;(try simp only [Ax,A1,A6]);omega)) ?_;refine Qn 7 rfl (Qf M7) (Qn 8 rfl Be (Qn 9 rfl (Qc rfl (uB t.num)) ?_));refine Qn 10 rfl (A4 rfl rfl rfl (by unfold maxLen;(try simp only [Ax,A1,A6]);omega)) ?_;refine Qn 11 rfl (A4 rfl rfl rfl (by unfold maxLen;(try simp only [Ax,A1,A6]);omega)) ?_;refine Qn 12 rfl (B1 Ag) (Qn 13 rfl (Qf Iv) (Qn 14 rfl Cg ?_));refine Qn 15 rfl (Cp Ag rfl rfl (by decide) (C8 h1)) ?_;refine Qn 16 rfl (B1 Ag) (Qn 17 rfl (Qc rfl (aJ t x1 hw1)) ?_);refine Qn 18 rfl (A4 rfl rfl rfl (by unfold maxLen;(try simp only [Ax,A1,A6]);omega)) ?_;refine Qn 19 rfl Dj ?_;refine Fs ?_;refine A2 (AW.ret (Cn (Au (Qr (.str _) ?_))));rw [e]
  try rfl
 .
  have hk:=N5 hc15;unfold Fy at hs;rw [hk] at hs
  replace hs:((t.kids.length:Int)==1)=true:=hs
  refine (fJ (t:=t) (N5 hs)).elim fun x0 hq=>?_
  have h0:t.kids[0]? = some x0:=by rw [hq];rfl
  have hw0:=kids (by omega) x0 (An h0);have hl0:=Ui t x0 (Ae x0);have hw2:=hw0.2;have e:=wt_not hk hq;refine AW.seq ?_;refine Id ?_;refine Qn 0 rfl (B1 Ag) (Qn 1 rfl (Qf Iv) (Qn 2 rfl Cg ?_));refine Qn 3 rfl (Cp Ag rfl rfl (by decide) (C8 h0)) ?_;refine Qn 4 rfl (B1 Ag) (Qn 5 rfl (Qc rfl (aJ t x0 hw0)) ?_);refine Qn 6 rfl (A4 rfl rfl rfl (by unfold maxLen;(try simp only [Ax,A1,A6]);omega)) ?_;refine Qn 7 rfl Dj ?_;refine Fs ?_;refine A2 (AW.ret (Cn (Au (Qr (.str _) ?_))));rw [e]
  try rfl
 have e:=wt_call k0 k18 ⟨Ql hc1,Ql hc3,Ql hc4,Ql hc5,Ql hc6,Ql hc8,Ql hc9,Ql hc10,Ql hc11,Ql hc12,Ql hc14,Ql hc15⟩;have hb2:=hbig;rw [e] at hb2;simp only [Ax,A1,A6] at hb2;have hn5:=Ql hc5;refine Rf (AW.seq ?_);refine Id ?_;refine Qn 0 rfl (Qf Ag) (Qn 1 rfl Be (Qn 2 rfl (Qc rfl (Aaa t.kind)) ?_));refine Qn 3 rfl (A4 rfl rfl rfl (by unfold maxLen;(try simp only [Ax,A1,A6]);omega)) ?_;refine Qn 4 rfl (B1 Ag) ?_;refine Qn 5 rfl (Qc rfl (xH t (by omega) (kids hn5) (by omega))) ?_;refine Qn 6 rfl (A4 rfl rfl rfl (by unfold maxLen;(try simp only [Ax,A1,A6]);omega)) ?_;refine Qn 7 rfl (A4 rfl rfl rfl (by unfold maxLen;(try simp only [Ax,A1,A6]);omega)) ?_;refine Qn 8 rfl Dj ?_;refine Fs ?_;refine A2 (AW.ret (Qr (.str _) ?_));rw [e]
 try rfl
theorem kC (t:Syn)(p:Pl)(hfew:It t)(hp:p.fine)(ho:p.ok):Ak Tryz.prog 104 [.agg (cSyn t),.int .i64 p.role] (.tuple [.str (B0 t p).1,.int .i64 (B0 t p).2]):=by
 refine Cw 23 Tryz.func104 rfl fun H=>?_
 refine Aa (Qp (Eh Ag) (Qp Dj (Qp Ah (Aq (Ba (Qp (B1 Ag) (Qp Ai (Qp (Qc rfl (r_check t p ho hfew)) (Qp Ah (B2 (Qp Ai (Qp Bq (Ap (fun hc1=>Aa (Qp Ai (Qp Dj (Qp Ah (Rc (Ku (.str _) (Iq _) ?_)))))) fun hc1=>?_)))))))))))))
 .
  have h9:B0 t p=([],Cb t p):=if_pos hc1;rw [h9];rfl
 have h0:Cb t p=0:=by simpa using hc1
 have hkd:=hp _ (Ls (Lr h0).1).1;have hwl:=dE h0 hfew;refine A5 (Ba (Qp (B1 Ag) (Qp (Qc rfl (Aab t hfew)) (Qp De (Ap (fun hc2=>Aa (Qp Dj (Qp Ah (Rc (Ku (.str _) (Iq _) ?_))))) fun hc2=>?_)))))
 .
  have h9:B0 t p=([],12):=(Bl hc1).trans (if_pos hc2);rw [h9];rfl
 refine A5 (Aa (Qp (B1 Ag) (Qp (Qc rfl (r_write t p h0 hfew hkd.1 hkd.2.1 hkd.2.2)) (Qp Dj (Aq (Ba (Qp D3 (Qp (Ck tok rfl rfl rfl rfl) (Qp De (Ap (fun hc3=>Aa (Qp Dj (Qp Ah (Rc (Ku (.str _) (Iq _) ?_))))) fun hc3=>A5 (Aa (Qp D3 (Qp Dj (Qp Ah (Rb (Ku (.str _) (Iq _) ?_))))))))))))))))
 .
  have h9:B0 t p=([],13):=((Bl hc1).trans (Bl hc2)).trans (if_pos hc3);rw [h9];rfl
 have h9:B0 t p=(Ae t,0):=((Bl hc1).trans (Bl hc2)).trans (Bl hc3);rw [h9];rfl
theorem r_Query (t:Syn)(hfew:It t):Ak Tryz.prog 48 [.agg (cSyn t)] (.tuple [.str (B0 t (.only 3)).1,.int .i64 (B0 t (.only 3)).2]):=by
 refine Cw 8 Tryz.func48 rfl fun H=>?_
 refine Aa (Qp (Eh Ag) (Qp Dj (Qp Ah (B2 (Qp (B1 Ag) (Qp (Qc rfl (kC t (.only 3) hfew bR (.inr (.inr (.inr (.inl rfl)))))) (Qp kT (Qp Km (Qp Dj (Qp Ah (Rb (Ku (.str _) (Iq _) ?_))))))))))));rfl
theorem r_Check (t:Syn)(hfew:It t):Ak Tryz.prog 60 [.agg (cSyn t)] (.int .i64 (B0 t (.only 0)).2):=by
 refine Cw 11 Tryz.func60 rfl fun H=>?_
 refine Aa (Qp (Eh Ag) (Qp Ah (B2 (Qp (B1 Ag) (Qp (Qc rfl (kC t (.only 0) hfew X2 (.inl rfl))) (Qp Ml (Qp kT (Qp Km (Qp Dj (Qp Ah (B2 (Qp Ai (Qp Ah (Rb (Qr (Iq _) ?_)))))))))))))));rfl
theorem repL_set {n k:Nat}(h:k<n):(Kq n k).set k (-1)=Kq n (k+1):=by
 unfold Kq;rw [List.set_append,if_neg (by simp),Ss,Nat.sub_self];obtain ⟨m,hm⟩:∃m,n-k=m+1:=⟨n-k-1,by omega⟩;rw [hm,show n-(k+1)=m by omega,List.replicate_succ,List.set_cons_zero,List.replicate_succ',Eg,List.singleton_append]
abbrev iO (q:List Int×Bool):AV:=AV.tuple [.sl 1 (q.1.map cI),.bool q.2]
theorem n4_key (T:List e8Sc)(V:List Va)(hrv:RvOK T V)(n:Av)(hT:0<T.length):Ak Tryz.prog 106 [.sl 2 (T.map Js),.sl 2 (V.map Ox),.str n] (.tuple [.sl 1 ((Oz T V n).1.map cI),.bool (Oz T V n).2]):=by
 have htl:=hrv.tl;have hvl:=hrv.vl;have hmx:1048576<=maxLen:=by decide
 refine Cw 51 Tryz.func106 rfl fun H=>?_
 refine Aa (Qp (Cm (z:=1) rfl) (Qp Ao (B2 (Qp Ez ?_))));refine Qp (Da T.length rfl rfl (by simp)) ?_;refine Qe (aZ (n:=T.length) tok rfl rfl rfl rfl rfl rfl rfl (by show 8*T.length<=_;omega) (by omega)) ?_;rintro _ _ ⟨b14,rfl,rfl⟩;refine Qp Qh ?_;refine AOL.ghost (GS.cells 0 rfl ((vH T.length).trans (congrArg bI (show List.replicate T.length 0=Kq T.length 0 by simp [Kq])))) ?_;refine Aq (Ba (Qp Ah (Aq (AW.block ?_))));refine AW.Aan (fun (k:Nat)=>(⟨[(0,.sl 2 (T.map Js)),(1,.sl 2 (V.map Ox)),(2,.str n),(8,.val (.slice (some ⟨b14,0,none⟩) T.length T.length)),(9,.int .i64 (k:Int))],.box b14 3 (bI (Kq T.length k))::H,51⟩:St)) (fun k=>k<=T.length) (fun k=>T.length-k) (0) ?_ Bx ?_
 . exact A3 _
 rintro k hK;refine Ba (Qp Ai (Qp Ce (Qp (iL tok rfl rfl rfl) (Qp Bt (Ap (fun hc1=>?_) fun hc1=>?_)))))
 .
  have hlt0:k<T.length:=by have:=Do hc1;omega
  refine A5 (AW.seq (AW.block (AW.region (Qp Ce (Qp Ai ?_)))));refine Qp (Dg (o':=k) tok rfl rfl rfl rfl rfl (by omega) (by omega) (tU _)) ?_;refine Rt (Nj (k:=0) (v:=Iq _) (cs':=bI (Kq T.length (k+1))) (H2:=_::_) tok rfl rfl rfl rfl rfl rfl (cS (by rw [T7 (by omega)];omega)) ((dY (by rw [T7 (by omega)];omega)).trans (congrArg bI (repL_set hlt0))) rfl) ?_;refine Rk (AW.region (Qp Ai (Qp Dt (Qp Ah (Aq ?_)))));refine ⟨k+1,?_,?_,Bx⟩
  . omega
  omega
 have hkn:k=T.length:=by have:=Di hc1;omega
 subst hkn;refine AW.exit ?_;refine Bn (Ri (Ba (Qp Ah (Aq (AW.block ?_)))));refine AW.ghost (GS.cells 0 rfl (congrArg bI (kD T.length))) ?_;refine AW.Aan (fun (q:Nat×List Int)=>(⟨[(0,.sl 2 (T.map Js)),(1,.sl 2 (V.map Ox)),(2,.str n),(8,.val (.slice (some ⟨b14,0,none⟩) T.length T.length)),(10,.int .i64 (q.1:Int))],.box b14 3 (bI q.2)::H,51⟩:St)) (fun q=>q.1<=V.length/\q.2.length=T.length/\Oz T V n=Wg T n (V.drop q.1) q.2) (fun q=>V.length-q.1) ((0,Yj T.length)) ?_ Bx ?_
 . exact ⟨A3 _,by simp [Yj],rfl⟩
 rintro q hR;refine Ba (Qp Ai (Qp Ez ?_));refine Qp (Da V.length rfl rfl (by simp)) ?_;refine Qp Bt (Ap (fun hc2=>?_) fun hc2=>?_)
 .
  obtain ⟨a,ha⟩:=B3 hc2;have hlt:=Bf ha;have hm:=An ha;have hvt:=hrv.ty a hm;refine (aT hrv hm).elim fun sc hsc=>?_
  have hfl:=hrv.fl sc (An hsc);have hb:a.type.toNat<q.2.length:=by have:=hR.2.1;omega
  refine A5 (AW.seq (AW.block (Aa (Qp Ez (Qp Ai ?_)))));refine Qp (Cp E4 rfl rfl (by omega) (Bp ha)) ?_;refine Qp (Qf [Iq _]) (Qp Be (Qp Ah (B2 (Qp Ce (Qp Ai (Qp Ez (Qp Ai ?_)))))));refine Qp (Cp Jl rfl rfl (hvt.1) (Bp hsc)) (Qp (Qf [_]) (Qp Cg (Qp D3 (Qp (Qc rfl (n4_fld sc.fields hfl n)) (Qp (Dg (o':=a.type.toNat) tok rfl rfl rfl rfl rfl (hvt.1) (hvt.2) (tU _)) (Rt (Nj (k:=0) (v:=Iq _) (cs':=bI (q.2.set a.type.toNat (Hz sc n))) (H2:=_::_) tok rfl rfl rfl rfl rfl rfl (cS hb) (dY hb) rfl) (B2 (Qp Ce (Qp Ai (Qp (Dg (o':=a.type.toNat) tok rfl rfl rfl rfl rfl (hvt.1) (hvt.2) (tU _)) (AOL.Aas (Cl (k:=0) (c:=.int .i64 (Hz sc n)) tok rfl rfl rfl (Zi hb)) rfl rfl (Qp Bt (Ap (fun hc3=>Aa (Qp (Cm (z:=1) rfl) (Qp Ao (Ra (Au (Cn (Au ?_))))))) fun hc3=>Rf (AW.region (Qp Ai (Qp Dt (Qp Ah (Aq ?_))))))))))))))))))
  .
   refine Yx [.sl _ _,.bool _] Zf S1 ?_;exact Ye iO (hR.2.2.trans (lO ha hsc hc3))
  refine ⟨(q.1+1,q.2.set a.type.toNat (Hz sc n)),?_,?_,Bx⟩
  . exact ⟨hlt,by simp only [List.length_set];exact hR.2.1,hR.2.2.trans (tH ha hsc hc3)⟩
  simp only;omega
 have hde:=Ek hc2;have hall:=hR.2.2;rw [hde] at hall;refine AW.exit ?_;refine Bn (Ri (Aa ?_));refine AOL.ghost (GS.freezeSl (t:=8) (z:=1) (es:=q.2.map cI) 0 rfl rfl (kU _) (by rw [B7];exact hR.2.1.symm) (B6 _) (by unfold maxLen;omega) (fX (fun _=>rfl) _) mN) ?_;refine Qp Ez (Qp Xk (Qp Ao (Rb (Ku (.sl _ _) (.bool _) ?_))));exact Ye iO ((hall.trans (by rw [Wg]):Oz T V n=(q.2,true)))
theorem cn_0 {x:Vl}(h:(x.kind==0)=true):Ro x=⟨13,x.text,Gd,x.num,[],0⟩:=by unfold Ro knm;rw [if_pos h]
theorem cn_1 {x:Vl}(h:(x.kind==0)=false)(h1:(x.kind==1)=true):Ro x=⟨13,x.text,E6,x.num,[],0⟩:=by unfold Ro knm;rw [Bl h,if_pos h1]
theorem cn_2 {x:Vl}(h:(x.kind==0)=false)(h1:(x.kind==1)=false):Ro x=⟨13,x.text,D4,x.num,[],0⟩:=by unfold Ro knm;rw [Bl h,Bl h1]
abbrev Zh (q:Syn):AV:=AV.agg (cSyn q)
theorem pI (x:Vl):Ak Tryz.prog 140 [.agg (cV x)] (.agg (cSyn (Ro x))):=by
 refine Cw 19 Tryz.func140 rfl fun H=>?_
 refine Aa (Qp (Eh Mf) (Dx F1 fun b2=>B2 (Qp yN (Qp Be (Qp Qf7 (Qp Dk (Qp (D0 Ag) (Dx F1 fun b3=>?_))))))));refine Bw 0 Ag (_::_::_) (Aq (Ba (Qp Vy (Qp Be (Aq (AW.block (Aa (Qp Aj (Qp Ao (Ap (fun hc1=>AW.region (Qp Co ?_)) fun hc1=>Aa (Qp Aj (Qp Ao (Ap (fun hc2=>AW.region (Qp Co ?_)) fun hc2=>AW.region (Qp Co ?_))))))))))))))
 .
  refine Bw 0 Ag (_::_::_) (Rk (Aa (Nu 0 Ag rfl ?_)));refine Bw 1 Ag (_::_::_) (Rb ?_);refine Yx [.agg Ag] (Zb 1) S2 ?_;exact Ye Zh (cn_0 hc1)
 .
  refine Bw 0 Ag (_::_::_) (Rk (Aa (Nu 0 Ag rfl ?_)));refine Bw 1 Ag (_::_::_) (Rb ?_);refine Yx [.agg Ag] (Zb 1) S2 ?_;exact Ye Zh (cn_1 hc1 hc2)
 refine Bw 0 Ag (_::_::_) (Rk (Aa (Nu 0 Ag rfl ?_)));refine Bw 1 Ag (_::_::_) (Rb ?_);refine Yx [.agg Ag] (Zb 1) S2 ?_;exact Ye Zh (cn_2 hc1 hc2)
section
variable {T:List e8Sc} {V:List Va} {e:Ex}
theorem ko_1 (h:(decide (1<=e.op)&&decide (e.op<=4))=true)(h2:decide ((V.length:Int)<=e.var)=true):X9 T V e=false:=(if_pos h).trans (if_pos h2)
theorem ko_2 (h:(decide (1<=e.op)&&decide (e.op<=4))=true)(h2:decide ((V.length:Int)<=e.var)=false){c:Bool}(h3:(((e.op==1)||(e.op==4))&&decide (((Xg T V e.var).fields.length:Int)<=e.field))=c):X9 T V e = !c:=(if_pos h).trans ((Bl h2).trans (by rw [h3]))
theorem ko_3 (h:(decide (1<=e.op)&&decide (e.op<=4))=false):X9 T V e=true:=Bl h
theorem kn_no (h:X9 T V e=false):Kp T V e=false:=by rw [Rz,h];rfl
theorem kn_ar (h:X9 T V e=true){k:Nat}{a:Ex}(ha:e.args[k]? = some a)(h2:(!(Kp T V a))=true):Kp T V e=false:=by
 rw [Rz,h,Ee];rw [<-Qa,E3];intro hl;rw [hl a (An ha)] at h2;cases h2
theorem kn_all (h:X9 T V e=true)(h2:e.args.all (Kp T V)=true):Kp T V e=true:=by rw [Rz,h,h2];rfl
theorem nm_no2 (h:Qz T V e=false):Nq T V e=false:=by rw [Yf,h];rfl
theorem nm_ar (h:Qz T V e=true){k:Nat}{a:Ex}(ha:e.args[k]? = some a)(h2:(!(Nq T V a))=true):Nq T V e=false:=by
 rw [Yf,h,Ee];rw [<-Qa,E3];intro hl;rw [hl a (An ha)] at h2;cases h2
theorem nm_all (h:Qz T V e=true)(h2:e.args.all (Nq T V)=true):Nq T V e=true:=by rw [Yf,h,h2];rfl
theorem dS {p:Ex->Bool}{l:List Ex}{k:Nat}{a:Ex}(h:(l.take k).all p=true)(ha:l[k]? = some a)(h2:(!(p a))=false):(l.take (k+1)).all p=true:=by
 rw [Cf ha,List.all_append,h,Jr,List.all_nil];simpa using h2
theorem no_1 (h:((e.op==1)||(e.op==4))=true){c:Bool}(h2:(Il (iB T V e.var e.field) != 0)=c):Qz T V e = !c:=by
 unfold Qz;rw [if_pos h];unfold Q3;rw [K5,<-h2];simp [bne]
theorem no_2 (h:((e.op==1)||(e.op==4))=false):Qz T V e=true:=Bl h
end
theorem n4_known (T:List e8Sc)(V:List Va)(hrv:RvOK T V)(e:Ex)(hs:Bz e<=1048576)(hn:C0 e=0):Ak Tryz.prog 80 [.agg (cNm T V),.agg (cE e)] (.bool (Kp T V e)):=by
 induction e using Ex.ind
 rename_i e ih;have hal:=Mb e hs;have hvl:=hrv.vl;have hp:=Q4 hn;have hna:=(D1 hn).2;refine Cw 61 Tryz.func80 rfl fun H=>?_
 refine Aa (Qp (Eh [_,_]) (Qp iM (Qp Ao (Aq ?_))));refine AW.Aar (fun (_:Unit)=>(⟨[(2,.ptr (cNm T V)),(3,.ptr (cE e))],H,61⟩:St)) (fun _=>X9 T V e=true) ?_ ?_
 .
  refine Aa (Qp Pj (Qp Be (Qp Fc (Qp A8 (Qg [] Qw Pj (Qg [(10,_)] Qw Be (Qg [(11,_)] Qw Mk (Qp Ej (Ap (fun hc1=>Ba (Qp bF (Qp Be (Qp (Qf [_]) (Qp Cg ?_))))) fun hc1=>A5 ?_)))))))))
  .
   refine Qp (Da V.length rfl rfl (by simp)) ?_;refine Qp Fc (Ap (fun hc2=>Aa (Qp Ao (Rc (Au (Qr (.bool _) ?_))))) fun hc2=>?_)
   . exact Ye AV.bool (kn_no (ko_1 hc1 hc2))
   have hv1:e.var<(V.length:Int):=by have:=Di hc2;omega
   refine A5 (AW.seq ?_);refine Id ?_;refine Qn 0 rfl Pj (Qn 1 rfl Be (Qn 2 rfl Aj (Qn 3 rfl A8 (Qo 4 rfl [] Qw Pj (Qo 5 rfl [(24,_)] Qw Be (Qo 6 rfl [(25,_)] Qw Aj (Qn 7 rfl Cr (Qn 8 rfl A8 (Qo 9 rfl [] Qw kS ?_)))))))));refine Qo 10 rfl [(29,_)] Qw Be (Qo 11 rfl [] Qw (Qf [_,_]) (Qo 12 rfl [(31,_)] Qw Cg (Qo 13 rfl [] Qw (Qf [_]) (Qo 14 rfl [(33,_)] Qw Cg (Qo 15 rfl [] Qw bF (Qo 16 rfl [(35,_)] Qw Be ?_))))));refine Qo 17 rfl [(34,_),(36,_)] (Yv rfl Es Es) (Cp E4 rfl rfl (hp.1) (Bp (Pc hp.1 hv1))) (Qo 18 rfl [(37,_)] Qw (Qf [Iq _]) (Qo 19 rfl [(38,_)] Qw Be (Qo 20 rfl [(32,_),(39,_)] (Yv rfl Es Es) (Cp Jl rfl rfl ((Yy hrv hp.1 hv1).1) (Bp (Yy hrv hp.1 hv1).2.1)) (Qo 21 rfl [(40,_)] Qw (Qf [_]) (Qo 22 rfl [(41,_)] Qw Cg ?_)))));refine Yo 23 rfl [(42,_)] Qw (fun hG=>Da ((Xg T V e.var).fields.length) rfl rfl (by simp)) ?_;refine Qo 24 rfl [(30,_),(43,_)] Yw Fc (Qn 25 rfl Ej ?_);refine Fs ?_;refine A2 (E9 (fun hc3=>Aa (Qp Ao (Rc (Qr (.bool _) ?_)))) fun hc3=>A5 ?_)
   . exact Ye AV.bool (kn_no (ko_2 hc1 hc2 hc3))
   refine ⟨(),?_,Bx⟩;exact ko_2 hc1 hc2 hc3
  refine ⟨(),?_,Bx⟩;exact ko_3 hc1
 rintro _ hko;refine Ba (Qp Ah (Aq (AW.block ?_)));refine AW.Aan (fun (k:Nat)=>(⟨[(2,.ptr (cNm T V)),(3,.ptr (cE e)),(5,.int .i64 (k:Int))],H,61⟩:St)) (fun k=>k<=e.args.length/\(e.args.take k).all (Kp T V)=true) (fun k=>e.args.length-k) (0) ?_ Bx ?_
 . exact ⟨A3 _,rfl⟩
 rintro k hR;refine Ba (Qp Ai (Qp Y7 (Qp Cg ?_)));refine Qp (Da e.args.length rfl rfl (by simp)) ?_;refine Qp Bt (Ap (fun hc4=>?_) fun hc4=>?_)
 .
  obtain ⟨a,ha⟩:=B3 hc4;have hlt:=Bf ha;have hm:=An ha;refine A5 (AW.seq (AW.block (AW.seq ?_)));refine Id ?_;refine Qn 0 rfl (B1 [_,_]) (Qn 1 rfl Y7 (Qn 2 rfl Cg (Qn 3 rfl Ai ?_)));refine Qn 4 rfl (Cp Hh rfl rfl (by omega) (e_at ha)) ?_;refine Qn 5 rfl Kt ?_;refine Qn 6 rfl (Qc rfl (ih a hm (by have:=Gu hm;omega) (hna a hm))) ?_;refine Qn 7 rfl E7 ?_;refine Fs ?_;refine A2 (E9 (fun hc5=>Aa (Qp Ao (Ra (Au (Cn (Au (Qr (.bool _) ?_))))))) fun hc5=>Rf (AW.region (Qp Ai (Qp Dt (Qp Ah (Aq ?_))))))
  . exact Ye AV.bool (kn_ar hko ha hc5)
  refine ⟨k+1,?_,?_,Bx⟩
  . exact ⟨hlt,dS hR.2 ha hc5⟩
  omega
 have hte:=B9 hc4;have hall:=hR.2;rw [hte] at hall;refine AW.exit ?_;refine Bn (Ri (Aa (Qp Ao (Rb ?_))));refine Qr (.bool _) ?_;exact Ye AV.bool (kn_all hko hall)
theorem n4_named (T:List e8Sc)(V:List Va)(hrv:RvOK T V)(hsn:∀s∈T,Ly s)(e:Ex)(hs:Bz e<=1048576)(hn:C0 e=0)(hk:Kp T V e=true):Ak Tryz.prog 81 [.agg (cNm T V),.agg (cE e)] (.bool (Nq T V e)):=by
 induction e using Ex.ind
 rename_i e ih;have hal:=Mb e hs;have hp:=Q4 hn;have hna:=(D1 hn).2;rw [Rz,Cz] at hk;have hko:=hk.1;have hka:=E3.1 hk.2;refine Cw 48 Tryz.func81 rfl fun H=>?_
 refine Aa (Qp (Eh [_,_]) (Qp iM (Qp Ao (Aq ?_))));refine AW.Aar (fun (_:Unit)=>(⟨[(2,.ptr (cNm T V)),(3,.ptr (cE e))],H,48⟩:St)) (fun _=>Qz T V e=true) ?_ ?_
 .
  refine Aa (Qp Pj (Qp Be (Qp Aj (Qp A8 (Qg [] Qw Pj (Qg [(10,_)] Qw Be (Qg [(11,_)] Qw Aj (Qp Cr (Ap (fun hc1=>?_) fun hc1=>A5 ?_)))))))))
  .
   have hfd:=Ya hn hko (by simpa using hc1);have hfn:=eY hfd;have hsi:=Yy hrv hfn.1 hfn.2.1;refine AW.seq ?_;refine Id ?_;refine Qn 0 rfl (Qf [_,_]) (Qn 1 rfl Cg (Qn 2 rfl (Qf [_]) (Qn 3 rfl Cg (Qn 4 rfl bF (Qn 5 rfl Be ?_)))));refine Qn 6 rfl (Cp E4 rfl rfl (hfn.1) (Bp (Pc hfn.1 hfn.2.1))) (Qn 7 rfl (Qf [Iq _]) (Qn 8 rfl Be (Qn 9 rfl (Cp Jl rfl rfl (hsi.1) (Bp hsi.2.1)) (Qn 10 rfl (Qf [_]) (Qn 11 rfl Cg (Qn 12 rfl kS (Qn 13 rfl Be ?_)))))));refine Qn 14 rfl (Cp E4 rfl rfl (hfn.2.2.1) (Bp (oG hfn.2.2.1 hfn.2.2.2))) (Qn 15 rfl (Qf E4) (Qn 16 rfl Dk (Qn 17 rfl (Qc rfl (c21 (iB T V e.var e.field) (vX hrv hsn hfd))) (Qn 18 rfl Bq ?_))));refine Fs ?_;refine A2 (E9 (fun hc2=>Aa (Qp Ao (Rc (Qr (.bool _) ?_)))) fun hc2=>A5 ?_)
   . exact Ye AV.bool (nm_no2 (no_1 hc1 hc2))
   refine ⟨(),?_,Bx⟩;exact no_1 hc1 hc2
  refine ⟨(),?_,Bx⟩;exact no_2 hc1
 rintro _ hno;refine Ba (Qp Ah (Aq (AW.block ?_)));refine AW.Aan (fun (k:Nat)=>(⟨[(2,.ptr (cNm T V)),(3,.ptr (cE e)),(5,.int .i64 (k:Int))],H,48⟩:St)) (fun k=>k<=e.args.length/\(e.args.take k).all (Nq T V)=true) (fun k=>e.args.length-k) (0) ?_ Bx ?_
 . exact ⟨A3 _,rfl⟩
 rintro k hR;refine Ba (Qp Ai (Qp Y7 (Qp Cg ?_)));refine Qp (Da e.args.length rfl rfl (by simp)) ?_;refine Qp Bt (Ap (fun hc3=>?_) fun hc3=>?_)
 .
  obtain ⟨a,ha⟩:=B3 hc3;have hlt:=Bf ha;have hm:=An ha;refine A5 (AW.seq (AW.block (AW.seq ?_)));refine Id ?_;refine Qn 0 rfl (B1 [_,_]) (Qn 1 rfl Y7 (Qn 2 rfl Cg (Qn 3 rfl Ai ?_)));refine Qn 4 rfl (Cp Hh rfl rfl (by omega) (e_at ha)) ?_;refine Qn 5 rfl Kt ?_;refine Qn 6 rfl (Qc rfl (ih a hm (by have:=Gu hm;omega) (hna a hm) (hka a hm))) ?_;refine Qn 7 rfl E7 ?_;refine Fs ?_;refine A2 (E9 (fun hc4=>Aa (Qp Ao (Ra (Au (Cn (Au (Qr (.bool _) ?_))))))) fun hc4=>Rf (AW.region (Qp Ai (Qp Dt (Qp Ah (Aq ?_))))))
  . exact Ye AV.bool (nm_ar hno ha hc4)
  refine ⟨k+1,?_,?_,Bx⟩
  . exact ⟨hlt,dS hR.2 ha hc4⟩
  omega
 have hte:=B9 hc3;have hall:=hR.2;rw [hte] at hall;refine AW.exit ?_;refine Bn (Ri (Aa (Qp Ao (Rb ?_))));refine Qr (.bool _) ?_;exact Ye AV.bool (nm_all hno hall)
end Go.Proofs.YtckhoadldibflaaGreatDoor
