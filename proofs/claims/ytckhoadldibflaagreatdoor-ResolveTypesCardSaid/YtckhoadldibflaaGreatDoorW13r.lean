/-
  Walks: the checks of the reference of the printer. No condition.
-/
import Derived.Test.YtckhoadldibflaaGreatDoorK01
import Derived.Test.YtckhoadldibflaaGreatDoorK28
import Derived.Test.YtckhoadldibflaaGreatDoorK35
import Derived.KernelRfl
namespace Go.Proofs.YtckhoadldibflaaGreatDoor
open Go Go.Aw
set_option maxHeartbeats 3200000
set_option maxRecDepth 20000
set_option linter.unusedVariables false
set_option linter.unusedSimpArgs false

def nmR (s:Aq):Bool:=Wu s==0
theorem xE (s:Aq):nmR s=dQ s:=by unfold nmR dQ;rw [rK]
def G9 (k r:Int):Bool:=
 if (r==5) then isPat k else if (r==7) then isExp k else if (r==6) then (k==5) else if (r==8) then (k==13) else if (r==0) then (k==0) else if (r==1) then (k==1) else if (r==2) then (k==2) else if (r==3) then (k==3) else (k==4)
theorem iY {p:Pl}(h:p.ok)(k:Int):G9 k p.role=p.at k:=by
 cases p with
 | pats=>rfl
 | exps=>rfl
 | only n=>rcases h with rfl | rfl | rfl | rfl | rfl | rfl | rfl <;> rfl
def Jl (t:Syn):Bool:=
 if (t.kind==0)||(t.kind==1) then true
 else if (t.kind==3) then decide (3≤(t.kids.length:Int))
 else if (t.kind==5) then decide ((t.kids.length:Int)≤1)
 else if ((t.kind==6)||(t.kind==7))||(t.kind==8) then decide (2≤(t.kids.length:Int))
 else if ((t.kind==9)||(t.kind==11))||(t.kind==18) then ((t.kids.length:Int)==1)
 else if ((t.kind==10)||(t.kind==12))||(t.kind==17) then ((t.kids.length:Int)==2)
 else if (t.kind==16) then (((t.kids.length:Int)==1)&&(t.num != 1))||(((t.kids.length:Int)==0)&&(t.num==1))
 else ((t.kids.length:Int)==0)
theorem mO (t:Syn):Jl t=Dr t:=by
 have e:((((t.kids.length:Int)==1)&&(t.num != 1))||(((t.kids.length:Int)==0)&&(t.num==1)))=if (t.num==1) then ((t.kids.length:Int)==0) else ((t.kids.length:Int)==1):=by
  cases h:(t.num==1) <;> simp [bne,h]
 unfold Jl Dr
 rw [e]
def L8 (t:Syn):Bool:=
 if (((t.kind==1)||(t.kind==2))||(t.kind==3))||(t.kind==15) then dQ t.text
 else if (t.kind==4) then (t.text == [])||dQ t.text
 else if (t.kind==5)||(t.kind==16) then dQ t.text&&dQ t.name
 else if (t.kind==14) then dQ t.text&&((t.name==E5)||dQ t.name)
 else true
theorem U3 (k:Int):(k=0∨k=1∨k=2∨k=3∨k=4∨k=5∨k=6∨k=7∨k=8∨k=9∨k=10∨k=11∨k=12∨k=13∨k=14∨k=15∨k=16∨k=17∨k=18)∨(∀n:Int,0≤n→n≤18→(k==n)=false):=by
 by_cases h:0≤k∧k≤18
 · left;omega
 · right;intro n h0 h1;simp only [beq_eq_false_iff_ne];omega
theorem nE (t:Syn):L8 t=N6 t:=by
 unfold L8 N6 Lu
 rcases U3 t.kind with h | h
 · rcases h with h | h | h | h | h | h | h | h | h | h | h | h | h | h | h | h | h | h | h <;> rw [h] <;> cases h1:dQ t.text <;> cases h2:dQ t.name <;> cases h3:(t.text == []) <;> cases h4:(t.name==E5) <;> rfl
 ·
  rw [h 1 (by decide) (by decide),h 2 (by decide) (by decide),h 3 (by decide) (by decide),h 4 (by decide) (by decide),h 5 (by decide) (by decide),h 14 (by decide) (by decide),h 15 (by decide) (by decide),h 16 (by decide) (by decide)]
  rfl
def Fu (t:Syn):Int:=
 if (t.name==E3) then if (decide (t.num < -1099511627776)||decide (1099511627776<t.num)) then 2 else if !(t.text == []) then 3 else 0
 else if (t.name==D3) then if ((t.num != 0)&&(t.num != 1)) then 2 else if !(t.text == []) then 3 else 0
 else if (t.name==Da) then if decide (64<(t.text.length:Int)) then 13 else if (t.num != 0) then 3 else 0
 else 1
theorem gP (t:Syn):Fu t=Er t:=by
 have e:((t.num != 0)&&(t.num != 1))=(decide (t.num<0)||decide (1<t.num)):=by
  rw [Bool.eq_iff_iff]
  simp only [Bool.and_eq_true,bne_iff_ne,Bool.or_eq_true,decide_eq_true_eq]
  omega
 unfold Fu Er
 rw [e]
def lU (k:Int):Bool:=(((((((k==1)||(k==2))||(k==3))||(k==4))||(k==5))||(k==14))||(k==15))||(k==16)
def oQ (k:Int):Bool:=((k==5)||(k==14))||(k==16)
def Lr (t:Syn)(u:Int):Int:=if ((u != 0)||(!(lU t.kind) && !(t.text == [])))||(!(oQ t.kind) && !(t.name == [])) then 3 else 0
def Gk (t:Syn):Int:=
 if (t.kind==13) then Er t
 else if (t.kind==2) then if (decide (t.num<0)||decide (2<t.num)) then 1 else Lr t 0
 else if (t.kind==16) then if (decide (t.num<1)||decide (5<t.num)) then 1 else Lr t 0
 else if (t.kind==17) then if (decide (t.num<5)||decide (11<t.num)) then 1 else Lr t 0
 else if (t.kind==11) then if (decide (t.num<0)||decide (1099511627776<t.num)) then 2 else Lr t 0
 else Lr t t.num
theorem uF (k:Int):Lu k=(lU k,oQ k):=by
 unfold Lu lU oQ
 rcases U3 k with h | h
 · rcases h with h | h | h | h | h | h | h | h | h | h | h | h | h | h | h | h | h | h | h <;> rw [h] <;> rfl
 ·
  rw [h 1 (by decide) (by decide),h 2 (by decide) (by decide),h 3 (by decide) (by decide),h 4 (by decide) (by decide),h 5 (by decide) (by decide),h 14 (by decide) (by decide),h 15 (by decide) (by decide),h 16 (by decide) (by decide)]
  rfl
theorem iM (t:Syn):Gk t=Cu t:=by
 unfold Gk Cu Ko Lr
 rw [uF]
 have e:(decide (t.num<0)||decide (0<t.num))=(t.num != 0):=by
  rw [Bool.eq_iff_iff]
  simp only [bne_iff_ne,Bool.or_eq_true,decide_eq_true_eq]
  omega
 rw [e]
 cases h13:(t.kind==13)
 ·
  cases h2:(t.kind==2)
  ·
   cases h16:(t.kind==16)
   ·
    cases h17:(t.kind==17)
    ·
     cases h11:(t.kind==11)
     · cases hn:(t.num != 0) <;> simp
     · cases hn:(decide (t.num<0)||decide (1099511627776<t.num)) <;> simp
    · cases hn:(decide (t.num<5)||decide (11<t.num)) <;> simp
   · cases hn:(decide (t.num<1)||decide (5<t.num)) <;> simp
  · cases hn:(decide (t.num<0)||decide (2<t.num)) <;> simp
 · simp
def Nz (t:Syn)(i:Nat):Int:=
 if (t.kind==0) then if ((Bn t i).kind==1)&&(((i:Int)==0)||((Bn t (i-1)).kind==1)) then 1 else 3
 else if (t.kind==1) then 2
 else if (t.kind==3) then if decide ((i:Int)<2) then 4+(i:Int) else 7
 else if (t.kind==10) then if ((i:Int)==1) then 6 else 5
 else if (t.kind==12) then if ((i:Int)==1) then 7 else 5
 else if (t.kind==16) then 8
 else if ((t.kind==5)||(t.kind==17))||(t.kind==18) then 7
 else 5
def dW (p k:Int):Bool:=((k==17)&&((p==17)||(p==18)))||((k==18)&&(p==17))
theorem hU (p k:Int):dW p k=El p k:=by
 unfold dW El
 cases h1:(p==17)
 · cases h2:(p==18) <;> cases (k==17) <;> cases (k==18) <;> rfl
 ·
  have h2:(p==18)=false:=by
   have:p=17:=by simpa using h1
   rw [this];rfl
  rw [h2]
  cases (k==17) <;> cases (k==18) <;> rfl
theorem oE (t:Syn)(i:Nat):Nz t i=(Ee t i).role:=by
  have e:(if decide ((i:Int)<2) then 4+(i:Int) else 7)=(if ((i:Int)==0) then Pl.only 4 else if ((i:Int)==1) then Pl.pats else Pl.exps).role:=by
    match i with
    | 0=>rfl
    | 1=>rfl
    | n+2=>
      have h1:decide (((n+2:Nat):Int)<2)=false:=by simp;omega
      have h2:(((n+2:Nat):Int)==0)=false:=by simp;omega
      have h3:(((n+2:Nat):Int)==1)=false:=by simp;omega
      rw [h1,h2,h3];rfl
  unfold Nz Ee
  rw [e]
  repeat' split
  all_goals rfl
theorem nD (t:Syn)(i:Nat):(Ee t i).ok:=by
 unfold Ee
 repeat' split
 all_goals simp [Pl.ok]

theorem dZ (k:Int):Ap Tryz.prog 242 [.int .i64 k] (.bool (isPat k)):=by
 refine Ap.body (n:=9) tok Tryz.func242 rfl rfl rfl fun H=>?_
 refine Ad (Qp A3 (By (Qp A4 (Qp F6 (Qp Bq (Qg [] Qw A4 (Qg [(6,_)] Qw Nj (Qp Et (Qp A3 ?_)))))))))
 refine Aa (AW.ret ?_)
 refine Qr (.bool _) ?_
 rfl
theorem qZ (k:Int):Ap Tryz.prog 291 [.int .i64 k] (.bool (isExp k)):=by
 refine Ap.body (n:=9) tok Tryz.func291 rfl rfl rfl fun H=>?_
 refine Ad (Qp A3 (By (Qp A4 (Qp F6 (Qp Bq (Qg [] Qw A4 (Qg [(6,_)] Qw Nj (Qp Et (Qp A3 ?_)))))))))
 refine Aa (AW.ret ?_)
 refine Qr (.bool _) ?_
 rfl
theorem mX (k r:Int):Ap Tryz.prog 236 [.int .i64 k,.int .i64 r] (.bool (G9 k r)):=by
 refine Ap.body (n:=40) tok Tryz.func236 rfl rfl rfl fun H=>?_
 refine Ad (Qp A3 (Aa (AW.seq (Ad (Qp A4 (Aa (AW.block (Ad (Qp Av ?_)))))))))
 refine Qp A3 (Aa (Au (fun hc1=>?_) fun hc1=>?_))
 ·
  refine Ad (Qp A4 ?_)
  refine Qp (Qc rfl (dZ k)) ?_
  refine Qp A3 (Aa (AW.ret (Ao (Ai ?_))))
  refine Qr (.bool _) ?_
  simp only [Ae,G9,hc1,↓reduceIte,Bool.false_eq_true]
 ·
  refine Ad (Qp Av (Qp A3 (Aa (Au (fun hc2=>?_) fun hc2=>?_))))
  ·
   refine Ad (Qp A4 ?_)
   refine Qp (Qc rfl (qZ k)) ?_
   refine Qp A3 (Aa (AW.ret (Ao (Ai ?_))))
   refine Qr (.bool _) ?_
   simp only [Ae,G9,hc1,hc2,↓reduceIte,Bool.false_eq_true]
  ·
   refine Ad (Qp Av (Qp A3 (Aa (Au (fun hc3=>?_) fun hc3=>?_))))
   ·
    refine Ad (Qp A4 (Qp Av (Qp A3 (Aa (AW.ret (Ao (Ai ?_)))))))
    refine Qr (.bool _) ?_
    simp only [Ae,G9,hc1,hc2,hc3,↓reduceIte,Bool.false_eq_true]
   ·
    refine Ad (Qp Av (Qp A3 (Aa (Au (fun hc4=>?_) fun hc4=>?_))))
    ·
     refine Ad (Qp A4 (Qp Av (Qp A3 (Aa (AW.ret (Ao (Ai ?_)))))))
     refine Qr (.bool _) ?_
     simp only [Ae,G9,hc1,hc2,hc3,hc4,↓reduceIte,Bool.false_eq_true]
    ·
     refine Ad (Qp Av (Qp A3 (Aa (Au (fun hc5=>?_) fun hc5=>?_))))
     ·
      refine Ad (Qp A4 (Qp Av (Qp A3 (Aa (AW.ret (Ao (Ai ?_)))))))
      refine Qr (.bool _) ?_
      simp only [Ae,G9,hc1,hc2,hc3,hc4,hc5,↓reduceIte,Bool.false_eq_true]
     ·
      refine Ad (Qp Av (Qp A3 (Aa (Au (fun hc6=>?_) fun hc6=>?_))))
      ·
       refine Ad (Qp A4 (Qp Av (Qp A3 (Aa (AW.ret (Ao (Ai ?_)))))))
       refine Qr (.bool _) ?_
       simp only [Ae,G9,hc1,hc2,hc3,hc4,hc5,hc6,↓reduceIte,Bool.false_eq_true]
      ·
       refine Ad (Qp Av (Qp A3 (Aa (Au (fun hc7=>?_) fun hc7=>?_))))
       ·
        refine Ad (Qp A4 (Qp Av (Qp A3 (Aa (AW.ret (Ao (Ai ?_)))))))
        refine Qr (.bool _) ?_
        simp only [Ae,G9,hc1,hc2,hc3,hc4,hc5,hc6,hc7,↓reduceIte,Bool.false_eq_true]
       ·
        refine Ad (Qp Av (Qp A3 (Aa (Au (fun hc8=>?_) fun hc8=>?_))))
        ·
         refine Ad (Qp A4 (Qp Av (Qp A3 (Aa (AW.ret (Ao (Ai ?_)))))))
         refine Qr (.bool _) ?_
         simp only [Ae,G9,hc1,hc2,hc3,hc4,hc5,hc6,hc7,hc8,↓reduceIte,Bool.false_eq_true]
        ·
         refine AW.skip (Bc (Af (Ad (Qp A4 (Qp Av (Qp A3 (Aa (AW.ret ?_))))))))
         refine Qr (.bool _) ?_
         simp only [Ae,G9,hc1,hc2,hc3,hc4,hc5,hc6,hc7,hc8,↓reduceIte,Bool.false_eq_true]
theorem uG (t:Syn):Ap Tryz.prog 237 [.agg (cSyn t)] (.bool (Jl t)):=by
 refine Ap.body (n:=58) tok Tryz.func237 rfl rfl rfl fun H=>?_
 refine Ad (Qp (Eu [Iq _,.str _,.str _,Iq _,_,Iq _]) (Qp A3 (By (Qp (Qf [_,Iq _]) (Qp Dg ?_)))))
 refine Qp (Ax (n:=t.kids.length) tok rfl rfl rfl (by simp)) ?_
 refine Qp A0 (Aa (AW.seq (Ad (Qp (Qf [Iq _,.str _,.str _,Iq _,_,Iq _]) (Qp Bt (Aa (AW.block ?_)))))))
 refine AW.Aaw (fun (_:Unit)=>(⟨[(1,.ptr (cSyn t)),(3,.int .i64 (t.kids.length:Int)),(8,.int .i64 t.kind),(9,.bool (((t.kind==0)||(t.kind==1))))],H,58⟩:St)) (fun (_:Unit)=>True) ?_ ?_
 ·
  refine Ad (Qp Av (Qp A3 (Aa (Au (fun hc1=>?_) fun hc1=>?_))))
  ·
   refine Bl ?_
   refine ⟨(),?_,GS.weaken ⟨rfl,rfl,rfl,congrArg AV.bool (by simp [*]),trivial⟩ (.refl _)⟩
   trivial
  ·
   refine AW.region (Qp Av (Qp A3 (Aa ?_)))
   refine ⟨(),?_,GS.weaken ⟨rfl,rfl,rfl,congrArg AV.bool (by simp [*]),trivial⟩ (.refl _)⟩
   trivial
 ·
  rintro _ _
  refine Au (fun hc2=>?_) fun hc2=>?_
  ·
   refine Ad (Qp A3 (Aa (AW.ret (Ao (Ai ?_)))))
   refine Qr (.bool _) ?_
   simp only [Ae,Jl,hc2,↓reduceIte,Bool.false_eq_true]
  ·
   refine Ad (Qp Av (Qp A3 (Aa (Au (fun hc3=>?_) fun hc3=>?_))))
   ·
    refine Ad (Qp A4 (Qp F6 (Qp A3 (Aa (AW.ret (Ao (Ai ?_)))))))
    refine Qr (.bool _) ?_
    simp only [Ae,Jl,hc2,hc3,↓reduceIte,Bool.false_eq_true]
   ·
    refine Ad (Qp Av (Qp A3 (Aa (Au (fun hc4=>?_) fun hc4=>?_))))
    ·
     refine Ad (Qp A4 (Qp Nj (Qp A3 (Aa (AW.ret (Ao (Ai ?_)))))))
     refine Qr (.bool _) ?_
     simp only [Ae,Jl,hc2,hc3,hc4,↓reduceIte,Bool.false_eq_true]
    ·
     refine AW.Aaw (fun (_:Unit)=>(⟨[(1,.ptr (cSyn t)),(3,.int .i64 (t.kids.length:Int)),(8,.int .i64 t.kind),(20,.bool ((((t.kind==6)||(t.kind==7))||(t.kind==8))))],H,58⟩:St)) (fun (_:Unit)=>True) ?_ ?_
     ·
      refine Ad (Qp Av (Qp A3 (Aa (Au (fun hc5=>?_) fun hc5=>?_))))
      ·
       refine Bl ?_
       refine ⟨(),?_,GS.weaken ⟨rfl,rfl,rfl,congrArg AV.bool (by simp [*]),trivial⟩ (.refl _)⟩
       trivial
      ·
       refine Ad (Qp Av (Qp A3 (Aa (Au (fun hc6=>?_) fun hc6=>?_))))
       ·
        refine Bl ?_
        refine ⟨(),?_,GS.weaken ⟨rfl,rfl,rfl,congrArg AV.bool (by simp [*]),trivial⟩ (.refl _)⟩
        trivial
       ·
        refine AW.region (Qp Av (Qp A3 (Aa ?_)))
        refine ⟨(),?_,GS.weaken ⟨rfl,rfl,rfl,congrArg AV.bool (by simp [*]),trivial⟩ (.refl _)⟩
        trivial
     ·
      rintro _ _
      refine Au (fun hc7=>?_) fun hc7=>?_
      ·
       refine Ad (Qp A4 (Qp F6 (Qp A3 (Aa (AW.ret (Ao (Ai ?_)))))))
       refine Qr (.bool _) ?_
       simp only [Ae,Jl,hc2,hc3,hc4,hc7,↓reduceIte,Bool.false_eq_true]
      ·
       refine AW.Aaw (fun (_:Unit)=>(⟨[(1,.ptr (cSyn t)),(3,.int .i64 (t.kids.length:Int)),(8,.int .i64 t.kind),(26,.bool ((((t.kind==9)||(t.kind==11))||(t.kind==18))))],H,58⟩:St)) (fun (_:Unit)=>True) ?_ ?_
       ·
        refine Ad (Qp Av (Qp A3 (Aa (Au (fun hc8=>?_) fun hc8=>?_))))
        ·
         refine Bl ?_
         refine ⟨(),?_,GS.weaken ⟨rfl,rfl,rfl,congrArg AV.bool (by simp [*]),trivial⟩ (.refl _)⟩
         trivial
        ·
         refine Ad (Qp Av (Qp A3 (Aa (Au (fun hc9=>?_) fun hc9=>?_))))
         ·
          refine Bl ?_
          refine ⟨(),?_,GS.weaken ⟨rfl,rfl,rfl,congrArg AV.bool (by simp [*]),trivial⟩ (.refl _)⟩
          trivial
         ·
          refine AW.region (Qp Av (Qp A3 (Aa ?_)))
          refine ⟨(),?_,GS.weaken ⟨rfl,rfl,rfl,congrArg AV.bool (by simp [*]),trivial⟩ (.refl _)⟩
          trivial
       ·
        rintro _ _
        refine Au (fun hc10=>?_) fun hc10=>?_
        ·
         refine Ad (Qp A4 (Qp Av (Qp A3 (Aa (AW.ret (Ao (Ai ?_)))))))
         refine Qr (.bool _) ?_
         simp only [Ae,Jl,hc2,hc3,hc4,hc7,hc10,↓reduceIte,Bool.false_eq_true]
        ·
         refine AW.Aaw (fun (_:Unit)=>(⟨[(1,.ptr (cSyn t)),(3,.int .i64 (t.kids.length:Int)),(8,.int .i64 t.kind),(32,.bool ((((t.kind==10)||(t.kind==12))||(t.kind==17))))],H,58⟩:St)) (fun (_:Unit)=>True) ?_ ?_
         ·
          refine Ad (Qp Av (Qp A3 (Aa (Au (fun hc11=>?_) fun hc11=>?_))))
          ·
           refine Bl ?_
           refine ⟨(),?_,GS.weaken ⟨rfl,rfl,rfl,congrArg AV.bool (by simp [*]),trivial⟩ (.refl _)⟩
           trivial
          ·
           refine Ad (Qp Av (Qp A3 (Aa (Au (fun hc12=>?_) fun hc12=>?_))))
           ·
            refine Bl ?_
            refine ⟨(),?_,GS.weaken ⟨rfl,rfl,rfl,congrArg AV.bool (by simp [*]),trivial⟩ (.refl _)⟩
            trivial
           ·
            refine AW.region (Qp Av (Qp A3 (Aa ?_)))
            refine ⟨(),?_,GS.weaken ⟨rfl,rfl,rfl,congrArg AV.bool (by simp [*]),trivial⟩ (.refl _)⟩
            trivial
         ·
          rintro _ _
          refine Au (fun hc13=>?_) fun hc13=>?_
          ·
           refine Ad (Qp A4 (Qp Av (Qp A3 (Aa (AW.ret (Ao (Ai ?_)))))))
           refine Qr (.bool _) ?_
           simp only [Ae,Jl,hc2,hc3,hc4,hc7,hc10,hc13,↓reduceIte,Bool.false_eq_true]
          ·
           refine Ad (Qp Av (Qp A3 (Aa (Au (fun hc14=>?_) fun hc14=>?_))))
           ·
            refine Ad (Qp A4 (Qp Av (Qp Bq (Qg [] Qw (Qf [Iq _,_,Iq _]) (Qg [(43,_)] Qw Bt (Qg [(44,_)] Qw B9 (Qp Et (Qp Bq (Qg [] Qw A4 ?_)))))))))
            refine Qg [(48,_)] Qw Av (Qg [(49,_)] Qw Bq (Qg [] Qw (Qf [Iq _,_,Iq _]) (Qg [(51,_)] Qw Bt (Qg [(52,_)] Qw Av (Qg [(50,_),(53,_)] Qw Et (Qp Cy (Qp A3 (Aa (AW.ret ?_)))))))))
            refine Ao (Ai ?_)
            refine Qr (.bool _) ?_
            simp only [Ae,Jl,hc2,hc3,hc4,hc7,hc10,hc13,hc14,↓reduceIte,Bool.false_eq_true]
           ·
            refine AW.skip (Bc (Af (Ad (Qp A4 (Qp Av (Qp A3 (Aa (AW.ret ?_))))))))
            refine Qr (.bool _) ?_
            simp only [Ae,Jl,hc2,hc3,hc4,hc7,hc10,hc13,hc14,↓reduceIte,Bool.false_eq_true]
theorem Qm (s:Aq)(hl:s.length≤1048576):Ap Tryz.prog 292 [.str s] (.bool (dQ s)):=by
 refine Ap.body (n:=6) tok Tryz.func292 rfl rfl rfl fun H=>?_
 refine Ad (Qp A3 (By (Qp Dh ?_)))
 refine Qp (Qc rfl (c21 s hl)) ?_
 refine Qp Av (Qp A3 (Aa (AW.ret ?_)))
 refine Qr (.bool _) ?_
 rw [←xE];rfl
theorem rE (t:Syn)(ht:t.text.length≤1048576)(hn:t.name.length≤1048576):Ap Tryz.prog 238 [.agg (cSyn t)] (.bool (L8 t)):=by
 refine Ap.body (n:=49) tok Tryz.func238 rfl rfl rfl fun H=>?_
 refine Ad (Qp (Eu [Iq _,.str _,.str _,Iq _,_,Iq _]) (Qp A3 (Aa (AW.seq (Ad (Qp (Qf [Iq _,.str _,.str _,Iq _,_,Iq _]) (Qp Bt (Aa (AW.block ?_)))))))))
 refine AW.Aaw (fun (_:Unit)=>(⟨[(1,.ptr (cSyn t)),(4,.int .i64 t.kind),(5,.bool (((((t.kind==1)||(t.kind==2))||(t.kind==3))||(t.kind==15))))],H,49⟩:St)) (fun (_:Unit)=>True) ?_ ?_
 ·
  refine Ad (Qp Av (Qp A3 (Aa (Au (fun hc1=>?_) fun hc1=>?_))))
  ·
   refine Bl ?_
   refine ⟨(),?_,GS.weaken ⟨rfl,rfl,congrArg AV.bool (by simp [*]),trivial⟩ (.refl _)⟩
   trivial
  ·
   refine Ad (Qp Av (Qp A3 (Aa (Au (fun hc2=>?_) fun hc2=>?_))))
   ·
    refine Bl ?_
    refine ⟨(),?_,GS.weaken ⟨rfl,rfl,congrArg AV.bool (by simp [*]),trivial⟩ (.refl _)⟩
    trivial
   ·
    refine Ad (Qp Av (Qp A3 (Aa (Au (fun hc3=>?_) fun hc3=>?_))))
    ·
     refine Bl ?_
     refine ⟨(),?_,GS.weaken ⟨rfl,rfl,congrArg AV.bool (by simp [*]),trivial⟩ (.refl _)⟩
     trivial
    ·
     refine AW.region (Qp Av (Qp A3 (Aa ?_)))
     refine ⟨(),?_,GS.weaken ⟨rfl,rfl,congrArg AV.bool (by simp [*]),trivial⟩ (.refl _)⟩
     trivial
 ·
  rintro _ _
  refine Au (fun hc4=>?_) fun hc4=>?_
  ·
   refine Ad (Qp (Qf [.str _,.str _,Iq _,_,Iq _]) (Qp Df ?_))
   refine Qp (Qc rfl (Qm _ (by assumption))) ?_
   refine Qp A3 (Aa (AW.ret (Ao (Ai ?_))))
   refine Qr (.bool _) ?_
   simp only [Ae,L8,hc4,↓reduceIte,Bool.false_eq_true]
  ·
   refine Ad (Qp Av (Qp A3 (Aa (Au (fun hc5=>?_) fun hc5=>?_))))
   ·
    refine Ad (Qp (Qf [.str _,.str _,Iq _,_,Iq _]) (Qp Df ?_))
    refine Qp (A5 rfl rfl) ?_
    refine Qp Bq (Qg [] Qw (Qf [.str _,.str _,Iq _,_,Iq _]) (Qg [(19,_)] Qw Df ?_))
    refine Qg [(20,_)] Qw (Qc rfl (Qm _ (by assumption))) ?_
    refine Qp Cy (Qp A3 (Aa (AW.ret (Ao (Ai ?_)))))
    refine Qr (.bool _) ?_
    simp only [Ae,L8,hc4,hc5,↓reduceIte,Bool.false_eq_true]
   ·
    refine AW.Aaw (fun (_:Unit)=>(⟨[(1,.ptr (cSyn t)),(4,.int .i64 t.kind),(23,.bool (((t.kind==5)||(t.kind==16))))],H,49⟩:St)) (fun (_:Unit)=>True) ?_ ?_
    ·
     refine Ad (Qp Av (Qp A3 (Aa (Au (fun hc6=>?_) fun hc6=>?_))))
     ·
      refine Bl ?_
      refine ⟨(),?_,GS.weaken ⟨rfl,rfl,congrArg AV.bool (by simp [*]),trivial⟩ (.refl _)⟩
      trivial
     ·
      refine AW.region (Qp Av (Qp A3 (Aa ?_)))
      refine ⟨(),?_,GS.weaken ⟨rfl,rfl,congrArg AV.bool (by simp [*]),trivial⟩ (.refl _)⟩
      trivial
    ·
     rintro _ _
     refine Au (fun hc7=>?_) fun hc7=>?_
     ·
      refine Ad (Qp (Qf [.str _,.str _,Iq _,_,Iq _]) (Qp Df ?_))
      refine Qp (Qc rfl (Qm _ (by assumption))) ?_
      refine Qp Bq (Qg [] Qw (Qf [.str _,Iq _,_,Iq _]) (Qg [(30,_)] Qw Df ?_))
      refine Qg [(31,_)] Qw (Qc rfl (Qm _ (by assumption))) ?_
      refine Qp Et (Qp A3 (Aa (AW.ret (Ao (Ai ?_)))))
      refine Qr (.bool _) ?_
      simp only [Ae,L8,hc4,hc5,hc7,↓reduceIte,Bool.false_eq_true]
     ·
      refine Ad (Qp Av (Qp A3 (Aa (Au (fun hc8=>?_) fun hc8=>?_))))
      ·
       refine Ad (Qp (Qf [.str _,.str _,Iq _,_,Iq _]) (Qp Df ?_))
       refine Qp (Qc rfl (Qm _ (by assumption))) ?_
       refine Qp Bq (Qg [] Qw (Qf [.str _,Iq _,_,Iq _]) (Qg [(40,_)] Qw Df ?_))
       refine AOL.Aap (y:=.bool _) _ [(41,_)] rfl (iB.all ⟨Ent.Aao _ _,trivial⟩) (fun hG=>A5 rfl rfl) rfl ?_
       refine Qg [(42,_)] Qw Bq (Qg [] Qw (Qf [.str _,Iq _,_,Iq _]) (Qg [(44,_)] Qw Df ?_))
       refine Qg [(45,_)] Qw (Qc rfl (Qm _ (by assumption))) ?_
       refine Qg [(43,_),(46,_)] Qw Cy (Qp Et (Qp A3 (Aa (AW.ret (Ao (Ai ?_))))))
       refine Qr (.bool _) ?_
       simp only [Ae,L8,hc4,hc5,hc7,hc8,↓reduceIte,Bool.false_eq_true]
      ·
       refine AW.skip (Bc (Af (Ad (Qp A3 (Aa (AW.ret ?_))))))
       refine Qr (.bool _) ?_
       simp only [Ae,L8,hc4,hc5,hc7,hc8,↓reduceIte,Bool.false_eq_true]
theorem sN (t:Syn):Ap Tryz.prog 293 [.agg (cSyn t)] ((.int .i64 (Fu t))):=by
 refine Ap.body (n:=40) tok Tryz.func293 rfl rfl rfl fun H=>?_
 refine Ad (Qp (Eu [Iq _,.str _,.str _,Iq _,_,Iq _]) (Qp A0 (Aa (AW.seq (Ad (Qp (Qf [.str _,Iq _,_,Iq _]) (Qp Df (Aa (AW.block ?_)))))))))
 refine Ad ?_
 refine Qp (A5 rfl rfl) ?_
 refine Qp A3 (Aa (Au (fun hc1=>?_) fun hc1=>?_))
 ·
  refine AW.seq (Ad (Qp (Qf [Iq _,_,Iq _]) (Qp Bt (Qp B7 (Qp Bq (Qg [] Qw (Qf [Iq _,_,Iq _]) (Qg [(11,_)] Qw Bt (Qg [(12,_)] Qw D2 (Qp Cy ?_)))))))))
  refine Aa (Au (fun hc2=>?_) fun hc2=>?_)
  ·
   refine Ad (Qp A0 (Aa (Cx (Ao (Ai ?_)))))
   refine Qr (Iq _) ?_
   simp only [Ae,Fu]
   rw [if_pos hc1,if_pos hc2]
  ·
   refine Bl (Ad (Qp (Qf [.str _,.str _,Iq _,_,Iq _]) (Qp Df ?_)))
   refine Qp (Cr rfl rfl) ?_
   refine Aa (Au (fun hc3=>?_) fun hc3=>?_)
   ·
    refine Ad (Qp A0 (Aa (AW.ret (Ao (Ai ?_)))))
    refine Qr (Iq _) ?_
    simp only [Ae,Fu]
    rw [if_pos hc1,Bu hc2,if_pos hc3]
   ·
    refine AW.skip (Bc (Af (Ad (Qp A0 (Aa (AW.ret ?_))))))
    refine Qr (Iq _) ?_
    simp only [Ae,Fu]
    rw [if_pos hc1,Bu hc2,Bu hc3]
 ·
  refine Ad ?_
  refine Qp (A5 rfl rfl) ?_
  refine Qp A3 (Aa (Au (fun hc4=>?_) fun hc4=>?_))
  ·
   refine AW.seq (Ad (Qp (Qf [Iq _,_,Iq _]) (Qp Bt (Qp B9 (Qp Bq (Qg [] Qw (Qf [Iq _,_,Iq _]) (Qg [(24,_)] Qw Bt (Qg [(25,_)] Qw B9 (Qp Et ?_)))))))))
   refine Aa (Au (fun hc5=>?_) fun hc5=>?_)
   ·
    refine Ad (Qp A0 (Aa (Cx (Ao (Ai ?_)))))
    refine Qr (Iq _) ?_
    simp only [Ae,Fu]
    rw [Bu hc1,if_pos hc4,if_pos hc5]
   ·
    refine Bl (Ad (Qp (Qf [.str _,.str _,Iq _,_,Iq _]) (Qp Df ?_)))
    refine Qp (Cr rfl rfl) ?_
    refine Aa (Au (fun hc6=>?_) fun hc6=>?_)
    ·
     refine Ad (Qp A0 (Aa (AW.ret (Ao (Ai ?_)))))
     refine Qr (Iq _) ?_
     simp only [Ae,Fu]
     rw [Bu hc1,if_pos hc4,Bu hc5,if_pos hc6]
    ·
     refine AW.skip (Bc (Af (Ad (Qp A0 (Aa (AW.ret ?_))))))
     refine Qr (Iq _) ?_
     simp only [Ae,Fu]
     rw [Bu hc1,if_pos hc4,Bu hc5,Bu hc6]
  ·
   refine Ad ?_
   refine Qp (A5 rfl rfl) ?_
   refine Qp A3 (Aa (Au (fun hc7=>?_) fun hc7=>?_))
   ·
    refine AW.seq (Ad (Qp (Qf [.str _,.str _,Iq _,_,Iq _]) (Qp Df ?_)))
    refine Qp (Bx tok rfl rfl rfl rfl) ?_
    refine Qp D2 (Aa (Au (fun hc8=>?_) fun hc8=>?_))
    ·
     refine Ad (Qp A0 (Aa (Cx (Ao (Ai ?_)))))
     refine Qr (Iq _) ?_
     simp only [Ae,Fu]
     rw [Bu hc1,Bu hc4,if_pos hc7,if_pos hc8]
    ·
     refine Bl (Ad (Qp (Qf [Iq _,_,Iq _]) (Qp Bt (Qp B9 (Aa (Au (fun hc9=>?_) fun hc9=>?_))))))
     ·
      refine Ad (Qp A0 (Aa (AW.ret (Ao (Ai ?_)))))
      refine Qr (Iq _) ?_
      simp only [Ae,Fu]
      rw [Bu hc1,Bu hc4,if_pos hc7,Bu hc8,if_pos hc9]
     ·
      refine AW.skip (Bc (Af (Ad (Qp A0 (Aa (AW.ret ?_))))))
      refine Qr (Iq _) ?_
      simp only [Ae,Fu]
      rw [Bu hc1,Bu hc4,if_pos hc7,Bu hc8,Bu hc9]
   ·
    refine Ad (Qp A0 (Aa (AW.ret (Ao (Ai ?_)))))
    refine Qr (Iq _) ?_
    simp only [Ae,Fu]
    rw [Bu hc1,Bu hc4,Bu hc7]
theorem nW (t:Syn):Ap Tryz.prog 239 [.agg (cSyn t)] (.int .i64 (Gk t)):=by
 refine Ap.body (n:=125) tok Tryz.func239 rfl rfl rfl fun H=>?_
 refine Ad (Qp (Eu [Iq _,.str _,.str _,Iq _,_,Iq _]) (Qp A0 (By (Qp (Qf [Iq _,_,Iq _]) (Qp Bt (Qp A0 (Aa ?_)))))))
 refine AW.Aaw (fun (u:Int)=>(⟨[(1,.ptr (cSyn t)),(3,.int .i64 u)],H,125⟩:St)) (fun (u:Int)=>Gk t=Lr t u) ?_ ?_
 ·
  refine Ad (Qp (Qf [Iq _,.str _,.str _,Iq _,_,Iq _]) (Qp Bt (Aa (AW.block (Ad (Qp Av (Qp A3 (Aa (Au (fun hc1=>?_) fun hc1=>?_)))))))))
  ·
   refine Ad (Qp (B2 [Iq _,.str _,.str _,Iq _,_,Iq _]) ?_)
   refine Qp (Qc rfl ((gP t▸sN t))) ?_
   refine Qp A0 (Aa (AW.ret (Ao (Ai ?_))))
   refine Qr (Iq _) ?_
   have h9:Gk t=Er t:=if_pos hc1
   rw [h9];rfl
  ·
   refine Ad (Qp Av (Qp A3 (Aa (Au (fun hc2=>?_) fun hc2=>?_))))
   ·
    have h8:Gk t=if (decide (t.num<0)||decide (2<t.num)) then 1 else Lr t 0:=(Bu hc1).trans (if_pos hc2)
    refine AW.seq (Ad (Qp (Qf [Iq _,_,Iq _]) (Qp Bt (Qp B7 (Qp Bq (Qg [] Qw (Qf [Iq _,_,Iq _]) (Qg [(20,_)] Qw Bt (Qg [(21,_)] Qw D2 (Qp Cy ?_)))))))))
    refine Aa (Au (fun hc3=>?_) fun hc3=>?_)
    ·
     refine Ad (Qp A0 (Aa (Cx (Ao (Ai ?_)))))
     refine Qr (Iq _) ?_
     rw [h8,if_pos hc3];rfl
    ·
     refine Bl (AW.region (Qp A0 (AOL.nil (Bc (Af ?_)))))
     refine ⟨0,?_,GS.weaken ⟨rfl,rfl,trivial⟩ (.refl _)⟩
     exact h8.trans (Bu hc3)
   ·
    refine Ad (Qp Av (Qp A3 (Aa (Au (fun hc4=>?_) fun hc4=>?_))))
    ·
     have h8:Gk t=if (decide (t.num<1)||decide (5<t.num)) then 1 else Lr t 0:=((Bu hc1).trans (Bu hc2)).trans (if_pos hc4)
     refine AW.seq (Ad (Qp (Qf [Iq _,_,Iq _]) (Qp Bt (Qp B7 (Qp Bq (Qg [] Qw (Qf [Iq _,_,Iq _]) (Qg [(30,_)] Qw Bt (Qg [(31,_)] Qw D2 (Qp Cy ?_)))))))))
     refine Aa (Au (fun hc5=>?_) fun hc5=>?_)
     ·
      refine Ad (Qp A0 (Aa (Cx (Ao (Ai ?_)))))
      refine Qr (Iq _) ?_
      rw [h8,if_pos hc5];rfl
     ·
      refine Bl (AW.region (Qp A0 (AOL.nil (Bc (Af ?_)))))
      refine ⟨0,?_,GS.weaken ⟨rfl,rfl,trivial⟩ (.refl _)⟩
      exact h8.trans (Bu hc5)
    ·
     refine Ad (Qp Av (Qp A3 (Aa (Au (fun hc6=>?_) fun hc6=>?_))))
     ·
      have h8:Gk t=if (decide (t.num<5)||decide (11<t.num)) then 1 else Lr t 0:=(((Bu hc1).trans (Bu hc2)).trans (Bu hc4)).trans (if_pos hc6)
      refine AW.seq (Ad (Qp (Qf [Iq _,_,Iq _]) (Qp Bt (Qp B7 (Qp Bq (Qg [] Qw (Qf [Iq _,_,Iq _]) (Qg [(40,_)] Qw Bt (Qg [(41,_)] Qw D2 (Qp Cy ?_)))))))))
      refine Aa (Au (fun hc7=>?_) fun hc7=>?_)
      ·
       refine Ad (Qp A0 (Aa (Cx (Ao (Ai ?_)))))
       refine Qr (Iq _) ?_
       rw [h8,if_pos hc7];rfl
      ·
       refine Bl (AW.region (Qp A0 (AOL.nil (Bc (Af ?_)))))
       refine ⟨0,?_,GS.weaken ⟨rfl,rfl,trivial⟩ (.refl _)⟩
       exact h8.trans (Bu hc7)
     ·
      refine Ad (Qp Av (Qp A3 (Aa (Au (fun hc8=>?_) fun hc8=>?_))))
      ·
       have h8:Gk t=if (decide (t.num<0)||decide (1099511627776<t.num)) then 2 else Lr t 0:=((((Bu hc1).trans (Bu hc2)).trans (Bu hc4)).trans (Bu hc6)).trans (if_pos hc8)
       refine AW.seq (Ad (Qp (Qf [Iq _,_,Iq _]) (Qp Bt (Qp B7 (Qp Bq (Qg [] Qw (Qf [Iq _,_,Iq _]) (Qg [(50,_)] Qw Bt (Qg [(51,_)] Qw D2 (Qp Cy ?_)))))))))
       refine Aa (Au (fun hc9=>?_) fun hc9=>?_)
       ·
        refine Ad (Qp A0 (Aa (Cx (Ao (Ai ?_)))))
        refine Qr (Iq _) ?_
        rw [h8,if_pos hc9];rfl
       ·
        refine Bl (AW.region (Qp A0 (AOL.nil (Bc (Af ?_)))))
        refine ⟨0,?_,GS.weaken ⟨rfl,rfl,trivial⟩ (.refl _)⟩
        exact h8.trans (Bu hc9)
      ·
       have h8:Gk t=Lr t t.num:=((((Bu hc1).trans (Bu hc2)).trans (Bu hc4)).trans (Bu hc6)).trans (Bu hc8)
       refine AW.skip (Bc (Af ?_))
       refine ⟨t.num,?_,GS.weaken ⟨rfl,rfl,trivial⟩ (.refl _)⟩
       exact h8
 ·
  rintro u hR
  refine Ad (Qp (Qf [Iq _,.str _,.str _,Iq _,_,Iq _]) (Qp Bt (Qp Av (Qp Bq (Qg [] Qw (Qf [Iq _,.str _,.str _,Iq _,_,Iq _]) (Qg [(58,_)] Qw Bt (Qg [(59,_)] Qw Av (Qp Cy (Qp Bq ?_)))))))))
  refine Qg [] Qw (Qf [Iq _,.str _,.str _,Iq _,_,Iq _]) (Qg [(63,_)] Qw Bt (Qg [(64,_)] Qw Av (Qp Cy (Qp Bq (Qg [] Qw (Qf [Iq _,.str _,.str _,Iq _,_,Iq _]) (Qg [(68,_)] Qw Bt (Qg [(69,_)] Qw Av (Qp Cy (Qp Bq ?_)))))))))
  refine Qg [] Qw (Qf [Iq _,.str _,.str _,Iq _,_,Iq _]) (Qg [(73,_)] Qw Bt (Qg [(74,_)] Qw Av (Qp Cy (Qp Bq (Qg [] Qw (Qf [Iq _,.str _,.str _,Iq _,_,Iq _]) (Qg [(78,_)] Qw Bt (Qg [(79,_)] Qw Av (Qp Cy (Qp Bq ?_)))))))))
  refine Qg [] Qw (Qf [Iq _,.str _,.str _,Iq _,_,Iq _]) (Qg [(83,_)] Qw Bt (Qg [(84,_)] Qw Av (Qp Cy (Qp Bq (Qg [] Qw (Qf [Iq _,.str _,.str _,Iq _,_,Iq _]) (Qg [(88,_)] Qw Bt (Qg [(89,_)] Qw Av (Qp Cy (Qp A3 ?_)))))))))
  refine By (Qp (Qf [Iq _,.str _,.str _,Iq _,_,Iq _]) (Qp Bt (Qp Av (Qp Bq (Qg [] Qw (Qf [Iq _,.str _,.str _,Iq _,_,Iq _]) (Qg [(96,_)] Qw Bt (Qg [(97,_)] Qw Av (Qp Cy (Qp Bq ?_)))))))))
  refine Qg [] Qw (Qf [Iq _,.str _,.str _,Iq _,_,Iq _]) (Qg [(101,_)] Qw Bt (Qg [(102,_)] Qw Av (Qp Cy (Qp A3 (Aa (AW.seq (Ad (Qp A4 (Qp B9 ?_)))))))))
  refine Qp Bq (Qg [] Qw Bq (Qg [(108,_)] Qw Fz (Qg [(109,_)] Qw Bq (Qg [] Qw (Qf [.str _,.str _,Iq _,_,Iq _]) (Qg [(111,_)] Qw Df ?_)))))
  refine AOL.Aap (y:=.bool _) _ [(112,_)] rfl (iB.all ⟨Ent.Aao _ _,trivial⟩) (fun hG=>Cr rfl rfl) rfl ?_
  refine Qg [(110,_),(113,_)] Qw Et (Qp Cy (Qp Bq (Qg [] Qw Bq (Qg [(117,_)] Qw Fz (Qg [(118,_)] Qw Bq (Qg [] Qw (Qf [.str _,Iq _,_,Iq _]) (Qg [(120,_)] Qw Df ?_)))))))
  refine AOL.Aap (y:=.bool _) _ [(121,_)] rfl (iB.all ⟨Ent.Aao _ _,trivial⟩) (fun hG=>Cr rfl rfl) rfl ?_
  refine Qg [(119,_),(122,_)] Qw Et (Qp Cy (Aa (Au (fun hc10=>?_) fun hc10=>?_)))
  ·
   refine Ad (Qp A0 (Aa (Cx ?_)))
   refine Qr (Iq _) ?_
   have h9:Gk t=3:=hR.trans (if_pos hc10)
   rw [h9];rfl
  ·
   refine Bl (Ad (Qp A0 (Aa (AW.ret ?_))))
   refine Qr (Iq _) ?_
   have h9:Gk t=0:=hR.trans (Bu hc10)
   rw [h9];rfl
theorem r_kid (t:Syn)(i:Nat)(hi:i<t.kids.length)(hl:t.kids.length≤1048576):Ap Tryz.prog 240 [.agg (cSyn t),.int .i64 (i:Int)] (.int .i64 (Nz t i)):=by
 refine Ap.body (n:=52) tok Tryz.func240 rfl rfl rfl fun H=>?_
 refine Ad (Qp (Eu [Iq _,.str _,.str _,Iq _,_,Iq _]) (Qp A0 (Aa (AW.seq (Ad (Qp (Qf [Iq _,.str _,.str _,Iq _,_,Iq _]) (Qp Bt (Aa (AW.block ?_)))))))))
 refine Ad (Qp Av (Qp A3 (Aa (Au (fun hc1=>?_) fun hc1=>?_))))
 ·
  refine AW.seq (Ad (Qp (Qf [_,Iq _]) (Qp Dg (Qp A4 ?_))))
  refine Qp (Ag (c:=cSyn (Bn t i)) tok rfl rfl rfl rfl rfl rfl (by omega) (B6 (Xy hi))) ?_
  refine Qp (Qf [Iq _,.str _,.str _,Iq _,_,Iq _]) (Qp Bt (Qp Av (Qp Bq (Qg [] Qw A4 (Qg [(17,_)] Qw Av (Qg [(18,_)] Qw Bq (Qg [] Qw (Qf [_,Iq _]) (Qg [(20,_)] Qw Dg (Qg [] Qw A4 ?_)))))))))
  refine AOL.Aap (y:=Iq _) _ [(22,_)] rfl (iB.all ⟨Ent.Aao _ _,trivial⟩) (fun hG=>oI rfl rfl rfl (by constructor <;> omega)) rfl ?_
  refine AOL.Aap (y:=.ptr _) _ [(21,_),(23,_)] rfl (iB.all ⟨Ent.Aao _ _,Ent.Aao _ _,trivial⟩) (fun hG=>Ag (c:=cSyn (Bn t (i-1))) tok rfl rfl rfl rfl rfl rfl ((Ow hi hG).1) ((Ow hi hG).2)) rfl ?_
  refine Qg [(24,_)] Qw (Qf [Iq _,.str _,.str _,Iq _,_,Iq _]) (Qg [(25,_)] Qw Bt (Qg [(26,_)] Qw Av (Qg [(19,_),(27,_)] Qw Cy (Qp Et (Aa (Au (fun hc2=>?_) fun hc2=>?_))))))
  ·
   refine Ad (Qp A0 (Aa (Cx (Ao (Ai ?_)))))
   refine Qr (Iq _) ?_
   simp only [Ae,Nz,hc1,hc2,↓reduceIte,Bool.false_eq_true]
  ·
   refine Bl (Ad (Qp A0 (Aa (AW.ret (Ao (Ai ?_))))))
   refine Qr (Iq _) ?_
   simp only [Ae,Nz,hc1,hc2,↓reduceIte,Bool.false_eq_true]
 ·
  refine Ad (Qp Av (Qp A3 (Aa (Au (fun hc3=>?_) fun hc3=>?_))))
  ·
   refine Ad (Qp A0 (Aa (AW.ret (Ao (Ai ?_)))))
   refine Qr (Iq _) ?_
   simp only [Ae,Nz,hc1,hc3,↓reduceIte,Bool.false_eq_true]
  ·
   refine Ad (Qp Av (Qp A3 (Aa (Au (fun hc4=>?_) fun hc4=>?_))))
   ·
    refine AW.seq (Ad (Qp A4 (Qp B7 (Aa (Au (fun hc5=>?_) fun hc5=>?_)))))
    ·
     refine Ad (Qp A4 (Qp Ei (Qp A0 (Aa (Cx (Ao (Ai ?_)))))))
     refine Qr (Iq _) ?_
     simp only [Ae,Nz,hc1,hc3,hc4,hc5,↓reduceIte,Bool.false_eq_true]
    ·
     refine Bl (Ad (Qp A0 (Aa (AW.ret (Ao (Ai ?_))))))
     refine Qr (Iq _) ?_
     simp only [Ae,Nz,hc1,hc3,hc4,hc5,↓reduceIte,Bool.false_eq_true]
   ·
    refine Ad (Qp Av (Qp A3 (Aa (Au (fun hc6=>?_) fun hc6=>?_))))
    ·
     refine AW.seq (Ad (Qp A4 (Qp Av (Aa (Au (fun hc7=>?_) fun hc7=>?_)))))
     ·
      refine Ad (Qp A0 (Aa (Cx (Ao (Ai ?_)))))
      refine Qr (Iq _) ?_
      simp only [Ae,Nz,hc1,hc3,hc4,hc6,hc7,↓reduceIte,Bool.false_eq_true]
     ·
      refine Bl (Ad (Qp A0 (Aa (AW.ret (Ao (Ai ?_))))))
      refine Qr (Iq _) ?_
      simp only [Ae,Nz,hc1,hc3,hc4,hc6,hc7,↓reduceIte,Bool.false_eq_true]
    ·
     refine Ad (Qp Av (Qp A3 (Aa (Au (fun hc8=>?_) fun hc8=>?_))))
     ·
      refine AW.seq (Ad (Qp A4 (Qp Av (Aa (Au (fun hc9=>?_) fun hc9=>?_)))))
      ·
       refine Ad (Qp A0 (Aa (Cx (Ao (Ai ?_)))))
       refine Qr (Iq _) ?_
       simp only [Ae,Nz,hc1,hc3,hc4,hc6,hc8,hc9,↓reduceIte,Bool.false_eq_true]
      ·
       refine Bl (Ad (Qp A0 (Aa (AW.ret (Ao (Ai ?_))))))
       refine Qr (Iq _) ?_
       simp only [Ae,Nz,hc1,hc3,hc4,hc6,hc8,hc9,↓reduceIte,Bool.false_eq_true]
     ·
      refine Ad (Qp Av (Qp A3 (Aa (Au (fun hc10=>?_) fun hc10=>?_))))
      ·
       refine Ad (Qp A0 (Aa (AW.ret (Ao (Ai ?_)))))
       refine Qr (Iq _) ?_
       simp only [Ae,Nz,hc1,hc3,hc4,hc6,hc8,hc10,↓reduceIte,Bool.false_eq_true]
      ·
       refine AW.Aaw (fun (_:Unit)=>(⟨[(2,.ptr (cSyn t)),(48,.bool ((((t.kind==5)||(t.kind==17))||(t.kind==18))))],H,52⟩:St)) (fun (_:Unit)=>True) ?_ ?_
       ·
        refine Ad (Qp Av (Qp A3 (Aa (Au (fun hc11=>?_) fun hc11=>?_))))
        ·
         refine Bl ?_
         refine ⟨(),?_,GS.weaken ⟨rfl,congrArg AV.bool (by simp [*]),trivial⟩ (.refl _)⟩
         trivial
        ·
         refine Ad (Qp Av (Qp A3 (Aa (Au (fun hc12=>?_) fun hc12=>?_))))
         ·
          refine Bl ?_
          refine ⟨(),?_,GS.weaken ⟨rfl,congrArg AV.bool (by simp [*]),trivial⟩ (.refl _)⟩
          trivial
         ·
          refine AW.region (Qp Av (Qp A3 (Aa ?_)))
          refine ⟨(),?_,GS.weaken ⟨rfl,congrArg AV.bool (by simp [*]),trivial⟩ (.refl _)⟩
          trivial
       ·
        rintro _ _
        refine Au (fun hc13=>?_) fun hc13=>?_
        ·
         refine Ad (Qp A0 (Aa (AW.ret (Ao (Ai ?_)))))
         refine Qr (Iq _) ?_
         simp only [Ae,Nz,hc1,hc3,hc4,hc6,hc8,hc10,hc13,↓reduceIte,Bool.false_eq_true]
        ·
         refine AW.skip (Bc (Af (Ad (Qp A0 (Aa (AW.ret ?_))))))
         refine Qr (Iq _) ?_
         simp only [Ae,Nz,hc1,hc3,hc4,hc6,hc8,hc10,hc13,↓reduceIte,Bool.false_eq_true]
theorem sA (t:Syn)(p:Pl)(hp:p.ok)(hfew:Fl t=true):Ap Tryz.prog 177 [.agg (cSyn t),.int .i64 p.role] (.int .i64 (Bg t p)):=by
 revert p hp hfew
 induction t using Syn.ind
 rename_i t ih
 intro p hp hfew
 have hkl:=X8 hfew
 have htx:=Zw hfew
 refine Ap.body (n:=43) tok Tryz.func177 rfl rfl rfl fun H=>?_
 refine Ad (Qp (Eu [Iq _,.str _,.str _,Iq _,_,Iq _]) (Qp A0 (Aa (AW.seq (Ad (Qp (Qf [Iq _,.str _,.str _,Iq _,_,Iq _]) (Qp Bt (Qp A4 ?_))))))))
 refine Qp (Qc rfl ((iY hp t.kind▸mX t.kind p.role))) ?_
 refine Qp Fz (Aa (Au (fun hc1=>?_) fun hc1=>?_))
 ·
  refine Ad (Qp A0 (Aa (Cx ?_)))
  refine Qr (Iq _) ?_
  have h9:Bg t p=1:=G4 (if_pos hc1) (by decide)
  rw [h9];rfl
 ·
  refine Bl (AW.seq (Ad (Qp (B2 [Iq _,.str _,.str _,Iq _,_,Iq _]) ?_)))
  refine Qp (Qc rfl ((mO t▸uG t))) ?_
  refine Qp Fz (Aa (Au (fun hc2=>?_) fun hc2=>?_))
  ·
   refine Ad (Qp A0 (Aa (Cx ?_)))
   refine Qr (Iq _) ?_
   have h9:Bg t p=15:=G4 ((Bu hc1).trans (if_pos hc2)) (by decide)
   rw [h9];rfl
  ·
   refine Bl (AW.seq (Ad (Qp (B2 [Iq _,.str _,.str _,Iq _,_,Iq _]) ?_)))
   refine Qp (Qc rfl ((nE t▸rE t htx.1 htx.2))) ?_
   refine Qp Fz (Aa (Au (fun hc3=>?_) fun hc3=>?_))
   ·
    refine Ad (Qp A0 (Aa (Cx ?_)))
    refine Qr (Iq _) ?_
    have h9:Bg t p=8:=G4 (((Bu hc1).trans (Bu hc2)).trans (if_pos hc3)) (by decide)
    rw [h9];rfl
   ·
    refine Bl (AW.seq (Ad (Qp (B2 [Iq _,.str _,.str _,Iq _,_,Iq _]) ?_)))
    refine Qp (Qc rfl ((iM t▸nW t))) ?_
    refine Qp A0 (By (Qp A4 (Qp B9 (Aa (Au (fun hc4=>?_) fun hc4=>?_)))))
    ·
     refine Ad (Qp A4 (Qp A0 (Aa (Cx ?_))))
     refine Qr (Iq _) ?_
     have h9:Bg t p=Cu t:=G4 (((Bu hc1).trans (Bu hc2)).trans (Bu hc3)) (by simpa using hc4)
     rw [h9];rfl
    ·
     have h0:P9 p t=0:=by unfold P9;rw [Bu hc1,Bu hc2,Bu hc3];simpa using hc4
     refine Bl (AW.seq (Ad (Qp A0 (Aa (AW.block ?_)))))
     refine AW.Aat (fun (k:Nat)=>(⟨[(2,.ptr (cSyn t)),(6,.int .i64 (k:Int))],H,43⟩:St)) (fun (k:Nat)=>k≤t.kids.length∧Bg t p=It t k (t.kids.drop k)) (fun (k:Nat)=>t.kids.length-k) (0) ?_ (GS.weaken ⟨rfl,rfl,trivial⟩ (.refl _)) ?_
     · exact ⟨Nat.zero_le _,Tu h0⟩
     ·
      rintro k hR
      refine AW.seq (Ad (Qp A4 (Qp (Qf [_,Iq _]) (Qp Dg ?_))))
      refine Qp (Ax (n:=t.kids.length) tok rfl rfl rfl (by simp)) ?_
      refine Qp B7 (Aa (Au (fun hc5=>?_) fun hc5=>?_))
      ·
       obtain ⟨x,hx⟩:=aX (l:=t.kids) (k:=k) (by have:=of_decide_eq_true hc5;omega)
       have hlt:=Jr hx
       have hm:=List.mem_of_getElem? hx
       refine Bl (AW.seq (AW.block (AW.seq ?_)))
       refine AW.draw mixed (fun _=>True) trivial (by kernel_rfl) ?_
       refine Qn 0 rfl (Qf [_,Iq _]) (Qn 1 rfl Dg (Qn 2 rfl A4 ?_))
       refine Qn 3 rfl (Ag (c:=[Iq _,.str _,.str _,Iq _,_,Iq _]) tok rfl rfl rfl rfl rfl rfl (by omega) (B6 hx)) ?_
       refine Qn 4 rfl (B2 [Iq _,.str _,.str _,Iq _,_,Iq _]) (Qn 5 rfl (B2 [Iq _,.str _,.str _,Iq _,_,Iq _]) (Qn 6 rfl A4 ?_))
       refine Qn 7 rfl (Qc rfl ((oE t k▸r_kid t k hlt (by omega)))) ?_
       refine Qn 8 rfl (Qc rfl (ih x hm (Ee t k) (nD t k) (Ia hfew hm))) ?_
       refine Qn 9 rfl A0 ?_
       refine Hs.done _ _ (by kernel_rfl) ?_
       refine Af (Ad (Qp A4 (Qp B9 (Aa (Au (fun hc6=>?_) fun hc6=>?_)))))
       ·
        refine Ad (Qp A4 (Qp A0 (Aa (AW.ret (Ao (Ai (Ai (Ao (Ai ?_)))))))))
        refine Qr (Iq _) ?_
        have h9:Bg t p=Bg x (Ee t k):=by rw [hR.2,Lg hx,if_pos hc6]
        rw [h9];rfl
       ·
        refine AW.skip (Bc (Af (AW.region (Qp A4 (Qp Ei (Qp A0 (Aa ?_)))))))
        refine ⟨k+1,?_,?_,GS.weaken ⟨rfl,rfl,trivial⟩ (.refl _)⟩
        · exact ⟨hlt,by rw [hR.2,Lg hx,Bu hc6]⟩
        · omega
      ·
       have hk:t.kids.length≤k:=by have:=of_decide_eq_false hc5;omega
       refine AW.exit ?_
       refine A7 (A7 (Bp (Af (Ad (Qp A0 (Aa (AW.ret ?_)))))))
       refine Qr (Iq _) ?_
       have h9:Bg t p=0:=by rw [hR.2,List.drop_eq_nil_of_le hk,It]
       rw [h9];rfl
theorem Y0 (p t:Syn):Ap Tryz.prog 241 [.agg (cSyn p),.agg (cSyn t)] (.bool (El p.kind t.kind)):=by
 refine Ap.body (n:=28) tok Tryz.func241 rfl rfl rfl fun H=>?_
 refine Ad (Qp (Eu [Iq _,.str _,.str _,Iq _,_,Iq _]) (Qp (Eu [Iq _,.str _,.str _,Iq _,_,Iq _]) (Qp A3 (By (Qp (Qf [Iq _,.str _,.str _,Iq _,_,Iq _]) (Qp Bt (Qp Av (Qp Bq (Qg [] Qw (Qf [Iq _,.str _,.str _,Iq _,_,Iq _]) ?_)))))))))
 refine Qg [(9,_)] Qw Bt (Qg [(10,_)] Qw Av (Qg [(11,_)] Qw Bq (Qg [] Qw (Qf [Iq _,.str _,.str _,Iq _,_,Iq _]) (Qg [(13,_)] Qw Bt (Qg [(14,_)] Qw Av (Qg [(12,_),(15,_)] Qw Cy (Qp Et (Qp Bq (Qg [] Qw (Qf [Iq _,.str _,.str _,Iq _,_,Iq _]) ?_)))))))))
 refine Qg [(19,_)] Qw Bt (Qg [(20,_)] Qw Av (Qg [(21,_)] Qw Bq (Qg [] Qw (Qf [Iq _,.str _,.str _,Iq _,_,Iq _]) (Qg [(23,_)] Qw Bt (Qg [(24,_)] Qw Av (Qg [(22,_),(25,_)] Qw Et (Qp Cy (Qp A3 (Aa ?_)))))))))
 refine AW.ret ?_
 refine Qr (.bool _) ?_
 rw [←hU];rfl
theorem gG (t:Syn)(hfew:Fl t=true):Ap Tryz.prog 178 [.agg (cSyn t)] (.int .i64 (En t:Int)):=by
 revert hfew
 induction t using Syn.ind
 rename_i t ih
 intro hfew
 have hkl:=X8 hfew
 refine Ap.body (n:=47) tok Tryz.func178 rfl rfl rfl fun H=>?_
 refine Ad (Qp (Eu [Iq _,.str _,.str _,Iq _,_,Iq _]) (Qp A0 (By (Qp A0 (Aa (AW.seq (Ad (Qp A0 (Aa ?_)))))))))
 refine AW.block ?_
 refine AW.Aat (fun (p:Nat×Nat)=>(⟨[(1,.ptr (cSyn t)),(3,.int .i64 (p.2:Int)),(4,.int .i64 (p.1:Int))],H,47⟩:St)) (fun (p:Nat×Nat)=>p.1≤t.kids.length∧Gr t.kind t.kids=max p.2 (Gr t.kind (t.kids.drop p.1))∧p.2≤1000) (fun (p:Nat×Nat)=>t.kids.length-p.1) ((0,0)) ?_ (GS.weaken ⟨rfl,rfl,rfl,trivial⟩ (.refl _)) ?_
 · exact ⟨Nat.zero_le _,by simp,Nat.zero_le _⟩
 ·
  rintro p hR
  refine AW.seq (Ad (Qp A4 (Qp (Qf [_,Iq _]) (Qp Dg ?_))))
  refine Qp (Ax (n:=t.kids.length) tok rfl rfl rfl (by simp)) ?_
  refine Qp B7 (Aa (Au (fun hc1=>?_) fun hc1=>?_))
  ·
   obtain ⟨x,hx⟩:=aX (l:=t.kids) (k:=p.1) (by have:=of_decide_eq_true hc1;omega)
   have hlt:=Jr hx
   have hm:=List.mem_of_getElem? hx
   have hdx:=Vo (Ia hfew hm)
   have hd2:=Sb hx
   refine Bl (AW.seq (AW.block (Ad (Qp (Qf [_,Iq _]) (Qp Dg (Qp A4 ?_))))))
   refine Qp (Ag (c:=[Iq _,.str _,.str _,Iq _,_,Iq _]) tok rfl rfl rfl rfl rfl rfl (by omega) (B6 hx)) ?_
   refine Qp (B2 [Iq _,.str _,.str _,Iq _,_,Iq _]) ?_
   refine Qp (Qc rfl (ih x hm (Ia hfew hm))) ?_
   refine Qp A0 (Aa (AW.seq (AW.seq ?_)))
   refine AW.draw mixed (fun _=>True) trivial (by kernel_rfl) ?_
   refine Qn 0 rfl (B2 [Iq _,.str _,.str _,Iq _,_,Iq _]) (Qn 1 rfl (Qf [_,Iq _]) (Qn 2 rfl Dg (Qn 3 rfl A4 ?_)))
   refine Qn 4 rfl (Ag (c:=[Iq _,.str _,.str _,Iq _,_,Iq _]) tok rfl rfl rfl rfl rfl rfl (by omega) (B6 hx)) ?_
   refine Qn 5 rfl (B2 [Iq _,.str _,.str _,Iq _,_,Iq _]) ?_
   refine Qn 6 rfl (Qc rfl (Y0 t x)) ?_
   refine Hs.done _ _ (by kernel_rfl) ?_
   refine Af (Au (fun hc2=>?_) fun hc2=>?_)
   ·
    rw [if_pos hc2] at hd2
    refine AW.region (Qp A4 (Qp Ei (Qp A0 (Aa (AW.region (Qp A4 (Qp A4 ?_)))))))
    refine Qp (Tk rfl rfl) ?_
    refine Qp A0 (AOL.nil (Bc (Af (AW.region (Qp A4 (Qp Ei (Qp A0 (Aa ?_))))))))
    refine ⟨(p.1+1,max p.2 (En x+1)),?_,?_,GS.weaken ⟨rfl,congrArg (AV.int .i64) (by simp only;omega),rfl,trivial⟩ (.refl _)⟩
    · exact ⟨hlt,by simp only;omega,by simp only;omega⟩
    · simp only;omega
   ·
    rw [Bu hc2] at hd2
    refine Bl (AW.region (Qp A4 (Qp A4 ?_)))
    refine Qp (Tk rfl rfl) ?_
    refine Qp A0 (AOL.nil (Bc (Af (AW.region (Qp A4 (Qp Ei (Qp A0 (Aa ?_))))))))
    refine ⟨(p.1+1,max p.2 (En x)),?_,?_,GS.weaken ⟨rfl,congrArg (AV.int .i64) (by simp only;omega),rfl,trivial⟩ (.refl _)⟩
    · exact ⟨hlt,by simp only;omega,by simp only;omega⟩
    · simp only;omega
  ·
   have hk:t.kids.length≤p.1:=by have:=of_decide_eq_false hc1;omega
   have he:=hR.2.1
   rw [List.drop_eq_nil_of_le hk,Gr] at he
   have hfd:=Vo hfew
   have hde:=Wn t
   refine AW.exit ?_
   refine A7 (A7 (Bp (Af (AW.seq (Ad (Qp (Qf [Iq _,.str _,.str _,Iq _,_,Iq _]) (Qp Bt (Qp Av (Qp Bq ?_)))))))))
   refine Qg [] Qw (Qf [Iq _,.str _,.str _,Iq _,_,Iq _]) (Qg [(35,_)] Qw Bt ?_)
   refine Qg [(36,_)] Qw (Qc rfl (dZ t.kind)) ?_
   refine Qg [(37,_)] Qw Bq (Qg [] Qw (Qf [Iq _,.str _,.str _,Iq _,_,Iq _]) (Qg [(39,_)] Qw Bt (Qg [(40,_)] Qw B9 (Qg [(38,_),(41,_)] Qw Et (Qp Cy (Aa (Au (fun hc3=>?_) fun hc3=>?_)))))))
   ·
    refine AW.region (Qp A4 (Qp Ei (Qp A0 (By (Qp A4 (Qp A0 (Aa (AW.ret ?_))))))))
    refine Qr (Iq _) ?_
    have h9:En t=p.2+1:=by rw [hde,if_pos hc3];omega
    rw [h9];rfl
   ·
    refine Bl (Ad (Qp A4 (Qp A0 (Aa (AW.ret ?_)))))
    refine Qr (Iq _) ?_
    have h9:En t=p.2:=by rw [hde,Bu hc3];omega
    rw [h9];rfl

end Go.Proofs.YtckhoadldibflaaGreatDoor
