/-
  Several texts in one: R15w, R16w, P1, P2, P3, P5. No condition.
-/
import Derived.Test.YtckhoadldibflaaGreatDoorK01
import Derived.Test.YtckhoadldibflaaGreatDoorK18
import Derived.Test.YtckhoadldibflaaGreatDoorK10
import Derived.KernelRfl
import Derived.Test.YtckhoadldibflaaGreatDoorK09
import Derived.Test.YtckhoadldibflaaGreatDoorK16
import Derived.Test.YtckhoadldibflaaGreatDoorK04
set_option linter.unusedVariables false
set_option linter.unusedSimpArgs false
namespace Go.Proofs.YtckhoadldibflaaGreatDoor
open Go Go.Aw
set_option maxHeartbeats 12800000
set_option maxRecDepth 20000

theorem n4_mis (T:List e8Sc)(V:List Va)(hrv:RvOK T V)(t:Syn)(ht:Es t):An Tryz.prog 107 [.agg (cNm T V),.agg (cSyn t)] (.tuple [.int .i64 (D0 T V t).pos,.int .i64 (D0 T V t).err]):=by
 induction t using Syn.ind
 rename_i t ih;have hkl:=E3 ht;refine An.body (n:=85) tok Tryz.func107 rfl rfl rfl fun H=>?_
 refine Ad (Qp (Ed [_,_]) (Qp (Ed Aq) (Qp Al (Qp Al (Ae ?_)))));refine AW.Aas (fun (_:Unit)=>(⟨[(2,.ptr (cNm T V)),(3,.ptr (cSyn t))],H,85⟩:St)) (fun _=>Hn T V t=Mt) ?_ ?_
 ·
  refine Ad (Qp (Qf Aq) (Qp Bf (Qp Ap (Qp A9 (Qg [] Qw (Qf Aq) (Qg [(14,_)] Qw Bf (Qg [(15,_)] Qw Ap (Qp Cf (Qp A9 (Qg [] Qw (Qf Aq) (Qg [(19,_)] Qw Bf (Qg [(20,_)] Qw Ap (Qp Cf (Ae (Ao (fun hc1=>?_) fun hc1=>A7 ?_)))))))))))))))
  ·
   refine Ad (Qp (Qf [_]) (Qp B7 (Qp (Qf Ik) (Qp C9 (Qp (Qc rfl (gI V hrv.vl t.text)) (Qp Al (Ae (Rd (Qp Am (Qp Bp (Ae (Ao (fun hc2=>Ad (Qp (Qf [Iq _]) (Qp Bf (Qp Al (Qp Al (Rc (Av (M6 (Iq _) (Iq _) ?_)))))))) fun hc2=>?_))))))))))))
   · exact Eq.trans rfl (congrArg (fun q:Fa=>AV.tuple [.int .i64 q.pos,.int .i64 q.err]) ((oI (by rw [mis_8 hc1 hc2];rfl)).trans (mis_8 hc1 hc2))).symm
   have hct:=mis_c hc2;refine (pN hct).elim fun va hva=>?_
   have hix:=U4 hct;have hix2:=hix.2;rw [D9] at hix2;have hvm:=B6 hva;have hvt:=hrv.ty va hvm;refine (Rr hrv hvm).elim fun sc hsc=>?_
   have hsr:=Aai hct hva hsc;have hfl:=hrv.fl sc (B6 hsc);refine A7 (AW.seq ?_);refine Gi ?_;refine Qn 0 rfl (Qf Aq) (Qn 1 rfl Bf (Qn 2 rfl Bu (Qn 3 rfl A9 (Qo 4 rfl [] Qw (Qf Aq) (Qo 5 rfl [(36,_)] Qw Bf (Qo 6 rfl [(37,_)] Qw Ap (Qo 7 rfl [(38,_)] Qw A9 (Qo 8 rfl [] Qw (Qf Po) (Qo 9 rfl [(40,_)] Qw C9 ?_)))))))));refine Hb.pure _ _ 10 _ _ rfl (by kernel_rfl) (by kernel_rfl) rfl (.opt _ (.bool _) [(41,_)] rfl (uB.all ⟨Ent.Aak _ _,trivial⟩) (fun hG=>Cs rfl rfl) rfl) ?_;refine Qo 11 rfl [(39,_),(42,_)] Qw Cf (Qn 12 rfl Ea (Qn 13 rfl A9 (Qo 14 rfl [] Qw (Qf [_,_]) (Qo 15 rfl [(46,_)] Qw B7 (Qo 16 rfl [] Qw (Qf [_]) (Qo 17 rfl [(48,_)] Qw B7 (Qo 18 rfl [] Qw Am ?_)))))));refine Hb.pure _ _ 19 _ _ rfl (by kernel_rfl) (by kernel_rfl) rfl (.opt _ (.ptr _) [(49,_),(50,_)] rfl (uB.all ⟨Ent.Aak _ _,Ent.Aak _ _,trivial⟩) (fun hG=>Aa (c:=H6) tok rfl rfl rfl rfl rfl rfl (hix.1) (Ct hva)) rfl) ?_;refine Qo 20 rfl [(51,_)] Qw (Qf [Iq _]) (Qo 21 rfl [(52,_)] Qw Bf ?_);refine Hb.pure _ _ 22 _ _ rfl (by kernel_rfl) (by kernel_rfl) rfl (.opt _ (.ptr _) [(47,_),(53,_)] rfl (uB.all ⟨Ent.Aak _ _,Ent.Aak _ _,trivial⟩) (fun hG=>Aa (c:=Ji) tok rfl rfl rfl rfl rfl rfl (hvt.1) (Ct hsc)) rfl) ?_;refine Qo 23 rfl [(54,_)] Qw (Qf [_]) (Qo 24 rfl [(55,_)] Qw B7 (Qo 25 rfl [] Qw (Qf Po) (Qo 26 rfl [(57,_)] Qw C9 ?_)));refine Hb.pure _ _ 27 _ _ rfl (by kernel_rfl) (by kernel_rfl) rfl (.opt _ (Iq _) [(56,_),(58,_)] rfl (uB.all ⟨Ent.Aak _ _,Ent.Aak _ _,trivial⟩) (fun hG=>Qc rfl (Zn sc.fields hfl t.name)) rfl) ?_;refine Qo 28 rfl [(59,_)] Qw Bp (Qn 29 rfl Ea ?_);refine Ej ?_;refine A5 (Ao (fun hc3=>Ad (Qp (Qf [Iq _]) (Qp Bf (Qp Al (Qp Al (Rc (M6 (Iq _) (Iq _) ?_))))))) fun hc3=>A7 ?_)
   · exact Eq.trans rfl (congrArg (fun q:Fa=>AV.tuple [.int .i64 q.pos,.int .i64 q.err]) ((oI (by rw [mis_6 hc1 hct hsr hc3];rfl)).trans (mis_6 hc1 hct hsr hc3))).symm
   refine ⟨(),?_,Bv⟩;exact mis_n hc1 hct hsr hc3
  refine ⟨(),?_,Bv⟩;exact mis_0 hc1
 rintro _ hl0;refine Rd (Qp Al (Ae (AW.block ?_)));refine AW.Aam (fun (k:Nat)=>(⟨[(2,.ptr (cNm T V)),(3,.ptr (cSyn t)),(7,.int .i64 (k:Int))],H,85⟩:St)) (fun k=>k≤t.kids.length∧(t.kids.take k).any (fun x=>(D0 T V x).err != 0)=false) (fun k=>t.kids.length-k) (0) ?_ Bv ?_
 · exact ⟨Dh _,by simp⟩
 rintro k hR;refine Rd (Qp Am (Qp (Qf Ef) (Qp B7 ?_)));refine Qp (Ai (n:=t.kids.length) tok rfl rfl rfl (by simp)) ?_;refine Qp Bp (Ae (Ao (fun hc4=>?_) fun hc4=>?_))
 ·
  obtain ⟨a,ha⟩:=By hc4;have hlt:=Bj ha;have hm:=B6 ha;refine A7 (AW.seq (AW.block (AW.seq ?_)));refine Gi ?_;refine Qn 0 rfl (Bo [_,_]) (Qn 1 rfl (Qf Ef) (Qn 2 rfl B7 (Qn 3 rfl Am ?_)));refine Qn 4 rfl (Aa (c:=Aq) tok rfl rfl rfl rfl rfl rfl (by omega) (Bz ha)) ?_;refine Qn 5 rfl (Bo Aq) (Qn 6 rfl (Qc rfl (ih a hm (C4 ht hm))) (Qn 7 rfl Lm (Qn 8 rfl Ib (Qn 9 rfl Ib (Qn 10 rfl Al (Qn 11 rfl Al ?_))))));refine Ej ?_;refine A5 (Ad (Qp Am (Qp Bu (Ae (Ao (fun hc5=>Ad (Qp Am (Qp Am (Qp Al (Qp Al (Ra (Av (B9 (Av (M6 (Iq _) (Iq _) ?_)))))))))) fun hc5=>Rf (AW.region (Qp Am (Qp Dl (Qp Al (Ae ?_))))))))))
  · exact Eq.trans rfl (congrArg (fun q:Fa=>AV.tuple [.int .i64 q.pos,.int .i64 q.err]) ((Vr (by rw [hl0];rfl)).trans (Rh ha hR.2 hc5))).symm
  refine ⟨k+1,?_,?_,Bv⟩
  · exact ⟨hlt,Gu hR.2 ha hc5⟩
  omega
 have hte:=Cn hc4;have hall:=hR.2;rw [hte] at hall;refine AW.exit ?_;refine Bk (Ri (Ad (Qp Al (Qp Al (Rb ?_)))));refine M6 (Iq _) (Iq _) ?_;exact Eq.trans rfl (congrArg (fun q:Fa=>AV.tuple [.int .i64 q.pos,.int .i64 q.err]) ((Vr (by rw [hl0];rfl)).trans (Nz hall))).symm
theorem eS (T:List e8Sc)(V:List Va)(hrv:RvOK T V)(t:Syn)(ht:Es t)(hc:Ba t .exps=0)(hw:(D0 T V t).err=0):An Tryz.prog 110 [.agg (cNm T V),.agg (cSyn t)] (.agg (cE (Ds T V t))):=by
 induction t using Syn.ind
 rename_i t ih;have hkl:=E3 ht;have hrg:=Wl (Gg (Gk hc).1).1;refine An.body (n:=106) tok Tryz.func110 rfl rfl rfl fun H=>?_
 refine Ad (Qp (Ed [_,_]) (Qp (Ed Aq) ?_));refine Dt oB fun b4=>?_
 refine Bs (Qp (Qf [_]) (Qp B7 (Qp (Qf Ik) (Qp C9 ?_))));refine Qp (Qc rfl (gI V hrv.vl t.text)) ?_;refine Qp Al (Ae (Rd (Qp (Qf Aq) (Qp Bf (Ae (AW.block (Ad (Qp Ap ?_))))))));refine Qp Au (Ae (Ao (fun hc1=>?_) fun hc1=>?_))
 ·
  refine Ad (Qp (Bo Aq) ?_);refine Qp (Qc rfl (uT _)) ?_;refine Qp (Du Ft) ?_;refine Bt 0 Ft (_::_) ?_;refine Ra ?_;refine ⟨.inr rfl,[.agg Ft],.cons (.box _ _ _ 0 _ _ _ _ rfl rfl rfl rfl rfl rfl) <| .nil,.cons _ (.refl _),?_⟩;exact Eq.trans rfl (congrArg (fun q:Ex=>AV.agg (cE q)) ((Fe T V t).trans (oU hc1))).symm
 refine Ad (Qp Ap (Qp Au (Ae (Ao (fun hc2=>?_) fun hc2=>?_))))
 ·
  have hct:=Ro (Eb hw).1 (Or.inl (by simpa using hc2));refine (pN hct).elim fun va hva=>?_
  have hix:=U4 hct;have hix2:=hix.2;rw [D9] at hix2;have hvm:=B6 hva;have hvt:=hrv.ty va hvm;refine (Rr hrv hvm).elim fun sc hsc=>?_
  have hsr:=Aai hct hva hsc;have hfl:=hrv.fl sc (B6 hsc);refine Rd (Qp (Qf Po) (Qp C9 ?_));refine Qp (A4 rfl rfl) ?_;refine Ae (Ao (fun hc3=>?_) fun hc3=>?_)
  ·
   refine Ad (Qp Am (Qp (Du Ft) ?_));refine Bt 0 Ft (_::_) ?_;refine Rc (B9 (Av ?_));refine ⟨.inr rfl,[.agg Ft],.cons (.box _ _ _ 0 _ _ _ _ rfl rfl rfl rfl rfl rfl) <| .nil,.cons _ (.refl _),?_⟩;exact Eq.trans (congrArg (fun i:Int=>AV.agg (cE ⟨2,[],i,0,0,v0⟩)) (Ux hct)) (congrArg (fun q:Ex=>AV.agg (cE q)) ((Fe T V t).trans (pB hc1 hc2 hc3))).symm
  refine A7 (AW.seq ?_);refine Gi ?_;refine Qn 0 rfl Am (Qn 1 rfl (Qf [_,_]) (Qn 2 rfl B7 (Qn 3 rfl (Qf [_]) (Qn 4 rfl B7 (Qn 5 rfl Am ?_)))));refine Qn 6 rfl (Aa (c:=H6) tok rfl rfl rfl rfl rfl rfl (hix.1) (Ct hva)) ?_;refine Qn 7 rfl (Qf [Iq _]) (Qn 8 rfl Bf ?_);refine Qn 9 rfl (Aa (c:=Ji) tok rfl rfl rfl rfl rfl rfl (hvt.1) (Ct hsc)) ?_;refine Qn 10 rfl (Qf [_]) (Qn 11 rfl B7 (Qn 12 rfl (Qf Po) (Qn 13 rfl C9 ?_)));refine Qn 14 rfl (Qc rfl (Zn sc.fields hfl t.name)) ?_;refine Qn 15 rfl (Du Ft) ?_;refine Jj 16 rfl (A6 (k:=0) (v:=.agg _) (cs':=Ft) (H2:=_::_) tok rfl rfl rfl rfl (rfl) rfl rfl rfl rfl) ?_;refine Ej ?_;refine A5 (AW.ret (B9 (Av ?_)));refine ⟨.inr rfl,[.agg Ft],.cons (.box _ _ _ 0 _ _ _ _ rfl rfl rfl rfl rfl rfl) <| .nil,.cons _ (.refl _),?_⟩;exact Eq.trans (congrArg (fun i:Int=>AV.agg (cE ⟨1,[],i,Gj sc t.name,0,v0⟩)) (Ux hct)) (congrArg (fun q:Ex=>AV.agg (cE q)) ((Fe T V t).trans (rK hc1 hc2 hc3 hsr))).symm
 refine Ad (Qp Ap (Qp Au (Ae (Ao (fun hc4=>?_) fun hc4=>?_))))
 ·
  have hct:=Ro (Eb hw).1 (Or.inr (Or.inl (by simpa using hc4)));refine Ad (Qp Am (Qp (Du Ft) ?_));refine Bt 0 Ft (_::_) ?_;refine Ra ?_;refine ⟨.inr rfl,[.agg Ft],.cons (.box _ _ _ 0 _ _ _ _ rfl rfl rfl rfl rfl rfl) <| .nil,.cons _ (.refl _),?_⟩;exact Eq.trans (congrArg (fun i:Int=>AV.agg (cE ⟨3,[],i,0,0,v0⟩)) (Ux hct)) (congrArg (fun q:Ex=>AV.agg (cE q)) ((Fe T V t).trans (qQ hc1 hc2 hc4))).symm
 refine Ad (Qp Ap (Qp Au (Ae (Ao (fun hc5=>?_) fun hc5=>?_))))
 ·
  have hct:=Ro (Eb hw).1 (Or.inr (Or.inr (by simpa using hc5)));refine (pN hct).elim fun va hva=>?_
  have hix:=U4 hct;have hix2:=hix.2;rw [D9] at hix2;have hvm:=B6 hva;have hvt:=hrv.ty va hvm;refine (Rr hrv hvm).elim fun sc hsc=>?_
  have hsr:=Aai hct hva hsc;have hfl:=hrv.fl sc (B6 hsc);refine AW.seq ?_;refine Gi ?_;refine Qn 0 rfl Am (Qn 1 rfl (Qf [_,_]) (Qn 2 rfl B7 (Qn 3 rfl (Qf [_]) (Qn 4 rfl B7 (Qn 5 rfl Am ?_)))));refine Qn 6 rfl (Aa (c:=H6) tok rfl rfl rfl rfl rfl rfl (hix.1) (Ct hva)) ?_;refine Qn 7 rfl (Qf [Iq _]) (Qn 8 rfl Bf ?_);refine Qn 9 rfl (Aa (c:=Ji) tok rfl rfl rfl rfl rfl rfl (hvt.1) (Ct hsc)) ?_;refine Qn 10 rfl (Qf [_]) (Qn 11 rfl B7 (Qn 12 rfl (Qf Po) (Qn 13 rfl C9 ?_)));refine Qn 14 rfl (Qc rfl (Zn sc.fields hfl t.name)) ?_;refine Qn 15 rfl (Qf J8) (Qn 16 rfl Bf (Qn 17 rfl (Du Ft) ?_));refine lZ 18 rfl (Jp (l:=oB) (by kernel_rfl)) ?_;rintro _ _ ⟨b6,rfl,rfl⟩;refine Jj 19 rfl (A6 (k:=0) (v:=.agg _) (cs':=Ft) (H2:=_::_::_) tok rfl rfl rfl rfl (rfl) rfl rfl rfl rfl) ?_;refine Ej ?_;refine A5 (Rd (Qp (Qf Ef) (Qp B7 ?_)));refine Qp (Ai (n:=t.kids.length) tok rfl rfl rfl (by simp)) ?_;refine Qp Do (Ae (Ao (fun hc6=>?_) fun hc6=>?_))
  ·
   have h0:0<t.kids.length:=by have:=Gv hc6;omega
   refine AW.region (Qp (Qf Ef) (Qp B7 ?_));refine Qp (Aa (c:=Aq) tok rfl rfl rfl rfl rfl rfl (by decide) (Bz (Cp h0))) ?_;refine Qp (Bo Aq) ?_;refine Qp (Qc rfl (uT _)) ?_;refine Qp Cc ?_;refine Bt 0 Ft (_::_::_) ?_;refine Bs ?_;refine AOL.Aan (A2 (k:=0) (l:=Ft) tok rfl rfl rfl rfl rfl) rfl rfl ?_;refine Bt 1 Ft (_::_::_) ?_;refine Ra ?_;refine ⟨.inr rfl,[.agg Ft],.cons (.box _ _ _ 1 _ _ _ _ rfl rfl rfl rfl rfl rfl) <| .nil,.cons _ (.cons _ (.refl _)),?_⟩;exact Eq.trans (congrArg (fun i:Int=>AV.agg (cE ⟨4,[],i,Gj sc t.name,t.num,Wo (Bb t 0)⟩)) (Ux hct)) (congrArg (fun q:Ex=>AV.agg (cE q)) ((Fe T V t).trans (pF hc1 hc2 hc4 hc5 hsr hc6))).symm
  refine A7 (Ad ?_);refine AOL.Aan (A2 (k:=0) (l:=Ft) tok rfl rfl rfl rfl rfl) rfl rfl ?_;refine Bt 1 Ft (_::_::_) ?_;refine Ra ?_;refine ⟨.inr rfl,[.agg Ft],.cons (.box _ _ _ 1 _ _ _ _ rfl rfl rfl rfl rfl rfl) <| .nil,.cons _ (.cons _ (.refl _)),?_⟩;exact Eq.trans (congrArg (fun i:Int=>AV.agg (cE ⟨4,[],i,Gj sc t.name,t.num,v0⟩)) (Ux hct)) (congrArg (fun q:Ex=>AV.agg (cE q)) ((Fe T V t).trans (rE hc1 hc2 hc4 hc5 hsr hc6))).symm
 have h78:t.kind=17∨t.kind=18:=by simp at hc1 hc2 hc4 hc5;omega
 refine Rf (Ad ?_);refine Qp (Im (l0:=[.int .i64 0,.val (.slice none 0 0),.int .i64 0,.int .i64 0,.int .i64 0,.int .i64 0,.int .i64 0,.str []]) (l:=Ft) tok rfl rfl (by kernel_rfl) rfl) ?_;refine Dt oB fun b7=>?_
 refine Bt 0 Ft (_::_::_) ?_;refine Ae ?_;refine AW.Aas (fun (o:Int)=>(⟨[(2,.ptr (cNm T V)),(3,.ptr (cSyn t)),(4,.val (.pointer (some ⟨b4,0,none⟩))),(7,.val (.pointer (some ⟨b7,0,none⟩)))],.box b7 36 [.int .i64 o,.val (.slice none 0 0),.int .i64 0,.int .i64 0,.int .i64 0,.int .i64 0,.int .i64 0,.str []] :: .box b4 36 oB::H,106⟩:St)) (fun o=>o=if (t.kind==17) then t.num else 12) ?_ ?_
 ·
  refine Ad (Qp (Qf Aq) (Qp Bf (Qp Ap (Ae (Ao (fun hc7=>?_) fun hc7=>?_)))))
  ·
   refine AW.region (Qp (Qf J8) (Qp Bf (Qp Cc ?_)));refine Bt 0 Ft (_::_::_) ?_;refine Ae ?_;refine ⟨t.num,?_,Bv⟩;exact (if_pos hc7).symm
  refine A7 ?_;refine ⟨12,?_,Bv⟩;exact (Bi hc7).symm
 rintro o ho;refine AW.seq (AW.seq ?_);refine AW.ghost (GS.cellRow 0 1 36 8 rfl rfl rfl rfl) ?_
 skip
 refine AW.region (Qp Al (Ae (AW.block ?_)));refine AW.Aam (fun (q:Nat×List (List AV)×Value)=>(⟨[(2,.ptr (cNm T V)),(3,.ptr (cSyn t)),(4,.val (.pointer (some ⟨b4,0,none⟩))),(7,.val (.pointer (some ⟨b7,0,none⟩))),(8,.int .i64 (q.1:Int))],.row q.2.2 q.2.1.length 36 8 :: .box b7 36 [.int .i64 o,.row q.2.2 8 q.2.1,.int .i64 0,.int .i64 0,.int .i64 0,.int .i64 0,.int .i64 0,.str []] :: .box b4 36 oB::H,106⟩:St)) (fun q=>q.1≤t.kids.length∧q.2.1=((t.kids.take q.1).map (Ds T V)).map M2∧q.2.1.length≤q.1) (fun q=>t.kids.length-q.1) ((0,[],.slice none 0 0)) ?_ Bv ?_
 · exact ⟨Dh _,rfl,C6 _⟩
 rintro q hR;refine Rd (Qp Am (Qp (Qf Ef) (Qp B7 ?_)));refine Qp (Ai (n:=t.kids.length) tok rfl rfl rfl (by simp)) ?_;refine Qp Bp (Ae (Ao (fun hc8=>?_) fun hc8=>?_))
 ·
  obtain ⟨a,ha⟩:=By hc8;have hlt:=Bj ha;have hm:=B6 ha;have hsc2:∀c∈q.2.1,Bc c=true:=by rw [hR.2.1];exact scE _
  have hql:=hR.2.2;refine A7 (AW.seq (AW.block ?_));refine AW.draw mixed (fun H'=>_∈H') (B6 (i:=1) rfl) (by kernel_rfl) ?_;refine Qn 0 rfl Cc ?_;refine Qn 1 rfl (OpP.Aap (fun k=>Af (k:=k) (c:=.row _ _ _) tok rfl rfl rfl rfl) (fun _ h=>h)) ?_;refine Qn 2 rfl (Bo [_,_]) (Qn 3 rfl (Qf Ef) (Qn 4 rfl B7 (Qn 5 rfl Am ?_)));refine Qn 6 rfl (Aa (c:=Aq) tok rfl rfl rfl rfl rfl rfl (by omega) (Bz ha)) ?_;refine Qn 7 rfl (Bo Aq) ?_;refine Qn 8 rfl (Qc rfl (ih a hm (C4 ht hm) (exp_kid hc h78 ha) ((Eb hw).2 a hm))) ?_;refine Qn 9 rfl (Ak (es:=[Ft]) tok rfl rfl rfl rfl rfl rfl rfl rfl rfl) ?_;refine Hb.eff _ _ 10 _ _ rfl (by kernel_rfl) rfl rfl (B8 (k:=0) tok rfl rfl rfl rfl rfl rfl rfl rfl (Dy rfl) (hsc2) (by simp;omega) (by simp [maxLen];omega)) (by rintro _ _ ⟨v103,rfl,rfl⟩;simp) ?_;rintro _ _ ⟨v103,rfl,rfl⟩;refine Qn 11 rfl Cc ?_;refine Hb.last _ _ 12 _ _ rfl (by kernel_rfl) rfl rfl (A6 (k:=1) (v:=.row _ _ _) (cs':=Ft) (H2:=_::_::_::_) tok rfl rfl rfl rfl (rfl) rfl rfl rfl rfl) (by kernel_rfl) ?_;rintro _ _ ⟨rfl,rfl⟩;refine Ig (A5 (AW.region (Qp Am (Qp Dl (Qp Al (Ae ?_))))));refine ⟨(q.1+1,q.2.1 ++ [cE (Ds T V a)],v103),?_,?_,Bv⟩
  · exact ⟨hlt,by simp only;rw [C2 ha,hR.2.1];simp [O6],by simp;omega⟩
  simp only;omega
 have hte:=Cn hc8;have hall:=hR.2.1;rw [hte] at hall;refine AW.exit ?_;refine Bk (Ri (Ad ?_));refine AOL.ghost (GS.cell (H2:=_::_::_::_) 1 1 rfl rfl rfl rfl E9) ?_;refine AOL.Aan (A2 (k:=1) (l:=Ft) tok rfl rfl rfl rfl rfl) rfl rfl ?_;refine Bt 2 Ft (_::_::_::_) ?_;refine Rb ?_;refine ⟨.inr rfl,[.agg Ft],.cons (.box _ _ _ 2 _ _ _ _ rfl rfl rfl rfl rfl rfl) <| .nil,.cons _ (.cons _ (.cons _ (.refl _))),?_⟩;exact Eq.trans (congrArg (fun l:List (List AV)=>AV.agg [.int .i64 o,.sl 8 l,.int .i64 0,.int .i64 0,.int .i64 0,.int .i64 0,.int .i64 0,.str []]) hall) (congrArg (fun q:Ex=>AV.agg (cE q)) ((Fe T V t).trans ((exp_num hc1 hc2 hc4 hc5 hrg).trans (congrArg (fun z:Int=>(⟨z,t.kids.map (Ds T V),0,0,0,v0⟩:Ex)) ho.symm)))).symm
theorem n4_cond (T:List e8Sc)(V:List Va)(hrv:RvOK T V)(t:Syn)(ht:Es t)(hk:∀a,t.kids[0]? = some a→Ba a .exps=0∧(D0 T V a).err=0):An Tryz.prog 181 [.agg (cNm T V),.agg (cSyn t)] (.agg (cE (H7 T V t))):=by
 have hkl:=E3 ht;refine An.body (n:=16) tok Tryz.func181 rfl rfl rfl fun H=>?_
 refine Ad (Qp (Ed [_,_]) (Qp (Ed Aq) (Dt oB fun b4=>Ae (Rd (Qp (Qf Ef) (Qp B7 ?_))))));refine Qp (Ai (n:=t.kids.length) tok rfl rfl rfl (by simp)) ?_;refine Qp Ap (Ae (Ao (fun hc1=>Ad (Qp (Qc rfl (n4_yes)) ?_)) fun hc1=>?_))
 ·
  refine Bt 0 Ft (_::_) (Rc ?_);refine ⟨.inr rfl,[.agg Ft],.cons (.box _ _ _ 0 _ _ _ _ rfl rfl rfl rfl rfl rfl) <| .nil,.cons _ (.refl _),?_⟩;exact Eq.trans rfl (congrArg (fun q:Ex=>AV.agg (cE q)) (vF (by simp at hc1 ⊢;simp [hc1]))).symm
 have hl0:0<t.kids.length:=by simp at hc1;exact uI.2 hc1
 have h0:=Cp hl0;refine A7 (AW.seq ?_);refine Gi ?_;refine Qn 0 rfl (Bo [_,_]) (Qn 1 rfl (Qf Ef) (Qn 2 rfl B7 ?_));refine Qn 3 rfl (Aa (c:=Aq) tok rfl rfl rfl rfl rfl rfl (by decide) (Bz h0)) ?_;refine Qn 4 rfl (Bo Aq) (Qn 5 rfl (Qc rfl (eS T V hrv (Bb t 0) (Le ht hl0) (hk _ h0).1 (hk _ h0).2)) ?_);refine Jj 6 rfl (A6 (k:=0) (v:=.agg _) (cs':=Ft) (H2:=_::_) tok rfl rfl rfl rfl (rfl) rfl rfl rfl rfl) ?_;refine Ej ?_;refine A5 (AW.ret ?_);refine ⟨.inr rfl,[.agg Ft],.cons (.box _ _ _ 0 _ _ _ _ rfl rfl rfl rfl rfl rfl) <| .nil,.cons _ (.refl _),?_⟩;exact Eq.trans rfl (congrArg (fun q:Ex=>AV.agg (cE q)) (wJ (decide_eq_true (by omega)))).symm
set_option maxHeartbeats 12800000
set_option maxRecDepth 20000

theorem rM:∀(l:List Pt) (n:Int),n≤(G1 l n).2∧(G1 l n).2≤n+(l.map Gr).sum
  | [],n=>by rw [G1];simp
  | x::r,n=>by
    have hx:=wQ x n;have hr:=rM r (Nd x n).2;rw [G1,E7,J3];simp only;omega
theorem n4_varR {l:List Va}{cs:List (List AV)}(h:cs=l.map Ls)(hl:l.length≤1048576)(n:A1):An Tryz.prog 137 [.sl 2 cs,.str n] (.int .i64 (B4 (l.map (·.name)) n)):=by subst h;exact gI l hl n
theorem n4_typR {l:List e8Sc}{cs:List (List AV)}(h:cs=l.map F1)(hl:l.length≤1048576)(n:A1):An Tryz.prog 61 [.sl 2 cs,.str n] (.int .i64 (B4 (l.map (·.name)) n)):=by subst h;exact vI l hl n
theorem n4_fldR {l:List Fi}{cs:List (List AV)}(h:cs=l.map lY)(hl:l.length≤1048576)(n:A1):An Tryz.prog 62 [.sl 2 cs,.str n] (.int .i64 (B4 (l.map (·.name)) n)):=by subst h;exact Zn l hl n
theorem pk_ne {t a:Syn}(h:a∈C1 t):t.kind≠5:=fun h5=>by rw [xH (by simpa using h5)] at h;cases h
theorem ev_l10 {t:Syn}(h:t.kind=10):Bb t 1∈Hj t:=by rw [M5,if_neg (by rw [h];decide),if_pos (by rw [h];decide)];exact So ..
theorem ev_l5 {t:Syn}(h:t.kind=5):t∈Hj t:=by rw [M5,if_pos (by rw [h];decide)];exact N6.2 rfl
theorem n4_ptt (T:List e8Sc)(V:List Va)(hrv:RvOK T V)(t:Syn)(ht:Es t)(hc:Ba t .pats=0)(hw:(D0 T V t).err=0)(hev:∀e∈Hj t,(Fq V).contains e.name=true):An Tryz.prog 109 [.agg (cNm T V),.agg (cSyn t)] (.agg (cPt (Mi T V t))):=by
 induction t using Syn.ind
 rename_i t ih;have hkl:=E3 ht;have hrg:=Lu hc;have hpk:=Aag ht;refine An.body (n:=94) tok Tryz.func109 rfl rfl rfl fun H=>?_
 refine Ad (Qp (Ed [_,_]) (Qp (Ed Aq) ?_));refine Dt gV fun b4=>?_
 refine Bs ?_;refine Qp (Im (l0:=[.int .i64 0,.val (.slice none 0 0),.int .i64 0,.int .i64 0,.int .i64 0,.int .i64 0,.int .i64 0,.sl 8 [],.int .i64 0,.int .i64 0,.int .i64 0,.int .i64 0,.int .i64 0,.str []]) (l:=Cu) tok rfl rfl (by kernel_rfl) rfl) ?_;refine Dt gV fun b5=>?_
 refine Bt 0 Cu (_::_::_) ?_;refine Bs (Qp (Qf Ef) (Qp B7 (Qp Sr (Ae ?_))));refine AW.Aas (fun (p:Pt×List Syn)=>(⟨[(2,.ptr (cNm T V)),(3,.ptr (cSyn t)),(4,.val (.pointer (some ⟨b4,0,none⟩))),(5,.val (.pointer (some ⟨b5,0,none⟩))),(6,.sl 6 (p.2.map Cr))],.box b5 38 (cPtW p.1 (.val (.slice none 0 0))) :: .box b4 38 gV::H,94⟩:St)) (fun p=>p.1=L4 T V t []∧p.2=C1 t) ?_ ?_
 ·
  refine Ad (Qp (Qf Aq) (Qp Bf (Ae (AW.block ?_))));refine AW.Aas (fun (b:Bool)=>(⟨[(2,.ptr (cNm T V)),(3,.ptr (cSyn t)),(4,.val (.pointer (some ⟨b4,0,none⟩))),(5,.val (.pointer (some ⟨b5,0,none⟩))),(6,.sl 6 (t.kids.map Cr)),(13,.int .i64 t.kind),(25,.bool b)],.box b5 38 (cPtW pt0 (.val (.slice none 0 0))) :: .box b4 38 gV::H,94⟩:St)) (fun b=>b=((t.kind==5)||(t.kind==10))) ?_ ?_
  ·
   refine Ad (Qp Ap (Qp Au (Ae (Ao (fun hc1=>?_) fun hc1=>?_))))
   ·
    refine A7 ?_;refine ⟨(t.kind==5),?_,Bv⟩;rw [hc1];rfl
   refine AW.region (Qp Ap (Qp Au (Ae ?_)));refine ⟨(t.kind==10),?_,Bv⟩;rw [hc1];rfl
  rintro b hb;refine Ao (fun hc2=>?_) fun hc2=>?_
  ·
   refine Ad (Qp (Bo Aq) ?_);refine Dt L7 fun b7=>?_
   refine Bt 0 Aq (_::_::_::_) ?_;refine Ae ?_;refine AW.Aas (fun (z:Int×Syn×List Syn)=>(⟨[(2,.ptr (cNm T V)),(3,.ptr (cSyn t)),(4,.val (.pointer (some ⟨b4,0,none⟩))),(5,.val (.pointer (some ⟨b5,0,none⟩))),(6,.sl 6 (z.2.2.map Cr)),(7,.val (.pointer (some ⟨b7,0,none⟩)))],.box b7 25 (cSyn z.2.1) :: .box b5 38 (cPtW ⟨z.1,[],0,0,0,0,Ps⟩ (.val (.slice none 0 0))) :: .box b4 38 gV::H,94⟩:St)) (fun z=>L4 T V t []=⟨z.1,[],tyV V (B4 (Fq V) z.2.1.name),B4 (Fq V) z.2.1.name,0,0,H7 T V z.2.1⟩∧C1 t=z.2.2∧Es z.2.1∧(D0 T V z.2.1).err=0∧z.2.1∈Hj t∧∀a,z.2.1.kids[0]? = some a→Ba a .exps=0) ?_ ?_
   ·
    refine Ad (Qp (Qf Aq) (Qp Bf (Qp Ap (Ae (Ao (fun hc3=>?_) fun hc3=>?_)))))
    ·
     have h10:t.kind=10:=by simpa using hc3
     have h2:=Hz hc (.inl h10);have h1:1<t.kids.length:=by omega
     refine Ad (Qp Cc ?_);refine Bt 1 Cu (_::_::_::_) ?_;refine Bs (Qp (Qf Ef) (Qp B7 ?_));refine Qp (Aa (c:=Aq) tok rfl rfl rfl rfl rfl rfl (by decide) (Bz (Cp h1))) ?_;refine Qp (Bo Aq) ?_;refine Bt 0 Aq (_::_::_::_) ?_;refine Ae (AW.region (Qp (Qf Ef) (Qp B7 ?_)));refine Qp (It (l:=0) (h:=1) tok rfl rfl rfl rfl rfl (rfl) (⟨_,rfl⟩) (by decide) (by rw [D9];omega) ((by rw [Sj,←Uk]))) ?_;refine Qp Sr (Ae ?_);refine ⟨(5,Bb t 1,t.kids.take 1),?_,Bv⟩;exact ⟨rn_10 (by simp [h10]) hc3,pk_10 (by simp [h10]) hc3,Le ht h1,N0 hw h1,ev_l10 h10,fun a ha=>pQ (vC hc h10) (E5 (Gg (Gk (vC hc h10)).1).1) ha⟩
    refine AW.region ?_;refine Qp (Be (z:=6) rfl) ?_;refine Ae ?_;refine ⟨(0,t,[]),?_,Bv⟩;have h5:t.kind=5:=(by rw [hc2] at hb;simp at hb hc3;omega);exact ⟨rn_5 (by simp [h5]),xH (by simp [h5]),ht,hw,ev_l5 h5,fun a ha=>pQ hc h5 ha⟩
   rintro z hz;have hct:=hev _ hz.2.2.2.2.1;refine (pN hct).elim fun va hva=>?_
   have hix:=U4 hct;have hix2:=hix.2;rw [D9] at hix2;have hty:=yX hva;refine Ad (Qp (Qf [_]) (Qp B7 (Qp Cc ?_)));refine AOL.Aan (Af (k:=0) (c:=.str _) tok rfl rfl rfl rfl) rfl rfl ?_;refine Qp (Qc rfl (gI V hrv.vl z.2.1.name)) ?_;refine Qp Cc ?_;refine Bt 1 Cu (_::_::_::_) ?_;refine Bs (Qp (Qf [_]) (Qp B7 (Qp Cc ?_)));refine AOL.Aan (Af (k:=1) (c:=Iq _) tok rfl rfl rfl rfl) rfl rfl ?_;refine Qp (Aa (c:=H6) tok rfl rfl rfl rfl rfl rfl (hix.1) (Ct hva)) ?_;refine Qp (Qf [Iq _]) (Qp Bf (Qp Cc ?_));refine Bt 1 Cu (_::_::_::_) ?_;refine Ae (AW.region (Qp (Bo [_,_]) ?_));refine AOL.Aan (A2 (k:=0) (l:=Aq) tok rfl rfl rfl rfl rfl) rfl rfl ?_;refine Qp (Qc rfl (n4_cond T V hrv z.2.1 hz.2.2.1 (fun a ha=>⟨hz.2.2.2.2.2 a ha,(Eb hz.2.2.2.1).2 a (B6 ha)⟩))) ?_;refine Qp Cc ?_;refine Bt 1 Cu (_::_::_::_) ?_;refine Rk ?_;refine ⟨(⟨z.1,[],va.type,B4 (Fq V) z.2.1.name,0,0,H7 T V z.2.1⟩,z.2.2),?_,GS.weaken ⟨rfl,rfl,rfl,rfl,rfl,trivial⟩ (.cons _ (.refl _))⟩;exact ⟨by rw [hz.1,hty],hz.2.1.symm⟩
  refine Ad (Qp Ap (Qp Au (Ae (Ao (fun hc4=>?_) fun hc4=>?_))))
  ·
   refine AW.region (Qp Cc ?_);refine Bt 0 Cu (_::_::_) ?_;refine Rk ?_;refine ⟨(⟨1,[],0,0,0,0,Ps⟩,t.kids),?_,Bv⟩;have hk:t.kind=6:=(by simpa using hc4);exact ⟨(wV hk (by decide)).symm,(gZ hk (by decide)).symm⟩
  refine Ad (Qp Ap (Qp Au (Ae (Ao (fun hc5=>?_) fun hc5=>?_))))
  ·
   refine AW.region (Qp Cc ?_);refine Bt 0 Cu (_::_::_) ?_;refine Rk ?_;refine ⟨(⟨2,[],0,0,0,0,Ps⟩,t.kids),?_,Bv⟩;have hk:t.kind=7:=(by simpa using hc5);exact ⟨(wV hk (by decide)).symm,(gZ hk (by decide)).symm⟩
  refine Ad (Qp Ap (Qp Au (Ae (Ao (fun hc6=>?_) fun hc6=>?_))))
  ·
   refine AW.region (Qp Cc ?_);refine Bt 0 Cu (_::_::_) ?_;refine Rk ?_;refine ⟨(⟨3,[],0,0,0,0,Ps⟩,t.kids),?_,Bv⟩;have hk:t.kind=8:=(by simpa using hc6);exact ⟨(wV hk (by decide)).symm,(gZ hk (by decide)).symm⟩
  refine Ad (Qp Ap (Qp Au (Ae (Ao (fun hc7=>?_) fun hc7=>?_))))
  ·
   refine AW.region (Qp Cc ?_);refine Bt 0 Cu (_::_::_) ?_;refine Rk ?_;refine ⟨(⟨4,[],0,0,0,0,Ps⟩,t.kids),?_,Bv⟩;have hk:t.kind=9:=(by simpa using hc7);exact ⟨(wV hk (by decide)).symm,(gZ hk (by decide)).symm⟩
  refine Ad (Qp Ap (Qp Au (Ae (Ao (fun hc8=>?_) fun hc8=>?_))))
  ·
   refine Gi ?_;refine Qn 0 rfl (Qf J8) (Qn 1 rfl Bf (Qn 2 rfl Cc ?_));refine Jj 3 rfl (A6 (k:=0) (v:=Iq _) (cs':=Cu) (H2:=_::_::_) tok rfl rfl rfl rfl (rfl) rfl rfl rfl rfl) ?_;refine Qn 4 rfl Cc ?_;refine Jj 5 rfl (A6 (k:=0) (v:=Iq _) (cs':=Cu) (H2:=_::_::_) tok rfl rfl rfl rfl (rfl) rfl rfl rfl rfl) ?_;refine Ej ?_;refine Ig (A5 ?_);refine ⟨(⟨6,[],0,0,0,t.num,Ps⟩,t.kids),?_,Bv⟩;have hk:t.kind=11:=(by simpa using hc8);exact ⟨(rn_11 hk).symm,(gZ hk (by decide)).symm⟩
  have h12:t.kind=12:=by simp at hb hc2 hc4 hc5 hc6 hc7 hc8;rw [hc2] at hb;simp at hb;omega
  have h2:=Hz hc (.inr h12);have h1:1<t.kids.length:=by omega
  refine AW.seq ?_;refine Gi ?_;refine Qn 0 rfl (Bo [_,_]) (Qn 1 rfl (Qf Ef) (Qn 2 rfl B7 ?_));refine Qn 3 rfl (Aa (c:=Aq) tok rfl rfl rfl rfl rfl rfl (by decide) (Bz (Cp h1))) ?_;refine Qn 4 rfl (Bo Aq) ?_;refine Qn 5 rfl (Qc rfl (eS T V hrv (Bb t 1) (Le ht h1) (xU hc h12) (N0 hw h1))) ?_;refine Qn 6 rfl Cc ?_;refine Jj 7 rfl (A6 (k:=0) (v:=Iq _) (cs':=Cu) (H2:=_::_::_) tok rfl rfl rfl rfl (rfl) rfl rfl rfl rfl) ?_;refine Qn 8 rfl Cc ?_;refine Jj 9 rfl (A6 (k:=0) (v:=.agg _) (cs':=Cu) (H2:=_::_::_) tok rfl rfl rfl rfl (rfl) rfl rfl rfl rfl) ?_;refine Ej ?_;refine A5 (AW.region (Qp (Qf Ef) (Qp B7 ?_)));refine Qp (It (l:=0) (h:=1) tok rfl rfl rfl rfl rfl (rfl) (⟨_,rfl⟩) (by decide) (by rw [D9];omega) ((by rw [Sj,←Uk]))) ?_;refine Qp Sr (Rk ?_);refine ⟨(⟨7,[],0,0,0,0,Ds T V (Bb t 1)⟩,t.kids.take 1),?_,Bv⟩;exact ⟨(rn_12 h12).symm,(pk_12 (by simp [h12]) (by simp [h12])).symm⟩
 rintro ⟨p,ks⟩ hQ;obtain ⟨e1,e2⟩:=hQ;simp only at e1 e2;subst e1 e2;refine AW.seq (AW.seq ?_);refine AW.ghost (GS.cellRow 0 1 38 14 rfl rfl rfl rfl) ?_
 skip
 refine AW.region (Qp Al (Ae (AW.block ?_)));refine AW.Aam (fun (q:Nat×List (List AV)×Value)=>(⟨[(2,.ptr (cNm T V)),(3,.ptr (cSyn t)),(4,.val (.pointer (some ⟨b4,0,none⟩))),(5,.val (.pointer (some ⟨b5,0,none⟩))),(6,.sl 6 ((C1 t).map Cr)),(8,.int .i64 (q.1:Int))],.row q.2.2 q.2.1.length 38 14 :: .box b5 38 (cPtW (L4 T V t []) (.row q.2.2 14 q.2.1)) :: .box b4 38 gV::H,94⟩:St)) (fun q=>q.1≤(C1 t).length∧q.2.1=(((C1 t).take q.1).map (Mi T V)).map K8∧q.2.1.length≤q.1) (fun q=>(C1 t).length-q.1) ((0,[],.slice none 0 0)) ?_ Bv ?_
 · exact ⟨Dh _,rfl,C6 _⟩
 rintro q hR;refine Rd (Qp Am (Qp Fh ?_));refine Qp (Ai (n:=(C1 t).length) tok rfl rfl rfl (by simp)) ?_;refine Qp Bp (Ae (Ao (fun hc9=>?_) fun hc9=>?_))
 ·
  obtain ⟨a,ha⟩:=By hc9;have hlt:=Bj ha;have hm:=B6 ha;have hsc:∀c∈q.2.1,Bc c=true:=by rw [hR.2.1];exact zT _
  have hql:=hR.2.2;refine A7 (AW.seq (AW.block ?_));refine AW.draw mixed (fun H'=>_∈H') (B6 (i:=1) rfl) (by kernel_rfl) ?_;refine Qn 0 rfl Cc ?_;refine Qn 1 rfl (OpP.Aap (fun k=>Af (k:=k) (c:=.row _ _ _) tok rfl rfl rfl rfl) (fun _ h=>h)) ?_;refine Qn 2 rfl (Bo [_,_]) (Qn 3 rfl Fh (Qn 4 rfl Am ?_));refine Qn 5 rfl (Aa (c:=Aq) tok rfl rfl rfl rfl rfl rfl (by omega) (Bz ha)) ?_;refine Qn 6 rfl (Bo Aq) ?_;refine Qn 7 rfl (Qc rfl (ih a (Mx hm) (C4 ht (Mx hm)) (Ue hc hm) ((Eb hw).2 a (Mx hm)) (fun e he=>hev e (ev_sub (pk_ne hm) hm e he)))) ?_;refine Qn 8 rfl (Ak (es:=[Cu]) tok rfl rfl rfl rfl rfl rfl rfl rfl rfl) ?_;refine Hb.eff _ _ 9 _ _ rfl (by kernel_rfl) rfl rfl (B8 (k:=0) tok rfl rfl rfl rfl rfl rfl rfl rfl (Dy rfl) (hsc) (by simp;omega) (by simp [maxLen];omega)) (by rintro _ _ ⟨v91,rfl,rfl⟩;simp) ?_;rintro _ _ ⟨v91,rfl,rfl⟩;refine Qn 10 rfl Cc ?_;refine Hb.last _ _ 11 _ _ rfl (by kernel_rfl) rfl rfl (A6 (k:=1) (v:=.row _ _ _) (cs':=Cu) (H2:=_::_::_::_) tok rfl rfl rfl rfl (rfl) rfl rfl rfl rfl) (by kernel_rfl) ?_;rintro _ _ ⟨rfl,rfl⟩;refine Ig (A5 (AW.region (Qp Am (Qp Dl (Qp Al (Ae ?_))))));refine ⟨(q.1+1,q.2.1 ++ [cPt (Mi T V a)],v91),?_,?_,Bv⟩
  · exact ⟨hlt,by simp only;rw [C2 ha,hR.2.1];simp [Ok],by simp;omega⟩
  simp only;omega
 have hte:=Cn hc9;have hall:=hR.2.1;rw [hte] at hall;refine AW.exit ?_;refine Bk (Ri (Ad ?_));refine AOL.ghost (GS.cell (H2:=_::_::_::_) 1 1 rfl rfl rfl rfl E9) ?_;refine AOL.Aan (A2 (k:=1) (l:=Cu) tok rfl rfl rfl rfl rfl) rfl rfl ?_;refine Bt 2 Cu (_::_::_::_) ?_;refine Rb ?_;refine ⟨.inr rfl,[.agg Cu],.cons (.box _ _ _ 2 _ _ _ _ rfl rfl rfl rfl rfl rfl) <| .nil,.cons _ (.cons _ (.cons _ (.refl _))),?_⟩;exact Eq.trans (congrArg (fun l:List (List AV)=>AV.agg (cPtW (L4 T V t []) (.sl 14 l))) hall) (congrArg (fun q:Pt=>AV.agg (cPt q)) (kC T V t)).symm
theorem n4_sco (p:Pt)(n:Int)(h0:0≤n)(hn:n+Gr p≤3000000)(hp:Gr p≤1048576):An Tryz.prog 108 [.agg (cPt p),.int .i64 n] (.tuple [.agg (cPt (Nd p n).1),.int .i64 (Nd p n).2]):=by
 induction p using Pt.ind generalizing n
 rename_i p ih;have hal:=Mw p;refine An.body (n:=48) tok Tryz.func108 rfl rfl rfl fun H=>?_
 refine Ad (Qp (Ed Cu) (Dt gV fun b4=>Qp Al (Bs (Qp (Bo Cu) (Dt gV fun b6=>?_)))));refine Bt 0 Cu (_::_::_) (Bs (Qp Cc ?_));refine Bt 0 Cu (_::_::_) (Ae ?_);refine AW.Aas (fun (m:Pt×Int)=>(⟨[(2,.ptr (cPt p)),(4,.val (.pointer (some ⟨b4,0,none⟩))),(6,.val (.pointer (some ⟨b6,0,none⟩))),(1,.int .i64 m.2)],.box b6 38 (cPtW m.1 (.val (.slice none 0 0))) :: .box b4 38 gV::H,48⟩:St)) (fun m=>m.1=⟨p.op,[],p.type,p.var,if (M0 p||Lx p) then n else p.scope,p.span,p.cond⟩∧m.2=O8 p n) ?_ ?_
 ·
  refine Ad (Qp (Bo Cu) (Qp (Qc rfl (Ze _)) (Qp A9 (Qg [] Qw (Bo Cu) (Qg [(15,_)] Qw (Qc rfl (S0 _)) (Qp Cf (Ae (Ao (fun hc1=>Ad (Qp Am (Qp Cc ?_))) fun hc1=>A7 ?_))))))))
  ·
   refine Bt 0 Cu (_::_::_) (Ae (AW.region (Qp Am (Qp Dl (Qp Al (Ae ?_))))));refine ⟨(⟨p.op,[],p.type,p.var,n,p.span,p.cond⟩,n+1),?_,Bv⟩;exact ⟨by rw [if_pos hc1],(if_pos hc1).symm⟩
  refine ⟨(⟨p.op,[],p.type,p.var,p.scope,p.span,p.cond⟩,n),?_,Bv⟩;exact ⟨by rw [Bi hc1],(Bi hc1).symm⟩
 rintro ⟨m,f⟩ hQ;obtain ⟨e1,e2⟩:=hQ;simp only at e1 e2;subst e1 e2;refine AW.seq (AW.seq ?_);refine AW.ghost (GS.cellRow 0 1 38 14 rfl rfl rfl rfl) ?_
 skip
 refine AW.region (Qp Al (Ae (AW.block ?_)));refine AW.Aam (fun (q:Nat×List (List AV)×Value×Int)=>(⟨[(2,.ptr (cPt p)),(4,.val (.pointer (some ⟨b4,0,none⟩))),(6,.val (.pointer (some ⟨b6,0,none⟩))),(1,.int .i64 q.2.2.2),(7,.int .i64 (q.1:Int))],.row q.2.2.1 q.2.1.length 38 14 :: .box b6 38 (cPtW (⟨p.op,[],p.type,p.var,if (M0 p||Lx p) then n else p.scope,p.span,p.cond⟩:Pt) (.row q.2.2.1 14 q.2.1)) :: .box b4 38 gV::H,48⟩:St)) (fun q=>q.1≤p.args.length∧q.2.1=(G1 (p.args.take q.1) (O8 p n)).1.map K8∧q.2.2.2=(G1 (p.args.take q.1) (O8 p n)).2∧q.2.1.length≤q.1) (fun q=>p.args.length-q.1) ((0,[],.slice none 0 0,O8 p n)) ?_ Bv ?_
 · exact ⟨Dh _,by rw [hJ,G1];rfl,by rw [hJ,G1],C6 _⟩
 rintro q hR;refine Rd (Qp Am (Qp (Qf Vx) (Qp B7 ?_)));refine Qp (Ai (n:=p.args.length) tok rfl rfl rfl (by simp)) ?_;refine Qp Bp (Ae (Ao (fun hc2=>?_) fun hc2=>?_))
 ·
  obtain ⟨a,ha⟩:=By hc2;have hlt:=Bj ha;have hm:=B6 ha;have hsc:∀c∈q.2.1,Bc c=true:=by rw [hR.2.1];exact zT _
  have hz:=gM (p:=p) ha;have hsl:=rM (p.args.take q.1) (O8 p n);have hq2:=hR.2.2.1;have hsa:=wQ a q.2.2.2;rw [←hq2] at hsl;have hF:n≤O8 p n∧O8 p n≤n+1:=by unfold O8;split <;> omega
  have hql:=hR.2.2.2;refine A7 (AW.seq (AW.block (Ad (Qp (Qf Vx) (Qp B7 (Qp Am ?_))))));refine Qp (Aa (c:=Cu) tok rfl rfl rfl rfl rfl rfl (by omega) (Um ha)) ?_;refine Qp (Bo Cu) (Qp Am ?_);refine Qp (Qc rfl (ih a hm q.2.2.2 (by omega) (by omega) (by omega))) ?_;refine Qp Lm (Qp (B2 (v:=.agg Cu) rfl rfl) (Qp Ib (Dt gV fun b8=>?_)));refine Bt 0 Cu (_::_::_::_::_) (Qp Al ?_);refine AOL.ghost (GS.freeze (t:=8) 0 rfl rfl) ?_;refine Ae (AW.region (Qp Cc (AOL.Aan (Af (k:=1) (c:=.row _ _ _) tok rfl rfl rfl rfl) rfl rfl (Qp (Bo Cu) (Qp (Ak (es:=[Cu]) tok rfl rfl rfl rfl rfl rfl rfl rfl rfl) ?_)))));refine Qe (B8 (k:=0) tok rfl rfl rfl rfl rfl rfl rfl rfl (Dy rfl) (hsc) (by simp;omega) (by simp [maxLen];omega)) ?_;rintro _ _ ⟨v43,rfl,rfl⟩;refine Qp Am (Qp Cc ?_);refine Bt 1 Cu (_::_::_::_) (Qp Al (Rk (AW.region (Qp Am (Qp Dl (Qp Al (Ae ?_)))))));refine ⟨(q.1+1,q.2.1 ++ [cPt (Nd a q.2.2.2).1],v43,(Nd a q.2.2.2).2),?_,?_,Bv⟩
  · exact ⟨hlt,by simp only;rw [dB ha,hR.2.1,←hq2];simp [Ok],by simp only;rw [dB ha,←hq2],by simp;omega⟩
  simp only;omega
 have hte:=Cn hc2;have hall:=hR.2.1;have hst:=hR.2.2.1;rw [hte] at hall hst;refine AW.exit ?_;refine Bk (Ri (Ad ?_));refine AOL.ghost (GS.cell (H2:=_::_::_::_) 1 1 rfl rfl rfl rfl E9) ?_;refine AOL.Aan (A2 (k:=1) (l:=Cu) tok rfl rfl rfl rfl rfl) rfl rfl (Qp Am ?_);refine Bt 2 Cu (_::_::_::_) (Qp Al (Rb ?_));refine ⟨.inr rfl,[.agg Cu,Iq _],.cons (.box _ _ _ 2 _ _ _ _ rfl rfl rfl rfl rfl rfl) <| .cons (.tmp _ _ rfl) <| .nil,.cons _ (.cons _ (.cons _ (.refl _))),?_⟩;exact Eq.trans (congrArg (fun l:List (List AV)×Int=>AV.tuple [.agg (cPtW (⟨p.op,[],p.type,p.var,if (M0 p||Lx p) then n else p.scope,p.span,p.cond⟩:Pt) (.sl 14 l.1)),.int .i64 l.2]) (show (q.2.1,q.2.2.2)=((G1 p.args (O8 p n)).1.map K8,(G1 p.args (O8 p n)).2) by rw [hall,hst])) (congrArg (fun q:Pt×Int=>AV.tuple [.agg (cPt q.1),.int .i64 q.2]) (eM p n)).symm

theorem zL {p:UInt8→Bool}(h:(List.range 256).all (fun n=>p (UInt8.ofNat n))=true)(c:UInt8):p c=true:=by
 rw [bS] at h;have:=h c.toNat (U1.2 c.toNat_lt)
 rwa [UInt8.ofNat_toNat] at this
def LRel (i:Nat)(f:Fo)(r:A1×Int×Int):Prop:=
 if f.err=0 then f.tok.kind=2∧0<f.bytes∧r=(f.tok.text,(i:Int)+f.bytes,0) else r.2=((i:Int)+f.pos,f.err)
theorem litGoR_succ {s:A1}{k n i:Nat}{b:A1}:Vm s k (n+1) i b =
 if decide ((s.length:Int)≤(i:Int)) then (([],(s.length:Int),4):A1×Int×Int)
 else if (((bt s i).toNat:Int)==34) then if decide (64<(b.length:Int)) then ([],(k:Int),13) else (b,(i:Int)+1,0)
 else if fA (bt s i) then Vm s k n (i+1) (b ++ [bt s i])
 else if (((bt s i).toNat:Int) != 92)||((tM s i).2==0) then ([],(i:Int),4)
 else Vm s k n (tM s i).2.toNat (b ++ [(tM s i).1]):=rfl
theorem litGo_succ {s:A1}{n i:Nat}{b:A1}:I7 s (n+1) i b =
 if decide ((i:Int)<(s.length:Int)) then
  if (((bt s i).toNat:Int)==34) then
   if decide (64<(b.length:Int)) then Pj 0 13 else oX 2 b ((i:Int)+1)
  else if (((bt s i).toNat:Int)==92) then
   if ((K7 (s.drop i)).2==0) then Pj i 4 else I7 s n (i+(K7 (s.drop i)).2.toNat) (b ++ [(K7 (s.drop i)).1])
  else if (decide (((bt s i).toNat:Int)<32)||decide (126<((bt s i).toNat:Int))) then Pj i 4
  else I7 s n (i+1) (b ++ [bt s i])
 else Pj s.length 4:=rfl

def okSign:A1→Bool
 | [_]=>true
 | [_,b]=>b==61
 | _=>false
def signHit (c:UInt8)(two:Bool):A1→Bool
 | [a]=>a==c
 | [a,_]=>a==c&&two
 | _=>false
def signV (c:UInt8)(two:Bool):Option A1:=iD.find? (signHit c two)
def signN (c:UInt8)(two:Bool):Int:=if sign2 c&&two then 2 else if sign1 c then 1 else 0
def TRel (i:Nat)(f:Fo)(r:Tok×Int×Int):Prop:=
 (f.err=0∧0<f.bytes∧r=(⟨f.tok.kind,f.tok.text,i⟩,(i:Int)+f.bytes,0))∨(f.err≠0∧r.2=((i:Int)+f.pos,f.err))

theorem scanGo_succ {s:A1}{n i:Nat}{out:List Tok}:Jn s (n+1) i out =
 if decide ((i:Int)<(s.length:Int)) then
  if decide (0<S8 (s.drop i)) then Jn s n (i+(S8 (s.drop i)).toNat) out
  else if ((Dr (s.drop i)).err != 0) then (([],(i:Int)+(Dr (s.drop i)).pos,(Dr (s.drop i)).err):List Tok×Int×Int)
  else Jn s n (i+(Dr (s.drop i)).bytes.toNat) (out ++ [⟨(Dr (s.drop i)).tok.kind,(Dr (s.drop i)).tok.text,i⟩])
 else (out,0,0):=rfl
theorem scanGoR_succ {s:A1}{n i:Nat}{c:Bool}{out:List Tok}:Sg s (n+1) i c out =
 if decide ((i:Int)<(s.length:Int)) then
  if ((c||xX (bt s i))||(((bt s i).toNat:Int)==35)) then Sg s n (i+1) ((c||(((bt s i).toNat:Int)==35))&&(((bt s i).toNat:Int) != 10)) out
  else if ((Na s i).2.2 != 0) then (([],(Na s i).2.1,(Na s i).2.2):List Tok×Int×Int)
  else Sg s n (Na s i).2.1.toNat false (out ++ [(Na s i).1])
 else (out,0,0):=rfl

theorem Tp (s sub:A1):Lib.contains s sub=true↔∃j,j≤s.length∧Lib.occAt s sub j=true:=by
 unfold Lib.contains;rw [Hi];rcases Lib.index_spec s sub with ⟨h1,h2⟩ | ⟨i,h1,h2,h3,_⟩
 ·
  rw [h1]
  constructor
  · intro h;omega
  rintro ⟨j,hj,ho⟩;rw [h2 j hj] at ho;cases ho
 rw [h1];exact ⟨fun _=>⟨i,h2,h3⟩,fun _=>by omega⟩
theorem Ua (s:A1)(c:UInt8):Lib.contains s [c]=true↔c∈s:=by
 rw [Tp]
 constructor
 ·
  rintro ⟨j,_,ho⟩;unfold Lib.occAt at ho;rw [List.isPrefixOf_iff_prefix] at ho;obtain ⟨t,ht⟩:=ho;exact List.mem_of_mem_drop (i:=j) (by rw [←ht];simp)
 intro h;obtain ⟨u,v,rfl⟩:=List.append_of_mem h;refine ⟨u.length,by simp,?_⟩;unfold Lib.occAt;rw [List.drop_left,List.isPrefixOf_iff_prefix];exact ⟨v,rfl⟩
def kwL:List A1:=[[97,108,108],[97,108,116],[97,110,100],[98,111,111,108],[98,121],[99,111,117,110,116],[102,97,108,115,101],[102,105,114,115,116],[105,102],[105,110,116],[108,97,99,107,115],[108,97,115,116],[109,97,116,99,104],[109,97,120],[109,105,110],[110,111,116],[111,114],[112,108,117,115],[113,117,101,114,121],[114,101,116,117,114,110],[115,101,113],[115,116,114,105,110,103],[115,117,109],[116,105,109,101],[116,114,117,101],[116,121,112,101],[119,104,101,114,101],[119,105,116,104,105,110]]
theorem wI (s:A1):bP s=kwL.any (fun w=>s==w):=by
 unfold bP kwL;simp only [bR,List.any_nil,Pw,Bool.or_assoc]
theorem keyR_mem (s:A1):bP s=true↔s∈kwL:=by
 rw [wI,List.any_eq_true]
 constructor
 ·
  rintro ⟨w,hw,he⟩;rw [beq_iff_eq] at he;exact he▸hw
 intro h;exact ⟨s,h,beq_self_eq_true _⟩
theorem jF:∀(s l:A1),32∉s→(s ++ [32]).isPrefixOf l=true→s=l.takeWhile (fun c=>c != 32)∧32∈l
  | [],l,_,h=>by
    cases l with
    | nil=>cases h
    | cons b t=>
      have:(32:UInt8)=b:=by simpa [List.isPrefixOf] using h
      subst this;exact ⟨rfl,by simp⟩
  | c::r,l,hn,h=>by
    cases l with
    | nil=>cases h
    | cons b t=>
      simp only [Kv,List.isPrefixOf,G2,beq_iff_eq] at h;obtain ⟨rfl,h⟩:=h;have hc:(32:UInt8)≠c:=fun e=>hn (by simp [e])
      obtain ⟨i1,i2⟩:=jF r t (fun e=>hn (Pv _ e)) h;have e:(c != 32)=true:=by simpa [bne] using fun e=>hc e.symm
      refine ⟨?_,Pv _ i2⟩;rw [List.takeWhile_cons_of_pos (p:=fun c=>c != 32) e,←i1]
def kwAt (l:A1):Bool:=match l with
 | []=>true
 | c::r=>if c==32&&r.contains 32 then kwL.contains (r.takeWhile (fun c=>c != 32))||((r.takeWhile (fun c=>c != 32)) == []) else true
theorem kw_all:(List.range 200).all (fun j=>kwAt (aO.drop j))=true:=by kernel_rfl
theorem kw_len:aO.length≤199:=Gv (by kernel_rfl)
theorem kw_back:kwL.all (fun w=>Lib.contains aO ([32]++w ++ [32]) && !(w == []) && !(w.contains 32))=true:=by kernel_rfl
theorem key_eq (s:A1):sT s=bP s:=by
  rw [Bool.eq_iff_iff,keyR_mem];unfold sT;simp only [G2,Et]
  constructor
  · rintro ⟨⟨h1,h2⟩,h3⟩
    have hn:32∉s:=fun h=>by rw [(Ua s 32).2 h] at h2;cases h2
    obtain ⟨j,hj,ho⟩:=(Tp _ _).1 h3;have hk:=bS.1 kw_all j (U1.2 (by have:=kw_len;omega));unfold Lib.occAt at ho;generalize aO.drop j=l at ho hk;cases l with
    | nil=>cases ho
    | cons b t=>
      simp only [Kv,J4,List.isPrefixOf,G2,beq_iff_eq] at ho;obtain ⟨rfl,ho⟩:=ho;obtain ⟨i1,i2⟩:=jF s t hn ho;unfold kwAt at hk;have e:t.contains 32=true:=by simpa using i2
      simp only [e,←i1] at hk;have e0:((32:UInt8)==32&&true)=true:=rfl;rw [e0,if_pos rfl,h1,Pw] at hk;simpa using hk
  · intro h
    have:=bS.1 kw_back s h;simp only [G2,Et] at this;obtain ⟨⟨k1,k2⟩,k3⟩:=this;refine ⟨⟨k2,?_⟩,k1⟩;rw [zz45];intro h;rw [Ua] at h;have:s.contains 32=true:=by simpa using h
    rw [this] at k3;cases k3

theorem qC (p:UInt8→Bool):∀s:A1,decide (0≤Ir p s)=s.any p
  | []=>rfl
  | c :: r => by
    have ih:=qC p r;rw [bR,←ih,Ir];cases p c with
    | true=>rfl
    | false=>
      by_cases h:Ir p r = -1
      · rw [if_neg (by decide),if_pos h,h];rfl
      · rw [if_neg (by decide),if_neg h,Md]
        refine decide_eq_decide.2 ?_
        have:∀s:A1,-1≤Ir p s:=by
          intro s
          induction s with
          | nil=>exact Uh _
          | cons c r ih=>
            unfold Ir;split
            · decide
            · split
              · decide
              omega
        have:=this r;omega
theorem iX (p:UInt8→Bool):∀s:A1,decide (D5 p s=s.length)=s.all p
  | []=>rfl
  | c::r=>by
    have ih:=iX p r;rw [List.all_cons,←ih,D5];cases p c with
    | true=>rw [if_pos rfl,K5,Cj];exact decide_eq_decide.2 (by omega)
    | false=>rw [if_neg (by decide),Sm,Cj];exact decide_eq_false (by omega)
theorem gL (c:UInt8):(Hv c&&Dz c)=false:=by
 have:=zL (p:=fun c=>(Hv c&&Dz c)==false) (by kernel_rfl) c;exact eq_of_beq this
theorem name_eq (s:A1):Yw s=cZ s:=by
  unfold Yw cZ;rw [key_eq,qC];cases s with
  | nil=>rfl
  | cons c r=>
    have hb:bt (c::r) 0=c:=rfl
    have hs:((D5 Jr (c::r):Int) != ((c::r).length:Int))=(c::r).any gC:=by
      have h:=iX Jr (c::r)
      have h2:(c::r).any gC = !((c::r).all Jr):=by
        have:gC=fun c=>!(Jr c):=by funext c;unfold gC Jr;rw [Bool.not_or]
        rw [this,←List.not_all_eq_any_not]
      rw [h2,←h,Bool.eq_iff_iff,bne_iff_ne,Et,U8];omega
    rw [hs,hb,bR];have ho:gC c=(!Hv c && !Dz c):=rfl;rw [ho];have hld:=gL c;generalize bP (c::r)=K;generalize decide (24<((c::r).length:Int))=A;have e0:(c::r == [])=false:=rfl;rw [e0];generalize r.any gC=O;generalize Hv c=L at *;generalize Dz c=D at *
    revert hld
    cases K <;> cases A <;> cases O <;> cases L <;> cases D <;> decide

theorem tV (c:UInt8):Mg c=Ll c:=by
 have:=zL (p:=fun c=>Mg c==Ll c) (by kernel_rfl) c;exact eq_of_beq this
theorem Yr:∀s:A1,Ei s=D7 s
 | []=>rfl
 | c::r=>by rw [Ei,D7,tV,Yr r]
theorem xZ (s:A1):Lz s=Tl s:=by unfold Lz Tl;rw [Yr]

def backB (c:UInt8)(w:A1):Bool:=
 if ((bt w 0).toNat:Int)==92 then (K7 w).2==(w.length:Int)&&(K7 w).1==c else w == [c] && !(((c.toNat:Int)==34)) && !(decide ((c.toNat:Int)<32)||decide (126<(c.toNat:Int)))
end Go.Proofs.YtckhoadldibflaaGreatDoor
