/-
  Several texts in one: W13g, W13h, W13i, R11w, R12w, R13w, R20w, R33w, S12, B12, P15, P16, P1, P2, P3, P5, P7, P17, P8, X12. No condition.
-/
import Derived.Test.YtckhoadldibflaaGreatDoorK07
import Derived.Test.YtckhoadldibflaaGreatDoorK04
import Derived.KernelRfl
import Derived.Test.YtckhoadldibflaaGreatDoorK01
import Derived.Test.YtckhoadldibflaaGreatDoorK05
import Derived.Test.YtckhoadldibflaaGreatDoorK06
import Derived.Test.YtckhoadldibflaaGreatDoorK03
set_option linter.unusedVariables false
set_option linter.unusedSimpArgs false
set_option maxHeartbeats 12800000
set_option maxRecDepth 20000
namespace Go.Proofs.YtckhoadldibflaaGreatDoor
open Go Go.Aw
theorem node_ok (b:Nat)(t:Syn):∀p,Cb t p=0->It t->0<=t.kind->t.kind<=18->t.kind≠4->Ic b t:=by
 refine Syn.ind (P:=fun t=>∀p,Cb t p=0->It t->0<=t.kind->t.kind<=18->t.kind≠4->Ic b t) (fun t ih p h hf k0 k18 k4=>?_) t;have hi:=lY h;have hi64 : -9223372036854775808<=t.num/\t.num<=9223372036854775807:=by omega
 obtain ⟨ho,_⟩:=Lr h;obtain ⟨_,hs,_,hfl⟩:=Ls ho
 have kid:∀(j:Nat) a,t.kids[j]? = some a->a.kind≠4->Ic b a:=fun j a ha h4=>by
  obtain ⟨c,k⟩:=Po h ha;have kk:=oT k;exact ih a (An ha) _ c (J1 hf (An ha)) (by omega) kk.2 h4
 have kids:t.kind≠3->∀a∈t.kids,Ic b a:=fun h3 a ha=>by
  obtain ⟨j,hj⟩:=J9.1 ha;refine kid j a hj ?_;obtain ⟨c,k⟩:=Po h hj;unfold G1 at k;rw [if_neg (show ¬(t.kind==3)=true by simpa using h3)] at k
  repeat' split at k
  all_goals first | (have:=Sd k;omega) | (have:=eR k;omega) | (have:=aE k;omega)
 have hr:0<=t.kind/\t.kind<=18:=⟨k0,k18⟩;have hcases:t.kind=0\/t.kind=1\/t.kind=2\/t.kind=3\/t.kind=5\/t.kind=6\/t.kind=7\/t.kind=8\/t.kind=9\/t.kind=10\/t.kind=11\/t.kind=12\/t.kind=13\/t.kind=14\/t.kind=15\/t.kind=16\/t.kind=17\/t.kind=18:=by omega
 intro o v a ha R hb;have e:=D5 t
 have wsn:(t.kids.map Ae == [])=true↔¬0<t.kids.length:=by
  cases hq:t.kids <;> simp
 rcases hcases with hk | hk | hk | hk | hk | hk | hk | hk | hk | hk | hk | hk | hk | hk | hk | hk | hk | hk
 .
  skip
  have e2:Ae t=(t.kids.map Ae).flatten:=by rw [e];unfold D9;rw [hk];rfl
  rw [e2] at hb ⊢;exact If b o v a ha R t _ 207 [] [.ptr [.val (.pointer (some ⟨b,0,none⟩))]] hr (by rw [hk];rfl) (by kernel_rfl) (w_program b o v a ha R t (kids (by omega)) hb)
 .
  skip
  have e2:Ae t = [116,121,112,101,32]++t.text ++ [32,123]++(if 0<t.kids.length then [32]++C6 (t.kids.map Ae) ++ [32] else []) ++ [125,10]:=by
   rw [e];unfold D9;rw [hk];show Mi ++ [32]++t.text ++ [32,123]++(if (t.kids.map Ae == [])=true then [] else [32]++C6 (t.kids.map Ae) ++ [32]) ++ [125,10]=_;by_cases h0:0<t.kids.length
   . rw [if_pos h0,if_neg (fun h=>(wsn.1 h) h0)];simp
   rw [if_neg h0,if_pos (wsn.2 h0)];simp
  rw [e2] at hb ⊢;exact If b o v a ha R t _ 208 [.val (.pointer (some ⟨b,0,none⟩))] [] hr (by rw [hk];rfl) (by kernel_rfl) (w_decl b o v a ha R t (kids (by omega)) hb)
 .
  skip
  have e2:Ae t=t.text++([58,32]:Av)++K4 t.num:=by rw [e];unfold D9;rw [hk];rfl
  rw [e2] at hb ⊢;exact If b o v a ha R t _ 209 [] [.ptr [.val (.pointer (some ⟨b,0,none⟩))]] hr (by rw [hk];rfl) (by kernel_rfl) (w_field b o v a ha R t (jJ hfl hk) hb)
 .
  skip
  obtain ⟨q0,q1,r,hq⟩:∃q0 q1 r,t.kids=q0::q1::r:=by
   unfold Fy at hs;rw [hk] at hs
   replace hs:decide (3<=(t.kids.length:Int))=true:=hs
   simp only [Dp] at hs
   match hq:t.kids with
   | []=>rw [hq] at hs;simp at hs
   | [x]=>rw [hq] at hs;simp at hs
   | x::y::r=>exact ⟨x,y,r,rfl⟩
  have no4:∀(j:Nat) x,1<=j->t.kids[j]? = some x->x.kind≠4:=fun j x hj hx=>by
   obtain ⟨c,k⟩:=Po h hx;unfold G1 at k;rw [hk] at k;have e3:((j:Int)==0)=false:=by simp;omega
   simp only [e3] at k
   replace k:(if ((j:Int)==1)=true then Pl.pats else Pl.exps).at x.kind=true:=k
   split at k
   . have:=aE k;omega
   have:=eR k;omega
  have hq1:Ic b q1:=kid 1 q1 (by rw [hq];rfl) (no4 1 q1 (B6 _) (by rw [hq];rfl))
  have hqr:∀x∈r,Ic b x:=fun x hx=>by
   obtain ⟨j,hj⟩:=J9.1 hx;have hj2:t.kids[j+2]? = some x:=by rw [hq];simpa using hj
   exact kid (j+2) x hj2 (no4 (j+2) x (by omega) hj2)
  have e2:Ae t=([113,117,101,114,121,32]:Av)++t.text++(if !(q0.text == []) then ([32,98,121,32]:Av)++q0.text else [])++([10,109,97,116,99,104,32]:Av)++Ae q1++([10,114,101,116,117,114,110,32]:Av)++C6 (r.map Ae)++([59,10]:Av):=by
   rw [e];unfold D9;rw [hk];show He ++ [32]++t.text++(if ((Cd t 0).text == [])=true then [] else [32]++cR ++ [32]++(Cd t 0).text) ++ [10]++H4 ++ [32]++(t.kids.map Ae).getD 1 [] ++ [10]++Ib ++ [32]++C6 ((t.kids.map Ae).drop 2) ++ [59,10]=_;have k0:Cd t 0=q0:=by unfold Cd;rw [hq];rfl
   rw [k0,hq];show He ++ [32]++t.text++(if (q0.text == [])=true then [] else [32]++cR ++ [32]++q0.text) ++ [10]++H4 ++ [32]++Ae q1 ++ [10]++Ib ++ [32]++C6 (r.map Ae) ++ [59,10]=_;cases hc:(q0.text == [])
   . simp
   simp
  rw [e2] at hb ⊢;exact If b o v a ha R t _ 211 [.val (.pointer (some ⟨b,0,none⟩))] [] hr (by rw [hk];rfl) (by kernel_rfl) (w_query b o v a ha R t q0 q1 r hq hq1 hqr hb)
 .
  skip
  have e2:Ae t=t.text++([32]:Av)++t.name++(if h:0<t.kids.length then ([32,105,102,32]:Av)++Ae t.kids[0] else []):=by
   rw [e];unfold D9;rw [hk];show t.text ++ [32]++t.name++(if (t.kids.map Ae == [])=true then [] else [32]++cG ++ [32]++(t.kids.map Ae).getD 0 [])=_;by_cases h0:0<t.kids.length
   .
    rw [dif_pos h0,if_neg (fun h=>(wsn.1 h) h0)];have:(t.kids.map Ae).getD 0 []=Ae t.kids[0]:=by rw [Ii,List.getElem?_map,List.getElem?_eq_getElem h0];rfl
    rw [this];simp
   rw [dif_neg h0,if_pos (wsn.2 h0)]
  rw [e2] at hb ⊢;exact If b o v a ha R t _ 212 [.val (.pointer (some ⟨b,0,none⟩))] [] hr (by rw [hk];rfl) (by kernel_rfl) (w_event b o v a ha R t (kids (by omega)) hb)
 .
  skip
  have e2:Ae t=Vt++([40]:Av)++C6 (t.kids.map Ae)++(if t.kind==11 then ([44,32]:Av)++Lib.itoa t.num else [])++([41]:Av):=by rw [e];unfold D9;rw [hk];rfl
  rw [e2] at hb ⊢;exact If b o v a ha R t _ 269 [] [.ptr [.val (.pointer (some ⟨b,0,none⟩))],.ptr [.str Vt]] hr (by rw [hk];rfl) (by kernel_rfl) (So b o v a ha R t Vt hi64 (kids (by omega)) hb)
 .
  skip
  have e2:Ae t=Vs++([40]:Av)++C6 (t.kids.map Ae)++(if t.kind==11 then ([44,32]:Av)++Lib.itoa t.num else [])++([41]:Av):=by rw [e];unfold D9;rw [hk];rfl
  rw [e2] at hb ⊢;exact If b o v a ha R t _ 269 [] [.ptr [.val (.pointer (some ⟨b,0,none⟩))],.ptr [.str Vs]] hr (by rw [hk];rfl) (by kernel_rfl) (So b o v a ha R t Vs hi64 (kids (by omega)) hb)
 .
  skip
  have e2:Ae t=Vr++([40]:Av)++C6 (t.kids.map Ae)++(if t.kind==11 then ([44,32]:Av)++Lib.itoa t.num else [])++([41]:Av):=by rw [e];unfold D9;rw [hk];rfl
  rw [e2] at hb ⊢;exact If b o v a ha R t _ 269 [] [.ptr [.val (.pointer (some ⟨b,0,none⟩))],.ptr [.str Vr]] hr (by rw [hk];rfl) (by kernel_rfl) (So b o v a ha R t Vr hi64 (kids (by omega)) hb)
 .
  skip
  have e2:Ae t=Oq++([40]:Av)++C6 (t.kids.map Ae)++(if t.kind==11 then ([44,32]:Av)++Lib.itoa t.num else [])++([41]:Av):=by rw [e];unfold D9;rw [hk];rfl
  rw [e2] at hb ⊢;exact If b o v a ha R t _ 269 [] [.ptr [.val (.pointer (some ⟨b,0,none⟩))],.ptr [.str Oq]] hr (by rw [hk];rfl) (by kernel_rfl) (So b o v a ha R t Oq hi64 (kids (by omega)) hb)
 .
  skip
  have e2:Ae t=Mh++([40]:Av)++C6 (t.kids.map Ae)++(if t.kind==11 then ([44,32]:Av)++Lib.itoa t.num else [])++([41]:Av):=by rw [e];unfold D9;rw [hk];rfl
  rw [e2] at hb ⊢;exact If b o v a ha R t _ 269 [] [.ptr [.val (.pointer (some ⟨b,0,none⟩))],.ptr [.str Mh]] hr (by rw [hk];rfl) (by kernel_rfl) (So b o v a ha R t Mh hi64 (kids (by omega)) hb)
 .
  skip
  have e2:Ae t=I6++([40]:Av)++C6 (t.kids.map Ae)++(if t.kind==11 then ([44,32]:Av)++Lib.itoa t.num else [])++([41]:Av):=by rw [e];unfold D9;rw [hk];rfl
  rw [e2] at hb ⊢;exact If b o v a ha R t _ 269 [] [.ptr [.val (.pointer (some ⟨b,0,none⟩))],.ptr [.str I6]] hr (by rw [hk];rfl) (by kernel_rfl) (So b o v a ha R t I6 hi64 (kids (by omega)) hb)
 .
  skip
  have e2:Ae t=I5++([40]:Av)++C6 (t.kids.map Ae)++(if t.kind==11 then ([44,32]:Av)++Lib.itoa t.num else [])++([41]:Av):=by rw [e];unfold D9;rw [hk];rfl
  rw [e2] at hb ⊢;exact If b o v a ha R t _ 269 [] [.ptr [.val (.pointer (some ⟨b,0,none⟩))],.ptr [.str I5]] hr (by rw [hk];rfl) (by kernel_rfl) (So b o v a ha R t I5 hi64 (kids (by omega)) hb)
 .
  skip
  have e2:Ae t=O0 t:=by rw [e];unfold D9;rw [hk];rfl
  rw [e2] at hb ⊢;exact If b o v a ha R t _ 214 [.val (.pointer (some ⟨b,0,none⟩))] [] hr (by rw [hk];rfl) (by kernel_rfl) (uX b o v a ha R t hi64 (Od hf).1 hb)
 .
  skip
  have e2:Ae t=t.text++([46]:Av)++t.name:=by rw [e];unfold D9;rw [hk];rfl
  rw [e2] at hb ⊢;exact If b o v a ha R t _ 215 [] [.ptr [.val (.pointer (some ⟨b,0,none⟩))]] hr (by rw [hk];rfl) (by kernel_rfl) (w_ref b o v a ha R t hb)
 .
  skip
  have e2:Ae t=([99,111,117,110,116,40]:Av)++t.text++([41]:Av):=by rw [e];unfold D9;rw [hk];rfl
  rw [e2] at hb ⊢;exact If b o v a ha R t _ 216 [] [.ptr [.val (.pointer (some ⟨b,0,none⟩))]] hr (by rw [hk];rfl) (by kernel_rfl) (w_count b o v a ha R t hb)
 .
  skip
  have e2:Ae t=Pm t.num++([40]:Av)++t.text++([46]:Av)++t.name++Ni (t.kids.map Ae)++([41]:Av):=by
   rw [e];unfold D9;rw [hk];show Pm t.num ++ [40]++t.text ++ [46]++t.name++(if (t.kids.map Ae == [])=true then [] else [44,32]++(t.kids.map Ae).getD 0 []) ++ [41]=_;unfold Fy at hs;rw [hk] at hs
   replace hs:(if (t.num==1)=true then ((t.kids.length:Int)==0) else ((t.kids.length:Int)==1))=true:=hs
   have hl:t.kids.length<=1:=by split at hs <;> (simp only [beq_iff_eq] at hs;omega)
   match hq:t.kids with
   | []=>rfl
   | [x]=>simp [Ni]
   | x::y::r=>rw [hq] at hl;simp at hl
  rw [e2] at hb ⊢;exact If b o v a ha R t _ 217 [.val (.pointer (some ⟨b,0,none⟩))] [] hr (by rw [hk];rfl) (by kernel_rfl) (w_total b o v a ha R t (kI hfl hk) (kids (by omega)) hb)
 .
  skip
  unfold Fy at hs;rw [hk] at hs
  replace hs:((t.kids.length:Int)==2)=true:=hs
  obtain ⟨x0,x1,hq⟩:=oV (by simpa using hs)
  have e2:Ae t=Fw t x0 (Ae x0)++([32]:Av)++H0 t.num++([32]:Av)++Fw t x1 (Ae x1):=by
   rw [e];unfold D9;rw [hk];show Fw t (Cd t 0) ((t.kids.map Ae).getD 0 []) ++ [32]++H0 t.num ++ [32]++Fw t (Cd t 1) ((t.kids.map Ae).getD 1 [])=_;have k0:Cd t 0=x0:=by unfold Cd;rw [hq];rfl
   have k1:Cd t 1=x1:=by unfold Cd;rw [hq];rfl
   rw [k0,k1,hq];rfl
  rw [e2] at hb ⊢;exact If b o v a ha R t _ 218 [.val (.pointer (some ⟨b,0,none⟩))] [] hr (by rw [hk];rfl) (by kernel_rfl) (w_binary b o v a ha R t x0 x1 (by rw [hq];rfl) (by rw [hq];rfl) (by have:=vI hfl hk;omega) (kids (by omega) x0 (by rw [hq];simp)) (kids (by omega) x1 (by rw [hq];simp)) hb)
 skip
 unfold Fy at hs;rw [hk] at hs
 replace hs:((t.kids.length:Int)==1)=true:=hs
 obtain ⟨x0,hq⟩:=fJ (by simpa using hs)
 have e2:Ae t=([110,111,116,32]:Av)++Fw t x0 (Ae x0):=by
  rw [e];unfold D9;rw [hk];show Wz ++ [32]++Fw t (Cd t 0) ((t.kids.map Ae).getD 0 [])=_;have k0:Cd t 0=x0:=by unfold Cd;rw [hq];rfl
  rw [k0,hq];rfl
 rw [e2] at hb ⊢;exact If b o v a ha R t _ 219 [] [.ptr [.val (.pointer (some ⟨b,0,none⟩))]] hr (by rw [hk];rfl) (by kernel_rfl) (w_not b o v a ha R t x0 (by rw [hq];rfl) (kids (by omega) x0 (by rw [hq];simp)) hb)
theorem Kd {t:Syn}{p:Pl}{e:Int}(h:aD p t=e)(he:e≠0):Cb t p=e:=by
 rw [Zk,h,if_pos (by simpa using he)]
theorem eC {t:Syn}{p:Pl}(h:aD p t=0):Cb t p=Ng t 0 (t.kids.drop 0):=by
 rw [Zk,h,if_neg (by decide),Nb]
theorem Ry {t x:Syn}{k:Nat}(h:t.kids[k]? = some x):Ng t k (t.kids.drop k)=if (Cb x (G1 t k) != 0) then Cb x (G1 t k) else Ng t (k+1) (t.kids.drop (k+1)):=by
 obtain ⟨h1,rfl⟩:=List.getElem?_eq_some_iff.1 h;rw [Ou h1,Ng]
theorem bO {t x:Syn}{k:Nat}(h:t.kids[k]? = some x):J3 t.kind (t.kids.drop k)=max (Hp x+(if Gq t.kind x.kind then 1 else 0)) (J3 t.kind (t.kids.drop (k+1))):=by
 obtain ⟨h1,rfl⟩:=List.getElem?_eq_some_iff.1 h;rw [Ou h1,J3]
theorem U5 {t:Syn}(h:It t):Hp t<=40000000:=by
 have h1:=iZ t;have h2:=wT h;omega
theorem w_check (t:Syn)(p:Pl)(hfew:It t):Ak Tryz.prog 147 [.agg (cSyn t),nF p] (.int .i64 (Cb t p)):=by
 revert p hfew
 induction t using Syn.ind
 rename_i t ih;intro p hfew;have hkl:=Yd hfew;have htx:=Od hfew;obtain ⟨f,first,cap,hv,hfn,hP⟩:=pl_fn p;rw [hv];refine Cw 45 Tryz.func147 rfl fun H=>?_
 refine Aa (Qp (Eh Ag) (Qp Ah (Re (AW.block (Aa (Qp (A0 (v:=.fn _ _ _) rfl) (Qp (Qf Ag) (Qp Be (Qp (Pi hfn rfl rfl rfl (hP t.kind)) (Qp E7 (Qp Ao (Ap (fun hc1=>Aa (Qp Ah (Ra (Qr (Iq _) ?_)))) fun hc1=>Aa (Qp (B1 Ag) (Qp (Qc rfl (w_shaped t)) (Qp E7 (Qp Ao (Ap (fun hc2=>Aa (Qp Ah (Ra (Qr (Iq _) ?_)))) fun hc2=>?_)))))))))))))))))
 .
  have h9:Cb t p=1:=Kd (if_pos hc1) (by decide);rw [h9];rfl
 .
  have h9:Cb t p=15:=Kd ((Bl hc1).trans (if_pos hc2)) (by decide);rw [h9];rfl
 refine Aa (Qp (B1 Ag) (Qp (Qc rfl (w_named t htx.1 htx.2)) (Qp E7 (Qp Ao (Ap (fun hc3=>Aa (Qp Ah (Ra (Qr (Iq _) ?_)))) fun hc3=>Rf (Ba (Qp (B1 Ag) (Qp (Qc rfl (w_fields t)) (Qp Ah (B2 (Qp Ai (Qp Bq (Ap (fun hc4=>Aa (Qp Ai (Qp Ah (Rc (Qr (Iq _) ?_))))) fun hc4=>?_)))))))))))))
 .
  have h9:Cb t p=8:=Kd (((Bl hc1).trans (Bl hc2)).trans (if_pos hc3)) (by decide);rw [h9];rfl
 .
  have h9:Cb t p=D8 t:=Kd (((Bl hc1).trans (Bl hc2)).trans (Bl hc3)) (by simpa using hc4);rw [h9];rfl
 have h0:aD p t=0:=by unfold aD;rw [Bl hc1,Bl hc2,Bl hc3];simpa using hc4
 refine A5 (Ba (Qp (Qf Iv) (Qp Cg ?_)));refine Qp (Da t.kids.length rfl rfl (by simp)) ?_;refine Qp Ai (Aq (AW.block ?_));refine AW.Aan (fun (k:Nat)=>(⟨[(2,.ptr (cSyn t)),(29,.sl 6 (t.kids.map C3)),(30,.int .i64 t.kids.length),(31,.int .i64 (k:Int))],H,45⟩:St)) (fun k=>k<=t.kids.length/\Cb t p=Ng t k (t.kids.drop k)) (fun k=>t.kids.length-k) (0) ?_ Bx ?_
 . exact ⟨A3 _,eC h0⟩
 rintro k hR;refine Aa (Qp Bt (Re (E9 (fun hc5=>?_) fun hc5=>?_)))
 .
  obtain ⟨x,hx⟩:=gt2 (l:=t.kids) (k:=k) (by have:=Do hc5;omega);have hlt:=Sz hx;have hm:=An hx;refine A5 (AW.seq (AW.block (Aa (Qp Ai ?_))));refine Qp (Cp Ag rfl rfl (by omega) (C8 hx)) ?_;refine Qp (B1 Ag) (Dx F1 fun b7=>Qp Ah ?_);refine Bw 0 Ag (_::_) ?_;refine Ji 7 0 rfl ?_;refine Re ?_;refine Id ?_;refine Qn 0 rfl (B1 Ag) (Qn 1 rfl (B1 Ag) (Qn 2 rfl Ai ?_));refine Qn 3 rfl (Qc rfl (w_kid t k hlt (by omega))) ?_;refine Qn 4 rfl (Qc rfl (ih x hm (G1 t k) (J1 hfew hm))) (Qn 5 rfl Ah ?_);refine Fs ?_;refine A2 (Aa (Qp Ai (Qp Bq (Ap (fun hc6=>Aa (Qp Ai (Qp Ah (Ra (Au (Cn (Au (Qr (Iq _) ?_)))))))) fun hc6=>Rf (AW.region (Qp Dt (Qp Ai (Aq ?_))))))))
  .
   have h9:Cb t p=Cb x (G1 t k):=by rw [hR.2,Ry hx,if_pos hc6]
   rw [h9];rfl
  refine ⟨k+1,?_,?_,Bx⟩
  . exact ⟨hlt,by rw [hR.2,Ry hx,Bl hc6]⟩
  omega
 have hk:t.kids.length<=k:=by have:=Di hc5;omega
 refine AW.exit ?_;refine Bn (Ri (Aa (Qp Ah (Rb ?_))));refine Qr (Iq _) ?_;have h9:Cb t p=0:=by rw [hR.2,L7 hk,Ng]
 rw [h9];rfl
theorem w_depth (t:Syn)(hfew:It t):Ak Tryz.prog 148 [.agg (cSyn t)] (.int .i64 (Hp t:Int)):=by
 revert hfew
 induction t using Syn.ind
 rename_i t ih;intro hfew;have hkl:=Yd hfew;refine Cw 43 Tryz.func148 rfl fun H=>?_
 refine Aa (Qp (Eh Ag) (Qp Ah (B2 (Qp Ah (Aq (Ba (Qp (Qf Iv) (Qp Cg ?_))))))));refine Qp (Da t.kids.length rfl rfl (by simp)) ?_;refine Qp Ai (Aq (AW.block ?_));refine AW.Aan (fun (p:Nat×Nat)=>(⟨[(1,.ptr (cSyn t)),(3,.int .i64 (p.2:Int)),(8,.sl 6 (t.kids.map C3)),(9,.int .i64 t.kids.length),(10,.int .i64 (p.1:Int))],H,43⟩:St)) (fun p=>p.1<=t.kids.length/\J3 t.kind t.kids=max p.2 (J3 t.kind (t.kids.drop p.1))/\p.2<=50000000) (fun p=>t.kids.length-p.1) ((0,0)) ?_ Bx ?_
 . exact ⟨A3 _,by simp,A3 _⟩
 rintro p hR;refine Aa (Qp Bt (Re (E9 (fun hc1=>?_) fun hc1=>?_)))
 .
  obtain ⟨x,hx⟩:=gt2 (l:=t.kids) (k:=p.1) (by have:=Do hc1;omega);have hlt:=Sz hx;have hm:=An hx;have hdx:=U5 (J1 hfew hm);have hd2:=bO hx;refine A5 (AW.seq (AW.block (Aa ?_)));refine Qp (Cp Ag rfl rfl (by omega) (C8 hx)) ?_;refine Qp (B1 Ag) (Dx F1 fun b5=>?_);refine Bw 0 Ag (_::_) ?_;refine Ji 5 0 rfl ?_;refine B2 (Qp (B1 Ag) (Qp (Qc rfl (ih x hm (J1 hfew hm))) (Qp Ah (Aq (Ba (Qp (Qf Ag) (Qp Be (Qp (Qf Ag) (Qp Be (Qp (Qc rfl (rT t.kind x.kind)) (Ap (fun hc2=>?_) fun hc2=>?_)))))))))))
  .
   rw [if_pos hc2] at hd2;refine AW.region (Qp Ai (Qp Dt (Qp Ah (Aq (AW.region (Qp Ai (Qp Ai (Qp (bD rfl rfl) (Qp Ah (Rk (AW.region (Qp Dt (Qp Ai (Aq ?_))))))))))))));refine ⟨(p.1+1,max p.2 (Hp x+1)),?_,?_,GS.weaken ⟨rfl,congrArg (AV.int .i64) (by simp only;omega),rfl,rfl,rfl,trivial⟩ (.refl _)⟩
   . exact ⟨hlt,by simp only;omega,by simp only;omega⟩
   simp only;omega
  rw [Bl hc2] at hd2;refine A5 (AW.region (Qp Ai (Qp Ai (Qp (bD rfl rfl) (Qp Ah (Rk (AW.region (Qp Dt (Qp Ai (Aq ?_))))))))));refine ⟨(p.1+1,max p.2 (Hp x)),?_,?_,GS.weaken ⟨rfl,congrArg (AV.int .i64) (by simp only;omega),rfl,rfl,rfl,trivial⟩ (.refl _)⟩
  . exact ⟨hlt,by simp only;omega,by simp only;omega⟩
  simp only;omega
 have hk:t.kids.length<=p.1:=by have:=Di hc1;omega
 have he:=hR.2.1;rw [L7 hk,J3] at he;have hfd:=U5 hfew;have hde:=iY t;refine AW.exit ?_;refine Bn (Ri (Ba (Qp (Qf Ag) (Qp Be (Qp Aj (Qp A8 ?_))))));refine Qg [] Qw (Qf Ag) (Qg [(31,_)] Qw Be (Qg [(32,_)] Qw (Qc rfl (w_pats t.kind)) ?_));refine Qg [(33,_)] Qw A8 (Qg [] Qw (Qf Ag) (Qg [(35,_)] Qw Be (Qg [(36,_)] Qw Bq (Qg [(34,_),(37,_)] Qw Ej (Qp Cr (Ap (fun hc3=>AW.region (Qp Ai (Qp Dt (Qp Ah (B2 (Qp Ai (Qp Ah (Rb (Qr (Iq _) ?_))))))))) fun hc3=>A5 (Aa (Qp Ai (Qp Ah (Rb (Qr (Iq _) ?_)))))))))))
 .
  have h9:Hp t=p.2+1:=by rw [hde,if_pos hc3];omega
  rw [h9];rfl
 have h9:Hp t=p.2:=by rw [hde,Bl hc3];omega
 rw [h9];rfl
def Pl.fine (p:Pl):Prop:=∀k,p.at k=true->0<=k/\k<=18/\k≠4
theorem X2:Pl.fine (.only 0):=fun k h=>by have:=Sd h;omega
theorem bR:Pl.fine (.only 3):=fun k h=>by have:=Sd h;omega
theorem kL (t:Syn)(p:Pl)(hfew:It t)(hp:p.fine):Ak Tryz.prog 87 [.agg (cSyn t),nF p] (.tuple [.str (B0 t p).1,.int .i64 (B0 t p).2]):=by
 obtain ⟨f,first,cap,hv,hfn,hP⟩:=pl_fn p;have hck:=w_check t p hfew;rw [hv] at hck ⊢;refine Cw 30 Tryz.func87 rfl fun H=>?_
 refine Aa (Qp (Eh Ag) (Qp Dj (Qp Ah (Aq (Ba (Qp (B1 Ag) (Qp (A0 (v:=.fn _ _ _) rfl) (Qp (Qc rfl (hck)) (Qp Ah (B2 (Qp Ai (Qp Bq (Ap (fun hc1=>Aa (Qp Ai (Qp Dj (Qp Ah (Rc (Ku (.str _) (Iq _) ?_)))))) fun hc1=>?_)))))))))))))
 .
  have h9:B0 t p=([],Cb t p):=if_pos hc1;rw [h9];rfl
 have h0:Cb t p=0:=by simpa using hc1
 have hkd:=hp _ (Ls (Lr h0).1).1;have hwl:=dE h0 hfew;refine A5 (Ba (Qp (B1 Ag) (Qp (Qc rfl (w_depth t hfew)) (Qp De (Ap (fun hc2=>Aa (Qp Dj (Qp Ah (Rc (Ku (.str _) (Iq _) ?_))))) fun hc2=>A5 (Aa (Qe (Dr rfl (w_new _)) ?_)))))))
 .
  have h9:B0 t p=([],12):=(Bl hc1).trans (if_pos hc2);rw [h9];rfl
 rintro _ _ ⟨b17,rfl,rfl⟩;refine Qp Qh (B2 (Qp Ce (Qp (B1 Ag) ?_)));refine Qe (Dr rfl (node_ok b17 t p h0 hfew hkd.1 hkd.2.1 hkd.2.2 [] _ _ (.inl rfl) _ (by show 0+(Ae t).length<=iT;unfold iT;omega))) ?_;rintro _ _ ⟨v20,a20,rfl,ha20,rfl⟩;refine Aq (Ba (Qp Ce (Qp (Af rfl) (Qp Co (sH (k_blen b17 216 _ _ _ _ _) (Qp De (Ap (fun hc3=>Aa (Qp Dj (Qp Ah (Rc ?_)))) fun hc3=>A5 (Aa (Qp Ce (Qp (Af rfl) (Qp Co (sH (k_string b17 216 _ _ _ _ _) (Qp Dj (Qp Ah (Rb ?_)))))))))))))))
 .
  refine Yx E4 Zf S2 ?_;have h9:B0 t p=([],13):=((Bl hc1).trans (Bl hc2)).trans (if_pos hc3);rw [h9];rfl
 refine Yx E4 Zf S2 ?_;have h9:B0 t p=(Ae t,0):=((Bl hc1).trans (Bl hc2)).trans (Bl hc3);rw [h9];rfl
theorem m_Format (t:Syn)(hfew:It t):Ak Tryz.prog 36 [.agg (cSyn t)] (.tuple [.str (B0 t (.only 0)).1,.int .i64 (B0 t (.only 0)).2]):=by
 refine Cw 9 Tryz.func36 rfl fun H=>?_
 refine Aa (Qp (Eh Ag) (Qp Dj (Qp Ah (Re ?_))));refine Id ?_;refine Qn 0 rfl (B1 Ag) (Qn 1 rfl (Qc rfl (Uh _)) (Qn 2 rfl (Qc rfl (kL t (.only 0) hfew X2)) (Qn 3 rfl kT (Qn 4 rfl Km (Qn 5 rfl Dj (Qn 6 rfl Ah ?_))))));refine Fs ?_;refine A2 (AW.ret (Ku (.str _) (Iq _) ?_));rfl
theorem wS (t:Syn)(hfew:It t):Ak Tryz.prog 45 [.agg (cSyn t)] (.tuple [.str (B0 t (.only 3)).1,.int .i64 (B0 t (.only 3)).2]):=by
 refine Cw 9 Tryz.func45 rfl fun H=>?_
 refine Aa (Qp (Eh Ag) (Qp Dj (Qp Ah (Re ?_))));refine Id ?_;refine Qn 0 rfl (B1 Ag) (Qn 1 rfl (Qc rfl (Uh _)) (Qn 2 rfl (Qc rfl (kL t (.only 3) hfew bR)) (Qn 3 rfl kT (Qn 4 rfl Km (Qn 5 rfl Dj (Qn 6 rfl Ah ?_))))));refine Fs ?_;refine A2 (AW.ret (Ku (.str _) (Iq _) ?_));rfl
theorem rf_Check (t:Syn)(ht:It t):Ak Tryz.prog 58 [.agg (cSyn t)] (.int .i64 (B0 t (.only 0)).2):=by
 refine Cw 11 Tryz.func58 rfl fun H=>?_
 refine Aa (Qp (Eh Ag) (Qp Ah (B2 (Qp (B1 Ag) (Qp (Qc rfl (m_Format t ht)) (Qp Ml (Qp kT (Qp Km (Qp Dj (Qp Ah (B2 (Qp Ai (Qp Ah (Rb (Qr (Iq _) ?_)))))))))))))));rfl
abbrev Za (q:Qy×Int×Int):AV:=AV.tuple [.agg (cQy q.1),.int .i64 q.2.1,.int .i64 q.2.2]
theorem rf_Query (T:List e8Sc)(hl:T.length<=1048576)(hs:∀s∈T,Ly s)(t:Syn)(ht:Vp t):Ak Tryz.prog 14 [.sl 2 (T.map Js),.agg (cSyn t)] (.tuple [.agg (cQy (cL T t).1),.int .i64 (cL T t).2.1,.int .i64 (cL T t).2.2]):=by
 refine Cw 37 Tryz.func14 rfl fun H=>?_
 refine Aa (Qp (Eh Ag) (Dx gkx fun b4=>Qp Ah (Qp Ah (Aq (Ba (Qp Ez (Qp (Qc rfl (e8c57 T hl hs)) (Qp Ah (B2 (Qp Ai (Qp Bq (Ap (fun hc1=>Aa (Qp (D0 Hw) (Qp Ai ?_))) fun hc1=>?_))))))))))))
 .
  refine Bw 0 Hw (_::_) (Qp Ah (Qp Ah (Rc ?_)));refine Yx [.agg Hw,Iq _,Iq _] (Zd 0) S1 ?_;exact Ye Za (qp_1 T t hc1)
 refine A5 (Ba (Qp (B1 Ag) (Qp (Qc rfl (wS t (tM ht))) (Qp Ml (Qp kT (Qp Km (Qp Dj (Qp Ah (B2 (Qp Ai (Qp Bq (Ap (fun hc2=>Aa (Qp (D0 Hw) ?_)) fun hc2=>A5 (Aa (Qp Ez (Qp (B1 Ag) (Qp (Qc rfl (rf_query T (dT hc1) t ⟨ht,wr_check hc2⟩)) (Qp Ml (Qp (Cq (v:=.agg Hw) rfl rfl) (Qp (Cq (v:=.agg Jt) rfl rfl) (Dx gkx fun b10=>Dx oO fun b11=>?_))))))))))))))))))))
 .
  refine Bw 0 Hw (_::_) (Qp Ah (Qp Ah (Rc ?_)));refine Yx [.agg Hw,Iq _,Iq _] (Zd 0) S1 ?_;exact Ye Za (qp_2 T t hc1 hc2)
 refine Bw 1 Hw (_::_::_::_) ?_;refine Bw 0 Jt (_::_::_::_) ?_;refine Ji 11 0 rfl ?_;refine Ji 10 0 rfl ?_;refine Re ?_;refine Id ?_;refine Qn 0 rfl (B1 Hw) (Qn 1 rfl (Qf Jt) (Qn 2 rfl Be (Qn 3 rfl (Qf [Iq _]) (Qn 4 rfl Be ?_))));refine Ma 5 rfl (Hx 0 (.agg _) Hw (_::_) rfl) ?_;refine Qn 6 rfl Ah (Qn 7 rfl Ah ?_);refine Fs ?_;refine A2 (AW.ret ?_);refine Yx [.agg Hw,Iq _,Iq _] (Zd 0) S1 ?_;exact Ye Za (qp_3 T t hc1 hc2)
theorem siL_on {l m:List Int}{k:Nat}{x y:Int}(hx:l[k]? = some x)(hy:m[k]? = some y)(h:(x != y)=false):siL (l.drop k) (m.drop k)=siL (l.drop (k+1)) (m.drop (k+1)):=by
 rw [Bd hx,Bd hy,siL];exact Bl h
theorem siL_no {l m:List Int}{k:Nat}{x y:Int}(hx:l[k]? = some x)(hy:m[k]? = some y)(h:(x != y)=true):siL (l.drop k) (m.drop k)=false:=by
 rw [Bd hx,Bd hy,siL];exact if_pos h
theorem all_snoc {α:Type}{l:List α}{k:Nat}{a:α}{p:α->Bool}(h:(l.take k).all p=true)(ha:l[k]? = some a)(hp:p a=true):(l.take (k+1)).all p=true:=by
 rw [List.take_add_one,ha];simp [h,hp]
theorem all_no {α:Type}{l:List α}{k:Nat}{a:α}{p:α->Bool}(ha:l[k]? = some a)(hp:p a=false):l.all p=false:=by
 rw [nD];intro h;rw [E3.1 h a (An ha)] at hp;cases hp
theorem map_at2 {l:List Pt}{k:Nat}{a:Pt}(h:l[k]? = some a):(l.map Jd)[k]? = some (cPt a):=Jz h
theorem prp_no {l:List Pt}{k:Nat}{a:Pt}(h:l[k]? = some a)(hp:decide (8<=a.op)=true):qC l=false:=by
 unfold qC;rw [show l.any (fun q=>decide (8<=q.op))=true from List.any_eq_true.2 ⟨a,An h,hp⟩];rfl
theorem n9_tot (L:Nat)(p:Pt)(hp:Gy p<=1048576):Ak Tryz.prog 111 [.agg (cPt p),.int .i64 (L:Int)] (.int .i64 (O2 L p:Nat)):=by
 induction p using Pt.ind
 rename_i p ih;have hal:=M8 p;refine Cw 29 Tryz.func111 rfl fun H=>?_
 refine Aa (Qp (Eh Cy) (Qp Ah (B2 (Qp Ah (Aq (Ba (Qp Ah (Aq (AW.block ?_)))))))));refine AW.Aan (fun (q:Nat×Nat)=>(⟨[(1,.int .i64 (L:Int)),(2,.ptr (cPt p)),(5,.int .i64 (q.2:Int)),(6,.int .i64 (q.1:Int))],H,29⟩:St)) (fun q=>q.1<=p.args.length/\O2 L p=Mx L (p.args.drop q.1) q.2/\q.2+((p.args.drop q.1).map Gy).sum<=Gy p) (fun q=>p.args.length-q.1) ((0,1)) ?_ Bx ?_
 . exact ⟨A3 _,yA L p,by rw [Nb,J5];omega⟩
 rintro q hR;refine Ba (Qp Ai (Qp (Qf bS) (Qp Cg ?_)));refine Qp (Da p.args.length rfl rfl (by simp)) ?_;refine Qp Bt (Qp A8 (Qg [] Qw Ai (Qg [] Qw Ai (Qg [(13,_),(14,_)] Yw Mk (Qp Ej (Ap (fun hc1=>?_) fun hc1=>AW.exit ?_))))))
 .
  simp only [Cz] at hc1;obtain ⟨a,ha⟩:=B3 hc1.1;have hlt:=Bf ha;have hm:=An ha;have hsa:=K6 hm;have hle:q.2<=L:=by have:=Do hc1.2;omega
  have h1:=qH q.2 ha;have h2:=rN L a;have h3:=hR.2.1;rw [Bd ha,Mx,if_pos hle] at h3;have h4:=hR.2.2;refine A5 (AW.seq (AW.block (AW.region (Qp Ai (Qp (Qf bS) (Qp Cg (Qp Ai ?_)))))));refine Qp (Cp Cy rfl rfl (by omega) (Jz ha)) ?_;refine Qp (B1 Cy) (Qp Ai ?_);refine Qp (Qc rfl (ih a hm (by omega))) ?_;refine Qp Dt (Qp Ah (Rk (AW.region (Qp Ai (Qp Dt (Qp Ah (Aq ?_)))))));refine ⟨(q.1+1,q.2+O2 L a),?_,?_,Bx⟩
  . exact ⟨hlt,h3,by simp only;omega⟩
  simp only;omega
 refine Bn (Ri (Aa (Qp Ai (Qp Ah (Rb ?_)))));refine Qr (Iq _) ?_
 have hx:q.2=O2 L p:=by
  rw [hR.2.1];simp only [Bool.and_eq_false_iff] at hc1;rcases hc1 with hc1 | hc1
  . rw [Ek hc1,Mx]
  exact (uS (by have:=Di hc1;omega)).symm
 exact Eq.trans rfl (congrArg (fun q:Nat=>AV.int .i64 (q:Int)) hx)
theorem n9_dep (p:Pt)(hp:Gy p<=1048576):Ak Tryz.prog 112 [.agg (cPt p)] (.int .i64 (eI p:Nat)):=by
 induction p using Pt.ind
 rename_i p ih;have hal:=M8 p;refine Cw 22 Tryz.func112 rfl fun H=>?_
 refine Aa (Qp (Eh Cy) (Qp Ah (B2 (Qp Ah (Aq (Ba (Qp Ah (Aq (AW.block ?_)))))))));refine AW.Aan (fun (q:Nat×Nat)=>(⟨[(1,.ptr (cPt p)),(3,.int .i64 (q.2:Int)),(4,.int .i64 (q.1:Int))],H,22⟩:St)) (fun q=>q.1<=p.args.length/\q.2=Wb (p.args.take q.1)) (fun q=>p.args.length-q.1) ((0,0)) ?_ Bx ?_
 . exact ⟨A3 _,by rw [Ul,Wb]⟩
 rintro q hR;refine Ba (Qp Ai (Qp (Qf bS) (Qp Cg ?_)));refine Qp (Da p.args.length rfl rfl (by simp)) ?_;refine Qp Bt (Ap (fun hc1=>?_) fun hc1=>?_)
 .
  obtain ⟨a,ha⟩:=B3 hc1;have hlt:=Bf ha;have hm:=An ha;have hsa:=K6 hm;refine A5 (AW.seq (AW.block (AW.region (Qp Ai (Qp (Qf bS) (Qp Cg (Qp Ai ?_)))))));refine Qp (Cp Cy rfl rfl (by omega) (Jz ha)) ?_;refine Qp (B1 Cy) ?_;refine Qp (Qc rfl (ih a hm (by omega))) ?_;refine Qp (bD rfl rfl) (Qp Ah (Rk (AW.region (Qp Ai (Qp Dt (Qp Ah (Aq ?_)))))));refine ⟨(q.1+1,max q.2 (eI a)),?_,?_,GS.weaken ⟨rfl,congrArg (AV.int .i64) (pG q.2 (eI a)),rfl,trivial⟩ (.refl _)⟩
  . exact ⟨hlt,by simp only;rw [Cf ha,Zp,hR.2]⟩
  simp only;omega
 have hte:=B9 hc1;have hde:=hR.2;rw [hte] at hde;refine AW.exit ?_;refine Bn (Ri (Aa (Qp Ai ?_)));refine Qp (vD rfl rfl rfl (by have:=dp_le p;rw [eJ,<-hde] at this;constructor <;> omega)) ?_;refine Qp Ah (Rb (Qr (Iq _) ?_));exact Eq.trans rfl (congrArg (fun q:Nat=>AV.int .i64 (q:Int)) (show q.2+1=eI p by rw [eJ,hde]))
theorem Z7 (p:Pt)(hp:Gy p<=1048576):Ak Tryz.prog 53 [.agg (cPt p)] (.sl 14 ((Dd p).map Jd)):=by
 induction p using Pt.ind
 rename_i p ih;have hal:=M8 p;refine Cw 23 Tryz.func53 rfl fun H=>?_
 refine Aa (Qp (Eh Cy) (Qp (Cm (z:=14) rfl) (B2 (Qp (B1 Cy) (Qe (D7 (es:=[Cy]) tok rfl rfl rfl rfl rfl rfl rfl rfl rfl) ?_)))));rintro _ _ ⟨v6,rfl,rfl⟩;refine Qp (Bb (v:=.row _ _ _) rfl) (Aq (Ba (Qp Ah (Aq (AW.block ?_)))));refine AW.Aan (fun (q:Nat×List (List AV)×Value)=>(⟨[(1,.ptr (cPt p)),(3,.row q.2.2 14 q.2.1),(4,.int .i64 (q.1:Int))],.row q.2.2 q.2.1.length 38 14::H,23⟩:St)) (fun q=>q.1<=p.args.length/\q.2.1=(p::(p.args.take q.1).flatMap Dd).map Jd/\q.2.1.length=1+((p.args.take q.1).map Gy).sum) (fun q=>p.args.length-q.1) ((0,[cPt p],v6)) ?_ Bx ?_
 . exact ⟨A3 _,by simp [Uz],rfl⟩
 rintro q hR;refine Ba (Qp Ai (Qp (Qf bS) (Qp Cg ?_)));refine Qp (Da p.args.length rfl rfl (by simp)) ?_;refine Qp Bt (Ap (fun hc1=>?_) fun hc1=>?_)
 .
  obtain ⟨a,ha⟩:=B3 hc1;have hlt:=Bf ha;have hm:=An ha;have hsa:=K6 hm;have hsc:∀c∈q.2.1,A7 c=true:=by rw [hR.2.1];exact scPt _
  have hz:=xY (p:=p) ha;have hz2:=hR.2.2;have hz3:=Pq a;refine A5 (AW.seq (AW.block (AW.region (Qp (A0 (v:=.row _ _ _) rfl) (Qp (Qf bS) (Qp Cg (Qp Ai ?_)))))));refine Qp (Cp Cy rfl rfl (by omega) (Jz ha)) ?_;refine Qp (B1 Cy) ?_;refine Qp (Qc rfl (ih a hm (by omega))) ?_;refine Qe (Pk 0 rfl (scPt _) (hsc) (by simp;omega) (by simp [maxLen];omega)) ?_;rintro _ _ ⟨v21,rfl,rfl⟩;refine Qp (Bb (v:=.row _ _ _) rfl) (Rk (AW.region (Qp Ai (Qp Dt (Qp Ah (Aq ?_))))));refine ⟨(q.1+1,q.2.1++(Dd a).map Jd,v21),?_,?_,Bx⟩
  . exact ⟨hlt,by simp only;rw [Cf ha,hR.2.1];simp,by simp only;rw [Cf ha,Ax,hR.2.2];simp;omega⟩
  simp only;omega
 have hte:=B9 hc1;have hde:=hR.2.1;rw [hte] at hde;refine AW.exit ?_;refine Bn (Ri (Aa ?_));refine Qp (A0 (v:=.row _ _ _) rfl) ?_;refine AOL.ghost (GS.unrow 22 rfl) ?_;refine Qp Xk (Rb ?_);refine Yx [.sl _ _] Ze S1 ?_;exact Eq.trans rfl (congrArg (AV.sl 14) (hde.trans (congrArg (List.map Jd) (Oe p).symm)))
theorem fR (p:Pt):Ak Tryz.prog 56 [.agg (cPt p)] (.bool (Ps p)):=by
 refine Cw 11 Tryz.func56 rfl fun H=>?_
 refine Aa (Qp (Eh Cy) (Qp Ao (B2 (Qp (Qf Cy) (Qp Be (Qp Aj (Qp A8 (Qg [] Qw (Qf Cy) (Qg [(7,_)] Qw Be (Qg [(8,_)] Qw Aj (Qp Cr (Qp Ao (Rb (Qr (.bool _) ?_))))))))))))));rfl
theorem Wl (p:Pt):Ak Tryz.prog 57 [.agg (cPt p)] (.bool (O1 p)):=by
 refine Cw 11 Tryz.func57 rfl fun H=>?_
 refine Aa (Qp (Eh Cy) (Qp Ao (B2 (Qp (Qf Cy) (Qp Be (Qp Aj (Qp A8 (Qg [] Qw (Qf Cy) (Qg [(7,_)] Qw Be (Qg [(8,_)] Qw Aj (Qp Cr (Qp Ao (Rb (Qr (.bool _) ?_))))))))))))));rfl
theorem lU (p:Pt):Ak Tryz.prog 55 [.agg (cPt p)] (.bool (My p)):=by
 refine Cw 10 Tryz.func55 rfl fun H=>?_
 refine Aa (Qp (Eh Cy) (Qp Ao (B2 (Qp (Qf Cy) (Qp Be (Qp Aj (Qp A8 (Qg [] Qw (B1 Cy) (Qg [(7,_)] Qw (Qc rfl (fR _)) (Qp Cr (Qp Ao (Rb (Qr (.bool _) ?_)))))))))))));rfl
theorem n9_con (p:Pt):Ak Tryz.prog 184 [.agg (cPt p)] (.bool (sR p)):=by
 refine Cw 10 Tryz.func184 rfl fun H=>?_
 refine Aa (Qp (Eh Cy) (Qp Ao (B2 (Qp (B1 Cy) (Qp (Qc rfl (lU _)) (Qp A8 (Qg [] Qw (Qf Cy) (Qg [(6,_)] Qw Be (Qg [(7,_)] Qw Aj (Qp Cr (Qp Ao (Rb (Qr (.bool _) ?_)))))))))))));rfl
theorem n9_ari (p:Pt)(hl:p.args.length<=1048576):Ak Tryz.prog 183 [.agg (cPt p)] (.bool (Xn p)):=by
 refine Cw 29 Tryz.func183 rfl fun H=>?_
 refine Aa (Qp (Eh Cy) (Qp Ao (Aq (Ba (Qp (Qf Cy) (Qp Be (Aq (AW.block (Aa (Qp Aj (Qp Ao (Ap (fun hc1=>Aa (Qp (Qf bS) (Qp Cg ?_))) fun hc1=>?_))))))))))))
 .
  refine Qp (Da p.args.length rfl rfl (by simp)) ?_;refine Qp Aj (Qp Ao (Ra (Qr (.bool _) ?_)))
  (simp only [Ad,Xn,hc1,I7,Hu,Fz,Hf,↓reduceIte,Al,Bool.or_self];done)
 refine Ba (Qp Aj (Qp Ao (Ap (fun hc2=>A5 (E9 (fun hc3=>Aa (Qp (Qf bS) (Qp Cg ?_))) fun hc3=>Aa (Qp Aj (Qp Ao (Ap (fun hc4=>Aa (Qp (Qf bS) (Qp Cg ?_))) fun hc4=>Rf (Aa (Qp (Qf bS) (Qp Cg ?_)))))))) fun hc2=>?_)))
 .
  refine Qp (Da p.args.length rfl rfl (by simp)) ?_;refine Qp Fc (Qp Ao (Ra (Qr (.bool _) ?_)))
  (simp only [Ad,Xn,hc1,hc2,hc3,I7,Hu,Fz,Hf,↓reduceIte,Al,Bool.or_self];done)
 .
  refine Qp (Da p.args.length rfl rfl (by simp)) ?_;refine Qp Aj (Qp Ao (Ra (Qr (.bool _) ?_)))
  (exfalso;clear hl;simp_all;done)
 .
  refine Qp (Da p.args.length rfl rfl (by simp)) ?_;refine Qp Aj (Qp Ao (Rb (Qr (.bool _) ?_)))
  (exfalso;clear hl;simp_all;done)
 refine Aa (Qp Aj (Qp Ao (Ap (fun hc5=>A5 (E9 (fun hc6=>Aa (Qp (Qf bS) (Qp Cg ?_))) fun hc6=>Aa (Qp Aj (Qp Ao (Ap (fun hc7=>Aa (Qp (Qf bS) (Qp Cg ?_))) fun hc7=>Rf (Aa (Qp (Qf bS) (Qp Cg ?_)))))))) fun hc5=>?_)))
 .
  refine Qp (Da p.args.length rfl rfl (by simp)) ?_;refine Qp Fc (Qp Ao (Ra (Qr (.bool _) ?_)))
  (simp only [Ad,Xn,hc1,hc2,hc5,hc6,I7,Hu,Fz,Hf,↓reduceIte,Al,Bool.or_self];done)
 .
  refine Qp (Da p.args.length rfl rfl (by simp)) ?_;refine Qp Aj (Qp Ao (Ra (Qr (.bool _) ?_)))
  (exfalso;clear hl;simp_all;done)
 .
  refine Qp (Da p.args.length rfl rfl (by simp)) ?_;refine Qp Aj (Qp Ao (Rb (Qr (.bool _) ?_)))
  (exfalso;clear hl;simp_all;done)
 refine AW.region (Qp Aj (Qp Ao (Ap (fun hc8=>Aa (Qp (Qf bS) (Qp Cg ?_))) fun hc8=>Aa (Qp Aj (Qp Ao (Ap (fun hc9=>Aa (Qp (Qf bS) (Qp Cg ?_))) fun hc9=>Rf (Aa (Qp (Qf bS) (Qp Cg ?_)))))))))
 .
  refine Qp (Da p.args.length rfl rfl (by simp)) ?_;refine Qp Fc (Qp Ao (Ra (Qr (.bool _) ?_)))
  (simp only [Ad,Xn,hc1,hc2,hc5,hc8,I7,Hu,Fz,Hf,↓reduceIte,Al,Bool.or_self];done)
 .
  refine Qp (Da p.args.length rfl rfl (by simp)) ?_;refine Qp Aj (Qp Ao (Ra (Qr (.bool _) ?_)))
  (simp only [Ad,Xn,hc1,hc2,hc5,hc8,hc9,I7,Hu,Fz,Hf,↓reduceIte,Al,Bool.or_self];done)
 refine Qp (Da p.args.length rfl rfl (by simp)) ?_;refine Qp Aj (Qp Ao (Rb (Qr (.bool _) ?_)))
 (simp only [Ad,Xn,hc1,hc2,hc5,hc8,hc9,I7,Hu,Fz,Hf,↓reduceIte,Al,Bool.or_self];done)
theorem lT (u:Bool)(n m:Int):Ak Tryz.prog 185 [.bool u,.int .i64 n,.int .i64 m] (.bool (sL u n m)):=by
 refine Cw 17 Tryz.func185 rfl fun H=>?_
 refine Aa (Qp Ao (B2 (Qp A8 (Qp A8 (Qg [] Qw Ai (Qg [(9,_)] Qw Bt (Qg [(10,_)] Qw A8 (Qg [] Qw Ai (Qg [] Qw Ai (Qg [(12,_),(13,_)] Yw De (Qg [(11,_),(14,_)] Qw Cr (Qp Ej (Qp Ao (Rb (Qr (.bool _) ?_)))))))))))))));rfl
theorem n9_node (p:Pt)(hc:Bz p.cond<=1048576)(hl:p.args.length<=1048576):Ak Tryz.prog 113 [.agg (cPt p)] (.int .i64 (ndR p)):=by
 refine Cw 100 Tryz.func113 rfl fun H=>?_
 refine Aa (Qp (Eh Cy) (Qp Ah (Aq (Ba (Qp (Qf Cy) (Qp Be (Qp Bt (Qp A8 ?_))))))));refine Qg [] Qw (Qf Cy) (Qg [(11,_)] Qw Be (Qg [(12,_)] Qw De (Qp Cr (Ap (fun hc1=>Aa (Qp Ah (Rc (Qr (Iq _) ?_)))) fun hc1=>A5 (Ba (Qp (B1 Cy) (Qp (Qc rfl (n9_ari p hl)) (Qp E7 (Ap (fun hc2=>Aa (Qp Ah (Rc (Qr (Iq _) ?_)))) fun hc2=>A5 (AW.seq ?_))))))))))
 . exact Ye (AV.int .i64) (nd_1 hc1)
 . exact Ye (AV.int .i64) (nd_2 hc1 hc2)
 refine Id ?_;refine Qn 0 rfl (B1 Cy) (Qn 1 rfl (Qc rfl (lU _)) (Qn 2 rfl (B1 Cy) (Qn 3 rfl (Qc rfl (fR _)) (Qn 4 rfl A8 (Qo 5 rfl [] Qw (B1 Cy) (Qo 6 rfl [(23,_)] Qw (Qc rfl (Wl _)) (Qn 7 rfl Cr (Qn 8 rfl (B1 Cy) (Qn 9 rfl (Qc rfl (n9_con _)) (Qn 10 rfl Ao (Qn 11 rfl Ao (Qn 12 rfl Ao ?_))))))))))));refine Fs ?_;refine A2 (AW.seq (AW.seq ?_));refine Id ?_;refine Qn 0 rfl A8 (Qn 1 rfl (Qf giz) (Qn 2 rfl Be (Qn 3 rfl (Qc rfl (lT _ _ _)) (Qn 4 rfl A8 (Qo 5 rfl [] Qw A8 (Qo 6 rfl [] Qw (Qf ghx) (Qo 7 rfl [(34,_)] Qw Be ?_)))))));refine Qo 8 rfl [(33,_),(35,_)] Yw (Qc rfl (lT _ _ _)) (Qn 9 rfl Cr (Qn 10 rfl A8 (Qo 11 rfl [] Qw A8 (Qo 12 rfl [] Qw (Qf gjx) (Qo 13 rfl [(40,_)] Qw Be (Qo 14 rfl [(39,_),(41,_)] Yw (Qc rfl (lT _ _ _)) (Qn 15 rfl Cr (Qn 16 rfl A8 (Qo 17 rfl [] Qw (B1 Cy) (Qo 18 rfl [(45,_)] Qw (Qc rfl (Wl _)) (Qo 19 rfl [] Qw (Qf gky) (Qo 20 rfl [(47,_)] Qw Be (Qo 21 rfl [(46,_),(48,_)] Yw (Qc rfl (lT _ _ _)) (Qn 22 rfl Cr ?_))))))))))))));refine Fs ?_;refine A2 (E9 (fun hc3=>Aa (Qp Ah (Rc (Qr (Iq _) ?_)))) fun hc3=>A5 (Ba (Qp A8 (Ap (fun hc4=>Aa (Qp Pj (Qp Kt ?_))) fun hc4=>A5 (Ba (Qp A8 (Qp E7 (Qp A8 (Qg [] Qw (Qf giz) (Qg [(61,_)] Qw Be (Qg [(62,_)] Qw Bq (Qg [(63,_)] Qw A8 ?_))))))))))))
 . exact Ye (AV.int .i64) (nd_3 hc1 hc2 hc3)
 .
  refine Qp (Qc rfl (e8c25 p.cond hc)) (Qp Ah (B2 (Qp Ai (Qp Bq (Ap (fun hc5=>Aa (Qp Ai (Qp Ah (Rc (Qr (Iq _) ?_))))) fun hc5=>A5 (Ba (Qp A8 (Qp E7 (Qp A8 (Qg [] Qw (Qf giz) (Qg [(61,_)] Qw Be (Qg [(62,_)] Qw Bq (Qg [(63,_)] Qw A8 ?_)))))))))))))
  . exact Ye (AV.int .i64) (nd_4 hc1 hc2 hc3 hc4 hc5)
  refine Qg [] Qw (Qf ghx) (Qg [(65,_)] Qw Be (Qg [(66,_)] Qw Bq (Qg [(64,_),(67,_)] Qw Cr (Qp Ej (Qp A8 (Qg [] Qw A8 (Qg [(71,_)] Qw E7 (Qg [(72,_)] Qw A8 (Qg [] Qw (Qf gjx) ?_)))))))));refine Qg [(74,_)] Qw Be (Qg [(75,_)] Qw Bq (Qg [(73,_),(76,_)] Qw Ej (Qp Cr (Qp A8 (Qg [] Qw (B1 Cy) ?_)))));refine Qg [(80,_)] Qw (Qc rfl (Wl _)) (Qg [(81,_)] Qw E7 (Qg [(82,_)] Qw A8 (Qg [] Qw (Qf gky) (Qg [(84,_)] Qw Be (Qg [(85,_)] Qw Bq (Qg [(83,_),(86,_)] Qw Ej (Qp Cr (Qp A8 (Qg [] Qw A8 (Qg [(90,_)] Qw E7 ?_))))))))));refine Qg [(91,_)] Qw A8 (Qg [] Qw Pj (Qg [(93,_)] Qw Kt (Qg [] Qw (D0 Hh) (Qg [(94,_),(95,_)] Yw (Qc rfl (nY p.cond Zs hc)) (Qg [(96,_)] Qw E7 (Qg [(92,_),(97,_)] Qw Ej (Qp Cr (Ap (fun hc6=>Aa (Qp Ah (Rc (Qr (Iq _) ?_)))) fun hc6=>A5 (Aa (Qp Ah (Rb (Qr (Iq _) ?_))))))))))))
  . exact Ye (AV.int .i64) ((nd_n hc1 hc2 hc3 (by rw [hc5];simp)).trans (if_pos hc6))
  exact Ye (AV.int .i64) ((nd_n hc1 hc2 hc3 (by rw [hc5];simp)).trans (Bl hc6))
 refine Qg [] Qw (Qf ghx) (Qg [(65,_)] Qw Be (Qg [(66,_)] Qw Bq (Qg [(64,_),(67,_)] Qw Cr (Qp Ej (Qp A8 (Qg [] Qw A8 (Qg [(71,_)] Qw E7 (Qg [(72,_)] Qw A8 (Qg [] Qw (Qf gjx) ?_)))))))));refine Qg [(74,_)] Qw Be (Qg [(75,_)] Qw Bq (Qg [(73,_),(76,_)] Qw Ej (Qp Cr (Qp A8 (Qg [] Qw (B1 Cy) ?_)))));refine Qg [(80,_)] Qw (Qc rfl (Wl _)) (Qg [(81,_)] Qw E7 (Qg [(82,_)] Qw A8 (Qg [] Qw (Qf gky) (Qg [(84,_)] Qw Be (Qg [(85,_)] Qw Bq (Qg [(83,_),(86,_)] Qw Ej (Qp Cr (Qp A8 (Qg [] Qw A8 (Qg [(90,_)] Qw E7 ?_))))))))));refine Qg [(91,_)] Qw A8 (Qg [] Qw Pj (Qg [(93,_)] Qw Kt (Qg [] Qw (D0 Hh) (Qg [(94,_),(95,_)] Yw (Qc rfl (nY p.cond Zs hc)) (Qg [(96,_)] Qw E7 (Qg [(92,_),(97,_)] Qw Ej (Qp Cr (Ap (fun hc7=>Aa (Qp Ah (Rc (Qr (Iq _) ?_)))) fun hc7=>A5 (Aa (Qp Ah (Rb (Qr (Iq _) ?_))))))))))))
 . exact Ye (AV.int .i64) ((nd_n hc1 hc2 hc3 (by rw [hc4];rfl)).trans (if_pos hc7))
 exact Ye (AV.int .i64) ((nd_n hc1 hc2 hc3 (by rw [hc4];rfl)).trans (Bl hc7))
theorem n9_rest (p:Pt)(hp:medP p):Ak Tryz.prog 52 [.agg (cPt p)] (.int .i64 (cO p)):=by
 have hnl:(Dd p).length<=1048576:=by rw [Pq];exact hp.n
 refine Cw 28 Tryz.func52 rfl fun H=>?_
 refine Aa (Qp (Eh Cy) (Qp Ah (Aq (Ba (Qp (B1 Cy) ?_)))));refine Qp (Qc rfl (n9_tot 64 p hp.n)) (Qp De (Ap (fun hc1=>Aa (Qp Ah (Rc (Qr (Iq _) ?_)))) fun hc1=>A5 (Ba (Qp (B1 Cy) (Qp (Qc rfl (n9_dep p hp.n)) (Qp De (Ap (fun hc2=>Aa (Qp Ah (Rc (Qr (Iq _) ?_)))) fun hc2=>A5 (Aa (Qp (B1 Cy) (Qp (Qc rfl (Z7 p hp.n)) (Qp Xk (Aq (Ba (Qp Ah (Aq (AW.block ?_))))))))))))))))
 . exact Ye (AV.int .i64) (rr_1 hc1)
 . exact Ye (AV.int .i64) (rr_2 hc1 hc2)
 refine AW.Aan (fun (k:Nat)=>(⟨[(3,.sl 14 ((Dd p).map Jd)),(4,.int .i64 (k:Int))],H,28⟩:St)) (fun k=>k<=(Dd p).length/\((Dd p).take k).any (fun q=>ndR q != 0)=false) (fun k=>(Dd p).length-k) (0) ?_ Bx ?_
 . exact ⟨A3 _,by simp⟩
 rintro k hR;refine Ba (Qp Ai (Qp Ez ?_));refine Qp (Da ((Dd p).length) rfl rfl (by simp)) ?_;refine Qp Bt (Ap (fun hc3=>?_) fun hc3=>?_)
 .
  obtain ⟨a,ha⟩:=B3 hc3;have hlt:=Bf ha;have hm:=An ha;refine A5 (AW.seq (AW.block (Aa (Qp Ez (Qp Ai ?_)))));refine Qp (Cp Cy rfl rfl (by omega) (Vo ha)) ?_;refine Qp (B1 Cy) (Qp (Qc rfl (n9_node a (hp.len a hm).1 (hp.len a hm).2)) (Qp Ah (B2 (Qp Ai (Qp Bq (Ap (fun hc4=>Aa (Qp Ai (Qp Ah (Ra (Au (Cn (Au (Qr (Iq _) ?_)))))))) fun hc4=>Rf (AW.region (Qp Ai (Qp Dt (Qp Ah (Aq ?_)))))))))))
  . exact Ye (AV.int .i64) ((rr_3 hc1 hc2).trans (U2 ha hR.2 hc4))
  refine ⟨k+1,?_,?_,Bx⟩
  . exact ⟨hlt,Hr hR.2 ha hc4⟩
  omega
 have hte:=B9 hc3;have hall:=hR.2;rw [hte] at hall;refine AW.exit ?_;refine Bn (Ri (Aa (Qp Ah (Rb ?_))));refine Qr (Iq _) ?_;exact Ye (AV.int .i64) ((rr_3 hc1 hc2).trans (F9 hall))
theorem n9_prp (l:List Pt)(hl:l.length<=1048576):Ak Tryz.prog 54 [.sl 14 (l.map Jd)] (.bool (qC l)):=by
 refine Cw 16 Tryz.func54 rfl fun H=>?_
 refine Aa (Qp Ao (Aq (Ba (Qp Ah (Aq (AW.block ?_))))));refine AW.Aan (fun (k:Nat)=>(⟨[(0,.sl 14 (l.map Jd)),(3,.int .i64 (k:Int))],H,16⟩:St)) (fun k=>k<=l.length/\(l.take k).any (fun q=>decide (8<=q.op))=false) (fun k=>l.length-k) (0) ?_ Bx ?_
 . exact ⟨A3 _,by simp⟩
 rintro k hR;refine Ba (Qp Ai (Qp Ez ?_));refine Qp (Da l.length rfl rfl (by simp)) ?_;refine Qp Bt (Ap (fun hc1=>?_) fun hc1=>?_)
 .
  obtain ⟨a,ha⟩:=B3 hc1;have hlt:=Bf ha;have hm:=An ha;refine A5 (AW.seq (AW.block (Aa (Qp Ez (Qp Ai ?_)))));refine Qp (Cp Cy rfl rfl (by omega) (map_at2 ha)) ?_;refine Qp (Qf Cy) (Qp Be (Qp Fc (Ap (fun hc2=>Aa (Qp Ao (Ra (Au (Cn (Au (Qr (.bool _) ?_))))))) fun hc2=>Rf (AW.region (Qp Ai (Qp Dt (Qp Ah (Aq ?_))))))))
  . exact Ye AV.bool (prp_no ha hc2)
  refine ⟨k+1,?_,?_,Bx⟩
  . exact ⟨hlt,Hr hR.2 ha hc2⟩
  omega
 have hte:=B9 hc1;have hall:=hR.2;rw [hte] at hall;refine AW.exit ?_;refine Bn (Ri (Aa (Qp Ao (Rb ?_))));refine Qr (.bool _) ?_;exact Eq.trans rfl (congrArg (fun q:Bool=>AV.bool q) ((congrArg not hall:qC l=true))).symm
theorem pL (p:Pt)(hp:medP p):Ak Tryz.prog 18 [.agg (cPt p)] (.int .i64 (kW p)):=by
 have hnl:(Dd p).length<=1048576:=by rw [Pq];exact hp.n
 refine Cw 59 Tryz.func18 rfl fun H=>?_
 refine Aa (Qp (Eh Cy) (Qp Ah (Aq (Ba (Qp (B1 Cy) (Qp (Qc rfl (n9_rest p hp)) (Qp Ah (B2 (Qp Ai (Qp Bq (Ap (fun hc1=>Aa (Qp Ai (Qp Ah (Rc (Qr (Iq _) ?_))))) fun hc1=>?_)))))))))))
 . exact Ye (AV.int .i64) (cr_1 hc1)
 refine A5 (Aa (Qp (B1 Cy) (Qp (Qc rfl (Z7 p hp.n)) (Qp Xk (Aq (Ba (Qp Ez (Qp (Qc rfl (n9_prp (Dd p) hnl)) (Qp E7 (Ap (fun hc2=>Aa (Qp Ah (Rc (Qr (Iq _) ?_)))) fun hc2=>A5 (Aa (Qp Ah (Qp Ah (Aq (Ba (Qp Ah (Aq (AW.block ?_))))))))))))))))))
 . exact Ye (AV.int .i64) (cr_2 hc1 hc2)
 refine AW.Aan (fun (q:Nat×Int×Int)=>(⟨[(4,.sl 14 ((Dd p).map Jd)),(5,.int .i64 q.2.1),(6,.int .i64 q.2.2),(7,.int .i64 (q.1:Int))],H,59⟩:St)) (fun q=>q.1<=(Dd p).length/\dA 0 0 (Dd p)=dA q.2.1 q.2.2 ((Dd p).drop q.1)/\0<=q.2.1/\q.2.1<=q.1/\0<=q.2.2/\q.2.2<=q.1) (fun q=>(Dd p).length-q.1) ((0,0,0)) ?_ Bx ?_
 . exact ⟨A3 _,rfl,I8 _,I8 _,I8 _,I8 _⟩
 rintro q hR;refine Ba (Qp Ai (Qp Ez ?_));refine Qp (Da ((Dd p).length) rfl rfl (by simp)) ?_;refine Qp Bt (Ap (fun hc3=>?_) fun hc3=>?_)
 .
  obtain ⟨a,ha⟩:=B3 hc3;have hlt:=Bf ha;have hm:=An ha;obtain ⟨hb0,hb1,hb2,hb3⟩:=hR.2.2;refine A5 (AW.seq (AW.block (Ba (Qp Ez (Qp Ai ?_)))));refine Qp (Cp Cy rfl rfl (by omega) (Vo ha)) ?_;refine Qp (B1 Cy) (Qp (Qc rfl (lU _)) (Ap (fun hc4=>Ba (Qp Ez (Qp Ai ?_))) fun hc4=>A5 (Aa (Qp Ez (Qp Ai ?_)))))
  .
   refine Qp (Cp Cy rfl rfl (by omega) (Vo ha)) ?_;refine Qp (Qf ghx) (Qp Be (Qp Ai (Qp Bq (Ap (fun hc5=>Aa (Qp Ah (Rc (Au (Rj (Au (Qr (Iq _) ?_))))))) fun hc5=>A5 (AW.region (Qp Ai (Qp Dt (Qp Ah (B2 (Qp Ez (Qp Ai ?_)))))))))))
   . exact Ye (AV.int .i64) ((cr_3 hc1 hc2).trans (hR.2.1.trans (goC_1 ha hc4 hc5)))
   refine Qp (Cp Cy rfl rfl (by omega) (Vo ha)) ?_;refine Qp (B1 Cy) (Qp (Qc rfl (fR _)) (Qp A8 (Qg [] Qw Ez (Qg [] Qw Ai ?_))));refine Yh [(44,_),(45,_)] (Yv rfl Es Es) (fun hG=>Cp Cy rfl rfl (by omega) (Vo ha)) ?_;refine Qg [(46,_)] Qw (B1 Cy) (Qg [(47,_)] Qw (Qc rfl (Wl _)) (Qp Cr (Ap (fun hc6=>Ba (Qp Ez (Qp Ai ?_))) fun hc6=>Rf (AW.region (Qp Ai (Qp Dt (Qp Ah (Aq ?_))))))))
   .
    refine Qp (Cp Cy rfl rfl (by omega) (Vo ha)) ?_;refine Qp (Qf gjx) (Qp Be (Qp Ai (Qp Bq (Ap (fun hc7=>Aa (Qp Ah (Rc (Rj (Au (Qr (Iq _) ?_)))))) fun hc7=>A5 (AW.region (Qp Ai (Qp Dt (Qp Ah (Rk (AW.region (Qp Ai (Qp Dt (Qp Ah (Aq ?_))))))))))))))
    . exact Ye (AV.int .i64) ((cr_3 hc1 hc2).trans (hR.2.1.trans (goC_2 ha (by rw [hc5,Gx]) hc6 hc7)))
    refine ⟨(q.1+1,q.2.1+1,q.2.2+1),?_,?_,Bx⟩
    . exact ⟨hlt,hR.2.1.trans (goC_yy ha hc4 hc5 hc6 hc7),by simp only;omega⟩
    simp only;omega
   refine ⟨(q.1+1,q.2.1+1,q.2.2),?_,?_,Bx⟩
   . exact ⟨hlt,hR.2.1.trans (goC_yn ha hc4 hc5 hc6),by simp only;omega⟩
   simp only;omega
  refine Qp (Cp Cy rfl rfl (by omega) (Vo ha)) ?_;refine Qp (B1 Cy) (Qp (Qc rfl (fR _)) (Qp A8 (Qg [] Qw Ez (Qg [] Qw Ai ?_))));refine Yh [(44,_),(45,_)] (Yv rfl Es Es) (fun hG=>Cp Cy rfl rfl (by omega) (Vo ha)) ?_;refine Qg [(46,_)] Qw (B1 Cy) (Qg [(47,_)] Qw (Qc rfl (Wl _)) (Qp Cr (Ap (fun hc8=>Ba (Qp Ez (Qp Ai ?_))) fun hc8=>Rf (AW.region (Qp Ai (Qp Dt (Qp Ah (Aq ?_))))))))
  .
   refine Qp (Cp Cy rfl rfl (by omega) (Vo ha)) ?_;refine Qp (Qf gjx) (Qp Be (Qp Ai (Qp Bq (Ap (fun hc9=>Aa (Qp Ah (Rc (Rj (Au (Qr (Iq _) ?_)))))) fun hc9=>A5 (AW.region (Qp Ai (Qp Dt (Qp Ah (Rk (AW.region (Qp Ai (Qp Dt (Qp Ah (Aq ?_))))))))))))))
   . exact Ye (AV.int .i64) ((cr_3 hc1 hc2).trans (hR.2.1.trans (goC_2 ha (by rw [hc4];rfl) hc8 hc9)))
   refine ⟨(q.1+1,q.2.1,q.2.2+1),?_,?_,Bx⟩
   . exact ⟨hlt,hR.2.1.trans (goC_ny ha hc4 hc8 hc9),by simp only;omega⟩
   simp only;omega
  refine ⟨(q.1+1,q.2.1,q.2.2),?_,?_,Bx⟩
  . exact ⟨hlt,hR.2.1.trans (goC_nn ha hc4 hc8),by simp only;omega⟩
  simp only;omega
 have hde:=Ek hc3;have hall:=hR.2.1;rw [hde,dA] at hall;refine AW.exit ?_;refine Bn (Ri (Aa (Qp Ah (Rb ?_))));refine Qr (Iq _) ?_;exact Ye (AV.int .i64) ((cr_3 hc1 hc2).trans hall)
theorem pM (x y:List Int)(hx:x.length<=1048576)(hy:y.length<=1048576):Ak Tryz.prog 50 [.sl 1 (x.map cI),.sl 1 (y.map cI)] (.bool (siB x y)):=by
 refine Cw 26 Tryz.func50 rfl fun H=>?_
 refine Aa (Qp Ao (Aq (Ba (Qp Ez ?_))));refine Qp (Da x.length rfl rfl (by simp)) ?_;refine Qp Ez ?_;refine Qp (Da y.length rfl rfl (by simp)) ?_;refine Qp Bq (Ap (fun hc1=>Aa (Qp Ao (Rc (Qr (.bool _) ?_)))) fun hc1=>?_)
 . exact Ye AV.bool ((if_pos hc1:siB x y=false))
 have hlen:x.length=y.length:=by simp at hc1;omega
 refine A5 (Ba (Qp Ah (Aq (AW.block ?_))));refine AW.Aan (fun (k:Nat)=>(⟨[(0,.sl 1 (x.map cI)),(1,.sl 1 (y.map cI)),(5,.int .i64 (k:Int))],H,26⟩:St)) (fun k=>k<=x.length/\siL x y=siL (x.drop k) (y.drop k)) (fun k=>x.length-k) (0) ?_ Bx ?_
 . exact ⟨A3 _,rfl⟩
 rintro k hR;refine Ba (Qp Ai (Qp Ez ?_));refine Qp (Da x.length rfl rfl (by simp)) ?_;refine Qp Bt (Ap (fun hc2=>?_) fun hc2=>?_)
 .
  obtain ⟨a,ha⟩:=B3 hc2;have hlt:=Bf ha;have hm:=An ha;have hay:=List.getElem?_eq_getElem (l:=y) (i:=k) (by omega);generalize y[k]=c at hay;refine A5 (AW.seq (AW.block (AW.seq ?_)));refine Id ?_;refine Qn 0 rfl Ez (Qn 1 rfl Ai ?_);refine Qn 2 rfl (Cp [Iq _] rfl rfl (by omega) (si_get ha)) ?_;refine Qn 3 rfl Be (Qn 4 rfl Ez (Qn 5 rfl Ai ?_));refine Qn 6 rfl (Cp [Iq _] rfl rfl (by omega) (si_get hay)) ?_;refine Qn 7 rfl Be (Qn 8 rfl Bq ?_);refine Fs ?_;refine A2 (E9 (fun hc3=>Aa (Qp Ao (Ra (Au (Cn (Au (Qr (.bool _) ?_))))))) fun hc3=>Rf (AW.region (Qp Ai (Qp Dt (Qp Ah (Aq ?_))))))
  . exact Ye AV.bool (((Bl hc1).trans (hR.2.trans (siL_no ha hay hc3)):siB x y=false))
  refine ⟨k+1,?_,?_,Bx⟩
  . exact ⟨hlt,hR.2.trans (siL_on ha hay hc3)⟩
  omega
 have hde:=Ek hc2;have hall:=hR.2;rw [hde,siL] at hall;refine AW.exit ?_;refine Bn (Ri (Aa (Qp Ao (Rb ?_))));refine Qr (.bool _) ?_;exact Ye AV.bool (((Bl hc1).trans hall:siB x y=true))
theorem n9_Few (p:Pt)(hp:medP p):Ak Tryz.prog 70 [.agg (cPt p)] (.bool (fewP p)):=by
 have hnl:(Dd p).length<=1048576:=by rw [Pq];exact hp.n
 refine Cw 28 Tryz.func70 rfl fun H=>?_
 refine Aa (Qp (Eh Cy) (Qp Ao (Aq (Ba (Qp (B1 Cy) ?_)))));refine Qp (Qc rfl (n9_tot 150 p hp.n)) (Qp De (Qp A8 (Qg [] Qw (B1 Cy) (Qg [(9,_)] Qw (Qc rfl (n9_dep p hp.n)) (Qg [(10,_)] Qw De (Qp Cr (Ap (fun hc1=>Aa (Qp Ao (Rc (Qr (.bool _) ?_)))) fun hc1=>A5 (Aa (Qp (B1 Cy) (Qp (Qc rfl (Z7 p hp.n)) (Qp Xk (Aq (Ba (Qp Ah (Aq (AW.block ?_))))))))))))))))
 . exact Ye AV.bool ((if_pos hc1:fewP p=false))
 refine AW.Aan (fun (k:Nat)=>(⟨[(3,.sl 14 ((Dd p).map Jd)),(4,.int .i64 (k:Int))],H,28⟩:St)) (fun k=>k<=(Dd p).length/\((Dd p).take k).all (fun q=>fewX q.cond)=true) (fun k=>(Dd p).length-k) (0) ?_ Bx ?_
 . exact ⟨A3 _,by simp⟩
 rintro k hR;refine Ba (Qp Ai (Qp Ez ?_));refine Qp (Da ((Dd p).length) rfl rfl (by simp)) ?_;refine Qp Bt (Ap (fun hc2=>?_) fun hc2=>?_)
 .
  obtain ⟨a,ha⟩:=B3 hc2;have hlt:=Bf ha;have hm:=An ha;refine A5 (AW.seq (AW.block (Aa (Qp Ez (Qp Ai ?_)))));refine Qp (Cp Cy rfl rfl (by omega) (Vo ha)) ?_;refine Qp Pj (Qp Kt (Qp (Qc rfl (c34 a.cond (hp.cond a hm))) (Qp E7 (Ap (fun hc3=>Aa (Qp Ao (Ra (Au (Cn (Au (Qr (.bool _) ?_))))))) fun hc3=>Rf (AW.region (Qp Ai (Qp Dt (Qp Ah (Aq ?_)))))))))
  . exact Ye AV.bool (((Bl hc1).trans (all_no ha (by unfold fewX;simpa only [Bool.not_eq_eq_eq_not,Bc] using hc3)):fewP p=false))
  refine ⟨k+1,?_,?_,Bx⟩
  . exact ⟨hlt,all_snoc hR.2 ha (by simpa [fewX] using hc3)⟩
  omega
 have hte:=B9 hc2;have hall:=hR.2;rw [hte] at hall;refine AW.exit ?_;refine Bn (Ri (Aa (Qp Ao (Rb ?_))));refine Qr (.bool _) ?_;exact Ye AV.bool (((Bl hc1).trans hall:fewP p=true))
theorem bP {l:List Ex}{k:Nat}{a:Ex}(h:l[k]? = some a):(l.map F5)[k]? = some (cE a):=by rw [List.getElem?_map,h];exact congrArg some (Ky a)
theorem Pc {V:List Va}{v:Int}(h0:0<=v)(h1:v<(V.length:Int)):V[v.toNat]? = some ((V[v.toNat]?).getD va0):=by
 rw [List.getElem?_eq_getElem (show v.toNat<V.length by omega)];rfl
theorem Yy {T:List e8Sc}{V:List Va}(hrv:RvOK T V){v:Int}(h0:0<=v)(h1:v<(V.length:Int)):0<=((V[v.toNat]?).getD va0).type/\T[((V[v.toNat]?).getD va0).type.toNat]? = some (Xg T V v)/\(Xg T V v).fields.length<=1048576/\Xg T V v∈T:=by
 have h:=hrv.ty _ (An (Pc h0 h1))
 have hs:T[((V[v.toNat]?).getD va0).type.toNat]? = some (Xg T V v):=by
  unfold Xg;rw [List.getElem?_eq_getElem (show ((V[v.toNat]?).getD va0).type.toNat<T.length by omega)];rfl
 exact ⟨h.1,hs,hrv.fl _ (An hs),An hs⟩
theorem oG {T:List e8Sc}{V:List Va}{v f:Int}(h0:0<=f)(h1:f<((Xg T V v).fields.length:Int)):(Xg T V v).fields[f.toNat]? = some (((Xg T V v).fields[f.toNat]?).getD fi0):=by
 rw [List.getElem?_eq_getElem (show f.toNat<(Xg T V v).fields.length by omega)];rfl
theorem fg1 {v f:Int}{n:Nat}(hG:M2 [(((decide (v<0)||decide ((n:Int)<=v))||decide (f<0)),false)]):0<=v/\v<(n:Int)/\0<=f:=by
 have h:((decide (v<0)||decide ((n:Int)<=v))||decide (f<0))=false:=hG _ (L5 ..);simp only [En,Ih] at h;omega
theorem eY {T:List e8Sc}{V:List Va}{v f:Int}(h:Tf T V v f=false):0<=v/\v<(V.length:Int)/\0<=f/\f<((Xg T V v).fields.length:Int):=by
 unfold Tf at h;simp only [En,Ih] at h;omega
theorem vX {T:List e8Sc}{V:List Va}(hrv:RvOK T V)(hsn:∀s∈T,Ly s){v f:Int}(h:Tf T V v f=false):(iB T V v f).length<=1048576:=by
 obtain ⟨h1,h2,h3,h4⟩:=eY h;exact (hsn _ (Yy hrv h1 h2).2.2.2).2.2 _ (An (oG h3 h4))
theorem knm_at {k:Int}(h0:0<=k)(h2:k<=2):([.str [105,110,116],.str [98,111,111,108],.str [115,116,114,105,110,103]]:List AV)[k.toNat]? = some (.str (knm k)):=by
 have:k=0\/k=1\/k=2:=by omega
 rcases this with rfl | rfl | rfl <;> rfl
abbrev iP (q:Av×Bool):AV:=AV.tuple [.str q.1,.bool q.2]
abbrev Us (q:Int×Bool):AV:=AV.tuple [.int .i64 q.1,.bool q.2]
theorem gF (T:List e8Sc)(V:List Va)(hrv:RvOK T V)(v f:Int):Ak Tryz.prog 132 [.agg (cNm T V),.int .i64 v,.int .i64 f] (.tuple [.str (X3 T V v f).1,.bool (X3 T V v f).2]):=by
 have hvl:=hrv.vl;refine Cw 52 Tryz.func132 rfl fun H=>?_
 refine Aa (Qp (Eh [_,_]) (Qp Dj (Qp Ao (Re (AW.seq ?_)))));refine Id ?_;refine Qn 0 rfl Ai (Qn 1 rfl Bt (Qn 2 rfl A8 (Qo 3 rfl [] Qw Ai (Qo 4 rfl [] Qw (Qf [_]) (Qo 5 rfl [(12,_)] Qw Cg ?_)))));refine Yo 6 rfl [(13,_)] Qw (fun hG=>Da V.length rfl rfl (by simp)) ?_;refine Qo 7 rfl [(11,_),(14,_)] Yw Fc (Qn 8 rfl Cr (Qn 9 rfl A8 (Qo 10 rfl [] Qw Ai (Qo 11 rfl [(18,_)] Qw Bt (Qn 12 rfl Cr (Qn 13 rfl A8 (Qo 14 rfl [] Qw Ai (Qo 15 rfl [] Qw (Qf [_,_]) (Qo 16 rfl [(23,_)] Qw Cg (Qo 17 rfl [] Qw (Qf [_]) (Qo 18 rfl [(25,_)] Qw Cg (Qo 19 rfl [] Qw Ai ?_))))))))))));refine Yo 20 rfl [(26,_),(27,_)] (Yv rfl Es Es) (fun hG=>Cp E4 rfl rfl ((fg1 hG).1) (Bp (Pc (fg1 hG).1 (fg1 hG).2.1))) ?_;refine Qo 21 rfl [(28,_)] Qw (Qf [Iq _]) (Qo 22 rfl [(29,_)] Qw Be (Yo 23 rfl [(24,_),(30,_)] (Yv rfl Es Es) (fun hG=>Cp Jl rfl rfl ((Yy hrv (fg1 hG).1 (fg1 hG).2.1).1) (Bp (Yy hrv (fg1 hG).1 (fg1 hG).2.1).2.1)) ?_));refine Qo 24 rfl [(31,_)] Qw (Qf [_]) (Qo 25 rfl [(32,_)] Qw Cg ?_);refine Yo 26 rfl [(33,_)] Qw (fun hG=>Da ((Xg T V v).fields.length) rfl rfl (by simp)) ?_;refine Qo 27 rfl [(22,_),(34,_)] Yw Fc (Qn 28 rfl Cr ?_);refine Fs ?_;refine A2 (E9 (fun hc1=>Aa (Qp Dj (Qp Ao (Rc (Ku (.str _) (.bool _) ?_))))) fun hc1=>?_)
 . exact Ye iP ((if_pos hc1:X3 T V v f=([],false)))
 have hc1n:Tf T V v f=false:=hc1;have hfg:=eY hc1n;have hsi:=Yy hrv hfg.1 hfg.2.1;refine A5 (AW.seq ?_);refine Id ?_;refine Qn 0 rfl (Qf [_,_]) (Qn 1 rfl Cg (Qn 2 rfl (Qf [_]) (Qn 3 rfl Cg (Qn 4 rfl Ai ?_))));refine Qn 5 rfl (Cp E4 rfl rfl (hfg.1) (Bp (Pc hfg.1 hfg.2.1))) (Qn 6 rfl (Qf [Iq _]) (Qn 7 rfl Be (Qn 8 rfl (Cp Jl rfl rfl (hsi.1) (Bp hsi.2.1)) (Qn 9 rfl (Qf [_]) (Qn 10 rfl Cg (Qn 11 rfl Ai ?_))))));refine Qn 12 rfl (Cp E4 rfl rfl (hfg.2.2.1) (Bp (oG hfg.2.2.1 hfg.2.2.2))) (Qn 13 rfl (Qf E4) (Qn 14 rfl Dk (Qn 15 rfl Dj (Qn 16 rfl Ao ?_))));refine Fs ?_;refine A2 (AW.ret (Ku (.str _) (.bool _) ?_));exact Ye iP ((Bl hc1:X3 T V v f=(iB T V v f,true)))
theorem bZ (x:Vl)(h0:0<=x.kind)(h2:x.kind<=2):Ak Tryz.prog 131 [.agg (cV x)] (.agg (cSyn (Ro x))):=by
 refine Cw 15 Tryz.func131 rfl fun H=>?_
 refine Aa (Qp (Eh Mf) (Dx F1 fun b2=>B2 (Qp yN (Qp Be (Qp Qf7 (Qp Dk (Qp (D0 Ag) (Dx F1 fun b3=>?_))))))));refine Bw 0 Ag (_::_::_) (B2 (Qp (dO (l:=[.str _,.str _,.str _]) tok rfl rfl rfl rfl) (Qp Vy (Qp Be ?_))));refine Qp (bB (c:=.str (knm x.kind)) tok rfl rfl rfl rfl rfl rfl rfl (h0) (by omega) (knm_at h0 h2)) ?_;refine Qp Co ?_;refine Bw 0 Ag (_::_::_) (B2 (Nu 0 Ag rfl ?_));refine Bw 1 Ag (_::_::_) (Rb ?_);refine Yx [.agg Ag] (Zb 1) S2 ?_;rfl
theorem use_6 {T:List e8Sc}{V:List Va}{e:Ex}(h:Wc T V e=true):Tj T V e=(6,false):=by rw [mT,if_pos h]
theorem use_n {T:List e8Sc}{V:List Va}{e:Ex}(h:Wc T V e=false):Tj T V e=P0 T V e.args (Qz T V e):=by rw [mT,Bl h]
theorem has_1 {T:List e8Sc}{V:List Va}{e:Ex}(h:((e.op==1)||(e.op==4))=true):Wc T V e=Tf T V e.var e.field/\Qz T V e=Q3 (iB T V e.var e.field):=by unfold Wc Qz;rw [if_pos h,if_pos h];exact ⟨rfl,rfl⟩
theorem has_2 {T:List e8Sc}{V:List Va}{e:Ex}(h:((e.op==1)||(e.op==4))=false)(h2:((e.op==2)||(e.op==3))=true):Wc T V e=decide ((V.length:Int)<=e.var)/\Qz T V e=true:=by unfold Wc Qz;rw [Bl h,Bl h,if_pos h2];exact ⟨rfl,rfl⟩
theorem has_3 {T:List e8Sc}{V:List Va}{e:Ex}(h:((e.op==1)||(e.op==4))=false)(h2:((e.op==2)||(e.op==3))=false):Wc T V e=false/\Qz T V e=true:=by unfold Wc Qz;rw [Bl h,Bl h,Bl h2];exact ⟨rfl,rfl⟩
theorem lG {T:List e8Sc}{V:List Va}{v f:Int}(h:Tf T V v f=false):X3 T V v f=(iB T V v f,true):=Bl h
theorem fldS_2 {T:List e8Sc}{V:List Va}{v f:Int}:(!(X3 T V v f).2)=Tf T V v f:=by
 unfold X3;cases Tf T V v f <;> rfl
theorem yE {T:List e8Sc}{V:List Va}{l:List Ex}{k:Nat}{a:Ex}{b:Bool}(ha:l[k]? = some a)(h:((Tj T V a).1 != 0)=false):P0 T V (l.drop k) b=P0 T V (l.drop (k+1)) (b&&(Tj T V a).2):=by rw [Bd ha,P0,Bl h]
theorem yD {T:List e8Sc}{V:List Va}{l:List Ex}{k:Nat}{a:Ex}{b:Bool}(ha:l[k]? = some a)(h:((Tj T V a).1 != 0)=true):P0 T V (l.drop k) b=((Tj T V a).1,false):=by rw [Bd ha,P0,if_pos h]
theorem e_at {l:List Ex}{k:Nat}{a:Ex}(h:l[k]? = some a):(l.map F5)[k]? = some (cE a):=by rw [List.getElem?_map,h];exact congrArg some (Ky a)
theorem rf_uses (T:List e8Sc)(V:List Va)(hrv:RvOK T V)(hsn:∀s∈T,Ly s)(e:Ex)(hs:Bz e<=1048576):Ak Tryz.prog 128 [.agg (cNm T V),.agg (cE e)] (.tuple [.int .i64 (Tj T V e).1,.bool (Tj T V e).2]):=by
 induction e using Ex.ind
 rename_i e ih;have hal:=Mb e hs;have hvl:=hrv.vl;refine Cw 63 Tryz.func128 rfl fun H=>?_
 refine Aa (Qp (Eh [_,_]) (Qp iM (Qp Ah (Qp Ao (B2 (Qp Ao (Aq ?_)))))));refine AW.Aar (fun (m:Bool)=>(⟨[(2,.ptr (cNm T V)),(3,.ptr (cE e)),(4,.int .i64 0),(5,.bool false),(6,.bool m)],H,63⟩:St)) (fun m=>Wc T V e=false/\m=Qz T V e) ?_ ?_
 .
  refine Aa (Qp Pj (Qp Be (Aq (AW.block ?_))));refine AW.Aar (fun (b:Bool)=>(⟨[(2,.ptr (cNm T V)),(3,.ptr (cE e)),(4,.int .i64 0),(5,.bool false),(6,.bool true),(14,.int .i64 e.op),(15,.bool b)],H,63⟩:St)) (fun b=>b=((e.op==1)||(e.op==4))) ?_ ?_
  .
   refine Aa (Qp Aj (Qp Ao (Ap (fun hc1=>A5 ?_) fun hc1=>AW.region (Qp Aj (Qp Ao (Aq ?_))))))
   .
    refine ⟨(e.op==1),?_,Bx⟩;rw [hc1];rfl
   refine ⟨(e.op==4),?_,Bx⟩;rw [hc1];rfl
  rintro b hb;refine E9 (fun hc2=>Aa (Qp (B1 [_,_]) (Qp bF (Qp Be (Qp kS (Qp Be (Qp (Qc rfl (gF T V hrv e.var e.field)) (Qp Ml (Qp kT (Qp bG (Qp Dj (Qp Ao (Aq (Ba (Qp A8 (Qp E7 (Ap (fun hc3=>?_) fun hc3=>?_))))))))))))))))) fun hc2=>?_
  .
   have h3:Wc T V e=true:=by rw [(has_1 (hb.symm.trans hc2)).1,<-fldS_2];exact hc3
   refine Aa (Qp Ah (Qp Ao (Rc (Cn (Au (Ku (Iq _) (.bool _) ?_))))));exact Ye Us (use_6 h3)
  .
   have h3n:Tf T V e.var e.field=false:=by rw [<-fldS_2];exact hc3
   have hfl:(X3 T V e.var e.field).1.length<=1048576:=by rw [lG h3n];exact vX hrv hsn h3n
   refine A5 (AW.region (Qp D3 (Qp (Qc rfl (c20 (X3 T V e.var e.field).1 hfl)) (Qp Aj (Qp Ao (Rk ?_))))));refine ⟨(F7 (X3 T V e.var e.field).1==0),?_,Bx⟩;subst hc2;exact ⟨(has_1 hb.symm).1.trans h3n,by rw [lG h3n,(has_1 hb.symm).2];rfl⟩
  refine AW.Aar (fun (d:Bool)=>(⟨[(2,.ptr (cNm T V)),(3,.ptr (cE e)),(4,.int .i64 0),(5,.bool false),(6,.bool true),(32,.bool d)],H,63⟩:St)) (fun d=>d=((e.op==2)||(e.op==3))) ?_ ?_
  .
   refine Aa (Qp Aj (Qp Ao (Ap (fun hc4=>A5 ?_) fun hc4=>AW.region (Qp Aj (Qp Ao (Aq ?_))))))
   .
    refine ⟨(e.op==2),?_,Bx⟩;rw [hc4];rfl
   refine ⟨(e.op==3),?_,Bx⟩;rw [hc4];rfl
  rintro d hd;refine E9 (fun hc5=>Aa (Qp bF (Qp Be (Qp (Qf [_]) (Qp Cg ?_))))) fun hc5=>Rf ?_
  .
   refine Qp (Da V.length rfl rfl (by simp)) ?_;refine Qp Fc (Ap (fun hc6=>Aa (Qp Ah (Qp Ao (Ra (Ku (Iq _) (.bool _) ?_))))) fun hc6=>Rf ?_)
   . exact Ye Us (use_6 ((has_2 (by rw [<-hb];exact hc2) (by rw [<-hd];exact hc5)).1.trans hc6))
   refine ⟨true,?_,Bx⟩;subst hc5;rw [hc2] at hb;exact ⟨(has_2 hb.symm hd.symm).1.trans hc6,(has_2 hb.symm hd.symm).2.symm⟩
  refine ⟨true,?_,Bx⟩;rw [hc2] at hb;rw [hc5] at hd;exact ⟨(has_3 hb.symm hd.symm).1,(has_3 hb.symm hd.symm).2.symm⟩
 rintro m hM;have hun:=use_n hM.1;have hmn:=hM.2;refine Ba (Qp Y7 (Qp Cg ?_));refine Qp (Da e.args.length rfl rfl (by simp)) ?_;refine Qp Ai (Aq (AW.block ?_));refine AW.Aan (fun (q:Nat×Bool)=>(⟨[(2,.ptr (cNm T V)),(3,.ptr (cE e)),(4,.int .i64 0),(5,.bool false),(6,.bool q.2),(42,.sl 8 (e.args.map F5)),(43,.int .i64 e.args.length),(44,.int .i64 (q.1:Int))],H,63⟩:St)) (fun q=>q.1<=e.args.length/\Tj T V e=P0 T V (e.args.drop q.1) q.2) (fun q=>e.args.length-q.1) ((0,m)) ?_ Bx ?_
 . exact ⟨A3 _,by rw [hun,<-hmn];rfl⟩
 rintro q hR;refine Aa (Qp Bt (Re (E9 (fun hc7=>?_) fun hc7=>?_)))
 .
  obtain ⟨a,ha⟩:=B3 hc7;have hlt:=Bf ha;have hm:=An ha;refine A5 (AW.seq (AW.block (Aa ?_)));refine Qp (Cp Hh rfl rfl (by omega) (e_at ha)) ?_;refine Qp Kt (Dx yY fun b10=>?_);refine Bw 0 Hh (_::_) ?_;refine Ji 10 0 rfl ?_;refine B2 (Qp (B1 [_,_]) (Qp Kt ?_));refine Qp (Qc rfl (ih a hm (by have:=Gu hm;omega))) ?_;refine Qp Ml (Qp Km (Qp bG (Qp Ah (Qp Ao (Aq (Ba (Qp Ai (Qp Bq ?_))))))));refine Ap (fun hc8=>Aa (Qp Ai (Qp Ah (Qp Ao (Rc (Rj (Au (Ku (Iq _) (.bool _) ?_)))))))) fun hc8=>A5 (AW.region (Qp A8 (Qp A8 (Qg [] Qw A8 (Qp Ej (Qp Ao (Rk (AW.region (Qp Dt (Qp Ai (Aq ?_)))))))))))
  . exact Ye Us (hR.2.trans (yD ha hc8))
  refine ⟨(q.1+1,q.2&&(Tj T V a).2),?_,?_,Bx⟩
  . exact ⟨hlt,hR.2.trans (yE ha hc8)⟩
  simp only;omega
 have hde:=Ek hc7;have hall:=hR.2;rw [hde] at hall;refine AW.exit ?_;refine Bn (Ri (Aa (Qp A8 (Qp Ah (Qp Ao (Rb ?_))))));refine Ku (Iq _) (.bool _) ?_;exact Ye Us ((hall.trans (by rw [P0]):Tj T V e=(0,q.2)))
def Stk (a b:PS):Prop:=Lg a b/\(a.bad≠0->b.bad=a.bad/\b.whr=a.whr)
def Stuck (F:PS->Syn×PS):Prop:=∀st,0<=st.depth->st.depth<=64->Stk st (F st).2
theorem nestP_eq' (read:Syn->PS->Syn×PS)(z:Syn)(st:PS):O8 read z st=if ((Jk st).bad != 0) then (z,Jk st) else ((read z (adv (Jx st))).1,Jf (read z (adv (Jx st))).2):=rfl
def Wn (a:PS):Prop:=(∀t∈a.toks,0<=t.pos/\t.pos<=a.fin)/\0<=a.fin/\0<=a.whr/\a.whr<=a.fin
structure Bo (a b:PS):Prop where
 bad:a.bad≠0->b.bad=a.bad
 fin:b.fin=a.fin
 toks:b.toks=a.toks
 pos:a.pos<=b.pos
 wn:Wn a->Wn b
 dep:sI a->b.depth=a.depth
def Bof (F:PS->Syn×PS):Prop:=∀st,Bo st (F st).2
def RnB (_:PS):Prop:=True
def erT (t:Tok):Tok:=⟨t.kind,t.text,0⟩
def er (st:PS):PS:={ st with toks:=st.toks.map erT,fin:=0,whr:=0 }
mutual
def erS:Syn->Syn
 | ⟨kind,text,name,num,kids,pos⟩=>⟨kind,text,name,num,erSs kids,0⟩
def erSs:List Syn->List Syn
 | []=>[]
 | e::r=>erS e::erSs r
end
theorem bad_er (st:PS):(er st).bad=st.bad:=rfl
theorem depth_er (st:PS):(er st).depth=st.depth:=rfl
theorem pos_er (st:PS):(er st).pos=st.pos:=rfl
theorem adv_er (st:PS):adv (er st)=er (adv st):=rfl
theorem deep_er (st:PS):Jx (er st)=er (Jx st):=rfl
theorem shallow_er (st:PS):Jf (er st)=er (Jf st):=rfl
abbrev er2 (p:Syn×PS):Syn×PS:=(erS p.1,er p.2)
def Er (F:PS->Syn×PS):Prop:=∀st,F (er st)=er2 (F st)
def done2 (r:Syn×PS):Syn×Int:=(erS (Tn r).1,(Tn r).2.2)
structure Cx where
 pre:List Tok
 post:List Tok
 k:Int
 hk:0<=k
 hc:∀c r,post=c::r->c.kind=3
 hpre:pre.map erT=pre
 hpost:post.map erT=post
def emb (x:Cx)(st:PS):PS:=⟨x.pre++(st.toks++x.post),x.pre.length+st.pos,st.fin,st.depth+x.k,st.bad,st.whr⟩
def Cx.no (x:Cx)(w:Av):Prop:=∀c r,x.post=c::r->(c.text==w)=false
structure Ok (d:Int) (st:PS):Prop where
 era:er st=st
 dep:st.depth=d
 inn:st.pos<=st.toks.length
 good:st.bad=0
structure EmR {α:Type} (x:Cx) (d:Int) (p q:α×PS):Prop where
 good:p.2.bad=0->(q.2.bad=12/\0<x.k)\/(Ok d p.2/\q=(p.1,emb x p.2))
 Jx:p.2.bad=12->q.2.bad=12
def EmF (x:Cx)(d:Int)(F G:PS->Syn×PS):Prop:=∀st,Ok d st->EmR x d (F st) (G (emb x st))
variable {x:Cx} {d:Int} {st:PS}
theorem emb_adv:adv (emb x st)=emb x (adv st):=rfl
def Cx.Ex (x:Cx):Prop:=∀c r,x.post=c::r->c.text=Ht\/c.text=Dm
def Cx.Pa (x:Cx):Prop:=∀c r,x.post=c::r->c.text=Ht
section
variable {E E' N N':PS->Syn×PS}
def cmpK (E:PS->Syn×PS)(a:Syn)(s:PS):Syn×PS:=
 if Jj w_lt s then (Nk 7 a (L3 E (adv s)).1 a.pos,(L3 E (adv s)).2)
 else if Jj w_le s then (Nk 8 a (L3 E (adv s)).1 a.pos,(L3 E (adv s)).2)
 else if Jj w_gt s then (Nk 7 (L3 E (adv s)).1 a a.pos,(L3 E (adv s)).2)
 else if Jj w_ge s then (Nk 8 (L3 E (adv s)).1 a a.pos,(L3 E (adv s)).2)
 else if Jj rU s then (Nk 9 a (L3 E (adv s)).1 a.pos,(L3 E (adv s)).2)
 else if Jj yH s then (⟨18,[],[],0,[Nk 9 a (L3 E (adv s)).1 a.pos],a.pos⟩,(L3 E (adv s)).2)
 else (a,s)
theorem cmpP_K (E:PS->Syn×PS)(st:PS):Qm E st=cmpK E (L3 E st).1 (L3 E st).2:=rfl
end
section
variable {E E' T T':PS->Syn×PS}
def patK (E T:PS->Syn×PS)(k:Int)(z:Syn)(s:PS):Syn×PS:=
 ((H1 E T k { z with kids:=[(T (Df Fh s)).1] } (T (Df Fh s)).2).1,Df Ht (H1 E T k { z with kids:=[(T (Df Fh s)).1] } (T (Df Fh s)).2).2)
end
theorem u8_all {p:UInt8->Bool}(h:(List.range 256).all (fun n=>p (UInt8.ofNat n))=true)(c:UInt8):p c=true:=by
 rw [E3] at h;have:=h c.toNat (Lf.2 c.toNat_lt)
 rwa [UInt8.ofNat_toNat] at this
def LRel (i:Nat)(f:Fo)(r:Av×Int×Int):Prop:=
 if f.err=0 then f.tok.kind=2/\0<f.bytes/\r=(f.tok.text,(i:Int)+f.bytes,0) else r.2=((i:Int)+f.pos,f.err)
theorem litGoR_succ {s:Av}{k n i:Nat}{b:Av}:Z5 s k (n+1) i b =
 if decide ((s.length:Int)<=(i:Int)) then (([],(s.length:Int),4):Av×Int×Int)
 else if (((bt s i).toNat:Int)==34) then if decide (64<(b.length:Int)) then ([],(k:Int),13) else (b,(i:Int)+1,0)
 else if mF (bt s i) then Z5 s k n (i+1) (b ++ [bt s i])
 else if (((bt s i).toNat:Int) != 92)||((yX s i).2==0) then ([],(i:Int),4)
 else Z5 s k n (yX s i).2.toNat (b ++ [(yX s i).1]):=rfl
theorem litGo_succ {s:Av}{n i:Nat}{b:Av}:Kh s (n+1) i b =
 if decide ((i:Int)<(s.length:Int)) then
  if (((bt s i).toNat:Int)==34) then
   if decide (64<(b.length:Int)) then Sy 0 13 else sY 2 b ((i:Int)+1)
  else if (((bt s i).toNat:Int)==92) then
   if ((M4 (s.drop i)).2==0) then Sy i 4 else Kh s n (i+(M4 (s.drop i)).2.toNat) (b ++ [(M4 (s.drop i)).1])
  else if (decide (((bt s i).toNat:Int)<32)||decide (126<((bt s i).toNat:Int))) then Sy i 4
  else Kh s n (i+1) (b ++ [bt s i])
 else Sy s.length 4:=rfl
def okSign:Av->Bool
 | [_]=>true
 | [_,b]=>b==61
 | _=>false
def signHit (c:UInt8)(two:Bool):Av->Bool
 | [a]=>a==c
 | [a,_]=>a==c&&two
 | _=>false
def signV (c:UInt8)(two:Bool):Option Av:=rD.find? (signHit c two)
def signN (c:UInt8)(two:Bool):Int:=if sign2 c&&two then 2 else if sign1 c then 1 else 0
def TRel (i:Nat)(f:Fo)(r:Tok×Int×Int):Prop:=
 (f.err=0/\0<f.bytes/\r=(⟨f.tok.kind,f.tok.text,i⟩,(i:Int)+f.bytes,0))\/(f.err≠0/\r.2=((i:Int)+f.pos,f.err))
theorem scanGo_succ {s:Av}{n i:Nat}{out:List Tok}:K8 s (n+1) i out =
 if decide ((i:Int)<(s.length:Int)) then
  if decide (0<Sk (s.drop i)) then K8 s n (i+(Sk (s.drop i)).toNat) out
  else if ((Du (s.drop i)).err != 0) then (([],(i:Int)+(Du (s.drop i)).pos,(Du (s.drop i)).err):List Tok×Int×Int)
  else K8 s n (i+(Du (s.drop i)).bytes.toNat) (out ++ [⟨(Du (s.drop i)).tok.kind,(Du (s.drop i)).tok.text,i⟩])
 else (out,0,0):=rfl
theorem scanGoR_succ {s:Av}{n i:Nat}{c:Bool}{out:List Tok}:Vf s (n+1) i c out =
 if decide ((i:Int)<(s.length:Int)) then
  if ((c||spaceR (bt s i))||(((bt s i).toNat:Int)==35)) then Vf s n (i+1) ((c||(((bt s i).toNat:Int)==35))&&(((bt s i).toNat:Int) != 10)) out
  else if ((Px s i).2.2 != 0) then (([],(Px s i).2.1,(Px s i).2.2):List Tok×Int×Int)
  else Vf s n (Px s i).2.1.toNat false (out ++ [(Px s i).1])
 else (out,0,0):=rfl
theorem Xs (s sub:Av):Lib.contains s sub=true↔∃j,j<=s.length/\Lib.occAt s sub j=true:=by
 unfold Lib.contains;rw [Dp];rcases Lib.index_spec s sub with ⟨h1,h2⟩ | ⟨i,h1,h2,h3,_⟩
 .
  rw [h1]
  constructor
  . intro h;omega
  rintro ⟨j,hj,ho⟩;rw [h2 j hj] at ho;cases ho
 rw [h1];exact ⟨fun _=>⟨i,h2,h3⟩,fun _=>by omega⟩
theorem Xt (s:Av)(c:UInt8):Lib.contains s [c]=true↔c∈s:=by
 rw [Xs]
 constructor
 .
  rintro ⟨j,_,ho⟩;unfold Lib.occAt at ho;rw [List.isPrefixOf_iff_prefix] at ho;obtain ⟨t,ht⟩:=ho;exact List.mem_of_mem_drop (i:=j) (by rw [<-ht];simp)
 intro h;obtain ⟨u,v,rfl⟩:=List.append_of_mem h;refine ⟨u.length,by simp,?_⟩;unfold Lib.occAt;rw [List.drop_left,List.isPrefixOf_iff_prefix];exact ⟨v,rfl⟩
def kwL:List Av:=[[97,108,108],[97,108,116],[97,110,100],[98,111,111,108],[98,121],[99,111,117,110,116],[102,97,108,115,101],[102,105,114,115,116],[105,102],[105,110,116],[108,97,99,107,115],[108,97,115,116],[109,97,116,99,104],[109,97,120],[109,105,110],[110,111,116],[111,114],[112,108,117,115],[113,117,101,114,121],[114,101,116,117,114,110],[115,101,113],[115,116,114,105,110,103],[115,117,109],[116,105,109,101],[116,114,117,101],[116,121,112,101],[119,104,101,114,101],[119,105,116,104,105,110]]
theorem keyR_any (s:Av):iC s=kwL.any (fun w=>s==w):=by
 unfold iC kwL;simp only [Ow,List.any_nil,Hf,Bool.or_assoc]
theorem keyR_mem (s:Av):iC s=true↔s∈kwL:=by
 rw [keyR_any,List.any_eq_true]
 constructor
 .
  rintro ⟨w,hw,he⟩;rw [beq_iff_eq] at he;exact he▸hw
 intro h;exact ⟨s,h,beq_self_eq_true _⟩
theorem qA:∀(s l:Av),32∉s->(s ++ [32]).isPrefixOf l=true->s=l.takeWhile (fun c=>c != 32)/\32∈l
  | [],l,_,h=>by
    cases l with
    | nil=>cases h
    | cons b t=>
      have:(32:UInt8)=b:=by simpa [List.isPrefixOf] using h
      subst this;exact ⟨rfl,by simp⟩
  | c::r,l,hn,h=>by
    cases l with
    | nil=>cases h
    | cons b t=>
      simp only [E2,List.isPrefixOf,Cz,beq_iff_eq] at h;obtain ⟨rfl,h⟩:=h;have hc:(32:UInt8)≠c:=fun e=>hn (by simp [e])
      obtain ⟨i1,i2⟩:=qA r t (fun e=>hn (Jp _ e)) h;have e:(c != 32)=true:=by simpa [bne] using fun e=>hc e.symm
      refine ⟨?_,Jp _ i2⟩;rw [List.takeWhile_cons_of_pos (p:=fun c=>c != 32) e,<-i1]
def kwAt (l:Av):Bool:=match l with
 | []=>true
 | c::r=>if c==32&&r.contains 32 then kwL.contains (r.takeWhile (fun c=>c != 32))||((r.takeWhile (fun c=>c != 32)) == []) else true
theorem kw_all:(List.range 200).all (fun j=>kwAt (fI.drop j))=true:=by kernel_rfl
theorem kw_len:fI.length<=199:=Do (by kernel_rfl)
theorem kw_back:kwL.all (fun w=>Lib.contains fI ([32]++w ++ [32]) && !(w == []) && !(w.contains 32))=true:=by kernel_rfl
theorem key_eq (s:Av):tF s=iC s:=by
  rw [Sq,keyR_mem];unfold tF;simp only [Cz,Bk]
  constructor
  . rintro ⟨⟨h1,h2⟩,h3⟩
    have hn:32∉s:=fun h=>by rw [(Xt s 32).2 h] at h2;cases h2
    obtain ⟨j,hj,ho⟩:=(Xs _ _).1 h3;have hk:=E3.1 kw_all j (Lf.2 (by have:=kw_len;omega));unfold Lib.occAt at ho;generalize fI.drop j=l at ho hk;cases l with
    | nil=>cases ho
    | cons b t=>
      simp only [E2,Fp,List.isPrefixOf,Cz,beq_iff_eq] at ho;obtain ⟨rfl,ho⟩:=ho;obtain ⟨i1,i2⟩:=qA s t hn ho;unfold kwAt at hk;have e:t.contains 32=true:=by simpa using i2
      simp only [e,<-i1] at hk;have e0:((32:UInt8)==32&&true)=true:=rfl;rw [e0,if_pos rfl,h1,Hf] at hk;simpa using hk
  . intro h
    have:=E3.1 kw_back s h;simp only [Cz,Bk] at this;obtain ⟨⟨k1,k2⟩,k3⟩:=this;refine ⟨⟨k2,?_⟩,k1⟩;rw [nD];intro h;rw [Xt] at h;have:s.contains 32=true:=by simpa using h
    rw [this] at k3;cases k3
theorem wH (p:UInt8->Bool):∀s:Av,decide (0<=J4 p s)=s.any p
  | []=>rfl
  | c :: r => by
    have ih:=wH p r;rw [Ow,<-ih,J4];cases p c with
    | true=>rfl
    | false=>
      by_cases h:J4 p r = -1
      . rw [if_neg (by decide),if_pos h,h];rfl
      . rw [if_neg (by decide),if_neg h,Fz]
        refine decide_eq_decide.2 ?_
        have:∀s:Av,-1<=J4 p s:=by
          intro s
          induction s with
          | nil=>exact I8 _
          | cons c r ih=>
            unfold J4;split
            . decide
            . split
              . decide
              omega
        have:=this r;omega
theorem rG (p:UInt8->Bool):∀s:Av,decide (Eo p s=s.length)=s.all p
  | []=>rfl
  | c::r=>by
    have ih:=rG p r;rw [Jr,<-ih,Eo];cases p c with
    | true=>rw [if_pos rfl,Ee,A1];exact decide_eq_decide.2 (by omega)
    | false=>rw [if_neg (by decide),Jq,A1];exact decide_eq_false (by omega)
theorem lR (c:UInt8):(Hq c&&Eb c)=false:=by
 have:=u8_all (p:=fun c=>(Hq c&&Eb c)==false) (by kernel_rfl) c;exact eq_of_beq this
theorem K5 (s:Av):F7 s=Il s:=by
  unfold F7 Il;rw [key_eq,wH];cases s with
  | nil=>rfl
  | cons c r=>
    have hb:bt (c::r) 0=c:=rfl
    have hs:((Eo J0 (c::r):Int) != ((c::r).length:Int))=(c::r).any lX:=by
      have h:=rG J0 (c::r)
      have h2:(c::r).any lX = !((c::r).all J0):=by
        have:lX=fun c=>!(J0 c):=by funext c;unfold lX J0;rw [Bool.not_or]
        rw [this,<-List.not_all_eq_any_not]
      rw [h2,<-h,Sq,bne_iff_ne,Bk,Ih];omega
    rw [hs,hb,Ow];have ho:lX c=(!Hq c && !Eb c):=rfl;rw [ho];have hld:=lR c;generalize iC (c::r)=K;generalize decide (24<((c::r).length:Int))=A;have e0:(c::r == [])=false:=rfl;rw [e0];generalize r.any lX=O;generalize Hq c=L at *;generalize Eb c=D at *
    revert hld
    cases K <;> cases A <;> cases O <;> cases L <;> cases D <;> decide
theorem zY (c:UInt8):Of c=Nr c:=by
 have:=u8_all (p:=fun c=>Of c==Nr c) (by kernel_rfl) c;exact eq_of_beq this
theorem gD:∀s:Av,E5 s=Eu s
 | []=>rfl
 | c::r=>by rw [E5,Eu,zY,gD r]
theorem quote_eq (s:Av):Og s=Wt s:=by unfold Og Wt;rw [gD]
def backB (c:UInt8)(w:Av):Bool:=
 if ((bt w 0).toNat:Int)==92 then (M4 w).2==(w.length:Int)&&(M4 w).1==c else w == [c] && !(((c.toNat:Int)==34)) && !(decide ((c.toNat:Int)<32)||decide (126<(c.toNat:Int)))
def Sepd (w:Av):Prop:=∀c r,w=c::r->J0 c=false/\c≠61
inductive Sc (s:Av):Nat->List Tok->Nat->Prop
 | nil (i:Nat):Sc s i [] i
 | sep {i:Nat} {l:List Tok} {j:Nat} (hi:i<s.length) (h:0<Sk (s.drop i)) (hr:Sc s (i+(Sk (s.drop i)).toNat) l j):Sc s i l j
 | tok {i:Nat} {l:List Tok} {j:Nat} (hi:i<s.length) (h:Sk (s.drop i)=0) (he:(Du (s.drop i)).err=0) (hr:Sc s (i+(Du (s.drop i)).bytes.toNat) l j):Sc s i (⟨(Du (s.drop i)).tok.kind,(Du (s.drop i)).tok.text,i⟩::l) j
def shT (d:Nat)(t:Tok):Tok:=⟨t.kind,t.text,t.pos+(d:Int)⟩
def bw1:Av:=[32]
def bw2:Av:=[9,13,10]
def bw3:Av:=[32,35,32,34,97,40,32,36,10]
def Asc:Int->List Tok->Prop
 | _,[]=>True
 | x,t::r=>x<t.pos/\Asc t.pos r
def OkTok (s:Av)(t:Tok):Prop:=0<=t.pos/\t.pos<(s.length:Int)/\(t.kind=2->bt s t.pos.toNat=34)/\(t.kind≠2->t.text≠[]/\Lib.hasPrefix (s.drop t.pos.toNat) t.text=true)
mutual
def ordS:Syn->Int->Int->Bool
 | ⟨k,t,n,m,ks,p⟩,f,e=>if decide (p<f)||decide (e<p) then false else ordSs ks p e
def ordSs:List Syn->Int->Int->Bool
 | [],_,_=>true
 | a::r,p,e=>if !(ordS a p e) then false else ordSs r p e
end
def OrdT (f e:Int)(t:Syn):Prop:=ordS t f e=true
def offAt (l:List Tok)(e:Int)(n:Nat):Int:=if decide ((n:Int)<(l.length:Int)) then (l.getD n On).pos else e
def Srt (l:List Tok)(e:Int):Prop:=∀n m,n<=m->offAt l e n<=offAt l e m/\offAt l e m<=e
def At (l:List Tok)(e d:Int)(st:PS):Prop:=st.toks=l/\st.fin=e/\st.depth=d/\0<=d/\d<=64
variable {l:List Tok} {e d:Int} {a b st:PS}
def Gdo (l:List Tok)(e:Int)(st:PS)(r:Syn×PS):Prop:=r.2.bad=0->OrdT (D2 st) e r.1/\r.1.pos<=D2 r.2
def OrdF (l:List Tok)(e d:Int)(F:PS->Syn×PS):Prop:=∀st,At l e d st->Gdo l e st (F st)
def M0 (t:Tok):Av:=if (t.kind != 2) then t.text else (Og t.text).1
def M1 (t:Tok)(n:Nat):Prop:=
 (∀rest,Sepd rest->Du (M0 t++rest)=sY t.kind t.text (M0 t).length)/\(∀rest,Sk (M0 t++rest)=0)/\0<(M0 t).length/\(M0 t).length<=4*n/\t.text.length<=n
def wlen (l:List Tok):Nat:=(l.map fun t=>(M0 t).length).sum
abbrev wj (l:List Tok):Av:=Lib.join (l.map M0) [32]
abbrev kt (t:Tok):Int×Av:=(t.kind,t.text)
theorem GS.refl (s:St):GS s s:=fun g a w h=>⟨g,h,Ext.refl g w⟩
theorem AW.ghostPost {P:Program}{c:Code}{Q:Exit->St->Prop}{s:St}(h:AW P c (fun e s=>∃s',GS s s'/\Q e s') s):AW P c Q s:=by
 intro Q' g a w hG hQ;refine h Q' g a w hG fun e g' s' a' w' h1 h2 ⟨s2,h3,h4⟩=>?_
 obtain ⟨g2,k1,k2⟩:=h3 g' a' w' h1;exact hQ e g2 s2 a' w' k1 (h2.trans k2) h4
section
variable {P:Program} {T:List (Nat×TD)} {d:Option Nat} {ty:TypeId} {pos:String} {aft:Array Edge} {gd:Option (Nat×Bool)} {ρ:Operand->AV} {K:List HO->Prop}
theorem L9 {t e z:Nat}{td te:TD}{vs:Array Value}{es:List (List AV)}(hT:Ir P T)(ht:Bu T t=some td)(hk:td.kind = .slice e)(hte:Bu T e=some te)(hz:te.size=z)
    (hb:Nat.ble (1*z) 16777216=true) (hl:Nat.beq vs.toList.length z=true) (hs:A7 (vs.toList.map AV.val)=true) (hp:Nat.blt 0 z=true) (hes:[vs.toList.map AV.val]=es):Dc P ⟨d,.buildSlice t 1 #[(0,.const (.agg vs))],ty,pos,aft,gd⟩ ρ K (.sl z es):=by
  have h:=Xi (d:=d) (ty:=ty) (pos:=pos) (aft:=aft) (gd:=gd) (K:=K) (ρ:=fun _=>.agg (vs.toList.map AV.val)) (parts:=#[(0,.const (.agg vs))]) (n:=1) (es:=es) hT ht hk hte hz rfl hb
    (by simp only [Vn,Cv,B7,Nat.beq_refl,Ee,Cc,hs,hl]) hp (by subst hes;rfl)
  intro g w a H next Q hr hH hK hn
  refine h g w a H next Q (fun y hy=>?_) hH hK hn
  simp only [Op.operands,List.map_toArray,Bj,Ca,List.mem_toArray,Hv] at hy;subst hy;refine .agg vs _ (by simp) (fun i x hi=>?_);rw [List.getElem?_map] at hi;cases hv:vs.toList[i]? with
  | none=>rw [hv] at hi;cases hi
  | some u=>
    rw [hv] at hi;cases hi
    have:vs.getD i undef=u:=by
      rw [D6];have:vs[i]? = some u:=by simpa using hv
      rw [this];rfl
    rw [this];exact .val _
end
end Go.Proofs.YtckhoadldibflaaGreatDoor
