/-
  Several texts in one: W13g, W13h, W13i. No condition.
-/
import Derived.Test.YtckhoadldibflaaGreatDoorK27
import Derived.Test.YtckhoadldibflaaGreatDoorK12
import Derived.KernelRfl
import Derived.Test.YtckhoadldibflaaGreatDoorK01
set_option linter.unusedVariables false
set_option linter.unusedSimpArgs false
namespace Go.Proofs.YtckhoadldibflaaGreatDoor
open Go Go.Aw

theorem sX (b:Nat)(t:Syn):∀p,Bg t p=0→Eg t→0≤t.kind→t.kind≤18→t.kind≠4→Fg b t:=by
 refine Syn.ind (P:=fun t=>∀p,Bg t p=0→Eg t→0≤t.kind→t.kind≤18→t.kind≠4→Fg b t) (fun t ih p h hf k0 k18 k4=>?_) t
 have hi:=Uk h
 have hi64 : -9223372036854775808≤t.num∧t.num≤9223372036854775807:=by omega
 obtain ⟨ho,_⟩:=Hm h
 obtain ⟨_,hs,_,hfl⟩:=Hi ho
 have kid:∀(j:Nat) a,t.kids[j]? = some a→a.kind≠4→Fg b a:=fun j a ha h4=>by
  obtain ⟨c,k⟩:=H1 h ha
  have kk:=Zf k
  exact ih a (List.mem_of_getElem? ha) _ c (Ec hf (List.mem_of_getElem? ha)) (by omega) kk.2 h4
 have kids:t.kind≠3→∀a∈t.kids,Fg b a:=fun h3 a ha=>by
  obtain ⟨j,hj⟩:=List.mem_iff_getElem?.1 ha
  refine kid j a hj ?_
  obtain ⟨c,k⟩:=H1 h hj
  unfold Ee at k
  rw [if_neg (show ¬(t.kind==3)=true by simpa using h3)] at k
  repeat' split at k
  all_goals first | (have:=Ie k;omega) | (have:=S4 k;omega) | (have:=Qx k;omega)
 have hr:0≤t.kind∧t.kind≤18:=⟨k0,k18⟩
 have hcases:t.kind=0∨t.kind=1∨t.kind=2∨t.kind=3∨t.kind=5∨t.kind=6∨t.kind=7∨t.kind=8∨t.kind=9∨t.kind=10∨t.kind=11∨t.kind=12∨t.kind=13∨t.kind=14∨t.kind=15∨t.kind=16∨t.kind=17∨t.kind=18:=by omega
 intro o v a ha R hb
 have e:=Cn t
 have mW:(t.kids.map Ah == [])=true↔¬0<t.kids.length:=by
  cases hq:t.kids <;> simp
 rcases hcases with hk | hk | hk | hk | hk | hk | hk | hk | hk | hk | hk | hk | hk | hk | hk | hk | hk | hk
 ·
  skip
  have e2:Ah t=(t.kids.map Ah).flatten:=by rw [e];unfold Cp;rw [hk];rfl
  rw [e2] at hb ⊢
  exact Fe b o v a ha R t _ 207 [] [.ptr [.val (.pointer (some ⟨b,0,none⟩))]] hr (by rw [hk];rfl) (by kernel_rfl) (gF b o v a ha R t (kids (by omega)) hb)
 ·
  skip
  have e2:Ah t = [116,121,112,101,32]++t.text ++ [32,123]++(if 0<t.kids.length then [32]++B3 (t.kids.map Ah) ++ [32] else []) ++ [125,10]:=by
   rw [e];unfold Cp;rw [hk]
   show I5 ++ [32]++t.text ++ [32,123]++(if (t.kids.map Ah == [])=true then [] else [32]++B3 (t.kids.map Ah) ++ [32]) ++ [125,10]=_
   by_cases h0:0<t.kids.length
   · rw [if_pos h0,if_neg (fun h=>(mW.1 h) h0)];simp
   · rw [if_neg h0,if_pos (mW.2 h0)];simp
  rw [e2] at hb ⊢
  exact Fe b o v a ha R t _ 208 [.val (.pointer (some ⟨b,0,none⟩))] [] hr (by rw [hk];rfl) (by kernel_rfl) (Aam b o v a ha R t (kids (by omega)) hb)
 ·
  skip
  have e2:Ah t=t.text++([58,32]:Aq)++Hp t.num:=by rw [e];unfold Cp;rw [hk];rfl
  rw [e2] at hb ⊢
  exact Fe b o v a ha R t _ 209 [] [.ptr [.val (.pointer (some ⟨b,0,none⟩))]] hr (by rw [hk];rfl) (by kernel_rfl) (tV b o v a ha R t (Vi hfl hk) hb)
 ·
  skip
  obtain ⟨q0,q1,r,hq⟩:∃q0 q1 r,t.kids=q0::q1::r:=by
   unfold Dr at hs
   rw [hk] at hs
   replace hs:decide (3≤(t.kids.length:Int))=true:=hs
   simp only [decide_eq_true_eq] at hs
   match hq:t.kids with
   | []=>rw [hq] at hs;simp at hs
   | [x]=>rw [hq] at hs;simp at hs
   | x::y::r=>exact ⟨x,y,r,rfl⟩
  have no4:∀(j:Nat) x,1≤j→t.kids[j]? = some x→x.kind≠4:=fun j x hj hx=>by
   obtain ⟨c,k⟩:=H1 h hx
   unfold Ee at k
   rw [hk] at k
   have e3:((j:Int)==0)=false:=by simp;omega
   simp only [e3] at k
   replace k:(if ((j:Int)==1)=true then Pl.pats else Pl.exps).at x.kind=true:=k
   split at k
   · have:=Qx k;omega
   · have:=S4 k;omega
  have hq1:Fg b q1:=kid 1 q1 (by rw [hq];rfl) (no4 1 q1 (Nat.le_refl _) (by rw [hq];rfl))
  have hqr:∀x∈r,Fg b x:=fun x hx=>by
   obtain ⟨j,hj⟩:=List.mem_iff_getElem?.1 hx
   have hj2:t.kids[j+2]? = some x:=by rw [hq];simpa using hj
   exact kid (j+2) x hj2 (no4 (j+2) x (by omega) hj2)
  have e2:Ah t=([113,117,101,114,121,32]:Aq)++t.text++(if !(q0.text == []) then ([32,98,121,32]:Aq)++q0.text else [])++([10,109,97,116,99,104,32]:Aq)++Ah q1++([10,114,101,116,117,114,110,32]:Aq)++B3 (r.map Ah)++([59,10]:Aq):=by
   rw [e];unfold Cp;rw [hk]
   show Fk ++ [32]++t.text++(if ((Bn t 0).text == [])=true then [] else [32]++T7 ++ [32]++(Bn t 0).text) ++ [10]++Gd ++ [32]++(t.kids.map Ah).getD 1 [] ++ [10]++Fw ++ [32]++B3 ((t.kids.map Ah).drop 2) ++ [59,10]=_
   have k0:Bn t 0=q0:=by unfold Bn;rw [hq];rfl
   rw [k0,hq]
   show Fk ++ [32]++t.text++(if (q0.text == [])=true then [] else [32]++T7 ++ [32]++q0.text) ++ [10]++Gd ++ [32]++Ah q1 ++ [10]++Fw ++ [32]++B3 (r.map Ah) ++ [59,10]=_
   cases hc:(q0.text == [])
   · simp
   · simp
  rw [e2] at hb ⊢
  exact Fe b o v a ha R t _ 211 [.val (.pointer (some ⟨b,0,none⟩))] [] hr (by rw [hk];rfl) (by kernel_rfl) (qK b o v a ha R t q0 q1 r hq hq1 hqr hb)
 ·
  skip
  have e2:Ah t=t.text++([32]:Aq)++t.name++(if h:0<t.kids.length then ([32,105,102,32]:Aq)++Ah t.kids[0] else []):=by
   rw [e];unfold Cp;rw [hk]
   show t.text ++ [32]++t.name++(if (t.kids.map Ah == [])=true then [] else [32]++Rp ++ [32]++(t.kids.map Ah).getD 0 [])=_
   by_cases h0:0<t.kids.length
   ·
    rw [dif_pos h0,if_neg (fun h=>(mW.1 h) h0)]
    have:(t.kids.map Ah).getD 0 []=Ah t.kids[0]:=by rw [List.getD_eq_getElem?_getD,List.getElem?_map,List.getElem?_eq_getElem h0];rfl
    rw [this];simp
   · rw [dif_neg h0,if_pos (mW.2 h0)]
  rw [e2] at hb ⊢
  exact Fe b o v a ha R t _ 212 [.val (.pointer (some ⟨b,0,none⟩))] [] hr (by rw [hk];rfl) (by kernel_rfl) (sD b o v a ha R t (kids (by omega)) hb)
 ·
  skip
  have e2:Ah t=Nm++([40]:Aq)++B3 (t.kids.map Ah)++(if t.kind==11 then ([44,32]:Aq)++Lib.itoa t.num else [])++([41]:Aq):=by rw [e];unfold Cp;rw [hk];rfl
  rw [e2] at hb ⊢
  exact Fe b o v a ha R t _ 269 [] [.ptr [.val (.pointer (some ⟨b,0,none⟩))],.ptr [.str Nm]] hr (by rw [hk];rfl) (by kernel_rfl) (K6 b o v a ha R t Nm hi64 (kids (by omega)) hb)
 ·
  skip
  have e2:Ah t=Nq++([40]:Aq)++B3 (t.kids.map Ah)++(if t.kind==11 then ([44,32]:Aq)++Lib.itoa t.num else [])++([41]:Aq):=by rw [e];unfold Cp;rw [hk];rfl
  rw [e2] at hb ⊢
  exact Fe b o v a ha R t _ 269 [] [.ptr [.val (.pointer (some ⟨b,0,none⟩))],.ptr [.str Nq]] hr (by rw [hk];rfl) (by kernel_rfl) (K6 b o v a ha R t Nq hi64 (kids (by omega)) hb)
 ·
  skip
  have e2:Ah t=Nn++([40]:Aq)++B3 (t.kids.map Ah)++(if t.kind==11 then ([44,32]:Aq)++Lib.itoa t.num else [])++([41]:Aq):=by rw [e];unfold Cp;rw [hk];rfl
  rw [e2] at hb ⊢
  exact Fe b o v a ha R t _ 269 [] [.ptr [.val (.pointer (some ⟨b,0,none⟩))],.ptr [.str Nn]] hr (by rw [hk];rfl) (by kernel_rfl) (K6 b o v a ha R t Nn hi64 (kids (by omega)) hb)
 ·
  skip
  have e2:Ah t=Ke++([40]:Aq)++B3 (t.kids.map Ah)++(if t.kind==11 then ([44,32]:Aq)++Lib.itoa t.num else [])++([41]:Aq):=by rw [e];unfold Cp;rw [hk];rfl
  rw [e2] at hb ⊢
  exact Fe b o v a ha R t _ 269 [] [.ptr [.val (.pointer (some ⟨b,0,none⟩))],.ptr [.str Ke]] hr (by rw [hk];rfl) (by kernel_rfl) (K6 b o v a ha R t Ke hi64 (kids (by omega)) hb)
 ·
  skip
  have e2:Ah t=Ib++([40]:Aq)++B3 (t.kids.map Ah)++(if t.kind==11 then ([44,32]:Aq)++Lib.itoa t.num else [])++([41]:Aq):=by rw [e];unfold Cp;rw [hk];rfl
  rw [e2] at hb ⊢
  exact Fe b o v a ha R t _ 269 [] [.ptr [.val (.pointer (some ⟨b,0,none⟩))],.ptr [.str Ib]] hr (by rw [hk];rfl) (by kernel_rfl) (K6 b o v a ha R t Ib hi64 (kids (by omega)) hb)
 ·
  skip
  have e2:Ah t=Fr++([40]:Aq)++B3 (t.kids.map Ah)++(if t.kind==11 then ([44,32]:Aq)++Lib.itoa t.num else [])++([41]:Aq):=by rw [e];unfold Cp;rw [hk];rfl
  rw [e2] at hb ⊢
  exact Fe b o v a ha R t _ 269 [] [.ptr [.val (.pointer (some ⟨b,0,none⟩))],.ptr [.str Fr]] hr (by rw [hk];rfl) (by kernel_rfl) (K6 b o v a ha R t Fr hi64 (kids (by omega)) hb)
 ·
  skip
  have e2:Ah t=Ge++([40]:Aq)++B3 (t.kids.map Ah)++(if t.kind==11 then ([44,32]:Aq)++Lib.itoa t.num else [])++([41]:Aq):=by rw [e];unfold Cp;rw [hk];rfl
  rw [e2] at hb ⊢
  exact Fe b o v a ha R t _ 269 [] [.ptr [.val (.pointer (some ⟨b,0,none⟩))],.ptr [.str Ge]] hr (by rw [hk];rfl) (by kernel_rfl) (K6 b o v a ha R t Ge hi64 (kids (by omega)) hb)
 ·
  skip
  have e2:Ah t=Iy t:=by rw [e];unfold Cp;rw [hk];rfl
  rw [e2] at hb ⊢
  exact Fe b o v a ha R t _ 214 [.val (.pointer (some ⟨b,0,none⟩))] [] hr (by rw [hk];rfl) (by kernel_rfl) (dE b o v a ha R t hi64 (Yu hf).1 hb)
 ·
  skip
  have e2:Ah t=t.text++([46]:Aq)++t.name:=by rw [e];unfold Cp;rw [hk];rfl
  rw [e2] at hb ⊢
  exact Fe b o v a ha R t _ 215 [] [.ptr [.val (.pointer (some ⟨b,0,none⟩))]] hr (by rw [hk];rfl) (by kernel_rfl) (w_ref b o v a ha R t hb)
 ·
  skip
  have e2:Ah t=([99,111,117,110,116,40]:Aq)++t.text++([41]:Aq):=by rw [e];unfold Cp;rw [hk];rfl
  rw [e2] at hb ⊢
  exact Fe b o v a ha R t _ 216 [] [.ptr [.val (.pointer (some ⟨b,0,none⟩))]] hr (by rw [hk];rfl) (by kernel_rfl) (uT b o v a ha R t hb)
 ·
  skip
  have e2:Ah t=Kk t.num++([40]:Aq)++t.text++([46]:Aq)++t.name++Is (t.kids.map Ah)++([41]:Aq):=by
   rw [e];unfold Cp;rw [hk]
   show Kk t.num ++ [40]++t.text ++ [46]++t.name++(if (t.kids.map Ah == [])=true then [] else [44,32]++(t.kids.map Ah).getD 0 []) ++ [41]=_
   unfold Dr at hs
   rw [hk] at hs
   replace hs:(if (t.num==1)=true then ((t.kids.length:Int)==0) else ((t.kids.length:Int)==1))=true:=hs
   have hl:t.kids.length≤1:=by split at hs <;> (simp only [beq_iff_eq] at hs;omega)
   match hq:t.kids with
   | []=>rfl
   | [x]=>simp [Is]
   | x::y::r=>rw [hq] at hl;simp at hl
  rw [e2] at hb ⊢
  exact Fe b o v a ha R t _ 217 [.val (.pointer (some ⟨b,0,none⟩))] [] hr (by rw [hk];rfl) (by kernel_rfl) (qH b o v a ha R t (V7 hfl hk) (kids (by omega)) hb)
 ·
  skip
  unfold Dr at hs
  rw [hk] at hs
  replace hs:((t.kids.length:Int)==2)=true:=hs
  obtain ⟨x0,x1,hq⟩:=Y8 (by simpa using hs)
  have e2:Ah t=Dp t x0 (Ah x0)++([32]:Aq)++Fq t.num++([32]:Aq)++Dp t x1 (Ah x1):=by
   rw [e];unfold Cp;rw [hk]
   show Dp t (Bn t 0) ((t.kids.map Ah).getD 0 []) ++ [32]++Fq t.num ++ [32]++Dp t (Bn t 1) ((t.kids.map Ah).getD 1 [])=_
   have k0:Bn t 0=x0:=by unfold Bn;rw [hq];rfl
   have k1:Bn t 1=x1:=by unfold Bn;rw [hq];rfl
   rw [k0,k1,hq];rfl
  rw [e2] at hb ⊢
  exact Fe b o v a ha R t _ 218 [.val (.pointer (some ⟨b,0,none⟩))] [] hr (by rw [hk];rfl) (by kernel_rfl) (lT b o v a ha R t x0 x1 (by rw [hq];rfl) (by rw [hq];rfl) (by have:=dX hfl hk;omega) (kids (by omega) x0 (by rw [hq];simp)) (kids (by omega) x1 (by rw [hq];simp)) hb)
 ·
  skip
  unfold Dr at hs
  rw [hk] at hs
  replace hs:((t.kids.length:Int)==1)=true:=hs
  obtain ⟨x0,hq⟩:=Tx (by simpa using hs)
  have e2:Ah t=([110,111,116,32]:Aq)++Dp t x0 (Ah x0):=by
   rw [e];unfold Cp;rw [hk]
   show Rb ++ [32]++Dp t (Bn t 0) ((t.kids.map Ah).getD 0 [])=_
   have k0:Bn t 0=x0:=by unfold Bn;rw [hq];rfl
   rw [k0,hq];rfl
  rw [e2] at hb ⊢
  exact Fe b o v a ha R t _ 219 [] [.ptr [.val (.pointer (some ⟨b,0,none⟩))]] hr (by rw [hk];rfl) (by kernel_rfl) (w_not b o v a ha R t x0 (by rw [hq];rfl) (kids (by omega) x0 (by rw [hq];simp)) hb)

set_option maxHeartbeats 3200000
set_option maxRecDepth 20000

theorem G4 {t:Syn}{p:Pl}{e:Int}(h:P9 p t=e)(he:e≠0):Bg t p=e:=by
 rw [Re,h,if_pos (by simpa using he)]
theorem Tu {t:Syn}{p:Pl}(h:P9 p t=0):Bg t p=It t 0 (t.kids.drop 0):=by
 rw [Re,h,if_neg (by decide),List.drop_zero]
theorem Lg {t x:Syn}{k:Nat}(h:t.kids[k]? = some x):It t k (t.kids.drop k)=if (Bg x (Ee t k) != 0) then Bg x (Ee t k) else It t (k+1) (t.kids.drop (k+1)):=by
 obtain ⟨h1,rfl⟩:=List.getElem?_eq_some_iff.1 h
 rw [List.drop_eq_getElem_cons h1,It]
theorem Sb {t x:Syn}{k:Nat}(h:t.kids[k]? = some x):Gr t.kind (t.kids.drop k)=max (En x+(if El t.kind x.kind then 1 else 0)) (Gr t.kind (t.kids.drop (k+1))):=by
 obtain ⟨h1,rfl⟩:=List.getElem?_eq_some_iff.1 h
 rw [List.drop_eq_getElem_cons h1,Gr]
theorem Vo {t:Syn}(h:Fl t=true):En t≤400:=by
 have h1:=Q3 t
 have h2:=(Sx t h).2
 omega
theorem Wj {t:Syn}(h:Eg t):En t≤2000000:=by
 have h1:=Q3 t
 have h2:=H8 h
 omega

theorem rY (t:Syn)(p:Pl)(hfew:Eg t):Ap Tryz.prog 147 [.agg (cSyn t),Yk p] (.int .i64 (Bg t p)):=by
 revert p hfew
 induction t using Syn.ind
 rename_i t ih
 intro p hfew
 have hkl:=Hl hfew
 have htx:=Yu hfew
 obtain ⟨f,first,cap,hv,hfn,hP⟩:=wW p
 rw [hv]
 refine Ap.body (n:=45) tok Tryz.func147 rfl rfl rfl fun H=>?_
 refine Ad (Qp (Eu [Iq _,.str _,.str _,Iq _,_,Iq _]) (Qp A0 (Aa (AW.seq (AW.block (Ad ?_))))))
 refine Qp (A1 (v:=.fn _ _ _) rfl) ?_
 refine Qp (Qf [Iq _,.str _,.str _,Iq _,_,Iq _]) (Qp Bt ?_)
 refine Qp (Lj hfn rfl rfl rfl (hP t.kind)) ?_
 refine Qp Fz (Qp A3 (Aa (Au (fun hc1=>?_) fun hc1=>?_)))
 ·
  refine Ad (Qp A0 (Aa (AW.ret (Ao (Ai ?_)))))
  refine Qr (Iq _) ?_
  have h9:Bg t p=1:=G4 (if_pos hc1) (by decide)
  rw [h9];rfl
 ·
  refine Ad (Qp (B2 [Iq _,.str _,.str _,Iq _,_,Iq _]) ?_)
  refine Qp (Qc rfl (jN t)) ?_
  refine Qp Fz (Qp A3 (Aa (Au (fun hc2=>?_) fun hc2=>?_)))
  ·
   refine Ad (Qp A0 (Aa (AW.ret (Ao (Ai ?_)))))
   refine Qr (Iq _) ?_
   have h9:Bg t p=15:=G4 ((Bu hc1).trans (if_pos hc2)) (by decide)
   rw [h9];rfl
  ·
   refine Ad (Qp (B2 [Iq _,.str _,.str _,Iq _,_,Iq _]) ?_)
   refine Qp (Qc rfl (sZ t htx.1 htx.2)) ?_
   refine Qp Fz (Qp A3 (Aa (Au (fun hc3=>?_) fun hc3=>?_)))
   ·
    refine Ad (Qp A0 (Aa (AW.ret (Ao (Ai ?_)))))
    refine Qr (Iq _) ?_
    have h9:Bg t p=8:=G4 (((Bu hc1).trans (Bu hc2)).trans (if_pos hc3)) (by decide)
    rw [h9];rfl
   ·
    refine AW.skip (Bc (Af (AW.seq (Ad (Qp (B2 [Iq _,.str _,.str _,Iq _,_,Iq _]) ?_)))))
    refine Qp (Qc rfl (mJ t)) ?_
    refine Qp A0 (By (Qp A4 (Qp B9 (Aa (Au (fun hc4=>?_) fun hc4=>?_)))))
    ·
     refine Ad (Qp A4 (Qp A0 (Aa (Cx ?_))))
     refine Qr (Iq _) ?_
     have h9:Bg t p=Cu t:=G4 (((Bu hc1).trans (Bu hc2)).trans (Bu hc3)) (by simpa using hc4)
     rw [h9];rfl
    ·
     have h0:P9 p t=0:=by unfold P9;rw [Bu hc1,Bu hc2,Bu hc3];simpa using hc4
     refine Bl (AW.seq (Ad (Qp (Qf [_,Iq _]) (Qp Dg ?_))))
     refine Qp (Ax (n:=t.kids.length) tok rfl rfl rfl (by simp)) ?_
     refine Qp A4 (Aa (AW.block ?_))
     refine AW.Aat (fun (k:Nat)=>(⟨[(2,.ptr (cSyn t)),(29,.sl 6 (t.kids.map Cl)),(30,.int .i64 t.kids.length),(31,.int .i64 (k:Int))],H,45⟩:St)) (fun (k:Nat)=>k≤t.kids.length∧Bg t p=It t k (t.kids.drop k)) (fun (k:Nat)=>t.kids.length-k) (0) ?_ (GS.weaken ⟨rfl,rfl,rfl,rfl,trivial⟩ (.refl _)) ?_
     · exact ⟨Nat.zero_le _,Tu h0⟩
     ·
      rintro k hR
      refine Ad (Qp B7 (Aa (AW.seq (Au (fun hc5=>?_) fun hc5=>?_))))
      ·
       obtain ⟨x,hx⟩:=aX (l:=t.kids) (k:=k) (by have:=of_decide_eq_true hc5;omega)
       have hlt:=Jr hx
       have hm:=List.mem_of_getElem? hx
       refine Bl (AW.seq (AW.block (Ad (Qp A4 ?_))))
       refine Qp (Ag (c:=[Iq _,.str _,.str _,Iq _,_,Iq _]) tok rfl rfl rfl rfl rfl rfl (by omega) (B6 hx)) ?_
       refine Qp (B2 [Iq _,.str _,.str _,Iq _,_,Iq _]) ?_
       refine Qe (An (l:=[.int .i64 0,.str [],.str [],.int .i64 0,.sl 6 [],.int .i64 0]) (by kernel_rfl)) ?_
       rintro _ _ ⟨b7,rfl,rfl⟩
       refine Qp A0 ?_
       refine B0 0 [Iq _,.str _,.str _,Iq _,_,Iq _] (_::_) ?_
       refine AOL.ghost (GS.freeze (t:=7) 0 rfl rfl) ?_
       refine Aa (AW.seq ?_)
       refine AW.draw mixed (fun _=>True) trivial (by kernel_rfl) ?_
       refine Qn 0 rfl (B2 [Iq _,.str _,.str _,Iq _,_,Iq _]) (Qn 1 rfl (B2 [Iq _,.str _,.str _,Iq _,_,Iq _]) (Qn 2 rfl A4 ?_))
       refine Qn 3 rfl (Qc rfl (w_kid t k hlt (by omega))) ?_
       refine Qn 4 rfl (Qc rfl (ih x hm (Ee t k) (Ec hfew hm))) ?_
       refine Qn 5 rfl A0 ?_
       refine Hs.done _ _ (by kernel_rfl) ?_
       refine Af (Ad (Qp A4 (Qp B9 (Aa (Au (fun hc6=>?_) fun hc6=>?_)))))
       ·
        refine Ad (Qp A4 (Qp A0 (Aa (AW.ret (Ao (Ai (Ai (Ao (Ai ?_)))))))))
        refine Qr (Iq _) ?_
        have h9:Bg t p=Bg x (Ee t k):=by rw [hR.2,Lg hx,if_pos hc6]
        rw [h9];rfl
       ·
        refine AW.skip (Bc (Af (AW.region (Qp Ei (Qp A4 (Aa ?_))))))
        refine ⟨k+1,?_,?_,GS.weaken ⟨rfl,rfl,rfl,rfl,trivial⟩ (.refl _)⟩
        · exact ⟨hlt,by rw [hR.2,Lg hx,Bu hc6]⟩
        · omega
      ·
       have hk:t.kids.length≤k:=by have:=of_decide_eq_false hc5;omega
       refine AW.exit ?_
       refine A7 (A7 (Bp (Af (Ad (Qp A0 (Aa (AW.ret ?_)))))))
       refine Qr (Iq _) ?_
       have h9:Bg t p=0:=by rw [hR.2,List.drop_eq_nil_of_le hk,It]
       rw [h9];rfl
theorem sO (t:Syn)(hfew:Eg t):Ap Tryz.prog 148 [.agg (cSyn t)] (.int .i64 (En t:Int)):=by
 revert hfew
 induction t using Syn.ind
 rename_i t ih
 intro hfew
 have hkl:=Hl hfew
 refine Ap.body (n:=43) tok Tryz.func148 rfl rfl rfl fun H=>?_
 refine Ad (Qp (Eu [Iq _,.str _,.str _,Iq _,_,Iq _]) (Qp A0 (By (Qp A0 (Aa (AW.seq (Ad (Qp (Qf [_,Iq _]) (Qp Dg ?_)))))))))
 refine Qp (Ax (n:=t.kids.length) tok rfl rfl rfl (by simp)) ?_
 refine Qp A4 (Aa (AW.block ?_))
 refine AW.Aat (fun (p:Nat×Nat)=>(⟨[(1,.ptr (cSyn t)),(3,.int .i64 (p.2:Int)),(8,.sl 6 (t.kids.map Cl)),(9,.int .i64 t.kids.length),(10,.int .i64 (p.1:Int))],H,43⟩:St)) (fun (p:Nat×Nat)=>p.1≤t.kids.length∧Gr t.kind t.kids=max p.2 (Gr t.kind (t.kids.drop p.1))∧p.2≤5000000) (fun (p:Nat×Nat)=>t.kids.length-p.1) ((0,0)) ?_ (GS.weaken ⟨rfl,rfl,rfl,rfl,rfl,trivial⟩ (.refl _)) ?_
 · exact ⟨Nat.zero_le _,by simp,Nat.zero_le _⟩
 ·
  rintro p hR
  refine Ad (Qp B7 (Aa (AW.seq (Au (fun hc1=>?_) fun hc1=>?_))))
  ·
   obtain ⟨x,hx⟩:=aX (l:=t.kids) (k:=p.1) (by have:=of_decide_eq_true hc1;omega)
   have hlt:=Jr hx
   have hm:=List.mem_of_getElem? hx
   have hdx:=Wj (Ec hfew hm)
   have hd2:=Sb hx
   refine Bl (AW.seq (AW.block (Ad ?_)))
   refine Qp (Ag (c:=[Iq _,.str _,.str _,Iq _,_,Iq _]) tok rfl rfl rfl rfl rfl rfl (by omega) (B6 hx)) ?_
   refine Qp (B2 [Iq _,.str _,.str _,Iq _,_,Iq _]) ?_
   refine Qe (An (l:=[.int .i64 0,.str [],.str [],.int .i64 0,.sl 6 [],.int .i64 0]) (by kernel_rfl)) ?_
   rintro _ _ ⟨b5,rfl,rfl⟩
   refine B0 0 [Iq _,.str _,.str _,Iq _,_,Iq _] (_::_) ?_
   refine AOL.ghost (GS.freeze (t:=5) 0 rfl rfl) ?_
   refine By (Qp (B2 [Iq _,.str _,.str _,Iq _,_,Iq _]) ?_)
   refine Qp (Qc rfl (ih x hm (Ec hfew hm))) ?_
   refine Qp A0 (Aa (AW.seq (Ad (Qp (Qf [Iq _,.str _,.str _,Iq _,_,Iq _]) (Qp Bt (Qp (Qf [Iq _,.str _,.str _,Iq _,_,Iq _]) (Qp Bt ?_)))))))
   refine Qp (Qc rfl (Y7 t.kind x.kind)) ?_
   refine Aa (Au (fun hc2=>?_) fun hc2=>?_)
   ·
    rw [if_pos hc2] at hd2
    refine AW.region (Qp A4 (Qp Ei (Qp A0 (Aa (AW.region (Qp A4 (Qp A4 ?_)))))))
    refine Qp (Tk rfl rfl) ?_
    refine Qp A0 (AOL.nil (Bc (Af (AW.region (Qp Ei (Qp A4 (Aa ?_)))))))
    refine ⟨(p.1+1,max p.2 (En x+1)),?_,?_,GS.weaken ⟨rfl,congrArg (AV.int .i64) (by simp only;omega),rfl,rfl,rfl,trivial⟩ (.refl _)⟩
    · exact ⟨hlt,by simp only;omega,by simp only;omega⟩
    · simp only;omega
   ·
    rw [Bu hc2] at hd2
    refine Bl (AW.region (Qp A4 (Qp A4 ?_)))
    refine Qp (Tk rfl rfl) ?_
    refine Qp A0 (AOL.nil (Bc (Af (AW.region (Qp Ei (Qp A4 (Aa ?_)))))))
    refine ⟨(p.1+1,max p.2 (En x)),?_,?_,GS.weaken ⟨rfl,congrArg (AV.int .i64) (by simp only;omega),rfl,rfl,rfl,trivial⟩ (.refl _)⟩
    · exact ⟨hlt,by simp only;omega,by simp only;omega⟩
    · simp only;omega
  ·
   have hk:t.kids.length≤p.1:=by have:=of_decide_eq_false hc1;omega
   have he:=hR.2.1
   rw [List.drop_eq_nil_of_le hk,Gr] at he
   have hfd:=Wj hfew
   have hde:=Wn t
   refine AW.exit ?_
   refine A7 (A7 (Bp (Af (AW.seq (Ad (Qp (Qf [Iq _,.str _,.str _,Iq _,_,Iq _]) (Qp Bt (Qp Av (Qp Bq ?_)))))))))
   refine Qg [] Qw (Qf [Iq _,.str _,.str _,Iq _,_,Iq _]) (Qg [(31,_)] Qw Bt ?_)
   refine Qg [(32,_)] Qw (Qc rfl (nB t.kind)) ?_
   refine Qg [(33,_)] Qw Bq (Qg [] Qw (Qf [Iq _,.str _,.str _,Iq _,_,Iq _]) (Qg [(35,_)] Qw Bt (Qg [(36,_)] Qw B9 (Qg [(34,_),(37,_)] Qw Et (Qp Cy (Aa (Au (fun hc3=>?_) fun hc3=>?_)))))))
   ·
    refine AW.region (Qp A4 (Qp Ei (Qp A0 (By (Qp A4 (Qp A0 (Aa (AW.ret ?_))))))))
    refine Qr (Iq _) ?_
    have h9:En t=p.2+1:=by rw [hde,if_pos hc3];omega
    rw [h9];rfl
   ·
    refine Bl (Ad (Qp A4 (Qp A0 (Aa (AW.ret ?_)))))
    refine Qr (Iq _) ?_
    have h9:En t=p.2:=by rw [hde,Bu hc3];omega
    rw [h9];rfl

set_option maxHeartbeats 3200000
set_option maxRecDepth 20000

theorem aF {t x:Syn}{k:Nat}{n:Int}(h:t.kids[k]? = some x)(hn:decide (n≤200)=true):Gs (t.kids.drop k) n=Gs (t.kids.drop (k+1)) (IntKind.i64.wrap (n+Gt x)):=by
 obtain ⟨h1,rfl⟩:=List.getElem?_eq_some_iff.1 h
 rw [List.drop_eq_getElem_cons h1,Gs,if_pos hn]
theorem Y6 {l:List Syn}{n:Int}(hn:decide (n≤200)=false):Gs l n=n:=by
 cases l with
 | nil=>rw [Gs]
 | cons x r=>rw [Gs,if_neg (by rw [hn];decide)]
theorem bH {t x:Syn}{k:Nat}{d:Int}(h:t.kids[k]? = some x):Pj (t.kids.drop k) d=Pj (t.kids.drop (k+1)) (max d (Np x)):=by
 obtain ⟨h1,rfl⟩:=List.getElem?_eq_some_iff.1 h
 rw [List.drop_eq_getElem_cons h1,Pj]
theorem Vy {t x:Syn}{k:Nat}(h:t.kids[k]? = some x):Ub (t.kids.drop k)=if !(Fl x) then false else Ub (t.kids.drop (k+1)):=by
 obtain ⟨h1,rfl⟩:=List.getElem?_eq_some_iff.1 h
 rw [List.drop_eq_getElem_cons h1,Ub]
def Pl.fine (p:Pl):Prop:=∀k,p.at k=true→0≤k∧k≤18∧k≠4
theorem Pa:Pl.fine (.only 0):=fun k h=>by have:=Ie h;omega
theorem aG:Pl.fine (.only 3):=fun k h=>by have:=Ie h;omega
theorem Rk {t:Syn}{p:Pl}(h:Bg t p=0)(hf:Fl t=true):(Ah t).length≤100000:=by
 have h1:=fV t p h hf
 have h2:=(Sx t hf).2
 omega

theorem uU (t:Syn):Ap Tryz.prog 38 [.agg (cSyn t),.int .i64 200] (.int .i64 (Gt t)):=by
 skip
 induction t using Syn.ind
 rename_i t ih
 skip
 refine Ap.body (n:=29) tok Tryz.func38 rfl rfl rfl fun H=>?_
 refine Ad (Qp (Eu [Iq _,.str _,.str _,Iq _,_,Iq _]) (Qp A0 (By (Qp A0 (Aa (AW.seq (Ad (Qp A0 (Aa ?_)))))))))
 refine AW.block ?_
 refine AW.Aat (fun (p:Nat×Int)=>(⟨[(1,.int .i64 200),(2,.ptr (cSyn t)),(5,.int .i64 p.2),(6,.int .i64 (p.1:Int))],H,29⟩:St)) (fun (p:Nat×Int)=>p.1≤t.kids.length∧Gt t=Gs (t.kids.drop p.1) p.2) (fun (p:Nat×Int)=>t.kids.length-p.1) ((0,1)) ?_ (GS.weaken ⟨rfl,rfl,rfl,rfl,trivial⟩ (.refl _)) ?_
 · exact ⟨Nat.zero_le _,by rw [Wz,List.drop_zero]⟩
 ·
  rintro p hR
  refine AW.seq (Ad (Qp A4 (Qp (Qf [_,Iq _]) (Qp Dg ?_))))
  refine AOL.know 9 rfl fun hml=>?_
  simp only [List.length_map,maxLen] at hml
  refine Qp (Ax (n:=t.kids.length) tok rfl rfl rfl (by simp)) ?_
  refine Qp B7 (Qp Bq (Qg [] Qw A4 (Qg [] Qw A4 ?_)))
  refine AOL.Aap (y:=.bool _) _ [(13,_),(14,_)] rfl (iB.all ⟨Ent.Aao _ _,Ent.Aao _ _,trivial⟩) (fun hG=>mT rfl rfl) rfl ?_
  refine Qp Et (Aa (Au (fun hc1=>?_) fun hc1=>?_))
  ·
   rw [Bool.and_eq_true] at hc1
   obtain ⟨x,hx⟩:=aX (l:=t.kids) (k:=p.1) (by have:=of_decide_eq_true hc1.1;omega)
   have hlt:=Jr hx
   have hm:=List.mem_of_getElem? hx
   refine Bl (AW.seq (AW.block (AW.region (Qp A4 (Qp (Qf [_,Iq _]) (Qp Dg (Qp A4 ?_)))))))
   refine Qp (Ag (c:=[Iq _,.str _,.str _,Iq _,_,Iq _]) tok rfl rfl rfl rfl rfl rfl (by omega) (B6 hx)) ?_
   refine Qp (B2 [Iq _,.str _,.str _,Iq _,_,Iq _]) (Qp A4 ?_)
   refine Qp (Qc rfl (ih x hm)) ?_
   refine Qp (Xk rfl rfl) ?_
   refine Qp A0 (AOL.nil (Bc (Af (AW.region (Qp A4 (Qp Ei (Qp A0 (Aa ?_))))))))
   refine ⟨(p.1+1,IntKind.i64.wrap (p.2+Gt x)),?_,?_,GS.weaken ⟨rfl,rfl,rfl,rfl,trivial⟩ (.refl _)⟩
   · exact ⟨hlt,by rw [hR.2,aF hx hc1.2]⟩
   · simp only;omega
  ·
   rw [Bool.and_eq_false_iff] at hc1
   refine AW.exit ?_
   refine A7 (A7 (Bp (Af (Ad (Qp A4 (Qp A0 (Aa (AW.ret ?_))))))))
   refine Qr (Iq _) ?_
   have h9:Gt t=p.2:=by
    rw [hR.2]
    rcases hc1 with h | h
    · rw [List.drop_eq_nil_of_le (by have:=of_decide_eq_false h;omega),Gs]
    · exact Y6 h
   rw [h9];rfl
theorem qS (t:Syn):Ap Tryz.prog 39 [.agg (cSyn t)] (.int .i64 (Np t)):=by
 skip
 induction t using Syn.ind
 rename_i t ih
 skip
 refine Ap.body (n:=22) tok Tryz.func39 rfl rfl rfl fun H=>?_
 refine Ad (Qp (Eu [Iq _,.str _,.str _,Iq _,_,Iq _]) (Qp A0 (By (Qp A0 (Aa (AW.seq (Ad (Qp A0 (Aa ?_)))))))))
 refine AW.block ?_
 refine AW.Aat (fun (p:Nat×Int)=>(⟨[(1,.ptr (cSyn t)),(3,.int .i64 p.2),(4,.int .i64 (p.1:Int))],H,22⟩:St)) (fun (p:Nat×Int)=>p.1≤t.kids.length∧Pj t.kids 0=Pj (t.kids.drop p.1) p.2) (fun (p:Nat×Int)=>t.kids.length-p.1) ((0,0)) ?_ (GS.weaken ⟨rfl,rfl,rfl,trivial⟩ (.refl _)) ?_
 · exact ⟨Nat.zero_le _,by rw [List.drop_zero]⟩
 ·
  rintro p hR
  refine AW.seq (Ad (Qp A4 (Qp (Qf [_,Iq _]) (Qp Dg ?_))))
  refine AOL.know 7 rfl fun hml=>?_
  simp only [List.length_map,maxLen] at hml
  refine Qp (Ax (n:=t.kids.length) tok rfl rfl rfl (by simp)) ?_
  refine Qp B7 (Aa (Au (fun hc1=>?_) fun hc1=>?_))
  ·
   obtain ⟨x,hx⟩:=aX (l:=t.kids) (k:=p.1) (by have:=of_decide_eq_true hc1;omega)
   have hlt:=Jr hx
   have hm:=List.mem_of_getElem? hx
   refine Bl (AW.seq (AW.block (AW.region (Qp A4 (Qp (Qf [_,Iq _]) (Qp Dg (Qp A4 ?_)))))))
   refine Qp (Ag (c:=[Iq _,.str _,.str _,Iq _,_,Iq _]) tok rfl rfl rfl rfl rfl rfl (by omega) (B6 hx)) ?_
   refine Qp (B2 [Iq _,.str _,.str _,Iq _,_,Iq _]) ?_
   refine Qp (Qc rfl (ih x hm)) ?_
   refine Qp (Tk rfl rfl) ?_
   refine Qp A0 (AOL.nil (Bc (Af (AW.region (Qp A4 (Qp Ei (Qp A0 (Aa ?_))))))))
   refine ⟨(p.1+1,max p.2 (Np x)),?_,?_,GS.weaken ⟨rfl,rfl,rfl,trivial⟩ (.refl _)⟩
   · exact ⟨hlt,by rw [hR.2,bH hx]⟩
   · simp only;omega
  ·
   have hk:t.kids.length≤p.1:=by have:=of_decide_eq_false hc1;omega
   refine AW.exit ?_
   refine A7 (A7 (Bp (Af (Ad (Qp A4 ?_)))))
   refine Qp (Xk rfl rfl) ?_
   refine Qp A0 (Aa (AW.ret ?_))
   refine Qr (Iq _) ?_
   have h9:Np t=IntKind.i64.wrap (p.2+1):=by rw [lL,hR.2,List.drop_eq_nil_of_le hk,Pj]
   rw [h9];rfl
theorem f_few (t:Syn):Ap Tryz.prog 11 [.agg (cSyn t)] (.bool (Fl t)):=by
 skip
 induction t using Syn.ind
 rename_i t ih
 skip
 refine Ap.body (n:=38) tok Tryz.func11 rfl rfl rfl fun H=>?_
 refine Ad (Qp (Eu [Iq _,.str _,.str _,Iq _,_,Iq _]) (Qp A3 (Aa (AW.seq (Ad (Qp (Qf [.str _,.str _,Iq _,_,Iq _]) (Qp Df ?_)))))))
 refine Qp (Bx (n:=t.text.length) tok rfl rfl rfl (rfl)) ?_
 refine Qp D2 (Qp Bq (Qg [] Qw (Qf [.str _,Iq _,_,Iq _]) (Qg [(9,_)] Qw Df ?_)))
 refine AOL.Aap (y:=Iq _) _ [(10,_)] rfl (iB.all ⟨Ent.Aao _ _,trivial⟩) (fun hG=>Bx (n:=t.name.length) tok rfl rfl rfl (rfl)) rfl ?_
 refine Qg [(11,_)] Qw D2 (Qp Cy (Qp Bq (Qg [] Qw (B2 [Iq _,.str _,.str _,Iq _,_,Iq _]) ?_)))
 refine Qg [(15,_)] Qw (Qc rfl (uU t)) ?_
 refine Qg [(16,_)] Qw D2 (Qp Cy (Qp Bq (Qg [] Qw (B2 [Iq _,.str _,.str _,Iq _,_,Iq _]) ?_)))
 refine Qg [(20,_)] Qw (Qc rfl (qS t)) ?_
 refine Qg [(21,_)] Qw D2 (Qp Cy (Aa (Au (fun hc1=>?_) fun hc1=>?_)))
 ·
  refine Ad (Qp A3 (Aa (Cx ?_)))
  refine Qr (.bool _) ?_
  have h9:Fl t=false:=by rw [Xq,if_pos hc1]
  rw [h9];rfl
 ·
  refine Bl (AW.seq (Ad (Qp A0 (Aa (AW.block ?_)))))
  refine AW.Aat (fun (k:Nat)=>(⟨[(1,.ptr (cSyn t)),(3,.int .i64 (k:Int))],H,38⟩:St)) (fun (k:Nat)=>k≤t.kids.length∧Fl t=Ub (t.kids.drop k)) (fun (k:Nat)=>t.kids.length-k) (0) ?_ (GS.weaken ⟨rfl,rfl,trivial⟩ (.refl _)) ?_
  · exact ⟨Nat.zero_le _,by rw [Xq,Bu hc1,List.drop_zero]⟩
  ·
   rintro k hR
   refine AW.seq (Ad (Qp A4 (Qp (Qf [_,Iq _]) (Qp Dg ?_))))
   refine AOL.know 26 rfl fun hml=>?_
   simp only [List.length_map,maxLen] at hml
   refine Qp (Ax (n:=t.kids.length) tok rfl rfl rfl (by simp)) ?_
   refine Qp B7 (Aa (Au (fun hc2=>?_) fun hc2=>?_))
   ·
    obtain ⟨x,hx⟩:=aX (l:=t.kids) (k:=k) (by have:=of_decide_eq_true hc2;omega)
    have hlt:=Jr hx
    have hm:=List.mem_of_getElem? hx
    refine Bl (AW.seq (AW.block (Ad (Qp (Qf [_,Iq _]) (Qp Dg (Qp A4 ?_))))))
    refine Qp (Ag (c:=[Iq _,.str _,.str _,Iq _,_,Iq _]) tok rfl rfl rfl rfl rfl rfl (by omega) (B6 hx)) ?_
    refine Qp (B2 [Iq _,.str _,.str _,Iq _,_,Iq _]) ?_
    refine Qp (Qc rfl (ih x hm)) ?_
    refine Qp Fz (Aa (Au (fun hc3=>?_) fun hc3=>?_))
    ·
     refine Ad (Qp A3 (Aa (AW.ret (Ao (Ai (Ai (Ao (Ai ?_))))))))
     refine Qr (.bool _) ?_
     have h9:Fl t=false:=by rw [hR.2,Vy hx,if_pos hc3]
     rw [h9];rfl
    ·
     refine AW.skip (Bc (Af (AW.region (Qp A4 (Qp Ei (Qp A0 (Aa ?_)))))))
     refine ⟨k+1,?_,?_,GS.weaken ⟨rfl,rfl,trivial⟩ (.refl _)⟩
     · exact ⟨hlt,by rw [hR.2,Vy hx,Bu hc3]⟩
     · omega
   ·
    have hk:t.kids.length≤k:=by have:=of_decide_eq_false hc2;omega
    refine AW.exit ?_
    refine A7 (A7 (Bp (Af (Ad (Qp A3 (Aa (AW.ret ?_)))))))
    refine Qr (.bool _) ?_
    have h9:Fl t=true:=by rw [hR.2,List.drop_eq_nil_of_le hk,Ub]
    rw [h9];rfl
theorem Vq (t:Syn)(p:Pl)(hfew:Eg t)(hp:p.fine):Ap Tryz.prog 87 [.agg (cSyn t),Yk p] (.tuple [.str (Bo t p).1,.int .i64 (Bo t p).2]):=by
 obtain ⟨f,first,cap,hv,hfn,hP⟩:=wW p
 have hck:=rY t p hfew
 rw [hv] at hck ⊢
 refine Ap.body (n:=30) tok Tryz.func87 rfl rfl rfl fun H=>?_
 refine Ad (Qp (Eu [Iq _,.str _,.str _,Iq _,_,Iq _]) (Qp Db (Qp A0 (Aa (AW.seq (Ad (Qp (B2 [Iq _,.str _,.str _,Iq _,_,Iq _]) ?_)))))))
 refine Qp (A1 (v:=.fn _ _ _) rfl) ?_
 refine Qp (Qc rfl (hck)) ?_
 refine Qp A0 (By (Qp A4 (Qp B9 (Aa (Au (fun hc1=>?_) fun hc1=>?_)))))
 ·
  refine Ad (Qp A4 (Qp Db (Qp A0 (Aa (Cx ?_)))))
  refine L1 (.str _) (Iq _) ?_
  have h9:Bo t p=([],Bg t p):=if_pos hc1
  rw [h9];rfl
 ·
  have h0:Bg t p=0:=by simpa using hc1
  have hkd:=hp _ (Hi (Hm h0).1).1
  have hwl:=qA h0 hfew
  refine Bl (AW.seq (Ad (Qp (B2 [Iq _,.str _,.str _,Iq _,_,Iq _]) ?_)))
  refine Qp (Qc rfl (sO t hfew)) ?_
  refine Qp D2 (Aa (Au (fun hc2=>?_) fun hc2=>?_))
  ·
   refine Ad (Qp Db (Qp A0 (Aa (Cx ?_))))
   refine L1 (.str _) (Iq _) ?_
   have h9:Bo t p=([],12):=(Bu hc1).trans (if_pos hc2)
   rw [h9];rfl
  ·
   refine Bl (Ad ?_)
   refine Qe (Al (by kernel_rfl) rfl rfl (w_new _)) ?_
   rintro _ _ ⟨b17,rfl,rfl⟩
   refine Qp N8 (By (Qp Br (Qp (B2 [Iq _,.str _,.str _,Iq _,_,Iq _]) ?_)))
   refine Qe (Al (by kernel_rfl) rfl rfl (sX b17 t p h0 hfew hkd.1 hkd.2.1 hkd.2.2 [] _ _ (.inl rfl) _ (by show 0+(Ah t).length≤Wt;unfold Wt;omega))) ?_
   rintro _ _ ⟨v20,a20,rfl,ha20,rfl⟩
   refine Aa (AW.seq (Ad (Qp Br ?_)))
   refine Qp (Ak rfl) ?_
   refine Qp Cb ?_
   refine Qe (Al (by kernel_rfl) rfl rfl (k_blen b17 216 _ _ _ _ _)) ?_
   rintro _ _ ⟨rfl,rfl⟩
   refine Qp D2 (Aa (Au (fun hc3=>?_) fun hc3=>?_))
   ·
    refine Ad (Qp Db (Qp A0 (Aa (Cx ?_))))
    refine ⟨.inr rfl,[.str _,Iq _],.cons (.tmp _ _ rfl) <| .cons (.tmp _ _ rfl) <| .nil,.cons _ (.cons _ (.refl _)),?_⟩
    have h9:Bo t p=([],13):=((Bu hc1).trans (Bu hc2)).trans (if_pos hc3)
    rw [h9];rfl
   ·
    refine Bl (Ad (Qp Br ?_))
    refine Qp (Ak rfl) ?_
    refine Qp Cb ?_
    refine Qe (Al (by kernel_rfl) rfl rfl (mP b17 216 _ _ _ _ _)) ?_
    rintro _ _ ⟨rfl,rfl⟩
    refine Qp Db (Qp A0 (Aa (AW.ret ?_)))
    refine ⟨.inr rfl,[.str _,Iq _],.cons (.tmp _ _ rfl) <| .cons (.tmp _ _ rfl) <| .nil,.cons _ (.cons _ (.refl _)),?_⟩
    have h9:Bo t p=(Ah t,0):=((Bu hc1).trans (Bu hc2)).trans (Bu hc3)
    rw [h9];rfl
theorem oC (t:Syn)(hfew:Eg t):Ap Tryz.prog 36 [.agg (cSyn t)] (.tuple [.str (Bo t (.only 0)).1,.int .i64 (Bo t (.only 0)).2]):=by
 refine Ap.body (n:=9) tok Tryz.func36 rfl rfl rfl fun H=>?_
 refine Ad (Qp (Eu [Iq _,.str _,.str _,Iq _,_,Iq _]) (Qp Db (Qp A0 (Aa (AW.seq ?_)))))
 refine AW.draw mixed (fun _=>True) trivial (by kernel_rfl) ?_
 refine Qn 0 rfl (B2 [Iq _,.str _,.str _,Iq _,_,Iq _]) ?_
 refine Qn 1 rfl (Qc rfl (Mr _)) ?_
 refine Qn 2 rfl (Qc rfl (Vq t (.only 0) hfew Pa)) ?_
 refine Qn 3 rfl pP (Qn 4 rfl Jw (Qn 5 rfl Db (Qn 6 rfl A0 ?_)))
 refine Hs.done _ _ (by kernel_rfl) ?_
 refine Af (AW.ret ?_)
 refine L1 (.str _) (Iq _) ?_
 rfl
theorem rF (t:Syn)(hfew:Eg t):Ap Tryz.prog 45 [.agg (cSyn t)] (.tuple [.str (Bo t (.only 3)).1,.int .i64 (Bo t (.only 3)).2]):=by
 refine Ap.body (n:=9) tok Tryz.func45 rfl rfl rfl fun H=>?_
 refine Ad (Qp (Eu [Iq _,.str _,.str _,Iq _,_,Iq _]) (Qp Db (Qp A0 (Aa (AW.seq ?_)))))
 refine AW.draw mixed (fun _=>True) trivial (by kernel_rfl) ?_
 refine Qn 0 rfl (B2 [Iq _,.str _,.str _,Iq _,_,Iq _]) ?_
 refine Qn 1 rfl (Qc rfl (Mr _)) ?_
 refine Qn 2 rfl (Qc rfl (Vq t (.only 3) hfew aG)) ?_
 refine Qn 3 rfl pP (Qn 4 rfl Jw (Qn 5 rfl Db (Qn 6 rfl A0 ?_)))
 refine Hs.done _ _ (by kernel_rfl) ?_
 refine Af (AW.ret ?_)
 refine L1 (.str _) (Iq _) ?_
 rfl
end Go.Proofs.YtckhoadldibflaaGreatDoor
