/-
  Several texts in one: W13f, W13g, W13h, W13i, R11w, R12w. No condition.
-/
import Derived.Test.YtckhoadldibflaaGreatDoorK01
import Derived.Test.YtckhoadldibflaaGreatDoorK12
import Derived.KernelRfl
import Derived.Test.YtckhoadldibflaaGreatDoorK06
import Derived.Test.YtckhoadldibflaaGreatDoorK07
import Derived.Test.YtckhoadldibflaaGreatDoorK11
import Derived.Test.YtckhoadldibflaaGreatDoorK10
set_option linter.unusedVariables false
set_option linter.unusedSimpArgs false
namespace Go.Proofs.YtckhoadldibflaaGreatDoor
open Go Go.Aw
set_option maxHeartbeats 3200000
set_option maxRecDepth 20000

theorem fns_at {b:Nat}{n:Nat}{x y z:AV}(h:(Sy b)[n]? = some x):(y::z::Sy b)[2+n]? = some x:=by rw [Nat.add_comm];exact h
theorem Gv (b:Nat)(o:Am)(v:Value)(a:Option Addr)(ha:a=none∨a=some ⟨b,0,none⟩)(R:List HO)(t:Syn)(s:Am)(f:Nat)(first cap:List AV)(hk:0≤t.kind∧t.kind≤18)(hv:(Sy b)[t.kind.toNat]? = some (.fn (.func f) first cap))(hf:Sj Tryz.prog f=true)(hc:Bp Tryz.prog f (.row v (Fb o).length 5 1 :: .box b 216 (.val (.pointer a) :: .row v 1 (Fb o)::Sy b)::R) (first ++ [.agg (cSyn t)]++cap) (WQ b (o++s) R)):Bp Tryz.prog 150 (.row v (Fb o).length 5 1 :: .box b 216 (.val (.pointer a) :: .row v 1 (Fb o)::Sy b)::R) [.val (.pointer (some ⟨b,0,none⟩)),.agg (cSyn t)] (WQ b (o++s) R):=by
 refine Bp.body (n:=13) tok Tryz.func150 rfl rfl rfl ?_;refine Ae (Qp (Gc Au) (Ag ?_));refine AW.draw mixed (fun H'=>_∈H') (B4 (i:=1) rfl) (by kernel_rfl) ?_;refine Qn 0 rfl Bm (Qn 1 rfl (Qf Au) (Qn 2 rfl Bi (Qn 3 rfl (Af rfl) (Qn 4 rfl B7 ?_))));refine Qn 5 rfl (Wm (o':=(2+t.kind.toNat)) tok rfl rfl rfl rfl rfl (hk.1) (by omega) (by show 2+t.kind.toNat*1=_;omega)) ?_;refine Qn 6 rfl (OpP.Aah (fun k=>Ad (k:=k) (c:=.fn (.func f) first cap) tok rfl rfl rfl (fns_at hv)) (fun _ h=>h)) ?_;refine Qn 7 rfl (B0 Au) ?_;refine Gz.last _ _ 8 _ _ rfl (by kernel_rfl) rfl rfl (Ix (hf) rfl rfl rfl (Bp.front2 (R:=_) 1 0 rfl rfl rfl (hc))) (by kernel_rfl) ?_;rintro _ _ ⟨v12,a12,rfl,ha12,rfl⟩;refine ⟨.inl rfl,[],.nil,_,.refl _,?_⟩;exact ⟨v12,a12,rfl,ha12,rfl⟩


theorem node_ok (b:Nat)(t:Syn):∀p,A4 t p=0→E7 t→0≤t.kind→t.kind≤18→t.kind≠4→Gr b t:=by
 refine Syn.ind (P:=fun t=>∀p,A4 t p=0→E7 t→0≤t.kind→t.kind≤18→t.kind≠4→Gr b t) (fun t ih p h hf k0 k18 k4=>?_) t;have hi:=kO h;have hi64 : -9223372036854775808≤t.num∧t.num≤9223372036854775807:=by omega
 obtain ⟨ho,_⟩:=F6 h;obtain ⟨_,hs,_,hfl⟩:=Gq ho
 have kid:∀(j:Nat) a,t.kids[j]? = some a→a.kind≠4→Gr b a:=fun j a ha h4=>by
  obtain ⟨c,k⟩:=Gn h ha;have kk:=tM k;exact ih a (B4 ha) _ c (E6 hf (B4 ha)) (by omega) kk.2 h4
 have kids:t.kind≠3→∀a∈t.kids,Gr b a:=fun h3 a ha=>by
  obtain ⟨j,hj⟩:=jN.1 ha;refine kid j a hj ?_;obtain ⟨c,k⟩:=Gn h hj;unfold Ec at k;rw [if_neg (show ¬(t.kind==3)=true by simpa using h3)] at k
  repeat' split at k
  all_goals first | (have:=L8 k;omega) | (have:=Yh k;omega) | (have:=cA k;omega)
 have hr:0≤t.kind∧t.kind≤18:=⟨k0,k18⟩;have hcases:t.kind=0∨t.kind=1∨t.kind=2∨t.kind=3∨t.kind=5∨t.kind=6∨t.kind=7∨t.kind=8∨t.kind=9∨t.kind=10∨t.kind=11∨t.kind=12∨t.kind=13∨t.kind=14∨t.kind=15∨t.kind=16∨t.kind=17∨t.kind=18:=by omega
 intro o v a ha R hb;have e:=Jb t
 have wsn:(t.kids.map Ak == [])=true↔¬0<t.kids.length:=by
  cases hq:t.kids <;> simp
 rcases hcases with hk | hk | hk | hk | hk | hk | hk | hk | hk | hk | hk | hk | hk | hk | hk | hk | hk | hk
 ·
  skip
  have e2:Ak t=(t.kids.map Ak).flatten:=by rw [e];unfold Fj;rw [hk];rfl
  rw [e2] at hb ⊢;exact Gv b o v a ha R t _ 207 [] [.ptr [.val (.pointer (some ⟨b,0,none⟩))]] hr (by rw [hk];rfl) (by kernel_rfl) (qF b o v a ha R t (kids (by omega)) hb)
 ·
  skip
  have e2:Ak t = [116,121,112,101,32]++t.text ++ [32,123]++(if 0<t.kids.length then [32]++Cz (t.kids.map Ak) ++ [32] else []) ++ [125,10]:=by
   rw [e];unfold Fj;rw [hk];show Md ++ [32]++t.text ++ [32,123]++(if (t.kids.map Ak == [])=true then [] else [32]++Cz (t.kids.map Ak) ++ [32]) ++ [125,10]=_;by_cases h0:0<t.kids.length
   · rw [if_pos h0,if_neg (fun h=>(wsn.1 h) h0)];simp
   rw [if_neg h0,if_pos (wsn.2 h0)];simp
  rw [e2] at hb ⊢;exact Gv b o v a ha R t _ 208 [.val (.pointer (some ⟨b,0,none⟩))] [] hr (by rw [hk];rfl) (by kernel_rfl) (w_decl b o v a ha R t (kids (by omega)) hb)
 ·
  skip
  have e2:Ak t=t.text++([58,32]:Am)++L5 t.num:=by rw [e];unfold Fj;rw [hk];rfl
  rw [e2] at hb ⊢;exact Gv b o v a ha R t _ 209 [] [.ptr [.val (.pointer (some ⟨b,0,none⟩))]] hr (by rw [hk];rfl) (by kernel_rfl) (w_field b o v a ha R t (bQ hfl hk) hb)
 ·
  skip
  obtain ⟨q0,q1,r,hq⟩:∃q0 q1 r,t.kids=q0::q1::r:=by
   unfold Ei at hs;rw [hk] at hs
   replace hs:decide (3≤(t.kids.length:Int))=true:=hs
   simp only [H5] at hs
   match hq:t.kids with
   | []=>rw [hq] at hs;simp at hs
   | [x]=>rw [hq] at hs;simp at hs
   | x::y::r=>exact ⟨x,y,r,rfl⟩
  have no4:∀(j:Nat) x,1≤j→t.kids[j]? = some x→x.kind≠4:=fun j x hj hx=>by
   obtain ⟨c,k⟩:=Gn h hx;unfold Ec at k;rw [hk] at k;have e3:((j:Int)==0)=false:=by simp;omega
   simp only [e3] at k
   replace k:(if ((j:Int)==1)=true then Pl.pats else Pl.exps).at x.kind=true:=k
   split at k
   · have:=cA k;omega
   have:=Yh k;omega
  have hq1:Gr b q1:=kid 1 q1 (by rw [hq];rfl) (no4 1 q1 (C4 _) (by rw [hq];rfl))
  have hqr:∀x∈r,Gr b x:=fun x hx=>by
   obtain ⟨j,hj⟩:=jN.1 hx;have hj2:t.kids[j+2]? = some x:=by rw [hq];simpa using hj
   exact kid (j+2) x hj2 (no4 (j+2) x (by omega) hj2)
  have e2:Ak t=([113,117,101,114,121,32]:Am)++t.text++(if !(q0.text == []) then ([32,98,121,32]:Am)++q0.text else [])++([10,109,97,116,99,104,32]:Am)++Ak q1++([10,114,101,116,117,114,110,32]:Am)++Cz (r.map Ak)++([59,10]:Am):=by
   rw [e];unfold Fj;rw [hk];show Fk ++ [32]++t.text++(if ((A3 t 0).text == [])=true then [] else [32]++Z0 ++ [32]++(A3 t 0).text) ++ [10]++Gb ++ [32]++(t.kids.map Ak).getD 1 [] ++ [10]++Gi ++ [32]++Cz ((t.kids.map Ak).drop 2) ++ [59,10]=_;have k0:A3 t 0=q0:=by unfold A3;rw [hq];rfl
   rw [k0,hq];show Fk ++ [32]++t.text++(if (q0.text == [])=true then [] else [32]++Z0 ++ [32]++q0.text) ++ [10]++Gb ++ [32]++Ak q1 ++ [10]++Gi ++ [32]++Cz (r.map Ak) ++ [59,10]=_;cases hc:(q0.text == [])
   · simp
   simp
  rw [e2] at hb ⊢;exact Gv b o v a ha R t _ 211 [.val (.pointer (some ⟨b,0,none⟩))] [] hr (by rw [hk];rfl) (by kernel_rfl) (zG b o v a ha R t q0 q1 r hq hq1 hqr hb)
 ·
  skip
  have e2:Ak t=t.text++([32]:Am)++t.name++(if h:0<t.kids.length then ([32,105,102,32]:Am)++Ak t.kids[0] else []):=by
   rw [e];unfold Fj;rw [hk];show t.text ++ [32]++t.name++(if (t.kids.map Ak == [])=true then [] else [32]++Y8 ++ [32]++(t.kids.map Ak).getD 0 [])=_;by_cases h0:0<t.kids.length
   ·
    rw [dif_pos h0,if_neg (fun h=>(wsn.1 h) h0)];have:(t.kids.map Ak).getD 0 []=Ak t.kids[0]:=by rw [N2,List.getElem?_map,List.getElem?_eq_getElem h0];rfl
    rw [this];simp
   rw [dif_neg h0,if_pos (wsn.2 h0)]
  rw [e2] at hb ⊢;exact Gv b o v a ha R t _ 212 [.val (.pointer (some ⟨b,0,none⟩))] [] hr (by rw [hk];rfl) (by kernel_rfl) (w_event b o v a ha R t (kids (by omega)) hb)
 ·
  skip
  have e2:Ak t=Ru++([40]:Am)++Cz (t.kids.map Ak)++(if t.kind==11 then ([44,32]:Am)++Lib.itoa t.num else [])++([41]:Am):=by rw [e];unfold Fj;rw [hk];rfl
  rw [e2] at hb ⊢;exact Gv b o v a ha R t _ 269 [] [.ptr [.val (.pointer (some ⟨b,0,none⟩))],.ptr [.str Ru]] hr (by rw [hk];rfl) (by kernel_rfl) (N0 b o v a ha R t Ru hi64 (kids (by omega)) hb)
 ·
  skip
  have e2:Ak t=Rs++([40]:Am)++Cz (t.kids.map Ak)++(if t.kind==11 then ([44,32]:Am)++Lib.itoa t.num else [])++([41]:Am):=by rw [e];unfold Fj;rw [hk];rfl
  rw [e2] at hb ⊢;exact Gv b o v a ha R t _ 269 [] [.ptr [.val (.pointer (some ⟨b,0,none⟩))],.ptr [.str Rs]] hr (by rw [hk];rfl) (by kernel_rfl) (N0 b o v a ha R t Rs hi64 (kids (by omega)) hb)
 ·
  skip
  have e2:Ak t=Rr++([40]:Am)++Cz (t.kids.map Ak)++(if t.kind==11 then ([44,32]:Am)++Lib.itoa t.num else [])++([41]:Am):=by rw [e];unfold Fj;rw [hk];rfl
  rw [e2] at hb ⊢;exact Gv b o v a ha R t _ 269 [] [.ptr [.val (.pointer (some ⟨b,0,none⟩))],.ptr [.str Rr]] hr (by rw [hk];rfl) (by kernel_rfl) (N0 b o v a ha R t Rr hi64 (kids (by omega)) hb)
 ·
  skip
  have e2:Ak t=Lr++([40]:Am)++Cz (t.kids.map Ak)++(if t.kind==11 then ([44,32]:Am)++Lib.itoa t.num else [])++([41]:Am):=by rw [e];unfold Fj;rw [hk];rfl
  rw [e2] at hb ⊢;exact Gv b o v a ha R t _ 269 [] [.ptr [.val (.pointer (some ⟨b,0,none⟩))],.ptr [.str Lr]] hr (by rw [hk];rfl) (by kernel_rfl) (N0 b o v a ha R t Lr hi64 (kids (by omega)) hb)
 ·
  skip
  have e2:Ak t=Jr++([40]:Am)++Cz (t.kids.map Ak)++(if t.kind==11 then ([44,32]:Am)++Lib.itoa t.num else [])++([41]:Am):=by rw [e];unfold Fj;rw [hk];rfl
  rw [e2] at hb ⊢;exact Gv b o v a ha R t _ 269 [] [.ptr [.val (.pointer (some ⟨b,0,none⟩))],.ptr [.str Jr]] hr (by rw [hk];rfl) (by kernel_rfl) (N0 b o v a ha R t Jr hi64 (kids (by omega)) hb)
 ·
  skip
  have e2:Ak t=Ht++([40]:Am)++Cz (t.kids.map Ak)++(if t.kind==11 then ([44,32]:Am)++Lib.itoa t.num else [])++([41]:Am):=by rw [e];unfold Fj;rw [hk];rfl
  rw [e2] at hb ⊢;exact Gv b o v a ha R t _ 269 [] [.ptr [.val (.pointer (some ⟨b,0,none⟩))],.ptr [.str Ht]] hr (by rw [hk];rfl) (by kernel_rfl) (N0 b o v a ha R t Ht hi64 (kids (by omega)) hb)
 ·
  skip
  have e2:Ak t=Ha++([40]:Am)++Cz (t.kids.map Ak)++(if t.kind==11 then ([44,32]:Am)++Lib.itoa t.num else [])++([41]:Am):=by rw [e];unfold Fj;rw [hk];rfl
  rw [e2] at hb ⊢;exact Gv b o v a ha R t _ 269 [] [.ptr [.val (.pointer (some ⟨b,0,none⟩))],.ptr [.str Ha]] hr (by rw [hk];rfl) (by kernel_rfl) (N0 b o v a ha R t Ha hi64 (kids (by omega)) hb)
 ·
  skip
  have e2:Ak t=Ss t:=by rw [e];unfold Fj;rw [hk];rfl
  rw [e2] at hb ⊢;exact Gv b o v a ha R t _ 214 [.val (.pointer (some ⟨b,0,none⟩))] [] hr (by rw [hk];rfl) (by kernel_rfl) (kP b o v a ha R t hi64 (Yn hf).1 hb)
 ·
  skip
  have e2:Ak t=t.text++([46]:Am)++t.name:=by rw [e];unfold Fj;rw [hk];rfl
  rw [e2] at hb ⊢;exact Gv b o v a ha R t _ 215 [] [.ptr [.val (.pointer (some ⟨b,0,none⟩))]] hr (by rw [hk];rfl) (by kernel_rfl) (w_ref b o v a ha R t hb)
 ·
  skip
  have e2:Ak t=([99,111,117,110,116,40]:Am)++t.text++([41]:Am):=by rw [e];unfold Fj;rw [hk];rfl
  rw [e2] at hb ⊢;exact Gv b o v a ha R t _ 216 [] [.ptr [.val (.pointer (some ⟨b,0,none⟩))]] hr (by rw [hk];rfl) (by kernel_rfl) (w_count b o v a ha R t hb)
 ·
  skip
  have e2:Ak t=Zo t.num++([40]:Am)++t.text++([46]:Am)++t.name++Kl (t.kids.map Ak)++([41]:Am):=by
   rw [e];unfold Fj;rw [hk];show Zo t.num ++ [40]++t.text ++ [46]++t.name++(if (t.kids.map Ak == [])=true then [] else [44,32]++(t.kids.map Ak).getD 0 []) ++ [41]=_;unfold Ei at hs;rw [hk] at hs
   replace hs:(if (t.num==1)=true then ((t.kids.length:Int)==0) else ((t.kids.length:Int)==1))=true:=hs
   have hl:t.kids.length≤1:=by split at hs <;> (simp only [beq_iff_eq] at hs;omega)
   match hq:t.kids with
   | []=>rfl
   | [x]=>simp [Kl]
   | x::y::r=>rw [hq] at hl;simp at hl
  rw [e2] at hb ⊢;exact Gv b o v a ha R t _ 217 [.val (.pointer (some ⟨b,0,none⟩))] [] hr (by rw [hk];rfl) (by kernel_rfl) (zD b o v a ha R t (aR hfl hk) (kids (by omega)) hb)
 ·
  skip
  unfold Ei at hs;rw [hk] at hs
  replace hs:((t.kids.length:Int)==2)=true:=hs
  obtain ⟨x0,x1,hq⟩:=wJ (by simpa using hs)
  have e2:Ak t=F8 t x0 (Ak x0)++([32]:Am)++Ld t.num++([32]:Am)++F8 t x1 (Ak x1):=by
   rw [e];unfold Fj;rw [hk];show F8 t (A3 t 0) ((t.kids.map Ak).getD 0 []) ++ [32]++Ld t.num ++ [32]++F8 t (A3 t 1) ((t.kids.map Ak).getD 1 [])=_;have k0:A3 t 0=x0:=by unfold A3;rw [hq];rfl
   have k1:A3 t 1=x1:=by unfold A3;rw [hq];rfl
   rw [k0,k1,hq];rfl
  rw [e2] at hb ⊢;exact Gv b o v a ha R t _ 218 [.val (.pointer (some ⟨b,0,none⟩))] [] hr (by rw [hk];rfl) (by kernel_rfl) (uS b o v a ha R t x0 x1 (by rw [hq];rfl) (by rw [hq];rfl) (by have:=nZ hfl hk;omega) (kids (by omega) x0 (by rw [hq];simp)) (kids (by omega) x1 (by rw [hq];simp)) hb)
 skip
 unfold Ei at hs;rw [hk] at hs
 replace hs:((t.kids.length:Int)==1)=true:=hs
 obtain ⟨x0,hq⟩:=wY (by simpa using hs)
 have e2:Ak t=([110,111,116,32]:Am)++F8 t x0 (Ak x0):=by
  rw [e];unfold Fj;rw [hk];show Ur ++ [32]++F8 t (A3 t 0) ((t.kids.map Ak).getD 0 [])=_;have k0:A3 t 0=x0:=by unfold A3;rw [hq];rfl
  rw [k0,hq];rfl
 rw [e2] at hb ⊢;exact Gv b o v a ha R t _ 219 [] [.ptr [.val (.pointer (some ⟨b,0,none⟩))]] hr (by rw [hk];rfl) (by kernel_rfl) (w_not b o v a ha R t x0 (by rw [hq];rfl) (kids (by omega) x0 (by rw [hq];simp)) hb)
set_option maxHeartbeats 3200000
set_option maxRecDepth 20000

theorem Q8 {t:Syn}{p:Pl}{e:Int}(h:Ro p t=e)(he:e≠0):A4 t p=e:=by
 rw [Qv,h,if_pos (by simpa using he)]
theorem mQ {t:Syn}{p:Pl}(h:Ro p t=0):A4 t p=Ko t 0 (t.kids.drop 0):=by
 rw [Qv,h,if_neg (by decide),Tm]
theorem Zw {t x:Syn}{k:Nat}(h:t.kids[k]? = some x):Ko t k (t.kids.drop k)=if (A4 x (Ec t k) != 0) then A4 x (Ec t k) else Ko t (k+1) (t.kids.drop (k+1)):=by
 obtain ⟨h1,rfl⟩:=List.getElem?_eq_some_iff.1 h;rw [Wt h1,Ko]
theorem gZ {t x:Syn}{k:Nat}(h:t.kids[k]? = some x):Ff t.kind (t.kids.drop k)=max (Fz x+(if G1 t.kind x.kind then 1 else 0)) (Ff t.kind (t.kids.drop (k+1))):=by
 obtain ⟨h1,rfl⟩:=List.getElem?_eq_some_iff.1 h;rw [Wt h1,Ff]
theorem aS {t:Syn}(h:E7 t):Fz t≤2000000:=by
 have h1:=bV t;have h2:=Hz h;omega

theorem w_check (t:Syn)(p:Pl)(hfew:E7 t):Ap Tryz.prog 147 [.agg (cSyn t),eW p] (.int .i64 (A4 t p)):=by
 revert p hfew
 induction t using Syn.ind
 rename_i t ih;intro p hfew;have hkl:=Hy hfew;have htx:=Yn hfew;obtain ⟨f,first,cap,hv,hfn,hP⟩:=pl_fn p;rw [hv];refine Ap.body (n:=45) tok Tryz.func147 rfl rfl rfl fun H=>?_
 refine Ae (Qp (Gc Au) (Qp Al (Re (AW.block (Ae ?_)))));refine Qp (A1 (v:=.fn _ _ _) rfl) (Qp (Qf Au) (Qp Bi (Qp (Nj hfn rfl rfl rfl (hP t.kind)) (Qp Et (Qp A0 (Ag (Aq (fun hc1=>Ae (Qp Al (Ra (Qr (Iq _) ?_)))) fun hc1=>Ae (Qp (B0 Au) (Qp (Qc rfl (wR t)) (Qp Et (Qp A0 (Ag (Aq (fun hc2=>Ae (Qp Al (Ra (Qr (Iq _) ?_)))) fun hc2=>?_)))))))))))))
 ·
  have h9:A4 t p=1:=Q8 (if_pos hc1) (by decide);rw [h9];rfl
 ·
  have h9:A4 t p=15:=Q8 ((Bl hc1).trans (if_pos hc2)) (by decide);rw [h9];rfl
 refine Ae (Qp (B0 Au) (Qp (Qc rfl (w_named t htx.1 htx.2)) (Qp Et (Qp A0 (Ag (Aq (fun hc3=>Ae (Qp Al (Ra (Qr (Iq _) ?_)))) fun hc3=>Rf (Bk (Qp (B0 Au) (Qp (Qc rfl (yQ t)) (Qp Al (Bs (Qp Ao (Qp Br (Ag (Aq (fun hc4=>Ae (Qp Ao (Qp Al (Rc (Qr (Iq _) ?_))))) fun hc4=>?_)))))))))))))))
 ·
  have h9:A4 t p=8:=Q8 (((Bl hc1).trans (Bl hc2)).trans (if_pos hc3)) (by decide);rw [h9];rfl
 ·
  have h9:A4 t p=C9 t:=Q8 (((Bl hc1).trans (Bl hc2)).trans (Bl hc3)) (by simpa using hc4);rw [h9];rfl
 have h0:Ro p t=0:=by unfold Ro;rw [Bl hc1,Bl hc2,Bl hc3];simpa using hc4
 refine Bg (Bk (Qp (Qf Kg) (Qp Cw ?_)));refine Qp (Ah (n:=t.kids.length) tok rfl rfl rfl (by simp)) ?_;refine Qp Ao (Ag (AW.block ?_));refine AW.Aag (fun (k:Nat)=>(⟨[(2,.ptr (cSyn t)),(29,.sl 6 (t.kids.map Cl)),(30,.int .i64 t.kids.length),(31,.int .i64 (k:Int))],H,45⟩:St)) (fun k=>k≤t.kids.length∧A4 t p=Ko t k (t.kids.drop k)) (fun k=>t.kids.length-k) (0) ?_ Cs ?_
 · exact ⟨E2 _,mQ h0⟩
 rintro k hR;refine Ae (Qp Bx (Re (Aq (fun hc5=>?_) fun hc5=>?_)))
 ·
  obtain ⟨x,hx⟩:=zU (l:=t.kids) (k:=k) (by have:=Ir hc5;omega);have hlt:=Tq hx;have hm:=B4 hx;refine Bg (AW.seq (AW.block (Ae (Qp Ao ?_))));refine Qp (Aa (c:=Au) tok rfl rfl rfl rfl rfl rfl (by omega) (Fc hx)) ?_;refine Qp (B0 Au) (Ed Kz fun b7=>Qp Al ?_);refine Bt 0 Au (_::_) ?_;refine AOL.ghost (GS.freeze (t:=7) 0 rfl rfl) ?_;refine Re ?_;refine Ol ?_;refine Qn 0 rfl (B0 Au) (Qn 1 rfl (B0 Au) (Qn 2 rfl Ao ?_));refine Qn 3 rfl (Qc rfl (w_kid t k hlt (by omega))) ?_;refine Qn 4 rfl (Qc rfl (ih x hm (Ec t k) (E6 hfew hm))) (Qn 5 rfl Al ?_);refine Hs ?_;refine Bh (Ae (Qp Ao (Qp Br (Ag (Aq (fun hc6=>Ae (Qp Ao (Qp Al (Ra (Be (Db (Be (Qr (Iq _) ?_)))))))) fun hc6=>Rf (AW.region (Qp E9 (Qp Ao (Ag ?_)))))))))
  ·
   have h9:A4 t p=A4 x (Ec t k):=by rw [hR.2,Zw hx,if_pos hc6]
   rw [h9];rfl
  refine ⟨k+1,?_,?_,Cs⟩
  · exact ⟨hlt,by rw [hR.2,Zw hx,Bl hc6]⟩
  omega
 have hk:t.kids.length≤k:=by have:=Lt hc5;omega
 refine AW.exit ?_;refine Bq (Ri (Ae (Qp Al (Rb ?_))));refine Qr (Iq _) ?_;have h9:A4 t p=0:=by rw [hR.2,Wd hk,Ko]
 rw [h9];rfl
theorem w_depth (t:Syn)(hfew:E7 t):Ap Tryz.prog 148 [.agg (cSyn t)] (.int .i64 (Fz t:Int)):=by
 revert hfew
 induction t using Syn.ind
 rename_i t ih;intro hfew;have hkl:=Hy hfew;refine Ap.body (n:=43) tok Tryz.func148 rfl rfl rfl fun H=>?_
 refine Ae (Qp (Gc Au) (Qp Al (Bs (Qp Al (Ag (Bk (Qp (Qf Kg) (Qp Cw ?_))))))));refine Qp (Ah (n:=t.kids.length) tok rfl rfl rfl (by simp)) ?_;refine Qp Ao (Ag (AW.block ?_));refine AW.Aag (fun (p:Nat×Nat)=>(⟨[(1,.ptr (cSyn t)),(3,.int .i64 (p.2:Int)),(8,.sl 6 (t.kids.map Cl)),(9,.int .i64 t.kids.length),(10,.int .i64 (p.1:Int))],H,43⟩:St)) (fun p=>p.1≤t.kids.length∧Ff t.kind t.kids=max p.2 (Ff t.kind (t.kids.drop p.1))∧p.2≤5000000) (fun p=>t.kids.length-p.1) ((0,0)) ?_ Cs ?_
 · exact ⟨E2 _,by simp,E2 _⟩
 rintro p hR;refine Ae (Qp Bx (Re (Aq (fun hc1=>?_) fun hc1=>?_)))
 ·
  obtain ⟨x,hx⟩:=zU (l:=t.kids) (k:=p.1) (by have:=Ir hc1;omega);have hlt:=Tq hx;have hm:=B4 hx;have hdx:=aS (E6 hfew hm);have hd2:=gZ hx;refine Bg (AW.seq (AW.block (Ae ?_)));refine Qp (Aa (c:=Au) tok rfl rfl rfl rfl rfl rfl (by omega) (Fc hx)) ?_;refine Qp (B0 Au) (Ed Kz fun b5=>?_);refine Bt 0 Au (_::_) ?_;refine AOL.ghost (GS.freeze (t:=5) 0 rfl rfl) ?_;refine Bs (Qp (B0 Au) (Qp (Qc rfl (ih x hm (E6 hfew hm))) (Qp Al (Ag (Bk (Qp (Qf Au) (Qp Bi (Qp (Qf Au) (Qp Bi (Qp (Qc rfl (fO t.kind x.kind)) (Ag (Aq (fun hc2=>?_) fun hc2=>?_))))))))))))
  ·
   rw [if_pos hc2] at hd2;refine AW.region (Qp Ao (Qp E9 (Qp Al (Ag (AW.region (Qp Ao (Qp Ao (Qp (Y1 rfl rfl) (Qp Al (Rk (AW.region (Qp E9 (Qp Ao (Ag ?_))))))))))))));refine ⟨(p.1+1,max p.2 (Fz x+1)),?_,?_,GS.weaken ⟨rfl,congrArg (AV.int .i64) (by simp only;omega),rfl,rfl,rfl,trivial⟩ (.refl _)⟩
   · exact ⟨hlt,by simp only;omega,by simp only;omega⟩
   simp only;omega
  rw [Bl hc2] at hd2;refine Bg (AW.region (Qp Ao (Qp Ao (Qp (Y1 rfl rfl) (Qp Al (Rk (AW.region (Qp E9 (Qp Ao (Ag ?_))))))))));refine ⟨(p.1+1,max p.2 (Fz x)),?_,?_,GS.weaken ⟨rfl,congrArg (AV.int .i64) (by simp only;omega),rfl,rfl,rfl,trivial⟩ (.refl _)⟩
  · exact ⟨hlt,by simp only;omega,by simp only;omega⟩
  simp only;omega
 have hk:t.kids.length≤p.1:=by have:=Lt hc1;omega
 have he:=hR.2.1;rw [Wd hk,Ff] at he;have hfd:=aS hfew;have hde:=M8 t;refine AW.exit ?_;refine Bq (Ri (Bk (Qp (Qf Au) (Qp Bi (Qp Av (Qp A9 ?_))))));refine Qg [] Qw (Qf Au) (Qg [(31,_)] Qw Bi ?_);refine Qg [(32,_)] Qw (Qc rfl (tC t.kind)) (Qg [(33,_)] Qw A9 (Qg [] Qw (Qf Au) (Qg [(35,_)] Qw Bi (Qg [(36,_)] Qw Br (Qg [(34,_),(37,_)] Qw E0 (Qp B9 (Ag (Aq (fun hc3=>AW.region (Qp Ao (Qp E9 (Qp Al (Bs (Qp Ao (Qp Al (Rb (Qr (Iq _) ?_))))))))) fun hc3=>?_))))))))
 ·
  have h9:Fz t=p.2+1:=by rw [hde,if_pos hc3];omega
  rw [h9];rfl
 refine Bg (Ae (Qp Ao (Qp Al (Rb (Qr (Iq _) ?_)))));have h9:Fz t=p.2:=by rw [hde,Bl hc3];omega
 rw [h9];rfl
set_option maxHeartbeats 3200000
set_option maxRecDepth 20000

theorem jI {t x:Syn}{k:Nat}{n:Int}(h:t.kids[k]? = some x)(hn:decide (n≤200)=true):Ib (t.kids.drop k) n=Ib (t.kids.drop (k+1)) (IntKind.i64.wrap (n+H9 x)):=by
 obtain ⟨h1,rfl⟩:=List.getElem?_eq_some_iff.1 h;rw [Wt h1,Ib,if_pos hn]
theorem hM {l:List Syn}{n:Int}(hn:decide (n≤200)=false):Ib l n=n:=by
 cases l with
 | nil=>rw [Ib]
 | cons x r=>rw [Ib,if_neg (by rw [hn];decide)]
theorem lE {t x:Syn}{k:Nat}{d:Int}(h:t.kids[k]? = some x):To (t.kids.drop k) d=To (t.kids.drop (k+1)) (max d (Rx x)):=by
 obtain ⟨h1,rfl⟩:=List.getElem?_eq_some_iff.1 h;rw [Wt h1,To]
theorem bN {t x:Syn}{k:Nat}(h:t.kids[k]? = some x):Xu (t.kids.drop k)=if !(I7 x) then false else Xu (t.kids.drop (k+1)):=by
 obtain ⟨h1,rfl⟩:=List.getElem?_eq_some_iff.1 h;rw [Wt h1,Xu]
def Pl.fine (p:Pl):Prop:=∀k,p.at k=true→0≤k∧k≤18∧k≠4
theorem gU:Pl.fine (.only 3):=fun k h=>by have:=L8 h;omega
theorem zH (t:Syn):Ap Tryz.prog 38 [.agg (cSyn t),.int .i64 200] (.int .i64 (H9 t)):=by
 skip
 induction t using Syn.ind
 rename_i t ih
 skip
 refine Ap.body (n:=29) tok Tryz.func38 rfl rfl rfl fun H=>?_
 refine Ae (Qp (Gc Au) (Qp Al (Bs (Qp Al (Ag (Bk (Qp Al (Ag (AW.block ?_)))))))));refine AW.Aag (fun (p:Nat×Int)=>(⟨[(1,.int .i64 200),(2,.ptr (cSyn t)),(5,.int .i64 p.2),(6,.int .i64 (p.1:Int))],H,29⟩:St)) (fun p=>p.1≤t.kids.length∧H9 t=Ib (t.kids.drop p.1) p.2) (fun p=>t.kids.length-p.1) ((0,1)) ?_ Cs ?_
 · exact ⟨E2 _,by rw [aL,Tm]⟩
 rintro p hR;refine Bk (Qp Ao (Qp (Qf Kg) (Qp Cw (AOL.know 9 rfl fun hml=>?_))));simp only [Dx,maxLen] at hml;refine Qp (Ah (n:=t.kids.length) tok rfl rfl rfl (by simp)) ?_;refine Qp Bx (Qp A9 (Qg [] Qw Ao (Qg [] Qw Ao (AOL.g (y:=.bool _) _ [(13,_),(14,_)] rfl (qZ.all ⟨Ent.Aad _ _,Ent.Aad _ _,trivial⟩) (fun hG=>jF rfl rfl) rfl ?_))));refine Qp E0 (Ag (Aq (fun hc1=>?_) fun hc1=>?_))
 ·
  rw [Gs] at hc1;obtain ⟨x,hx⟩:=zU (l:=t.kids) (k:=p.1) (by have:=Ir hc1.1;omega);have hlt:=Tq hx;have hm:=B4 hx;refine Bg (AW.seq (AW.block (AW.region (Qp Ao (Qp (Qf Kg) (Qp Cw (Qp Ao ?_)))))));refine Qp (Aa (c:=Au) tok rfl rfl rfl rfl rfl rfl (by omega) (Fc hx)) ?_;refine Qp (B0 Au) (Qp Ao (Qp (Qc rfl (ih x hm)) (Qp (cK rfl rfl) (Qp Al (Rk (AW.region (Qp Ao (Qp E9 (Qp Al (Ag ?_))))))))));refine ⟨(p.1+1,IntKind.i64.wrap (p.2+H9 x)),?_,?_,Cs⟩
  · exact ⟨hlt,by rw [hR.2,jI hx hc1.2]⟩
  simp only;omega
 rw [Bool.and_eq_false_iff] at hc1;refine AW.exit ?_;refine Bq (Ri (Ae (Qp Ao (Qp Al (Rb ?_)))));refine Qr (Iq _) ?_
 have h9:H9 t=p.2:=by
  rw [hR.2];rcases hc1 with h | h
  · rw [Wd (by have:=Lt h;omega),Ib]
  exact hM h
 rw [h9];rfl
theorem f_depth (t:Syn):Ap Tryz.prog 39 [.agg (cSyn t)] (.int .i64 (Rx t)):=by
 skip
 induction t using Syn.ind
 rename_i t ih
 skip
 refine Ap.body (n:=22) tok Tryz.func39 rfl rfl rfl fun H=>?_
 refine Ae (Qp (Gc Au) (Qp Al (Bs (Qp Al (Ag (Bk (Qp Al (Ag (AW.block ?_)))))))));refine AW.Aag (fun (p:Nat×Int)=>(⟨[(1,.ptr (cSyn t)),(3,.int .i64 p.2),(4,.int .i64 (p.1:Int))],H,22⟩:St)) (fun p=>p.1≤t.kids.length∧To t.kids 0=To (t.kids.drop p.1) p.2) (fun p=>t.kids.length-p.1) ((0,0)) ?_ Cs ?_
 · exact ⟨E2 _,by rw [Tm]⟩
 rintro p hR;refine Bk (Qp Ao (Qp (Qf Kg) (Qp Cw (AOL.know 7 rfl fun hml=>?_))));simp only [Dx,maxLen] at hml;refine Qp (Ah (n:=t.kids.length) tok rfl rfl rfl (by simp)) ?_;refine Qp Bx (Ag (Aq (fun hc1=>?_) fun hc1=>?_))
 ·
  obtain ⟨x,hx⟩:=zU (l:=t.kids) (k:=p.1) (by have:=Ir hc1;omega);have hlt:=Tq hx;have hm:=B4 hx;refine Bg (AW.seq (AW.block (AW.region (Qp Ao (Qp (Qf Kg) (Qp Cw (Qp Ao ?_)))))));refine Qp (Aa (c:=Au) tok rfl rfl rfl rfl rfl rfl (by omega) (Fc hx)) ?_;refine Qp (B0 Au) (Qp (Qc rfl (ih x hm)) (Qp (Y1 rfl rfl) (Qp Al (Rk (AW.region (Qp Ao (Qp E9 (Qp Al (Ag ?_)))))))));refine ⟨(p.1+1,max p.2 (Rx x)),?_,?_,Cs⟩
  · exact ⟨hlt,by rw [hR.2,lE hx]⟩
  simp only;omega
 have hk:t.kids.length≤p.1:=by have:=Lt hc1;omega
 refine AW.exit ?_;refine Bq (Ri (Ae (Qp Ao ?_)));refine Qp (cK rfl rfl) (Qp Al (Rb (Qr (Iq _) ?_)));have h9:Rx t=IntKind.i64.wrap (p.2+1):=by rw [vV,hR.2,Wd hk,To]
 rw [h9];rfl
theorem f_few (t:Syn):Ap Tryz.prog 11 [.agg (cSyn t)] (.bool (I7 t)):=by
 skip
 induction t using Syn.ind
 rename_i t ih
 skip
 refine Ap.body (n:=38) tok Tryz.func11 rfl rfl rfl fun H=>?_
 refine Ae (Qp (Gc Au) (Qp A0 (Ag (Bk (Qp (Qf Wv) (Qp Hc (Qp (B8 (n:=t.text.length) tok rfl rfl rfl (rfl)) (Qp Ej (Qp A9 (Qg [] Qw (Qf eX) (Qg [(9,_)] Qw Hc (AOL.g (y:=Iq _) _ [(10,_)] rfl (qZ.all ⟨Ent.Aad _ _,trivial⟩) (fun hG=>B8 (n:=t.name.length) tok rfl rfl rfl (rfl)) rfl ?_))))))))))));refine Qg [(11,_)] Qw Ej (Qp B9 (Qp A9 (Qg [] Qw (B0 Au) ?_)));refine Qg [(15,_)] Qw (Qc rfl (zH t)) (Qg [(16,_)] Qw Ej (Qp B9 (Qp A9 (Qg [] Qw (B0 Au) (Qg [(20,_)] Qw (Qc rfl (f_depth t)) (Qg [(21,_)] Qw Ej (Qp B9 (Ag (Aq (fun hc1=>Ae (Qp A0 (Rc (Qr (.bool _) ?_)))) fun hc1=>Bg (Bk (Qp Al (Ag (AW.block ?_)))))))))))))
 ·
  have h9:I7 t=false:=by rw [cW,if_pos hc1]
  rw [h9];rfl
 refine AW.Aag (fun (k:Nat)=>(⟨[(1,.ptr (cSyn t)),(3,.int .i64 (k:Int))],H,38⟩:St)) (fun k=>k≤t.kids.length∧I7 t=Xu (t.kids.drop k)) (fun k=>t.kids.length-k) (0) ?_ Cs ?_
 · exact ⟨E2 _,by rw [cW,Bl hc1,Tm]⟩
 rintro k hR;refine Bk (Qp Ao (Qp (Qf Kg) (Qp Cw (AOL.know 26 rfl fun hml=>?_))));simp only [Dx,maxLen] at hml;refine Qp (Ah (n:=t.kids.length) tok rfl rfl rfl (by simp)) ?_;refine Qp Bx (Ag (Aq (fun hc2=>?_) fun hc2=>?_))
 ·
  obtain ⟨x,hx⟩:=zU (l:=t.kids) (k:=k) (by have:=Ir hc2;omega);have hlt:=Tq hx;have hm:=B4 hx;refine Bg (AW.seq (AW.block (Ae (Qp (Qf Kg) (Qp Cw (Qp Ao ?_))))));refine Qp (Aa (c:=Au) tok rfl rfl rfl rfl rfl rfl (by omega) (Fc hx)) ?_;refine Qp (B0 Au) (Qp (Qc rfl (ih x hm)) (Qp Et (Ag (Aq (fun hc3=>Ae (Qp A0 (Ra (Be (Db (Be (Qr (.bool _) ?_))))))) fun hc3=>Rf (AW.region (Qp Ao (Qp E9 (Qp Al (Ag ?_)))))))))
  ·
   have h9:I7 t=false:=by rw [hR.2,bN hx,if_pos hc3]
   rw [h9];rfl
  refine ⟨k+1,?_,?_,Cs⟩
  · exact ⟨hlt,by rw [hR.2,bN hx,Bl hc3]⟩
  omega
 have hk:t.kids.length≤k:=by have:=Lt hc2;omega
 refine AW.exit ?_;refine Bq (Ri (Ae (Qp A0 (Rb ?_))));refine Qr (.bool _) ?_;have h9:I7 t=true:=by rw [hR.2,Wd hk,Xu]
 rw [h9];rfl
theorem qW (t:Syn)(p:Pl)(hfew:E7 t)(hp:p.fine):Ap Tryz.prog 87 [.agg (cSyn t),eW p] (.tuple [.str (By t p).1,.int .i64 (By t p).2]):=by
 obtain ⟨f,first,cap,hv,hfn,hP⟩:=pl_fn p;have hck:=w_check t p hfew;rw [hv] at hck ⊢;refine Ap.body (n:=30) tok Tryz.func87 rfl rfl rfl fun H=>?_
 refine Ae (Qp (Gc Au) (Qp Tu (Qp Al (Ag (Bk (Qp (B0 Au) (Qp (A1 (v:=.fn _ _ _) rfl) (Qp (Qc rfl (hck)) (Qp Al (Bs (Qp Ao (Qp Br (Ag (Aq (fun hc1=>Ae (Qp Ao (Qp Tu (Qp Al (Rc (Mf (.str _) (Iq _) ?_)))))) fun hc1=>?_))))))))))))))
 ·
  have h9:By t p=([],A4 t p):=if_pos hc1;rw [h9];rfl
 have h0:A4 t p=0:=by simpa using hc1
 have hkd:=hp _ (Gq (F6 h0).1).1;have hwl:=med_big h0 hfew;refine Bg (Bk (Qp (B0 Au) (Qp (Qc rfl (w_depth t hfew)) (Qp Ej (Ag (Aq (fun hc2=>Ae (Qp Tu (Qp Al (Rc (Mf (.str _) (Iq _) ?_))))) fun hc2=>Bg (Ae (Qe (Cu rfl (w_new _)) ?_))))))))
 ·
  have h9:By t p=([],12):=(Bl hc1).trans (if_pos hc2);rw [h9];rfl
 rintro _ _ ⟨b17,rfl,rfl⟩;refine Qp Ua (Bs (Qp Bm (Qp (B0 Au) ?_)));refine Qe (Cu rfl (node_ok b17 t p h0 hfew hkd.1 hkd.2.1 hkd.2.2 [] _ _ (.inl rfl) _ (by show 0+(Ak t).length≤aO;unfold aO;omega))) ?_;rintro _ _ ⟨v20,a20,rfl,ha20,rfl⟩;refine Ag (Bk (Qp Bm (Qp (Af rfl) (Qp B7 (lV (k_blen b17 216 _ _ _ _ _) (Qp Ej (Ag (Aq (fun hc3=>Ae (Qp Tu (Qp Al (Rc ?_)))) fun hc3=>Bg (Ae (Qp Bm (Qp (Af rfl) (Qp B7 (lV (tL b17 216 _ _ _ _ _) (Qp Tu (Qp Al (Rb ?_))))))))))))))))
 ·
  refine ⟨.inr rfl,Jz,.cons (.tmp _ _ rfl) <| .cons (.tmp _ _ rfl) <| .nil,.cons _ (.cons _ (.refl _)),?_⟩;have h9:By t p=([],13):=((Bl hc1).trans (Bl hc2)).trans (if_pos hc3);rw [h9];rfl
 refine ⟨.inr rfl,Jz,.cons (.tmp _ _ rfl) <| .cons (.tmp _ _ rfl) <| .nil,.cons _ (.cons _ (.refl _)),?_⟩;have h9:By t p=(Ak t,0):=((Bl hc1).trans (Bl hc2)).trans (Bl hc3);rw [h9];rfl
theorem zK (t:Syn)(hfew:E7 t):Ap Tryz.prog 45 [.agg (cSyn t)] (.tuple [.str (By t (.only 3)).1,.int .i64 (By t (.only 3)).2]):=by
 refine Ap.body (n:=9) tok Tryz.func45 rfl rfl rfl fun H=>?_
 refine Ae (Qp (Gc Au) (Qp Tu (Qp Al (Re ?_))));refine Ol ?_;refine Qn 0 rfl (B0 Au) (Qn 1 rfl (Qc rfl (Sd _)) (Qn 2 rfl (Qc rfl (qW t (.only 3) hfew gU)) (Qn 3 rfl Qxt (Qn 4 rfl Iu (Qn 5 rfl Tu (Qn 6 rfl Al ?_))))));refine Hs ?_;refine Bh (AW.ret (Mf (.str _) (Iq _) ?_));rfl
set_option maxHeartbeats 1600000
set_option maxRecDepth 20000

theorem O5 (T:List e8Sc)(hl:T.length≤1048576)(hs:∀s∈T,Zj s)(t:Syn)(ht:E7 t):Ap Tryz.prog 14 [.sl 2 (T.map Mt),.agg (cSyn t)] (.tuple [.agg (cQy (Dr T t).1),.int .i64 (Dr T t).2.1,.int .i64 (Dr T t).2.2]):=by
 refine Ap.body (n:=37) tok Tryz.func14 rfl rfl rfl fun H=>?_
 refine Ae (Qp (Gc Au) (Ed rY fun b4=>Qp Al (Qp Al (Ag (Bk (Qp G4 (Qp (Qc rfl (e8c57 T hl hs)) (Qp Al (Bs (Qp Ao (Qp Br (Ag (Aq (fun hc1=>Ae (Qp (E4 It) (Qp Ao ?_))) fun hc1=>?_)))))))))))))
 ·
  refine Bt 0 It (_::_) ?_;refine Qp Al (Qp Al (Rc ?_));refine ⟨.inr rfl,[.agg It,Iq _,Iq _],.cons (.box _ _ _ 0 _ _ _ _ rfl rfl rfl rfl rfl rfl) <| .cons (.tmp _ _ rfl) <| .cons (.tmp _ _ rfl) <| .nil,.cons _ (.refl _),?_⟩;exact Eq.trans rfl (congrArg (fun q:Qy×Int×Int=>AV.tuple [.agg (cQy q.1),.int .i64 q.2.1,.int .i64 q.2.2]) (qp_1 T t hc1)).symm
 refine Bg (Bk (Qp (B0 Au) (Qp (Qc rfl (zK t ht)) (Qp N4 (Qp Qxt (Qp Iu (Qp Tu (Qp Al (Bs (Qp Ao (Qp Br (Ag (Aq (fun hc2=>Ae (Qp (E4 It) ?_)) fun hc2=>Bg (Ae (Qp G4 (Qp (B0 Au) (Qp (Qc rfl (xC T (lB hc1) t ⟨ht,K9 hc2⟩)) (Qp N4 (Qp (B5 (v:=.agg It) rfl rfl) (Qp (B5 (v:=.agg He) rfl rfl) (Ed rY fun b10=>Ed gT fun b11=>?_)))))))))))))))))))))
 ·
  refine Bt 0 It (_::_) ?_;refine Qp Al (Qp Al (Rc ?_));refine ⟨.inr rfl,[.agg It,Iq _,Iq _],.cons (.box _ _ _ 0 _ _ _ _ rfl rfl rfl rfl rfl rfl) <| .cons (.tmp _ _ rfl) <| .cons (.tmp _ _ rfl) <| .nil,.cons _ (.refl _),?_⟩;exact Eq.trans rfl (congrArg (fun q:Qy×Int×Int=>AV.tuple [.agg (cQy q.1),.int .i64 q.2.1,.int .i64 q.2.2]) (qp_2 T t hc1 hc2)).symm
 refine Bt 1 It (_::_::_::_) ?_;refine Bt 0 He (_::_::_::_) ?_;refine AOL.ghost (GS.freeze (t:=11) 0 rfl rfl) ?_;refine AOL.ghost (GS.freeze (t:=10) 0 rfl rfl) ?_;refine Re ?_;refine Ol ?_;refine Qn 0 rfl (B0 It) (Qn 1 rfl (Qf He) (Qn 2 rfl Bi (Qn 3 rfl (Qf [Iq _]) (Qn 4 rfl Bi ?_))));refine O0 5 rfl (Bf (k:=0) (v:=.agg _) (cs':=It) (H2:=_::_) tok rfl rfl rfl rfl (rfl) rfl rfl rfl rfl) ?_;refine Qn 6 rfl Al (Qn 7 rfl Al ?_);refine Hs ?_;refine Bh (AW.ret ?_);refine ⟨.inr rfl,[.agg It,Iq _,Iq _],.cons (.box _ _ _ 0 _ _ _ _ rfl rfl rfl rfl rfl rfl) <| .cons (.tmp _ _ rfl) <| .cons (.tmp _ _ rfl) <| .nil,.cons _ (.refl _),?_⟩;exact Eq.trans rfl (congrArg (fun q:Qy×Int×Int=>AV.tuple [.agg (cQy q.1),.int .i64 q.2.1,.int .i64 q.2.2]) (eF T t hc1 hc2)).symm

end Go.Proofs.YtckhoadldibflaaGreatDoor
