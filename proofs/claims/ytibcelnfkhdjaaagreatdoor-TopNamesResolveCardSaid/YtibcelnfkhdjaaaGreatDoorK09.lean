/-
  Several texts in one: W13e, W13f, W13g, W13h, W13i, R11w, R12w, R13w, R20w, R33w, R34w, Am, R35w. No condition.
-/
import Derived.Test.YtibcelnfkhdjaaaGreatDoorK03
import Derived.Test.YtibcelnfkhdjaaaGreatDoorK08
import Derived.KernelRfl
import Derived.Test.YtibcelnfkhdjaaaGreatDoorK04
import Derived.Test.YtibcelnfkhdjaaaGreatDoorK05
import Derived.Test.YtibcelnfkhdjaaaGreatDoorK07
import Derived.Maps.RangeRun
set_option linter.unusedVariables false
set_option linter.unusedSimpArgs false
set_option maxHeartbeats 12800000
set_option maxRecDepth 20000
namespace Go.Proofs.YtibcelnfkhdjaaaGreatDoor
open Go Go.Aw
theorem Wu (b:Nat)(w:Ag):Ap Tryz.prog 127 [.val (.pointer (some ⟨b,0,none⟩)),.str w] (.fn (.func 174) [] [.ptr [.val (.pointer (some ⟨b,0,none⟩))],.ptr [.str w]]):=by
 refine Fl 6 Tryz.func127 rfl fun H=>?_
 refine Af (Qp (Sw (v:=.val _) (cs:=[_]) rfl rfl rfl) (Qp (Sw (v:=.str _) (cs:=[.str _]) rfl rfl rfl) (Qp O2 (B7 (Qp (B0 (l:=[]) (l':=[.ptr _,.ptr _]) rfl rfl) (Qp (Ad (v:=.fn _ _ _) rfl) (Rb (Qr (.fn _ _ _) ?_))))))));rfl
theorem w_new (H:List HO):Bt Tryz.prog 66 H [] (fun x H'=>∃b,x = .val (.pointer (some ⟨b,0,none⟩))/\H'=(.row (.slice none 0 0) (Fw []).length 5 1 :: .box b 148 (.val (.pointer none) :: .row (.slice none 0 0) 1 (Fw [])::Xa b)::H)):=by
 refine H7 40 Tryz.func66 rfl ?_;refine Af (Qp O2 (B7 ?_));refine Qp (Hy (l0:=[.val (.pointer none),.val (.slice none 0 0),.val .nilFunc,.val .nilFunc,.val .nilFunc,.val .nilFunc,.val .nilFunc,.val .nilFunc,.val .nilFunc,.val .nilFunc,.val .nilFunc,.val .nilFunc,.val .nilFunc,.val .nilFunc,.val .nilFunc,.val .nilFunc,.val .nilFunc,.val .nilFunc,.val .nilFunc,.val .nilFunc,.val .nilFunc]) (l:=[_,_,_,_,_,_,_,_,_,_,_,_,_,_,_,_,_,_,_,_,_]) tok rfl rfl (by kernel_rfl) rfl) ?_;refine Qe (zN (v:=.agg _) (cs:=[_,_,_,_,_,_,_,_,_,_,_,_,_,_,_,_,_,_,_,_,_]) rfl rfl (rfl)) ?_;rintro _ _ ⟨b3,rfl,rfl⟩;refine D7 [.val (.pointer none)] fun b1=>?_
 refine Bz 0 [_] (_::_::_) ?_;refine Kh 1 0 rfl ?_;refine AOL.ghost (GS.cellRow 0 1 5 1 rfl rfl rfl rfl) ?_;refine Re ?_;refine Ok ?_;refine Qn 0 rfl Kg (Qn 1 rfl (B0 (l:=[]) (l':=[.ptr _]) rfl rfl) (Qn 2 rfl Kg (Qn 3 rfl (B0 (l:=[.val _]) (l':=[]) rfl rfl) (Qn 4 rfl (B0 (l:=[]) (l':=[.ptr _]) rfl rfl) (Qn 5 rfl Kg (Qn 6 rfl (B0 (l:=[.val _]) (l':=[]) rfl rfl) (Qn 7 rfl Kg (Qn 8 rfl (B0 (l:=[.val _]) (l':=[]) rfl rfl) ?_))))))));refine Qn 9 rfl Kg (Qn 10 rfl (Qc rfl (Wu b3 _)) (Qn 11 rfl Kg (Qn 12 rfl (Qc rfl (Wu b3 _)) (Qn 13 rfl Kg (Qn 14 rfl (Qc rfl (Wu b3 _)) (Qn 15 rfl Kg (Qn 16 rfl (Qc rfl (Wu b3 _)) (Qn 17 rfl Kg (Qn 18 rfl (Qc rfl (Wu b3 _)) (Qn 19 rfl Kg (Qn 20 rfl (Qc rfl (Wu b3 _)) (Qn 21 rfl Kg (Qn 22 rfl (Qc rfl (Wu b3 _)) (Qn 23 rfl Kg (Qn 24 rfl (B0 (l:=[.val _]) (l':=[]) rfl rfl) (Qn 25 rfl (B0 (l:=[]) (l':=[.ptr _]) rfl rfl) (Qn 26 rfl (B0 (l:=[]) (l':=[.ptr _]) rfl rfl) (Qn 27 rfl Kg (Qn 28 rfl (B0 (l:=[.val _]) (l':=[]) rfl rfl) (Qn 29 rfl Kg (Qn 30 rfl (B0 (l:=[.val _]) (l':=[]) rfl rfl) (Qn 31 rfl (B0 (l:=[]) (l':=[.ptr _]) rfl rfl) ?_))))))))))))))))))))));refine Qn 32 rfl (bX (l:=[.fn (.func 121) [] [.ptr [.val (.pointer (some ⟨b3,0,none⟩))]],.fn (.func 122) [.val (.pointer (some ⟨b3,0,none⟩))] [],.fn (.func 123) [] [.ptr [.val (.pointer (some ⟨b3,0,none⟩))]],.fn (.func 125) [.val (.pointer (some ⟨b3,0,none⟩))] [],.val .nilFunc,.fn (.func 126) [.val (.pointer (some ⟨b3,0,none⟩))] [],.fn (.func 174) [] [.ptr [.val (.pointer (some ⟨b3,0,none⟩))],.ptr [.str Yj]],.fn (.func 174) [] [.ptr [.val (.pointer (some ⟨b3,0,none⟩))],.ptr [.str Yi]],.fn (.func 174) [] [.ptr [.val (.pointer (some ⟨b3,0,none⟩))],.ptr [.str Yg]],.fn (.func 174) [] [.ptr [.val (.pointer (some ⟨b3,0,none⟩))],.ptr [.str Sp]],.fn (.func 174) [] [.ptr [.val (.pointer (some ⟨b3,0,none⟩))],.ptr [.str Na]],.fn (.func 174) [] [.ptr [.val (.pointer (some ⟨b3,0,none⟩))],.ptr [.str K6]],.fn (.func 174) [] [.ptr [.val (.pointer (some ⟨b3,0,none⟩))],.ptr [.str K5]],.fn (.func 128) [.val (.pointer (some ⟨b3,0,none⟩))] [],.fn (.func 129) [] [.ptr [.val (.pointer (some ⟨b3,0,none⟩))]],.fn (.func 130) [] [.ptr [.val (.pointer (some ⟨b3,0,none⟩))]],.fn (.func 131) [.val (.pointer (some ⟨b3,0,none⟩))] [],.fn (.func 132) [.val (.pointer (some ⟨b3,0,none⟩))] [],.fn (.func 133) [] [.ptr [.val (.pointer (some ⟨b3,0,none⟩))]]]) tok rfl rfl rfl (by kernel_rfl)) ?_;refine Qn 33 rfl (Ae rfl) (Qn 34 rfl Cw ?_);refine Ns 35 rfl (Dj (k:=1) (v:=.agg _) (cs':=(.val (.pointer none) :: .row (.slice none 0 0) 1 [] :: [.fn (.func 121) [] [.ptr [.val (.pointer (some ⟨b3,0,none⟩))]],.fn (.func 122) [.val (.pointer (some ⟨b3,0,none⟩))] [],.fn (.func 123) [] [.ptr [.val (.pointer (some ⟨b3,0,none⟩))]],.fn (.func 125) [.val (.pointer (some ⟨b3,0,none⟩))] [],.val .nilFunc,.fn (.func 126) [.val (.pointer (some ⟨b3,0,none⟩))] [],.fn (.func 174) [] [.ptr [.val (.pointer (some ⟨b3,0,none⟩))],.ptr [.str Yj]],.fn (.func 174) [] [.ptr [.val (.pointer (some ⟨b3,0,none⟩))],.ptr [.str Yi]],.fn (.func 174) [] [.ptr [.val (.pointer (some ⟨b3,0,none⟩))],.ptr [.str Yg]],.fn (.func 174) [] [.ptr [.val (.pointer (some ⟨b3,0,none⟩))],.ptr [.str Sp]],.fn (.func 174) [] [.ptr [.val (.pointer (some ⟨b3,0,none⟩))],.ptr [.str Na]],.fn (.func 174) [] [.ptr [.val (.pointer (some ⟨b3,0,none⟩))],.ptr [.str K6]],.fn (.func 174) [] [.ptr [.val (.pointer (some ⟨b3,0,none⟩))],.ptr [.str K5]],.fn (.func 128) [.val (.pointer (some ⟨b3,0,none⟩))] [],.fn (.func 129) [] [.ptr [.val (.pointer (some ⟨b3,0,none⟩))]],.fn (.func 130) [] [.ptr [.val (.pointer (some ⟨b3,0,none⟩))]],.fn (.func 131) [.val (.pointer (some ⟨b3,0,none⟩))] [],.fn (.func 132) [.val (.pointer (some ⟨b3,0,none⟩))] [],.fn (.func 133) [] [.ptr [.val (.pointer (some ⟨b3,0,none⟩))]]])) (H2:=_::_::_) tok rfl rfl rfl rfl rfl rfl (rfl) (by kernel_rfl) rfl) ?_
 refine Iw ?_;refine Aa (Af (Qp Kg (Qp O2 (Rb ?_))));refine ⟨.inr rfl,[.val _],Ze,_,S0,?_⟩;exact ⟨b3,rfl,rfl⟩
theorem fns_at {b:Nat}{n:Nat}{x y z:AV}(h:(Xa b)[n]? = some x):(y::z::Xa b)[2+n]? = some x:=by rw [Nat.add_comm];exact h
theorem Ig (b:Nat)(o:Ag)(v:Value)(a:Option Addr)(ha:a=none\/a=some ⟨b,0,none⟩)(R:List HO)(t:Syn)(s:Ag)(f:Nat)(first cap:List AV)(hk:0<=t.kind/\t.kind<=18)(hv:(Xa b)[t.kind.toNat]? = some (.fn (.func f) first cap))(hf:Tn Tryz.prog f=true)(hc:Bt Tryz.prog f (.row v (Fw o).length 5 1 :: .box b 148 (.val (.pointer a) :: .row v 1 (Fw o)::Xa b)::R) (first ++ [.agg (cSyn t)]++cap) (WQ b (o++s) R)):Bt Tryz.prog 67 (.row v (Fw o).length 5 1 :: .box b 148 (.val (.pointer a) :: .row v 1 (Fw o)::Xa b)::R) [.val (.pointer (some ⟨b,0,none⟩)),.agg (cSyn t)] (WQ b (o++s) R):=by
 refine H7 13 Tryz.func67 rfl ?_;refine Af (Qp (Ik Ak) (A2 (Pq 1 rfl (Qn 0 rfl Bu (Qn 1 rfl (Qf Ak) (Qn 2 rfl Cd (Qn 3 rfl (Ae rfl) (Qn 4 rfl Cw ?_))))))));refine Qn 5 rfl (aX (o':=(2+t.kind.toNat)) tok rfl rfl rfl rfl rfl (hk.1) (by omega) (by show 2+t.kind.toNat*1=_;omega)) ?_;refine Qn 6 rfl (Db.mem (fun k=>B8 (k:=k) (c:=.fn (.func f) first cap) tok rfl rfl rfl (fns_at hv)) (fun _ h=>h)) ?_;refine Qn 7 rfl (C1 Ak) ?_;refine bF 8 rfl (Kr (hf) rfl rfl rfl (Bt.front2 (R:=_) 1 0 rfl rfl rfl (hc))) ?_;rintro _ _ ⟨v12,a12,rfl,ha12,rfl⟩;refine ⟨.inl rfl,[],.nil,_,.refl _,?_⟩;exact ⟨v12,a12,rfl,ha12,rfl⟩
theorem node_ok (b:Nat)(t:Syn):∀p,B4 t p=0->J9 t->0<=t.kind->t.kind<=18->t.kind≠4->Ia b t:=by
 refine Syn.ind (P:=fun t=>∀p,B4 t p=0->J9 t->0<=t.kind->t.kind<=18->t.kind≠4->Ia b t) (fun t ih p h hf k0 k18 k4=>?_) t;have hi:=ok_num h;have hi64 : -9223372036854775808<=t.num/\t.num<=9223372036854775807:=by omega
 obtain ⟨ho,_⟩:=Ka h;obtain ⟨_,hs,_,hfl⟩:=K1 ho
 have kid:∀(j:Nat) a,t.kids[j]? = some a->a.kind≠4->Ia b a:=fun j a ha h4=>by
  obtain ⟨c,k⟩:=Pa h ha;have kk:=kid_kind k;exact ih a (Aj ha) _ c (Sd hf (Aj ha)) (by omega) kk.2 h4
 have kids:t.kind≠3->∀a∈t.kids,Ia b a:=fun h3 a ha=>by
  obtain ⟨j,hj⟩:=Jp.1 ha;refine kid j a hj ?_;obtain ⟨c,k⟩:=Pa h hj;unfold Id at k;rw [if_neg (show ¬(t.kind==3)=true by simpa using h3)] at k
  repeat' split at k
  all_goals first | (have:=Jf k;omega) | (have:=rF k;omega) | (have:=kT k;omega)
 have hr:0<=t.kind/\t.kind<=18:=⟨k0,k18⟩;have hcases:t.kind=0\/t.kind=1\/t.kind=2\/t.kind=3\/t.kind=5\/t.kind=6\/t.kind=7\/t.kind=8\/t.kind=9\/t.kind=10\/t.kind=11\/t.kind=12\/t.kind=13\/t.kind=14\/t.kind=15\/t.kind=16\/t.kind=17\/t.kind=18:=by omega
 intro o v a ha R hb;have e:=jC t
 have wsn:(t.kids.map An == [])=true↔¬0<t.kids.length:=by
  cases hq:t.kids <;> simp
 rcases hcases with hk | hk | hk | hk | hk | hk | hk | hk | hk | hk | hk | hk | hk | hk | hk | hk | hk | hk
 .
  skip
  have e2:An t=(t.kids.map An).flatten:=by rw [e];unfold Jh;rw [hk];rfl
  rw [e2] at hb ⊢;exact Ig b o v a ha R t _ 121 [] [.ptr [.val (.pointer (some ⟨b,0,none⟩))]] hr (by rw [hk];rfl) (by kernel_rfl) (zG b o v a ha R t (kids (by omega)) hb)
 .
  skip
  have e2:An t = [116,121,112,101,32]++t.text ++ [32,123]++(if 0<t.kids.length then [32]++En (t.kids.map An) ++ [32] else []) ++ [125,10]:=by
   rw [e];unfold Jh;rw [hk];show Dq ++ [32]++t.text ++ [32,123]++(if (t.kids.map An == [])=true then [] else [32]++En (t.kids.map An) ++ [32]) ++ [125,10]=_;by_cases h0:0<t.kids.length
   . rw [if_pos h0,if_neg (fun h=>(wsn.1 h) h0)];simp
   rw [if_neg h0,if_pos (wsn.2 h0)];simp
  rw [e2] at hb ⊢;exact Ig b o v a ha R t _ 122 [.val (.pointer (some ⟨b,0,none⟩))] [] hr (by rw [hk];rfl) (by kernel_rfl) (w_decl b o v a ha R t (kids (by omega)) hb)
 .
  skip
  have e2:An t=t.text++([58,32]:Ag)++Xv t.num:=by rw [e];unfold Jh;rw [hk];rfl
  rw [e2] at hb ⊢;exact Ig b o v a ha R t _ 123 [] [.ptr [.val (.pointer (some ⟨b,0,none⟩))]] hr (by rw [hk];rfl) (by kernel_rfl) (w_field b o v a ha R t (Y3 hfl hk) hb)
 .
  skip
  obtain ⟨q0,q1,r,hq⟩:∃q0 q1 r,t.kids=q0::q1::r:=by
   unfold Gr at hs;rw [hk] at hs
   replace hs:decide (3<=(t.kids.length:Int))=true:=hs
   simp only [Ea] at hs
   match hq:t.kids with
   | []=>rw [hq] at hs;simp at hs
   | [x]=>rw [hq] at hs;simp at hs
   | x::y::r=>exact ⟨x,y,r,rfl⟩
  have no4:∀(j:Nat) x,1<=j->t.kids[j]? = some x->x.kind≠4:=fun j x hj hx=>by
   obtain ⟨c,k⟩:=Pa h hx;unfold Id at k;rw [hk] at k;have e3:((j:Int)==0)=false:=by simp;omega
   simp only [e3] at k
   replace k:(if ((j:Int)==1)=true then Pl.pats else Pl.exps).at x.kind=true:=k
   split at k
   . have:=kT k;omega
   have:=rF k;omega
  have hq1:Ia b q1:=kid 1 q1 (by rw [hq];rfl) (no4 1 q1 (Bc _) (by rw [hq];rfl))
  have hqr:∀x∈r,Ia b x:=fun x hx=>by
   obtain ⟨j,hj⟩:=Jp.1 hx;have hj2:t.kids[j+2]? = some x:=by rw [hq];simpa using hj
   exact kid (j+2) x hj2 (no4 (j+2) x (by omega) hj2)
  have e2:An t=([113,117,101,114,121,32]:Ag)++t.text++(if !(q0.text == []) then ([32,98,121,32]:Ag)++q0.text else [])++([10,109,97,116,99,104,32]:Ag)++An q1++([10,114,101,116,117,114,110,32]:Ag)++En (r.map An)++([59,10]:Ag):=by
   rw [e];unfold Jh;rw [hk];show Dm ++ [32]++t.text++(if ((B5 t 0).text == [])=true then [] else [32]++tF ++ [32]++(B5 t 0).text) ++ [10]++Gk ++ [32]++(t.kids.map An).getD 1 [] ++ [10]++G9 ++ [32]++En ((t.kids.map An).drop 2) ++ [59,10]=_;have k0:B5 t 0=q0:=by unfold B5;rw [hq];rfl
   rw [k0,hq];show Dm ++ [32]++t.text++(if (q0.text == [])=true then [] else [32]++tF ++ [32]++q0.text) ++ [10]++Gk ++ [32]++An q1 ++ [10]++G9 ++ [32]++En (r.map An) ++ [59,10]=_;cases hc:(q0.text == [])
   . simp
   simp
  rw [e2] at hb ⊢;exact Ig b o v a ha R t _ 125 [.val (.pointer (some ⟨b,0,none⟩))] [] hr (by rw [hk];rfl) (by kernel_rfl) (w_query b o v a ha R t q0 q1 r hq hq1 hqr hb)
 .
  skip
  have e2:An t=t.text++([32]:Ag)++t.name++(if h:0<t.kids.length then ([32,105,102,32]:Ag)++An t.kids[0] else []):=by
   rw [e];unfold Jh;rw [hk];show t.text ++ [32]++t.name++(if (t.kids.map An == [])=true then [] else [32]++wO ++ [32]++(t.kids.map An).getD 0 [])=_;by_cases h0:0<t.kids.length
   .
    rw [dif_pos h0,if_neg (fun h=>(wsn.1 h) h0)];have:(t.kids.map An).getD 0 []=An t.kids[0]:=by rw [E6,List.getElem?_map,List.getElem?_eq_getElem h0];rfl
    rw [this];simp
   rw [dif_neg h0,if_pos (wsn.2 h0)]
  rw [e2] at hb ⊢;exact Ig b o v a ha R t _ 126 [.val (.pointer (some ⟨b,0,none⟩))] [] hr (by rw [hk];rfl) (by kernel_rfl) (w_event b o v a ha R t (kids (by omega)) hb)
 .
  skip
  have e2:An t=Yj++([40]:Ag)++En (t.kids.map An)++(if t.kind==11 then ([44,32]:Ag)++Lib.itoa t.num else [])++([41]:Ag):=by rw [e];unfold Jh;rw [hk];rfl
  rw [e2] at hb ⊢;exact Ig b o v a ha R t _ 174 [] [.ptr [.val (.pointer (some ⟨b,0,none⟩))],.ptr [.str Yj]] hr (by rw [hk];rfl) (by kernel_rfl) (So b o v a ha R t Yj hi64 (kids (by omega)) hb)
 .
  skip
  have e2:An t=Yi++([40]:Ag)++En (t.kids.map An)++(if t.kind==11 then ([44,32]:Ag)++Lib.itoa t.num else [])++([41]:Ag):=by rw [e];unfold Jh;rw [hk];rfl
  rw [e2] at hb ⊢;exact Ig b o v a ha R t _ 174 [] [.ptr [.val (.pointer (some ⟨b,0,none⟩))],.ptr [.str Yi]] hr (by rw [hk];rfl) (by kernel_rfl) (So b o v a ha R t Yi hi64 (kids (by omega)) hb)
 .
  skip
  have e2:An t=Yg++([40]:Ag)++En (t.kids.map An)++(if t.kind==11 then ([44,32]:Ag)++Lib.itoa t.num else [])++([41]:Ag):=by rw [e];unfold Jh;rw [hk];rfl
  rw [e2] at hb ⊢;exact Ig b o v a ha R t _ 174 [] [.ptr [.val (.pointer (some ⟨b,0,none⟩))],.ptr [.str Yg]] hr (by rw [hk];rfl) (by kernel_rfl) (So b o v a ha R t Yg hi64 (kids (by omega)) hb)
 .
  skip
  have e2:An t=Sp++([40]:Ag)++En (t.kids.map An)++(if t.kind==11 then ([44,32]:Ag)++Lib.itoa t.num else [])++([41]:Ag):=by rw [e];unfold Jh;rw [hk];rfl
  rw [e2] at hb ⊢;exact Ig b o v a ha R t _ 174 [] [.ptr [.val (.pointer (some ⟨b,0,none⟩))],.ptr [.str Sp]] hr (by rw [hk];rfl) (by kernel_rfl) (So b o v a ha R t Sp hi64 (kids (by omega)) hb)
 .
  skip
  have e2:An t=Na++([40]:Ag)++En (t.kids.map An)++(if t.kind==11 then ([44,32]:Ag)++Lib.itoa t.num else [])++([41]:Ag):=by rw [e];unfold Jh;rw [hk];rfl
  rw [e2] at hb ⊢;exact Ig b o v a ha R t _ 174 [] [.ptr [.val (.pointer (some ⟨b,0,none⟩))],.ptr [.str Na]] hr (by rw [hk];rfl) (by kernel_rfl) (So b o v a ha R t Na hi64 (kids (by omega)) hb)
 .
  skip
  have e2:An t=K6++([40]:Ag)++En (t.kids.map An)++(if t.kind==11 then ([44,32]:Ag)++Lib.itoa t.num else [])++([41]:Ag):=by rw [e];unfold Jh;rw [hk];rfl
  rw [e2] at hb ⊢;exact Ig b o v a ha R t _ 174 [] [.ptr [.val (.pointer (some ⟨b,0,none⟩))],.ptr [.str K6]] hr (by rw [hk];rfl) (by kernel_rfl) (So b o v a ha R t K6 hi64 (kids (by omega)) hb)
 .
  skip
  have e2:An t=K5++([40]:Ag)++En (t.kids.map An)++(if t.kind==11 then ([44,32]:Ag)++Lib.itoa t.num else [])++([41]:Ag):=by rw [e];unfold Jh;rw [hk];rfl
  rw [e2] at hb ⊢;exact Ig b o v a ha R t _ 174 [] [.ptr [.val (.pointer (some ⟨b,0,none⟩))],.ptr [.str K5]] hr (by rw [hk];rfl) (by kernel_rfl) (So b o v a ha R t K5 hi64 (kids (by omega)) hb)
 .
  skip
  have e2:An t=dT t:=by rw [e];unfold Jh;rw [hk];rfl
  rw [e2] at hb ⊢;exact Ig b o v a ha R t _ 128 [.val (.pointer (some ⟨b,0,none⟩))] [] hr (by rw [hk];rfl) (by kernel_rfl) (tG b o v a ha R t hi64 (nW hf).1 hb)
 .
  skip
  have e2:An t=t.text++([46]:Ag)++t.name:=by rw [e];unfold Jh;rw [hk];rfl
  rw [e2] at hb ⊢;exact Ig b o v a ha R t _ 129 [] [.ptr [.val (.pointer (some ⟨b,0,none⟩))]] hr (by rw [hk];rfl) (by kernel_rfl) (w_ref b o v a ha R t hb)
 .
  skip
  have e2:An t=([99,111,117,110,116,40]:Ag)++t.text++([41]:Ag):=by rw [e];unfold Jh;rw [hk];rfl
  rw [e2] at hb ⊢;exact Ig b o v a ha R t _ 130 [] [.ptr [.val (.pointer (some ⟨b,0,none⟩))]] hr (by rw [hk];rfl) (by kernel_rfl) (w_count b o v a ha R t hb)
 .
  skip
  have e2:An t=fY t.num++([40]:Ag)++t.text++([46]:Ag)++t.name++My (t.kids.map An)++([41]:Ag):=by
   rw [e];unfold Jh;rw [hk];show fY t.num ++ [40]++t.text ++ [46]++t.name++(if (t.kids.map An == [])=true then [] else [44,32]++(t.kids.map An).getD 0 []) ++ [41]=_;unfold Gr at hs;rw [hk] at hs
   replace hs:(if (t.num==1)=true then ((t.kids.length:Int)==0) else ((t.kids.length:Int)==1))=true:=hs
   have hl:t.kids.length<=1:=by split at hs <;> (simp only [beq_iff_eq] at hs;omega)
   match hq:t.kids with
   | []=>rfl
   | [x]=>simp [My]
   | x::y::r=>rw [hq] at hl;simp at hl
  rw [e2] at hb ⊢;exact Ig b o v a ha R t _ 131 [.val (.pointer (some ⟨b,0,none⟩))] [] hr (by rw [hk];rfl) (by kernel_rfl) (w_total b o v a ha R t (iW hfl hk) (kids (by omega)) hb)
 .
  skip
  unfold Gr at hs;rw [hk] at hs
  replace hs:((t.kids.length:Int)==2)=true:=hs
  obtain ⟨x0,x1,hq⟩:=kids_two (by simpa using hs)
  have e2:An t=J2 t x0 (An x0)++([32]:Ag)++X2 t.num++([32]:Ag)++J2 t x1 (An x1):=by
   rw [e];unfold Jh;rw [hk];show J2 t (B5 t 0) ((t.kids.map An).getD 0 []) ++ [32]++X2 t.num ++ [32]++J2 t (B5 t 1) ((t.kids.map An).getD 1 [])=_;have k0:B5 t 0=x0:=by unfold B5;rw [hq];rfl
   have k1:B5 t 1=x1:=by unfold B5;rw [hq];rfl
   rw [k0,k1,hq];rfl
  rw [e2] at hb ⊢;exact Ig b o v a ha R t _ 132 [.val (.pointer (some ⟨b,0,none⟩))] [] hr (by rw [hk];rfl) (by kernel_rfl) (w_binary b o v a ha R t x0 x1 (by rw [hq];rfl) (by rw [hq];rfl) (by have:=uC hfl hk;omega) (kids (by omega) x0 (by rw [hq];simp)) (kids (by omega) x1 (by rw [hq];simp)) hb)
 skip
 unfold Gr at hs;rw [hk] at hs
 replace hs:((t.kids.length:Int)==1)=true:=hs
 obtain ⟨x0,hq⟩:=kids_one (by simpa using hs)
 have e2:An t=([110,111,116,32]:Ag)++J2 t x0 (An x0):=by
  rw [e];unfold Jh;rw [hk];show lL ++ [32]++J2 t (B5 t 0) ((t.kids.map An).getD 0 [])=_;have k0:B5 t 0=x0:=by unfold B5;rw [hq];rfl
  rw [k0,hq];rfl
 rw [e2] at hb ⊢;exact Ig b o v a ha R t _ 133 [] [.ptr [.val (.pointer (some ⟨b,0,none⟩))]] hr (by rw [hk];rfl) (by kernel_rfl) (w_not b o v a ha R t x0 (by rw [hq];rfl) (kids (by omega) x0 (by rw [hq];simp)) hb)
theorem Uo {t:Syn}{p:Pl}{e:Int}(h:eE p t=e)(he:e≠0):B4 t p=e:=by
 rw [Yu,h,if_pos (by simpa using he)]
theorem qW {t:Syn}{p:Pl}(h:eE p t=0):B4 t p=Ot t 0 (t.kids.drop 0):=by
 rw [Yu,h,if_neg (by decide),Oi]
theorem dP {t x:Syn}{k:Nat}(h:t.kids[k]? = some x):Ot t k (t.kids.drop k)=if (B4 x (Id t k) != 0) then B4 x (Id t k) else Ot t (k+1) (t.kids.drop (k+1)):=by
 obtain ⟨h1,rfl⟩:=List.getElem?_eq_some_iff.1 h;rw [L4 h1,Ot]
theorem mK {t x:Syn}{k:Nat}(h:t.kids[k]? = some x):Mo t.kind (t.kids.drop k)=max (Lo x+(if M3 t.kind x.kind then 1 else 0)) (Mo t.kind (t.kids.drop (k+1))):=by
 obtain ⟨h1,rfl⟩:=List.getElem?_eq_some_iff.1 h;rw [L4 h1,Mo]
theorem iQ {t:Syn}(h:J9 t):Lo t<=40000000:=by
 have h1:=gT t;have h2:=vH h;omega
theorem w_check (t:Syn)(p:Pl)(hfew:J9 t):Ap Tryz.prog 64 [.agg (cSyn t),lP p] (.int .i64 (B4 t p)):=by
 revert p hfew
 induction t using Syn.ind
 rename_i t ih;intro p hfew;have hkl:=Xx hfew;have htx:=nW hfew;obtain ⟨f,first,cap,hv,hfn,hP⟩:=pl_fn p;rw [hv];refine Fl 45 Tryz.func64 rfl fun H=>?_
 refine Af (Qp (Ik Ak) (Qp Ax (Re (AW.block (Af (Qp (Ab (v:=.fn _ _ _) rfl) (Qp (Qf Ak) (Qp Cd (Qp (O1 hfn rfl rfl rfl (hP t.kind)) (Qp J4 (Qp Bh (Bp (fun hc1=>Af (Qp Ax (Ra (Qr (Iq _) ?_)))) fun hc1=>Af (Qp (C1 Ak) (Qp (Qc rfl (w_shaped t)) (Qp J4 (Qp Bh (Bp (fun hc2=>Af (Qp Ax (Ra (Qr (Iq _) ?_)))) fun hc2=>?_)))))))))))))))))
 .
  have h9:B4 t p=1:=Uo (if_pos hc1) (by decide);rw [h9];rfl
 .
  have h9:B4 t p=15:=Uo ((B2 hc1).trans (if_pos hc2)) (by decide);rw [h9];rfl
 refine Af (Qp (C1 Ak) (Qp (Qc rfl (w_named t htx.1 htx.2)) (Qp J4 (Qp Bh (Bp (fun hc3=>Af (Qp Ax (Ra (Qr (Iq _) ?_)))) fun hc3=>Rf (Cg (Qp (C1 Ak) (Qp (Qc rfl (w_fields t)) (Qp Ax (B7 (Qp A0 (Qp C3 (Bp (fun hc4=>Af (Qp A0 (Qp Ax (Rc (Qr (Iq _) ?_))))) fun hc4=>?_)))))))))))))
 .
  have h9:B4 t p=8:=Uo (((B2 hc1).trans (B2 hc2)).trans (if_pos hc3)) (by decide);rw [h9];rfl
 .
  have h9:B4 t p=Eu t:=Uo (((B2 hc1).trans (B2 hc2)).trans (B2 hc3)) (by simpa using hc4);rw [h9];rfl
 have h0:eE p t=0:=by unfold eE;rw [B2 hc1,B2 hc2,B2 hc3];simpa using hc4
 refine B6 (Cg (Qp (Qf Oq) (Qp Ew ?_)));refine Qp (G1 t.kids.length rfl rfl (by simp)) ?_;refine Qp A0 (A2 (AW.block ?_));refine AW.loopS (fun (k:Nat)=>(⟨[(2,.ptr (cSyn t)),(29,.sl 6 (t.kids.map Cu)),(30,.int .i64 t.kids.length),(31,.int .i64 (k:Int))],H,45⟩:St)) (fun k=>k<=t.kids.length/\B4 t p=Ot t k (t.kids.drop k)) (fun k=>t.kids.length-k) (0) ?_ Dh ?_
 . exact ⟨A7 _,qW h0⟩
 rintro k hR;refine Af (Qp Cv (Re (Gn (fun hc5=>?_) fun hc5=>?_)))
 .
  obtain ⟨x,hx⟩:=gt2 (l:=t.kids) (k:=k) (by have:=C6 hc5;omega);have hlt:=iK hx;have hm:=Aj hx;refine B6 (AW.seq (AW.block (Af (Qp A0 ?_))));refine Qp (E9 Ak rfl rfl (by omega) (Im hx)) ?_;refine Qp (C1 Ak) (D7 In fun b7=>Qp Ax ?_);refine Bz 0 Ak (_::_) ?_;refine Kh 7 0 rfl ?_;refine Re ?_;refine Ok ?_;refine Qn 0 rfl (C1 Ak) (Qn 1 rfl (C1 Ak) (Qn 2 rfl A0 ?_));refine Qn 3 rfl (Qc rfl (w_kid t k hlt (by omega))) ?_;refine Qn 4 rfl (Qc rfl (ih x hm (Id t k) (Sd hfew hm))) (Qn 5 rfl Ax ?_);refine Iw ?_;refine Aa (Af (Qp A0 (Qp C3 (Bp (fun hc6=>Af (Qp A0 (Qp Ax (Ra (A4 (Dw (A4 (Qr (Iq _) ?_)))))))) fun hc6=>Rf (AW.region (Qp Hb (Qp A0 (A2 ?_))))))))
  .
   have h9:B4 t p=B4 x (Id t k):=by rw [hR.2,dP hx,if_pos hc6]
   rw [h9];rfl
  refine ⟨k+1,?_,?_,Dh⟩
  . exact ⟨hlt,by rw [hR.2,dP hx,B2 hc6]⟩
  omega
 have hk:t.kids.length<=k:=by have:=Er hc5;omega
 refine AW.exit ?_;refine Br (Ri (Af (Qp Ax (Rb ?_))));refine Qr (Iq _) ?_;have h9:B4 t p=0:=by rw [hR.2,Ss hk,Ot]
 rw [h9];rfl
theorem w_depth (t:Syn)(hfew:J9 t):Ap Tryz.prog 65 [.agg (cSyn t)] (.int .i64 (Lo t:Int)):=by
 revert hfew
 induction t using Syn.ind
 rename_i t ih;intro hfew;have hkl:=Xx hfew;refine Fl 43 Tryz.func65 rfl fun H=>?_
 refine Af (Qp (Ik Ak) (Qp Ax (B7 (Qp Ax (A2 (Cg (Qp (Qf Oq) (Qp Ew ?_))))))));refine Qp (G1 t.kids.length rfl rfl (by simp)) ?_;refine Qp A0 (A2 (AW.block ?_));refine AW.loopS (fun (p:Nat×Nat)=>(⟨[(1,.ptr (cSyn t)),(3,.int .i64 (p.2:Int)),(8,.sl 6 (t.kids.map Cu)),(9,.int .i64 t.kids.length),(10,.int .i64 (p.1:Int))],H,43⟩:St)) (fun p=>p.1<=t.kids.length/\Mo t.kind t.kids=max p.2 (Mo t.kind (t.kids.drop p.1))/\p.2<=50000000) (fun p=>t.kids.length-p.1) ((0,0)) ?_ Dh ?_
 . exact ⟨A7 _,by simp,A7 _⟩
 rintro p hR;refine Af (Qp Cv (Re (Gn (fun hc1=>?_) fun hc1=>?_)))
 .
  obtain ⟨x,hx⟩:=gt2 (l:=t.kids) (k:=p.1) (by have:=C6 hc1;omega);have hlt:=iK hx;have hm:=Aj hx;have hdx:=iQ (Sd hfew hm);have hd2:=mK hx;refine B6 (AW.seq (AW.block (Af ?_)));refine Qp (E9 Ak rfl rfl (by omega) (Im hx)) ?_;refine Qp (C1 Ak) (D7 In fun b5=>?_);refine Bz 0 Ak (_::_) ?_;refine Kh 5 0 rfl ?_;refine B7 (Qp (C1 Ak) (Qp (Qc rfl (ih x hm (Sd hfew hm))) (Qp Ax (A2 (Cg (Qp (Qf Ak) (Qp Cd (Qp (Qf Ak) (Qp Cd (Qp (Qc rfl (pY t.kind x.kind)) (Bp (fun hc2=>?_) fun hc2=>?_)))))))))))
  .
   rw [if_pos hc2] at hd2;refine AW.region (Qp A0 (Qp Hb (Qp Ax (A2 (AW.region (Qp A0 (Qp A0 (Qp (tT rfl rfl) (Qp Ax (Rk (AW.region (Qp Hb (Qp A0 (A2 ?_))))))))))))));refine ⟨(p.1+1,max p.2 (Lo x+1)),?_,?_,GS.weaken ⟨rfl,congrArg (AV.int .i64) (by simp only;omega),rfl,rfl,rfl,trivial⟩ (.refl _)⟩
   . exact ⟨hlt,by simp only;omega,by simp only;omega⟩
   simp only;omega
  rw [B2 hc2] at hd2;refine B6 (AW.region (Qp A0 (Qp A0 (Qp (tT rfl rfl) (Qp Ax (Rk (AW.region (Qp Hb (Qp A0 (A2 ?_))))))))));refine ⟨(p.1+1,max p.2 (Lo x)),?_,?_,GS.weaken ⟨rfl,congrArg (AV.int .i64) (by simp only;omega),rfl,rfl,rfl,trivial⟩ (.refl _)⟩
  . exact ⟨hlt,by simp only;omega,by simp only;omega⟩
  simp only;omega
 have hk:t.kids.length<=p.1:=by have:=Er hc1;omega
 have he:=hR.2.1;rw [Ss hk,Mo] at he;have hfd:=iQ hfew;have hde:=xE t;refine AW.exit ?_;refine Br (Ri (Cg (Qp (Qf Ak) (Qp Cd (Qp Bq (Qp Co ?_))))));refine Qg [] Qw (Qf Ak) (Qg [(31,_)] Qw Cd (Qg [(32,_)] Qw (Qc rfl (w_pats t.kind)) ?_));refine Qg [(33,_)] Qw Co (Qg [] Qw (Qf Ak) (Qg [(35,_)] Qw Cd (Qg [(36,_)] Qw C3 (Qg [(34,_),(37,_)] Qw Ks (Qp Gv (Bp (fun hc3=>AW.region (Qp A0 (Qp Hb (Qp Ax (B7 (Qp A0 (Qp Ax (Rb (Qr (Iq _) ?_))))))))) fun hc3=>B6 (Af (Qp A0 (Qp Ax (Rb (Qr (Iq _) ?_)))))))))))
 .
  have h9:Lo t=p.2+1:=by rw [hde,if_pos hc3];omega
  rw [h9];rfl
 have h9:Lo t=p.2:=by rw [hde,B2 hc3];omega
 rw [h9];rfl
def Pl.fine (p:Pl):Prop:=∀k,p.at k=true->0<=k/\k<=18/\k≠4
theorem jY:Pl.fine (.only 0):=fun k h=>by have:=Jf h;omega
theorem mS:Pl.fine (.only 3):=fun k h=>by have:=Jf h;omega
theorem jA (t:Syn)(p:Pl)(hfew:J9 t)(hp:p.fine):Ap Tryz.prog 26 [.agg (cSyn t),lP p] (.tuple [.str (Ca t p).1,.int .i64 (Ca t p).2]):=by
 obtain ⟨f,first,cap,hv,hfn,hP⟩:=pl_fn p;have hck:=w_check t p hfew;rw [hv] at hck ⊢;refine Fl 30 Tryz.func26 rfl fun H=>?_
 refine Af (Qp (Ik Ak) (Qp La (Qp Ax (A2 (Cg (Qp (C1 Ak) (Qp (Ab (v:=.fn _ _ _) rfl) (Qp (Qc rfl (hck)) (Qp Ax (B7 (Qp A0 (Qp C3 (Bp (fun hc1=>Af (Qp A0 (Qp La (Qp Ax (Rc (Nb (.str _) (Iq _) ?_)))))) fun hc1=>?_)))))))))))))
 .
  have h9:Ca t p=([],B4 t p):=if_pos hc1;rw [h9];rfl
 have h0:B4 t p=0:=by simpa using hc1
 have hkd:=hp _ (K1 (Ka h0).1).1;have hwl:=med_big h0 hfew;refine B6 (Cg (Qp (C1 Ak) (Qp (Qc rfl (w_depth t hfew)) (Qp Hc (Bp (fun hc2=>Af (Qp La (Qp Ax (Rc (Nb (.str _) (Iq _) ?_))))) fun hc2=>B6 (Af (Qe (Dc rfl (w_new _)) ?_)))))))
 .
  have h9:Ca t p=([],12):=(B2 hc1).trans (if_pos hc2);rw [h9];rfl
 rintro _ _ ⟨b17,rfl,rfl⟩;refine Qp O2 (B7 (Qp Bu (Qp (C1 Ak) ?_)));refine Qe (Dc rfl (node_ok b17 t p h0 hfew hkd.1 hkd.2.1 hkd.2.2 [] _ _ (.inl rfl) _ (by show 0+(An t).length<=gM;unfold gM;omega))) ?_;rintro _ _ ⟨v20,a20,rfl,ha20,rfl⟩;refine A2 (Cg (Qp Bu (Qp (Ae rfl) (Qp Cw (qD (k_blen b17 148 _ _ _ _ _) (Qp Hc (Bp (fun hc3=>Af (Qp La (Qp Ax (Rc ?_)))) fun hc3=>B6 (Af (Qp Bu (Qp (Ae rfl) (Qp Cw (qD (nF b17 148 _ _ _ _ _) (Qp La (Qp Ax (Rb ?_)))))))))))))))
 .
  refine Yx Iy Zf S2 ?_;have h9:Ca t p=([],13):=((B2 hc1).trans (B2 hc2)).trans (if_pos hc3);rw [h9];rfl
 refine Yx Iy Zf S2 ?_;have h9:Ca t p=(An t,0):=((B2 hc1).trans (B2 hc2)).trans (B2 hc3);rw [h9];rfl
theorem nV (t:Syn)(hfew:J9 t):Ap Tryz.prog 9 [.agg (cSyn t)] (.tuple [.str (Ca t (.only 0)).1,.int .i64 (Ca t (.only 0)).2]):=by
 refine Fl 9 Tryz.func9 rfl fun H=>?_
 refine Af (Qp (Ik Ak) (Qp La (Qp Ax (Re ?_))));refine Ok ?_;refine Qn 0 rfl (C1 Ak) (Qn 1 rfl (Qc rfl (T9 _)) (Qn 2 rfl (Qc rfl (jA t (.only 0) hfew jY)) (Qn 3 rfl wV (Qn 4 rfl Td (Qn 5 rfl La (Qn 6 rfl Ax ?_))))));refine Iw ?_;refine Aa (AW.ret (Nb (.str _) (Iq _) ?_));rfl
theorem m_Query (t:Syn)(hfew:J9 t):Ap Tryz.prog 63 [.agg (cSyn t)] (.tuple [.str (Ca t (.only 3)).1,.int .i64 (Ca t (.only 3)).2]):=by
 refine Fl 9 Tryz.func63 rfl fun H=>?_
 refine Af (Qp (Ik Ak) (Qp La (Qp Ax (Re ?_))));refine Ok ?_;refine Qn 0 rfl (C1 Ak) (Qn 1 rfl (Qc rfl (T9 _)) (Qn 2 rfl (Qc rfl (jA t (.only 3) hfew mS)) (Qn 3 rfl wV (Qn 4 rfl Td (Qn 5 rfl La (Qn 6 rfl Ax ?_))))));refine Iw ?_;refine Aa (AW.ret (Nb (.str _) (Iq _) ?_));rfl
theorem oY (t:Syn)(ht:J9 t):Ap Tryz.prog 18 [.agg (cSyn t)] (.int .i64 (Ca t (.only 0)).2):=by
 refine Fl 11 Tryz.func18 rfl fun H=>?_
 refine Af (Qp (Ik Ak) (Qp Ax (B7 (Qp (C1 Ak) (Qp (Qc rfl (nV t ht)) (Qp Th (Qp wV (Qp Td (Qp La (Qp Ax (B7 (Qp A0 (Qp Ax (Rb (Qr (Iq _) ?_)))))))))))))));rfl
abbrev Ui (q:List e8Sc×Fa):AV:=AV.tuple [.sl 2 (q.1.map Fx),.agg (jM q.2)]
theorem rf_types (t:Syn)(ht:J9 t):Ap Tryz.prog 19 [.agg (cSyn t)] (.tuple [.sl 2 ((Gw t).1.map Fx),.agg (jM (Gw t).2)]):=by
 have hkl:=Xx ht;refine Fl 85 Tryz.func19 rfl fun H=>?_
 refine Af (Qp (Ik Ak) (Qp (Cb (z:=2) rfl) (D7 fZ fun b3=>B7 (Qp O2 ?_))));refine AOL.ghost (GS.row (t:=4) 65 2 rfl) ?_;refine B7 (Qe (Hl) ?_);rintro _ _ ⟨b12,rfl,rfl⟩;refine Qp O2 (A2 (Cg (Qp (Qf Oq) (Qp Ew ?_))));refine Qp (G1 t.kids.length rfl rfl (by simp)) ?_;refine Qp A0 (A2 (AW.block ?_));refine AW.loopS (fun (q:Nat×List e8Sc×List (List AV)×List Ag×Value)=>(⟨[(1,.ptr (cSyn t)),(2,.sl 2 []),(3,.val (.pointer (some ⟨b3,0,none⟩))),(4,.row q.2.2.2.2 2 q.2.2.1),(5,.val (.map (some b12))),(14,.sl 6 (t.kids.map Cu)),(15,.int .i64 t.kids.length),(16,.int .i64 (q.1:Int))],.smap b12 (Tb q.2.2.2.1) :: .row q.2.2.2.2 q.2.2.1.length 65 2 :: .box b3 72 fZ::H,85⟩:St)) (fun q=>q.1<=t.kids.length/\Gt [] t.kids=Gt q.2.1 (t.kids.drop q.1)/\q.2.1.length<=16/\q.2.2.1=q.2.1.map Fx/\q.2.2.2.1=G0 q.2.1) (fun q=>t.kids.length-q.1) ((0,[],[],[],.slice none 0 0)) ?_ Dh ?_
 . exact ⟨A7 _,rfl,A7 _,rfl,rfl⟩
 rintro q hR;refine Af (Qp Cv (Re (Gn (fun hc1=>?_) fun hc1=>?_)))
 .
  obtain ⟨a,ha⟩:=C2 hc1;have hlt:=Cc ha;have hm:=Aj ha;have ho16:=hR.2.2.1;have hrw:=hR.2.2.2.1;have hnw:=hR.2.2.2.2;have hrl:q.2.2.1.length=q.2.1.length:=by rw [hrw,By]
  have hso:∀c∈q.2.2.1,Au c=true:=by rw [hrw];exact scSc _
  have hma:=Sd ht hm;have hak:=Xx hma;refine B6 (AW.seq (AW.block (Af ?_)));refine Qp (E9 Ak rfl rfl (by omega) (F1 ha)) ?_;refine Qp (C1 Ak) (D7 In fun b7=>?_);refine Bz 0 Ak (_::_::_::_::_) ?_;refine Kh 7 0 rfl ?_;refine A2 (Cg (Qp (Qf Ak) (Qp Cd (Qp C3 (Bp (fun hc2=>AW.exit (Ri (AW.region (Qp Hb (Qp A0 (A2 ?_)))))) fun hc2=>B6 (Cg (Qp (Ab (v:=.row _ _ _) rfl) (Qp (E8 (n:=q.2.1.length) tok rfl rfl rfl (hrl)) (Qp Bq (Bp (fun hc3=>AW.seq ?_) fun hc3=>B6 (Cg (Qp Bu (Qp (Qf Vx) (Qp F4 ?_))))))))))))))
  .
   refine ⟨(q.1+1,q.2.1,q.2.2.1,q.2.2.2.1,q.2.2.2.2),?_,?_,Dh⟩
   . exact ⟨hlt,hR.2.1.trans (typ_skip ha hc2),hR.2.2⟩
   simp only;omega
  .
   refine Ok ?_;refine Qn 0 rfl (Qf [Iq _]) (Qn 1 rfl Cd (Qn 2 rfl (E2 G5) (Qn 3 rfl (Cb (z:=2) rfl) ?_)));refine Ns 4 rfl (Ki 2 (.agg _) G5 (_::_::_::_) rfl) ?_;refine Iw ?_;refine Aa (gH (Rj (A4 ?_)));refine Yx [.sl _ _,.agg G5] (.cons Yt <| .cons (Yb 2) <| .nil) S3 ?_;exact Ye Ui (hR.2.1.trans (typ_5 ha hc2 hc3))
  refine AOL.Aaz (Ll (i:=0) (ks:=q.2.2.2.1) tok rfl rfl rfl rfl rfl (by kernel_rfl) rfl rfl rfl) rfl rfl ?_;refine Bp (fun hc4=>?_) fun hc4=>?_
  .
   have hc4n:(G0 q.2.1).contains a.text=true:=by rw [<-hnw];exact hc4
   refine AW.seq ?_;refine Ok ?_;refine Qn 0 rfl (Qf [Iq _]) (Qn 1 rfl Cd (Qn 2 rfl (E2 G5) (Qn 3 rfl (Cb (z:=2) rfl) ?_)));refine Ns 4 rfl (Ki 2 (.agg _) G5 (_::_::_::_) rfl) ?_;refine Iw ?_;refine Aa (gH (Rj (A4 ?_)));refine Yx [.sl _ _,.agg G5] (.cons Yt <| .cons (Yb 2) <| .nil) S3 ?_;exact Ye Ui (hR.2.1.trans (typ_7 ha hc2 hc3 hc4n))
  have hc4n:(G0 q.2.1).contains a.text=false:=by rw [<-hnw];exact hc4
  refine B6 (Af (Qp Bu (Qp (Qf Vx) (Qp F4 (Rt (Nn (i:=0) (H2:=_::_::_::_) tok rfl rfl rfl rfl rfl rfl rfl rfl (hc4) rfl) (B7 (Qp (Qf Vx) (Qp F4 ?_))))))));refine Qp (Hy (l0:=[.str [],.val (.slice none 0 0)]) (l:=M7) tok rfl rfl (by kernel_rfl) rfl) ?_;refine D7 [.str [],.sl 2 []] fun b8=>?_
  refine Bz 0 M7 (_::_::_::_::_) ?_;refine AOL.ghost (GS.cellRow 0 1 82 2 rfl rfl rfl rfl) ?_;refine B7 (Qe (Hl) ?_);rintro _ _ ⟨b42,rfl,rfl⟩;refine Qp O2 (A2 (Cg (Qp (Qf Oq) (Qp Ew ?_))));refine Qp (G1 a.kids.length rfl rfl (by simp)) ?_;refine Qp A0 (A2 (AW.block ?_));refine AW.ghost (GS.perm (List.perm_append_comm.append_right _:(([_] ++ [_,_])++_).Perm _)) ?_;refine AW.loopS (fun (p:Nat×List Fi×List (List AV)×List Ag×Value)=>(⟨[(1,.ptr (cSyn t)),(2,.sl 2 []),(3,.val (.pointer (some ⟨b3,0,none⟩))),(4,.row q.2.2.2.2 2 q.2.2.1),(5,.val (.map (some b12))),(14,.sl 6 (t.kids.map Cu)),(15,.int .i64 t.kids.length),(16,.int .i64 (q.1:Int)),(7,.ptr (cSyn a)),(8,.val (.pointer (some ⟨b8,0,none⟩))),(9,.val (.map (some b42))),(44,.sl 6 (a.kids.map Cu)),(45,.int .i64 a.kids.length),(46,.int .i64 (p.1:Int))],.row p.2.2.2.2 p.2.2.1.length 82 2 :: .box b8 65 [.str a.text,.row p.2.2.2.2 2 p.2.2.1] :: .smap b42 (Tb p.2.2.2.1) :: .smap b12 (Tb (q.2.2.2.1 ++ [a.text])) :: .row q.2.2.2.2 q.2.2.1.length 65 2 :: .box b3 72 fZ::H,85⟩:St)) (fun p=>p.1<=a.kids.length/\G4 [] a.kids=G4 p.2.1 (a.kids.drop p.1)/\p.2.1.length<=8/\p.2.2.1=p.2.1.map Tf/\p.2.2.2.1=p.2.1.map (·.name)) (fun p=>a.kids.length-p.1) ((0,[],[],[],.slice none 0 0)) ?_ Dh ?_
  . exact ⟨A7 _,rfl,A7 _,rfl,rfl⟩
  rintro p hP;refine Af (Qp Cv (Re (Gn (fun hc5=>?_) fun hc5=>?_)))
  .
   obtain ⟨x,hax⟩:=C2 hc5;have hltx:=Cc hax;have hmx:=Aj hax;have hf8:=hP.2.2.1;have hfw:=hP.2.2.2.1;have hfn:=hP.2.2.2.2;have hfl:p.2.2.1.length=p.2.1.length:=by rw [hfw,By]
   have hsf:∀c∈p.2.2.1,Au c=true:=by rw [hfw];exact scFi _
   refine B6 (AW.seq (AW.block (Af ?_)));refine Qp (E9 Ak rfl rfl (by omega) (F1 hax)) ?_;refine Qp (C1 Ak) (D7 In fun b11=>?_);refine Bz 0 Ak (_::_::_::_::_::_::_::_) ?_;refine Kh 11 0 rfl ?_;refine A2 (Cg (Qp Cw (Pz 1 (.row _ _ _) rfl (Qp (E8 (n:=p.2.1.length) tok rfl rfl rfl (hfl)) (Qp Bq (Bp (fun hc6=>AW.seq ?_) fun hc6=>B6 (Cg (Qp Bu (Qp (Qf Vx) (Qp F4 ?_))))))))))
   .
    refine Ok ?_;refine Qn 0 rfl (Qf [Iq _]) (Qn 1 rfl Cd (Qn 2 rfl (E2 G5) (Qn 3 rfl (Cb (z:=2) rfl) ?_)));refine Ns 4 rfl (Ki 5 (.agg _) G5 (_::_::_::_::_::_::_) rfl) ?_;refine Iw ?_;refine Aa (gH (Rj (A4 (Dw (A4 (A4 (Dw (A4 ?_))))))));refine Yx [.sl _ _,.agg G5] (.cons Yt <| .cons (Yb 5) <| .nil) S6 ?_;exact Ye Ui (hR.2.1.trans (typ_f ha hc2 hc3 hc4n (hP.2.1.trans (fld_5 hax hc6)) (show (5:Int)≠0 by decide)))
   refine AOL.Aaz (Ll (i:=2) (ks:=p.2.2.2.1) tok rfl rfl rfl rfl rfl (by kernel_rfl) rfl rfl rfl) rfl rfl ?_;refine Bp (fun hc7=>?_) fun hc7=>?_
   .
    have hc7n:(p.2.1.map (·.name)).contains x.text=true:=by rw [<-hfn];exact hc7
    refine AW.seq ?_;refine Ok ?_;refine Qn 0 rfl (Qf [Iq _]) (Qn 1 rfl Cd (Qn 2 rfl (E2 G5) (Qn 3 rfl (Cb (z:=2) rfl) ?_)));refine Ns 4 rfl (Ki 5 (.agg _) G5 (_::_::_::_::_::_::_) rfl) ?_;refine Iw ?_;refine Aa (gH (Rj (A4 (Dw (A4 (A4 (Dw (A4 ?_))))))));refine Yx [.sl _ _,.agg G5] (.cons Yt <| .cons (Yb 5) <| .nil) S6 ?_;exact Ye Ui (hR.2.1.trans (typ_f ha hc2 hc3 hc4n (hP.2.1.trans (fld_7 hax hc6 hc7n)) (show (7:Int)≠0 by decide)))
   have hc7n:(p.2.1.map (·.name)).contains x.text=false:=by rw [<-hfn];exact hc7
   refine B6 (Af (Qp Bu (Qp (Qf Vx) (Qp F4 (Rt (Nn (i:=2) (H2:=_::_::_::_::_::_::_) tok rfl rfl rfl rfl rfl rfl rfl rfl (hc7) rfl) (A2 (AW.region (Qp Cw (Pz 1 (.row _ _ _) rfl (Qp (Qf Vx) (Qp F4 (Qp (Qf Yn) (Qp Cd (Qp (E2 Iy) (Qp (Ir [Iy] rfl) ?_)))))))))))))));refine Qe (Vc 0 rfl (D5 rfl) (hsf) (by simp;omega) (by simp [maxLen];omega)) ?_;rintro _ _ ⟨v75,rfl,rfl⟩;refine Qp Cw ?_;refine Bz 1 M7 (_::_::_::_::_::_::_) (Rk (AW.region (Qp Hb (Qp A0 (A2 ?_)))));refine ⟨(p.1+1,p.2.1 ++ [⟨x.text,x.num⟩],p.2.2.1 ++ [Tf ⟨x.text,x.num⟩],p.2.2.2.1 ++ [x.text],v75),?_,?_,Dh⟩
   . exact ⟨hltx,hP.2.1.trans (fld_on hax hc6 hc7n),by simp only [Ao,D2];exact len8 hf8 hc6,by simp [hfw],by simp [hfn]⟩
   simp only;omega
  have hdx:=Gz hc5;have hfx:=hP.2.1;rw [hdx,G4] at hfx;have hfw:=hP.2.2.2.1;have htn:=typ_on ha hc2 hc3 hc4n hfx;refine AW.exit ?_;refine Br (Ri (AW.region ?_));refine Qp (Ab (v:=.row _ _ _) rfl) ?_;refine AOL.ghost (GS.cell (H2:=_::_::_::_::_::_::_) 1 1 rfl rfl rfl rfl D1) ?_;refine O3 1 M7 rfl (Qp (Ir [M7] rfl) ?_);refine Qe (Vc 4 rfl (D5 rfl) (hso) (by simp;omega) (by simp [maxLen];omega)) ?_;rintro _ _ ⟨v81,rfl,rfl⟩;refine Qp (Ad (v:=.row _ _ _) rfl) (Rk (AW.region (Qp Hb (Qp A0 (A2 ?_)))));refine ⟨(q.1+1,q.2.1 ++ [⟨a.text,p.2.1⟩],q.2.2.1 ++ [[.str a.text,.sl 2 p.2.2.1]],q.2.2.2.1 ++ [a.text],v81),?_,?_,GS.weaken ⟨rfl,rfl,rfl,rfl,rfl,rfl,rfl,rfl,trivial⟩ (.cons _ (.cons _ (.cons _ (.refl _))))⟩
  . exact ⟨hlt,hR.2.1.trans htn,by simp only [Ao,D2];exact vG ho16 hc3,by simp [hrw,hfw,Fx],by simp [hnw]⟩
  simp only;omega
 have hde:=Gz hc1;have hall:=hR.2.1;rw [hde] at hall;refine AW.exit ?_;refine Br (Ri (Af ?_));refine Qp (Ab (v:=.row _ _ _) rfl) ?_;refine AOL.ghost (GS.unrow 83 rfl) ?_;refine Qp (Qc rfl (Ox)) (Qp jF ?_);refine Bz 2 G5 (_::_::_::_) (Rb ?_);refine Yx [.sl _ _,.agg G5] (.cons Yt <| .cons (Yb 2) <| .nil) S3 ?_;exact Eq.trans (congrArg (fun l:List (List AV)=>AV.tuple [.sl 2 l,.agg (jM Tk)]) hR.2.2.2.1) (congrArg (fun q:List e8Sc×Fa=>AV.tuple [.sl 2 (q.1.map Fx),.agg (jM q.2)]) (hall:Gw t=(q.2.1,Tk))).symm
abbrev Py (q:Pg×Int×Int):AV:=AV.tuple [.agg (cPg q.1),.int .i64 q.2.1,.int .i64 q.2.2]
theorem eP (t:Syn)(ht:J9 t):Ap Tryz.prog 7 [.agg (cSyn t)] (.tuple [.agg (cPg (D8 t).1),.int .i64 (D8 t).2.1,.int .i64 (D8 t).2.2]):=by
 have hkl:=Xx ht;have htp:=typ_ts t;refine Fl 82 Tryz.func7 rfl fun H=>?_
 refine Af (Qp (Ik Ak) (D7 [.sl 2 [],.sl 18 []] fun b2=>Qp Ax (Qp Ax (A2 (Cg (Qp (C1 Ak) (Qp (Qc rfl (oY t ht)) (Qp C3 (Bp (fun hc1=>Af (Qp (E2 [_,_]) ?_)) fun hc1=>B6 (Af (Qp (C1 Ak) (Qp (Qc rfl (rf_types t ht)) (Qp Th (Qp Qxs (Qp (A6 (v:=.agg G5) rfl rfl) (D7 fZ fun b6=>Qp jF ?_))))))))))))))))
 .
  refine Bz 0 [_,_] (_::_) (Qp Ax (Qp Ax (Rc ?_)));refine Yx [.agg [_,_],Iq _,Iq _] (Zd 0) S1 ?_;exact Ye Py (pp_1 hc1)
 refine Bz 0 G5 (_::_::_) ?_;refine Kh 6 0 rfl ?_;refine A2 (Cg (Qp (Qf [Iq _]) (Qp Cd (Qp C3 (Bp (fun hc2=>AW.seq ?_) fun hc2=>B6 (Af (Qp Mm ?_)))))))
 .
  refine Ok ?_;refine Qn 0 rfl (E2 [_,_]) (Qn 1 rfl (Qf G5) (Qn 2 rfl Cd (Qn 3 rfl (Qf [Iq _]) (Qn 4 rfl Cd ?_))));refine Ns 5 rfl (Ki 0 (.agg _) [_,_] (_::_) rfl) ?_;refine Qn 6 rfl Ax (Qn 7 rfl Ax ?_);refine Iw ?_;refine Aa (gH ?_);refine Yx [.agg [_,_],Iq _,Iq _] (Zd 0) S1 ?_;exact Ye Py (pp_2 hc1 hc2)
 refine Qp (Hy (l0:=[.sl 2 [],.val (.slice none 0 0)]) (l:=[_,_]) tok rfl rfl (by kernel_rfl) rfl) ?_;refine D7 [.sl 2 [],.sl 18 []] fun b7=>?_
 refine Bz 0 [_,_] (_::_::_) ?_;refine AOL.ghost (GS.cellRow 0 1 57 18 rfl rfl rfl rfl) ?_;refine B7 (Qe (Hl) ?_);rintro _ _ ⟨b32,rfl,rfl⟩;refine Qp O2 (A2 (Cg (Qp (Qf Oq) (Qp Ew ?_))));refine Qp (G1 t.kids.length rfl rfl (by simp)) ?_;refine Qp A0 (A2 (AW.block ?_));refine AW.loopS (fun (q:Nat×List Qy×List (List AV)×List Ag×Value)=>(⟨[(1,.ptr (cSyn t)),(2,.val (.pointer (some ⟨b2,0,none⟩))),(3,.int .i64 0),(4,.int .i64 0),(5,.sl 2 ((Gw t).1.map Fx)),(7,.val (.pointer (some ⟨b7,0,none⟩))),(8,.val (.map (some b32))),(34,.sl 6 (t.kids.map Cu)),(35,.int .i64 t.kids.length),(36,.int .i64 (q.1:Int))],.smap b32 (Tb q.2.2.2.1) :: .row q.2.2.2.2 q.2.2.1.length 57 18 :: .box b7 32 [.sl 2 ((Gw t).1.map Fx),.row q.2.2.2.2 18 q.2.2.1] :: .box b2 32 [.sl 2 [],.sl 18 []]::H,82⟩:St)) (fun q=>q.1<=t.kids.length/\E0 (Gw t).1 [] t.kids=E0 (Gw t).1 q.2.1 (t.kids.drop q.1)/\q.2.1.length<=16/\q.2.2.1=q.2.1.map cQy/\q.2.2.2.1=q.2.1.map (·.name)) (fun q=>t.kids.length-q.1) ((0,[],[],[],.slice none 0 0)) ?_ Dh ?_
 . exact ⟨A7 _,rfl,A7 _,rfl,rfl⟩
 rintro q hR;refine Af (Qp Cv (Re (Gn (fun hc3=>?_) fun hc3=>?_)))
 .
  obtain ⟨a,ha⟩:=C2 hc3;have hlt:=Cc ha;have hm:=Aj ha;have ho16:=hR.2.2.1;have hrw:=hR.2.2.2.1;have hnw:=hR.2.2.2.2;have hrl:q.2.2.1.length=q.2.1.length:=by rw [hrw,By]
  have hso:∀c∈q.2.2.1,Au c=true:=by rw [hrw];exact scQy _
  have hma:=rR ht hm;refine B6 (AW.seq (AW.block (Af ?_)));refine Qp (E9 Ak rfl rfl (by omega) (F1 ha)) ?_;refine Qp (C1 Ak) (D7 In fun b10=>?_);refine Bz 0 Ak (_::_::_::_::_::_) ?_;refine Kh 10 0 rfl ?_;refine A2 (Cg (Qp (Qf Ak) (Qp Cd (Qp C3 (Bp (fun hc4=>AW.exit (Ri (AW.region (Qp Hb (Qp A0 (A2 ?_)))))) fun hc4=>?_)))))
  .
   refine ⟨(q.1+1,q.2.1,q.2.2.1,q.2.2.2.1,q.2.2.2.2),?_,?_,Dh⟩
   . exact ⟨hlt,hR.2.1.trans (prg_skip ha hc4),hR.2.2⟩
   simp only;omega
  have hqa:=iO (fO hc1) ha (by simpa using hc4);refine B6 (Cg (Qp Cw (Pz 2 (.row _ _ _) rfl (Qp (E8 (n:=q.2.1.length) tok rfl rfl rfl (hrl)) (Qp Bq (Bp (fun hc5=>AW.seq ?_) fun hc5=>B6 (Cg (Qp Bu (Qp (Qf Vx) (Qp F4 ?_))))))))))
  .
   refine Ok ?_;refine Qn 0 rfl (E2 [_,_]) (Qn 1 rfl (Qf [Iq _]) (Qn 2 rfl Cd ?_));refine Ns 3 rfl (Ki 3 (.agg _) [_,_] (_::_::_::_::_) rfl) ?_;refine Qn 4 rfl Ax (Qn 5 rfl Ax ?_);refine Iw ?_;refine Aa (gH (Rj (A4 ?_)));refine Yx [.agg [_,_],Iq _,Iq _] (Zd 3) S4 ?_;exact Ye Py (pp_e hc1 hc2 (hR.2.1.trans (prg_5 ha hc4 hc5)) rfl)
  refine AOL.Aaz (Ll (i:=0) (ks:=q.2.2.2.1) tok rfl rfl rfl rfl rfl (by kernel_rfl) rfl rfl rfl) rfl rfl ?_;refine Bp (fun hc6=>?_) fun hc6=>?_
  .
   have hc6n:(q.2.1.map (·.name)).contains a.text=true:=by rw [<-hnw];exact hc6
   refine AW.seq ?_;refine Ok ?_;refine Qn 0 rfl (E2 [_,_]) (Qn 1 rfl (Qf [Iq _]) (Qn 2 rfl Cd ?_));refine Ns 3 rfl (Ki 3 (.agg _) [_,_] (_::_::_::_::_) rfl) ?_;refine Qn 4 rfl Ax (Qn 5 rfl Ax ?_);refine Iw ?_;refine Aa (gH (Rj (A4 ?_)));refine Yx [.agg [_,_],Iq _,Iq _] (Zd 3) S4 ?_;exact Ye Py (pp_e hc1 hc2 (hR.2.1.trans (prg_7 ha hc4 hc5 hc6n)) rfl)
  have hc6n:(q.2.1.map (·.name)).contains a.text=false:=by rw [<-hnw];exact hc6
  refine B6 (Af (Qp Bu (Qp (Qf Vx) (Qp F4 (Rt (Nn (i:=0) (H2:=_::_::_::_::_) tok rfl rfl rfl rfl rfl rfl rfl rfl (hc6) rfl) (B7 (Qp Mm (Qp (C1 Ak) (Qp (Qc rfl (rf_query (Gw t).1 htp a ⟨hma,hqa⟩)) (Qp Th (Qp (A6 (v:=.agg Ps) rfl rfl) (Qp (A6 (v:=.agg G5) rfl rfl) (D7 gjx fun b11=>D7 fZ fun b12=>?_)))))))))))));refine Bz 1 Ps (_::_::_::_::_::_::_) ?_;refine Bz 0 G5 (_::_::_::_::_::_::_) ?_;refine Kh 12 0 rfl ?_;refine Kh 11 0 rfl ?_;refine A2 (Cg (Qp (Qf [Iq _]) (Qp Cd (Qp C3 (Bp (fun hc7=>AW.seq ?_) fun hc7=>?_)))))
  .
   refine Ok ?_;refine Qn 0 rfl (E2 [_,_]) (Qn 1 rfl (Qf G5) (Qn 2 rfl Cd (Qn 3 rfl (Qf [Iq _]) (Qn 4 rfl Cd ?_))));refine Ns 5 rfl (Ki 3 (.agg _) [_,_] (_::_::_::_::_) rfl) ?_;refine Qn 6 rfl Ax (Qn 7 rfl Ax ?_);refine Iw ?_;refine Aa (gH (Rj (A4 ?_)));refine Yx [.agg [_,_],Iq _,Iq _] (Zd 3) S4 ?_;exact Ye Py (pp_e hc1 hc2 (hR.2.1.trans (prg_f ha hc4 hc5 hc6n hc7)) hc7)
  have hqn:=oV hc7;refine B6 (AW.region (Qp Cw (Pz 2 (.row _ _ _) rfl (Qp (C1 Ps) (Qp (Ir [Ps] rfl) ?_)))));refine Qe (Vc 1 rfl (D5 rfl) (hso) (by simp;omega) (by simp [maxLen];omega)) ?_;rintro _ _ ⟨v78,rfl,rfl⟩;refine Qp Cw ?_;refine Bz 2 [_,_] (_::_::_::_::_) (Rk (AW.region (Qp Hb (Qp A0 (A2 ?_)))));refine ⟨(q.1+1,q.2.1 ++ [(Ef (Gw t).1 a).1],q.2.2.1 ++ [cQy (Ef (Gw t).1 a).1],q.2.2.2.1 ++ [a.text],v78),?_,?_,Dh⟩
  . exact ⟨hlt,hR.2.1.trans (prg_on ha hc4 hc5 hc6n hc7),by simp only [Ao,D2];exact vG ho16 hc5,by simp [hrw],by simp [hnw,hqn.1]⟩
  simp only;omega
 have hde:=Gz hc3;have hall:=hR.2.1;rw [hde] at hall;refine AW.exit ?_;refine Br (Ri (Af ?_));refine AOL.ghost (GS.cell (H2:=_::_::_::_::_) 2 1 rfl rfl rfl rfl D1) ?_;refine O3 2 [_,_] rfl ?_;refine Bz 3 [_,_] (_::_::_::_::_) (Qp Ax (Qp Ax (Rb ?_)));refine Yx [.agg [_,_],Iq _,Iq _] (Zd 3) S4 ?_;exact Eq.trans (congrArg (fun l:List (List AV)=>AV.tuple [.agg [.sl 2 ((Gw t).1.map Fx),.sl 18 l],.int .i64 0,.int .i64 0]) hR.2.2.2.1) (congrArg (fun q:Pg×Int×Int=>AV.tuple [.agg (cPg q.1),.int .i64 q.2.1,.int .i64 q.2.2]) (pp_y hc1 hc2 (hall.trans (by rw [E0])))).symm
theorem ex_at {l:List Ex}{k:Nat}{a:Ex}(h:l[k]? = some a):(l.map Gx)[k]? = some (cE a):=by rw [List.getElem?_map,h];exact congrArg some (M5 a)
theorem n3_ss (s:e8Sc)(hl:s.fields.length<=1048576):Ap Tryz.prog 35 [.agg (Fx s),.agg (Fx s)] (.bool true):=by
 refine Fl 38 Tryz.func35 rfl fun H=>?_
 refine Af (Qp (Ik M7) (Qp (Ik M7) (Qp Bh (A2 (Cg (Qp (Qf M7) (Qp F4 (Qp (Qf M7) (Qp F4 (Qp (Ge rfl rfl) (Qp Co (Qg [] Qw (Qf [_]) (Qg [(12,_)] Qw Ew ?_)))))))))))));refine Yh [(13,_)] Qw (fun hG=>G1 s.fields.length rfl rfl (by simp)) ?_;refine Qg [] Qw (Qf [_]) (Qg [(15,_)] Qw Ew ?_);refine Yh [(16,_)] Qw (fun hG=>G1 s.fields.length rfl rfl (by simp)) ?_;refine Qg [(14,_),(17,_)] Yw C3 (Qp Gv (Bp (fun hc1=>?_) fun hc1=>B6 (Cg (Qp Ax (A2 (AW.block ?_))))))
 . simp [] at hc1
 refine AW.loopS (fun (k:Nat)=>(⟨[(2,.ptr (Fx s)),(3,.ptr (Fx s)),(5,.int .i64 (k:Int))],H,38⟩:St)) (fun k=>k<=s.fields.length) (fun k=>s.fields.length-k) (0) ?_ Dh ?_
 . exact A7 _
 rintro k hR;refine Cg (Qp A0 (Qp (Qf [_]) (Qp Ew ?_)));refine Qp (G1 s.fields.length rfl rfl (by simp)) ?_;refine Qp Cv (Bp (fun hc2=>?_) fun hc2=>AW.exit ?_)
 .
  obtain ⟨a,ha⟩:=C2 hc2;have hlt:=Cc ha;have hm:=Aj ha;refine B6 (AW.seq (AW.block (AW.seq ?_)));refine Ok ?_;refine Qn 0 rfl (Qf [_]) (Qn 1 rfl Ew (Qn 2 rfl A0 ?_));refine Qn 3 rfl (E9 Iy rfl rfl (by omega) (Cf ha)) ?_;refine Qn 4 rfl (C1 Iy) (Qn 5 rfl (Qf [_]) (Qn 6 rfl Ew (Qn 7 rfl A0 ?_)));refine Qn 8 rfl (E9 Iy rfl rfl (by omega) (Cf ha)) ?_;refine Qn 9 rfl (C1 Iy) (Qn 10 rfl (Pw tok rfl rfl rfl rfl rfl) ?_);refine Iw ?_;refine Aa (Gn (fun hc3=>?_) fun hc3=>Rf (AW.region (Qp A0 (Qp Hb (Qp Ax (A2 ?_))))))
  . simp [] at hc3
  refine ⟨k+1,?_,?_,Dh⟩
  . exact hlt
  omega
 refine Br (Ri (Af (Qp Bh (Rb ?_))));refine Qr (.bool _) ?_;rfl
theorem n3_same (T:List e8Sc)(hl:T.length<=1048576)(hf:∀s∈T,s.fields.length<=1048576):Ap Tryz.prog 14 [.sl 2 (T.map Fx),.sl 2 (T.map Fx)] (.bool true):=by
 refine Fl 27 Tryz.func14 rfl fun H=>?_
 refine Af (Qp Bh (A2 (Cg (Qp Mm ?_))));refine Qp (G1 T.length rfl rfl (by simp)) ?_;refine Qp Mm ?_;refine Qp (G1 T.length rfl rfl (by simp)) ?_;refine Qp C3 (Bp (fun hc1=>?_) fun hc1=>B6 (Cg (Qp Ax (A2 (AW.block ?_)))))
 . simp [] at hc1
 refine AW.loopS (fun (k:Nat)=>(⟨[(0,.sl 2 (T.map Fx)),(1,.sl 2 (T.map Fx)),(5,.int .i64 (k:Int))],H,27⟩:St)) (fun k=>k<=T.length) (fun k=>T.length-k) (0) ?_ Dh ?_
 . exact A7 _
 rintro k hR;refine Cg (Qp A0 (Qp Mm ?_));refine Qp (G1 T.length rfl rfl (by simp)) ?_;refine Qp Cv (Bp (fun hc2=>?_) fun hc2=>AW.exit ?_)
 .
  obtain ⟨a,ha⟩:=C2 hc2;have hlt:=Cc ha;have hm:=Aj ha;refine B6 (AW.seq (AW.block (AW.seq ?_)));refine Ok ?_;refine Qn 0 rfl Mm (Qn 1 rfl A0 ?_);refine Qn 2 rfl (E9 M7 rfl rfl (by omega) (Cf ha)) ?_;refine Qn 3 rfl (C1 M7) (Qn 4 rfl Mm (Qn 5 rfl A0 ?_));refine Qn 6 rfl (E9 M7 rfl rfl (by omega) (Cf ha)) ?_;refine Qn 7 rfl (C1 M7) (Qn 8 rfl (Qc rfl (n3_ss a (hf a hm))) (Qn 9 rfl J4 ?_));refine Iw ?_;refine Aa (Gn (fun hc3=>?_) fun hc3=>Rf (AW.region (Qp A0 (Qp Hb (Qp Ax (A2 ?_))))))
  . cases hc3
  refine ⟨k+1,?_,?_,Dh⟩
  . exact hlt
  omega
 refine Br (Ri (Af (Qp Bh (Rb ?_))));refine Qr (.bool _) ?_;rfl
theorem aU {V:List Va}{v:Int}(h0:0<=v)(h1:v<(V.length:Int)):V[v.toNat]? = some ((V[v.toNat]?).getD va0):=by
 rw [List.getElem?_eq_getElem (show v.toNat<V.length by omega)];rfl
theorem vW {T:List e8Sc}{V:List Va}(hrv:RvOK T V){v:Int}(h0:0<=v)(h1:v<(V.length:Int)):0<=((V[v.toNat]?).getD va0).type/\T[((V[v.toNat]?).getD va0).type.toNat]? = some (Yp T V v)/\(Yp T V v).fields.length<=1048576/\Yp T V v∈T:=by
 have h:=hrv.ty _ (Aj (aU h0 h1))
 have hs:T[((V[v.toNat]?).getD va0).type.toNat]? = some (Yp T V v):=by
  unfold Yp;rw [List.getElem?_eq_getElem (show ((V[v.toNat]?).getD va0).type.toNat<T.length by omega)];rfl
 exact ⟨h.1,hs,hrv.fl _ (Aj hs),Aj hs⟩
theorem fi_in {T:List e8Sc}{V:List Va}{v f:Int}(h0:0<=f)(h1:f<((Yp T V v).fields.length:Int)):(Yp T V v).fields[f.toNat]? = some (((Yp T V v).fields[f.toNat]?).getD fi0):=by
 rw [List.getElem?_eq_getElem (show f.toNat<(Yp T V v).fields.length by omega)];rfl
theorem fg1 {v f:Int}{n:Nat}(hG:Mn [(((decide (v<0)||decide ((n:Int)<=v))||decide (f<0)),false)]):0<=v/\v<(n:Int)/\0<=f:=by
 have h:((decide (v<0)||decide ((n:Int)<=v))||decide (f<0))=false:=hG _ (I7 ..);simp only [Ft,I6] at h;omega
theorem fld_no {T:List e8Sc}{V:List Va}{v f:Int}(h:S9 T V v f=false):0<=v/\v<(V.length:Int)/\0<=f/\f<((Yp T V v).fields.length:Int):=by
 unfold S9 at h;simp only [Ft,I6] at h;omega
theorem fnm_len {T:List e8Sc}{V:List Va}(hrv:RvOK T V)(hsn:∀s∈T,T3 s){v f:Int}(h:S9 T V v f=false):(fnm T V v f).length<=1048576:=by
 obtain ⟨h1,h2,h3,h4⟩:=fld_no h;exact (hsn _ (vW hrv h1 h2).2.2.2).2.2 _ (Aj (fi_in h3 h4))
theorem knm_at {k:Int}(h0:0<=k)(h2:k<=2):([.str [105,110,116],.str [98,111,111,108],.str [115,116,114,105,110,103]]:List AV)[k.toNat]? = some (.str (lO k)):=by
 have:k=0\/k=1\/k=2:=by omega
 rcases this with rfl | rfl | rfl <;> rfl
abbrev gI (q:Ag×Bool):AV:=AV.tuple [.str q.1,.bool q.2]
abbrev Uj (q:Int×Bool):AV:=AV.tuple [.int .i64 q.1,.bool q.2]
theorem eR (T:List e8Sc)(V:List Va)(hrv:RvOK T V)(v f:Int):Ap Tryz.prog 114 [.agg (cNm T V),.int .i64 v,.int .i64 f] (.tuple [.str (Xq T V v f).1,.bool (Xq T V v f).2]):=by
 have hvl:=hrv.vl;refine Fl 52 Tryz.func114 rfl fun H=>?_
 refine Af (Qp (Ik [_,_]) (Qp La (Qp Bh (Re (AW.seq ?_)))));refine Ok ?_;refine Qn 0 rfl A0 (Qn 1 rfl Cv (Qn 2 rfl Co (Qo 3 rfl [] Qw A0 (Qo 4 rfl [] Qw (Qf [_]) (Qo 5 rfl [(12,_)] Qw Ew ?_)))));refine Yo 6 rfl [(13,_)] Qw (fun hG=>G1 V.length rfl rfl (by simp)) ?_;refine Qo 7 rfl [(11,_),(14,_)] Yw Jt (Qn 8 rfl Gv (Qn 9 rfl Co (Qo 10 rfl [] Qw A0 (Qo 11 rfl [(18,_)] Qw Cv (Qn 12 rfl Gv (Qn 13 rfl Co (Qo 14 rfl [] Qw A0 (Qo 15 rfl [] Qw (Qf [_,_]) (Qo 16 rfl [(23,_)] Qw Ew (Qo 17 rfl [] Qw (Qf [_]) (Qo 18 rfl [(25,_)] Qw Ew (Qo 19 rfl [] Qw A0 ?_))))))))))));refine Yo 20 rfl [(26,_),(27,_)] (Yv rfl Es Es) (fun hG=>E9 Iy rfl rfl ((fg1 hG).1) (Cf (aU (fg1 hG).1 (fg1 hG).2.1))) ?_;refine Qo 21 rfl [(28,_)] Qw (Qf [Iq _]) (Qo 22 rfl [(29,_)] Qw Cd (Yo 23 rfl [(24,_),(30,_)] (Yv rfl Es Es) (fun hG=>E9 M7 rfl rfl ((vW hrv (fg1 hG).1 (fg1 hG).2.1).1) (Cf (vW hrv (fg1 hG).1 (fg1 hG).2.1).2.1)) ?_));refine Qo 24 rfl [(31,_)] Qw (Qf [_]) (Qo 25 rfl [(32,_)] Qw Ew ?_);refine Yo 26 rfl [(33,_)] Qw (fun hG=>G1 ((Yp T V v).fields.length) rfl rfl (by simp)) ?_;refine Qo 27 rfl [(22,_),(34,_)] Yw Jt (Qn 28 rfl Gv ?_);refine Iw ?_;refine Aa (Gn (fun hc1=>Af (Qp La (Qp Bh (Rc (Nb (.str _) (.bool _) ?_))))) fun hc1=>?_)
 . exact Ye gI ((if_pos hc1:Xq T V v f=([],false)))
 have hc1n:S9 T V v f=false:=hc1;have hfg:=fld_no hc1n;have hsi:=vW hrv hfg.1 hfg.2.1;refine B6 (AW.seq ?_);refine Ok ?_;refine Qn 0 rfl (Qf [_,_]) (Qn 1 rfl Ew (Qn 2 rfl (Qf [_]) (Qn 3 rfl Ew (Qn 4 rfl A0 ?_))));refine Qn 5 rfl (E9 Iy rfl rfl (hfg.1) (Cf (aU hfg.1 hfg.2.1))) ?_;refine Qn 6 rfl (Qf [Iq _]) (Qn 7 rfl Cd (Qn 8 rfl (E9 M7 rfl rfl (hsi.1) (Cf hsi.2.1)) (Qn 9 rfl (Qf [_]) (Qn 10 rfl Ew (Qn 11 rfl A0 ?_)))));refine Qn 12 rfl (E9 Iy rfl rfl (hfg.2.2.1) (Cf (fi_in hfg.2.2.1 hfg.2.2.2))) ?_;refine Qn 13 rfl (Qf Iy) (Qn 14 rfl F4 (Qn 15 rfl La (Qn 16 rfl Bh ?_)));refine Iw ?_;refine Aa (AW.ret (Nb (.str _) (.bool _) ?_));exact Ye gI ((B2 hc1:Xq T V v f=(fnm T V v f,true)))
theorem aR (x:Vl)(h0:0<=x.kind)(h2:x.kind<=2):Ap Tryz.prog 113 [.agg (cV x)] (.agg (cSyn (xD x))):=by
 refine Fl 15 Tryz.func113 rfl fun H=>?_
 refine Af (Qp (Ik Xd) (D7 In fun b2=>B7 (Qp Qf6 (Qp Cd (Qp Qf7 (Qp F4 (Qp (E2 Ak) (D7 In fun b3=>?_))))))));refine Bz 0 Ak (_::_::_) (B7 (Qp (bX (l:=[.str _,.str _,.str _]) tok rfl rfl rfl rfl) (Qp tV (Qp Cd ?_))));refine Qp (On (c:=.str (lO x.kind)) tok rfl rfl rfl rfl rfl rfl rfl (h0) (by omega) (knm_at h0 h2)) ?_;refine Qp Cw ?_;refine Bz 0 Ak (_::_::_) (B7 (O3 0 Ak rfl ?_));refine Bz 1 Ak (_::_::_) (Rb ?_);refine Yx [.agg Ak] (Zb 1) S2 ?_;rfl
theorem use_6 {T:List e8Sc}{V:List Va}{e:Ex}(h:Vy T V e=true):Tc T V e=(6,false):=by rw [lH,if_pos h]
theorem use_n {T:List e8Sc}{V:List Va}{e:Ex}(h:Vy T V e=false):Tc T V e=Pm T V e.args (bB T V e):=by rw [lH,B2 h]
theorem has_1 {T:List e8Sc}{V:List Va}{e:Ex}(h:((e.op==1)||(e.op==4))=true):Vy T V e=S9 T V e.var e.field/\bB T V e=bC (fnm T V e.var e.field):=by unfold Vy bB;rw [if_pos h,if_pos h];exact ⟨rfl,rfl⟩
theorem has_2 {T:List e8Sc}{V:List Va}{e:Ex}(h:((e.op==1)||(e.op==4))=false)(h2:((e.op==2)||(e.op==3))=true):Vy T V e=decide ((V.length:Int)<=e.var)/\bB T V e=true:=by unfold Vy bB;rw [B2 h,B2 h,if_pos h2];exact ⟨rfl,rfl⟩
theorem has_3 {T:List e8Sc}{V:List Va}{e:Ex}(h:((e.op==1)||(e.op==4))=false)(h2:((e.op==2)||(e.op==3))=false):Vy T V e=false/\bB T V e=true:=by unfold Vy bB;rw [B2 h,B2 h,B2 h2];exact ⟨rfl,rfl⟩
theorem kA {T:List e8Sc}{V:List Va}{v f:Int}(h:S9 T V v f=false):Xq T V v f=(fnm T V v f,true):=B2 h
theorem fldS_2 {T:List e8Sc}{V:List Va}{v f:Int}:(!(Xq T V v f).2)=S9 T V v f:=by
 unfold Xq;cases S9 T V v f <;> rfl
theorem wH {T:List e8Sc}{V:List Va}{l:List Ex}{k:Nat}{a:Ex}{b:Bool}(ha:l[k]? = some a)(h:((Tc T V a).1 != 0)=false):Pm T V (l.drop k) b=Pm T V (l.drop (k+1)) (b&&(Tc T V a).2):=by rw [Bm ha,Pm,B2 h]
theorem wG {T:List e8Sc}{V:List Va}{l:List Ex}{k:Nat}{a:Ex}{b:Bool}(ha:l[k]? = some a)(h:((Tc T V a).1 != 0)=true):Pm T V (l.drop k) b=((Tc T V a).1,false):=by rw [Bm ha,Pm,if_pos h]
theorem e_at {l:List Ex}{k:Nat}{a:Ex}(h:l[k]? = some a):(l.map Gx)[k]? = some (cE a):=by rw [List.getElem?_map,h];exact congrArg some (M5 a)
theorem rf_uses (T:List e8Sc)(V:List Va)(hrv:RvOK T V)(hsn:∀s∈T,T3 s)(e:Ex)(hs:Dp e<=1048576):Ap Tryz.prog 111 [.agg (cNm T V),.agg (cE e)] (.tuple [.int .i64 (Tc T V e).1,.bool (Tc T V e).2]):=by
 induction e using Ex.ind
 rename_i e ih;have hal:=jI e hs;have hvl:=hrv.vl;refine Fl 63 Tryz.func111 rfl fun H=>?_
 refine Af (Qp (Ik [_,_]) (Qp Qbe (Qp Ax (Qp Bh (B7 (Qp Bh (A2 ?_)))))));refine AW.cut (fun (m:Bool)=>(⟨[(2,.ptr (cNm T V)),(3,.ptr (cE e)),(4,.int .i64 0),(5,.bool false),(6,.bool m)],H,63⟩:St)) (fun m=>Vy T V e=false/\m=bB T V e) ?_ ?_
 .
  refine Af (Qp jG (Qp Cd (A2 (AW.block ?_))));refine AW.cut (fun (b:Bool)=>(⟨[(2,.ptr (cNm T V)),(3,.ptr (cE e)),(4,.int .i64 0),(5,.bool false),(6,.bool true),(14,.int .i64 e.op),(15,.bool b)],H,63⟩:St)) (fun b=>b=((e.op==1)||(e.op==4))) ?_ ?_
  .
   refine Af (Qp Bq (Qp Bh (Bp (fun hc1=>B6 ?_) fun hc1=>AW.region (Qp Bq (Qp Bh (A2 ?_))))))
   .
    refine ⟨(e.op==1),?_,Dh⟩;rw [hc1];rfl
   refine ⟨(e.op==4),?_,Dh⟩;rw [hc1];rfl
  rintro b hb;refine Gn (fun hc2=>Af (Qp (C1 [_,_]) (Qp tU (Qp Cd (Qp Qf3 (Qp Cd (Qp (Qc rfl (eR T V hrv e.var e.field)) (Qp Th (Qp wV (Qp fU (Qp La (Qp Bh (A2 (Cg (Qp Co (Qp J4 (Bp (fun hc3=>?_) fun hc3=>?_))))))))))))))))) fun hc2=>?_
  .
   have h3:Vy T V e=true:=by rw [(has_1 (hb.symm.trans hc2)).1,<-fldS_2];exact hc3
   refine Af (Qp Ax (Qp Bh (Rc (Dw (A4 (Nb (Iq _) (.bool _) ?_))))));exact Ye Uj (use_6 h3)
  .
   have h3n:S9 T V e.var e.field=false:=by rw [<-fldS_2];exact hc3
   have hfl:(Xq T V e.var e.field).1.length<=1048576:=by rw [kA h3n];exact fnm_len hrv hsn h3n
   refine B6 (AW.region (Qp Gu (Qp (Qc rfl (c20 (Xq T V e.var e.field).1 hfl)) (Qp Bq (Qp Bh (Rk ?_))))));refine ⟨(F7 (Xq T V e.var e.field).1==0),?_,Dh⟩;subst hc2;exact ⟨(has_1 hb.symm).1.trans h3n,by rw [kA h3n,(has_1 hb.symm).2];rfl⟩
  refine AW.cut (fun (d:Bool)=>(⟨[(2,.ptr (cNm T V)),(3,.ptr (cE e)),(4,.int .i64 0),(5,.bool false),(6,.bool true),(32,.bool d)],H,63⟩:St)) (fun d=>d=((e.op==2)||(e.op==3))) ?_ ?_
  .
   refine Af (Qp Bq (Qp Bh (Bp (fun hc4=>B6 ?_) fun hc4=>AW.region (Qp Bq (Qp Bh (A2 ?_))))))
   .
    refine ⟨(e.op==2),?_,Dh⟩;rw [hc4];rfl
   refine ⟨(e.op==3),?_,Dh⟩;rw [hc4];rfl
  rintro d hd;refine Gn (fun hc5=>Af (Qp tU (Qp Cd (Qp (Qf [_]) (Qp Ew ?_))))) fun hc5=>Rf ?_
  .
   refine Qp (G1 V.length rfl rfl (by simp)) ?_;refine Qp Jt (Bp (fun hc6=>Af (Qp Ax (Qp Bh (Ra (Nb (Iq _) (.bool _) ?_))))) fun hc6=>Rf ?_)
   . exact Ye Uj (use_6 ((has_2 (by rw [<-hb];exact hc2) (by rw [<-hd];exact hc5)).1.trans hc6))
   refine ⟨true,?_,Dh⟩;subst hc5;rw [hc2] at hb;exact ⟨(has_2 hb.symm hd.symm).1.trans hc6,(has_2 hb.symm hd.symm).2.symm⟩
  refine ⟨true,?_,Dh⟩;rw [hc2] at hb;rw [hc5] at hd;exact ⟨(has_3 hb.symm hd.symm).1,(has_3 hb.symm hd.symm).2.symm⟩
 rintro m hM;have hun:=use_n hM.1;have hmn:=hM.2;refine Cg (Qp Qf1 (Qp Ew ?_));refine Qp (G1 e.args.length rfl rfl (by simp)) ?_;refine Qp A0 (A2 (AW.block ?_));refine AW.loopS (fun (q:Nat×Bool)=>(⟨[(2,.ptr (cNm T V)),(3,.ptr (cE e)),(4,.int .i64 0),(5,.bool false),(6,.bool q.2),(42,.sl 8 (e.args.map Gx)),(43,.int .i64 e.args.length),(44,.int .i64 (q.1:Int))],H,63⟩:St)) (fun q=>q.1<=e.args.length/\Tc T V e=Pm T V (e.args.drop q.1) q.2) (fun q=>e.args.length-q.1) ((0,m)) ?_ Dh ?_
 . exact ⟨A7 _,by rw [hun,<-hmn];rfl⟩
 rintro q hR;refine Af (Qp Cv (Re (Gn (fun hc7=>?_) fun hc7=>?_)))
 .
  obtain ⟨a,ha⟩:=C2 hc7;have hlt:=Cc ha;have hm:=Aj ha;refine B6 (AW.seq (AW.block (Af ?_)));refine Qp (E9 Me rfl rfl (by omega) (e_at ha)) ?_;refine Qp Xb (D7 ggy fun b10=>?_);refine Bz 0 Me (_::_) ?_;refine Kh 10 0 rfl ?_;refine B7 (Qp (C1 [_,_]) (Qp Xb ?_));refine Qp (Qc rfl (ih a hm (by have:=T5 hm;omega))) ?_;refine Qp Th (Qp Td (Qp fU (Qp Ax (Qp Bh (A2 (Cg (Qp A0 (Qp C3 ?_))))))));refine Bp (fun hc8=>Af (Qp A0 (Qp Ax (Qp Bh (Rc (Rj (A4 (Nb (Iq _) (.bool _) ?_)))))))) fun hc8=>B6 (AW.region (Qp Co (Qp Co (Qg [] Qw Co (Qp Ks (Qp Bh (Rk (AW.region (Qp Hb (Qp A0 (A2 ?_)))))))))))
  . exact Ye Uj (hR.2.trans (wG ha hc8))
  refine ⟨(q.1+1,q.2&&(Tc T V a).2),?_,?_,Dh⟩
  . exact ⟨hlt,hR.2.trans (wH ha hc8)⟩
  simp only;omega
 have hde:=Gz hc7;have hall:=hR.2;rw [hde] at hall;refine AW.exit ?_;refine Br (Ri (Af (Qp Co (Qp Ax (Qp Bh (Rb ?_))))));refine Nb (Iq _) (.bool _) ?_;exact Ye Uj ((hall.trans (by rw [Pm]):Tc T V e=(0,q.2)))
theorem scLe (l:List Syn):∀c∈l.map Cu,Au c=true:=fun c hc=>by
 obtain ⟨x,_,rfl⟩:=C9.1 hc;rw [Ba];rfl
section
variable {T:List e8Sc} {V:List Va} {e:Ex}
theorem sh_0 (h:(e.op==0)=true):U5 T V e=xD e.val:=by rw [Zu];exact if_pos h
theorem sh_1 (h0:(e.op==0)=false)(h:(e.op==1)=true)(hf:S9 T V e.var e.field=false):U5 T V e=⟨14,wM V e.var,(Xq T V e.var e.field).1,0,[],0⟩:=by rw [Zu,kA hf];exact (B2 h0).trans (if_pos h)
theorem sh_2 (h0:(e.op==0)=false)(h1:(e.op==1)=false)(h:(e.op==2)=true):U5 T V e=⟨14,wM V e.var,Hs,0,[],0⟩:=by rw [Zu];exact (B2 h0).trans ((B2 h1).trans (if_pos h))
theorem sh_3 (h0:(e.op==0)=false)(h1:(e.op==1)=false)(h2:(e.op==2)=false)(h:(e.op==3)=true):U5 T V e=⟨15,wM V e.var,[],0,[],0⟩:=by rw [Zu];exact (B2 h0).trans ((B2 h1).trans ((B2 h2).trans (if_pos h)))
theorem sh_4 (h0:(e.op==0)=false)(h1:(e.op==1)=false)(h2:(e.op==2)=false)(h3:(e.op==3)=false)(h:(e.op==4)=true)(hf:S9 T V e.var e.field=false):U5 T V e=⟨16,wM V e.var,(Xq T V e.var e.field).1,e.kind,if (e.kind != 1) then [xD e.val] else [],0⟩:=by rw [Zu,kA hf];exact (B2 h0).trans ((B2 h1).trans ((B2 h2).trans ((B2 h3).trans (if_pos h))))
theorem sh_4y (h0:(e.op==0)=false)(h1:(e.op==1)=false)(h2:(e.op==2)=false)(h3:(e.op==3)=false)(h:(e.op==4)=true)(hf:S9 T V e.var e.field=false)(hk:(e.kind != 1)=true):U5 T V e=⟨16,wM V e.var,(Xq T V e.var e.field).1,e.kind,[xD e.val],0⟩:=by rw [sh_4 h0 h1 h2 h3 h hf,if_pos hk]
theorem sh_4n (h0:(e.op==0)=false)(h1:(e.op==1)=false)(h2:(e.op==2)=false)(h3:(e.op==3)=false)(h:(e.op==4)=true)(hf:S9 T V e.var e.field=false)(hk:(e.kind != 1)=false):U5 T V e=⟨16,wM V e.var,(Xq T V e.var e.field).1,e.kind,[],0⟩:=by rw [sh_4 h0 h1 h2 h3 h hf,B2 hk]
def shK (e:Ex):Int×Int:=if (e.op==12) then (18,0) else (17,e.op)
theorem sh_n (h0:(e.op==0)=false)(h1:(e.op==1)=false)(h2:(e.op==2)=false)(h3:(e.op==3)=false)(h4:(e.op==4)=false):U5 T V e=⟨(shK e).1,[],[],(shK e).2,e.args.map (U5 T V),0⟩:=by
 rw [Zu];refine (B2 h0).trans ((B2 h1).trans ((B2 h2).trans ((B2 h3).trans ((B2 h4).trans ?_))));unfold shK;split <;> rfl
theorem vF (hn:Iz e=0)(hk:rN T V e=true)(ho:e.op=1\/e.op=4):S9 T V e.var e.field=false:=by
 obtain ⟨k1,k2⟩:=iP hk (I0 hn).1;have hp:=dY hn;have h1:=k1 (by omega);have h2:=k2 ho;unfold S9;simp only [Ft,I6];omega
theorem pX (hn:Iz e=0)(ho:e.op=0\/e.op=4):0<=e.val.kind/\e.val.kind<=2:=by
 have h:=(xV (I0 hn).1).2.1 ho;unfold Fp at h;split at h
 . rename_i h1;simp at h1;omega
 split at h
 . rename_i h1;simp at h1;omega
 cases h
end
theorem sh_enc {T:List e8Sc}{V:List Va}(l:List Ex):(l.map (U5 T V)).map Cu=l.map (fun a=>cSyn (U5 T V a)):=by rw [List.map_map];exact List.map_congr_left fun a _=>Ba _
abbrev Lm (q:Syn):AV:=AV.agg (cSyn q)
theorem sP (T:List e8Sc)(V:List Va)(hrv:RvOK T V)(hsn:∀s∈T,T3 s)(e:Ex)(hs:Dp e<=1048576)(hn:Iz e=0)(hk:Wb T V e=true):Ap Tryz.prog 62 [.agg (cNm T V),.agg (cE e)] (.agg (cSyn (U5 T V e))):=by
 induction e using Ex.ind
 rename_i e ih;have hal:=jI e hs;have hp:=dY hn;have hna:=(I0 hn).2;rw [vE,Cy] at hk;have hko:=hk.1;have hka:=Ht.1 hk.2;have hkp:=iP hko (I0 hn).1;refine Fl 115 Tryz.func62 rfl fun H=>?_
 refine Af (Qp (Ik [_,_]) (Qp Qbe (D7 In fun b4=>A2 (Cg (Qp jG (Qp Cd (A2 (AW.block (Af (Qp Bq (Qp Bh ?_)))))))))));refine Bp (fun hc1=>?_) fun hc1=>Af (Qp Bq (Qp Bh (Bp (fun hc2=>?_) fun hc2=>Af (Qp Bq (Qp Bh (Bp (fun hc3=>?_) fun hc3=>Af (Qp Bq (Qp Bh (Bp (fun hc4=>?_) fun hc4=>Af (Qp Bq (Qp Bh (Bp (fun hc5=>?_) fun hc5=>Rf (Af (Qp jG (Qp Cd ?_)))))))))))))))
 .
  have ho:e.op=0:=by simpa using hc1
  have hvk:=pX hn (.inl ho);refine Af (Qp tV (Qp (C1 Xd) (Qp (Qc rfl (aR e.val hvk.1 hvk.2)) ?_)));refine Bz 0 Ak (_::_) (Ra ?_);refine Yx [.agg Ak] (Zb 0) S1 ?_;exact Ye Lm (sh_0 hc1)
 .
  have ho:e.op=1:=by simpa using hc2
  have hv1:=hkp.1 (.inl ho);have hfn:=vF hn hko (.inl ho);refine Af (Qp (C1 [_,_]) (Qp tU (Qp Cd (Qp Qf3 (Qp Cd (Qp (Qc rfl (eR T V hrv e.var e.field)) (Qp Th (Qp wV (Qp fU (Qp La (Qp Bh (B7 (Qp (Qf [_]) (Qp Ew (Qp tU (Qp Cd ?_))))))))))))))));refine Qp (E9 Iy rfl rfl (hp.1) (Cf (aU hp.1 hv1))) ?_;refine Qp (Qf Iy) (Qp F4 (Qp Gu (Qp (E2 Ak) ?_)));refine Bz 0 Ak (_::_) (Ra ?_);refine Yx [.agg Ak] (Zb 0) S1 ?_;exact Ye Lm (sh_1 hc1 hc2 hfn)
 .
  have ho:e.op=2:=by simpa using hc3
  have hv1:=hkp.1 (.inr (.inl ho));refine Af (Qp (Qf [_]) (Qp Ew (Qp tU (Qp Cd ?_))));refine Qp (E9 Iy rfl rfl (hp.1) (Cf (aU hp.1 hv1))) ?_;refine Qp (Qf Iy) (Qp F4 (Qp (E2 Ak) ?_));refine Bz 0 Ak (_::_) (Ra ?_);refine Yx [.agg Ak] (Zb 0) S1 ?_;exact Ye Lm (sh_2 hc1 hc2 hc3)
 .
  have ho:e.op=3:=by simpa using hc4
  have hv1:=hkp.1 (.inr (.inr (.inl ho)));refine Af (Qp (Qf [_]) (Qp Ew (Qp tU (Qp Cd ?_))));refine Qp (E9 Iy rfl rfl (hp.1) (Cf (aU hp.1 hv1))) ?_;refine Qp (Qf Iy) (Qp F4 (Qp (E2 Ak) ?_));refine Bz 0 Ak (_::_) (Ra ?_);refine Yx [.agg Ak] (Zb 0) S1 ?_;exact Ye Lm (sh_3 hc1 hc2 hc3 hc4)
 .
  have ho:e.op=4:=by simpa using hc5
  have hv1:=hkp.1 (.inr (.inr (.inr ho)));have hfn:=vF hn hko (.inr ho);have hvk:=pX hn (.inr ho);refine Af (Qp (C1 [_,_]) (Qp tU (Qp Cd (Qp Qf3 (Qp Cd (Qp (Qc rfl (eR T V hrv e.var e.field)) (Qp Th (Qp wV (Qp fU (Qp La (Qp Bh (Re ?_))))))))))));refine Ok ?_;refine Qn 0 rfl (Qf [_]) (Qn 1 rfl Ew (Qn 2 rfl tU (Qn 3 rfl Cd ?_)));refine Qn 4 rfl (E9 Iy rfl rfl (hp.1) (Cf (aU hp.1 hv1))) ?_;refine Qn 5 rfl (Qf Iy) (Qn 6 rfl F4 (Qn 7 rfl Gu (Qn 8 rfl Qf4 (Qn 9 rfl Cd (Qn 10 rfl (E2 Ak) ?_)))));refine qE 11 rfl (Dg (l:=In) (by kernel_rfl)) ?_;rintro _ _ ⟨b9,rfl,rfl⟩;refine Ns 12 rfl (Ki 0 (.agg _) Ak (_::_::_) rfl) ?_;refine Iw ?_;refine Aa (Cg (Qp Qf4 (Qp Cd (Qp C3 (Bp (fun hc6=>AW.region (Qp tV (Qp (C1 Xd) (Qp (Qc rfl (aR e.val hvk.1 hvk.2)) (Qp (Ir [Ak] rfl) (Qp Cw ?_)))))) fun hc6=>B6 (Af (O3 0 Ak rfl ?_)))))))
  .
   refine Bz 0 Ak (_::_::_) (B7 (O3 0 Ak rfl ?_));refine Bz 1 Ak (_::_::_) (Ra ?_);refine Yx [.agg Ak] (Zb 1) S2 ?_;exact Ye Lm (sh_4y hc1 hc2 hc3 hc4 hc5 hfn hc6)
  refine Bz 1 Ak (_::_::_) (Ra ?_);refine Yx [.agg Ak] (Zb 1) S2 ?_;exact Ye Lm (sh_4n hc1 hc2 hc3 hc4 hc5 hfn hc6)
 refine Qp (Hy (l0:=[.int .i64 0,.str [],.str [],.int .i64 0,.val (.slice none 0 0),.int .i64 0]) (l:=Ak) tok rfl rfl (by kernel_rfl) rfl) ?_;refine D7 In fun b10=>?_
 refine Bz 0 Ak (_::_::_) (A2 ?_);refine AW.cut (fun (z:Int×Int)=>(⟨[(2,.ptr (cNm T V)),(3,.ptr (cE e)),(4,.val (.pointer (some ⟨b4,0,none⟩))),(10,.val (.pointer (some ⟨b10,0,none⟩)))],.box b10 25 [.int .i64 z.1,.str [],.str [],.int .i64 z.2,.val (.slice none 0 0),.int .i64 0] :: .box b4 25 In::H,115⟩:St)) (fun z=>z=shK e) ?_ ?_
 .
  refine Af (Qp jG (Qp Cd (Qp Bq (Bp (fun hc7=>AW.region ?_) fun hc7=>B6 ?_))))
  .
   refine Qp (Hy (l0:=[.int .i64 0,.str [],.str [],.int .i64 0,.val (.slice none 0 0),.int .i64 0]) (l:=Ak) tok rfl rfl (by kernel_rfl) rfl) ?_;refine Bz 0 Ak (_::_::_) (A2 ?_);refine ⟨(18,0),?_,Dh⟩;exact (if_pos hc7).symm
  refine ⟨(17,e.op),?_,Dh⟩;exact (B2 hc7).symm
 rintro z hz;subst hz;refine AW.seq (AW.seq ?_);refine AW.ghost (GS.cellRow 0 4 25 6 rfl rfl rfl rfl) ?_
 skip
 refine AW.region (Qp Qf1 (Qp Ew ?_));refine Qp (G1 e.args.length rfl rfl (by simp)) ?_;refine Qp A0 (A2 (AW.block ?_));refine AW.loopS (fun (q:Nat×List (List AV)×Value)=>(⟨[(2,.ptr (cNm T V)),(3,.ptr (cE e)),(4,.val (.pointer (some ⟨b4,0,none⟩))),(10,.val (.pointer (some ⟨b10,0,none⟩))),(99,.sl 8 (e.args.map Gx)),(100,.int .i64 e.args.length),(101,.int .i64 (q.1:Int))],.row q.2.2 q.2.1.length 25 6 :: .box b10 25 [.int .i64 (shK e).1,.str [],.str [],.int .i64 (shK e).2,.row q.2.2 6 q.2.1,.int .i64 0] :: .box b4 25 In::H,115⟩:St)) (fun q=>q.1<=e.args.length/\q.2.1=(e.args.take q.1).map (fun a=>cSyn (U5 T V a))/\q.2.1.length<=q.1) (fun q=>e.args.length-q.1) ((0,[],.slice none 0 0)) ?_ Dh ?_
 . exact ⟨A7 _,rfl,Bc _⟩
 rintro q hR;refine Af (Qp Cv (Re (Gn (fun hc8=>?_) fun hc8=>?_)))
 .
  obtain ⟨a,ha⟩:=C2 hc8;have hlt:=Cc ha;have hm:=Aj ha;have hsc:∀c∈q.2.1,Au c=true:=by rw [hR.2.1];exact fun c hc=>by obtain ⟨x,_,rfl⟩:=C9.1 hc;rfl
  have hql:=hR.2.2;refine B6 (AW.seq (AW.block (Af ?_)));refine Qp (E9 Me rfl rfl (by omega) (e_at ha)) ?_;refine Qp Xb (D7 ggy fun b12=>?_);refine Bz 0 Me (_::_::_::_::_) ?_;refine Kh 12 0 rfl ?_;refine A2 (Pq 1 rfl (Qn 0 rfl Cw (Qn 1 rfl (Lb (.row _ _ _) rfl) (Qn 2 rfl (C1 [_,_]) (Qn 3 rfl Xb ?_)))));refine Qn 4 rfl (Qc rfl (ih a hm (by have:=T5 hm;omega) (hna a hm) (hka a hm))) ?_;refine Qn 5 rfl (Ir [Ak] rfl) ?_;refine Vr 6 rfl (Vc 0 rfl (D5 rfl) (hsc) (by simp;omega) (by simp [maxLen];omega)) (by rintro _ _ ⟨v111,rfl,rfl⟩;simp) ?_;rintro _ _ ⟨v111,rfl,rfl⟩;refine Qn 7 rfl Cw ?_;refine bF 8 rfl (Ki 1 (.row _ _ _) Ak (_::_::_::_) rfl) ?_;rintro _ _ ⟨rfl,rfl⟩;refine Ff (Aa (AW.region (Qp Hb (Qp A0 (A2 ?_)))));refine ⟨(q.1+1,q.2.1 ++ [cSyn (U5 T V a)],v111),?_,?_,Dh⟩
  . exact ⟨hlt,by simp only;rw [Cs ha,hR.2.1];simp,by simp;omega⟩
  simp only;omega
 have hte:=Dt hc8;have hall:=hR.2.1;rw [hte] at hall;refine AW.exit ?_;refine Br (Ri (Af ?_));refine AOL.ghost (GS.cell (H2:=_::_::_::_) 1 4 rfl rfl rfl rfl D1) ?_;refine O3 1 Ak rfl ?_;refine Bz 2 Ak (_::_::_::_) (Rb ?_);refine Yx [.agg Ak] (Zb 2) S3 ?_;exact Eq.trans (congrArg (fun l:List (List AV)=>AV.agg [.int .i64 (shK e).1,.str [],.str [],.int .i64 (shK e).2,.sl 6 l,.int .i64 0]) (hall.trans (sh_enc e.args).symm)) (congrArg (fun q:Syn=>AV.agg (cSyn q)) (sh_n hc1 hc2 hc3 hc4 hc5)).symm
theorem ty_in {T:List e8Sc}{k:Int}(h:0<=k/\k<(T.length:Int)):T[k.toNat]? = some ((T[k.toNat]?).getD Zs):=by
 rw [List.getElem?_eq_getElem (show k.toNat<T.length by omega)];rfl
theorem evT_y {T:List e8Sc}{V:List Va}{p:Pt}(h:(!(M4 p.cond T8))=true):zL T V p=⟨5,((T[p.type.toNat]?).getD Zs).name,wM V p.var,0,[U5 T V p.cond],0⟩:=by unfold zL;rw [if_pos h]
theorem evT_n {T:List e8Sc}{V:List Va}{p:Pt}(h:(!(M4 p.cond T8))=false):zL T V p=⟨5,((T[p.type.toNat]?).getD Zs).name,wM V p.var,0,[],0⟩:=by unfold zL;rw [B2 h]
theorem oZ (T:List e8Sc)(V:List Va)(hrv:RvOK T V)(hsn:∀s∈T,T3 s)(p:Pt)(hs:Dp p.cond<=1048576)(hn:Iz p.cond=0)(hk:Wb T V p.cond=true)(ht:0<=p.type/\p.type<(T.length:Int))(hv:0<=p.var/\p.var<(V.length:Int)):Ap Tryz.prog 112 [.agg (cNm T V),.agg (cPt p)] (.agg (cSyn (zL T V p))):=by
 refine Fl 33 Tryz.func112 rfl fun H=>?_
 refine Af (Qp (Ik [_,_]) (Qp (Ik Gq) (D7 In fun b4=>Re ?_)));refine Ok ?_;refine Qn 0 rfl (Qf [_,_]) (Qn 1 rfl Ew (Qn 2 rfl (Qf gjz) (Qn 3 rfl Cd ?_)));refine Qn 4 rfl (E9 M7 rfl rfl (ht.1) (Cf (ty_in ht))) (Qn 5 rfl (Qf M7) (Qn 6 rfl F4 (Qn 7 rfl (Qf [_]) (Qn 8 rfl Ew (Qn 9 rfl (Qf giz) (Qn 10 rfl Cd ?_))))));refine Qn 11 rfl (E9 Iy rfl rfl (hv.1) (Cf (aU hv.1 hv.2))) ?_;refine Qn 12 rfl (Qf Iy) (Qn 13 rfl F4 (Qn 14 rfl (E2 Ak) ?_));refine qE 15 rfl (Dg (l:=In) (by kernel_rfl)) ?_;rintro _ _ ⟨b5,rfl,rfl⟩;refine Ns 16 rfl (Ki 0 (.agg _) Ak (_::_::_) rfl) ?_;refine Iw ?_;refine Aa (AW.seq (AW.seq ?_));refine Ok ?_;refine Qn 0 rfl jG (Qn 1 rfl Xb (Qn 2 rfl (Qc rfl (pD)) (Qn 3 rfl (Qc rfl (e8c22 p.cond T8 hs)) (Qn 4 rfl J4 ?_))));refine Iw ?_;refine Aa (Gn (fun hc1=>AW.region (Qp (C1 [_,_]) (Qp jG (Qp Xb (Qp (Qc rfl (sP T V hrv hsn p.cond hs hn hk)) (Qp (Ir [Ak] rfl) (Qp Cw ?_))))))) fun hc1=>B6 (Af (O3 0 Ak rfl ?_)))
 .
  refine Bz 0 Ak (_::_::_) (B7 (O3 0 Ak rfl ?_));refine Bz 1 Ak (_::_::_) (Rb ?_);refine Yx [.agg Ak] (Zb 1) S2 ?_;exact Eq.trans (congrArg (fun c:List AV=>AV.agg [.int .i64 5,.str ((T[p.type.toNat]?).getD Zs).name,.str (wM V p.var),.int .i64 0,.sl 6 [c],.int .i64 0]) (Ba (U5 T V p.cond)).symm) (congrArg (fun q:Syn=>AV.agg (cSyn q)) (evT_y hc1)).symm
 refine Bz 1 Ak (_::_::_) (Rb ?_);refine Yx [.agg Ak] (Zb 1) S2 ?_;exact Ye Lm (evT_n hc1)
theorem jO (p:Pt):(Tg p).length<=J5 p:=by
 unfold Tg;rw [By,<-nd_len];exact List.length_filter_le _ _
theorem uL {p:Pt}(k:Nat):((p.args.take k).flatMap Tg).length<=J5 p:=by
 have h:∀l:List Pt,(l.flatMap Tg).length<=(l.map J5).sum:=by
  intro l
  induction l with
  | nil=>simp
  | cons x r ih=>rw [Kf,Ao,Be,Hu];have:=jO x;omega
 have h1:=h (p.args.take k);have h2:=kV p.args k;have h3:=Mq p;omega
theorem yT (l:List Ex):∀c∈l.map Gx,Au c=true:=fun c hc=>by
 obtain ⟨x,_,rfl⟩:=C9.1 hc;rw [M5];rfl
def coH (p:Pt):List Ex:=if Vu p then [p.cond] else []
theorem coP_H (p:Pt):Tg p=coH p++p.args.flatMap Tg:=coP_eq p
theorem uK (p:Pt):(coH p).length<=1:=by unfold coH;split <;> simp
theorem rf_conds (p:Pt)(hp:J5 p<=1048576):Ap Tryz.prog 110 [.agg (cPt p)] (.sl 8 ((Tg p).map Gx)):=by
 induction p using Pt.ind
 rename_i p ih;have hal:=Wj p;refine Fl 37 Tryz.func110 rfl fun H=>?_
 refine Af (Qp (Ik Gq) (Qp (Cb (z:=8) rfl) (B7 (Qp O2 ?_))));refine AOL.ghost (GS.row (t:=3) 53 8 rfl) ?_;refine A2 ?_;refine AW.cut (fun (z:List (List AV)×Value)=>(⟨[(1,.ptr (cPt p)),(2,.sl 8 []),(3,.row z.2 8 z.1)],.row z.2 z.1.length 53 8::H,37⟩:St)) (fun z=>z.1=(coH p).map Gx) ?_ ?_
 .
  refine Af (Qp (Qf Gq) (Qp Cd (Qp Bq (Qp Co (Qg [] Qw (Qf Gq) (Qg [(10,_)] Qw Cd (Qg [(11,_)] Qw Bq (Qp Gv (Qp Co ?_)))))))));refine Qg [] Qw (Qf Gq) (Qg [(15,_)] Qw Cd (Qg [(16,_)] Qw Bq (Qp Gv (Bp (fun hc1=>AW.region (Qp (Ab (v:=.row _ _ _) rfl) (Qp jG (Qp Xb (Qp (Ir [Me] rfl) ?_))))) fun hc1=>B6 ?_))))
  .
   refine Qe (Vc 0 rfl (D5 rfl) (by simp) (by simp) (by simp [maxLen])) ?_;rintro _ _ ⟨v23,rfl,rfl⟩;refine Qp (Ad (v:=.row _ _ _) rfl) (A2 ?_);refine ⟨([cE p.cond],v23),?_,Dh⟩;show [cE p.cond]=_;unfold coH;rw [show Vu p=true from hc1];exact congrArg (fun c=>[c]) (M5 _).symm
  refine ⟨([],.slice none 0 0),?_,Dh⟩;show []=_;unfold coH;rw [show Vu p=false from hc1];rfl
 rintro z hz;refine Cg (Qp (Qf ghy) (Qp Ew ?_));refine Qp (G1 p.args.length rfl rfl (by simp)) ?_;refine Qp A0 (A2 (AW.block ?_));refine AW.loopS (fun (q:Nat×List (List AV)×Value)=>(⟨[(1,.ptr (cPt p)),(2,.sl 8 []),(3,.row q.2.2 8 q.2.1),(25,.sl 14 (p.args.map Tj)),(26,.int .i64 p.args.length),(27,.int .i64 (q.1:Int))],.row q.2.2 q.2.1.length 53 8::H,37⟩:St)) (fun q=>q.1<=p.args.length/\q.2.1=(coH p++(p.args.take q.1).flatMap Tg).map Gx) (fun q=>p.args.length-q.1) ((0,z.1,z.2)) ?_ Dh ?_
 . exact ⟨A7 _,by rw [hz];simp⟩
 rintro q hR;refine Af (Qp Cv (Re (Gn (fun hc2=>?_) fun hc2=>?_)))
 .
  obtain ⟨a,ha⟩:=C2 hc2;have hlt:=Cc ha;have hm:=Aj ha;have hsc:∀c∈q.2.1,Au c=true:=by rw [hR.2];exact yT _
  have hb1:q.2.1.length<=1048577:=by have h:=uL (p:=p) q.1;have h2:=uK p;rw [hR.2,By,Ao];omega
  have hb2:((Tg a).map Gx).length<=1048576:=by have:=jO a;have:=Ph hm;rw [By];omega
  refine B6 (AW.seq (AW.block (Af ?_)));refine Qp (E9 Gq rfl rfl (by omega) (iT ha)) ?_;refine Qp (C1 Gq) (D7 ggx fun b5=>?_);refine Bz 0 Gq (_::_::_) ?_;refine Kh 5 0 rfl ?_;refine A2 (AW.region (Qp (Ab (v:=.row _ _ _) rfl) (Qp (C1 Gq) ?_)));refine Qp (Qc rfl (ih a hm (by have:=Ph hm;omega))) ?_;refine Qe (Vc 0 rfl (yT _) (hsc) (by simp at hb2 ⊢;omega) (by simp [maxLen] at hb2 ⊢;omega)) ?_;rintro _ _ ⟨v34,rfl,rfl⟩;refine Qp (Ad (v:=.row _ _ _) rfl) (Rk (AW.region (Qp Hb (Qp A0 (A2 ?_)))));refine ⟨(q.1+1,q.2.1++(Tg a).map Gx,v34),?_,?_,Dh⟩
  . exact ⟨hlt,by simp only;rw [Cs ha,hR.2];simp⟩
  simp only;omega
 have hte:=Dt hc2;have hall:=hR.2;rw [hte] at hall;refine AW.exit ?_;refine Br (Ri (Af ?_));refine Qp (Ab (v:=.row _ _ _) rfl) ?_;refine AOL.ghost (GS.unrow 36 rfl) ?_;refine Qp jF (Rb ?_);refine Yx [.sl _ _] Ze S1 ?_;exact (congrArg (AV.sl 8) hall).trans (congrArg (fun q:List Ex=>AV.sl 8 (q.map Gx)) (coP_H p)).symm
end Go.Proofs.YtibcelnfkhdjaaaGreatDoor
namespace Go.Aw
open Go
def Xe:Nat->List (Int×Int)->List MapEntry
 | _,[]=>[]
 | i,p::r=>⟨.int .i64 p.1,.int .i64 p.2,i⟩::Xe (i+1) r
def Wa (es:List (Int×Int)):Obj:=.map (Xe 0 es).toArray es.length
def zM (es:List (Int×Int)):List (Int×AV):=es.map fun p=>(p.1,.int .i64 p.2)
theorem kG:∀(es:List (Int×Int)) (i:Nat),(Xe i es).length=es.length
 | [],_=>rfl
 | p::r,i=>by rw [Xe,A1,A1,kG r]
theorem bR:∀(es:List (Int×Int)) (i k:Nat),(Xe i es)[k]? = (es[k]?).map fun p=>⟨.int .i64 p.1,.int .i64 p.2,i+k⟩
  | [],_,k=>by rw [Xe];simp
  | p::r,i,0=>by rw [Xe];simp
  | p::r,i,k+1=>by
    rw [Xe,List.getElem?_cons_succ,List.getElem?_cons_succ,bR r (i+1) k];rw [show i+1+k=i+(k+1) by omega]
theorem nE:∀(es:List (Int×Int)) (i:Nat) (p:Int×Int),Xe i (es ++ [p])=Xe i es ++ [⟨.int .i64 p.1,.int .i64 p.2,i+es.length⟩]
  | [],i,p=>rfl
  | q::r,i,p=>by
    rw [Dn,Xe,Xe,nE r (i+1) p,Dn,A1];rw [show i+1+r.length=i+(r.length+1) by omega]
theorem uX {es:List (Int×Int)}{e:MapEntry}(h:e∈Xe 0 es):∃p,es[e.born]? = some p/\e.key = .int .i64 p.1/\e.val = .int .i64 p.2:=by
 obtain ⟨k,hk⟩:=Jp.1 h;rw [bR] at hk;obtain ⟨p,hp,rfl⟩:=Wz.1 hk;exact ⟨p,by simpa using hp,rfl,rfl⟩
theorem imE_at {es:List (Int×Int)}{k:Nat}{p:Int×Int}(h:es[k]? = some p):(⟨.int .i64 p.1,.int .i64 p.2,k⟩:MapEntry)∈Xe 0 es:=by
 refine Aj (i:=k) ?_;rw [bR,h];simp
theorem imE_born (es:List (Int×Int))(i:Nat):(Xe i es).map (·.born)=List.range' i es.length:=by
 induction es generalizing i with
 | nil=>rfl
 | cons p r ih=>rw [Xe,Be,ih,A1,List.range'_succ]
theorem xN (es:List (Int×Int)):((Xe 0 es).map (·.born)).Nodup:=by rw [imE_born];exact List.nodup_range'
theorem imA_get (es:List (Int×Int))(k:Nat):(zM es)[k]? = (es[k]?).map fun p=>(p.1,AV.int .i64 p.2):=List.getElem?_map ..
theorem kF {es:List (Int×Int)}{j:Nat}{m:Int}{x:AV}(h:(zM es)[j]? = some (m,x)):((Xe 0 es).getD j default).key = .int .i64 m/\∃v,x = .int .i64 v/\((Xe 0 es).getD j default).val = .int .i64 v:=by
 rw [imA_get] at h;obtain ⟨p,hp,he⟩:=Wz.1 h;cases he
 have:=bR es 0 j;rw [hp] at this;rw [E6,this];exact ⟨rfl,_,rfl,rfl⟩
def Vj:List (Int×Int)->Int->Option Int
 | [],_=>none
 | p::r,n=>if p.1=n then some p.2 else Vj r n
theorem kH:∀(es:List (Int×Int)) (n:Int),Wd (zM es) n=(Vj es n).map (AV.int .i64)
  | [],n=>rfl
  | p::r,n=>by
    show (if p.1=n then some (AV.int .i64 p.2) else Wd (zM r) n)=_;rw [Vj,kH r n];split <;> rfl
theorem dJ:∀{es:List (Int×Int)} {n:Int},(∀p∈es,p.1≠n)->Vj es n=none
 | [],n,_=>rfl
 | p::r,n,h=>by rw [Vj,if_neg (h p (by simp))];exact dJ fun q hq=>h q (by simp [hq])
theorem iL:∀{es:List (Int×Int)} {n v:Int},(es.map (·.1)).Nodup->(n,v)∈es->Vj es n=some v
  | [],n,v,_,h=>by cases h
  | p::r,n,v,hn,h=>by
    rw [Be,Jr] at hn;rw [Vj];rcases Cn.1 h with rfl | h
    . rw [if_pos rfl]
    . rw [if_neg fun e=>hn.1 (C9.2 ⟨(n,v),h,e.symm⟩)]
      exact iL hn.2 h
section
variable {P:Program} {T:List (Nat×TD)} {d:Option Nat} {ty:TypeId} {pos:String} {aft:Array Edge} {gd:Option (Nat×Bool)} {ρ:Operand->AV}
theorem Zt {g:Gh}{w:World}{b:Nat}{o:Obj}(o':Obj)(hg:g b=some 0)(hh:w.heap[b]? = some o) :
  ({ w with heap:=w.heap.setIfInBounds b o' }:World).heap[b]? = some o'/\(∀c,c≠b->({ w with heap:=w.heap.setIfInBounds b o' }:World).heap[c]? = w.heap[c]?)/\Ext g w g { w with heap:=w.heap.setIfInBounds b o' }:=by
 have hb:b<w.heap.size:=(Array.getElem?_eq_some_iff.1 hh).1
 have hoth:∀c,c≠b->({ w with heap:=w.heap.setIfInBounds b o' }:World).heap[c]? = w.heap[c]? :=fun c hc=>by
  simp [Array.getElem?_setIfInBounds_ne (Ne.symm hc)]
 refine ⟨by simp [hb],hoth,rfl,rfl,rfl,by simp,fun c hc hgc=>⟨hgc,hoth c fun e=>by rw [e,hg] at hgc;cases hgc⟩,fun c m' hc hgc=>⟨fun m'' hm''=>by rw [hgc] at hm'';cases hm'';exact Bc _,fun o ho=>?_⟩⟩;have hne:c≠b:=fun e=>by rw [e,hg] at hgc;cases hgc;omega
 unfold World.cell?;rw [hoth c hne]
theorem lU {t:TypeId}{H:List HO}:L7 P ⟨d,.makeMap t none,ty,pos,aft,gd⟩ ρ H (fun x H'=>∃b,x = .val (.map (some b))/\H' = .obj b (Wa [])::H):=by
 intro g w a next Q hr hH hn
 unfold Oper.wp;simp only [execOp,Instr.makeMap,Option.map_none,Sem.run_bind,Sem.run_pure,run_newObj,Result.andThen_ok];have hx:=Ext.alloc g w (.map #[] 0) (some 0);refine hn (g.put w.heap.size (some 0)) _ _ _ _ ⟨w.heap.size,rfl,rfl⟩ (.val _) ((hH.alloc _ (some 0)).cons ⟨Gh.Aaw _ _ _,Ce w _⟩ ?_) hx;intro b hb x hx' hb';simp only [HO.blk,Option.some.injEq] at hb;have:=(HO.ok_lt (hH.ok x hx') hb').1;omega
theorem iM {t kt et b:Nat}{td tk:TD}{kk:IntKind}{n v:Int}{es:List (Int×Int)}{w:World}(hT:H6 P T)(ht:Bl T t=some td)(hk:td.kind = .map kt et)(htk:Bl T kt=some tk)(hkk:tk.kind = .int kk)
  (hheap:w.heap[b]? = some (Wa es)) (hnew:Vj es n=none) :
  (Instr.mapUpdate t (.map (some b)) (.int .i64 n) (.int .i64 v)).run P w = .ok () { w with heap:=w.heap.setIfInBounds b (Wa (es ++ [(n,v)])) }:=by
 have hu:=Ov (hT t td ht) hk;have huk:=Kz (hT kt tk htk) hkk;have hfind:=Rv (k:=kk) (n:=n) (Xe 0 es) (zM es) 0 (by rw [kG,zM,By]) (fun j m x hj=>(kF hj).1) (by rw [kH,hnew];rfl);have hget:(getObj b).run P w = .ok (Wa es) w:=by simp [getObj,Sem.run,hheap];rfl
 have hset:∀o:Obj,(setObj b o).run P w = .ok () { w with heap:=w.heap.setIfInBounds b o }:=fun o=>by simp [setObj,Sem.run,hheap];rfl
 unfold Instr.mapUpdate;rw [Sem.run_bind,A8 hu];simp only [Result.andThen_ok,Sem.run_bind,hget];unfold Wa;simp only [Rq (n:=9999) huk,Result.andThen_ok,Sem.run_bind]
 have hfk:(Instr.findKey kt (.int .i64 n) (Xe 0 es).toArray.toList).run P w = .ok none w:=by
  unfold Instr.findKey;rw [Sem.run_bind,A8 huk];simp only [Result.andThen_ok,hfind,Sem.run_pure]
 simp only [hfk,Result.andThen_ok,hset]
 have e:(Xe 0 es).toArray.push ⟨.int .i64 n,.int .i64 v,es.length⟩=(Xe 0 (es ++ [(n,v)])).toArray:=by
  rw [nE,Do];simp
 rw [e,show (es ++ [(n,v)]).length=es.length+1 by simp]
theorem tP {t:TypeId}{m k v:Operand}{kt et b i:Nat}{td tk:TD}{kk:IntKind}{n x:Int}{es:List (Int×Int)}{H H2:List HO}(hT:H6 P T)(ht:Bl T t=some td)(hk:td.kind = .map kt et)(htk:Bl T kt=some tk)(hkk:tk.kind = .int kk)
  (hm:ρ m = .val (.map (some b))) (hkey:ρ k = .int .i64 n) (hv:ρ v = .int .i64 x) (hH:H[i]? = some (.obj b (Wa es))) (hnew:Vj es n=none) (hH2:H.set i (.obj b (Wa (es ++ [(n,x)])))=H2) :
  L7 P ⟨d,.mapUpdate t m k v,ty,pos,aft,gd⟩ ρ H (fun y H'=>y = .junk/\H'=H2):=by
 subst hH2;intro g w a next Q hr hHK hn
 have h1:=(hm▸hr m (by simp [Op.operands]):Rep g w _ _).inv_val;have h2:=(hkey▸hr k (by simp [Op.operands]):Rep g w _ _).inv_int;have h3:=(hv▸hr v (by simp [Op.operands]):Rep g w _ _).inv_int;obtain ⟨hg,hheap⟩:(HO.obj b (Wa es)).ok g w:=hHK.ok _ (Aj hH);have hrun:=iM (v:=x) hT ht hk htk hkk hheap hnew;unfold Oper.wp;simp only [execOp,Sem.run_bind,h1,h2,h3,hrun,Result.andThen_ok,Sem.run_pure];obtain ⟨hnew',hoth,hx⟩:=Zt (Wa (es ++ [(n,x)])) hg hheap;exact hn g _ undef .junk _ ⟨rfl,rfl⟩ (.junk _) (hHK.set hx hH (fun c hc=>.inl hc) ⟨hg,hnew'⟩ (fun c hc hne _=>⟨rfl,hoth c fun e=>hne (by rw [e];rfl)⟩)) hx
theorem Om {t:TypeId}{m k v:Operand}{kt et b i:Nat}{td tk:TD}{kk:IntKind}{n x:Int}{es:List (Int×Int)}{H H2:List HO}(hT:H6 P T)(ht:Bl T t=some td)(hk:td.kind = .map kt et)(htk:Bl T kt=some tk)(hkk:tk.kind = .int kk)
  (hm:ρ m = .val (.map (some b))) (hkey:ρ k = .int .i64 n) (hv:ρ v = .int .i64 x) (hH:H[i]? = some (.obj b (Wa es))) (hnew:Vj es n=none) (hH2:H.set i (.obj b (Wa (es ++ [(n,x)])))=H2) :
  L7 P ⟨d,.insert t m k v,ty,pos,aft,gd⟩ ρ H (fun y H'=>y = .junk/\H'=H2):=by
 subst hH2;intro g w a next Q hr hHK hn
 have h1:=(hm▸hr m (by simp [Op.operands]):Rep g w _ _).inv_val;have h2:=(hkey▸hr k (by simp [Op.operands]):Rep g w _ _).inv_int;have h3:=(hv▸hr v (by simp [Op.operands]):Rep g w _ _).inv_int;obtain ⟨hg,hheap⟩:(HO.obj b (Wa es)).ok g w:=hHK.ok _ (Aj hH);have hrun:=iM (v:=x) hT ht hk htk hkk hheap hnew;unfold Oper.wp;simp only [execOp,Sem.run_bind,h1,h2,h3,hrun,Result.andThen_ok,Sem.run_pure];obtain ⟨hnew',hoth,hx⟩:=Zt (Wa (es ++ [(n,x)])) hg hheap;exact hn g _ undef .junk _ ⟨rfl,rfl⟩ (.junk _) (hHK.set hx hH (fun c hc=>.inl hc) ⟨hg,hnew'⟩ (fun c hc hne _=>⟨rfl,hoth c fun e=>hne (by rw [e];rfl)⟩)) hx
@[reducible] def itO (b n : Nat) (seen : Array Nat) : Obj := .mapIter (some b) n seen n
theorem gF {t:TypeId}{x:Operand}{kt et b i:Nat}{td:TD}{es:List (Int×Int)}{H:List HO}(hT:H6 P T)(ht:Bl T t=some td)(hk:td.kind = .map kt et)(hx:ρ x = .val (.map (some b)))(hH:H[i]? = some (.obj b (Wa es))) :
  L7 P ⟨d,.range t x,ty,pos,aft,gd⟩ ρ H (fun y H'=>∃it,y = .val (.pointer (some ⟨it,0,none⟩))/\H' = .obj it (itO b es.length #[])::H):=by
 intro g w a next Q hr hHK hn
 have h1:=(hx▸hr x (by simp [Op.operands]):Rep g w _ _).inv_val;obtain ⟨hg,hheap⟩:(HO.obj b (Wa es)).ok g w:=hHK.ok _ (Aj hH);have hrun:=run_range_map w t kt et b (Xe 0 es).toArray es.length (Ov (hT t td ht) hk) hheap;unfold Oper.wp;simp only [execOp,h1,hrun,Sem.run_bind,Result.andThen_ok,Sem.run_pure];have hxx:=Ext.alloc g w (itO b es.length #[]) (some 0);refine hn (g.put w.heap.size (some 0)) _ _ _ _ ⟨w.heap.size,rfl,rfl⟩ (.val _) ((hHK.alloc _ (some 0)).cons ⟨Gh.Aaw _ _ _,Ce w _⟩ ?_) hxx;intro b hb x hx' hb';simp only [HO.blk,Option.some.injEq] at hb;have:=(HO.ok_lt (hHK.ok x hx') hb').1;omega
theorem rep_tup3 {g:Gh}{w:World}{b:Bool}{m n:Int}:Rep g w (.tuple #[.bool b,.int .i64 m,.int .i64 n]) (.tuple [.bool b,.int .i64 m,.int .i64 n]):=.tuple _ _ rfl fun j z hj=>by
 match j,hj with
 | 0,hj=>cases hj;exact .bool _
 | 1,hj=>cases hj;exact .int _ _
 | 2,hj=>cases hj;exact .int _ _
 | j+3,hj=>simp at hj
theorem rep_tup2 {g:Gh}{w:World}{m n:Int}:Rep g w (.tuple #[.int .i64 m,.int .i64 n]) (.tuple [.int .i64 m,.int .i64 n]):=.tuple _ _ rfl fun j z hj=>by
 match j,hj with
 | 0,hj=>cases hj;exact .int _ _
 | 1,hj=>cases hj;exact .int _ _
 | j+2,hj=>simp at hj
theorem rep_tup1 {g:Gh}{w:World}{b:Bool}:Rep g w (.tuple #[.bool b]) (.tuple [.bool b]):=.tuple _ _ rfl fun j z hj=>by
 match j,hj with
 | 0,hj=>cases hj;exact .bool _
 | j+1,hj=>simp at hj
theorem zP {x:Operand}{b it i j n:Nat}{es:List (Int×Int)}{seen:Array Nat}{H:List HO}(hx:ρ x = .val (.pointer (some ⟨it,0,none⟩)))(hI:H[i]? = some (.obj it (itO b n seen)))(hH:H[j]? = some (.obj b (Wa es)))(hn:n=es.length) :
    L7 P ⟨d,.next x false,ty,pos,aft,gd⟩ ρ H (fun y H'=>(y = .tuple [.bool false]/\H'=H/\∀k,k<es.length->seen.contains k=true)\/
      ∃k p,es[k]? = some p/\seen.contains k=false/\y = .tuple [.bool true,.int .i64 p.1,.int .i64 p.2]/\H'=H.set i (.obj it (itO b n (seen.push k)))):=by
  subst hn;intro g w a next Q hr hHK hn
  have h1:=(hx▸hr x (by simp [Op.operands]):Rep g w _ _).inv_val;obtain ⟨hg,hheap⟩:(HO.obj b (Wa es)).ok g w:=hHK.ok _ (Aj hH);obtain ⟨hgi,hit⟩:(HO.obj it (itO b es.length seen)).ok g w:=hHK.ok _ (Aj hI)
  have hold:∀x∈(Xe 0 es).toArray.toList,x.born<es.length:=fun x hx=>by
    obtain ⟨p,hp,_⟩:=uX (by simpa using hx);exact (List.getElem?_eq_some_iff.1 hp).1
  unfold Oper.wp;rcases run_next_at (P:=P) w ty it b es.length es.length seen (Xe 0 es).toArray es.length hit hheap hold (Bc _) with ⟨h0,hrun⟩ | ⟨e,he,w1,hal,hrun⟩
  . simp only [execOp,h1,hrun,Sem.run_bind,Result.andThen_ok,Sem.run_pure]
    refine hn g w _ _ H (.inl ⟨rfl,rfl,fun k hk=>?_⟩) rep_tup1 hHK (Ext.refl g w);cases hc:seen.contains k with
    | true=>rfl
    | false=>
      have hm:=imE_at (List.getElem?_eq_getElem hk)
      have:(⟨.int .i64 es[k].1,.int .i64 es[k].2,k⟩:MapEntry)∈leftOf (Xe 0 es).toArray seen:=by
        unfold leftOf;rw [Array.mem_filter];exact ⟨by simpa using hm,by rw [hc];rfl⟩
      rw [Array.eq_empty_of_size_eq_zero h0] at this;simp at this
  . obtain ⟨h3,h4⟩:=mem_left he
    obtain ⟨p,hp,hk,hv⟩:=uX (by simpa using h3);have hw1:w1.heap=w.heap:=by rcases hal with h | h <;> rw [h] <;> rfl
    have hx1:Ext g w g w1:=by
      rcases hal with h | h
      . rw [h];exact Ext.refl g w
      rw [h];exact Ext.drew g w
    have hH1:HOK g w1 H:=hHK.of_same hx1 fun o ho b hb=>⟨rfl,by rw [hw1]⟩
    simp only [execOp,h1,hrun,Sem.run_bind,Result.andThen_ok,Sem.run_pure,hk,hv];obtain ⟨hnew',hoth,hx2⟩:=Zt (w:=w1) (itO b es.length (seen.push e.born)) hgi (by rw [hw1];exact hit);exact hn g _ _ _ _ (.inr ⟨e.born,p,hp,h4,rfl,rfl⟩) rep_tup3 (hH1.set hx2 hI (fun c hc=>.inl hc) ⟨hgi,hnew'⟩ (fun c hc hne _=>⟨rfl,hoth c fun e=>hne (by rw [e];rfl)⟩)) (hx1.trans hx2)
theorem gG {x:Operand}{b it i j n k:Nat}{es:List (Int×Int)}{seen:Array Nat}{p:Int×Int}(hx:ρ x = .val (.pointer (some ⟨it,0,none⟩)))(hn:n=es.length)(hp:es[k]? = some p) :
  Db P ⟨d,.entry x,ty,pos,aft,gd⟩ ρ (fun H=>(H[i]?,H[j]?)=(some (.obj it (itO b n (seen.push k))),some (.obj b (Wa es)))) (.tuple [.int .i64 p.1,.int .i64 p.2]):=by
 subst hn;intro g w a H next Q hr hHK hH hn
 have hH:H[i]? = some (.obj it (itO b es.length (seen.push k)))/\H[j]? = some (.obj b (Wa es)):=Prod.mk.inj hH;have h1:=(hx▸hr x (by simp [Op.operands]):Rep g w _ _).inv_val;obtain ⟨hg,hheap⟩:(HO.obj b (Wa es)).ok g w:=hHK.ok _ (Aj hH.2);obtain ⟨hgi,hit⟩:(HO.obj it (itO b es.length (seen.push k))).ok g w:=hHK.ok _ (Aj hH.1);have hrun:=run_entry_at (P:=P) w it b es.length seen (Xe 0 es).toArray es.length ⟨.int .i64 p.1,.int .i64 p.2,k⟩ hit hheap (by simpa using imE_at hp) (by simpa using xN es);unfold Oper.wp;simp only [execOp,h1,hrun,Sem.run_bind,Result.andThen_ok,Sem.run_pure];exact hn g w _ rep_tup2 hHK (Ext.refl g w)
end
theorem AW.mapNext {P:Program}{id:Nat}{Q:Exit->St->Prop}{s:St}{x:Operand}{d e it b n i j:Nat}{ty ty2:TypeId}{pos pos2:String}{a1 a2:Array Edge}{es:List (Int×Int)}{seen:Array Nat}
  (hx:El s.sl x = .val (.pointer (some ⟨it,0,none⟩))) (hI:s.H[i]? = some (.obj it (itO b n seen))) (hH:s.H[j]? = some (.obj b (Wa es))) (hn:n=es.length) (hd:Mx (some d) s.n=true) (he:Mx (some e) s.n=true)
  (h1:(∀k,k<es.length->seen.contains k=true)->Q .normal ⟨D9 (some e) (.bool false) (D9 (some d) (.tuple [.bool false]) s.sl),s.H,s.n⟩)
  (h2:∀k p,es[k]? = some p->seen.contains k=false->Q .normal ⟨D9 (some e) (.bool true) (D9 (some d) (.tuple [.bool true,.int .i64 p.1,.int .i64 p.2]) s.sl),s.H.set i (.obj it (itO b n (seen.push k))),s.n⟩) :
  AW P (.region id #[⟨some d,.next x false,ty,pos,a1,none⟩,⟨some e,.extract (.tmp d) 0,ty2,pos2,a2,none⟩] false) Q s:=by
 refine AW.region (AOL.e (zP hx hI hH hn) hd fun y H' hy=>?_)
 have hg:∀y:AV,El (D9 (some d) y s.sl) (.tmp d)=y:=fun y=>by
  show get ((d,y)::s.sl) d=y;rw [E3,if_pos rfl]
 rcases hy with ⟨e1,e2,h⟩ | ⟨k,p,hp,hk,e1,e2⟩
 .
  rw [e1,e2];exact AOL.p (A6 (hg _) rfl) he (AOL.nil (h1 h))
 rw [e1,e2];exact AOL.p (A6 (hg _) rfl) he (AOL.nil (h2 k p hp hk))
def nO (n:Nat)(seen:Array Nat):Nat:=((List.range n).filter fun i=>!seen.contains i).length
theorem dQ {n k:Nat}{seen:Array Nat}(hk:k<n)(hs:seen.contains k=false):nO n (seen.push k)<nO n seen:=by
 unfold nO;refine filter_lt (fun i=>!seen.contains i) (fun i=>!(seen.push k).contains i) (fun x hx=>?_) k (by simp only [hs];rfl) (by rw [contains_push];simp) (List.range n) (by simpa using hk);rw [contains_push] at hx;cases hc:seen.contains x with
 | false=>rfl
 | true=>rw [hc] at hx;exact absurd hx (by simp)
theorem Qv {seen:Array Nat}{k i:Nat}:(seen.push k).contains i=true↔seen.contains i=true\/i=k:=by rw [contains_push];simp
theorem HO.im_ok {g:Gh}{w:World}{b:Nat}{es:List (Int×Int)}(h:(HO.obj b (Wa es)).ok g w):(HO.mapo b (zM es)).ok g w:=by
 obtain ⟨hg,hh⟩:=h;refine ⟨hg,(Xe 0 es).toArray,es.length,hh,by simp [kG,zM],fun i k x hi=>?_,fun i k x hi=>?_⟩
 .
  have:=(kF hi).1;simpa [Ct,E6] using this
 obtain ⟨_,v,rfl,hv⟩:=kF hi;have:((Xe 0 es).toArray.getD i default).val = .int .i64 v:=by simpa [Ct,E6] using hv
 rw [this];exact .int _ _
theorem GS.imAbs {sl:List (Nat×AV)}{H H2:List HO}{n b:Nat}{es:List (Int×Int)}(k:Nat)(hk:H[k]? = some (.obj b (Wa es)))(hH2:H.set k (.mapo b (zM es))=H2):GS ⟨sl,H,n⟩ ⟨sl,H2,n⟩:=fun g a w hG=>by
 subst hH2;refine ⟨g,⟨hG.size,hG.defers,hG.sl,?_⟩,Ext.refl g w⟩;exact hG.heap.set (Ext.refl g w) hk (fun c hc=>.inl hc) (HO.im_ok (hG.heap.ok _ (Aj hk))) fun c hc hne _=>⟨rfl,rfl⟩
end Go.Aw
namespace Go.Proofs.YtibcelnfkhdjaaaGreatDoor
open Go Go.Aw
def xZ:List (Int×Int):=[(5,0),(6,1),(7,2),(8,3),(9,4),(10,5),(11,6),(12,7)]
theorem rz_ops (H:List HO):Bt Tryz.prog 94 H [] (fun r H'=>∃b,r = .val (.map (some b))/\H' = .obj b (Wa xZ)::H):=by
 refine H7 3 Tryz.func94 rfl ?_;refine Af (Qp O2 (B7 (Qe (lU) ?_)));rintro _ _ ⟨b1,rfl,rfl⟩;refine Rt (Om (i:=0) (H2:=_::_) tok rfl rfl rfl rfl rfl rfl rfl rfl (rfl) rfl) (Rt (Om (i:=0) (H2:=_::_) tok rfl rfl rfl rfl rfl rfl rfl rfl (rfl) rfl) (Rt (Om (i:=0) (H2:=_::_) tok rfl rfl rfl rfl rfl rfl rfl rfl (rfl) rfl) (Rt (Om (i:=0) (H2:=_::_) tok rfl rfl rfl rfl rfl rfl rfl rfl (rfl) rfl) (Rt (Om (i:=0) (H2:=_::_) tok rfl rfl rfl rfl rfl rfl rfl rfl (rfl) rfl) (Rt (Om (i:=0) (H2:=_::_) tok rfl rfl rfl rfl rfl rfl rfl rfl (rfl) rfl) (Rt (Om (i:=0) (H2:=_::_) tok rfl rfl rfl rfl rfl rfl rfl rfl (rfl) rfl) (Rt (Om (i:=0) (H2:=_::_) tok rfl rfl rfl rfl rfl rfl rfl rfl (rfl) rfl) (Qp Bu (Qp O2 (Rb ?_))))))))));refine ⟨.inr rfl,[.val _],Ze,_,S0,?_⟩;exact ⟨b1,rfl,rfl⟩
def ShN (T:List e8Sc)(V:List Va)(x:Pt):Prop:=(0<=x.op/\x.op<8)/\(Z3 x=true->(0<=x.type/\x.type<(T.length:Int))/\(0<=x.var/\x.var<(V.length:Int)))/\(Vu x=true->Dp x.cond<=1048576/\Iz x.cond=0/\Wb T V x.cond=true)
theorem nd_kid {p a x:Pt}(h:a∈p.args)(hx:x∈Hx a):x∈Hx p:=by rw [Pc];exact Ha _ (List.mem_flatMap.2 ⟨a,h,hx⟩)
theorem kQ {k:Nat}{q:Int×Int}(h:xZ[k]? = some q):q.1=(k:Int)+5/\q.2=(k:Int)/\k<8:=by
 match k,h with
 | 0,h=>cases h;exact ⟨rfl,rfl,by decide⟩
 | 1,h=>cases h;exact ⟨rfl,rfl,by decide⟩
 | 2,h=>cases h;exact ⟨rfl,rfl,by decide⟩
 | 3,h=>cases h;exact ⟨rfl,rfl,by decide⟩
 | 4,h=>cases h;exact ⟨rfl,rfl,by decide⟩
 | 5,h=>cases h;exact ⟨rfl,rfl,by decide⟩
 | 6,h=>cases h;exact ⟨rfl,rfl,by decide⟩
 | 7,h=>cases h;exact ⟨rfl,rfl,by decide⟩
 | k+8,h=>cases h
def kdS (o:Int)(seen:Array Nat):Int:=if seen.contains o.toNat then o+5 else 0
theorem kd_0 (o:Int):(0:Int)=kdS o #[]:=by unfold kdS;rw [if_neg (by simp)]
theorem kd_T {o:Int}{seen:Array Nat}{k:Nat}{q:Int×Int}(h0:0<=o)(h:xZ[k]? = some q)(he:(q.2==o)=true):q.1=kdS o (seen.push k):=by
 obtain ⟨h1,h2,_⟩:=kQ h;have h3:q.2=o:=by simpa using he
 unfold kdS;rw [if_pos (Qv.2 (.inr (by omega)))];omega
theorem kd_F {o z:Int}{seen:Array Nat}{k:Nat}{q:Int×Int}(h0:0<=o)(h:xZ[k]? = some q)(he:(q.2==o)=false)(hz:z=kdS o seen):z=kdS o (seen.push k):=by
 obtain ⟨h1,h2,_⟩:=kQ h;have h3:q.2≠o:=by simpa using he
 rw [hz];unfold kdS
 have:(seen.push k).contains o.toNat=seen.contains o.toNat:=by
  rw [Bool.eq_iff_iff,Qv];exact ⟨fun h=>h.elim id fun h=>by omega,.inl⟩
 rw [this]
theorem kd_all {o z:Int}{seen:Array Nat}(h0:0<=o/\o<8)(h:∀k,k<xZ.length->seen.contains k=true)(hz:z=kdS o seen):z=o+5:=by
 rw [hz];unfold kdS;rw [if_pos (h _ (by show _<8;omega))]
theorem shP_0 {T:List e8Sc}{V:List Va}{p:Pt}(h:(p.op==0)=true):X8 T V p=zL T V p:=by rw [shP_eq];exact if_pos h
theorem vZ {T:List e8Sc}{V:List Va}{p:Pt}(h:(p.op==0)=false):X8 T V p=⟨p.op+5,[],[],if (p.op==6) then p.span else 0,p.args.map (X8 T V)++(if (p.op==5) then [zL T V p] else if (p.op==7) then [U5 T V p.cond] else []),0⟩:=by rw [shP_eq];exact B2 h
section
variable {T:List e8Sc} {V:List Va} {p:Pt}
theorem sp_5 (h0:(p.op==0)=false)(h:(p.op==5)=true):X8 T V p=⟨p.op+5,[],[],0,p.args.map (X8 T V) ++ [zL T V p],0⟩:=by
 have h6:(p.op==6)=false:=by simp at h ⊢;omega
 rw [vZ h0,h6,h];rfl
theorem sp_6 (h0:(p.op==0)=false)(h5:(p.op==5)=false)(h:(p.op==6)=true):X8 T V p=⟨p.op+5,[],[],p.span,p.args.map (X8 T V) ++ [],0⟩:=by
 have h7:(p.op==7)=false:=by simp at h ⊢;omega
 rw [vZ h0,h5,h,h7];rfl
theorem sp_7 (h0:(p.op==0)=false)(h5:(p.op==5)=false)(h6:(p.op==6)=false)(h:(p.op==7)=true):X8 T V p=⟨p.op+5,[],[],0,p.args.map (X8 T V) ++ [U5 T V p.cond],0⟩:=by
 rw [vZ h0,h5,h6,h];rfl
theorem sp_x (h0:(p.op==0)=false)(h5:(p.op==5)=false)(h6:(p.op==6)=false)(h:(p.op==7)=false):X8 T V p=⟨p.op+5,[],[],0,p.args.map (X8 T V) ++ [],0⟩:=by
 rw [vZ h0,h5,h6,h];rfl
theorem pt_enc (l:List Pt)(x:Syn):(l.map (X8 T V) ++ [x]).map Cu=l.map (fun a=>cSyn (X8 T V a)) ++ [cSyn x]:=by
 rw [E5,List.map_map,Wy,Ba];exact congrArg (· ++ _) (List.map_congr_left fun a _=>Ba _)
theorem vR (l:List Pt):(l.map (X8 T V) ++ []).map Cu=l.map (fun a=>cSyn (X8 T V a)):=by
 rw [A3,List.map_map];exact List.map_congr_left fun a _=>Ba _
end
theorem sR (T:List e8Sc)(V:List Va)(hrv:RvOK T V)(hsn:∀s∈T,T3 s)(p:Pt)(hp:∀x∈Hx p,ShN T V x)(hpn:J5 p<=1048576):Ap Tryz.prog 61 [.agg (cNm T V),.agg (cPt p)] (.agg (cSyn (X8 T V p))):=by
 induction p using Pt.ind
 rename_i p ih;have hal:=Wj p;have hme:=hp p (kN p);have hop:=hme.1;refine Fl 75 Tryz.func61 rfl fun H=>?_
 refine Af (Qp (Ik [_,_]) (Qp (Ik Gq) (D7 In fun b4=>A2 (Cg (Qp (Qf Gq) (Qp Cd (Qp Bq (Bp (fun hc1=>?_) fun hc1=>B6 (Af ?_)))))))))
 .
  have ho:p.op=0:=by simpa using hc1
  have htv:=hme.2.1 (by unfold Z3;rw [ho];rfl);have hcd:=hme.2.2 (by unfold Vu;rw [ho];rfl);refine Af (Qp (C1 [_,_]) (Qp (C1 Gq) (Qp (Qc rfl (oZ T V hrv hsn p hcd.1 hcd.2.1 hcd.2.2 htv.1 htv.2)) ?_)));refine Bz 0 Ak (_::_) (Rc ?_);refine Yx [.agg Ak] (Zb 0) S1 ?_;exact Ye (fun q:Syn=>AV.agg (cSyn q)) (shP_0 hc1)
 refine Qp (Hy (l0:=[.int .i64 0,.str [],.str [],.int .i64 0,.val (.slice none 0 0),.int .i64 0]) (l:=Ak) tok rfl rfl (by kernel_rfl) rfl) ?_;refine D7 In fun b5=>?_
 refine Bz 0 Ak (_::_::_) (A2 (Cg (Qe (Dc rfl (rz_ops _)) ?_)));rintro _ _ ⟨b17,rfl,rfl⟩;refine Qe (gF (i:=0) tok rfl rfl rfl rfl) ?_;rintro _ _ ⟨i18,rfl,rfl⟩;refine A2 (AW.block ?_);refine AW.loopS (fun (z:Int×Array Nat)=>(⟨[(2,.ptr (cNm T V)),(3,.ptr (cPt p)),(4,.val (.pointer (some ⟨b4,0,none⟩))),(5,.val (.pointer (some ⟨b5,0,none⟩))),(18,.val (.pointer (some ⟨i18,0,none⟩)))],.obj i18 (itO b17 8 z.2) :: .obj b17 (Wa xZ) :: .box b5 25 [.int .i64 z.1,.str [],.str [],.int .i64 0,.val (.slice none 0 0),.int .i64 0] :: .box b4 25 In::H,75⟩:St)) (fun z=>z.1=kdS p.op z.2) (fun z=>nO 8 z.2) ((0,#[])) ?_ Dh ?_
 . exact kd_0 _
 rintro z hR;refine AW.seq (AW.mapNext (i:=0) (j:=1) rfl rfl rfl rfl rfl rfl ?_ ?_)
 .
  intro hov5;obtain ⟨z1,z2⟩:=z;have hkd:z1=p.op+5:=kd_all hop hov5 hR;subst hkd;refine Aa (AW.seq (Gn (fun hc2=>?_) fun hc2=>AW.exit ?_))
  . exact absurd (hc2.symm.trans rfl) (by decide)
  refine Br (Ri (AW.seq (AW.seq ?_)));refine AW.ghost (GS.cellRow 2 4 25 6 rfl rfl rfl rfl) ?_
  skip
  refine AW.region (Qp (Qf ghy) (Qp Ew ?_));refine Qp (G1 p.args.length rfl rfl (by simp)) ?_;refine Qp A0 (A2 (AW.block ?_));refine AW.loopS (fun (q:Nat×List (List AV)×Value)=>(⟨[(2,.ptr (cNm T V)),(3,.ptr (cPt p)),(4,.val (.pointer (some ⟨b4,0,none⟩))),(5,.val (.pointer (some ⟨b5,0,none⟩))),(31,.sl 14 (p.args.map Tj)),(32,.int .i64 p.args.length),(33,.int .i64 (q.1:Int))],.row q.2.2 q.2.1.length 25 6 :: .obj i18 (itO b17 8 z2) :: .obj b17 (Wa xZ) :: .box b5 25 [.int .i64 (p.op+5),.str [],.str [],.int .i64 0,.row q.2.2 6 q.2.1,.int .i64 0] :: .box b4 25 In::H,75⟩:St)) (fun q=>q.1<=p.args.length/\q.2.1=(p.args.take q.1).map (fun a=>cSyn (X8 T V a))/\q.2.1.length<=q.1) (fun q=>p.args.length-q.1) ((0,[],.slice none 0 0)) ?_ Dh ?_
  . exact ⟨A7 _,rfl,Bc _⟩
  rintro q hR;refine Af (Qp Cv (Re (Gn (fun hc3=>?_) fun hc3=>?_)))
  .
   obtain ⟨a,ha⟩:=C2 hc3;have hlt:=Cc ha;have hm:=Aj ha;have hsc:∀c∈q.2.1,Au c=true:=by rw [hR.2.1];exact fun c hc=>by obtain ⟨x,_,rfl⟩:=C9.1 hc;rfl
   have hql:=hR.2.2;refine B6 (AW.seq (AW.block (Af ?_)));refine Qp (E9 Gq rfl rfl (by omega) (iT ha)) ?_;refine Qp (C1 Gq) (D7 ggx fun b9=>?_);refine Bz 0 Gq (_::_::_::_::_::_::_) ?_;refine Kh 9 0 rfl ?_;refine A2 (Pq 3 rfl (Qn 0 rfl Cw (Qn 1 rfl (Lb (.row _ _ _) rfl) (Qn 2 rfl (C1 [_,_]) (Qn 3 rfl (C1 Gq) ?_)))));refine Qn 4 rfl (Qc rfl (ih a hm (fun x hx=>hp x (nd_kid hm hx)) (by have:=Ph hm;omega))) ?_;refine Qn 5 rfl (Ir [Ak] rfl) ?_;refine Vr 6 rfl (Vc 0 rfl (D5 rfl) (hsc) (by simp;omega) (by simp [maxLen];omega)) (by rintro _ _ ⟨v43,rfl,rfl⟩;simp) ?_;rintro _ _ ⟨v43,rfl,rfl⟩;refine Qn 7 rfl Cw ?_;refine bF 8 rfl (Ki 3 (.row _ _ _) Ak (_::_::_::_::_::_) rfl) ?_;rintro _ _ ⟨rfl,rfl⟩;refine Ff (Aa (AW.region (Qp Hb (Qp A0 (A2 ?_)))));refine ⟨(q.1+1,q.2.1 ++ [cSyn (X8 T V a)],v43),?_,?_,Dh⟩
   . exact ⟨hlt,by simp only;rw [Cs ha,hR.2.1];simp,by simp;omega⟩
   simp only;omega
  have hte:=Dt hc3;have hall:=hR.2.1;rw [hte] at hall;have hsc:∀c∈q.2.1,Au c=true:=by rw [hR.2.1];exact fun c hc=>by obtain ⟨x,_,rfl⟩:=C9.1 hc;rfl
  have hql:=hR.2.2;refine AW.exit ?_;refine Br (Ri (Cg (Qp (Qf Gq) (Qp Cd (A2 (AW.block ?_))))));refine Af (Qp Bq (Qp Bh (Bp (fun hc4=>?_) fun hc4=>Af (Qp Bq (Qp Bh (Bp (fun hc5=>AW.region (Qp (Qf [Iq _,Iq _,_,Iq _,Iq _,Iq _,Iq _,Iq _,.str _]) (Qp Cd (Qp Cw ?_)))) fun hc5=>Af (Qp Bq (Qp Bh (Bp (fun hc6=>?_) fun hc6=>Rf (Af ?_))))))))))
  .
   have ho:p.op=5:=by simpa using hc4
   have htv:=hme.2.1 (by unfold Z3;rw [ho];rfl);have hcd:=hme.2.2 (by unfold Vu;rw [ho];rfl);refine Pq 3 rfl (Qn 0 rfl Cw (Qn 1 rfl (Lb (.row _ _ _) rfl) (Qn 2 rfl (C1 [_,_]) (Qn 3 rfl (C1 Gq) (Qn 4 rfl (Qc rfl (oZ T V hrv hsn p hcd.1 hcd.2.1 hcd.2.2 htv.1 htv.2)) (Qn 5 rfl (Ir [Ak] rfl) ?_))))));refine Vr 6 rfl (Vc 0 rfl (D5 rfl) (hsc) (by simp;omega) (by simp [maxLen];omega)) (by rintro _ _ ⟨v56,rfl,rfl⟩;simp) ?_;rintro _ _ ⟨v56,rfl,rfl⟩;refine Qn 7 rfl Cw ?_;refine bF 8 rfl (Ki 3 (.row _ _ _) Ak (_::_::_::_::_::_) rfl) ?_;rintro _ _ ⟨rfl,rfl⟩;refine Ff (Aa (Af ?_));refine AOL.ghost (GS.cell (H2:=_::_::_::_::_::_) 3 4 rfl rfl rfl rfl D1) ?_;refine O3 3 Ak rfl ?_;refine Bz 4 Ak (_::_::_::_::_::_) (Rb ?_);refine Yx [.agg Ak] (Zb 4) S5 ?_;exact Eq.trans (congrArg (fun l:List (List AV)=>AV.agg [.int .i64 (p.op+5),.str [],.str [],.int .i64 (0),.sl 6 l,.int .i64 0]) (Eq.trans (congrArg (· ++ [cSyn (zL T V p)]) hall) (pt_enc p.args (zL T V p)).symm)) (congrArg (fun q:Syn=>AV.agg (cSyn q)) (sp_5 hc1 hc4)).symm
  .
   refine Bz 3 Ak (_::_::_::_::_::_) (Rk (Af ?_));refine AOL.ghost (GS.cell (H2:=_::_::_::_::_::_) 3 4 rfl rfl rfl rfl D1) ?_;refine O3 3 Ak rfl ?_;refine Bz 4 Ak (_::_::_::_::_::_) (Rb ?_);refine Yx [.agg Ak] (Zb 4) S5 ?_;exact Eq.trans (congrArg (fun l:List (List AV)=>AV.agg [.int .i64 (p.op+5),.str [],.str [],.int .i64 (p.span),.sl 6 l,.int .i64 0]) (Eq.trans hall (vR p.args).symm)) (congrArg (fun q:Syn=>AV.agg (cSyn q)) (sp_6 hc1 hc4 hc5)).symm
  .
   have ho:p.op=7:=by simpa using hc6
   have hcd:=hme.2.2 (by unfold Vu;rw [ho];rfl);refine Pq 3 rfl (Qn 0 rfl Cw (Qn 1 rfl (Lb (.row _ _ _) rfl) (Qn 2 rfl (C1 [_,_]) (Qn 3 rfl jG (Qn 4 rfl Xb (Qn 5 rfl (Qc rfl (sP T V hrv hsn p.cond hcd.1 hcd.2.1 hcd.2.2)) (Qn 6 rfl (Ir [Ak] rfl) ?_)))))));refine Vr 7 rfl (Vc 0 rfl (D5 rfl) (hsc) (by simp;omega) (by simp [maxLen];omega)) (by rintro _ _ ⟨v72,rfl,rfl⟩;simp) ?_;rintro _ _ ⟨v72,rfl,rfl⟩;refine Qn 8 rfl Cw ?_;refine bF 9 rfl (Ki 3 (.row _ _ _) Ak (_::_::_::_::_::_) rfl) ?_;rintro _ _ ⟨rfl,rfl⟩;refine Ff (Aa (Af ?_));refine AOL.ghost (GS.cell (H2:=_::_::_::_::_::_) 3 4 rfl rfl rfl rfl D1) ?_;refine O3 3 Ak rfl ?_;refine Bz 4 Ak (_::_::_::_::_::_) (Rb ?_);refine Yx [.agg Ak] (Zb 4) S5 ?_;exact Eq.trans (congrArg (fun l:List (List AV)=>AV.agg [.int .i64 (p.op+5),.str [],.str [],.int .i64 (0),.sl 6 l,.int .i64 0]) (Eq.trans (congrArg (· ++ [cSyn (U5 T V p.cond)]) hall) (pt_enc p.args (U5 T V p.cond)).symm)) (congrArg (fun q:Syn=>AV.agg (cSyn q)) (sp_7 hc1 hc4 hc5 hc6)).symm
  refine AOL.ghost (GS.cell (H2:=_::_::_::_::_::_) 3 4 rfl rfl rfl rfl D1) ?_;refine O3 3 Ak rfl ?_;refine Bz 4 Ak (_::_::_::_::_::_) (Rb ?_);refine Yx [.agg Ak] (Zb 4) S5 ?_;exact Eq.trans (congrArg (fun l:List (List AV)=>AV.agg [.int .i64 (p.op+5),.str [],.str [],.int .i64 (0),.sl 6 l,.int .i64 0]) (Eq.trans hall (vR p.args).symm)) (congrArg (fun q:Syn=>AV.agg (cSyn q)) (sp_x hc1 hc4 hc5 hc6)).symm
 intro mk5 mp5 hmp5 hmk5;refine Aa (AW.seq (Gn (fun hc7=>B6 (AW.block (Af (AOL.Aaz (gG (i:=0) (j:=1) rfl rfl hmp5) rfl rfl (Qp Td (Qp Td (Qp Ax (Qp Ax (B7 (Qp A0 (Qp (Qf Gq) (Qp Cd (Qp Bq (Bp (fun hc8=>AW.region (Qp A0 (Qp Cw ?_))) fun hc8=>Rf ?_)))))))))))))) fun hc7=>?_))
 .
  refine Bz 2 Ak (_::_::_::_::_) (Rk ?_);refine ⟨(mp5.1,z.2.push mk5),?_,?_,Dh⟩
  . exact kd_T hop.1 hmp5 hc8
  exact dQ (kQ hmp5).2.2 hmk5
 .
  refine ⟨(z.1,z.2.push mk5),?_,?_,Dh⟩
  . exact kd_F hop.1 hmp5 hc8 hR
  exact dQ (kQ hmp5).2.2 hmk5
 exact absurd (hc7.symm.trans rfl) (by decide)
end Go.Proofs.YtibcelnfkhdjaaaGreatDoor
