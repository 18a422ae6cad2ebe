/-
  Several texts in one: W13d, W13e, W13f. No condition.
-/
import Derived.Test.YtckhoadldibflaaGreatDoorK01
import Derived.Test.YtckhoadldibflaaGreatDoorW13c
import Derived.KernelRfl
set_option linter.unusedVariables false
set_option linter.unusedSimpArgs false
namespace Go.Proofs.YtckhoadldibflaaGreatDoor
open Go Go.Aw
set_option maxHeartbeats 3200000
set_option maxRecDepth 20000

theorem kM {n:Int}(h:1≤n∧n≤5):Uu [(1,AV.str X9),(2,.str X1),(3,.str Xw),(4,.str Oz),(5,.str Sn)] n=some (.str (Kk n)):=by
 have:n=1∨n=2∨n=3∨n=4∨n=5:=by omega
 rcases this with rfl | rfl | rfl | rfl | rfl <;> rfl
theorem gZ {n:Int}(h:5≤n∧n≤11):Uu [(5,AV.str [32,43,32]),(6,.str [32,45,32]),(7,.str [32,60,32]),(8,.str [32,60,61,32]),(9,.str [32,61,61,32]),(10,.str [32,97,110,100,32]),(11,.str [32,111,114,32])] n=some (.str (([32]:Aq)++Fq n ++ [32])):=by
 have:n=5∨n=6∨n=7∨n=8∨n=9∨n=10∨n=11:=by omega
 rcases this with rfl | rfl | rfl | rfl | rfl | rfl | rfl <;> rfl
theorem rW {l:List Syn}{k:Nat}{x:Syn}(h:l[k]? = some x):Is ((l.map Ah).drop k) = [44,32]++Ah x++Is ((l.map Ah).drop (k+1)):=by
 obtain ⟨h1,h2⟩:=List.getElem?_eq_some_iff.1 (Vf h)
 rw [List.drop_eq_getElem_cons h1,Is,h2]
theorem K7 {l:List Syn}{k:Nat}{x:Syn}(h:l[k]? = some x):((l.map Ah).drop k).flatten=Ah x++((l.map Ah).drop (k+1)).flatten:=by
 obtain ⟨h1,h2⟩:=List.getElem?_eq_some_iff.1 (Vf h)
 rw [List.drop_eq_getElem_cons h1,List.flatten_cons,h2]
theorem qH (b:Nat)(o:Aq)(v:Value)(a:Option Addr)(ha:a=none∨a=some ⟨b,0,none⟩)(R:List HO)(t:Syn)(hi:1≤t.num∧t.num≤5)(hn:∀x∈t.kids,Fg b x)(hb:o.length+(Kk t.num++([40]:Aq)++t.text++([46]:Aq)++t.name++Is (t.kids.map Ah)++([41]:Aq)).length≤Wt):Bw Tryz.prog 217 (.row v (D8 o).length 5 1 :: .box b 216 (.val (.pointer a) :: .row v 1 (D8 o)::Oi b)::R) [.val (.pointer (some ⟨b,0,none⟩)),.agg (cSyn t)] (WQ b (o++(Kk t.num++([40]:Aq)++t.text++([46]:Aq)++t.name++Is (t.kids.map Ah)++([41]:Aq))) R):=by
 refine Bw.body (n:=37) tok Tryz.func217 rfl rfl rfl ?_
 refine Ad (Qp (Eu [Iq _,.str _,.str _,Iq _,_,Iq _]) (By ?_))
 refine Qe (Qq) ?_
 rintro _ _ ⟨b7,rfl,rfl⟩
 refine Qe (Cz (i:=0) (x:=.str _) (H2:=_::_::_::_) tok rfl rfl rfl rfl rfl rfl rfl rfl rfl rfl) ?_
 rintro _ _ ⟨rfl,rfl⟩
 refine Qe (Cz (i:=0) (x:=.str _) (H2:=_::_::_::_) tok rfl rfl rfl rfl rfl rfl rfl rfl rfl rfl) ?_
 rintro _ _ ⟨rfl,rfl⟩
 refine Qe (Cz (i:=0) (x:=.str _) (H2:=_::_::_::_) tok rfl rfl rfl rfl rfl rfl rfl rfl rfl rfl) ?_
 rintro _ _ ⟨rfl,rfl⟩
 refine Qe (Cz (i:=0) (x:=.str _) (H2:=_::_::_::_) tok rfl rfl rfl rfl rfl rfl rfl rfl rfl rfl) ?_
 rintro _ _ ⟨rfl,rfl⟩
 refine Qe (Cz (i:=0) (x:=.str _) (H2:=_::_::_::_) tok rfl rfl rfl rfl rfl rfl rfl rfl rfl rfl) ?_
 rintro _ _ ⟨rfl,rfl⟩
 refine Qp Br (Qp N8 ?_)
 refine AOL.ghost (GS.freezeMap (t:=4) 0 rfl rfl) ?_
 refine By (Qp Br ?_)
 refine Qp (A1 (v:=.mapv _) rfl) ?_
 refine Qp (Qf [Iq _,_,Iq _]) (Qp Bt ?_)
 refine Qp (T2 tok rfl rfl rfl rfl rfl rfl (kM hi)) ?_
 refine Qp (Qf [.str _,.str _,Iq _,_,Iq _]) (Qp Df (Qp (Qf [.str _,Iq _,_,Iq _]) (Qp Df ?_)))
 refine Qp (Am (es:=[[.str _],[.str _],[.str _],[.str _],[.str _]]) tok rfl rfl rfl rfl rfl rfl rfl rfl rfl) ?_
 refine Qe (Al (by kernel_rfl) rfl rfl (Ds b _ _ _ ha R [Kk t.num,[40],t.text,[46],t.name] (Nat.le_of_ble_eq_true rfl) (by have h:=hb;(try simp only [List.flatten_cons,List.flatten_nil,List.length_append,List.length_cons,List.length_nil,List.append_nil] at h ⊢);omega))) ?_
 rintro _ _ ⟨v19,a19,rfl,ha19,rfl⟩
 refine Aa (AW.seq (Ad (Qp (Qf [_,Iq _]) (Qp Dg ?_))))
 refine Qp (Ax (n:=t.kids.length) tok rfl rfl rfl (by simp)) ?_
 refine Qp A4 (Aa (AW.block ?_))
 refine AW.sllen 21 rfl fun hlen=>?_
 simp only [List.length_map,maxLen] at hlen
 refine AW.Aat (fun (p:Nat×Aq×Value×Option Addr)=>(⟨[(0,.val (.pointer (some ⟨b,0,none⟩))),(21,.sl 6 (t.kids.map Cl)),(22,.int .i64 t.kids.length),(23,.int .i64 (p.1:Int))],(.row p.2.2.1 (D8 p.2.1).length 5 1 :: .box b 216 (.val (.pointer p.2.2.2) :: .row p.2.2.1 1 (D8 p.2.1)::Oi b)::R),37⟩:St)) (fun (p:Nat×Aq×Value×Option Addr)=>p.1≤t.kids.length∧p.2.1++Is ((t.kids.map Ah).drop p.1)=(o ++ [Kk t.num,[40],t.text,[46],t.name].flatten)++Is (t.kids.map Ah)∧(p.2.2.2=none∨p.2.2.2=some ⟨b,0,none⟩)) (fun (p:Nat×Aq×Value×Option Addr)=>t.kids.length-p.1) ((0,_,v19,a19)) ?_ (GS.weaken ⟨rfl,rfl,rfl,rfl,trivial⟩ (.refl _)) ?_
 · exact ⟨Nat.zero_le _,rfl,ha19⟩
 ·
  rintro p hR
  have ha:=hR.2.2
  refine Ad (Qp B7 (Aa (AW.seq (Au (fun hc1=>?_) fun hc1=>?_))))
  ·
   obtain ⟨x,hx⟩:=aX (l:=t.kids) (k:=p.1) (by have:=of_decide_eq_true hc1;omega)
   have hlt:=Jr hx
   have hnx:=hn x (List.mem_of_getElem? hx)
   have hr:=rW hx
   have hle:=congrArg List.length hR.2.1
   rw [hr] at hle
   simp only [List.length_append,List.length_cons,List.length_nil,List.flatten_cons,List.flatten_nil,List.append_nil] at hle
   refine Bl (AW.seq (AW.block (Ad ?_)))
   refine Qp (Ag (c:=[Iq _,.str _,.str _,Iq _,_,Iq _]) tok rfl rfl rfl rfl rfl rfl (by omega) (B6 hx)) ?_
   refine Qp (B2 [Iq _,.str _,.str _,Iq _,_,Iq _]) ?_
   refine Qe (An (l:=[.int .i64 0,.str [],.str [],.int .i64 0,.sl 6 [],.int .i64 0]) (by kernel_rfl)) ?_
   rintro _ _ ⟨b6,rfl,rfl⟩
   refine B0 0 [Iq _,.str _,.str _,Iq _,_,Iq _] (_::_::_::_) ?_
   refine AOL.ghost (GS.freeze (t:=6) 0 rfl rfl) ?_
   refine By (Qp Br ?_)
   refine Qp (Am (es:=[[.str _]]) tok rfl rfl rfl rfl rfl rfl rfl rfl rfl) ?_
   refine Qe (Al (by kernel_rfl) rfl rfl (Ds b _ _ _ ha R [[44,32]] (Nat.le_of_ble_eq_true rfl) (by simp only [List.length_append,List.length_cons,List.length_nil,List.flatten_cons,List.flatten_nil,List.append_nil] at hb ⊢;omega))) ?_
   rintro _ _ ⟨v29,a29,rfl,ha29,rfl⟩
   refine Aa (AW.region (Qp Br (Qp (B2 [Iq _,.str _,.str _,Iq _,_,Iq _]) ?_)))
   refine Qe (Al (by kernel_rfl) rfl rfl (hnx _ _ _ ha29 R (by simp only [List.length_append,List.length_cons,List.length_nil,List.flatten_cons,List.flatten_nil,List.append_nil] at hb ⊢;omega))) ?_
   rintro _ _ ⟨v32,a32,rfl,ha32,rfl⟩
   refine AOL.nil (Bc (Af (AW.region (Qp Ei (Qp A4 (Aa ?_))))))
   refine ⟨(p.1+1,(p.2.1 ++ [[44,32]].flatten)++Ah x,v32,a32),?_,?_,GS.weaken ⟨rfl,rfl,rfl,rfl,trivial⟩ (.refl _)⟩
   · exact ⟨hlt,by rw [←hR.2.1,hr];simp,ha32⟩
   · simp only;omega
  ·
   have hk:(t.kids.map Ah).length≤p.1:=by have:=of_decide_eq_false hc1;rw [List.length_map];omega
   have he:=hR.2.1
   rw [List.drop_eq_nil_of_le hk,Is,List.append_nil] at he
   have hle:=congrArg List.length he
   simp only [List.length_append,List.length_cons,List.length_nil,List.flatten_cons,List.flatten_nil,List.append_nil] at hle
   refine AW.exit ?_
   refine A7 (A7 (Bp (Af (AW.region (Qp Br ?_)))))
   refine Qp (Am (es:=[[.str _]]) tok rfl rfl rfl rfl rfl rfl rfl rfl rfl) ?_
   refine Qe (Al (by kernel_rfl) rfl rfl (Ds b _ _ _ hR.2.2 R [[41]] (Nat.le_of_ble_eq_true rfl) (by simp only [List.length_append,List.length_cons,List.length_nil,List.flatten_cons,List.flatten_nil,List.append_nil] at hb ⊢;omega))) ?_
   rintro _ _ ⟨v36,a36,rfl,ha36,rfl⟩
   refine AOL.nil ?_
   refine ⟨.inl rfl,[],.nil,_,.refl _,?_⟩
   exact wq ha36 (by rw [he];simp only [List.flatten_cons,List.flatten_nil,List.append_nil,List.append_assoc,List.cons_append,List.nil_append])
theorem lT (b:Nat)(o:Aq)(v:Value)(a:Option Addr)(ha:a=none∨a=some ⟨b,0,none⟩)(R:List HO)(t k0 k1:Syn)(h0:t.kids[0]? = some k0)(h1:t.kids[1]? = some k1)(hi:5≤t.num∧t.num≤11)(hn0:Fg b k0)(hn1:Fg b k1)(hb:o.length+(Dp t k0 (Ah k0)++([32]:Aq)++Fq t.num++([32]:Aq)++Dp t k1 (Ah k1)).length≤Wt):Bw Tryz.prog 218 (.row v (D8 o).length 5 1 :: .box b 216 (.val (.pointer a) :: .row v 1 (D8 o)::Oi b)::R) [.val (.pointer (some ⟨b,0,none⟩)),.agg (cSyn t)] (WQ b (o++(Dp t k0 (Ah k0)++([32]:Aq)++Fq t.num++([32]:Aq)++Dp t k1 (Ah k1))) R):=by
 refine Bw.body (n:=28) tok Tryz.func218 rfl rfl rfl ?_
 refine Ad (Qp (Eu [Iq _,.str _,.str _,Iq _,_,Iq _]) (By ?_))
 refine Qe (Qq) ?_
 rintro _ _ ⟨b5,rfl,rfl⟩
 refine Qe (Cz (i:=0) (x:=.str _) (H2:=_::_::_::_) tok rfl rfl rfl rfl rfl rfl rfl rfl rfl rfl) ?_
 rintro _ _ ⟨rfl,rfl⟩
 refine Qe (Cz (i:=0) (x:=.str _) (H2:=_::_::_::_) tok rfl rfl rfl rfl rfl rfl rfl rfl rfl rfl) ?_
 rintro _ _ ⟨rfl,rfl⟩
 refine Qe (Cz (i:=0) (x:=.str _) (H2:=_::_::_::_) tok rfl rfl rfl rfl rfl rfl rfl rfl rfl rfl) ?_
 rintro _ _ ⟨rfl,rfl⟩
 refine Qe (Cz (i:=0) (x:=.str _) (H2:=_::_::_::_) tok rfl rfl rfl rfl rfl rfl rfl rfl rfl rfl) ?_
 rintro _ _ ⟨rfl,rfl⟩
 refine Qe (Cz (i:=0) (x:=.str _) (H2:=_::_::_::_) tok rfl rfl rfl rfl rfl rfl rfl rfl rfl rfl) ?_
 rintro _ _ ⟨rfl,rfl⟩
 refine Qe (Cz (i:=0) (x:=.str _) (H2:=_::_::_::_) tok rfl rfl rfl rfl rfl rfl rfl rfl rfl rfl) ?_
 rintro _ _ ⟨rfl,rfl⟩
 refine Qe (Cz (i:=0) (x:=.str _) (H2:=_::_::_::_) tok rfl rfl rfl rfl rfl rfl rfl rfl rfl rfl) ?_
 rintro _ _ ⟨rfl,rfl⟩
 refine Qp Br (Qp N8 ?_)
 refine AOL.ghost (GS.freezeMap (t:=4) 0 rfl rfl) ?_
 refine Aa (AW.seq ?_)
 refine AW.draw mixed (fun _=>True) trivial (by kernel_rfl) ?_
 refine Qn 0 rfl Br (Qn 1 rfl (B2 [Iq _,.str _,.str _,Iq _,_,Iq _]) (Qn 2 rfl (Qf [_,Iq _]) (Qn 3 rfl Dg ?_)))
 refine Qn 4 rfl (Ag (c:=[Iq _,.str _,.str _,Iq _,_,Iq _]) tok rfl rfl rfl rfl rfl rfl (by decide) (B6 h0)) ?_
 refine Qn 5 rfl (B2 [Iq _,.str _,.str _,Iq _,_,Iq _]) ?_
 refine Hs.eff _ _ 6 _ _ rfl (by kernel_rfl) rfl rfl (Al (by kernel_rfl) rfl rfl (Qd b _ _ _ ha R t k0 hn0 (by have h:=hb;(try simp only [List.flatten_cons,List.flatten_nil,List.length_append,List.length_cons,List.length_nil,List.append_nil] at h ⊢);omega))) (fun _ _ _=>trivial) ?_
 rintro _ _ ⟨v13,a13,rfl,ha13,rfl⟩
 refine Hs.done _ _ (by kernel_rfl) ?_
 refine Af (Ad (Qp Br ?_))
 refine Qp (A1 (v:=.mapv _) rfl) ?_
 refine Qp (Qf [Iq _,_,Iq _]) (Qp Bt ?_)
 refine Qp (T2 tok rfl rfl rfl rfl rfl rfl (gZ hi)) ?_
 refine Qp (Am (es:=[[.str _]]) tok rfl rfl rfl rfl rfl rfl rfl rfl rfl) ?_
 refine Qe (Al (by kernel_rfl) rfl rfl (Ds b _ _ _ ha13 R [[32]++Fq t.num ++ [32]] (Nat.le_of_ble_eq_true rfl) (by have h:=hb;(try simp only [List.flatten_cons,List.flatten_nil,List.length_append,List.length_cons,List.length_nil,List.append_nil] at h ⊢);omega))) ?_
 rintro _ _ ⟨v20,a20,rfl,ha20,rfl⟩
 refine Aa ?_
 refine AW.draw mixed (fun _=>True) trivial (by kernel_rfl) ?_
 refine Qn 0 rfl Br (Qn 1 rfl (B2 [Iq _,.str _,.str _,Iq _,_,Iq _]) (Qn 2 rfl (Qf [_,Iq _]) (Qn 3 rfl Dg ?_)))
 refine Qn 4 rfl (Ag (c:=[Iq _,.str _,.str _,Iq _,_,Iq _]) tok rfl rfl rfl rfl rfl rfl (by decide) (B6 h1)) ?_
 refine Qn 5 rfl (B2 [Iq _,.str _,.str _,Iq _,_,Iq _]) ?_
 refine Hs.eff _ _ 6 _ _ rfl (by kernel_rfl) rfl rfl (Al (by kernel_rfl) rfl rfl (Qd b _ _ _ ha20 R t k1 hn1 (by have h:=hb;(try simp only [List.flatten_cons,List.flatten_nil,List.length_append,List.length_cons,List.length_nil,List.append_nil] at h ⊢);omega))) (fun _ _ _=>trivial) ?_
 rintro _ _ ⟨v27,a27,rfl,ha27,rfl⟩
 refine Hs.done _ _ (by kernel_rfl) ?_
 refine ⟨.inl rfl,[],.nil,_,.refl _,?_⟩
 exact wq ha27 (by simp only [List.flatten_cons,List.flatten_nil,List.append_nil,List.append_assoc,List.cons_append,List.nil_append])
theorem gF (b:Nat)(o:Aq)(v:Value)(a:Option Addr)(ha:a=none∨a=some ⟨b,0,none⟩)(R:List HO)(t:Syn)(hn:∀x∈t.kids,Fg b x)(hb:o.length+((t.kids.map Ah).flatten).length≤Wt):Bw Tryz.prog 207 (.row v (D8 o).length 5 1 :: .box b 216 (.val (.pointer a) :: .row v 1 (D8 o)::Oi b)::R) [.agg (cSyn t),.ptr [.val (.pointer (some ⟨b,0,none⟩))]] (WQ b (o++((t.kids.map Ah).flatten)) R):=by
 refine Bw.body (n:=16) tok Tryz.func207 rfl rfl rfl ?_
 refine Ad (Qp (Eu [Iq _,.str _,.str _,Iq _,_,Iq _]) (By (Qp (Qf [_,Iq _]) (Qp Dg ?_))))
 refine Qp (Ax (n:=t.kids.length) tok rfl rfl rfl (by simp)) ?_
 refine Qp A4 (Aa (AW.block ?_))
 refine AW.sllen 6 rfl fun hlen=>?_
 simp only [List.length_map,maxLen] at hlen
 refine AW.Aat (fun (p:Nat×Aq×Value×Option Addr)=>(⟨[(1,.ptr [.val (.pointer (some ⟨b,0,none⟩))]),(6,.sl 6 (t.kids.map Cl)),(7,.int .i64 t.kids.length),(8,.int .i64 (p.1:Int))],(.row p.2.2.1 (D8 p.2.1).length 5 1 :: .box b 216 (.val (.pointer p.2.2.2) :: .row p.2.2.1 1 (D8 p.2.1)::Oi b)::R),16⟩:St)) (fun (p:Nat×Aq×Value×Option Addr)=>p.1≤t.kids.length∧p.2.1++((t.kids.map Ah).drop p.1).flatten=o++(t.kids.map Ah).flatten∧(p.2.2.2=none∨p.2.2.2=some ⟨b,0,none⟩)) (fun (p:Nat×Aq×Value×Option Addr)=>t.kids.length-p.1) ((0,o,v,a)) ?_ (GS.weaken ⟨rfl,rfl,rfl,rfl,trivial⟩ (.refl _)) ?_
 · exact ⟨Nat.zero_le _,rfl,ha⟩
 ·
  rintro p hR
  have ha:=hR.2.2
  refine Ad (Qp B7 (Aa (AW.seq (Au (fun hc1=>?_) fun hc1=>?_))))
  ·
   obtain ⟨x,hx⟩:=aX (l:=t.kids) (k:=p.1) (by have:=of_decide_eq_true hc1;omega)
   have hlt:=Jr hx
   have hnx:=hn x (List.mem_of_getElem? hx)
   have hr:=K7 hx
   have hle:=congrArg List.length hR.2.1
   rw [hr] at hle
   simp only [List.length_append] at hle
   refine Bl (AW.seq (AW.block (Ad ?_)))
   refine Qp (Ag (c:=[Iq _,.str _,.str _,Iq _,_,Iq _]) tok rfl rfl rfl rfl rfl rfl (by omega) (B6 hx)) ?_
   refine Qp (B2 [Iq _,.str _,.str _,Iq _,_,Iq _]) ?_
   refine Qe (An (l:=[.int .i64 0,.str [],.str [],.int .i64 0,.sl 6 [],.int .i64 0]) (by kernel_rfl)) ?_
   rintro _ _ ⟨b4,rfl,rfl⟩
   refine B0 0 [Iq _,.str _,.str _,Iq _,_,Iq _] (_::_::_::_) ?_
   refine AOL.ghost (GS.freeze (t:=4) 0 rfl rfl) ?_
   refine Aa (AW.region (Qp G0 (Qp (B2 [Iq _,.str _,.str _,Iq _,_,Iq _]) ?_)))
   refine Qe (Al (by kernel_rfl) rfl rfl (hnx _ _ _ ha R (by omega))) ?_
   rintro _ _ ⟨v14,a14,rfl,ha14,rfl⟩
   refine AOL.nil (Bc (Af (AW.region (Qp Ei (Qp A4 (Aa ?_))))))
   refine ⟨(p.1+1,p.2.1++Ah x,v14,a14),?_,?_,GS.weaken ⟨rfl,rfl,rfl,rfl,trivial⟩ (.refl _)⟩
   · exact ⟨hlt,by rw [←hR.2.1,hr];simp,ha14⟩
   · simp only;omega
  ·
   have hk:(t.kids.map Ah).length≤p.1:=by have:=of_decide_eq_false hc1;rw [List.length_map];omega
   have he:=hR.2.1
   rw [List.drop_eq_nil_of_le hk,List.flatten_nil,List.append_nil] at he
   refine AW.exit ?_
   refine A7 (A7 (Bp ?_))
   refine ⟨.inl rfl,[],.nil,_,.refl _,?_⟩
   exact wq hR.2.2 he
theorem qK (b:Nat)(o:Aq)(v:Value)(a:Option Addr)(ha:a=none∨a=some ⟨b,0,none⟩)(R:List HO)(t k0 k1:Syn)(r:List Syn)(hq:t.kids=k0::k1::r)(hn1:Fg b k1)(hnr:∀x∈r,Fg b x)(hb:o.length+(([113,117,101,114,121,32]:Aq)++t.text++(if !(k0.text == []) then ([32,98,121,32]:Aq)++k0.text else [])++([10,109,97,116,99,104,32]:Aq)++Ah k1++([10,114,101,116,117,114,110,32]:Aq)++B3 (r.map Ah)++([59,10]:Aq)).length≤Wt):Bw Tryz.prog 211 (.row v (D8 o).length 5 1 :: .box b 216 (.val (.pointer a) :: .row v 1 (D8 o)::Oi b)::R) [.val (.pointer (some ⟨b,0,none⟩)),.agg (cSyn t)] (WQ b (o++(([113,117,101,114,121,32]:Aq)++t.text++(if !(k0.text == []) then ([32,98,121,32]:Aq)++k0.text else [])++([10,109,97,116,99,104,32]:Aq)++Ah k1++([10,114,101,116,117,114,110,32]:Aq)++B3 (r.map Ah)++([59,10]:Aq))) R):=by
 refine Bw.body (n:=41) tok Tryz.func211 rfl rfl rfl ?_
 refine Ad (Qp (Eu [Iq _,.str _,.str _,Iq _,_,Iq _]) (Aa (AW.seq ?_)))
 have hb0:=hb
 refine AW.region (Qp Br (Qp (Qf [.str _,.str _,Iq _,_,Iq _]) (Qp Df ?_)))
 refine Qp (Am (es:=[[.str _],[.str _]]) tok rfl rfl rfl rfl rfl rfl rfl rfl rfl) ?_
 refine Qe (Al (by kernel_rfl) rfl rfl (Ds b _ _ _ ha R [[113,117,101,114,121,32],t.text] (Nat.le_of_ble_eq_true rfl) (by have h:=hb;(try simp only [List.flatten_cons,List.flatten_nil,List.length_append,List.length_cons,List.length_nil,List.append_nil] at h ⊢);omega))) ?_
 rintro _ _ ⟨v9,a9,rfl,ha9,rfl⟩
 refine Aa (AW.seq (Ad (Qp (Qf [_,Iq _]) (Qp Dg ?_))))
 refine Qp (Ag (c:=[Iq _,.str _,.str _,Iq _,_,Iq _]) tok rfl rfl rfl rfl rfl rfl (by decide) (B6 (k:=0) (a:=k0) (by rw [hq];rfl))) ?_
 refine Qp (Qf [.str _,.str _,Iq _,_,Iq _]) (Qp Df (Qp Db (By (Qp Dh ?_))))
 refine Qp (Cr rfl rfl) ?_
 refine Aa (Au (fun hc1=>?_) fun hc1=>?_)
 ·
  rw [if_pos hc1] at hb
  refine AW.region (Qp Br (Qp Dh ?_))
  refine Qp (Am (es:=[[.str _],[.str _]]) tok rfl rfl rfl rfl rfl rfl rfl rfl rfl) ?_
  refine Qe (Al (by kernel_rfl) rfl rfl (Ds b _ _ _ ha9 R [[32,98,121,32],k0.text] (Nat.le_of_ble_eq_true rfl) (by have h:=hb;(try simp only [List.flatten_cons,List.flatten_nil,List.length_append,List.length_cons,List.length_nil,List.append_nil] at h ⊢);omega))) ?_
  rintro _ _ ⟨v20,a20,rfl,ha20,rfl⟩
  refine By (Qp Br ?_)
  refine Qp (Am (es:=[[.str _]]) tok rfl rfl rfl rfl rfl rfl rfl rfl rfl) ?_
  refine Qe (Al (by kernel_rfl) rfl rfl (Ds b _ _ _ ha20 R [[10,109,97,116,99,104,32]] (Nat.le_of_ble_eq_true rfl) (by have h:=hb;(try simp only [List.flatten_cons,List.flatten_nil,List.length_append,List.length_cons,List.length_nil,List.append_nil] at h ⊢);omega))) ?_
  rintro _ _ ⟨v23,a23,rfl,ha23,rfl⟩
  refine By (Qp Br (Qp (Qf [_,Iq _]) (Qp Dg ?_)))
  refine Qp (Ag (c:=[Iq _,.str _,.str _,Iq _,_,Iq _]) tok rfl rfl rfl rfl rfl rfl (by decide) (B6 (k:=1) (a:=k1) (by rw [hq];rfl))) ?_
  refine Qp (B2 [Iq _,.str _,.str _,Iq _,_,Iq _]) ?_
  refine Qe (Al (by kernel_rfl) rfl rfl (hn1 _ _ _ ha23 R (by have h:=hb;(try simp only [List.flatten_cons,List.flatten_nil,List.length_append,List.length_cons,List.length_nil,List.append_nil] at h ⊢);omega))) ?_
  rintro _ _ ⟨v29,a29,rfl,ha29,rfl⟩
  refine By (Qp Br ?_)
  refine Qp (Am (es:=[[.str _]]) tok rfl rfl rfl rfl rfl rfl rfl rfl rfl) ?_
  refine Qe (Al (by kernel_rfl) rfl rfl (Ds b _ _ _ ha29 R [[10,114,101,116,117,114,110,32]] (Nat.le_of_ble_eq_true rfl) (by have h:=hb;(try simp only [List.flatten_cons,List.flatten_nil,List.length_append,List.length_cons,List.length_nil,List.append_nil] at h ⊢);omega))) ?_
  rintro _ _ ⟨v32,a32,rfl,ha32,rfl⟩
  refine By (Qp Br (Qp (Qf [_,Iq _]) (Qp Dg ?_)))
  refine Qp (Jh (l:=2) (h:=(t.kids.map Cl).length) tok rfl rfl rfl rfl rfl (⟨_,rfl⟩) (rfl) (by rw [List.length_map,hq];simp) (Nat.le_refl _) (show _=r.map Cl from by rw [List.take_length,hq];rfl)) ?_
  refine Qe (Al (by kernel_rfl) rfl rfl (Xu b _ _ _ ha32 R r hnr (by have h:=hb;(try simp only [List.flatten_cons,List.flatten_nil,List.length_append,List.length_cons,List.length_nil,List.append_nil] at h ⊢);omega))) ?_
  rintro _ _ ⟨v37,a37,rfl,ha37,rfl⟩
  refine Aa (AW.region (Qp Br ?_))
  refine Qp (Am (es:=[[.str _]]) tok rfl rfl rfl rfl rfl rfl rfl rfl rfl) ?_
  refine Qe (Al (by kernel_rfl) rfl rfl (Ds b _ _ _ ha37 R [[59,10]] (Nat.le_of_ble_eq_true rfl) (by have h:=hb;(try simp only [List.flatten_cons,List.flatten_nil,List.length_append,List.length_cons,List.length_nil,List.append_nil] at h ⊢);omega))) ?_
  rintro _ _ ⟨v40,a40,rfl,ha40,rfl⟩
  refine AOL.nil ?_
  refine ⟨.inl rfl,[],.nil,_,.refl _,?_⟩
  exact wq ha40 (by rw [if_pos hc1];simp only [List.flatten_cons,List.flatten_nil,List.append_nil,List.append_assoc,List.cons_append,List.nil_append])
 ·
  rw [Bu hc1] at hb
  have ha20:=ha9
  refine Bl (Ad (Qp Br ?_))
  refine Qp (Am (es:=[[.str _]]) tok rfl rfl rfl rfl rfl rfl rfl rfl rfl) ?_
  refine Qe (Al (by kernel_rfl) rfl rfl (Ds b _ _ _ ha20 R [[10,109,97,116,99,104,32]] (Nat.le_of_ble_eq_true rfl) (by have h:=hb;(try simp only [List.flatten_cons,List.flatten_nil,List.length_append,List.length_cons,List.length_nil,List.append_nil] at h ⊢);omega))) ?_
  rintro _ _ ⟨v23,a23,rfl,ha23,rfl⟩
  refine By (Qp Br (Qp (Qf [_,Iq _]) (Qp Dg ?_)))
  refine Qp (Ag (c:=[Iq _,.str _,.str _,Iq _,_,Iq _]) tok rfl rfl rfl rfl rfl rfl (by decide) (B6 (k:=1) (a:=k1) (by rw [hq];rfl))) ?_
  refine Qp (B2 [Iq _,.str _,.str _,Iq _,_,Iq _]) ?_
  refine Qe (Al (by kernel_rfl) rfl rfl (hn1 _ _ _ ha23 R (by have h:=hb;(try simp only [List.flatten_cons,List.flatten_nil,List.length_append,List.length_cons,List.length_nil,List.append_nil] at h ⊢);omega))) ?_
  rintro _ _ ⟨v29,a29,rfl,ha29,rfl⟩
  refine By (Qp Br ?_)
  refine Qp (Am (es:=[[.str _]]) tok rfl rfl rfl rfl rfl rfl rfl rfl rfl) ?_
  refine Qe (Al (by kernel_rfl) rfl rfl (Ds b _ _ _ ha29 R [[10,114,101,116,117,114,110,32]] (Nat.le_of_ble_eq_true rfl) (by have h:=hb;(try simp only [List.flatten_cons,List.flatten_nil,List.length_append,List.length_cons,List.length_nil,List.append_nil] at h ⊢);omega))) ?_
  rintro _ _ ⟨v32,a32,rfl,ha32,rfl⟩
  refine By (Qp Br (Qp (Qf [_,Iq _]) (Qp Dg ?_)))
  refine Qp (Jh (l:=2) (h:=(t.kids.map Cl).length) tok rfl rfl rfl rfl rfl (⟨_,rfl⟩) (rfl) (by rw [List.length_map,hq];simp) (Nat.le_refl _) (show _=r.map Cl from by rw [List.take_length,hq];rfl)) ?_
  refine Qe (Al (by kernel_rfl) rfl rfl (Xu b _ _ _ ha32 R r hnr (by have h:=hb;(try simp only [List.flatten_cons,List.flatten_nil,List.length_append,List.length_cons,List.length_nil,List.append_nil] at h ⊢);omega))) ?_
  rintro _ _ ⟨v37,a37,rfl,ha37,rfl⟩
  refine Aa (AW.region (Qp Br ?_))
  refine Qp (Am (es:=[[.str _]]) tok rfl rfl rfl rfl rfl rfl rfl rfl rfl) ?_
  refine Qe (Al (by kernel_rfl) rfl rfl (Ds b _ _ _ ha37 R [[59,10]] (Nat.le_of_ble_eq_true rfl) (by have h:=hb;(try simp only [List.flatten_cons,List.flatten_nil,List.length_append,List.length_cons,List.length_nil,List.append_nil] at h ⊢);omega))) ?_
  rintro _ _ ⟨v40,a40,rfl,ha40,rfl⟩
  refine AOL.nil ?_
  refine ⟨.inl rfl,[],.nil,_,.refl _,?_⟩
  exact wq ha40 (by rw [Bu hc1];simp only [List.flatten_cons,List.flatten_nil,List.append_nil,List.append_assoc,List.cons_append,List.nil_append])

set_option maxHeartbeats 6400000
set_option maxRecDepth 20000

theorem Nu (b:Nat)(w:Aq):Ap Tryz.prog 213 [.val (.pointer (some ⟨b,0,none⟩)),.str w] (.fn (.func 269) [] [.ptr [.val (.pointer (some ⟨b,0,none⟩))],.ptr [.str w]]):=by
 refine Ap.body (n:=6) tok Tryz.func213 rfl rfl rfl fun H=>?_
 refine Ad ?_
 refine Qp (Pn (v:=.val _) (cs:=[_]) rfl rfl rfl) ?_
 refine Qp (Pn (v:=.str _) (cs:=[.str _]) rfl rfl rfl) ?_
 refine Qp N8 (By ?_)
 refine Qp (Bv (l:=[]) (l':=[.ptr _,.ptr _]) rfl rfl) ?_
 refine Qp (A6 (v:=.fn _ _ _) rfl) ?_
 refine Aa (AW.ret ?_)
 refine Qr (.fn _ _ _) ?_
 rfl
theorem w_new (H:List HO):Bw Tryz.prog 149 H [] (fun x H'=>∃b,x = .val (.pointer (some ⟨b,0,none⟩))∧H'=(.row (.slice none 0 0) (D8 []).length 5 1 :: .box b 216 (.val (.pointer none) :: .row (.slice none 0 0) 1 (D8 [])::Oi b)::H)):=by
 refine Bw.body (n:=40) tok Tryz.func149 rfl rfl rfl ?_
 refine Ad (Qp N8 (By ?_))
 refine Qp (Mk (l0:=[.val (.pointer none),.val (.slice none 0 0),.val .nilFunc,.val .nilFunc,.val .nilFunc,.val .nilFunc,.val .nilFunc,.val .nilFunc,.val .nilFunc,.val .nilFunc,.val .nilFunc,.val .nilFunc,.val .nilFunc,.val .nilFunc,.val .nilFunc,.val .nilFunc,.val .nilFunc,.val .nilFunc,.val .nilFunc,.val .nilFunc,.val .nilFunc]) (l:=[_,_,_,_,_,_,_,_,_,_,_,_,_,_,_,_,_,_,_,_,_]) tok rfl rfl (by kernel_rfl) rfl) ?_
 refine Qe (nP (v:=.agg _) (cs:=[_,_,_,_,_,_,_,_,_,_,_,_,_,_,_,_,_,_,_,_,_]) rfl rfl (rfl)) ?_
 rintro _ _ ⟨b3,rfl,rfl⟩
 refine Qe (An (l:=[.val (.pointer none)]) (by kernel_rfl)) ?_
 rintro _ _ ⟨b1,rfl,rfl⟩
 refine B0 0 [_] (_::_::_) ?_
 refine AOL.ghost (GS.freeze (t:=1) 0 rfl rfl) ?_
 refine AOL.ghost (GS.cellRow 0 1 5 1 rfl rfl rfl rfl) ?_
 refine Aa (AW.seq ?_)
 refine AW.draw mixed (fun _=>True) trivial (by kernel_rfl) ?_
 refine Qn 0 rfl G0 ?_
 refine Qn 1 rfl (Bv (l:=[]) (l':=[.ptr _]) rfl rfl) ?_
 refine Qn 2 rfl G0 ?_
 refine Qn 3 rfl (Bv (l:=[.val _]) (l':=[]) rfl rfl) ?_
 refine Qn 4 rfl (Bv (l:=[]) (l':=[.ptr _]) rfl rfl) ?_
 refine Qn 5 rfl G0 ?_
 refine Qn 6 rfl (Bv (l:=[.val _]) (l':=[]) rfl rfl) ?_
 refine Qn 7 rfl G0 ?_
 refine Qn 8 rfl (Bv (l:=[.val _]) (l':=[]) rfl rfl) ?_
 refine Qn 9 rfl G0 ?_
 refine Qn 10 rfl (Qc rfl (Nu b3 _)) ?_
 refine Qn 11 rfl G0 ?_
 refine Qn 12 rfl (Qc rfl (Nu b3 _)) ?_
 refine Qn 13 rfl G0 ?_
 refine Qn 14 rfl (Qc rfl (Nu b3 _)) ?_
 refine Qn 15 rfl G0 ?_
 refine Qn 16 rfl (Qc rfl (Nu b3 _)) ?_
 refine Qn 17 rfl G0 ?_
 refine Qn 18 rfl (Qc rfl (Nu b3 _)) ?_
 refine Qn 19 rfl G0 ?_
 refine Qn 20 rfl (Qc rfl (Nu b3 _)) ?_
 refine Qn 21 rfl G0 ?_
 refine Qn 22 rfl (Qc rfl (Nu b3 _)) ?_
 refine Qn 23 rfl G0 ?_
 refine Qn 24 rfl (Bv (l:=[.val _]) (l':=[]) rfl rfl) ?_
 refine Qn 25 rfl (Bv (l:=[]) (l':=[.ptr _]) rfl rfl) ?_
 refine Qn 26 rfl (Bv (l:=[]) (l':=[.ptr _]) rfl rfl) ?_
 refine Qn 27 rfl G0 ?_
 refine Qn 28 rfl (Bv (l:=[.val _]) (l':=[]) rfl rfl) ?_
 refine Qn 29 rfl G0 ?_
 refine Qn 30 rfl (Bv (l:=[.val _]) (l':=[]) rfl rfl) ?_
 refine Qn 31 rfl (Bv (l:=[]) (l':=[.ptr _]) rfl rfl) ?_
 refine Qn 32 rfl (bE (l:=[.fn (.func 207) [] [.ptr [.val (.pointer (some ⟨b3,0,none⟩))]],.fn (.func 208) [.val (.pointer (some ⟨b3,0,none⟩))] [],.fn (.func 209) [] [.ptr [.val (.pointer (some ⟨b3,0,none⟩))]],.fn (.func 211) [.val (.pointer (some ⟨b3,0,none⟩))] [],.val .nilFunc,.fn (.func 212) [.val (.pointer (some ⟨b3,0,none⟩))] [],.fn (.func 269) [] [.ptr [.val (.pointer (some ⟨b3,0,none⟩))],.ptr [.str Nm]],.fn (.func 269) [] [.ptr [.val (.pointer (some ⟨b3,0,none⟩))],.ptr [.str Nq]],.fn (.func 269) [] [.ptr [.val (.pointer (some ⟨b3,0,none⟩))],.ptr [.str Nn]],.fn (.func 269) [] [.ptr [.val (.pointer (some ⟨b3,0,none⟩))],.ptr [.str Ke]],.fn (.func 269) [] [.ptr [.val (.pointer (some ⟨b3,0,none⟩))],.ptr [.str Ib]],.fn (.func 269) [] [.ptr [.val (.pointer (some ⟨b3,0,none⟩))],.ptr [.str Fr]],.fn (.func 269) [] [.ptr [.val (.pointer (some ⟨b3,0,none⟩))],.ptr [.str Ge]],.fn (.func 214) [.val (.pointer (some ⟨b3,0,none⟩))] [],.fn (.func 215) [] [.ptr [.val (.pointer (some ⟨b3,0,none⟩))]],.fn (.func 216) [] [.ptr [.val (.pointer (some ⟨b3,0,none⟩))]],.fn (.func 217) [.val (.pointer (some ⟨b3,0,none⟩))] [],.fn (.func 218) [.val (.pointer (some ⟨b3,0,none⟩))] [],.fn (.func 219) [] [.ptr [.val (.pointer (some ⟨b3,0,none⟩))]]]) tok rfl rfl rfl (by kernel_rfl)) ?_
 refine Qn 33 rfl (Ak rfl) ?_
 refine Qn 34 rfl Cb ?_
 refine Hs.eff _ _ 35 _ _ rfl (by kernel_rfl) rfl rfl (Be (k:=1) (v:=.agg _) (cs':=(.val (.pointer none) :: .row (.slice none 0 0) 1 [] :: [.fn (.func 207) [] [.ptr [.val (.pointer (some ⟨b3,0,none⟩))]],.fn (.func 208) [.val (.pointer (some ⟨b3,0,none⟩))] [],.fn (.func 209) [] [.ptr [.val (.pointer (some ⟨b3,0,none⟩))]],.fn (.func 211) [.val (.pointer (some ⟨b3,0,none⟩))] [],.val .nilFunc,.fn (.func 212) [.val (.pointer (some ⟨b3,0,none⟩))] [],.fn (.func 269) [] [.ptr [.val (.pointer (some ⟨b3,0,none⟩))],.ptr [.str Nm]],.fn (.func 269) [] [.ptr [.val (.pointer (some ⟨b3,0,none⟩))],.ptr [.str Nq]],.fn (.func 269) [] [.ptr [.val (.pointer (some ⟨b3,0,none⟩))],.ptr [.str Nn]],.fn (.func 269) [] [.ptr [.val (.pointer (some ⟨b3,0,none⟩))],.ptr [.str Ke]],.fn (.func 269) [] [.ptr [.val (.pointer (some ⟨b3,0,none⟩))],.ptr [.str Ib]],.fn (.func 269) [] [.ptr [.val (.pointer (some ⟨b3,0,none⟩))],.ptr [.str Fr]],.fn (.func 269) [] [.ptr [.val (.pointer (some ⟨b3,0,none⟩))],.ptr [.str Ge]],.fn (.func 214) [.val (.pointer (some ⟨b3,0,none⟩))] [],.fn (.func 215) [] [.ptr [.val (.pointer (some ⟨b3,0,none⟩))]],.fn (.func 216) [] [.ptr [.val (.pointer (some ⟨b3,0,none⟩))]],.fn (.func 217) [.val (.pointer (some ⟨b3,0,none⟩))] [],.fn (.func 218) [.val (.pointer (some ⟨b3,0,none⟩))] [],.fn (.func 219) [] [.ptr [.val (.pointer (some ⟨b3,0,none⟩))]]])) (H2:=_::_::_) tok rfl rfl rfl rfl rfl rfl (rfl) (by kernel_rfl) rfl) (fun _ _ _=>trivial) ?_
 rintro _ _ ⟨rfl,rfl⟩
 refine Hs.done _ _ (by kernel_rfl) ?_
 refine Af (Ad (Qp G0 (Qp N8 (Aa (AW.ret ?_)))))
 refine ⟨.inr rfl,[.val _],.cons (.tmp _ _ rfl) <| .nil,_,.refl _,?_⟩
 exact ⟨b3,rfl,rfl⟩

set_option maxHeartbeats 3200000
set_option maxRecDepth 20000

theorem yX {b:Nat}{n:Nat}{x y z:AV}(h:(Oi b)[n]? = some x):(y::z::Oi b)[2+n]? = some x:=by rw [Nat.add_comm];exact h
theorem Fe (b:Nat)(o:Aq)(v:Value)(a:Option Addr)(ha:a=none∨a=some ⟨b,0,none⟩)(R:List HO)(t:Syn)(s:Aq)(f:Nat)(first cap:List AV)(hk:0≤t.kind∧t.kind≤18)(hv:(Oi b)[t.kind.toNat]? = some (.fn (.func f) first cap))(hf:Oo Tryz.prog f=true)(hc:Bw Tryz.prog f (.row v (D8 o).length 5 1 :: .box b 216 (.val (.pointer a) :: .row v 1 (D8 o)::Oi b)::R) (first ++ [.agg (cSyn t)]++cap) (WQ b (o++s) R)):Bw Tryz.prog 150 (.row v (D8 o).length 5 1 :: .box b 216 (.val (.pointer a) :: .row v 1 (D8 o)::Oi b)::R) [.val (.pointer (some ⟨b,0,none⟩)),.agg (cSyn t)] (WQ b (o++s) R):=by
 refine Bw.body (n:=13) tok Tryz.func150 rfl rfl rfl ?_
 refine Ad (Qp (Eu [Iq _,.str _,.str _,Iq _,_,Iq _]) (Aa ?_))
 refine AW.draw mixed (fun H'=>_∈H') (List.mem_of_getElem? (i:=1) rfl) (by kernel_rfl) ?_
 refine Qn 0 rfl Br (Qn 1 rfl (Qf [Iq _,.str _,.str _,Iq _,_,Iq _]) (Qn 2 rfl Bt ?_))
 refine Qn 3 rfl (Ak rfl) ?_
 refine Qn 4 rfl Cb ?_
 refine Qn 5 rfl (Sh (o':=(2+t.kind.toNat)) tok rfl rfl rfl rfl rfl (hk.1) (by omega) (by show 2+t.kind.toNat*1=_;omega)) ?_
 refine Qn 6 rfl (OpP.Aas (fun k=>Aj (k:=k) (c:=.fn (.func f) first cap) tok rfl rfl rfl (yX hv)) (fun _ h=>h)) ?_
 refine Qn 7 rfl (B2 [Iq _,.str _,.str _,Iq _,_,Iq _]) ?_
 refine Hs.last _ _ 8 _ _ rfl (by kernel_rfl) rfl rfl (Hb (hf) rfl rfl rfl (Bw.front2 (R:=_) 1 0 rfl rfl rfl (hc))) (by kernel_rfl) ?_
 rintro _ _ ⟨v12,a12,rfl,ha12,rfl⟩
 refine ⟨.inl rfl,[],.nil,_,.refl _,?_⟩
 exact ⟨v12,a12,rfl,ha12,rfl⟩

end Go.Proofs.YtckhoadldibflaaGreatDoor
