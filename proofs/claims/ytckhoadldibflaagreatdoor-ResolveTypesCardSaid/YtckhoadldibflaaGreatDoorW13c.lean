/-
  Walks: the functions of the writer. No condition.
-/
import Derived.Test.YtckhoadldibflaaGreatDoorK01
import Derived.Test.YtckhoadldibflaaGreatDoorW13b
import Derived.KernelRfl
namespace Go.Proofs.YtckhoadldibflaaGreatDoor
open Go Go.Aw
set_option maxHeartbeats 1600000
set_option maxRecDepth 20000
set_option linter.unusedVariables false
set_option linter.unusedSimpArgs false

def Is:List Aq→Aq
 | []=>[]
 | x::r=>[44,32]++x++Is r
theorem Uf:∀(x:Aq) (r:List Aq),B3 (x::r)=x++Is r
 | x,[]=>by simp [B3,Is]
 | x,y::r=>by rw [B3,Uf y r,Is];simp
def O2 (k:Nat)(ws:List Aq):Aq:=if k=0 then B3 ws else Is (ws.drop k)
theorem fD {ws:List Aq}{x:Aq}(h:ws[0]? = some x):O2 0 ws=x++O2 1 ws:=by
 cases ws with
 | nil=>cases h
 | cons y r=>cases h;exact Uf _ _
theorem fK {ws:List Aq}{k:Nat}{x:Aq}(h:ws[k]? = some x)(hk:0<k):O2 k ws = [44,32]++x++O2 (k+1) ws:=by
 unfold O2
 obtain ⟨h1,rfl⟩:=List.getElem?_eq_some_iff.1 h
 rw [if_neg (by omega),if_neg (by omega),List.drop_eq_getElem_cons h1,Is]
theorem Vk {ws:List Aq}{k:Nat}(h:ws.length≤k):O2 k ws = []:=by
 unfold O2
 split
 ·
  rename_i h0
  subst h0
  have:ws = []:=List.eq_nil_of_length_eq_zero (by omega)
  rw [this];rfl
 · rw [List.drop_eq_nil_of_le h];rfl
theorem Vf {l:List Syn}{k:Nat}{x:Syn}(h:l[k]? = some x):(l.map Ah)[k]? = some (Ah x):=by rw [List.getElem?_map,h];rfl
theorem tQ {n:Int}(h:0≤n∧n≤2):([[.str E3],[.str D3],[.str Da]]:List (List AV))[n.toNat]? = some [.str (Hp n)]:=by
 have:n=0∨n=1∨n=2:=by omega
 rcases this with rfl | rfl | rfl <;> rfl
def Fg (b:Nat)(t:Syn):Prop:=∀(o:Aq) (v:Value) (a:Option Addr),(a=none∨a=some ⟨b,0,none⟩)→∀(R:List HO),o.length+(Ah t).length≤Wt→
 Bw Tryz.prog 150 (.row v (D8 o).length 5 1 :: .box b 216 (.val (.pointer a) :: .row v 1 (D8 o)::Oi b)::R) [.val (.pointer (some ⟨b,0,none⟩)),.agg (cSyn t)] (WQ b (o++Ah t) R)
theorem Xu (b:Nat)(o:Aq)(v:Value)(a:Option Addr)(ha:a=none∨a=some ⟨b,0,none⟩)(R:List HO)(l:List Syn)(hn:∀x∈l,Fg b x)(hb:o.length+(B3 (l.map Ah)).length≤Wt):Bw Tryz.prog 267 (.row v (D8 o).length 5 1 :: .box b 216 (.val (.pointer a) :: .row v 1 (D8 o)::Oi b)::R) [.val (.pointer (some ⟨b,0,none⟩)),.sl 6 (l.map Cl)] (WQ b (o++B3 (l.map Ah)) R):=by
 refine Bw.body (n:=22) tok Tryz.func267 rfl rfl rfl ?_
 refine Ad (Qp K4 ?_)
 refine Qp (Ax (n:=l.length) tok rfl rfl rfl (by simp)) ?_
 refine Qp A4 (Aa (AW.block ?_))
 refine AW.sllen 6 rfl fun hlen=>?_
 simp only [List.length_map,maxLen] at hlen
 refine AW.Aat (fun (p:Nat×Aq×Value×Option Addr)=>(⟨[(0,.val (.pointer (some ⟨b,0,none⟩))),(6,.sl 6 (l.map Cl)),(7,.int .i64 l.length),(8,.int .i64 (p.1:Int))],(.row p.2.2.1 (D8 p.2.1).length 5 1 :: .box b 216 (.val (.pointer p.2.2.2) :: .row p.2.2.1 1 (D8 p.2.1)::Oi b)::R),22⟩:St)) (fun (p:Nat×Aq×Value×Option Addr)=>p.1≤l.length∧p.2.1++O2 p.1 (l.map Ah)=o++B3 (l.map Ah)∧(p.2.2.2=none∨p.2.2.2=some ⟨b,0,none⟩)) (fun (p:Nat×Aq×Value×Option Addr)=>l.length-p.1) ((0,o,v,a)) ?_ (GS.weaken ⟨rfl,rfl,rfl,rfl,trivial⟩ (.refl _)) ?_
 · exact ⟨Nat.zero_le _,rfl,ha⟩
 ·
  rintro p hR
  have ha:=hR.2.2
  refine Ad (Qp B7 (Aa (AW.seq (Au (fun hc1=>?_) fun hc1=>?_))))
  ·
   obtain ⟨x,hx⟩:=aX (l:=l) (k:=p.1) (by have:=of_decide_eq_true hc1;omega)
   have hlt:=Jr hx
   have hnx:=hn x (List.mem_of_getElem? hx)
   have hle:=congrArg List.length hR.2.1
   simp only [List.length_append] at hle
   refine Bl (AW.seq (AW.block (Ad (Qp A4 ?_))))
   refine Qp (Ag (c:=[Iq _,.str _,.str _,Iq _,_,Iq _]) tok rfl rfl rfl rfl rfl rfl (by omega) (B6 hx)) ?_
   refine Qp (B2 [Iq _,.str _,.str _,Iq _,_,Iq _]) ?_
   refine Qe (An (l:=[.int .i64 0,.str [],.str [],.int .i64 0,.sl 6 [],.int .i64 0]) (by kernel_rfl)) ?_
   rintro _ _ ⟨b5,rfl,rfl⟩
   refine Qp A0 ?_
   refine B0 0 [Iq _,.str _,.str _,Iq _,_,Iq _] (_::_::_::_) ?_
   refine AOL.ghost (GS.freeze (t:=5) 0 rfl rfl) ?_
   refine Aa (AW.seq (Ad (Qp A4 (Qp D2 (Aa (Au (fun hc2=>?_) fun hc2=>?_))))))
   ·
    have hr:=fK (Vf hx) (by have:=of_decide_eq_true hc2;omega)
    rw [hr] at hle
    simp only [List.length_append,List.length_cons,List.length_nil] at hle
    refine AW.region (Qp Br ?_)
    refine Qp (Am (es:=[[.str _]]) tok rfl rfl rfl rfl rfl rfl rfl rfl rfl) ?_
    refine Qe (Al (by kernel_rfl) rfl rfl (Ds b _ _ _ hR.2.2 R [[44,32]] (by decide) (by simp only [List.flatten_cons,List.flatten_nil,List.append_nil,List.length_cons,List.length_nil];omega))) ?_
    rintro _ _ ⟨v17,a17,rfl,ha17,rfl⟩
    refine Aa (AW.region (Qp Br (Qp (B2 [Iq _,.str _,.str _,Iq _,_,Iq _]) ?_)))
    refine Qe (Al (by kernel_rfl) rfl rfl (hnx _ _ _ (by assumption) R (by (try simp only [List.flatten_cons,List.flatten_nil,List.append_nil,List.length_append,List.length_cons,List.length_nil]);omega))) ?_
    rintro _ _ ⟨v20,a20,rfl,ha20,rfl⟩
    refine AOL.nil (Bc (Af (AW.region (Qp Ei (Qp A4 (Aa ?_))))))
    refine ⟨(p.1+1,(p.2.1 ++ [[44,32]].flatten)++Ah x,v20,a20),?_,?_,GS.weaken ⟨rfl,rfl,rfl,rfl,trivial⟩ (.refl _)⟩
    · exact ⟨hlt,by rw [←hR.2.1,hr];simp,ha20⟩
    · simp only;omega
   ·
    have h0:p.1=0:=by have:=of_decide_eq_false hc2;omega
    have hr:=fD (ws:=l.map Ah) (by have:=Vf hx;rwa [h0] at this)
    rw [h0,hr] at hle
    simp only [List.length_append] at hle
    refine Bl (AW.region (Qp Br (Qp (B2 [Iq _,.str _,.str _,Iq _,_,Iq _]) ?_)))
    refine Qe (Al (by kernel_rfl) rfl rfl (hnx _ _ _ (by assumption) R (by (try simp only [List.flatten_cons,List.flatten_nil,List.append_nil,List.length_append,List.length_cons,List.length_nil]);omega))) ?_
    rintro _ _ ⟨v20,a20,rfl,ha20,rfl⟩
    refine AOL.nil (Bc (Af (AW.region (Qp Ei (Qp A4 (Aa ?_))))))
    refine ⟨(p.1+1,p.2.1++Ah x,v20,a20),?_,?_,GS.weaken ⟨rfl,rfl,rfl,rfl,trivial⟩ (.refl _)⟩
    · exact ⟨hlt,by rw [←hR.2.1,h0,hr];simp,ha20⟩
    · simp only;omega
  ·
   have hk:(l.map Ah).length≤p.1:=by have:=of_decide_eq_false hc1;rw [List.length_map];omega
   refine AW.exit ?_
   refine A7 (A7 (Bp ?_))
   refine ⟨.inl rfl,[],.nil,_,.refl _,?_⟩
   exact wq hR.2.2 (by rw [←hR.2.1,Vk hk,List.append_nil])
theorem Qd (b:Nat)(o:Aq)(v:Value)(a:Option Addr)(ha:a=none∨a=some ⟨b,0,none⟩)(R:List HO)(p t:Syn)(hn:Fg b t)(hb:o.length+(Dp p t (Ah t)).length≤Wt):Bw Tryz.prog 220 (.row v (D8 o).length 5 1 :: .box b 216 (.val (.pointer a) :: .row v 1 (D8 o)::Oi b)::R) [.val (.pointer (some ⟨b,0,none⟩)),.agg (cSyn p),.agg (cSyn t)] (WQ b (o++Dp p t (Ah t)) R):=by
 refine Bw.body (n:=24) tok Tryz.func220 rfl rfl rfl ?_
 refine Ad (Qp (Eu [Iq _,.str _,.str _,Iq _,_,Iq _]) (Qp (Eu [Iq _,.str _,.str _,Iq _,_,Iq _]) (Aa (AW.seq (Ad (Qp (Qf [Iq _,.str _,.str _,Iq _,_,Iq _]) (Qp Bt (Qp (Qf [Iq _,.str _,.str _,Iq _,_,Iq _]) (Qp Bt ?_)))))))))
 refine Qp (Qc rfl (Y7 p.kind t.kind)) ?_
 refine Qp Fz (Aa (Au (fun hc1=>?_) fun hc1=>?_))
 ·
  have hcl:El p.kind t.kind=false:=by simpa using hc1
  have e:Dp p t (Ah t)=Ah t:=if_neg (by rw [hcl];decide)
  rw [e] at hb
  refine Ad (Qp Br (Qp (B2 [Iq _,.str _,.str _,Iq _,_,Iq _]) ?_))
  refine Qe (Al (by kernel_rfl) rfl rfl (hn _ _ _ ha R (by have h:=hb;(try simp only [List.flatten_cons,List.flatten_nil,List.length_append,List.length_cons,List.length_nil,List.append_nil] at h ⊢);omega))) ?_
  rintro _ _ ⟨v14,a14,rfl,ha14,rfl⟩
  refine Aa (Cx ?_)
  refine ⟨.inr rfl,[],.nil,_,.refl _,?_⟩
  exact wq ha14 (by rw [e])
 ·
  have hcl:El p.kind t.kind=true:=by simpa using hc1
  have e:Dp p t (Ah t) = [40]++Ah t ++ [41]:=if_pos hcl
  rw [e] at hb
  refine Bl (Ad (Qp Br ?_))
  refine Qp (Am (es:=[[.str _]]) tok rfl rfl rfl rfl rfl rfl rfl rfl rfl) ?_
  refine Qe (Al (by kernel_rfl) rfl rfl (Ds b _ _ _ ha R [[40]] (Nat.le_of_ble_eq_true rfl) (by have h:=hb;(try simp only [List.flatten_cons,List.flatten_nil,List.length_append,List.length_cons,List.length_nil,List.append_nil] at h ⊢);omega))) ?_
  rintro _ _ ⟨v17,a17,rfl,ha17,rfl⟩
  refine By (Qp Br (Qp (B2 [Iq _,.str _,.str _,Iq _,_,Iq _]) ?_))
  refine Qe (Al (by kernel_rfl) rfl rfl (hn _ _ _ ha17 R (by have h:=hb;(try simp only [List.flatten_cons,List.flatten_nil,List.length_append,List.length_cons,List.length_nil,List.append_nil] at h ⊢);omega))) ?_
  rintro _ _ ⟨v20,a20,rfl,ha20,rfl⟩
  refine Aa (AW.region (Qp Br ?_))
  refine Qp (Am (es:=[[.str _]]) tok rfl rfl rfl rfl rfl rfl rfl rfl rfl) ?_
  refine Qe (Al (by kernel_rfl) rfl rfl (Ds b _ _ _ ha20 R [[41]] (Nat.le_of_ble_eq_true rfl) (by have h:=hb;(try simp only [List.flatten_cons,List.flatten_nil,List.length_append,List.length_cons,List.length_nil,List.append_nil] at h ⊢);omega))) ?_
  rintro _ _ ⟨v23,a23,rfl,ha23,rfl⟩
  refine AOL.nil ?_
  refine ⟨.inl rfl,[],.nil,_,.refl _,?_⟩
  exact wq ha23 (by rw [e];simp only [List.flatten_cons,List.flatten_nil,List.append_nil,List.append_assoc,List.cons_append,List.nil_append])
theorem Aam (b:Nat)(o:Aq)(v:Value)(a:Option Addr)(ha:a=none∨a=some ⟨b,0,none⟩)(R:List HO)(t:Syn)(hn:∀x∈t.kids,Fg b x)(hb:o.length+([116,121,112,101,32]++t.text ++ [32,123]++(if 0<t.kids.length then [32]++B3 (t.kids.map Ah) ++ [32] else []) ++ [125,10]).length≤Wt):Bw Tryz.prog 208 (.row v (D8 o).length 5 1 :: .box b 216 (.val (.pointer a) :: .row v 1 (D8 o)::Oi b)::R) [.val (.pointer (some ⟨b,0,none⟩)),.agg (cSyn t)] (WQ b (o++([116,121,112,101,32]++t.text ++ [32,123]++(if 0<t.kids.length then [32]++B3 (t.kids.map Ah) ++ [32] else []) ++ [125,10])) R):=by
 refine Bw.body (n:=26) tok Tryz.func208 rfl rfl rfl ?_
 refine Ad (Qp (Eu [Iq _,.str _,.str _,Iq _,_,Iq _]) (Aa (AW.seq ?_)))
 have hb0:o.length+([116,121,112,101,32]++t.text ++ [32,123]).length≤Wt:=by have h:=hb;simp only [List.length_append] at h ⊢;omega
 refine AW.region (Qp Br (Qp (Qf [.str _,.str _,Iq _,_,Iq _]) (Qp Df ?_)))
 refine Qp (Am (es:=[[.str _],[.str _],[.str _]]) tok rfl rfl rfl rfl rfl rfl rfl rfl rfl) ?_
 refine Qe (Al (by kernel_rfl) rfl rfl (Ds b _ _ _ ha R [[116,121,112,101,32],t.text,[32,123]] (Nat.le_of_ble_eq_true rfl) (by have h:=hb;(try simp only [List.flatten_cons,List.flatten_nil,List.length_append,List.length_cons,List.length_nil,List.append_nil] at h ⊢);omega))) ?_
 rintro _ _ ⟨v8,a8,rfl,ha8,rfl⟩
 refine Aa (AW.seq (Ad (Qp (Qf [_,Iq _]) (Qp Dg ?_))))
 refine Qp (Ax (n:=t.kids.length) tok rfl rfl rfl (by simp)) ?_
 refine Qp D2 (Aa (Au (fun hc1=>?_) fun hc1=>?_))
 ·
  have hk:0<t.kids.length:=by have:=of_decide_eq_true hc1;omega
  have ha:=ha8
  rw [if_pos hk] at hb
  refine Ad (Qp Br ?_)
  refine Qp (Am (es:=[[.str _]]) tok rfl rfl rfl rfl rfl rfl rfl rfl rfl) ?_
  refine Qe (Al (by kernel_rfl) rfl rfl (Ds b _ _ _ ha8 R [[32]] (Nat.le_of_ble_eq_true rfl) (by have h:=hb;(try simp only [List.flatten_cons,List.flatten_nil,List.length_append,List.length_cons,List.length_nil,List.append_nil] at h ⊢);omega))) ?_
  rintro _ _ ⟨v15,a15,rfl,ha15,rfl⟩
  refine By (Qp Br (Qp (Qf [_,Iq _]) (Qp Dg ?_)))
  refine Qe (Al (by kernel_rfl) rfl rfl (Xu b _ _ _ ha15 R t.kids hn (by have h:=hb;(try simp only [List.flatten_cons,List.flatten_nil,List.length_append,List.length_cons,List.length_nil,List.append_nil] at h ⊢);omega))) ?_
  rintro _ _ ⟨v19,a19,rfl,ha19,rfl⟩
  refine Aa (AW.region (Qp Br ?_))
  refine Qp (Am (es:=[[.str _]]) tok rfl rfl rfl rfl rfl rfl rfl rfl rfl) ?_
  refine Qe (Al (by kernel_rfl) rfl rfl (Ds b _ _ _ ha19 R [[32]] (Nat.le_of_ble_eq_true rfl) (by have h:=hb;(try simp only [List.flatten_cons,List.flatten_nil,List.length_append,List.length_cons,List.length_nil,List.append_nil] at h ⊢);omega))) ?_
  rintro _ _ ⟨v22,a22,rfl,ha22,rfl⟩
  refine Aa (AW.region (Qp Br ?_))
  refine Qp (Am (es:=[[.str _]]) tok rfl rfl rfl rfl rfl rfl rfl rfl rfl) ?_
  refine Qe (Al (by kernel_rfl) rfl rfl (Ds b _ _ _ ha22 R [[125,10]] (Nat.le_of_ble_eq_true rfl) (by have h:=hb;(try simp only [List.flatten_cons,List.flatten_nil,List.length_append,List.length_cons,List.length_nil,List.append_nil] at h ⊢);omega))) ?_
  rintro _ _ ⟨v25,a25,rfl,ha25,rfl⟩
  refine AOL.nil ?_
  refine ⟨.inl rfl,[],.nil,_,.refl _,?_⟩
  exact wq ha25 (by rw [if_pos hk];simp only [List.flatten_cons,List.flatten_nil,List.append_nil,List.append_assoc,List.cons_append,List.nil_append])
 ·
  have hk:¬0<t.kids.length:=by have:=of_decide_eq_false hc1;omega
  rw [if_neg hk] at hb
  have ha22:=ha8
  refine Bl (AW.region (Qp Br ?_))
  refine Qp (Am (es:=[[.str _]]) tok rfl rfl rfl rfl rfl rfl rfl rfl rfl) ?_
  refine Qe (Al (by kernel_rfl) rfl rfl (Ds b _ _ _ ha22 R [[125,10]] (Nat.le_of_ble_eq_true rfl) (by have h:=hb;(try simp only [List.flatten_cons,List.flatten_nil,List.length_append,List.length_cons,List.length_nil,List.append_nil] at h ⊢);omega))) ?_
  rintro _ _ ⟨v25,a25,rfl,ha25,rfl⟩
  refine AOL.nil ?_
  refine ⟨.inl rfl,[],.nil,_,.refl _,?_⟩
  exact wq ha25 (by rw [if_neg hk];simp only [List.flatten_cons,List.flatten_nil,List.append_nil,List.append_assoc,List.cons_append,List.nil_append])
theorem sD (b:Nat)(o:Aq)(v:Value)(a:Option Addr)(ha:a=none∨a=some ⟨b,0,none⟩)(R:List HO)(t:Syn)(hn:∀x∈t.kids,Fg b x)(hb:o.length+(t.text++([32]:Aq)++t.name++(if h:0<t.kids.length then ([32,105,102,32]:Aq)++Ah t.kids[0] else [])).length≤Wt):Bw Tryz.prog 212 (.row v (D8 o).length 5 1 :: .box b 216 (.val (.pointer a) :: .row v 1 (D8 o)::Oi b)::R) [.val (.pointer (some ⟨b,0,none⟩)),.agg (cSyn t)] (WQ b (o++(t.text++([32]:Aq)++t.name++(if h:0<t.kids.length then ([32,105,102,32]:Aq)++Ah t.kids[0] else []))) R):=by
 refine Bw.body (n:=24) tok Tryz.func212 rfl rfl rfl ?_
 refine Ad (Qp (Eu [Iq _,.str _,.str _,Iq _,_,Iq _]) (By (Qp Br (Qp (Qf [.str _,.str _,Iq _,_,Iq _]) (Qp Df (Qp (Qf [.str _,Iq _,_,Iq _]) (Qp Df ?_)))))))
 refine Qp (Am (es:=[[.str _],[.str _],[.str _]]) tok rfl rfl rfl rfl rfl rfl rfl rfl rfl) ?_
 refine Qe (Al (by kernel_rfl) rfl rfl (Ds b _ _ _ ha R [t.text,[32],t.name] (Nat.le_of_ble_eq_true rfl) (by have h:=hb;(try simp only [List.flatten_cons,List.flatten_nil,List.length_append,List.length_cons,List.length_nil,List.append_nil] at h ⊢);omega))) ?_
 rintro _ _ ⟨v10,a10,rfl,ha10,rfl⟩
 refine By (Qp (Qf [_,Iq _]) (Qp Dg ?_))
 refine Qp (Ax (n:=t.kids.length) tok rfl rfl rfl (by simp)) ?_
 refine Qp D2 (Aa (Au (fun hc1=>?_) fun hc1=>?_))
 ·
  have hk:0<t.kids.length:=by have:=of_decide_eq_true hc1;omega
  rw [dif_pos hk] at hb
  have hnx:=hn _ (List.getElem_mem hk)
  refine Ad (Qp Br ?_)
  refine Qp (Am (es:=[[.str _]]) tok rfl rfl rfl rfl rfl rfl rfl rfl rfl) ?_
  refine Qe (Al (by kernel_rfl) rfl rfl (Ds b _ _ _ ha10 R [[32,105,102,32]] (Nat.le_of_ble_eq_true rfl) (by have h:=hb;(try simp only [List.flatten_cons,List.flatten_nil,List.length_append,List.length_cons,List.length_nil,List.append_nil] at h ⊢);omega))) ?_
  rintro _ _ ⟨v17,a17,rfl,ha17,rfl⟩
  refine Aa (AW.region (Qp Br (Qp (Qf [_,Iq _]) (Qp Dg ?_))))
  refine Qp (Ag (c:=[Iq _,.str _,.str _,Iq _,_,Iq _]) tok rfl rfl rfl rfl rfl rfl (by decide) (B6 (List.getElem?_eq_getElem hk))) ?_
  refine Qp (B2 [Iq _,.str _,.str _,Iq _,_,Iq _]) ?_
  refine Qe (Al (by kernel_rfl) rfl rfl (hnx _ _ _ ha17 R (by have h:=hb;(try simp only [List.flatten_cons,List.flatten_nil,List.length_append,List.length_cons,List.length_nil,List.append_nil] at h ⊢);omega))) ?_
  rintro _ _ ⟨v23,a23,rfl,ha23,rfl⟩
  refine AOL.nil ?_
  refine ⟨.inl rfl,[],.nil,_,.refl _,?_⟩
  exact wq ha23 (by rw [dif_pos hk];simp only [List.flatten_cons,List.flatten_nil,List.append_nil,List.append_assoc,List.cons_append,List.nil_append])
 ·
  have hk:¬0<t.kids.length:=by have:=of_decide_eq_false hc1;omega
  rw [dif_neg hk] at hb
  refine AW.skip ?_
  refine ⟨.inl rfl,[],.nil,_,.refl _,?_⟩
  exact wq ha10 (by rw [dif_neg hk];simp only [List.flatten_cons,List.flatten_nil,List.append_nil,List.append_assoc,List.cons_append,List.nil_append])
theorem dE (b:Nat)(o:Aq)(v:Value)(a:Option Addr)(ha:a=none∨a=some ⟨b,0,none⟩)(R:List HO)(t:Syn)(hi : -9223372036854775808≤t.num∧t.num≤9223372036854775807)(ht:t.text.length≤1048576)(hb:o.length+(Iy t).length≤Wt):Bw Tryz.prog 214 (.row v (D8 o).length 5 1 :: .box b 216 (.val (.pointer a) :: .row v 1 (D8 o)::Oi b)::R) [.val (.pointer (some ⟨b,0,none⟩)),.agg (cSyn t)] (WQ b (o++Iy t) R):=by
 refine Bw.body (n:=35) tok Tryz.func214 rfl rfl rfl ?_
 refine Ad (Qp (Eu [Iq _,.str _,.str _,Iq _,_,Iq _]) (By (Qp (Qf [.str _,Iq _,_,Iq _]) (Qp Df (Aa (AW.block (Ad ?_)))))))
 refine Qp (A5 rfl rfl) ?_
 refine Qp A3 (Aa (Au (fun hc1=>?_) fun hc1=>?_))
 ·
  have e:Iy t=Lib.itoa t.num:=if_pos hc1
  rw [e] at hb
  refine AW.region (Qp Br (Qp (Qf [Iq _,_,Iq _]) (Qp Bt ?_)))
  refine Qp (Qc rfl (vL t.num hi.1 hi.2)) ?_
  refine Qp (Am (es:=[[.str _]]) tok rfl rfl rfl rfl rfl rfl rfl rfl rfl) ?_
  refine Qe (Al (by kernel_rfl) rfl rfl (Ds b _ _ _ ha R [Lib.itoa t.num] (Nat.le_of_ble_eq_true rfl) (by have h:=hb;(try simp only [List.flatten_cons,List.flatten_nil,List.length_append,List.length_cons,List.length_nil,List.append_nil] at h ⊢);omega))) ?_
  rintro _ _ ⟨v25,a25,rfl,ha25,rfl⟩
  refine AOL.nil (Bc ?_)
  refine ⟨.inl rfl,[],.nil,_,.refl _,?_⟩
  exact wq ha25 (by rw [e];simp only [List.flatten_cons,List.flatten_nil,List.append_nil,List.append_assoc,List.cons_append,List.nil_append])
 ·
  refine Ad ?_
  refine Qp (A5 rfl rfl) ?_
  refine Qp A3 (Aa (Au (fun hc2=>?_) fun hc2=>?_))
  ·
   have e:Iy t=(if t.num==1 then J5 else Ik):=by unfold Iy;exact (Bu hc1).trans (if_pos hc2)
   rw [e] at hb
   refine AW.region (Qp Br (Qp (Qf [Iq _,_,Iq _]) (Qp Bt (Qp Av ?_))))
   refine Qp (Qc rfl (tM (t.num==1))) ?_
   refine Qp (Am (es:=[[.str _]]) tok rfl rfl rfl rfl rfl rfl rfl rfl rfl) ?_
   refine Qe (Al (by kernel_rfl) rfl rfl (Ds b _ _ _ ha R [if t.num==1 then J5 else Ik] (Nat.le_of_ble_eq_true rfl) (by have h:=hb;(try simp only [List.flatten_cons,List.flatten_nil,List.length_append,List.length_cons,List.length_nil,List.append_nil] at h ⊢);omega))) ?_
   rintro _ _ ⟨v34,a34,rfl,ha34,rfl⟩
   refine AOL.nil (Bc ?_)
   refine ⟨.inl rfl,[],.nil,_,.refl _,?_⟩
   exact wq ha34 (by rw [e];simp only [List.flatten_cons,List.flatten_nil,List.append_nil,List.append_assoc,List.cons_append,List.nil_append])
  ·
   have e:Iy t=(Ja t.text).1:=by unfold Iy;exact (Bu hc1).trans (Bu hc2)
   rw [e] at hb
   refine Ad (Qp (Qf [.str _,.str _,Iq _,_,Iq _]) (Qp Df ?_))
   refine Qp (Qc rfl (c24 t.text ht)) ?_
   refine Qp L0 (Qp pP (Qp Jw (Qp Db (Qp A0 (Aa (AW.region (Qp Br (Qp Dh ?_))))))))
   refine Qp (Am (es:=[[.str _]]) tok rfl rfl rfl rfl rfl rfl rfl rfl rfl) ?_
   refine Qe (Al (by kernel_rfl) rfl rfl (Ds b _ _ _ ha R [(Ja t.text).1] (Nat.le_of_ble_eq_true rfl) (by have h:=hb;(try simp only [List.flatten_cons,List.flatten_nil,List.length_append,List.length_cons,List.length_nil,List.append_nil] at h ⊢);omega))) ?_
   rintro _ _ ⟨v17,a17,rfl,ha17,rfl⟩
   refine AOL.nil (Bc ?_)
   refine ⟨.inl rfl,[],.nil,_,.refl _,?_⟩
   exact wq ha17 (by rw [e];simp only [List.flatten_cons,List.flatten_nil,List.append_nil,List.append_assoc,List.cons_append,List.nil_append])
theorem w_ref (b:Nat)(o:Aq)(v:Value)(a:Option Addr)(ha:a=none∨a=some ⟨b,0,none⟩)(R:List HO)(t:Syn)(hb:o.length+(t.text++([46]:Aq)++t.name).length≤Wt):Bw Tryz.prog 215 (.row v (D8 o).length 5 1 :: .box b 216 (.val (.pointer a) :: .row v 1 (D8 o)::Oi b)::R) [.agg (cSyn t),.ptr [.val (.pointer (some ⟨b,0,none⟩))]] (WQ b (o++(t.text++([46]:Aq)++t.name)) R):=by
 refine Bw.body (n:=10) tok Tryz.func215 rfl rfl rfl ?_
 refine Ad (Qp (Eu [Iq _,.str _,.str _,Iq _,_,Iq _]) (Aa (AW.region (Qp G0 (Qp (Qf [.str _,.str _,Iq _,_,Iq _]) (Qp Df (Qp (Qf [.str _,Iq _,_,Iq _]) (Qp Df ?_))))))))
 refine Qp (Am (es:=[[.str _],[.str _],[.str _]]) tok rfl rfl rfl rfl rfl rfl rfl rfl rfl) ?_
 refine Qe (Al (by kernel_rfl) rfl rfl (Ds b _ _ _ ha R [t.text,[46],t.name] (Nat.le_of_ble_eq_true rfl) (by have h:=hb;(try simp only [List.flatten_cons,List.flatten_nil,List.length_append,List.length_cons,List.length_nil,List.append_nil] at h ⊢);omega))) ?_
 rintro _ _ ⟨v9,a9,rfl,ha9,rfl⟩
 refine AOL.nil ?_
 refine ⟨.inl rfl,[],.nil,_,.refl _,?_⟩
 exact wq ha9 (by simp only [List.flatten_cons,List.flatten_nil,List.append_nil,List.append_assoc,List.cons_append,List.nil_append])
theorem uT (b:Nat)(o:Aq)(v:Value)(a:Option Addr)(ha:a=none∨a=some ⟨b,0,none⟩)(R:List HO)(t:Syn)(hb:o.length+(([99,111,117,110,116,40]:Aq)++t.text++([41]:Aq)).length≤Wt):Bw Tryz.prog 216 (.row v (D8 o).length 5 1 :: .box b 216 (.val (.pointer a) :: .row v 1 (D8 o)::Oi b)::R) [.agg (cSyn t),.ptr [.val (.pointer (some ⟨b,0,none⟩))]] (WQ b (o++(([99,111,117,110,116,40]:Aq)++t.text++([41]:Aq))) R):=by
 refine Bw.body (n:=8) tok Tryz.func216 rfl rfl rfl ?_
 refine Ad (Qp (Eu [Iq _,.str _,.str _,Iq _,_,Iq _]) (Aa (AW.region (Qp G0 (Qp (Qf [.str _,.str _,Iq _,_,Iq _]) (Qp Df ?_))))))
 refine Qp (Am (es:=[[.str _],[.str _],[.str _]]) tok rfl rfl rfl rfl rfl rfl rfl rfl rfl) ?_
 refine Qe (Al (by kernel_rfl) rfl rfl (Ds b _ _ _ ha R [[99,111,117,110,116,40],t.text,[41]] (Nat.le_of_ble_eq_true rfl) (by have h:=hb;(try simp only [List.flatten_cons,List.flatten_nil,List.length_append,List.length_cons,List.length_nil,List.append_nil] at h ⊢);omega))) ?_
 rintro _ _ ⟨v7,a7,rfl,ha7,rfl⟩
 refine AOL.nil ?_
 refine ⟨.inl rfl,[],.nil,_,.refl _,?_⟩
 exact wq ha7 (by simp only [List.flatten_cons,List.flatten_nil,List.append_nil,List.append_assoc,List.cons_append,List.nil_append])
theorem w_not (b:Nat)(o:Aq)(v:Value)(a:Option Addr)(ha:a=none∨a=some ⟨b,0,none⟩)(R:List HO)(t k:Syn)(h0:t.kids[0]? = some k)(hk:Fg b k)(hb:o.length+(([110,111,116,32]:Aq)++Dp t k (Ah k)).length≤Wt):Bw Tryz.prog 219 (.row v (D8 o).length 5 1 :: .box b 216 (.val (.pointer a) :: .row v 1 (D8 o)::Oi b)::R) [.agg (cSyn t),.ptr [.val (.pointer (some ⟨b,0,none⟩))]] (WQ b (o++(([110,111,116,32]:Aq)++Dp t k (Ah k))) R):=by
 refine Bw.body (n:=13) tok Tryz.func219 rfl rfl rfl ?_
 refine Ad (Qp (Eu [Iq _,.str _,.str _,Iq _,_,Iq _]) (By (Qp G0 ?_)))
 refine Qp (Am (es:=[[.str _]]) tok rfl rfl rfl rfl rfl rfl rfl rfl rfl) ?_
 refine Qe (Al (by kernel_rfl) rfl rfl (Ds b _ _ _ ha R [[110,111,116,32]] (Nat.le_of_ble_eq_true rfl) (by have h:=hb;(try simp only [List.flatten_cons,List.flatten_nil,List.length_append,List.length_cons,List.length_nil,List.append_nil] at h ⊢);omega))) ?_
 rintro _ _ ⟨v5,a5,rfl,ha5,rfl⟩
 refine Aa ?_
 refine AW.draw mixed (fun _=>True) trivial (by kernel_rfl) ?_
 refine Qn 0 rfl G0 (Qn 1 rfl (B2 [Iq _,.str _,.str _,Iq _,_,Iq _]) (Qn 2 rfl (Qf [_,Iq _]) (Qn 3 rfl Dg ?_)))
 refine Qn 4 rfl (Ag (c:=[Iq _,.str _,.str _,Iq _,_,Iq _]) tok rfl rfl rfl rfl rfl rfl (by decide) (B6 h0)) ?_
 refine Qn 5 rfl (B2 [Iq _,.str _,.str _,Iq _,_,Iq _]) ?_
 refine Hs.eff _ _ 6 _ _ rfl (by kernel_rfl) rfl rfl (Al (by kernel_rfl) rfl rfl (Qd b _ _ _ ha5 R t k hk (by have h:=hb;(try simp only [List.flatten_cons,List.flatten_nil,List.length_append,List.length_cons,List.length_nil,List.append_nil] at h ⊢);omega))) (fun _ _ _=>trivial) ?_
 rintro _ _ ⟨v12,a12,rfl,ha12,rfl⟩
 refine Hs.done _ _ (by kernel_rfl) ?_
 refine ⟨.inl rfl,[],.nil,_,.refl _,?_⟩
 exact wq ha12 (by simp only [List.flatten_cons,List.flatten_nil,List.append_nil,List.append_assoc,List.cons_append,List.nil_append])
theorem K6 (b:Nat)(o:Aq)(v:Value)(a:Option Addr)(ha:a=none∨a=some ⟨b,0,none⟩)(R:List HO)(t:Syn)(w:Aq)(hi : -9223372036854775808≤t.num∧t.num≤9223372036854775807)(hn:∀x∈t.kids,Fg b x)(hb:o.length+(w++([40]:Aq)++B3 (t.kids.map Ah)++(if t.kind==11 then ([44,32]:Aq)++Lib.itoa t.num else [])++([41]:Aq)).length≤Wt):Bw Tryz.prog 269 (.row v (D8 o).length 5 1 :: .box b 216 (.val (.pointer a) :: .row v 1 (D8 o)::Oi b)::R) [.agg (cSyn t),.ptr [.val (.pointer (some ⟨b,0,none⟩))],.ptr [.str w]] (WQ b (o++(w++([40]:Aq)++B3 (t.kids.map Ah)++(if t.kind==11 then ([44,32]:Aq)++Lib.itoa t.num else [])++([41]:Aq))) R):=by
 refine Bw.body (n:=24) tok Tryz.func269 rfl rfl rfl ?_
 refine Ad (Qp (Eu [Iq _,.str _,.str _,Iq _,_,Iq _]) (Aa (AW.seq ?_)))
 have hb0:=hb
 refine AW.region (Qp G0 (Qp Df ?_))
 refine Qp (Am (es:=[[.str _],[.str _]]) tok rfl rfl rfl rfl rfl rfl rfl rfl rfl) ?_
 refine Qe (Al (by kernel_rfl) rfl rfl (Ds b _ _ _ ha R [w,[40]] (Nat.le_of_ble_eq_true rfl) (by have h:=hb;(try simp only [List.flatten_cons,List.flatten_nil,List.length_append,List.length_cons,List.length_nil,List.append_nil] at h ⊢);omega))) ?_
 rintro _ _ ⟨v7,a7,rfl,ha7,rfl⟩
 refine By (Qp G0 (Qp (Qf [_,Iq _]) (Qp Dg ?_)))
 refine Qe (Al (by kernel_rfl) rfl rfl (Xu b _ _ _ ha7 R t.kids hn (by have h:=hb;(try simp only [List.flatten_cons,List.flatten_nil,List.length_append,List.length_cons,List.length_nil,List.append_nil] at h ⊢);omega))) ?_
 rintro _ _ ⟨v11,a11,rfl,ha11,rfl⟩
 refine Aa (AW.seq (Ad (Qp (Qf [Iq _,.str _,.str _,Iq _,_,Iq _]) (Qp Bt (Qp Av (Aa (Au (fun hc1=>?_) fun hc1=>?_)))))))
 ·
  rw [if_pos hc1] at hb
  refine AW.draw mixed (fun _=>True) trivial (by kernel_rfl) ?_
  refine Qn 0 rfl G0 (Qn 1 rfl (Qf [Iq _,_,Iq _]) (Qn 2 rfl Bt ?_))
  refine Qn 3 rfl (Qc rfl (vL t.num hi.1 hi.2)) ?_
  refine Qn 4 rfl (Am (es:=[[.str _],[.str _]]) tok rfl rfl rfl rfl rfl rfl rfl rfl rfl) ?_
  refine Hs.eff _ _ 5 _ _ rfl (by kernel_rfl) rfl rfl (Al (by kernel_rfl) rfl rfl (Ds b _ _ _ ha11 R [[44,32],Lib.itoa t.num] (Nat.le_of_ble_eq_true rfl) (by have h:=hb;(try simp only [List.flatten_cons,List.flatten_nil,List.length_append,List.length_cons,List.length_nil,List.append_nil] at h ⊢);omega))) (fun _ _ _=>trivial) ?_
  rintro _ _ ⟨v20,a20,rfl,ha20,rfl⟩
  refine Hs.done _ _ (by kernel_rfl) ?_
  refine Af (AW.region (Qp G0 ?_))
  refine Qp (Am (es:=[[.str _]]) tok rfl rfl rfl rfl rfl rfl rfl rfl rfl) ?_
  refine Qe (Al (by kernel_rfl) rfl rfl (Ds b _ _ _ ha20 R [[41]] (Nat.le_of_ble_eq_true rfl) (by have h:=hb;(try simp only [List.flatten_cons,List.flatten_nil,List.length_append,List.length_cons,List.length_nil,List.append_nil] at h ⊢);omega))) ?_
  rintro _ _ ⟨v23,a23,rfl,ha23,rfl⟩
  refine AOL.nil ?_
  refine ⟨.inl rfl,[],.nil,_,.refl _,?_⟩
  exact wq ha23 (by rw [if_pos hc1];simp only [List.flatten_cons,List.flatten_nil,List.append_nil,List.append_assoc,List.cons_append,List.nil_append])
 ·
  rw [Bu hc1] at hb
  have ha20:=ha11
  refine Bl (AW.region (Qp G0 ?_))
  refine Qp (Am (es:=[[.str _]]) tok rfl rfl rfl rfl rfl rfl rfl rfl rfl) ?_
  refine Qe (Al (by kernel_rfl) rfl rfl (Ds b _ _ _ ha20 R [[41]] (Nat.le_of_ble_eq_true rfl) (by have h:=hb;(try simp only [List.flatten_cons,List.flatten_nil,List.length_append,List.length_cons,List.length_nil,List.append_nil] at h ⊢);omega))) ?_
  rintro _ _ ⟨v23,a23,rfl,ha23,rfl⟩
  refine AOL.nil ?_
  refine ⟨.inl rfl,[],.nil,_,.refl _,?_⟩
  exact wq ha23 (by rw [Bu hc1];simp only [List.flatten_cons,List.flatten_nil,List.append_nil,List.append_assoc,List.cons_append,List.nil_append])
theorem tV (b:Nat)(o:Aq)(v:Value)(a:Option Addr)(ha:a=none∨a=some ⟨b,0,none⟩)(R:List HO)(t:Syn)(hi:0≤t.num∧t.num≤2)(hb:o.length+(t.text++([58,32]:Aq)++Hp t.num).length≤Wt):Bw Tryz.prog 209 (.row v (D8 o).length 5 1 :: .box b 216 (.val (.pointer a) :: .row v 1 (D8 o)::Oi b)::R) [.agg (cSyn t),.ptr [.val (.pointer (some ⟨b,0,none⟩))]] (WQ b (o++(t.text++([58,32]:Aq)++Hp t.num)) R):=by
 refine Bw.body (n:=13) tok Tryz.func209 rfl rfl rfl ?_
 refine Ad (Qp (Eu [Iq _,.str _,.str _,Iq _,_,Iq _]) (Aa ?_))
 refine AW.draw mixed (fun _=>True) trivial (by kernel_rfl) ?_
 refine Qn 0 rfl G0 (Qn 1 rfl (Qf [.str _,.str _,Iq _,_,Iq _]) (Qn 2 rfl Df ?_))
 refine Qn 3 rfl (Am (es:=[[.str _],[.str _],[.str _]]) tok rfl rfl rfl rfl rfl rfl rfl rfl rfl) ?_
 refine Qn 4 rfl (Qf [Iq _,_,Iq _]) (Qn 5 rfl Bt ?_)
 refine Qn 6 rfl (Ag (c:=[.str (Hp t.num)]) tok rfl rfl rfl rfl rfl rfl (hi.1) (tQ hi)) ?_
 refine Qn 7 rfl Df ?_
 refine Qn 8 rfl (Am (es:=[[.str _],[.str _],[.str _]]) tok rfl rfl rfl rfl rfl rfl rfl rfl rfl) ?_
 refine Hs.eff _ _ 9 _ _ rfl (by kernel_rfl) rfl rfl (Al (by kernel_rfl) rfl rfl (Ds b _ _ _ ha R [t.text,[58,32],Hp t.num] (Nat.le_of_ble_eq_true rfl) (by have h:=hb;(try simp only [List.flatten_cons,List.flatten_nil,List.length_append,List.length_cons,List.length_nil,List.append_nil] at h ⊢);omega))) (fun _ _ _=>trivial) ?_
 rintro _ _ ⟨v12,a12,rfl,ha12,rfl⟩
 refine Hs.done _ _ (by kernel_rfl) ?_
 refine ⟨.inl rfl,[],.nil,_,.refl _,?_⟩
 exact wq ha12 (by simp only [List.flatten_cons,List.flatten_nil,List.append_nil,List.append_assoc,List.cons_append,List.nil_append])

end Go.Proofs.YtckhoadldibflaaGreatDoor
