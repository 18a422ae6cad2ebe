/-
  Several texts in one: W13c, W13d, W13e, W13f, W13g. No condition.
-/
import Derived.Test.YtckhoadldibflaaGreatDoorK01
import Derived.Test.YtckhoadldibflaaGreatDoorK13
import Derived.KernelRfl
import Derived.Test.YtckhoadldibflaaGreatDoorK06
set_option linter.unusedVariables false
set_option linter.unusedSimpArgs false
namespace Go.Proofs.YtckhoadldibflaaGreatDoor
open Go Go.Aw
set_option maxHeartbeats 1600000
set_option maxRecDepth 20000

def Ld:List A1→A1
 | []=>[]
 | x::r=>[44,32]++x++Ld r
theorem Z4:∀(x:A1) (r:List A1),Ci (x::r)=x++Ld r
 | x,[]=>by simp [Ci,Ld]
 | x,y::r=>by rw [Ci,Z4 y r,Ld];simp
def Ty (k:Nat)(ws:List A1):A1:=if k=0 then Ci ws else Ld (ws.drop k)
theorem pO {ws:List A1}{x:A1}(h:ws[0]? = some x):Ty 0 ws=x++Ty 1 ws:=by
 cases ws with
 | nil=>cases h
 | cons y r=>cases h;exact Z4 _ _
theorem rY {ws:List A1}{k:Nat}{x:A1}(h:ws[k]? = some x)(hk:0<k):Ty k ws = [44,32]++x++Ty (k+1) ws:=by
 unfold Ty;obtain ⟨h1,rfl⟩:=List.getElem?_eq_some_iff.1 h;rw [if_neg (by omega),if_neg (by omega),X8 h1,Ld]
theorem bU {ws:List A1}{k:Nat}(h:ws.length≤k):Ty k ws = []:=by
 unfold Ty;split
 ·
  rename_i h0;subst h0;have:ws = []:=List.eq_nil_of_length_eq_zero (by omega);rw [this];rfl
 rw [O7 h];rfl
theorem dQ {l:List Syn}{k:Nat}{x:Syn}(h:l[k]? = some x):(l.map Ah)[k]? = some (Ah x):=by rw [List.getElem?_map,h];rfl
theorem kind_at {n:Int}(h:0≤n∧n≤2):([[.str Gz],[.str Fy],[.str Ee]]:List (List AV))[n.toNat]? = some [.str (J6 n)]:=by
 have:n=0∨n=1∨n=2:=by omega
 rcases this with rfl | rfl | rfl <;> rfl
def Ha (b:Nat)(t:Syn):Prop:=∀(o:A1) (v:Value) (a:Option Addr),(a=none∨a=some ⟨b,0,none⟩)→∀(R:List HO),o.length+(Ah t).length≤cD→
 B5 Tryz.prog 150 (.row v (F4 o).length 5 1 :: .box b 216 (.val (.pointer a) :: .row v 1 (F4 o)::To b)::R) [.val (.pointer (some ⟨b,0,none⟩)),.agg (cSyn t)] (WQ b (o++Ah t) R)
theorem fO (b:Nat)(o:A1)(v:Value)(a:Option Addr)(ha:a=none∨a=some ⟨b,0,none⟩)(R:List HO)(l:List Syn)(hn:∀x∈l,Ha b x)(hb:o.length+(Ci (l.map Ah)).length≤cD):B5 Tryz.prog 267 (.row v (F4 o).length 5 1 :: .box b 216 (.val (.pointer a) :: .row v 1 (F4 o)::To b)::R) [.val (.pointer (some ⟨b,0,none⟩)),.sl 6 (l.map Cr)] (WQ b (o++Ci (l.map Ah)) R):=by
 refine B5.body (n:=22) tok Tryz.func267 rfl rfl rfl ?_;refine Ad (Qp Fh ?_);refine Qp (Ai (n:=l.length) tok rfl rfl rfl (by simp)) ?_;refine Qp Am (Ae (AW.block (AW.sllen 6 rfl fun hlen=>?_)));simp only [D9,maxLen] at hlen;refine AW.Aam (fun (p:Nat×A1×Value×Option Addr)=>(⟨[(0,.val (.pointer (some ⟨b,0,none⟩))),(6,.sl 6 (l.map Cr)),(7,.int .i64 l.length),(8,.int .i64 (p.1:Int))],(.row p.2.2.1 (F4 p.2.1).length 5 1 :: .box b 216 (.val (.pointer p.2.2.2) :: .row p.2.2.1 1 (F4 p.2.1)::To b)::R),22⟩:St)) (fun p=>p.1≤l.length∧p.2.1++Ty p.1 (l.map Ah)=o++Ci (l.map Ah)∧(p.2.2.2=none∨p.2.2.2=some ⟨b,0,none⟩)) (fun p=>l.length-p.1) ((0,o,v,a)) ?_ Bv ?_
 · exact ⟨Dh _,rfl,ha⟩
 rintro p hR;have ha:=hR.2.2;refine Ad (Qp Bp (Re (Ao (fun hc1=>?_) fun hc1=>?_)))
 ·
  obtain ⟨x,hx⟩:=mH (l:=l) (k:=p.1) (by have:=Gv hc1;omega);have hlt:=Mf hx;have hnx:=hn x (B6 hx);have hle:=congrArg List.length hR.2.1;simp only [Cb] at hle;refine A7 (AW.seq (AW.block (Ad (Qp Am ?_))));refine Qp (Aa (c:=Aq) tok rfl rfl rfl rfl rfl rfl (by omega) (Cl hx)) ?_;refine Qp (Bo Aq) (Dt L7 fun b5=>Qp Al ?_);refine Bt 0 Aq (_::_::_::_) ?_;refine AOL.ghost (GS.freeze (t:=5) 0 rfl rfl) ?_;refine Ae (Rd (Qp Am (Qp Do (Ae (Ao (fun hc2=>?_) fun hc2=>?_)))))
  ·
   have hr:=rY (dQ hx) (by have:=Gv hc2;omega);rw [hr] at hle;simp only [Cb,Cj,Cw] at hle;refine AW.region (Qp Bw (Qp (Ak (es:=[[.str _]]) tok rfl rfl rfl rfl rfl rfl rfl rfl rfl) ?_));refine Qe (Dc rfl (Fb b _ _ _ hR.2.2 R [[44,32]] (by decide) (by simp only [Cv,Db,Cm,Cj,Cw];omega))) ?_;rintro _ _ ⟨v17,a17,rfl,ha17,rfl⟩;refine Ae (AW.region (Qp Bw (Qp (Bo Aq) ?_)));refine Qe (Dc rfl (hnx _ _ _ (by assumption) R (by (try simp only [Cv,Db,Cm,Cb,Cj,Cw]);omega))) ?_;rintro _ _ ⟨v20,a20,rfl,ha20,rfl⟩;refine Rk (AW.region (Qp Dl (Qp Am (Ae ?_))));refine ⟨(p.1+1,(p.2.1 ++ [[44,32]].flatten)++Ah x,v20,a20),?_,?_,Bv⟩
   · exact ⟨hlt,by rw [←hR.2.1,hr];simp,ha20⟩
   simp only;omega
  have h0:p.1=0:=by have:=If hc2;omega
  have hr:=pO (ws:=l.map Ah) (by have:=dQ hx;rwa [h0] at this);rw [h0,hr] at hle;simp only [Cb] at hle;refine A7 (AW.region (Qp Bw (Qp (Bo Aq) ?_)));refine Qe (Dc rfl (hnx _ _ _ (by assumption) R (by (try simp only [Cv,Db,Cm,Cb,Cj,Cw]);omega))) ?_;rintro _ _ ⟨v20,a20,rfl,ha20,rfl⟩;refine Rk (AW.region (Qp Dl (Qp Am (Ae ?_))));refine ⟨(p.1+1,p.2.1++Ah x,v20,a20),?_,?_,Bv⟩
  · exact ⟨hlt,by rw [←hR.2.1,h0,hr];simp,ha20⟩
  simp only;omega
 have hk:(l.map Ah).length≤p.1:=by have:=If hc1;rw [D9];omega
 refine AW.exit ?_;refine Bk (Bk (Th ?_));refine ⟨.inl rfl,[],.nil,_,.refl _,?_⟩;exact wq hR.2.2 (by rw [←hR.2.1,bU hk,Cm])
theorem Wn (b:Nat)(o:A1)(v:Value)(a:Option Addr)(ha:a=none∨a=some ⟨b,0,none⟩)(R:List HO)(p t:Syn)(hn:Ha b t)(hb:o.length+(E2 p t (Ah t)).length≤cD):B5 Tryz.prog 220 (.row v (F4 o).length 5 1 :: .box b 216 (.val (.pointer a) :: .row v 1 (F4 o)::To b)::R) [.val (.pointer (some ⟨b,0,none⟩)),.agg (cSyn p),.agg (cSyn t)] (WQ b (o++E2 p t (Ah t)) R):=by
 refine B5.body (n:=24) tok Tryz.func220 rfl rfl rfl ?_;refine Ad (Qp (Ed Aq) (Qp (Ed Aq) (Ae (Rd (Qp (Qf Aq) (Qp Bf (Qp (Qf Aq) (Qp Bf (Qp (Qc rfl (jM p.kind t.kind)) (Qp Ew (Ae (Ao (fun hc1=>?_) fun hc1=>?_))))))))))))
 ·
  have hcl:Gc p.kind t.kind=false:=by simpa using hc1
  have e:E2 p t (Ah t)=Ah t:=if_neg (by rw [hcl];decide);rw [e] at hb;refine Ad (Qp Bw (Qp (Bo Aq) ?_));refine Qe (Dc rfl (hn _ _ _ ha R (by have h:=hb;(try simp only [Cv,Db,Cb,Cj,Cw,Cm] at h ⊢);omega))) ?_;rintro _ _ ⟨v14,a14,rfl,ha14,rfl⟩;refine Rc ?_;refine ⟨.inr rfl,[],.nil,_,.refl _,?_⟩;exact wq ha14 (by rw [e])
 have hcl:Gc p.kind t.kind=true:=by simpa using hc1
 have e:E2 p t (Ah t) = [40]++Ah t ++ [41]:=if_pos hcl;rw [e] at hb;refine A7 (Ad (Qp Bw (Qp (Ak (es:=[[.str _]]) tok rfl rfl rfl rfl rfl rfl rfl rfl rfl) ?_)));refine Qe (Dc rfl (Fb b _ _ _ ha R [[40]] (Fr rfl) (by have h:=hb;(try simp only [Cv,Db,Cb,Cj,Cw,Cm] at h ⊢);omega))) ?_;rintro _ _ ⟨v17,a17,rfl,ha17,rfl⟩;refine Bs (Qp Bw (Qp (Bo Aq) ?_));refine Qe (Dc rfl (hn _ _ _ ha17 R (by have h:=hb;(try simp only [Cv,Db,Cb,Cj,Cw,Cm] at h ⊢);omega))) ?_;rintro _ _ ⟨v20,a20,rfl,ha20,rfl⟩;refine Ae (AW.region (Qp Bw (Qp (Ak (es:=[[.str _]]) tok rfl rfl rfl rfl rfl rfl rfl rfl rfl) ?_)));refine Qe (Dc rfl (Fb b _ _ _ ha20 R [[41]] (Fr rfl) (by have h:=hb;(try simp only [Cv,Db,Cb,Cj,Cw,Cm] at h ⊢);omega))) ?_;rintro _ _ ⟨v23,a23,rfl,ha23,rfl⟩;refine AOL.nil ?_;refine ⟨.inl rfl,[],.nil,_,.refl _,?_⟩;exact wq ha23 (by rw [e];simp only [Cv,Db,Cm,J1,Kv,J4])
theorem w_decl (b:Nat)(o:A1)(v:Value)(a:Option Addr)(ha:a=none∨a=some ⟨b,0,none⟩)(R:List HO)(t:Syn)(hn:∀x∈t.kids,Ha b x)(hb:o.length+([116,121,112,101,32]++t.text ++ [32,123]++(if 0<t.kids.length then [32]++Ci (t.kids.map Ah) ++ [32] else []) ++ [125,10]).length≤cD):B5 Tryz.prog 208 (.row v (F4 o).length 5 1 :: .box b 216 (.val (.pointer a) :: .row v 1 (F4 o)::To b)::R) [.val (.pointer (some ⟨b,0,none⟩)),.agg (cSyn t)] (WQ b (o++([116,121,112,101,32]++t.text ++ [32,123]++(if 0<t.kids.length then [32]++Ci (t.kids.map Ah) ++ [32] else []) ++ [125,10])) R):=by
 refine B5.body (n:=26) tok Tryz.func208 rfl rfl rfl ?_;refine Ad (Qp (Ed Aq) (Re ?_));have hb0:o.length+([116,121,112,101,32]++t.text ++ [32,123]).length≤cD:=by have h:=hb;simp only [Cb] at h ⊢;omega
 refine AW.region (Qp Bw (Qp (Qf Ik) (Qp C9 (Qp (Ak (es:=[[.str _],[.str _],[.str _]]) tok rfl rfl rfl rfl rfl rfl rfl rfl rfl) ?_))));refine Qe (Dc rfl (Fb b _ _ _ ha R [[116,121,112,101,32],t.text,[32,123]] (Fr rfl) (by have h:=hb;(try simp only [Cv,Db,Cb,Cj,Cw,Cm] at h ⊢);omega))) ?_;rintro _ _ ⟨v8,a8,rfl,ha8,rfl⟩;refine Ae (Rd (Qp (Qf Ef) (Qp B7 ?_)));refine Qp (Ai (n:=t.kids.length) tok rfl rfl rfl (by simp)) ?_;refine Qp Do (Ae (Ao (fun hc1=>?_) fun hc1=>?_))
 ·
  have hk:0<t.kids.length:=by have:=Gv hc1;omega
  have ha:=ha8;rw [if_pos hk] at hb;refine Ad (Qp Bw (Qp (Ak (es:=[[.str _]]) tok rfl rfl rfl rfl rfl rfl rfl rfl rfl) ?_));refine Qe (Dc rfl (Fb b _ _ _ ha8 R [[32]] (Fr rfl) (by have h:=hb;(try simp only [Cv,Db,Cb,Cj,Cw,Cm] at h ⊢);omega))) ?_;rintro _ _ ⟨v15,a15,rfl,ha15,rfl⟩;refine Bs (Qp Bw (Qp (Qf Ef) (Qp B7 ?_)));refine Qe (Dc rfl (fO b _ _ _ ha15 R t.kids hn (by have h:=hb;(try simp only [Cv,Db,Cb,Cj,Cw,Cm] at h ⊢);omega))) ?_;rintro _ _ ⟨v19,a19,rfl,ha19,rfl⟩;refine Ae (AW.region (Qp Bw (Qp (Ak (es:=[[.str _]]) tok rfl rfl rfl rfl rfl rfl rfl rfl rfl) ?_)));refine Qe (Dc rfl (Fb b _ _ _ ha19 R [[32]] (Fr rfl) (by have h:=hb;(try simp only [Cv,Db,Cb,Cj,Cw,Cm] at h ⊢);omega))) ?_;rintro _ _ ⟨v22,a22,rfl,ha22,rfl⟩;refine Ae (AW.region (Qp Bw (Qp (Ak (es:=[[.str _]]) tok rfl rfl rfl rfl rfl rfl rfl rfl rfl) ?_)));refine Qe (Dc rfl (Fb b _ _ _ ha22 R [[125,10]] (Fr rfl) (by have h:=hb;(try simp only [Cv,Db,Cb,Cj,Cw,Cm] at h ⊢);omega))) ?_;rintro _ _ ⟨v25,a25,rfl,ha25,rfl⟩;refine AOL.nil ?_;refine ⟨.inl rfl,[],.nil,_,.refl _,?_⟩;exact wq ha25 (by rw [if_pos hk];simp only [Cv,Db,Cm,J1,Kv,J4])
 have hk:¬0<t.kids.length:=by have:=If hc1;omega
 rw [if_neg hk] at hb;have ha22:=ha8;refine A7 (AW.region (Qp Bw (Qp (Ak (es:=[[.str _]]) tok rfl rfl rfl rfl rfl rfl rfl rfl rfl) ?_)));refine Qe (Dc rfl (Fb b _ _ _ ha22 R [[125,10]] (Fr rfl) (by have h:=hb;(try simp only [Cv,Db,Cb,Cj,Cw,Cm] at h ⊢);omega))) ?_;rintro _ _ ⟨v25,a25,rfl,ha25,rfl⟩;refine AOL.nil ?_;refine ⟨.inl rfl,[],.nil,_,.refl _,?_⟩;exact wq ha25 (by rw [if_neg hk];simp only [Cv,Db,Cm,J1,Kv,J4])
theorem w_event (b:Nat)(o:A1)(v:Value)(a:Option Addr)(ha:a=none∨a=some ⟨b,0,none⟩)(R:List HO)(t:Syn)(hn:∀x∈t.kids,Ha b x)(hb:o.length+(t.text++([32]:A1)++t.name++(if h:0<t.kids.length then ([32,105,102,32]:A1)++Ah t.kids[0] else [])).length≤cD):B5 Tryz.prog 212 (.row v (F4 o).length 5 1 :: .box b 216 (.val (.pointer a) :: .row v 1 (F4 o)::To b)::R) [.val (.pointer (some ⟨b,0,none⟩)),.agg (cSyn t)] (WQ b (o++(t.text++([32]:A1)++t.name++(if h:0<t.kids.length then ([32,105,102,32]:A1)++Ah t.kids[0] else []))) R):=by
 refine B5.body (n:=24) tok Tryz.func212 rfl rfl rfl ?_;refine Ad (Qp (Ed Aq) (Bs (Qp Bw (Qp (Qf Ik) (Qp C9 (Qp (Qf Po) (Qp C9 (Qp (Ak (es:=[[.str _],[.str _],[.str _]]) tok rfl rfl rfl rfl rfl rfl rfl rfl rfl) ?_))))))));refine Qe (Dc rfl (Fb b _ _ _ ha R [t.text,[32],t.name] (Fr rfl) (by have h:=hb;(try simp only [Cv,Db,Cb,Cj,Cw,Cm] at h ⊢);omega))) ?_;rintro _ _ ⟨v10,a10,rfl,ha10,rfl⟩;refine Bs (Qp (Qf Ef) (Qp B7 ?_));refine Qp (Ai (n:=t.kids.length) tok rfl rfl rfl (by simp)) ?_;refine Qp Do (Ae (Ao (fun hc1=>?_) fun hc1=>?_))
 ·
  have hk:0<t.kids.length:=by have:=Gv hc1;omega
  rw [dif_pos hk] at hb;have hnx:=hn _ (List.getElem_mem hk);refine Ad (Qp Bw (Qp (Ak (es:=[[.str _]]) tok rfl rfl rfl rfl rfl rfl rfl rfl rfl) ?_));refine Qe (Dc rfl (Fb b _ _ _ ha10 R [[32,105,102,32]] (Fr rfl) (by have h:=hb;(try simp only [Cv,Db,Cb,Cj,Cw,Cm] at h ⊢);omega))) ?_;rintro _ _ ⟨v17,a17,rfl,ha17,rfl⟩;refine Ae (AW.region (Qp Bw (Qp (Qf Ef) (Qp B7 ?_))));refine Qp (Aa (c:=Aq) tok rfl rfl rfl rfl rfl rfl (by decide) (Cl (List.getElem?_eq_getElem hk))) ?_;refine Qp (Bo Aq) ?_;refine Qe (Dc rfl (hnx _ _ _ ha17 R (by have h:=hb;(try simp only [Cv,Db,Cb,Cj,Cw,Cm] at h ⊢);omega))) ?_;rintro _ _ ⟨v23,a23,rfl,ha23,rfl⟩;refine AOL.nil ?_;refine ⟨.inl rfl,[],.nil,_,.refl _,?_⟩;exact wq ha23 (by rw [dif_pos hk];simp only [Cv,Db,Cm,J1,Kv,J4])
 have hk:¬0<t.kids.length:=by have:=If hc1;omega
 rw [dif_neg hk] at hb;refine AW.skip ?_;refine ⟨.inl rfl,[],.nil,_,.refl _,?_⟩;exact wq ha10 (by rw [dif_neg hk];simp only [Cv,Db,Cm,J1,Kv,J4])
theorem oD (b:Nat)(o:A1)(v:Value)(a:Option Addr)(ha:a=none∨a=some ⟨b,0,none⟩)(R:List HO)(t:Syn)(hi : -9223372036854775808≤t.num∧t.num≤9223372036854775807)(ht:t.text.length≤1048576)(hb:o.length+(Lg t).length≤cD):B5 Tryz.prog 214 (.row v (F4 o).length 5 1 :: .box b 216 (.val (.pointer a) :: .row v 1 (F4 o)::To b)::R) [.val (.pointer (some ⟨b,0,none⟩)),.agg (cSyn t)] (WQ b (o++Lg t) R):=by
 refine B5.body (n:=35) tok Tryz.func214 rfl rfl rfl ?_;refine Ad (Qp (Ed Aq) (Bs (Qp (Qf Po) (Qp C9 (Ae (AW.block (Ad (Qp (A4 rfl rfl) (Qp Au (Ae (Ao (fun hc1=>?_) fun hc1=>Ad (Qp (A4 rfl rfl) (Qp Au (Ae (Ao (fun hc2=>?_) fun hc2=>?_)))))))))))))))
 ·
  have e:Lg t=Lib.itoa t.num:=if_pos hc1;rw [e] at hb;refine AW.region (Qp Bw (Qp (Qf J8) (Qp Bf (Qp (Qc rfl (kItoa t.num hi.1 hi.2)) (Qp (Ak (es:=[[.str _]]) tok rfl rfl rfl rfl rfl rfl rfl rfl rfl) ?_)))));refine Qe (Dc rfl (Fb b _ _ _ ha R [Lib.itoa t.num] (Fr rfl) (by have h:=hb;(try simp only [Cv,Db,Cb,Cj,Cw,Cm] at h ⊢);omega))) ?_;rintro _ _ ⟨v25,a25,rfl,ha25,rfl⟩;refine AOL.nil (Ig ?_);refine ⟨.inl rfl,[],.nil,_,.refl _,?_⟩;exact wq ha25 (by rw [e];simp only [Cv,Db,Cm,J1,Kv,J4])
 ·
  have e:Lg t=(if t.num==1 then Mv else Kx):=by unfold Lg;exact (Bi hc1).trans (if_pos hc2)
  rw [e] at hb;refine AW.region (Qp Bw (Qp (Qf J8) (Qp Bf (Qp Ap (Qp (Qc rfl (k_fbool (t.num==1))) (Qp (Ak (es:=[[.str _]]) tok rfl rfl rfl rfl rfl rfl rfl rfl rfl) ?_))))));refine Qe (Dc rfl (Fb b _ _ _ ha R [if t.num==1 then Mv else Kx] (Fr rfl) (by have h:=hb;(try simp only [Cv,Db,Cb,Cj,Cw,Cm] at h ⊢);omega))) ?_;rintro _ _ ⟨v34,a34,rfl,ha34,rfl⟩;refine AOL.nil (Ig ?_);refine ⟨.inl rfl,[],.nil,_,.refl _,?_⟩;exact wq ha34 (by rw [e];simp only [Cv,Db,Cm,J1,Kv,J4])
 have e:Lg t=(Lz t.text).1:=by unfold Lg;exact (Bi hc1).trans (Bi hc2)
 rw [e] at hb;refine Ad (Qp (Qf Ik) (Qp C9 (Qp (Qc rfl (c24 t.text ht)) (Qp Lm (Qp uM (Qp Ib (Qp D1 (Qp Al (Ae (AW.region (Qp Bw (Qp D2 (Qp (Ak (es:=[[.str _]]) tok rfl rfl rfl rfl rfl rfl rfl rfl rfl) ?_)))))))))))));refine Qe (Dc rfl (Fb b _ _ _ ha R [(Lz t.text).1] (Fr rfl) (by have h:=hb;(try simp only [Cv,Db,Cb,Cj,Cw,Cm] at h ⊢);omega))) ?_;rintro _ _ ⟨v17,a17,rfl,ha17,rfl⟩;refine AOL.nil (Ig ?_);refine ⟨.inl rfl,[],.nil,_,.refl _,?_⟩;exact wq ha17 (by rw [e];simp only [Cv,Db,Cm,J1,Kv,J4])
theorem w_ref (b:Nat)(o:A1)(v:Value)(a:Option Addr)(ha:a=none∨a=some ⟨b,0,none⟩)(R:List HO)(t:Syn)(hb:o.length+(t.text++([46]:A1)++t.name).length≤cD):B5 Tryz.prog 215 (.row v (F4 o).length 5 1 :: .box b 216 (.val (.pointer a) :: .row v 1 (F4 o)::To b)::R) [.agg (cSyn t),.ptr [.val (.pointer (some ⟨b,0,none⟩))]] (WQ b (o++(t.text++([46]:A1)++t.name)) R):=by
 refine B5.body (n:=10) tok Tryz.func215 rfl rfl rfl ?_;refine Ad (Qp (Ed Aq) (Ae (AW.region (Qp Jb (Qp (Qf Ik) (Qp C9 (Qp (Qf Po) (Qp C9 (Qp (Ak (es:=[[.str _],[.str _],[.str _]]) tok rfl rfl rfl rfl rfl rfl rfl rfl rfl) ?_)))))))));refine Qe (Dc rfl (Fb b _ _ _ ha R [t.text,[46],t.name] (Fr rfl) (by have h:=hb;(try simp only [Cv,Db,Cb,Cj,Cw,Cm] at h ⊢);omega))) ?_;rintro _ _ ⟨v9,a9,rfl,ha9,rfl⟩;refine AOL.nil ?_;refine ⟨.inl rfl,[],.nil,_,.refl _,?_⟩;exact wq ha9 (by simp only [Cv,Db,Cm,J1,Kv,J4])
theorem w_count (b:Nat)(o:A1)(v:Value)(a:Option Addr)(ha:a=none∨a=some ⟨b,0,none⟩)(R:List HO)(t:Syn)(hb:o.length+(([99,111,117,110,116,40]:A1)++t.text++([41]:A1)).length≤cD):B5 Tryz.prog 216 (.row v (F4 o).length 5 1 :: .box b 216 (.val (.pointer a) :: .row v 1 (F4 o)::To b)::R) [.agg (cSyn t),.ptr [.val (.pointer (some ⟨b,0,none⟩))]] (WQ b (o++(([99,111,117,110,116,40]:A1)++t.text++([41]:A1))) R):=by
 refine B5.body (n:=8) tok Tryz.func216 rfl rfl rfl ?_;refine Ad (Qp (Ed Aq) (Ae (AW.region (Qp Jb (Qp (Qf Ik) (Qp C9 (Qp (Ak (es:=[[.str _],[.str _],[.str _]]) tok rfl rfl rfl rfl rfl rfl rfl rfl rfl) ?_)))))));refine Qe (Dc rfl (Fb b _ _ _ ha R [[99,111,117,110,116,40],t.text,[41]] (Fr rfl) (by have h:=hb;(try simp only [Cv,Db,Cb,Cj,Cw,Cm] at h ⊢);omega))) ?_;rintro _ _ ⟨v7,a7,rfl,ha7,rfl⟩;refine AOL.nil ?_;refine ⟨.inl rfl,[],.nil,_,.refl _,?_⟩;exact wq ha7 (by simp only [Cv,Db,Cm,J1,Kv,J4])
theorem w_not (b:Nat)(o:A1)(v:Value)(a:Option Addr)(ha:a=none∨a=some ⟨b,0,none⟩)(R:List HO)(t k:Syn)(h0:t.kids[0]? = some k)(hk:Ha b k)(hb:o.length+(([110,111,116,32]:A1)++E2 t k (Ah k)).length≤cD):B5 Tryz.prog 219 (.row v (F4 o).length 5 1 :: .box b 216 (.val (.pointer a) :: .row v 1 (F4 o)::To b)::R) [.agg (cSyn t),.ptr [.val (.pointer (some ⟨b,0,none⟩))]] (WQ b (o++(([110,111,116,32]:A1)++E2 t k (Ah k))) R):=by
 refine B5.body (n:=13) tok Tryz.func219 rfl rfl rfl ?_;refine Ad (Qp (Ed Aq) (Bs (Qp Jb (Qp (Ak (es:=[[.str _]]) tok rfl rfl rfl rfl rfl rfl rfl rfl rfl) ?_))));refine Qe (Dc rfl (Fb b _ _ _ ha R [[110,111,116,32]] (Fr rfl) (by have h:=hb;(try simp only [Cv,Db,Cb,Cj,Cw,Cm] at h ⊢);omega))) ?_;rintro _ _ ⟨v5,a5,rfl,ha5,rfl⟩;refine Ae ?_;refine Gi ?_;refine Qn 0 rfl Jb (Qn 1 rfl (Bo Aq) (Qn 2 rfl (Qf Ef) (Qn 3 rfl B7 ?_)));refine Qn 4 rfl (Aa (c:=Aq) tok rfl rfl rfl rfl rfl rfl (by decide) (Cl h0)) ?_;refine Qn 5 rfl (Bo Aq) ?_;refine lZ 6 rfl (Dc rfl (Wn b _ _ _ ha5 R t k hk (by have h:=hb;(try simp only [Cv,Db,Cb,Cj,Cw,Cm] at h ⊢);omega))) ?_;rintro _ _ ⟨v12,a12,rfl,ha12,rfl⟩;refine Ej ?_;refine ⟨.inl rfl,[],.nil,_,.refl _,?_⟩;exact wq ha12 (by simp only [Cv,Db,Cm,J1,Kv,J4])
theorem O4 (b:Nat)(o:A1)(v:Value)(a:Option Addr)(ha:a=none∨a=some ⟨b,0,none⟩)(R:List HO)(t:Syn)(w:A1)(hi : -9223372036854775808≤t.num∧t.num≤9223372036854775807)(hn:∀x∈t.kids,Ha b x)(hb:o.length+(w++([40]:A1)++Ci (t.kids.map Ah)++(if t.kind==11 then ([44,32]:A1)++Lib.itoa t.num else [])++([41]:A1)).length≤cD):B5 Tryz.prog 269 (.row v (F4 o).length 5 1 :: .box b 216 (.val (.pointer a) :: .row v 1 (F4 o)::To b)::R) [.agg (cSyn t),.ptr [.val (.pointer (some ⟨b,0,none⟩))],.ptr [.str w]] (WQ b (o++(w++([40]:A1)++Ci (t.kids.map Ah)++(if t.kind==11 then ([44,32]:A1)++Lib.itoa t.num else [])++([41]:A1))) R):=by
 refine B5.body (n:=24) tok Tryz.func269 rfl rfl rfl ?_;refine Ad (Qp (Ed Aq) (Re ?_));have hb0:=hb;refine AW.region (Qp Jb (Qp C9 (Qp (Ak (es:=[[.str _],[.str _]]) tok rfl rfl rfl rfl rfl rfl rfl rfl rfl) ?_)));refine Qe (Dc rfl (Fb b _ _ _ ha R [w,[40]] (Fr rfl) (by have h:=hb;(try simp only [Cv,Db,Cb,Cj,Cw,Cm] at h ⊢);omega))) ?_;rintro _ _ ⟨v7,a7,rfl,ha7,rfl⟩;refine Bs (Qp Jb (Qp (Qf Ef) (Qp B7 ?_)));refine Qe (Dc rfl (fO b _ _ _ ha7 R t.kids hn (by have h:=hb;(try simp only [Cv,Db,Cb,Cj,Cw,Cm] at h ⊢);omega))) ?_;rintro _ _ ⟨v11,a11,rfl,ha11,rfl⟩;refine Ae (Rd (Qp (Qf Aq) (Qp Bf (Qp Ap (Ae (Ao (fun hc1=>?_) fun hc1=>?_))))))
 ·
  rw [if_pos hc1] at hb;refine Gi ?_;refine Qn 0 rfl Jb (Qn 1 rfl (Qf J8) (Qn 2 rfl Bf (Qn 3 rfl (Qc rfl (kItoa t.num hi.1 hi.2)) (Qn 4 rfl (Ak (es:=[[.str _],[.str _]]) tok rfl rfl rfl rfl rfl rfl rfl rfl rfl) ?_))));refine lZ 5 rfl (Dc rfl (Fb b _ _ _ ha11 R [[44,32],Lib.itoa t.num] (Fr rfl) (by have h:=hb;(try simp only [Cv,Db,Cb,Cj,Cw,Cm] at h ⊢);omega))) ?_;rintro _ _ ⟨v20,a20,rfl,ha20,rfl⟩;refine Ej ?_;refine A5 (AW.region (Qp Jb (Qp (Ak (es:=[[.str _]]) tok rfl rfl rfl rfl rfl rfl rfl rfl rfl) ?_)));refine Qe (Dc rfl (Fb b _ _ _ ha20 R [[41]] (Fr rfl) (by have h:=hb;(try simp only [Cv,Db,Cb,Cj,Cw,Cm] at h ⊢);omega))) ?_;rintro _ _ ⟨v23,a23,rfl,ha23,rfl⟩;refine AOL.nil ?_;refine ⟨.inl rfl,[],.nil,_,.refl _,?_⟩;exact wq ha23 (by rw [if_pos hc1];simp only [Cv,Db,Cm,J1,Kv,J4])
 rw [Bi hc1] at hb;have ha20:=ha11;refine A7 (AW.region (Qp Jb (Qp (Ak (es:=[[.str _]]) tok rfl rfl rfl rfl rfl rfl rfl rfl rfl) ?_)));refine Qe (Dc rfl (Fb b _ _ _ ha20 R [[41]] (Fr rfl) (by have h:=hb;(try simp only [Cv,Db,Cb,Cj,Cw,Cm] at h ⊢);omega))) ?_;rintro _ _ ⟨v23,a23,rfl,ha23,rfl⟩;refine AOL.nil ?_;refine ⟨.inl rfl,[],.nil,_,.refl _,?_⟩;exact wq ha23 (by rw [Bi hc1];simp only [Cv,Db,Cm,J1,Kv,J4])
theorem w_field (b:Nat)(o:A1)(v:Value)(a:Option Addr)(ha:a=none∨a=some ⟨b,0,none⟩)(R:List HO)(t:Syn)(hi:0≤t.num∧t.num≤2)(hb:o.length+(t.text++([58,32]:A1)++J6 t.num).length≤cD):B5 Tryz.prog 209 (.row v (F4 o).length 5 1 :: .box b 216 (.val (.pointer a) :: .row v 1 (F4 o)::To b)::R) [.agg (cSyn t),.ptr [.val (.pointer (some ⟨b,0,none⟩))]] (WQ b (o++(t.text++([58,32]:A1)++J6 t.num)) R):=by
 refine B5.body (n:=13) tok Tryz.func209 rfl rfl rfl ?_;refine Ad (Qp (Ed Aq) (Ae ?_));refine Gi ?_;refine Qn 0 rfl Jb (Qn 1 rfl (Qf Ik) (Qn 2 rfl C9 (Qn 3 rfl (Ak (es:=[[.str _],[.str _],[.str _]]) tok rfl rfl rfl rfl rfl rfl rfl rfl rfl) (Qn 4 rfl (Qf J8) (Qn 5 rfl Bf (Qn 6 rfl (Aa (c:=[.str (J6 t.num)]) tok rfl rfl rfl rfl rfl rfl (hi.1) (kind_at hi)) (Qn 7 rfl C9 (Qn 8 rfl (Ak (es:=[[.str _],[.str _],[.str _]]) tok rfl rfl rfl rfl rfl rfl rfl rfl rfl) ?_))))))));refine lZ 9 rfl (Dc rfl (Fb b _ _ _ ha R [t.text,[58,32],J6 t.num] (Fr rfl) (by have h:=hb;(try simp only [Cv,Db,Cb,Cj,Cw,Cm] at h ⊢);omega))) ?_;rintro _ _ ⟨v12,a12,rfl,ha12,rfl⟩;refine Ej ?_;refine ⟨.inl rfl,[],.nil,_,.refl _,?_⟩;exact wq ha12 (by simp only [Cv,Db,Cm,J1,Kv,J4])

set_option maxHeartbeats 3200000
set_option maxRecDepth 20000

theorem agg_look {n:Int}(h:1≤n∧n≤5):Y4 [(1,AV.str fY),(2,.str eY),(3,.str eF),(4,.str T7),(5,.str Yq)] n=some (.str (Nl n)):=by
 have:n=1∨n=2∨n=3∨n=4∨n=5:=by omega
 rcases this with rfl | rfl | rfl | rfl | rfl <;> rfl
theorem tB {n:Int}(h:5≤n∧n≤11):Y4 [(5,AV.str [32,43,32]),(6,.str [32,45,32]),(7,.str [32,60,32]),(8,.str [32,60,61,32]),(9,.str [32,61,61,32]),(10,.str [32,97,110,100,32]),(11,.str [32,111,114,32])] n=some (.str (([32]:A1)++Hs n ++ [32])):=by
 have:n=5∨n=6∨n=7∨n=8∨n=9∨n=10∨n=11:=by omega
 rcases this with rfl | rfl | rfl | rfl | rfl | rfl | rfl <;> rfl
theorem tail_at {l:List Syn}{k:Nat}{x:Syn}(h:l[k]? = some x):Ld ((l.map Ah).drop k) = [44,32]++Ah x++Ld ((l.map Ah).drop (k+1)):=by
 obtain ⟨h1,h2⟩:=List.getElem?_eq_some_iff.1 (dQ h);rw [X8 h1,Ld,h2]
theorem Ow {l:List Syn}{k:Nat}{x:Syn}(h:l[k]? = some x):((l.map Ah).drop k).flatten=Ah x++((l.map Ah).drop (k+1)).flatten:=by
 obtain ⟨h1,h2⟩:=List.getElem?_eq_some_iff.1 (dQ h);rw [X8 h1,Cv,h2]
theorem w_total (b:Nat)(o:A1)(v:Value)(a:Option Addr)(ha:a=none∨a=some ⟨b,0,none⟩)(R:List HO)(t:Syn)(hi:1≤t.num∧t.num≤5)(hn:∀x∈t.kids,Ha b x)(hb:o.length+(Nl t.num++([40]:A1)++t.text++([46]:A1)++t.name++Ld (t.kids.map Ah)++([41]:A1)).length≤cD):B5 Tryz.prog 217 (.row v (F4 o).length 5 1 :: .box b 216 (.val (.pointer a) :: .row v 1 (F4 o)::To b)::R) [.val (.pointer (some ⟨b,0,none⟩)),.agg (cSyn t)] (WQ b (o++(Nl t.num++([40]:A1)++t.text++([46]:A1)++t.name++Ld (t.kids.map Ah)++([41]:A1))) R):=by
 refine B5.body (n:=37) tok Tryz.func217 rfl rfl rfl ?_;refine Ad (Qp (Ed Aq) (Bs (Qe (Vy) ?_)));rintro _ _ ⟨b7,rfl,rfl⟩;refine Rt (Dw (i:=0) (x:=.str _) (H2:=_::_::_::_) tok rfl rfl rfl rfl rfl rfl rfl rfl rfl rfl) (Rt (Dw (i:=0) (x:=.str _) (H2:=_::_::_::_) tok rfl rfl rfl rfl rfl rfl rfl rfl rfl rfl) (Rt (Dw (i:=0) (x:=.str _) (H2:=_::_::_::_) tok rfl rfl rfl rfl rfl rfl rfl rfl rfl rfl) (Rt (Dw (i:=0) (x:=.str _) (H2:=_::_::_::_) tok rfl rfl rfl rfl rfl rfl rfl rfl rfl rfl) (Rt (Dw (i:=0) (x:=.str _) (H2:=_::_::_::_) tok rfl rfl rfl rfl rfl rfl rfl rfl rfl rfl) (Qp Bw (Qp Qk ?_))))));refine AOL.ghost (GS.freezeMap (t:=4) 0 rfl rfl) ?_;refine Bs (Qp Bw (Qp (A0 (v:=.mapv _) rfl) (Qp (Qf J8) (Qp Bf (Qp (bA tok rfl rfl rfl rfl rfl rfl (agg_look hi)) (Qp (Qf Ik) (Qp C9 (Qp (Qf Po) (Qp C9 (Qp (Ak (es:=[[.str _],[.str _],[.str _],[.str _],[.str _]]) tok rfl rfl rfl rfl rfl rfl rfl rfl rfl) ?_))))))))));refine Qe (Dc rfl (Fb b _ _ _ ha R [Nl t.num,[40],t.text,[46],t.name] (Fr rfl) (by have h:=hb;(try simp only [Cv,Db,Cb,Cj,Cw,Cm] at h ⊢);omega))) ?_;rintro _ _ ⟨v19,a19,rfl,ha19,rfl⟩;refine Ae (Rd (Qp (Qf Ef) (Qp B7 ?_)));refine Qp (Ai (n:=t.kids.length) tok rfl rfl rfl (by simp)) ?_;refine Qp Am (Ae (AW.block (AW.sllen 21 rfl fun hlen=>?_)));simp only [D9,maxLen] at hlen;refine AW.Aam (fun (p:Nat×A1×Value×Option Addr)=>(⟨[(0,.val (.pointer (some ⟨b,0,none⟩))),(21,.sl 6 (t.kids.map Cr)),(22,.int .i64 t.kids.length),(23,.int .i64 (p.1:Int))],(.row p.2.2.1 (F4 p.2.1).length 5 1 :: .box b 216 (.val (.pointer p.2.2.2) :: .row p.2.2.1 1 (F4 p.2.1)::To b)::R),37⟩:St)) (fun p=>p.1≤t.kids.length∧p.2.1++Ld ((t.kids.map Ah).drop p.1)=(o ++ [Nl t.num,[40],t.text,[46],t.name].flatten)++Ld (t.kids.map Ah)∧(p.2.2.2=none∨p.2.2.2=some ⟨b,0,none⟩)) (fun p=>t.kids.length-p.1) ((0,_,v19,a19)) ?_ Bv ?_
 · exact ⟨Dh _,rfl,ha19⟩
 rintro p hR;have ha:=hR.2.2;refine Ad (Qp Bp (Re (Ao (fun hc1=>?_) fun hc1=>?_)))
 ·
  obtain ⟨x,hx⟩:=mH (l:=t.kids) (k:=p.1) (by have:=Gv hc1;omega);have hlt:=Mf hx;have hnx:=hn x (B6 hx);have hr:=tail_at hx;have hle:=congrArg List.length hR.2.1;rw [hr] at hle;simp only [Cb,Cj,Cw,Cv,Db,Cm] at hle;refine A7 (AW.seq (AW.block (Ad ?_)));refine Qp (Aa (c:=Aq) tok rfl rfl rfl rfl rfl rfl (by omega) (Cl hx)) ?_;refine Qp (Bo Aq) (Dt L7 fun b6=>?_);refine Bt 0 Aq (_::_::_::_) ?_;refine AOL.ghost (GS.freeze (t:=6) 0 rfl rfl) ?_;refine Bs (Qp Bw (Qp (Ak (es:=[[.str _]]) tok rfl rfl rfl rfl rfl rfl rfl rfl rfl) ?_));refine Qe (Dc rfl (Fb b _ _ _ ha R [[44,32]] (Fr rfl) (by simp only [Cb,Cj,Cw,Cv,Db,Cm] at hb ⊢;omega))) ?_;rintro _ _ ⟨v29,a29,rfl,ha29,rfl⟩;refine Ae (AW.region (Qp Bw (Qp (Bo Aq) ?_)));refine Qe (Dc rfl (hnx _ _ _ ha29 R (by simp only [Cb,Cj,Cw,Cv,Db,Cm] at hb ⊢;omega))) ?_;rintro _ _ ⟨v32,a32,rfl,ha32,rfl⟩;refine Rk (AW.region (Qp Dl (Qp Am (Ae ?_))));refine ⟨(p.1+1,(p.2.1 ++ [[44,32]].flatten)++Ah x,v32,a32),?_,?_,Bv⟩
  · exact ⟨hlt,by rw [←hR.2.1,hr];simp,ha32⟩
  simp only;omega
 have hk:(t.kids.map Ah).length≤p.1:=by have:=If hc1;rw [D9];omega
 have he:=hR.2.1;rw [O7 hk,Ld,Cm] at he;have hle:=congrArg List.length he;simp only [Cb,Cj,Cw,Cv,Db,Cm] at hle;refine AW.exit ?_;refine Bk (Ri (AW.region (Qp Bw ?_)));refine Qp (Ak (es:=[[.str _]]) tok rfl rfl rfl rfl rfl rfl rfl rfl rfl) ?_;refine Qe (Dc rfl (Fb b _ _ _ hR.2.2 R [[41]] (Fr rfl) (by simp only [Cb,Cj,Cw,Cv,Db,Cm] at hb ⊢;omega))) ?_;rintro _ _ ⟨v36,a36,rfl,ha36,rfl⟩;refine AOL.nil ?_;refine ⟨.inl rfl,[],.nil,_,.refl _,?_⟩;exact wq ha36 (by rw [he];simp only [Cv,Db,Cm,J1,Kv,J4])
theorem Aae (b:Nat)(o:A1)(v:Value)(a:Option Addr)(ha:a=none∨a=some ⟨b,0,none⟩)(R:List HO)(t k0 k1:Syn)(h0:t.kids[0]? = some k0)(h1:t.kids[1]? = some k1)(hi:5≤t.num∧t.num≤11)(hn0:Ha b k0)(hn1:Ha b k1)(hb:o.length+(E2 t k0 (Ah k0)++([32]:A1)++Hs t.num++([32]:A1)++E2 t k1 (Ah k1)).length≤cD):B5 Tryz.prog 218 (.row v (F4 o).length 5 1 :: .box b 216 (.val (.pointer a) :: .row v 1 (F4 o)::To b)::R) [.val (.pointer (some ⟨b,0,none⟩)),.agg (cSyn t)] (WQ b (o++(E2 t k0 (Ah k0)++([32]:A1)++Hs t.num++([32]:A1)++E2 t k1 (Ah k1))) R):=by
 refine B5.body (n:=28) tok Tryz.func218 rfl rfl rfl ?_;refine Ad (Qp (Ed Aq) (Bs (Qe (Vy) ?_)));rintro _ _ ⟨b5,rfl,rfl⟩;refine Rt (Dw (i:=0) (x:=.str _) (H2:=_::_::_::_) tok rfl rfl rfl rfl rfl rfl rfl rfl rfl rfl) (Rt (Dw (i:=0) (x:=.str _) (H2:=_::_::_::_) tok rfl rfl rfl rfl rfl rfl rfl rfl rfl rfl) (Rt (Dw (i:=0) (x:=.str _) (H2:=_::_::_::_) tok rfl rfl rfl rfl rfl rfl rfl rfl rfl rfl) (Rt (Dw (i:=0) (x:=.str _) (H2:=_::_::_::_) tok rfl rfl rfl rfl rfl rfl rfl rfl rfl rfl) (Rt (Dw (i:=0) (x:=.str _) (H2:=_::_::_::_) tok rfl rfl rfl rfl rfl rfl rfl rfl rfl rfl) (Rt (Dw (i:=0) (x:=.str _) (H2:=_::_::_::_) tok rfl rfl rfl rfl rfl rfl rfl rfl rfl rfl) (Rt (Dw (i:=0) (x:=.str _) (H2:=_::_::_::_) tok rfl rfl rfl rfl rfl rfl rfl rfl rfl rfl) (Qp Bw (Qp Qk ?_))))))));refine AOL.ghost (GS.freezeMap (t:=4) 0 rfl rfl) ?_;refine Re ?_;refine Gi ?_;refine Qn 0 rfl Bw (Qn 1 rfl (Bo Aq) (Qn 2 rfl (Qf Ef) (Qn 3 rfl B7 ?_)));refine Qn 4 rfl (Aa (c:=Aq) tok rfl rfl rfl rfl rfl rfl (by decide) (Cl h0)) ?_;refine Qn 5 rfl (Bo Aq) ?_;refine lZ 6 rfl (Dc rfl (Wn b _ _ _ ha R t k0 hn0 (by have h:=hb;(try simp only [Cv,Db,Cb,Cj,Cw,Cm] at h ⊢);omega))) ?_;rintro _ _ ⟨v13,a13,rfl,ha13,rfl⟩;refine Ej ?_;refine A5 (Ad (Qp Bw (Qp (A0 (v:=.mapv _) rfl) (Qp (Qf J8) (Qp Bf (Qp (bA tok rfl rfl rfl rfl rfl rfl (tB hi)) (Qp (Ak (es:=[[.str _]]) tok rfl rfl rfl rfl rfl rfl rfl rfl rfl) ?_)))))));refine Qe (Dc rfl (Fb b _ _ _ ha13 R [[32]++Hs t.num ++ [32]] (Fr rfl) (by have h:=hb;(try simp only [Cv,Db,Cb,Cj,Cw,Cm] at h ⊢);omega))) ?_;rintro _ _ ⟨v20,a20,rfl,ha20,rfl⟩;refine Ae ?_;refine Gi ?_;refine Qn 0 rfl Bw (Qn 1 rfl (Bo Aq) (Qn 2 rfl (Qf Ef) (Qn 3 rfl B7 ?_)));refine Qn 4 rfl (Aa (c:=Aq) tok rfl rfl rfl rfl rfl rfl (by decide) (Cl h1)) ?_;refine Qn 5 rfl (Bo Aq) ?_;refine lZ 6 rfl (Dc rfl (Wn b _ _ _ ha20 R t k1 hn1 (by have h:=hb;(try simp only [Cv,Db,Cb,Cj,Cw,Cm] at h ⊢);omega))) ?_;rintro _ _ ⟨v27,a27,rfl,ha27,rfl⟩;refine Ej ?_;refine ⟨.inl rfl,[],.nil,_,.refl _,?_⟩;exact wq ha27 (by simp only [Cv,Db,Cm,J1,Kv,J4])
theorem sI (b:Nat)(o:A1)(v:Value)(a:Option Addr)(ha:a=none∨a=some ⟨b,0,none⟩)(R:List HO)(t:Syn)(hn:∀x∈t.kids,Ha b x)(hb:o.length+((t.kids.map Ah).flatten).length≤cD):B5 Tryz.prog 207 (.row v (F4 o).length 5 1 :: .box b 216 (.val (.pointer a) :: .row v 1 (F4 o)::To b)::R) [.agg (cSyn t),.ptr [.val (.pointer (some ⟨b,0,none⟩))]] (WQ b (o++((t.kids.map Ah).flatten)) R):=by
 refine B5.body (n:=16) tok Tryz.func207 rfl rfl rfl ?_;refine Ad (Qp (Ed Aq) (Bs (Qp (Qf Ef) (Qp B7 ?_))));refine Qp (Ai (n:=t.kids.length) tok rfl rfl rfl (by simp)) ?_;refine Qp Am (Ae (AW.block (AW.sllen 6 rfl fun hlen=>?_)));simp only [D9,maxLen] at hlen;refine AW.Aam (fun (p:Nat×A1×Value×Option Addr)=>(⟨[(1,.ptr [.val (.pointer (some ⟨b,0,none⟩))]),(6,.sl 6 (t.kids.map Cr)),(7,.int .i64 t.kids.length),(8,.int .i64 (p.1:Int))],(.row p.2.2.1 (F4 p.2.1).length 5 1 :: .box b 216 (.val (.pointer p.2.2.2) :: .row p.2.2.1 1 (F4 p.2.1)::To b)::R),16⟩:St)) (fun p=>p.1≤t.kids.length∧p.2.1++((t.kids.map Ah).drop p.1).flatten=o++(t.kids.map Ah).flatten∧(p.2.2.2=none∨p.2.2.2=some ⟨b,0,none⟩)) (fun p=>t.kids.length-p.1) ((0,o,v,a)) ?_ Bv ?_
 · exact ⟨Dh _,rfl,ha⟩
 rintro p hR;have ha:=hR.2.2;refine Ad (Qp Bp (Re (Ao (fun hc1=>?_) fun hc1=>?_)))
 ·
  obtain ⟨x,hx⟩:=mH (l:=t.kids) (k:=p.1) (by have:=Gv hc1;omega);have hlt:=Mf hx;have hnx:=hn x (B6 hx);have hr:=Ow hx;have hle:=congrArg List.length hR.2.1;rw [hr] at hle;simp only [Cb] at hle;refine A7 (AW.seq (AW.block (Ad ?_)));refine Qp (Aa (c:=Aq) tok rfl rfl rfl rfl rfl rfl (by omega) (Cl hx)) ?_;refine Qp (Bo Aq) (Dt L7 fun b4=>?_);refine Bt 0 Aq (_::_::_::_) ?_;refine AOL.ghost (GS.freeze (t:=4) 0 rfl rfl) ?_;refine Ae (AW.region (Qp Jb (Qp (Bo Aq) ?_)));refine Qe (Dc rfl (hnx _ _ _ ha R (by omega))) ?_;rintro _ _ ⟨v14,a14,rfl,ha14,rfl⟩;refine Rk (AW.region (Qp Dl (Qp Am (Ae ?_))));refine ⟨(p.1+1,p.2.1++Ah x,v14,a14),?_,?_,Bv⟩
  · exact ⟨hlt,by rw [←hR.2.1,hr];simp,ha14⟩
  simp only;omega
 have hk:(t.kids.map Ah).length≤p.1:=by have:=If hc1;rw [D9];omega
 have he:=hR.2.1;rw [O7 hk,Db,Cm] at he;refine AW.exit ?_;refine Bk (Bk (Th ?_));refine ⟨.inl rfl,[],.nil,_,.refl _,?_⟩;exact wq hR.2.2 he
theorem w_query (b:Nat)(o:A1)(v:Value)(a:Option Addr)(ha:a=none∨a=some ⟨b,0,none⟩)(R:List HO)(t k0 k1:Syn)(r:List Syn)(hq:t.kids=k0::k1::r)(hn1:Ha b k1)(hnr:∀x∈r,Ha b x)(hb:o.length+(([113,117,101,114,121,32]:A1)++t.text++(if !(k0.text == []) then ([32,98,121,32]:A1)++k0.text else [])++([10,109,97,116,99,104,32]:A1)++Ah k1++([10,114,101,116,117,114,110,32]:A1)++Ci (r.map Ah)++([59,10]:A1)).length≤cD):B5 Tryz.prog 211 (.row v (F4 o).length 5 1 :: .box b 216 (.val (.pointer a) :: .row v 1 (F4 o)::To b)::R) [.val (.pointer (some ⟨b,0,none⟩)),.agg (cSyn t)] (WQ b (o++(([113,117,101,114,121,32]:A1)++t.text++(if !(k0.text == []) then ([32,98,121,32]:A1)++k0.text else [])++([10,109,97,116,99,104,32]:A1)++Ah k1++([10,114,101,116,117,114,110,32]:A1)++Ci (r.map Ah)++([59,10]:A1))) R):=by
 refine B5.body (n:=41) tok Tryz.func211 rfl rfl rfl ?_;refine Ad (Qp (Ed Aq) (Re ?_));have hb0:=hb;refine AW.region (Qp Bw (Qp (Qf Ik) (Qp C9 (Qp (Ak (es:=[[.str _],[.str _]]) tok rfl rfl rfl rfl rfl rfl rfl rfl rfl) ?_))));refine Qe (Dc rfl (Fb b _ _ _ ha R [[113,117,101,114,121,32],t.text] (Fr rfl) (by have h:=hb;(try simp only [Cv,Db,Cb,Cj,Cw,Cm] at h ⊢);omega))) ?_;rintro _ _ ⟨v9,a9,rfl,ha9,rfl⟩;refine Ae (Rd (Qp (Qf Ef) (Qp B7 ?_)));refine Qp (Aa (c:=Aq) tok rfl rfl rfl rfl rfl rfl (by decide) (Cl (k:=0) (a:=k0) (by rw [hq];rfl))) ?_;refine Qp (Qf Ik) (Qp C9 (Qp D1 (Bs (Qp D2 (Qp (Cs rfl rfl) (Ae (Ao (fun hc1=>?_) fun hc1=>?_)))))))
 ·
  rw [if_pos hc1] at hb;refine AW.region (Qp Bw (Qp D2 (Qp (Ak (es:=[[.str _],[.str _]]) tok rfl rfl rfl rfl rfl rfl rfl rfl rfl) ?_)));refine Qe (Dc rfl (Fb b _ _ _ ha9 R [[32,98,121,32],k0.text] (Fr rfl) (by have h:=hb;(try simp only [Cv,Db,Cb,Cj,Cw,Cm] at h ⊢);omega))) ?_;rintro _ _ ⟨v20,a20,rfl,ha20,rfl⟩;refine Bs (Qp Bw (Qp (Ak (es:=[[.str _]]) tok rfl rfl rfl rfl rfl rfl rfl rfl rfl) ?_));refine Qe (Dc rfl (Fb b _ _ _ ha20 R [[10,109,97,116,99,104,32]] (Fr rfl) (by have h:=hb;(try simp only [Cv,Db,Cb,Cj,Cw,Cm] at h ⊢);omega))) ?_;rintro _ _ ⟨v23,a23,rfl,ha23,rfl⟩;refine Bs (Qp Bw (Qp (Qf Ef) (Qp B7 ?_)));refine Qp (Aa (c:=Aq) tok rfl rfl rfl rfl rfl rfl (by decide) (Cl (k:=1) (a:=k1) (by rw [hq];rfl))) ?_;refine Qp (Bo Aq) ?_;refine Qe (Dc rfl (hn1 _ _ _ ha23 R (by have h:=hb;(try simp only [Cv,Db,Cb,Cj,Cw,Cm] at h ⊢);omega))) ?_;rintro _ _ ⟨v29,a29,rfl,ha29,rfl⟩;refine Bs (Qp Bw (Qp (Ak (es:=[[.str _]]) tok rfl rfl rfl rfl rfl rfl rfl rfl rfl) ?_));refine Qe (Dc rfl (Fb b _ _ _ ha29 R [[10,114,101,116,117,114,110,32]] (Fr rfl) (by have h:=hb;(try simp only [Cv,Db,Cb,Cj,Cw,Cm] at h ⊢);omega))) ?_;rintro _ _ ⟨v32,a32,rfl,ha32,rfl⟩;refine Bs (Qp Bw (Qp (Qf Ef) (Qp B7 ?_)));refine Qp (It (l:=2) (h:=(t.kids.map Cr).length) tok rfl rfl rfl rfl rfl (⟨_,rfl⟩) (rfl) (by rw [D9,hq];simp) (C6 _) (show _=r.map Cr from by rw [bH,hq];rfl)) ?_;refine Qe (Dc rfl (fO b _ _ _ ha32 R r hnr (by have h:=hb;(try simp only [Cv,Db,Cb,Cj,Cw,Cm] at h ⊢);omega))) ?_;rintro _ _ ⟨v37,a37,rfl,ha37,rfl⟩;refine Ae (AW.region (Qp Bw (Qp (Ak (es:=[[.str _]]) tok rfl rfl rfl rfl rfl rfl rfl rfl rfl) ?_)));refine Qe (Dc rfl (Fb b _ _ _ ha37 R [[59,10]] (Fr rfl) (by have h:=hb;(try simp only [Cv,Db,Cb,Cj,Cw,Cm] at h ⊢);omega))) ?_;rintro _ _ ⟨v40,a40,rfl,ha40,rfl⟩;refine AOL.nil ?_;refine ⟨.inl rfl,[],.nil,_,.refl _,?_⟩;exact wq ha40 (by rw [if_pos hc1];simp only [Cv,Db,Cm,J1,Kv,J4])
 rw [Bi hc1] at hb;have ha20:=ha9;refine A7 (Ad (Qp Bw (Qp (Ak (es:=[[.str _]]) tok rfl rfl rfl rfl rfl rfl rfl rfl rfl) ?_)));refine Qe (Dc rfl (Fb b _ _ _ ha20 R [[10,109,97,116,99,104,32]] (Fr rfl) (by have h:=hb;(try simp only [Cv,Db,Cb,Cj,Cw,Cm] at h ⊢);omega))) ?_;rintro _ _ ⟨v23,a23,rfl,ha23,rfl⟩;refine Bs (Qp Bw (Qp (Qf Ef) (Qp B7 ?_)));refine Qp (Aa (c:=Aq) tok rfl rfl rfl rfl rfl rfl (by decide) (Cl (k:=1) (a:=k1) (by rw [hq];rfl))) ?_;refine Qp (Bo Aq) ?_;refine Qe (Dc rfl (hn1 _ _ _ ha23 R (by have h:=hb;(try simp only [Cv,Db,Cb,Cj,Cw,Cm] at h ⊢);omega))) ?_;rintro _ _ ⟨v29,a29,rfl,ha29,rfl⟩;refine Bs (Qp Bw (Qp (Ak (es:=[[.str _]]) tok rfl rfl rfl rfl rfl rfl rfl rfl rfl) ?_));refine Qe (Dc rfl (Fb b _ _ _ ha29 R [[10,114,101,116,117,114,110,32]] (Fr rfl) (by have h:=hb;(try simp only [Cv,Db,Cb,Cj,Cw,Cm] at h ⊢);omega))) ?_;rintro _ _ ⟨v32,a32,rfl,ha32,rfl⟩;refine Bs (Qp Bw (Qp (Qf Ef) (Qp B7 ?_)));refine Qp (It (l:=2) (h:=(t.kids.map Cr).length) tok rfl rfl rfl rfl rfl (⟨_,rfl⟩) (rfl) (by rw [D9,hq];simp) (C6 _) (show _=r.map Cr from by rw [bH,hq];rfl)) ?_;refine Qe (Dc rfl (fO b _ _ _ ha32 R r hnr (by have h:=hb;(try simp only [Cv,Db,Cb,Cj,Cw,Cm] at h ⊢);omega))) ?_;rintro _ _ ⟨v37,a37,rfl,ha37,rfl⟩;refine Ae (AW.region (Qp Bw (Qp (Ak (es:=[[.str _]]) tok rfl rfl rfl rfl rfl rfl rfl rfl rfl) ?_)));refine Qe (Dc rfl (Fb b _ _ _ ha37 R [[59,10]] (Fr rfl) (by have h:=hb;(try simp only [Cv,Db,Cb,Cj,Cw,Cm] at h ⊢);omega))) ?_;rintro _ _ ⟨v40,a40,rfl,ha40,rfl⟩;refine AOL.nil ?_;refine ⟨.inl rfl,[],.nil,_,.refl _,?_⟩;exact wq ha40 (by rw [Bi hc1];simp only [Cv,Db,Cm,J1,Kv,J4])
set_option maxHeartbeats 6400000
set_option maxRecDepth 20000

theorem S6 (b:Nat)(w:A1):An Tryz.prog 213 [.val (.pointer (some ⟨b,0,none⟩)),.str w] (.fn (.func 269) [] [.ptr [.val (.pointer (some ⟨b,0,none⟩))],.ptr [.str w]]):=by
 refine An.body (n:=6) tok Tryz.func213 rfl rfl rfl fun H=>?_
 refine Ad (Qp (Ts (v:=.val _) (cs:=[_]) rfl rfl rfl) (Qp (Ts (v:=.str _) (cs:=[.str _]) rfl rfl rfl) (Qp Qk (Bs (Qp (B1 (l:=[]) (l':=[.ptr _,.ptr _]) rfl rfl) (Qp (A8 (v:=.fn _ _ _) rfl) (Rb (Qr (.fn _ _ _) ?_))))))));rfl
theorem w_new (H:List HO):B5 Tryz.prog 149 H [] (fun x H'=>∃b,x = .val (.pointer (some ⟨b,0,none⟩))∧H'=(.row (.slice none 0 0) (F4 []).length 5 1 :: .box b 216 (.val (.pointer none) :: .row (.slice none 0 0) 1 (F4 [])::To b)::H)):=by
 refine B5.body (n:=40) tok Tryz.func149 rfl rfl rfl ?_;refine Ad (Qp Qk (Bs ?_));refine Qp (Im (l0:=[.val (.pointer none),.val (.slice none 0 0),.val .nilFunc,.val .nilFunc,.val .nilFunc,.val .nilFunc,.val .nilFunc,.val .nilFunc,.val .nilFunc,.val .nilFunc,.val .nilFunc,.val .nilFunc,.val .nilFunc,.val .nilFunc,.val .nilFunc,.val .nilFunc,.val .nilFunc,.val .nilFunc,.val .nilFunc,.val .nilFunc,.val .nilFunc]) (l:=[_,_,_,_,_,_,_,_,_,_,_,_,_,_,_,_,_,_,_,_,_]) tok rfl rfl (by kernel_rfl) rfl) ?_;refine Qe (E_box (v:=.agg _) (cs:=[_,_,_,_,_,_,_,_,_,_,_,_,_,_,_,_,_,_,_,_,_]) rfl rfl (rfl)) ?_;rintro _ _ ⟨b3,rfl,rfl⟩;refine Dt [.val (.pointer none)] fun b1=>?_
 refine Bt 0 [_] (_::_::_) ?_;refine AOL.ghost (GS.freeze (t:=1) 0 rfl rfl) ?_;refine AOL.ghost (GS.cellRow 0 1 5 1 rfl rfl rfl rfl) ?_;refine Re ?_;refine Gi ?_;refine Qn 0 rfl Jb (Qn 1 rfl (B1 (l:=[]) (l':=[.ptr _]) rfl rfl) (Qn 2 rfl Jb (Qn 3 rfl (B1 (l:=[.val _]) (l':=[]) rfl rfl) (Qn 4 rfl (B1 (l:=[]) (l':=[.ptr _]) rfl rfl) (Qn 5 rfl Jb (Qn 6 rfl (B1 (l:=[.val _]) (l':=[]) rfl rfl) (Qn 7 rfl Jb (Qn 8 rfl (B1 (l:=[.val _]) (l':=[]) rfl rfl) ?_))))))));refine Qn 9 rfl Jb (Qn 10 rfl (Qc rfl (S6 b3 _)) (Qn 11 rfl Jb (Qn 12 rfl (Qc rfl (S6 b3 _)) (Qn 13 rfl Jb (Qn 14 rfl (Qc rfl (S6 b3 _)) (Qn 15 rfl Jb (Qn 16 rfl (Qc rfl (S6 b3 _)) (Qn 17 rfl Jb (Qn 18 rfl (Qc rfl (S6 b3 _)) (Qn 19 rfl Jb (Qn 20 rfl (Qc rfl (S6 b3 _)) (Qn 21 rfl Jb (Qn 22 rfl (Qc rfl (S6 b3 _)) (Qn 23 rfl Jb (Qn 24 rfl (B1 (l:=[.val _]) (l':=[]) rfl rfl) (Qn 25 rfl (B1 (l:=[]) (l':=[.ptr _]) rfl rfl) (Qn 26 rfl (B1 (l:=[]) (l':=[.ptr _]) rfl rfl) (Qn 27 rfl Jb (Qn 28 rfl (B1 (l:=[.val _]) (l':=[]) rfl rfl) (Qn 29 rfl Jb (Qn 30 rfl (B1 (l:=[.val _]) (l':=[]) rfl rfl) (Qn 31 rfl (B1 (l:=[]) (l':=[.ptr _]) rfl rfl) ?_))))))))))))))))))))));refine Qn 32 rfl (mY (l:=[.fn (.func 207) [] [.ptr [.val (.pointer (some ⟨b3,0,none⟩))]],.fn (.func 208) [.val (.pointer (some ⟨b3,0,none⟩))] [],.fn (.func 209) [] [.ptr [.val (.pointer (some ⟨b3,0,none⟩))]],.fn (.func 211) [.val (.pointer (some ⟨b3,0,none⟩))] [],.val .nilFunc,.fn (.func 212) [.val (.pointer (some ⟨b3,0,none⟩))] [],.fn (.func 269) [] [.ptr [.val (.pointer (some ⟨b3,0,none⟩))],.ptr [.str Sw]],.fn (.func 269) [] [.ptr [.val (.pointer (some ⟨b3,0,none⟩))],.ptr [.str Sx]],.fn (.func 269) [] [.ptr [.val (.pointer (some ⟨b3,0,none⟩))],.ptr [.str Sq]],.fn (.func 269) [] [.ptr [.val (.pointer (some ⟨b3,0,none⟩))],.ptr [.str Mz]],.fn (.func 269) [] [.ptr [.val (.pointer (some ⟨b3,0,none⟩))],.ptr [.str Kt]],.fn (.func 269) [] [.ptr [.val (.pointer (some ⟨b3,0,none⟩))],.ptr [.str Hq]],.fn (.func 269) [] [.ptr [.val (.pointer (some ⟨b3,0,none⟩))],.ptr [.str Ic]],.fn (.func 214) [.val (.pointer (some ⟨b3,0,none⟩))] [],.fn (.func 215) [] [.ptr [.val (.pointer (some ⟨b3,0,none⟩))]],.fn (.func 216) [] [.ptr [.val (.pointer (some ⟨b3,0,none⟩))]],.fn (.func 217) [.val (.pointer (some ⟨b3,0,none⟩))] [],.fn (.func 218) [.val (.pointer (some ⟨b3,0,none⟩))] [],.fn (.func 219) [] [.ptr [.val (.pointer (some ⟨b3,0,none⟩))]]]) tok rfl rfl rfl (by kernel_rfl)) ?_;refine Qn 33 rfl (Aj rfl) (Qn 34 rfl Cc ?_);refine Jj 35 rfl (A6 (k:=1) (v:=.agg _) (cs':=(.val (.pointer none) :: .row (.slice none 0 0) 1 [] :: [.fn (.func 207) [] [.ptr [.val (.pointer (some ⟨b3,0,none⟩))]],.fn (.func 208) [.val (.pointer (some ⟨b3,0,none⟩))] [],.fn (.func 209) [] [.ptr [.val (.pointer (some ⟨b3,0,none⟩))]],.fn (.func 211) [.val (.pointer (some ⟨b3,0,none⟩))] [],.val .nilFunc,.fn (.func 212) [.val (.pointer (some ⟨b3,0,none⟩))] [],.fn (.func 269) [] [.ptr [.val (.pointer (some ⟨b3,0,none⟩))],.ptr [.str Sw]],.fn (.func 269) [] [.ptr [.val (.pointer (some ⟨b3,0,none⟩))],.ptr [.str Sx]],.fn (.func 269) [] [.ptr [.val (.pointer (some ⟨b3,0,none⟩))],.ptr [.str Sq]],.fn (.func 269) [] [.ptr [.val (.pointer (some ⟨b3,0,none⟩))],.ptr [.str Mz]],.fn (.func 269) [] [.ptr [.val (.pointer (some ⟨b3,0,none⟩))],.ptr [.str Kt]],.fn (.func 269) [] [.ptr [.val (.pointer (some ⟨b3,0,none⟩))],.ptr [.str Hq]],.fn (.func 269) [] [.ptr [.val (.pointer (some ⟨b3,0,none⟩))],.ptr [.str Ic]],.fn (.func 214) [.val (.pointer (some ⟨b3,0,none⟩))] [],.fn (.func 215) [] [.ptr [.val (.pointer (some ⟨b3,0,none⟩))]],.fn (.func 216) [] [.ptr [.val (.pointer (some ⟨b3,0,none⟩))]],.fn (.func 217) [.val (.pointer (some ⟨b3,0,none⟩))] [],.fn (.func 218) [.val (.pointer (some ⟨b3,0,none⟩))] [],.fn (.func 219) [] [.ptr [.val (.pointer (some ⟨b3,0,none⟩))]]])) (H2:=_::_::_) tok rfl rfl rfl rfl rfl rfl (rfl) (by kernel_rfl) rfl) ?_
 refine Ej ?_;refine A5 (Ad (Qp Jb (Qp Qk (Rb ?_))));refine ⟨.inr rfl,[.val _],.cons (.tmp _ _ rfl) <| .nil,_,.refl _,?_⟩;exact ⟨b3,rfl,rfl⟩

set_option maxHeartbeats 3200000
set_option maxRecDepth 20000

theorem fns_at {b:Nat}{n:Nat}{x y z:AV}(h:(To b)[n]? = some x):(y::z::To b)[2+n]? = some x:=by rw [Nat.add_comm];exact h
theorem G9 (b:Nat)(o:A1)(v:Value)(a:Option Addr)(ha:a=none∨a=some ⟨b,0,none⟩)(R:List HO)(t:Syn)(s:A1)(f:Nat)(first cap:List AV)(hk:0≤t.kind∧t.kind≤18)(hv:(To b)[t.kind.toNat]? = some (.fn (.func f) first cap))(hf:Tm Tryz.prog f=true)(hc:B5 Tryz.prog f (.row v (F4 o).length 5 1 :: .box b 216 (.val (.pointer a) :: .row v 1 (F4 o)::To b)::R) (first ++ [.agg (cSyn t)]++cap) (WQ b (o++s) R)):B5 Tryz.prog 150 (.row v (F4 o).length 5 1 :: .box b 216 (.val (.pointer a) :: .row v 1 (F4 o)::To b)::R) [.val (.pointer (some ⟨b,0,none⟩)),.agg (cSyn t)] (WQ b (o++s) R):=by
 refine B5.body (n:=13) tok Tryz.func150 rfl rfl rfl ?_;refine Ad (Qp (Ed Aq) (Ae ?_));refine AW.draw mixed (fun H'=>_∈H') (B6 (i:=1) rfl) (by kernel_rfl) ?_;refine Qn 0 rfl Bw (Qn 1 rfl (Qf Aq) (Qn 2 rfl Bf (Qn 3 rfl (Aj rfl) (Qn 4 rfl Cc ?_))));refine Qn 5 rfl (X9 (o':=(2+t.kind.toNat)) tok rfl rfl rfl rfl rfl (hk.1) (by omega) (by show 2+t.kind.toNat*1=_;omega)) ?_;refine Qn 6 rfl (OpP.Aap (fun k=>Af (k:=k) (c:=.fn (.func f) first cap) tok rfl rfl rfl (fns_at hv)) (fun _ h=>h)) ?_;refine Qn 7 rfl (Bo Aq) ?_;refine Hb.last _ _ 8 _ _ rfl (by kernel_rfl) rfl rfl (Jo (hf) rfl rfl rfl (B5.front2 (R:=_) 1 0 rfl rfl rfl (hc))) (by kernel_rfl) ?_;rintro _ _ ⟨v12,a12,rfl,ha12,rfl⟩;refine ⟨.inl rfl,[],.nil,_,.refl _,?_⟩;exact ⟨v12,a12,rfl,ha12,rfl⟩


theorem node_ok (b:Nat)(t:Syn):∀p,Ba t p=0→Es t→0≤t.kind→t.kind≤18→t.kind≠4→Ha b t:=by
 refine Syn.ind (P:=fun t=>∀p,Ba t p=0→Es t→0≤t.kind→t.kind≤18→t.kind≠4→Ha b t) (fun t ih p h hf k0 k18 k4=>?_) t;have hi:=aK h;have hi64 : -9223372036854775808≤t.num∧t.num≤9223372036854775807:=by omega
 obtain ⟨ho,_⟩:=Gk h;obtain ⟨_,hs,_,hfl⟩:=Gg ho
 have kid:∀(j:Nat) a,t.kids[j]? = some a→a.kind≠4→Ha b a:=fun j a ha h4=>by
  obtain ⟨c,k⟩:=Fj h ha;have kk:=iV k;exact ih a (B6 ha) _ c (C4 hf (B6 ha)) (by omega) kk.2 h4
 have kids:t.kind≠3→∀a∈t.kids,Ha b a:=fun h3 a ha=>by
  obtain ⟨j,hj⟩:=lI.1 ha;refine kid j a hj ?_;obtain ⟨c,k⟩:=Fj h hj;unfold Eh at k;rw [if_neg (show ¬(t.kind==3)=true by simpa using h3)] at k
  repeat' split at k
  all_goals first | (have:=E5 k;omega) | (have:=Wl k;omega) | (have:=Vf k;omega)
 have hr:0≤t.kind∧t.kind≤18:=⟨k0,k18⟩;have hcases:t.kind=0∨t.kind=1∨t.kind=2∨t.kind=3∨t.kind=5∨t.kind=6∨t.kind=7∨t.kind=8∨t.kind=9∨t.kind=10∨t.kind=11∨t.kind=12∨t.kind=13∨t.kind=14∨t.kind=15∨t.kind=16∨t.kind=17∨t.kind=18:=by omega
 intro o v a ha R hb;have e:=Dd t
 have yV:(t.kids.map Ah == [])=true↔¬0<t.kids.length:=by
  cases hq:t.kids <;> simp
 rcases hcases with hk | hk | hk | hk | hk | hk | hk | hk | hk | hk | hk | hk | hk | hk | hk | hk | hk | hk
 ·
  skip
  have e2:Ah t=(t.kids.map Ah).flatten:=by rw [e];unfold Df;rw [hk];rfl
  rw [e2] at hb ⊢;exact G9 b o v a ha R t _ 207 [] [.ptr [.val (.pointer (some ⟨b,0,none⟩))]] hr (by rw [hk];rfl) (by kernel_rfl) (sI b o v a ha R t (kids (by omega)) hb)
 ·
  skip
  have e2:Ah t = [116,121,112,101,32]++t.text ++ [32,123]++(if 0<t.kids.length then [32]++Ci (t.kids.map Ah) ++ [32] else []) ++ [125,10]:=by
   rw [e];unfold Df;rw [hk];show Ln ++ [32]++t.text ++ [32,123]++(if (t.kids.map Ah == [])=true then [] else [32]++Ci (t.kids.map Ah) ++ [32]) ++ [125,10]=_;by_cases h0:0<t.kids.length
   · rw [if_pos h0,if_neg (fun h=>(yV.1 h) h0)];simp
   rw [if_neg h0,if_pos (yV.2 h0)];simp
  rw [e2] at hb ⊢;exact G9 b o v a ha R t _ 208 [.val (.pointer (some ⟨b,0,none⟩))] [] hr (by rw [hk];rfl) (by kernel_rfl) (w_decl b o v a ha R t (kids (by omega)) hb)
 ·
  skip
  have e2:Ah t=t.text++([58,32]:A1)++J6 t.num:=by rw [e];unfold Df;rw [hk];rfl
  rw [e2] at hb ⊢;exact G9 b o v a ha R t _ 209 [] [.ptr [.val (.pointer (some ⟨b,0,none⟩))]] hr (by rw [hk];rfl) (by kernel_rfl) (w_field b o v a ha R t (cH hfl hk) hb)
 ·
  skip
  obtain ⟨q0,q1,r,hq⟩:∃q0 q1 r,t.kids=q0::q1::r:=by
   unfold En at hs;rw [hk] at hs
   replace hs:decide (3≤(t.kids.length:Int))=true:=hs
   simp only [Hi] at hs
   match hq:t.kids with
   | []=>rw [hq] at hs;simp at hs
   | [x]=>rw [hq] at hs;simp at hs
   | x::y::r=>exact ⟨x,y,r,rfl⟩
  have no4:∀(j:Nat) x,1≤j→t.kids[j]? = some x→x.kind≠4:=fun j x hj hx=>by
   obtain ⟨c,k⟩:=Fj h hx;unfold Eh at k;rw [hk] at k;have e3:((j:Int)==0)=false:=by simp;omega
   simp only [e3] at k
   replace k:(if ((j:Int)==1)=true then Pl.pats else Pl.exps).at x.kind=true:=k
   split at k
   · have:=Vf k;omega
   have:=Wl k;omega
  have hq1:Ha b q1:=kid 1 q1 (by rw [hq];rfl) (no4 1 q1 (C6 _) (by rw [hq];rfl))
  have hqr:∀x∈r,Ha b x:=fun x hx=>by
   obtain ⟨j,hj⟩:=lI.1 hx;have hj2:t.kids[j+2]? = some x:=by rw [hq];simpa using hj
   exact kid (j+2) x hj2 (no4 (j+2) x (by omega) hj2)
  have e2:Ah t=([113,117,101,114,121,32]:A1)++t.text++(if !(q0.text == []) then ([32,98,121,32]:A1)++q0.text else [])++([10,109,97,116,99,104,32]:A1)++Ah q1++([10,114,101,116,117,114,110,32]:A1)++Ci (r.map Ah)++([59,10]:A1):=by
   rw [e];unfold Df;rw [hk];show Hr ++ [32]++t.text++(if ((Bb t 0).text == [])=true then [] else [32]++aT ++ [32]++(Bb t 0).text) ++ [10]++Ij ++ [32]++(t.kids.map Ah).getD 1 [] ++ [10]++Hw ++ [32]++Ci ((t.kids.map Ah).drop 2) ++ [59,10]=_;have k0:Bb t 0=q0:=by unfold Bb;rw [hq];rfl
   rw [k0,hq];show Hr ++ [32]++t.text++(if (q0.text == [])=true then [] else [32]++aT ++ [32]++q0.text) ++ [10]++Ij ++ [32]++Ah q1 ++ [10]++Hw ++ [32]++Ci (r.map Ah) ++ [59,10]=_;cases hc:(q0.text == [])
   · simp
   simp
  rw [e2] at hb ⊢;exact G9 b o v a ha R t _ 211 [.val (.pointer (some ⟨b,0,none⟩))] [] hr (by rw [hk];rfl) (by kernel_rfl) (w_query b o v a ha R t q0 q1 r hq hq1 hqr hb)
 ·
  skip
  have e2:Ah t=t.text++([32]:A1)++t.name++(if h:0<t.kids.length then ([32,105,102,32]:A1)++Ah t.kids[0] else []):=by
   rw [e];unfold Df;rw [hk];show t.text ++ [32]++t.name++(if (t.kids.map Ah == [])=true then [] else [32]++Xh ++ [32]++(t.kids.map Ah).getD 0 [])=_;by_cases h0:0<t.kids.length
   ·
    rw [dif_pos h0,if_neg (fun h=>(yV.1 h) h0)];have:(t.kids.map Ah).getD 0 []=Ah t.kids[0]:=by rw [Nv,List.getElem?_map,List.getElem?_eq_getElem h0];rfl
    rw [this];simp
   rw [dif_neg h0,if_pos (yV.2 h0)]
  rw [e2] at hb ⊢;exact G9 b o v a ha R t _ 212 [.val (.pointer (some ⟨b,0,none⟩))] [] hr (by rw [hk];rfl) (by kernel_rfl) (w_event b o v a ha R t (kids (by omega)) hb)
 ·
  skip
  have e2:Ah t=Sw++([40]:A1)++Ci (t.kids.map Ah)++(if t.kind==11 then ([44,32]:A1)++Lib.itoa t.num else [])++([41]:A1):=by rw [e];unfold Df;rw [hk];rfl
  rw [e2] at hb ⊢;exact G9 b o v a ha R t _ 269 [] [.ptr [.val (.pointer (some ⟨b,0,none⟩))],.ptr [.str Sw]] hr (by rw [hk];rfl) (by kernel_rfl) (O4 b o v a ha R t Sw hi64 (kids (by omega)) hb)
 ·
  skip
  have e2:Ah t=Sx++([40]:A1)++Ci (t.kids.map Ah)++(if t.kind==11 then ([44,32]:A1)++Lib.itoa t.num else [])++([41]:A1):=by rw [e];unfold Df;rw [hk];rfl
  rw [e2] at hb ⊢;exact G9 b o v a ha R t _ 269 [] [.ptr [.val (.pointer (some ⟨b,0,none⟩))],.ptr [.str Sx]] hr (by rw [hk];rfl) (by kernel_rfl) (O4 b o v a ha R t Sx hi64 (kids (by omega)) hb)
 ·
  skip
  have e2:Ah t=Sq++([40]:A1)++Ci (t.kids.map Ah)++(if t.kind==11 then ([44,32]:A1)++Lib.itoa t.num else [])++([41]:A1):=by rw [e];unfold Df;rw [hk];rfl
  rw [e2] at hb ⊢;exact G9 b o v a ha R t _ 269 [] [.ptr [.val (.pointer (some ⟨b,0,none⟩))],.ptr [.str Sq]] hr (by rw [hk];rfl) (by kernel_rfl) (O4 b o v a ha R t Sq hi64 (kids (by omega)) hb)
 ·
  skip
  have e2:Ah t=Mz++([40]:A1)++Ci (t.kids.map Ah)++(if t.kind==11 then ([44,32]:A1)++Lib.itoa t.num else [])++([41]:A1):=by rw [e];unfold Df;rw [hk];rfl
  rw [e2] at hb ⊢;exact G9 b o v a ha R t _ 269 [] [.ptr [.val (.pointer (some ⟨b,0,none⟩))],.ptr [.str Mz]] hr (by rw [hk];rfl) (by kernel_rfl) (O4 b o v a ha R t Mz hi64 (kids (by omega)) hb)
 ·
  skip
  have e2:Ah t=Kt++([40]:A1)++Ci (t.kids.map Ah)++(if t.kind==11 then ([44,32]:A1)++Lib.itoa t.num else [])++([41]:A1):=by rw [e];unfold Df;rw [hk];rfl
  rw [e2] at hb ⊢;exact G9 b o v a ha R t _ 269 [] [.ptr [.val (.pointer (some ⟨b,0,none⟩))],.ptr [.str Kt]] hr (by rw [hk];rfl) (by kernel_rfl) (O4 b o v a ha R t Kt hi64 (kids (by omega)) hb)
 ·
  skip
  have e2:Ah t=Hq++([40]:A1)++Ci (t.kids.map Ah)++(if t.kind==11 then ([44,32]:A1)++Lib.itoa t.num else [])++([41]:A1):=by rw [e];unfold Df;rw [hk];rfl
  rw [e2] at hb ⊢;exact G9 b o v a ha R t _ 269 [] [.ptr [.val (.pointer (some ⟨b,0,none⟩))],.ptr [.str Hq]] hr (by rw [hk];rfl) (by kernel_rfl) (O4 b o v a ha R t Hq hi64 (kids (by omega)) hb)
 ·
  skip
  have e2:Ah t=Ic++([40]:A1)++Ci (t.kids.map Ah)++(if t.kind==11 then ([44,32]:A1)++Lib.itoa t.num else [])++([41]:A1):=by rw [e];unfold Df;rw [hk];rfl
  rw [e2] at hb ⊢;exact G9 b o v a ha R t _ 269 [] [.ptr [.val (.pointer (some ⟨b,0,none⟩))],.ptr [.str Ic]] hr (by rw [hk];rfl) (by kernel_rfl) (O4 b o v a ha R t Ic hi64 (kids (by omega)) hb)
 ·
  skip
  have e2:Ah t=Lg t:=by rw [e];unfold Df;rw [hk];rfl
  rw [e2] at hb ⊢;exact G9 b o v a ha R t _ 214 [.val (.pointer (some ⟨b,0,none⟩))] [] hr (by rw [hk];rfl) (by kernel_rfl) (oD b o v a ha R t hi64 (iM hf).1 hb)
 ·
  skip
  have e2:Ah t=t.text++([46]:A1)++t.name:=by rw [e];unfold Df;rw [hk];rfl
  rw [e2] at hb ⊢;exact G9 b o v a ha R t _ 215 [] [.ptr [.val (.pointer (some ⟨b,0,none⟩))]] hr (by rw [hk];rfl) (by kernel_rfl) (w_ref b o v a ha R t hb)
 ·
  skip
  have e2:Ah t=([99,111,117,110,116,40]:A1)++t.text++([41]:A1):=by rw [e];unfold Df;rw [hk];rfl
  rw [e2] at hb ⊢;exact G9 b o v a ha R t _ 216 [] [.ptr [.val (.pointer (some ⟨b,0,none⟩))]] hr (by rw [hk];rfl) (by kernel_rfl) (w_count b o v a ha R t hb)
 ·
  skip
  have e2:Ah t=Nl t.num++([40]:A1)++t.text++([46]:A1)++t.name++Ld (t.kids.map Ah)++([41]:A1):=by
   rw [e];unfold Df;rw [hk];show Nl t.num ++ [40]++t.text ++ [46]++t.name++(if (t.kids.map Ah == [])=true then [] else [44,32]++(t.kids.map Ah).getD 0 []) ++ [41]=_;unfold En at hs;rw [hk] at hs
   replace hs:(if (t.num==1)=true then ((t.kids.length:Int)==0) else ((t.kids.length:Int)==1))=true:=hs
   have hl:t.kids.length≤1:=by split at hs <;> (simp only [beq_iff_eq] at hs;omega)
   match hq:t.kids with
   | []=>rfl
   | [x]=>simp [Ld]
   | x::y::r=>rw [hq] at hl;simp at hl
  rw [e2] at hb ⊢;exact G9 b o v a ha R t _ 217 [.val (.pointer (some ⟨b,0,none⟩))] [] hr (by rw [hk];rfl) (by kernel_rfl) (w_total b o v a ha R t (dY hfl hk) (kids (by omega)) hb)
 ·
  skip
  unfold En at hs;rw [hk] at hs
  replace hs:((t.kids.length:Int)==2)=true:=hs
  obtain ⟨x0,x1,hq⟩:=iT (by simpa using hs)
  have e2:Ah t=E2 t x0 (Ah x0)++([32]:A1)++Hs t.num++([32]:A1)++E2 t x1 (Ah x1):=by
   rw [e];unfold Df;rw [hk];show E2 t (Bb t 0) ((t.kids.map Ah).getD 0 []) ++ [32]++Hs t.num ++ [32]++E2 t (Bb t 1) ((t.kids.map Ah).getD 1 [])=_;have k0:Bb t 0=x0:=by unfold Bb;rw [hq];rfl
   have k1:Bb t 1=x1:=by unfold Bb;rw [hq];rfl
   rw [k0,k1,hq];rfl
  rw [e2] at hb ⊢;exact G9 b o v a ha R t _ 218 [.val (.pointer (some ⟨b,0,none⟩))] [] hr (by rw [hk];rfl) (by kernel_rfl) (Aae b o v a ha R t x0 x1 (by rw [hq];rfl) (by rw [hq];rfl) (by have:=pM hfl hk;omega) (kids (by omega) x0 (by rw [hq];simp)) (kids (by omega) x1 (by rw [hq];simp)) hb)
 skip
 unfold En at hs;rw [hk] at hs
 replace hs:((t.kids.length:Int)==1)=true:=hs
 obtain ⟨x0,hq⟩:=Yv (by simpa using hs)
 have e2:Ah t=([110,111,116,32]:A1)++E2 t x0 (Ah x0):=by
  rw [e];unfold Df;rw [hk];show Ww ++ [32]++E2 t (Bb t 0) ((t.kids.map Ah).getD 0 [])=_;have k0:Bb t 0=x0:=by unfold Bb;rw [hq];rfl
  rw [k0,hq];rfl
 rw [e2] at hb ⊢;exact G9 b o v a ha R t _ 219 [] [.ptr [.val (.pointer (some ⟨b,0,none⟩))]] hr (by rw [hk];rfl) (by kernel_rfl) (w_not b o v a ha R t x0 (by rw [hq];rfl) (kids (by omega) x0 (by rw [hq];simp)) hb)
end Go.Proofs.YtckhoadldibflaaGreatDoor
