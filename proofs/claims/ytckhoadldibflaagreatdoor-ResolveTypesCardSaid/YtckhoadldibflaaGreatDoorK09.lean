/-
  Several texts in one: V2, V3, V4. No condition.
-/
import Derived.Test.YtckhoadldibflaaGreatDoorK01
import Derived.Test.YtckhoadldibflaaGreatDoorV1
import Derived.KernelRfl
set_option linter.unusedVariables false
set_option linter.unusedSimpArgs false
namespace Go.Proofs.YtckhoadldibflaaGreatDoor
open Go Go.Aw
set_option maxHeartbeats 400000
set_option maxRecDepth 20000

theorem D4 {w:Aq}{st:PS}(h:Im w st=true):Kr w st=adv st:=by unfold Kr;rw [h];rfl
def okD (D:Int)(st:PS):Prop:=Ly st∧D≤st.depth∧st.depth≤64
def Ch (F:PS→Syn×PS):Prop:=∀st,0≤st.depth→st.depth≤64→(F st).2.toks=st.toks∧st.pos≤(F st).2.pos∧(F st).2.depth=st.depth
theorem Nd (e:Int)(st:PS):(Eo e st).depth=st.depth:=by unfold Eo;split <;> rfl
theorem Yt (w:Aq)(st:PS):(Kr w st).depth=st.depth:=by unfold Kr;split <;> rfl
theorem Y3 (w:Aq)(st:PS):(Cg w st).depth=st.depth:=by unfold Cg;split;exact Nd _ _;exact Yt _ _
theorem aH (k:Int)(st:PS):(Dm k st).depth=st.depth:=by unfold Dm;split;rfl;exact Nd _ _
theorem Rg {D:Int}{a b:PS}(h:a.toks=b.toks)(h2:a.depth=b.depth):okD D a↔okD D b:=by unfold okD Ly;rw [h,h2]
@[simp] theorem okD_adv (D : Int) (st : PS) : okD D (adv st) ↔ okD D st := Rg rfl rfl
@[simp] theorem okD_failP (D : Int) (e : Int) (st : PS) : okD D (Eo e st) ↔ okD D st := Rg (Jp _ _) (Nd _ _)
@[simp] theorem okD_accP (D : Int) (w : Aq) (st : PS) : okD D (Kr w st) ↔ okD D st := Rg (Qk _ _) (Yt _ _)
@[simp] theorem okD_expP (D : Int) (w : Aq) (st : PS) : okD D (Cg w st) ↔ okD D st := Rg (Rc _ _) (Y3 _ _)
@[simp] theorem okD_tokP (D : Int) (k : Int) (st : PS) : okD D (Dm k st) ↔ okD D st := Rg (Ri _ _) (aH _ _)
theorem Ch.okD {F:PS→Syn×PS}(h:Ch F){D:Int}(hD:0≤D){st:PS}(ho:okD D st):okD D (F st).2:=by
 obtain ⟨h1,h2,h3⟩:=ho
 obtain ⟨k1,k2,k3⟩:=h st (by omega) h3
 exact ⟨(J8 k1).2 h1,by omega,by omega⟩
theorem Ql (e:Int)(st:PS):(Eo e st).pos=st.pos:=by unfold Eo;split <;> rfl
theorem kL (w:Aq)(st:PS):st.pos≤(Kr w st).pos:=by
 unfold Kr
 split
 · exact Nat.le_succ _
 · exact Nat.le_refl _
theorem lD (w:Aq)(st:PS):st.pos≤(Cg w st).pos:=by unfold Cg;split;exact Nat.le_of_eq (Ql _ _).symm;exact kL _ _
theorem kC (k:Int)(st:PS):st.pos≤(Dm k st).pos:=by unfold Dm;split;exact Nat.le_succ _;exact Nat.le_of_eq (Ql _ _).symm
theorem S5 {e:Int}(he:e≠0)(st:PS):((Eo e st).bad != 0)=true:=by
 unfold Eo
 split
 · simpa using he
 · rename_i h;simpa using h

def Gx (st:PS):PS:=if decide (64≤st.depth) then Eo 12 st else st
theorem Jv {F:PS→Syn×PS}{n:Nat}{st:PS}{out:List Syn}(h:0<n):Ht F n st out=if Im Co st then Ht F (n-1) (F (adv st)).2 (out ++ [(F (adv st)).1]) else (out,st):=by
 obtain ⟨m,rfl⟩:∃m,n=m+1:=⟨n-1,by omega⟩
 rfl
theorem Qh (l:List Syn):∀x∈l.map Cl,Ba x=true:=dK fun a=>by rw [Bi];rfl
theorem Ii {es:List (List AV)}{out:List Syn}{t:Syn}(h:es=out.map Cl):es ++ [cSyn t]=(out ++ [t]).map Cl:=by rw [h,List.map_append,List.map_singleton,Bi]

theorem oT (st st2 st3:PS)(bp:Nat)(R R3:List HO)(f:Nat)(hf:Oo Tryz.prog f=true)(first cap:List AV)(hlt:st.pos<st.toks.length)(hS:Ly st)(hcl:(Gx st).bad=0→Bw Tryz.prog f (.box bp 223 (cP (adv (Hu st)))::R) (first ++ []++cap) (fun _ H'=>H' = .box bp 223 (cP st2)::R3∧st3=Id st2))(hno:(Gx st).bad≠0→st3=Gx st∧R3=R):Bw Tryz.prog 226 (.box bp 223 (cP st)::R) [.val (.pointer (some ⟨bp,0,none⟩)),.fn (.func f) first cap] (fun r H'=>r = .tuple []∧H' = .box bp 223 (cP st3)::R3):=by
 refine Bw.body (n:=39) tok Tryz.func226 rfl rfl rfl ?_
 refine AW.seq (Ad (Qp Br ?_))
 refine Qp (Ak rfl) ?_
 refine Qp Cb ?_
 refine AOL.Aaq (Aj (k:=0) (c:=Iq _) tok rfl rfl rfl rfl) rfl rfl ?_
 refine Qp F6 (Aa (Au (fun hc1=>?_) fun hc1=>?_))
 ·
  try simp only [Bool.not_eq_true',Bool.not_eq_false'] at hc1
  refine AW.region (Qp Br ?_)
  refine Qe (Al (by kernel_rfl) rfl rfl ((Xg _ _ _).at (k:=0) (H2:=_::_) rfl rfl)) ?_
  rintro _ _ ⟨rfl,rfl⟩
  refine Aa (AW.seq (Ad (Qp Br ?_)))
  refine Qp (Ak rfl) ?_
  refine Qp Cb ?_
  refine AOL.Aaq (Aj (k:=0) (c:=Iq _) tok rfl rfl rfl rfl) rfl rfl ?_
  refine Qp B9 (Aa (Au (fun hc2=>?_) fun hc2=>?_))
  ·
   try simp only [Bool.not_eq_true',Bool.not_eq_false'] at hc2
   have hml:=hS.1
   refine Cx ?_
   refine ⟨.inr rfl,[],.nil,_,.refl _,?_⟩
   obtain ⟨e1,e2⟩:=hno (by unfold Gx;rw [hc1];simpa using hc2)
   subst e1;subst e2
   exact ⟨rfl,congrArg (fun s=>HO.box bp 223 (cP s)::R3) (by unfold Gx;rw [hc1];rfl)⟩
  ·
   try simp only [Bool.not_eq_true',Bool.not_eq_false'] at hc2
   exact absurd ((S5 (e:=12) (by decide) st).symm.trans hc2) (by decide)
 ·
  try simp only [Bool.not_eq_true',Bool.not_eq_false'] at hc1
  refine Bl (AW.seq (Ad (Qp Br ?_)))
  refine Qp (Ak rfl) ?_
  refine Qp Cb ?_
  refine AOL.Aaq (Aj (k:=0) (c:=Iq _) tok rfl rfl rfl rfl) rfl rfl ?_
  refine Qp B9 (Aa (Au (fun hc3=>?_) fun hc3=>?_))
  ·
   try simp only [Bool.not_eq_true',Bool.not_eq_false'] at hc3
   refine Cx ?_
   refine ⟨.inr rfl,[],.nil,_,.refl _,?_⟩
   obtain ⟨e1,e2⟩:=hno (by unfold Gx;rw [hc1];simpa using hc3)
   subst e1;subst e2
   exact ⟨rfl,congrArg (fun s=>HO.box bp 223 (cP s)::R3) (by unfold Gx;rw [hc1];rfl)⟩
  ·
   try simp only [Bool.not_eq_true',Bool.not_eq_false'] at hc3
   have hml:=hS.1
   have h9:(Gx st).bad=0:=by unfold Gx;rw [hc1];simpa using hc3
   refine Bl (Ad (Qp Br ?_))
   refine Qp (Ak rfl) ?_
   refine Qp Cb ?_
   refine AOL.Aaq (Aj (k:=0) (c:=Iq _) tok rfl rfl rfl rfl) rfl rfl ?_
   refine Qp (Xk rfl rfl) ?_
   refine Qp (Ak rfl) ?_
   refine Qp Cb ?_
   refine B0 0 [_,Iq _,Iq _,Iq _,Iq _,Iq _] (_::_) ?_
   refine By (Qp Br ?_)
   refine Qp (Ak rfl) ?_
   refine Qp Cb ?_
   refine AOL.Aaq (Aj (k:=0) (c:=Iq _) tok rfl rfl rfl rfl) rfl rfl ?_
   refine Qp Ei ?_
   refine Qp (Ak rfl) ?_
   refine Qp Cb ?_
   refine B0 0 [_,Iq _,Iq _,Iq _,Iq _,Iq _] (_::_) ?_
   refine By ?_
   refine Qp (A1 (v:=.fn _ _ _) rfl) ?_
   refine Qe (Hb hf rfl rfl rfl (hcl h9)) ?_
   rintro _ _ ⟨rfl,h3⟩
   refine Aa (AW.region (Qp Br ?_))
   refine Qp (Ak rfl) ?_
   refine Qp Cb ?_
   refine AOL.Aaq (Aj (k:=0) (c:=Iq _) tok rfl rfl rfl rfl) rfl rfl ?_
   refine Qp (dG rfl rfl) ?_
   refine Qp (Ak rfl) ?_
   refine Qp Cb ?_
   refine B0 0 [_,Iq _,Iq _,Iq _,Iq _,Iq _] (_::_) ?_
   refine AOL.nil ?_
   refine ⟨.inl rfl,[],.nil,_,.refl _,?_⟩
   subst h3
   exact ⟨rfl,rfl⟩
theorem yE (st:PS)(bp:Nat)(D:Int)(hD:0≤D)(f:Nat)(hf:Oo Tryz.prog f=true)(first cap:List AV)(F:PS→Syn×PS)(hF:Ch F)(hc:∀st,okD D st→Bd Tryz.prog f bp 223 (cP st) (cP (F st).2) (first ++ []++cap) (.agg (cSyn (F st).1)))(hO:okD D st):Bd Tryz.prog 163 bp 223 (cP st) (cP ((Pi F st).2)) [.val (.pointer (some ⟨bp,0,none⟩)),.fn (.func f) first cap] (.sl 6 ((Pi F st).1.map Cl)):=by
 intro H
 refine Bw.body (n:=17) tok Tryz.func163 rfl rfl rfl ?_
 refine Ad ?_
 refine Qp (Bk (z:=6) rfl) ?_
 refine By ?_
 refine Qp (A1 (v:=.fn _ _ _) rfl) ?_
 refine Qe (Hb (hf) rfl rfl rfl ((hc st hO).at (k:=0) (H2:=_::_) rfl rfl)) ?_
 rintro _ _ ⟨rfl,rfl⟩
 refine Qe (Fy (es:=[[Iq _,.str _,.str _,Iq _,_,Iq _]]) tok rfl rfl rfl rfl rfl rfl rfl rfl rfl) ?_
 rintro _ _ ⟨v8,rfl,rfl⟩
 refine Qp (A6 (v:=.row _ _ _) rfl) ?_
 refine Aa (AW.seq (AW.block ?_))
 refine AW.Aat (fun (p:Nat×PS×List Syn×List (List AV)×Value)=>(⟨[(0,.val (.pointer (some ⟨bp,0,none⟩))),(1,.fn (.func f) first cap),(5,.row p.2.2.2.2 6 p.2.2.2.1)],.row p.2.2.2.2 p.2.2.2.1.length 25 6 :: .box bp 223 (cP p.2.1)::H,17⟩:St)) (fun (p:Nat×PS×List Syn×List (List AV)×Value)=>p.2.2.2.1=p.2.2.1.map Cl∧okD D p.2.1∧Bb p.2.1≤p.1∧p.2.2.1.length≤p.2.1.pos+1∧Pi F st=Ht F p.1 p.2.1 p.2.2.1) (fun (p:Nat×PS×List Syn×List (List AV)×Value)=>p.1) ((Bb (F st).2,(F st).2,[(F st).1],[cSyn (F st).1],v8)) ?_ (GS.weaken ⟨rfl,rfl,rfl,trivial⟩ (.refl _)) ?_
 · exact ⟨by rw [List.map_singleton,Bi],hF.okD hD hO,Nat.le_refl _,by simp,rfl⟩
 ·
  rintro p hR
  have hes:p.2.2.2.1=p.2.2.1.map Cl:=hR.1
  have hO2:okD D p.2.1:=hR.2.1
  have hS:=hO2.1
  have hfu:Bb p.2.1≤p.1:=hR.2.2.1
  have hn:0<p.1:=by unfold Bb at hfu;omega
  have hol:p.2.2.1.length≤p.2.1.pos+1:=hR.2.2.2.1
  have hsc:∀c∈p.2.2.2.1,Ba c=true:=by rw [hes];exact Qh _
  have hel:p.2.2.2.1.length=p.2.2.1.length:=by rw [hes,List.length_map]
  refine AW.seq (Ad (Qp Br ?_))
  refine Qe (Al (by kernel_rfl) rfl rfl ((C8 _ _ _ (by simpa using hS) (by first | assumption | decide)).at (k:=1) (H2:=_::_::_) rfl rfl)) ?_
  rintro _ _ ⟨rfl,rfl⟩
  refine Aa (Au (fun hc1=>?_) fun hc1=>?_)
  ·
   try simp only [Bool.not_eq_true',Bool.not_eq_false'] at hc1
   have hlt:=Rq hc1
   have hml:=hS.1
   have hFa:=hF (adv p.2.1) (by have:=hO2.2.1;show (0:Int)≤p.2.1.depth;omega) hO2.2.2
   have hps:p.2.1.pos+1≤(F (adv p.2.1)).2.pos:=hFa.2.1
   have hts:(F (adv p.2.1)).2.toks=p.2.1.toks:=hFa.1
   refine AW.ghost (GS.Aau (H2:=_::_::_) 1 rfl (congrArg cP (D4 hc1)) rfl) ?_
   refine Bl (AW.block (AW.region ?_))
   refine Qp (A1 (v:=.row _ _ _) rfl) ?_
   refine Qp (A1 (v:=.fn _ _ _) rfl) ?_
   refine Qe (Hb (hf) rfl rfl rfl ((hc _ (by simpa using hO2)).at (k:=1) (H2:=_::_::_) rfl rfl)) ?_
   rintro _ _ ⟨rfl,rfl⟩
   refine Qp (Am (es:=[[Iq _,.str _,.str _,Iq _,_,Iq _]]) tok rfl rfl rfl rfl rfl rfl rfl rfl rfl) ?_
   refine Qe (Ci (k:=0) tok rfl rfl rfl rfl rfl rfl rfl rfl (D7 rfl) (hsc) (by simp;omega) (by simp [maxLen];omega)) ?_
   rintro _ _ ⟨v15,rfl,rfl⟩
   refine Qp (A6 (v:=.row _ _ _) rfl) ?_
   refine AOL.nil (Bc (Af ?_))
   refine ⟨(p.1-1,(F (adv p.2.1)).2,p.2.2.1 ++ [(F (adv p.2.1)).1],p.2.2.2.1 ++ [cSyn (F (adv p.2.1)).1],v15),?_,?_,GS.weaken ⟨rfl,rfl,rfl,trivial⟩ (.refl _)⟩
   · exact ⟨Ii hes,hF.okD hD (by simpa using hO2),by unfold Bb at hfu ⊢;rw [hts];simp only;omega,by simp only [List.length_append,List.length_singleton];omega,hR.2.2.2.2.trans (by rw [Jv hn,if_pos hc1])⟩
   · simp only;omega
  ·
   try simp only [Bool.not_eq_true',Bool.not_eq_false'] at hc1
   refine AW.ghost (GS.Aau (H2:=_::_::_) 1 rfl (congrArg cP (Ey hc1)) rfl) ?_
   refine AW.exit ?_
   refine A7 (A7 (Bp (Af (Ad ?_))))
   refine AOL.ghost (GS.unrow 5 rfl) ?_
   refine Qp K4 (Qp U8 (Aa (AW.ret ?_)))
   refine ⟨.inr rfl,[.sl _ _],.cons (.tmp _ _ rfl) <| .nil,_,.cons _ (.refl _),?_⟩
   have h9:Pi F st=(p.2.2.1,p.2.1):=hR.2.2.2.2.trans (by rw [Jv hn,iN hc1])
   exact ⟨by rw [h9,←hes];rfl,congrArg (fun s=>HO.box bp 223 (cP s)::H) (by rw [h9])⟩

set_option maxHeartbeats 1600000
set_option maxRecDepth 20000

abbrev wP (s:Aq×Int):List AV:=[.str s.1,.int .i64 s.2]
theorem sg_at {sg:List (Aq×Int)}{k:Nat}{s:Aq×Int}(h:sg[k]? = some s):(sg.map wP)[k]? = some [.str s.1,.int .i64 s.2]:=by rw [List.getElem?_map,h];rfl
theorem Oq {α:Type}{p:α→Bool}:∀{l:List α} {k:Nat} {x:α},(∀j y,j<k→l[j]? = some y→p y=false)→l[k]? = some x→p x=true→l.find? p=some x
  | [],k,x,_,h,_=>by simp at h
  | a::l,0,x,_,h,hp=>by
    simp only [List.getElem?_cons_zero,Option.some.injEq] at h;subst h
    rw [List.find?_cons,hp]
  | a::l,k+1,x,hn,h,hp=>by
    rw [List.find?_cons,hn 0 a (by omega) rfl]
    exact Oq (l:=l) (k:=k) (fun j y hj hy=>hn (j+1) y (by omega) hy) h hp
theorem Wp {α:Type}{p:α→Bool}{l:List α}(hn:∀j y,j<l.length→l[j]? = some y→p y=false):l.find? p=none:=by
 rw [List.find?_eq_none]
 intro x hx
 obtain ⟨k,hk⟩:=List.getElem?_of_mem hx
 have:=hn k x (List.getElem?_eq_some_iff.1 hk).1 hk
 rw [this];decide
theorem Rm {F:PS→Syn×PS}{sg:List (Aq×Int)}{n:Nat}{st:PS}{out:Syn}(h:0<n):Ld F sg n st out=match sg.find? (fun s=>Im s.1 st) with
  | some s=>Ld F sg (n-1) (F (adv st)).2 (Lw s.2 out (F (adv st)).1 out.pos)
  | none=>(out,st):=by
 obtain ⟨m,rfl⟩:∃m,n=m+1:=⟨n-1,by omega⟩
 rfl

theorem Hx (op:Int)(x y:Syn)(k:Int):Ap Tryz.prog 287 [.int .i64 op,.agg (cSyn x),.agg (cSyn y),.int .i64 k] (.agg (cSyn (Lw op x y k))):=by
 refine Ap.body (n:=15) tok Tryz.func287 rfl rfl rfl fun H=>?_
 refine Ad (Qp (Eu [Iq _,.str _,.str _,Iq _,_,Iq _]) (Qp (Eu [Iq _,.str _,.str _,Iq _,_,Iq _]) ?_))
 refine Qe (An (l:=[.int .i64 0,.str [],.str [],.int .i64 0,.sl 6 [],.int .i64 0]) (by kernel_rfl)) ?_
 rintro _ _ ⟨b8,rfl,rfl⟩
 refine By (Qp A4 (Qp (B2 [Iq _,.str _,.str _,Iq _,_,Iq _]) (Qp (B2 [Iq _,.str _,.str _,Iq _,_,Iq _]) ?_)))
 refine Qp (Am (es:=[[Iq _,.str _,.str _,Iq _,_,Iq _],[Iq _,.str _,.str _,Iq _,_,Iq _]]) tok rfl rfl rfl rfl rfl rfl rfl rfl rfl) ?_
 refine Qp A4 (Qp (Ea [Iq _,.str _,.str _,Iq _,_,Iq _]) ?_)
 refine B0 0 [Iq _,.str _,.str _,Iq _,_,Iq _] (_::_) ?_
 refine Aa (AW.ret ?_)
 refine ⟨.inr rfl,[.agg [Iq _,.str _,.str _,Iq _,_,Iq _]],.cons (.box _ _ _ 0 _ _ _ _ rfl rfl rfl rfl rfl rfl) <| .nil,.cons _ (.refl _),?_⟩
 exact congrArg (fun l=>AV.agg [.int .i64 17,.str [],.str [],.int .i64 op,.sl 6 l,.int .i64 k]) (by rw [List.map_cons,List.map_cons,List.map_nil,Bi,Bi]:[cSyn x,cSyn y] = [x,y].map Cl)
theorem Xl (st:PS)(bp:Nat)(D:Int)(hD:0≤D)(f:Nat)(hf:Oo Tryz.prog f=true)(first cap:List AV)(F:PS→Syn×PS)(hF:Ch F)(hc:∀st,okD D st→Bd Tryz.prog f bp 223 (cP st) (cP (F st).2) (first ++ []++cap) (.agg (cSyn (F st).1)))(hO:okD D st)(sg:List (Aq×Int))(hsg:∀s∈sg,s.1.length≤1048576)(hsl:sg.length≤100):Bd Tryz.prog 229 bp 223 (cP st) (cP ((Mw F sg st).2)) [.val (.pointer (some ⟨bp,0,none⟩)),.fn (.func f) first cap,.sl 2 (sg.map wP)] (.agg (cSyn (Mw F sg st).1)):=by
 intro H
 refine Bw.body (n:=34) tok Tryz.func229 rfl rfl rfl ?_
 refine Ad ?_
 refine Qe (An (l:=[.int .i64 0,.str [],.str [],.int .i64 0,.sl 6 [],.int .i64 0]) (by kernel_rfl)) ?_
 rintro _ _ ⟨b6,rfl,rfl⟩
 refine By ?_
 refine Qp (A1 (v:=.fn _ _ _) rfl) ?_
 refine Qe (Hb (hf) rfl rfl rfl ((hc st hO).at (k:=1) (H2:=_::_::_) rfl rfl)) ?_
 rintro _ _ ⟨rfl,rfl⟩
 refine Qe (An (l:=[.int .i64 0,.str [],.str [],.int .i64 0,.sl 6 [],.int .i64 0]) (by kernel_rfl)) ?_
 rintro _ _ ⟨b7,rfl,rfl⟩
 refine B0 0 [Iq _,.str _,.str _,Iq _,_,Iq _] (_::_::_::_) ?_
 refine Aa (AW.seq (Ad (Qp A3 (Aa (AW.block ?_)))))
 refine AW.Aat (fun (p:Nat×PS×Syn×Bool)=>(⟨[(0,.val (.pointer (some ⟨bp,0,none⟩))),(1,.fn (.func f) first cap),(2,.sl 2 (sg.map wP)),(6,.val (.pointer (some ⟨b6,0,none⟩))),(7,.val (.pointer (some ⟨b7,0,none⟩))),(8,.bool p.2.2.2)],.box b7 25 (cSyn p.2.2.1) :: .box b6 25 (cSyn Lc) :: .box bp 223 (cP p.2.1)::H,34⟩:St)) (fun (p:Nat×PS×Syn×Bool)=>okD D p.2.1∧Bb p.2.1≤p.1∧(p.2.2.2=true→Mw F sg st=Ld F sg p.1 p.2.1 p.2.2.1)∧(p.2.2.2=false→Mw F sg st=(p.2.2.1,p.2.1))) (fun (p:Nat×PS×Syn×Bool)=>(if p.2.2.2 then p.1+1 else 0)) ((Bb (F st).2,(F st).2,(F st).1,true)) ?_ (GS.weaken ⟨rfl,rfl,rfl,rfl,rfl,rfl,trivial⟩ (.refl _)) ?_
 · exact ⟨hF.okD hD hO,Nat.le_refl _,fun _=>rfl,fun h=>(by cases h)⟩
 ·
  rintro p hR
  have hO2:okD D p.2.1:=hR.1
  have hS:=hO2.1
  have hfu:Bb p.2.1≤p.1:=hR.2.1
  have hn:0<p.1:=by unfold Bb at hfu;omega
  refine AW.seq (Ad (Qp Bq (Aa (Au (fun hc1=>?_) fun hc1=>?_))))
  ·
   try simp only [Bool.not_eq_true',Bool.not_eq_false'] at hc1
   refine Bl (AW.block (Ad (Qp A3 (By (Qp K4 ?_)))))
   refine Qp (Ax (n:=sg.length) tok rfl rfl rfl (by simp)) ?_
   refine Qp A4 (Aa (AW.block ?_))
   refine AW.Aat (fun (k:Nat)=>(⟨[(0,.val (.pointer (some ⟨bp,0,none⟩))),(1,.fn (.func f) first cap),(2,.sl 2 (sg.map wP)),(6,.val (.pointer (some ⟨b6,0,none⟩))),(7,.val (.pointer (some ⟨b7,0,none⟩))),(8,.bool false),(14,.sl 2 (sg.map wP)),(15,.int .i64 (sg.length:Int)),(16,.int .i64 (k:Int))],.box b7 25 (cSyn p.2.2.1) :: .box b6 25 (cSyn Lc) :: .box bp 223 (cP p.2.1)::H,34⟩:St)) (fun (k:Nat)=>k≤sg.length∧∀j y,j<k→sg[j]? = some y→Im y.1 p.2.1=false) (fun (k:Nat)=>sg.length-k) (0) ?_ (GS.weaken ⟨rfl,rfl,rfl,rfl,rfl,rfl,rfl,rfl,rfl,trivial⟩ (.refl _)) ?_
   · exact ⟨Nat.zero_le _,fun j y hj=>absurd hj (Nat.not_lt_zero _)⟩
   ·
    rintro k hK
    refine Ad (Qp B7 (Aa (AW.seq (Au (fun hc2=>?_) fun hc2=>?_))))
    ·
     try simp only [Bool.not_eq_true',Bool.not_eq_false'] at hc2
     have hk:k<sg.length:=by simpa using hc2
     refine (zG hk).elim fun x hx=>?_
     have hwx:x.1.length≤1048576:=hsg x (List.mem_of_getElem? hx)
     refine Bl (AW.seq (AW.block (Ad ?_)))
     refine Qp (Ag (c:=[.str _,Iq _]) tok rfl rfl rfl rfl rfl rfl (by omega) (sg_at hx)) ?_
     refine Qp (B2 [.str _,Iq _]) ?_
     refine Qe (An (l:=[.str [],.int .i64 0]) (by kernel_rfl)) ?_
     rintro _ _ ⟨b10,rfl,rfl⟩
     refine B0 0 [.str _,Iq _] (_::_::_::_::_) ?_
     refine AOL.ghost (GS.freeze (t:=10) 0 rfl rfl) ?_
     refine By (Qp Br (Qp (Qf [.str _,Iq _]) (Qp Df ?_)))
     refine Qe (Al (by kernel_rfl) rfl rfl ((C8 _ _ _ (by simpa using hS) (by first | assumption | decide)).at (k:=2) (H2:=_::_::_::_) rfl rfl)) ?_
     rintro _ _ ⟨rfl,rfl⟩
     refine Aa (Au (fun hc3=>?_) fun hc3=>?_)
     ·
      try simp only [Bool.not_eq_true',Bool.not_eq_false'] at hc3
      have hfd:sg.find? (fun s=>Im s.1 p.2.1)=some x:=Oq hK.2 hx hc3
      have hlt:=Rq hc3
      have hml:=hS.1
      have hFa:=hF (adv p.2.1) (by have:=hO2.2.1;show (0:Int)≤p.2.1.depth;omega) hO2.2.2
      have hps:p.2.1.pos+1≤(F (adv p.2.1)).2.pos:=hFa.2.1
      have hts:(F (adv p.2.1)).2.toks=p.2.1.toks:=hFa.1
      refine AW.ghost (GS.Aau (H2:=_::_::_::_) 2 rfl (congrArg cP (D4 hc3)) rfl) ?_
      refine AW.seq ?_
      refine AW.draw mixed (fun H'=>_∈H') (List.mem_of_getElem? (i:=0) rfl) (by kernel_rfl) ?_
      refine Qn 0 rfl (Qf [Iq _]) (Qn 1 rfl Bt ?_)
      refine Qn 2 rfl (OpP.Aas (fun k=>A8 (k:=k) (l:=[Iq _,.str _,.str _,Iq _,_,Iq _]) tok rfl rfl rfl rfl rfl) (fun _ h=>h)) ?_
      refine Qn 3 rfl (A1 (v:=.fn _ _ _) rfl) ?_
      refine Qn 5 rfl Cb ?_
      refine Qn 6 rfl (OpP.Aas (fun k=>Aj (k:=k) (c:=Iq _) tok rfl rfl rfl rfl) (fun _ h=>h)) ?_
      refine Hs.eff _ _ 4 _ _ rfl (by kernel_rfl) rfl rfl (Hb (hf) rfl rfl rfl ((hc _ (by simpa using hO2)).at (k:=2) (H2:=_::_::_::_) rfl rfl)) (by rintro _ _ ⟨rfl,rfl⟩;simp) ?_
      rintro _ _ ⟨rfl,rfl⟩
      refine Qn 7 rfl (Qc rfl (Hx _ _ _ _)) ?_
      refine Hs.last _ _ 8 _ _ rfl (by kernel_rfl) rfl rfl (Be (k:=0) (v:=.agg _) (cs':=[Iq _,.str _,.str _,Iq _,_,Iq _]) (H2:=_::_::_::_) tok rfl rfl rfl rfl (rfl) rfl rfl rfl rfl) (by kernel_rfl) ?_
      rintro _ _ ⟨rfl,rfl⟩
      refine Af (Ad (Qp A3 (Aa ?_)))
      refine AW.exit ?_
      refine tJ rfl ?_
      refine A7 (A7 (Bp (Bc (Af ?_))))
      refine ⟨(p.1-1,(F (adv p.2.1)).2,Lw x.2 p.2.2.1 (F (adv p.2.1)).1 p.2.2.1.pos,true),?_,?_,GS.weaken ⟨rfl,rfl,rfl,rfl,rfl,rfl,trivial⟩ (.refl _)⟩
      · exact ⟨hF.okD hD (by simpa using hO2),by unfold Bb at hfu ⊢;rw [hts];simp only;omega,fun _=>(hR.2.2.1 hc1).trans (by rw [Rm hn,hfd]),fun h=>(by cases h)⟩
      · simp only [hc1,↓reduceIte,Bool.false_eq_true];omega
     ·
      try simp only [Bool.not_eq_true',Bool.not_eq_false'] at hc3
      refine AW.ghost (GS.Aau (H2:=_::_::_::_) 2 rfl (congrArg cP (Ey hc3)) rfl) ?_
      refine AW.skip (Bc (Af (AW.region (Qp Ei (Qp A4 (Aa ?_))))))
      refine ⟨k+1,?_,?_,GS.weaken ⟨rfl,rfl,rfl,rfl,rfl,rfl,rfl,rfl,rfl,trivial⟩ (.refl _)⟩
      · exact ⟨hk,fun j y hj hy=>by rcases Nat.lt_succ_iff_lt_or_eq.1 hj with h | rfl;exact hK.2 j y h hy;rw [hx] at hy;cases hy;exact hc3⟩
      · omega
    ·
     try simp only [Bool.not_eq_true',Bool.not_eq_false'] at hc2
     have hkn:¬k<sg.length:=by simpa using hc2
     have hfd:sg.find? (fun s=>Im s.1 p.2.1)=none:=Wp fun j y hj hy=>hK.2 j y (by omega) hy
     refine AW.exit ?_
     refine A7 (A7 (Bp (Bc (Af ?_))))
     refine ⟨(p.1,p.2.1,p.2.2.1,false),?_,?_,GS.weaken ⟨rfl,rfl,rfl,rfl,rfl,rfl,trivial⟩ (.refl _)⟩
     · exact ⟨hO2,hfu,fun h=>(by cases h),fun _=>(hR.2.2.1 hc1).trans (by rw [Rm hn,hfd])⟩
     · simp only [hc1,↓reduceIte,Bool.false_eq_true];omega
  ·
   try simp only [Bool.not_eq_true',Bool.not_eq_false'] at hc1
   refine AW.exit ?_
   refine A7 (A7 (Bp (Af (Ad ?_))))
   refine AOL.Aaq (A8 (k:=0) (l:=[Iq _,.str _,.str _,Iq _,_,Iq _]) tok rfl rfl rfl rfl rfl) rfl rfl ?_
   refine B0 1 [Iq _,.str _,.str _,Iq _,_,Iq _] (_::_::_::_) ?_
   refine Aa (AW.ret ?_)
   refine ⟨.inr rfl,[.agg [Iq _,.str _,.str _,Iq _,_,Iq _]],.cons (.box _ _ _ 1 _ _ _ _ rfl rfl rfl rfl rfl rfl) <| .nil,_,.cons _ (.cons _ (.refl _)),?_⟩
   have h9:=hR.2.2.2 hc1
   exact ⟨by rw [h9];rfl,congrArg (fun s=>HO.box bp 223 (cP s)::H) (by rw [h9])⟩

set_option maxHeartbeats 800000
set_option maxRecDepth 20000

theorem vB {p:UInt8→Bool}(h:(List.range 256).all (fun n=>p (UInt8.ofNat n))=true)(c:UInt8):p c=true:=by
 rw [List.all_eq_true] at h
 have:=h c.toNat (List.mem_range.2 c.toNat_lt)
 rwa [UInt8.ofNat_toNat] at this
def kindW:List Aq:=[E3,D3,Da]
abbrev fS (st:PS):PS:=Cg I3 (Dm 0 st)
theorem Yl:∀(s:Aq) (n:Int),0≤n→n≤1099511627776→0≤(J6 s n).1∧(J6 s n).1≤1099511627776
  | [],n,h0,h1=>⟨h0,h1⟩
  | c::r,n,h0,h1=>by
    unfold J6
    split
    · decide
    · rename_i h
      have hd:0≤jD c:=by
        have:=vB (p:=fun c=>decide (0≤jD c)) (by kernel_rfl) c
        exact of_decide_eq_true this
      simp only [decide_eq_true_eq,Int.not_lt] at h
      exact Yl r _ (by omega) h
theorem rG (st:PS):0≤S7 st∧S7 st≤1099511627776:=by
 unfold S7
 split
 ·
  unfold U6
  split
  · decide
  · exact Yl _ _ (by decide) (by decide)
 · decide

theorem S6 (st:PS)(bp:Nat)  (hS:Ly st):Bd Tryz.prog 330 bp 223 (cP st) (cP ((Ez st).2)) [.val (.pointer (some ⟨bp,0,none⟩))] (.agg (cSyn (Ez st).1)):=by
 intro H
 refine Bw.body (n:=37) tok Tryz.func330 rfl rfl rfl ?_
 refine Ad ?_
 refine Qe (An (l:=[.int .i64 0,.str [],.str [],.int .i64 0,.sl 6 [],.int .i64 0]) (by kernel_rfl)) ?_
 rintro _ _ ⟨b2,rfl,rfl⟩
 refine By (Qp Br ?_)
 refine AOL.Aaq (Ce (k:=1) (by kernel_rfl) rfl rfl (If _ _)) rfl rfl ?_
 refine Qp (Ea [Iq _,.str _,.str _,Iq _,_,Iq _]) ?_
 refine Qe (An (l:=[.int .i64 0,.str [],.str [],.int .i64 0,.sl 6 [],.int .i64 0]) (by kernel_rfl)) ?_
 rintro _ _ ⟨b3,rfl,rfl⟩
 refine B0 0 [Iq _,.str _,.str _,Iq _,_,Iq _] (_::_::_::_) ?_
 refine Aa (AW.seq (AW.block (Ad (Qp Br ?_))))
 refine Qe (Al (by kernel_rfl) rfl rfl ((C8 _ _ _ (by simpa using hS) (by first | assumption | decide)).at (k:=2) (H2:=_::_::_::_) rfl rfl)) ?_
 rintro _ _ ⟨rfl,rfl⟩
 refine Qp A3 (Aa (Au (fun hc1=>?_) fun hc1=>?_))
 ·
  try simp only [Bool.not_eq_true',Bool.not_eq_false'] at hc1
  refine AW.ghost (GS.Aau (H2:=_::_::_::_) 2 rfl (congrArg cP (D4 hc1)) rfl) ?_
  refine AW.region (Qp Br ?_)
  refine Qe (Al (by kernel_rfl) rfl rfl ((S8 _ _ (by simpa using hS)).at (k:=2) (H2:=_::_::_::_) rfl rfl)) ?_
  rintro _ _ ⟨rfl,rfl⟩
  refine Qp (wI rfl rfl (by have:=rG (adv st);constructor <;> omega)) ?_
  refine Qp Cb ?_
  refine B0 0 [Iq _,.str _,.str _,Iq _,_,Iq _] (_::_::_::_) ?_
  refine AOL.nil (Bc (Af (Ad ?_)))
  refine AOL.Aaq (A8 (k:=0) (l:=[Iq _,.str _,.str _,Iq _,_,Iq _]) tok rfl rfl rfl rfl rfl) rfl rfl ?_
  refine B0 1 [Iq _,.str _,.str _,Iq _,_,Iq _] (_::_::_::_) ?_
  refine Aa (AW.ret ?_)
  refine ⟨.inr rfl,[.agg [Iq _,.str _,.str _,Iq _,_,Iq _]],.cons (.box _ _ _ 1 _ _ _ _ rfl rfl rfl rfl rfl rfl) <| .nil,_,.cons _ (.cons _ (.refl _)),?_⟩
  refine ⟨?_,congrArg (fun c=>HO.box bp 223 c::H) ?_⟩
  ·
   try simp only [Ae,Ez,cSyn,List.map_cons,List.map_nil,Bi,hc1,↓reduceIte,Bool.false_eq_true,Bool.not_true,Bool.not_false]
   try rfl
  ·
   try simp only [cP,Ez,hc1,↓reduceIte,Bool.false_eq_true,Bool.not_true,Bool.not_false]
   try rfl
 ·
  try simp only [Bool.not_eq_true',Bool.not_eq_false'] at hc1
  refine AW.ghost (GS.Aau (H2:=_::_::_::_) 2 rfl (congrArg cP (Ey hc1)) rfl) ?_
  refine Ad (Qp Br ?_)
  refine AOL.Aaq (Ce (k:=2) (by kernel_rfl) rfl rfl (dD _ _ _ (by simpa using hS))) rfl rfl ?_
  refine Qp A3 (Aa (Au (fun hc2=>?_) fun hc2=>?_))
  ·
   try simp only [Bool.not_eq_true',Bool.not_eq_false'] at hc2
   refine AW.region (Qp Br ?_)
   refine Qe (Al (by kernel_rfl) rfl rfl ((S8 _ _ (by simpa using hS)).at (k:=2) (H2:=_::_::_::_) rfl rfl)) ?_
   rintro _ _ ⟨rfl,rfl⟩
   refine Qp Cb ?_
   refine B0 0 [Iq _,.str _,.str _,Iq _,_,Iq _] (_::_::_::_) ?_
   refine AOL.nil (Bc (Af (Ad ?_)))
   refine AOL.Aaq (A8 (k:=0) (l:=[Iq _,.str _,.str _,Iq _,_,Iq _]) tok rfl rfl rfl rfl rfl) rfl rfl ?_
   refine B0 1 [Iq _,.str _,.str _,Iq _,_,Iq _] (_::_::_::_) ?_
   refine Aa (AW.ret ?_)
   refine ⟨.inr rfl,[.agg [Iq _,.str _,.str _,Iq _,_,Iq _]],.cons (.box _ _ _ 1 _ _ _ _ rfl rfl rfl rfl rfl rfl) <| .nil,_,.cons _ (.cons _ (.refl _)),?_⟩
   refine ⟨?_,congrArg (fun c=>HO.box bp 223 c::H) ?_⟩
   ·
    try simp only [Ae,Ez,cSyn,List.map_cons,List.map_nil,Bi,hc1,hc2,↓reduceIte,Bool.false_eq_true,Bool.not_true,Bool.not_false]
    try rfl
   ·
    try simp only [cP,Ez,hc1,hc2,↓reduceIte,Bool.false_eq_true,Bool.not_true,Bool.not_false]
    try rfl
  ·
   try simp only [Bool.not_eq_true',Bool.not_eq_false'] at hc2
   refine Ad (Qp Br ?_)
   refine Qe (Al (by kernel_rfl) rfl rfl ((C8 _ _ _ (by simpa using hS) (by first | assumption | decide)).at (k:=2) (H2:=_::_::_::_) rfl rfl)) ?_
   rintro _ _ ⟨rfl,rfl⟩
   refine Qp A3 (Aa (Au (fun hc3=>?_) fun hc3=>?_))
   ·
    try simp only [Bool.not_eq_true',Bool.not_eq_false'] at hc3
    refine AW.ghost (GS.Aau (H2:=_::_::_::_) 2 rfl (congrArg cP (D4 hc3)) rfl) ?_
    refine AW.region (Qp Cb ?_)
    refine B0 0 [Iq _,.str _,.str _,Iq _,_,Iq _] (_::_::_::_) ?_
    refine Qp Cb ?_
    refine B0 0 [Iq _,.str _,.str _,Iq _,_,Iq _] (_::_::_::_) ?_
    refine AOL.nil (Bc (Af (Ad ?_)))
    refine AOL.Aaq (A8 (k:=0) (l:=[Iq _,.str _,.str _,Iq _,_,Iq _]) tok rfl rfl rfl rfl rfl) rfl rfl ?_
    refine B0 1 [Iq _,.str _,.str _,Iq _,_,Iq _] (_::_::_::_) ?_
    refine Aa (AW.ret ?_)
    refine ⟨.inr rfl,[.agg [Iq _,.str _,.str _,Iq _,_,Iq _]],.cons (.box _ _ _ 1 _ _ _ _ rfl rfl rfl rfl rfl rfl) <| .nil,_,.cons _ (.cons _ (.refl _)),?_⟩
    refine ⟨?_,congrArg (fun c=>HO.box bp 223 c::H) ?_⟩
    ·
     try simp only [Ae,Ez,cSyn,List.map_cons,List.map_nil,Bi,hc1,hc2,hc3,↓reduceIte,Bool.false_eq_true,Bool.not_true,Bool.not_false]
     try rfl
    ·
     try simp only [cP,Ez,hc1,hc2,hc3,↓reduceIte,Bool.false_eq_true,Bool.not_true,Bool.not_false]
     try rfl
   ·
    try simp only [Bool.not_eq_true',Bool.not_eq_false'] at hc3
    refine AW.ghost (GS.Aau (H2:=_::_::_::_) 2 rfl (congrArg cP (Ey hc3)) rfl) ?_
    refine Ad (Qp Br ?_)
    refine Qe (Al (by kernel_rfl) rfl rfl ((C8 _ _ _ (by simpa using hS) (by first | assumption | decide)).at (k:=2) (H2:=_::_::_::_) rfl rfl)) ?_
    rintro _ _ ⟨rfl,rfl⟩
    refine Qp A3 (Aa (Au (fun hc4=>?_) fun hc4=>?_))
    ·
     try simp only [Bool.not_eq_true',Bool.not_eq_false'] at hc4
     refine AW.ghost (GS.Aau (H2:=_::_::_::_) 2 rfl (congrArg cP (D4 hc4)) rfl) ?_
     refine AW.region (Qp Cb ?_)
     refine B0 0 [Iq _,.str _,.str _,Iq _,_,Iq _] (_::_::_::_) ?_
     refine AOL.nil (Bc (Af (Ad ?_)))
     refine AOL.Aaq (A8 (k:=0) (l:=[Iq _,.str _,.str _,Iq _,_,Iq _]) tok rfl rfl rfl rfl rfl) rfl rfl ?_
     refine B0 1 [Iq _,.str _,.str _,Iq _,_,Iq _] (_::_::_::_) ?_
     refine Aa (AW.ret ?_)
     refine ⟨.inr rfl,[.agg [Iq _,.str _,.str _,Iq _,_,Iq _]],.cons (.box _ _ _ 1 _ _ _ _ rfl rfl rfl rfl rfl rfl) <| .nil,_,.cons _ (.cons _ (.refl _)),?_⟩
     refine ⟨?_,congrArg (fun c=>HO.box bp 223 c::H) ?_⟩
     ·
      try simp only [Ae,Ez,cSyn,List.map_cons,List.map_nil,Bi,hc1,hc2,hc3,hc4,↓reduceIte,Bool.false_eq_true,Bool.not_true,Bool.not_false]
      try rfl
     ·
      try simp only [cP,Ez,hc1,hc2,hc3,hc4,↓reduceIte,Bool.false_eq_true,Bool.not_true,Bool.not_false]
      try rfl
    ·
     try simp only [Bool.not_eq_true',Bool.not_eq_false'] at hc4
     refine AW.ghost (GS.Aau (H2:=_::_::_::_) 2 rfl (congrArg cP (Ey hc4)) rfl) ?_
     refine Ad (Qp Cb ?_)
     refine B0 0 [Iq _,.str _,.str _,Iq _,_,Iq _] (_::_::_::_) ?_
     refine Aa (AW.region (Qp Br ?_))
     refine Qe (Al (by kernel_rfl) rfl rfl ((Xb _ _ _ (by simpa using hS)).at (k:=2) (H2:=_::_::_::_) rfl rfl)) ?_
     rintro _ _ ⟨rfl,rfl⟩
     refine Qp L0 (Qp pP (Qp cF (Qp Cb ?_)))
     refine B0 0 [Iq _,.str _,.str _,Iq _,_,Iq _] (_::_::_::_) ?_
     refine AOL.nil (Bc (Af (Ad ?_)))
     refine AOL.Aaq (A8 (k:=0) (l:=[Iq _,.str _,.str _,Iq _,_,Iq _]) tok rfl rfl rfl rfl rfl) rfl rfl ?_
     refine B0 1 [Iq _,.str _,.str _,Iq _,_,Iq _] (_::_::_::_) ?_
     refine Aa (AW.ret ?_)
     refine ⟨.inr rfl,[.agg [Iq _,.str _,.str _,Iq _,_,Iq _]],.cons (.box _ _ _ 1 _ _ _ _ rfl rfl rfl rfl rfl rfl) <| .nil,_,.cons _ (.cons _ (.refl _)),?_⟩
     refine ⟨?_,congrArg (fun c=>HO.box bp 223 c::H) ?_⟩
     ·
      try simp only [Ae,Ez,cSyn,List.map_cons,List.map_nil,Bi,hc1,hc2,hc3,hc4,↓reduceIte,Bool.false_eq_true,Bool.not_true,Bool.not_false]
      try rfl
     ·
      try simp only [cP,Ez,hc1,hc2,hc3,hc4,↓reduceIte,Bool.false_eq_true,Bool.not_true,Bool.not_false]
      try rfl
theorem Zq (st:PS)(bp:Nat)(z:Syn)(bo:Nat)(hS:Ly st)(R:List HO):Bw Tryz.prog 329 (.box bp 223 (cP st) :: .box bo 25 (cSyn z)::R) [.val (.pointer (some ⟨bp,0,none⟩)),.val (.pointer (some ⟨bo,0,none⟩))] (fun r H'=>r = .tuple []∧H' = .box bp 223 (cP (aV st).2) :: .box bo 25 (cSyn { z with text:=(aV st).1.1,name:=(aV st).1.2 })::R):=by
 refine Bw.body (n:=18) tok Tryz.func329 rfl rfl rfl ?_
 refine Ad (Qp Br ?_)
 refine Qe (Al (by kernel_rfl) rfl rfl ((C5 _ _ _ (by simpa using hS) (by first | assumption | decide)).at (k:=0) (H2:=_::_::_) rfl rfl)) ?_
 rintro _ _ ⟨rfl,rfl⟩
 refine By (Qp Br (Qp Br ?_))
 refine Qe (Al (by kernel_rfl) rfl rfl ((Lb _ _ (by simpa using hS)).at (k:=0) (H2:=_::_::_) rfl rfl)) ?_
 rintro _ _ ⟨rfl,rfl⟩
 refine Qp (Ak rfl) ?_
 refine Qp Cb ?_
 refine B0 1 [Iq _,.str _,.str _,Iq _,_,Iq _] (_::_::_) ?_
 refine By (Qp Br ?_)
 refine Qe (Al (by kernel_rfl) rfl rfl ((C5 _ _ _ (by simpa using hS) (by first | assumption | decide)).at (k:=0) (H2:=_::_::_) rfl rfl)) ?_
 rintro _ _ ⟨rfl,rfl⟩
 refine Aa (AW.region (Qp Br (Qp Br ?_)))
 refine Qe (Al (by kernel_rfl) rfl rfl ((Lb _ _ (by simpa using hS)).at (k:=0) (H2:=_::_::_) rfl rfl)) ?_
 rintro _ _ ⟨rfl,rfl⟩
 refine Qp (Ak rfl) ?_
 refine Qp Cb ?_
 refine B0 1 [Iq _,.str _,.str _,Iq _,_,Iq _] (_::_::_) ?_
 refine AOL.nil ?_
 refine ⟨.inl rfl,[],.nil,_,.refl _,?_⟩
 exact ⟨rfl,rfl⟩

end Go.Proofs.YtckhoadldibflaaGreatDoor
