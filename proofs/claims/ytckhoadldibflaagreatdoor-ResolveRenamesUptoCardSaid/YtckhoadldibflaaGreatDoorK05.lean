/-
  Several texts in one: V2, V3, V4, F12, W13a. No condition.
-/
import Derived.Test.YtckhoadldibflaaGreatDoorK01
import Derived.Test.YtckhoadldibflaaGreatDoorK04
import Derived.KernelRfl
import Derived.Test.YtckhoadldibflaaGreatDoorK02
set_option linter.unusedVariables false
set_option linter.unusedSimpArgs false
namespace Go.Proofs.YtckhoadldibflaaGreatDoor
open Go Go.Aw
set_option maxHeartbeats 400000
set_option maxRecDepth 20000

theorem E5 {w:Am}{st:PS}(h:Hn w st=true):Nc w st=adv st:=by unfold Nc;rw [h];rfl
def okD (D:Int)(st:PS):Prop:=O1 st∧D≤st.depth∧st.depth≤64
def Cq (F:PS→Syn×PS):Prop:=∀st,0≤st.depth→st.depth≤64→(F st).2.toks=st.toks∧st.pos≤(F st).2.pos∧(F st).2.depth=st.depth
theorem Rg (e:Int)(st:PS):(Ft e st).depth=st.depth:=by unfold Ft;split <;> rfl
theorem iB (w:Am)(st:PS):(Nc w st).depth=st.depth:=by unfold Nc;split <;> rfl
theorem jC (w:Am)(st:PS):(Ce w st).depth=st.depth:=by unfold Ce;split;exact Rg _ _;exact iB _ _
theorem gY (k:Int)(st:PS):(Dw k st).depth=st.depth:=by unfold Dw;split;rfl;exact Rg _ _
theorem U5 {D:Int}{a b:PS}(h:a.toks=b.toks)(h2:a.depth=b.depth):okD D a↔okD D b:=by unfold okD O1;rw [h,h2]
@[simp] theorem okD_adv (D : Int) (st : PS) : okD D (adv st) ↔ okD D st := U5 rfl rfl
@[simp] theorem okD_failP (D : Int) (e : Int) (st : PS) : okD D (Ft e st) ↔ okD D st := U5 (Ls _ _) (Rg _ _)
@[simp] theorem okD_accP (D : Int) (w : Am) (st : PS) : okD D (Nc w st) ↔ okD D st := U5 (Uh _ _) (iB _ _)
@[simp] theorem okD_expP (D : Int) (w : Am) (st : PS) : okD D (Ce w st) ↔ okD D st := U5 (U7 _ _) (jC _ _)
@[simp] theorem okD_tokP (D : Int) (k : Int) (st : PS) : okD D (Dw k st) ↔ okD D st := U5 (U8 _ _) (gY _ _)
theorem Cq.okD {F:PS→Syn×PS}(h:Cq F){D:Int}(hD:0≤D){st:PS}(ho:okD D st):okD D (F st).2:=by
 obtain ⟨h1,h2,h3⟩:=ho;obtain ⟨k1,k2,k3⟩:=h st (by omega) h3;exact ⟨(Ml k1).2 h1,by omega,by omega⟩
theorem Um (e:Int)(st:PS):(Ft e st).pos=st.pos:=by unfold Ft;split <;> rfl
theorem vB (w:Am)(st:PS):st.pos≤(Nc w st).pos:=by
 unfold Nc;split
 · exact Nat.le_succ _
 exact C4 _
theorem wH (w:Am)(st:PS):st.pos≤(Ce w st).pos:=by unfold Ce;split;exact Nat.le_of_eq (Um _ _).symm;exact vB _ _
theorem xD (k:Int)(st:PS):st.pos≤(Dw k st).pos:=by unfold Dw;split;exact Nat.le_succ _;exact Nat.le_of_eq (Um _ _).symm
theorem Y9 {e:Int}(he:e≠0)(st:PS):((Ft e st).bad != 0)=true:=by
 unfold Ft;split
 · simpa using he
 rename_i h;simpa using h
def Hm (st:PS):PS:=if decide (64≤st.depth) then Ft 12 st else st
theorem Lf {F:PS→Syn×PS}{n:Nat}{st:PS}{out:List Syn}(h:0<n):Jc F n st out=if Hn Co st then Jc F (n-1) (F (adv st)).2 (out ++ [(F (adv st)).1]) else (out,st):=by
 obtain ⟨m,rfl⟩:∃m,n=m+1:=⟨n-1,by omega⟩;rfl
theorem Sv (l:List Syn):∀x∈l.map Cl,Bb x=true:=dI fun a=>by rw [Ba];rfl
theorem J2 {es:List (List AV)}{out:List Syn}{t:Syn}(h:es=out.map Cl):es ++ [cSyn t]=(out ++ [t]).map Cl:=by rw [h,aF,List.map_singleton,Ba]

theorem vM (st st2 st3:PS)(bp:Nat)(R R3:List HO)(f:Nat)(hf:Sj Tryz.prog f=true)(first cap:List AV)(hlt:st.pos<st.toks.length)(hS:O1 st)(hcl:(Hm st).bad=0→Bp Tryz.prog f (.box bp 223 (cP (adv (Hv st)))::R) (first ++ []++cap) (fun _ H'=>H' = .box bp 223 (cP st2)::R3∧st3=Hj st2))(hno:(Hm st).bad≠0→st3=Hm st∧R3=R):Bp Tryz.prog 226 (.box bp 223 (cP st)::R) [.val (.pointer (some ⟨bp,0,none⟩)),.fn (.func f) first cap] (fun r H'=>r = .tuple []∧H' = .box bp 223 (cP st3)::R3):=by
 refine Bp.body (n:=39) tok Tryz.func226 rfl rfl rfl ?_;refine Bk (Qp Bm ?_);refine Qp (Af rfl) ?_;refine Qp B7 ?_;refine AOL.Aae (Ad (k:=0) (c:=Iq _) tok rfl rfl rfl rfl) rfl rfl ?_;refine Qp H6 (Ag (Aq (fun hc1=>?_) fun hc1=>?_))
 ·
  try simp only [Dp,Eo] at hc1
  refine AW.region (Qp Bm ?_);refine lV ((cB _ _ _).at (k:=0) (H2:=_::_) rfl rfl) ?_;refine Ag (Bk (Qp Bm ?_));refine Qp (Af rfl) ?_;refine Qp B7 ?_;refine AOL.Aae (Ad (k:=0) (c:=Iq _) tok rfl rfl rfl rfl) rfl rfl ?_;refine Qp Br (Ag (Aq (fun hc2=>?_) fun hc2=>?_))
  ·
   try simp only [Dp,Eo] at hc2
   have hml:=hS.1;refine rX ?_;refine ⟨.inr rfl,[],.nil,_,.refl _,?_⟩;obtain ⟨e1,e2⟩:=hno (by unfold Hm;rw [hc1];simpa using hc2);subst e1;subst e2;exact ⟨rfl,congrArg (fun s=>HO.box bp 223 (cP s)::R3) (by unfold Hm;rw [hc1];rfl)⟩
  try simp only [Dp,Eo] at hc2
  exact absurd ((Y9 (e:=12) (by decide) st).symm.trans hc2) (by decide)
 try simp only [Dp,Eo] at hc1
 refine Bg (Bk (Qp Bm ?_));refine Qp (Af rfl) ?_;refine Qp B7 ?_;refine AOL.Aae (Ad (k:=0) (c:=Iq _) tok rfl rfl rfl rfl) rfl rfl ?_;refine Qp Br (Ag (Aq (fun hc3=>?_) fun hc3=>?_))
 ·
  try simp only [Dp,Eo] at hc3
  refine rX ?_;refine ⟨.inr rfl,[],.nil,_,.refl _,?_⟩;obtain ⟨e1,e2⟩:=hno (by unfold Hm;rw [hc1];simpa using hc3);subst e1;subst e2;exact ⟨rfl,congrArg (fun s=>HO.box bp 223 (cP s)::R3) (by unfold Hm;rw [hc1];rfl)⟩
 try simp only [Dp,Eo] at hc3
 have hml:=hS.1;have h9:(Hm st).bad=0:=by unfold Hm;rw [hc1];simpa using hc3
 refine Bg (Ae (Qp Bm ?_));refine Qp (Af rfl) ?_;refine Qp B7 ?_;refine AOL.Aae (Ad (k:=0) (c:=Iq _) tok rfl rfl rfl rfl) rfl rfl ?_;refine Qp (cK rfl rfl) ?_;refine Qp (Af rfl) ?_;refine Qp B7 ?_;refine Bt 0 ghz (_::_) ?_;refine Bs (Qp Bm ?_);refine Qp (Af rfl) ?_;refine Qp B7 ?_;refine AOL.Aae (Ad (k:=0) (c:=Iq _) tok rfl rfl rfl rfl) rfl rfl ?_;refine Qp E9 ?_;refine Qp (Af rfl) ?_;refine Qp B7 ?_;refine Bt 0 ghz (_::_) ?_;refine Bs ?_;refine Qp (A1 (v:=.fn _ _ _) rfl) ?_;refine Qe (Ix hf rfl rfl rfl (hcl h9)) ?_;rintro _ _ ⟨rfl,h3⟩;refine Ag (AW.region (Qp Bm ?_));refine Qp (Af rfl) ?_;refine Qp B7 ?_;refine AOL.Aae (Ad (k:=0) (c:=Iq _) tok rfl rfl rfl rfl) rfl rfl ?_;refine Qp (kF rfl rfl) ?_;refine Qp (Af rfl) ?_;refine Qp B7 ?_;refine Bt 0 ghz (_::_) ?_;refine AOL.nil ?_;refine ⟨.inl rfl,[],.nil,_,.refl _,?_⟩;subst h3;exact ⟨rfl,rfl⟩
theorem p_list (st:PS)(bp:Nat)(D:Int)(hD:0≤D)(f:Nat)(hf:Sj Tryz.prog f=true)(first cap:List AV)(F:PS→Syn×PS)(hF:Cq F)(hc:∀st,okD D st→Bc Tryz.prog f bp 223 (cP st) (cP (F st).2) (first ++ []++cap) (.agg (cSyn (F st).1)))(hO:okD D st):Bc Tryz.prog 163 bp 223 (cP st) (cP ((T5 F st).2)) [.val (.pointer (some ⟨bp,0,none⟩)),.fn (.func f) first cap] (.sl 6 ((T5 F st).1.map Cl)):=by
 intro H;refine Bp.body (n:=17) tok Tryz.func163 rfl rfl rfl ?_;refine Ae (Qp (Ck (z:=6) rfl) (Bs (Qp (A1 (v:=.fn _ _ _) rfl) (Rt (Ix (hf) rfl rfl rfl ((hc st hO).at (k:=0) (H2:=_::_) rfl rfl)) (Qe (F4 (es:=[Au]) tok rfl rfl rfl rfl rfl rfl rfl rfl rfl) ?_)))));rintro _ _ ⟨v8,rfl,rfl⟩;refine Qp (A6 (v:=.row _ _ _) rfl) (Re (AW.block ?_));refine AW.Aag (fun (p:Nat×PS×List Syn×List (List AV)×Value)=>(⟨[(0,.val (.pointer (some ⟨bp,0,none⟩))),(1,.fn (.func f) first cap),(5,.row p.2.2.2.2 6 p.2.2.2.1)],.row p.2.2.2.2 p.2.2.2.1.length 25 6 :: .box bp 223 (cP p.2.1)::H,17⟩:St)) (fun p=>p.2.2.2.1=p.2.2.1.map Cl∧okD D p.2.1∧A8 p.2.1≤p.1∧p.2.2.1.length≤p.2.1.pos+1∧T5 F st=Jc F p.1 p.2.1 p.2.2.1) (fun p=>p.1) ((A8 (F st).2,(F st).2,[(F st).1],[cSyn (F st).1],v8)) ?_ Cs ?_
 · exact ⟨by rw [List.map_singleton,Ba],hF.okD hD hO,C4 _,by simp,rfl⟩
 rintro p hR;have hes:p.2.2.2.1=p.2.2.1.map Cl:=hR.1;have hO2:okD D p.2.1:=hR.2.1;have hS:=hO2.1;have hfu:A8 p.2.1≤p.1:=hR.2.2.1;have hn:0<p.1:=by unfold A8 at hfu;omega
 have hol:p.2.2.1.length≤p.2.1.pos+1:=hR.2.2.2.1;have hsc:∀c∈p.2.2.2.1,Bb c=true:=by rw [hes];exact Sv _
 have hel:p.2.2.2.1.length=p.2.2.1.length:=by rw [hes,Dx]
 refine Bk (Qp Bm ?_);refine Rt (Cu rfl ((Df _ _ _ (by simpa using hS) (by first | assumption | decide)).at (k:=1) (H2:=_::_::_) rfl rfl)) ?_;refine Ag (Aq (fun hc1=>?_) fun hc1=>?_)
 ·
  try simp only [Dp,Eo] at hc1
  have hlt:=Wb hc1;have hml:=hS.1;have hFa:=hF (adv p.2.1) (by have:=hO2.2.1;show (0:Int)≤p.2.1.depth;omega) hO2.2.2;have hps:p.2.1.pos+1≤(F (adv p.2.1)).2.pos:=hFa.2.1;have hts:(F (adv p.2.1)).2.toks=p.2.1.toks:=hFa.1;refine AW.ghost (GS.Aai (H2:=_::_::_) 1 rfl (congrArg cP (E5 hc1)) rfl) ?_;refine Bg (AW.block (AW.region (Qp (A1 (v:=.row _ _ _) rfl) (Qp (A1 (v:=.fn _ _ _) rfl) ?_))));refine Rt (Ix (hf) rfl rfl rfl ((hc _ (by simpa using hO2)).at (k:=1) (H2:=_::_::_) rfl rfl)) ?_;refine Qp (Aj (es:=[Au]) tok rfl rfl rfl rfl rfl rfl rfl rfl rfl) ?_;refine Qe (Dh (k:=0) tok rfl rfl rfl rfl rfl rfl rfl rfl (Gu rfl) (hsc) (by simp;omega) (by simp [maxLen];omega)) ?_;rintro _ _ ⟨v15,rfl,rfl⟩;refine Qp (A6 (v:=.row _ _ _) rfl) (Rk ?_);refine ⟨(p.1-1,(F (adv p.2.1)).2,p.2.2.1 ++ [(F (adv p.2.1)).1],p.2.2.2.1 ++ [cSyn (F (adv p.2.1)).1],v15),?_,?_,Cs⟩
  · exact ⟨J2 hes,hF.okD hD (by simpa using hO2),by unfold A8 at hfu ⊢;rw [hts];simp only;omega,by simp only [D9,Zl];omega,hR.2.2.2.2.trans (by rw [Lf hn,if_pos hc1])⟩
  simp only;omega
 try simp only [Dp,Eo] at hc1
 refine AW.ghost (GS.Aai (H2:=_::_::_) 1 rfl (congrArg cP (Fy hc1)) rfl) ?_;refine AW.exit ?_;refine Bq (Ri (Ae ?_));refine AOL.ghost (GS.unrow 5 rfl) ?_;refine Qp G4 (Qp eN (Rb ?_));refine ⟨.inr rfl,[.sl _ _],.cons (.tmp _ _ rfl) <| .nil,_,.cons _ (.refl _),?_⟩;have h9:T5 F st=(p.2.2.1,p.2.1):=hR.2.2.2.2.trans (by rw [Lf hn,iN hc1]);exact ⟨by rw [h9,←hes];rfl,congrArg (fun s=>HO.box bp 223 (cP s)::H) (by rw [h9])⟩
set_option maxHeartbeats 1600000
set_option maxRecDepth 20000

abbrev cSg (s:Am×Int):List AV:=[.str s.1,.int .i64 s.2]
theorem sg_at {sg:List (Am×Int)}{k:Nat}{s:Am×Int}(h:sg[k]? = some s):(sg.map cSg)[k]? = some [.str s.1,.int .i64 s.2]:=by rw [List.getElem?_map,h];rfl
theorem Ti {α:Type}{p:α→Bool}:∀{l:List α} {k:Nat} {x:α},(∀j y,j<k→l[j]? = some y→p y=false)→l[k]? = some x→p x=true→l.find? p=some x
  | [],k,x,_,h,_=>by simp at h
  | a::l,0,x,_,h,hp=>by
    simp only [List.getElem?_cons_zero,Option.some.injEq] at h;subst h;rw [List.find?_cons,hp]
  | a::l,k+1,x,hn,h,hp=>by
    rw [List.find?_cons,hn 0 a (by omega) rfl];exact Ti (l:=l) (k:=k) (fun j y hj hy=>hn (j+1) y (by omega) hy) h hp
theorem bK {α:Type}{p:α→Bool}{l:List α}(hn:∀j y,j<l.length→l[j]? = some y→p y=false):l.find? p=none:=by
 rw [List.find?_eq_none];intro x hx;obtain ⟨k,hk⟩:=List.getElem?_of_mem hx;have:=hn k x (List.getElem?_eq_some_iff.1 hk).1 hk;rw [this];decide
theorem Vp {F:PS→Syn×PS}{sg:List (Am×Int)}{n:Nat}{st:PS}{out:Syn}(h:0<n):Oh F sg n st out=match sg.find? (fun s=>Hn s.1 st) with
  | some s=>Oh F sg (n-1) (F (adv st)).2 (Kr s.2 out (F (adv st)).1 out.pos)
  | none=>(out,st):=by
 obtain ⟨m,rfl⟩:∃m,n=m+1:=⟨n-1,by omega⟩;rfl

theorem Jm (op:Int)(x y:Syn)(k:Int):Ap Tryz.prog 287 [.int .i64 op,.agg (cSyn x),.agg (cSyn y),.int .i64 k] (.agg (cSyn (Kr op x y k))):=by
 refine Ap.body (n:=15) tok Tryz.func287 rfl rfl rfl fun H=>?_
 refine Ae (Qp (Gc Au) (Qp (Gc Au) (Ed Kz fun b8=>Bs (Qp Ao (Qp (B0 Au) (Qp (B0 Au) (Qp (Aj (es:=[Au,Au]) tok rfl rfl rfl rfl rfl rfl rfl rfl rfl) (Qp Ao (Qp (E4 Au) ?_)))))))));refine Bt 0 Au (_::_) (Rb ?_);refine ⟨.inr rfl,[.agg Au],.cons (.box _ _ _ 0 _ _ _ _ rfl rfl rfl rfl rfl rfl) <| .nil,.cons _ (.refl _),?_⟩;exact congrArg (fun l=>AV.agg [.int .i64 17,.str [],.str [],.int .i64 op,.sl 6 l,.int .i64 k]) (by rw [Dn,Dn,C8,Ba,Ba]:[cSyn x,cSyn y] = [x,y].map Cl)
theorem cY (st:PS)(bp:Nat)(D:Int)(hD:0≤D)(f:Nat)(hf:Sj Tryz.prog f=true)(first cap:List AV)(F:PS→Syn×PS)(hF:Cq F)(hc:∀st,okD D st→Bc Tryz.prog f bp 223 (cP st) (cP (F st).2) (first ++ []++cap) (.agg (cSyn (F st).1)))(hO:okD D st)(sg:List (Am×Int))(hsg:∀s∈sg,s.1.length≤1048576)(hsl:sg.length≤100):Bc Tryz.prog 229 bp 223 (cP st) (cP ((Ps F sg st).2)) [.val (.pointer (some ⟨bp,0,none⟩)),.fn (.func f) first cap,.sl 2 (sg.map cSg)] (.agg (cSyn (Ps F sg st).1)):=by
 intro H;refine Bp.body (n:=34) tok Tryz.func229 rfl rfl rfl ?_;refine Ae (Ed Kz fun b6=>Bs (Qp (A1 (v:=.fn _ _ _) rfl) (Rt (Ix (hf) rfl rfl rfl ((hc st hO).at (k:=1) (H2:=_::_::_) rfl rfl)) (Ed Kz fun b7=>?_))));refine Bt 0 Au (_::_::_::_) (Ag (Bk (Qp A0 (Ag (AW.block ?_)))));refine AW.Aag (fun (p:Nat×PS×Syn×Bool)=>(⟨[(0,.val (.pointer (some ⟨bp,0,none⟩))),(1,.fn (.func f) first cap),(2,.sl 2 (sg.map cSg)),(6,.val (.pointer (some ⟨b6,0,none⟩))),(7,.val (.pointer (some ⟨b7,0,none⟩))),(8,.bool p.2.2.2)],.box b7 25 (cSyn p.2.2.1) :: .box b6 25 (cSyn Mz) :: .box bp 223 (cP p.2.1)::H,34⟩:St)) (fun p=>okD D p.2.1∧A8 p.2.1≤p.1∧(p.2.2.2=true→Ps F sg st=Oh F sg p.1 p.2.1 p.2.2.1)∧(p.2.2.2=false→Ps F sg st=(p.2.2.1,p.2.1))) (fun p=>(if p.2.2.2 then p.1+1 else 0)) ((A8 (F st).2,(F st).2,(F st).1,true)) ?_ Cs ?_
 · exact ⟨hF.okD hD hO,C4 _,fun _=>rfl,fun h=>(by cases h)⟩
 rintro p hR;have hO2:okD D p.2.1:=hR.1;have hS:=hO2.1;have hfu:A8 p.2.1≤p.1:=hR.2.1;have hn:0<p.1:=by unfold A8 at hfu;omega
 refine Bk (Qp A9 (Ag (Aq (fun hc1=>?_) fun hc1=>?_)))
 ·
  try simp only [Dp,Eo] at hc1
  refine Bg (AW.block (Ae (Qp A0 (Bs (Qp G4 ?_)))));refine Qp (Ah (n:=sg.length) tok rfl rfl rfl (by simp)) ?_;refine Qp Ao (Ag (AW.block ?_));refine AW.Aag (fun (k:Nat)=>(⟨[(0,.val (.pointer (some ⟨bp,0,none⟩))),(1,.fn (.func f) first cap),(2,.sl 2 (sg.map cSg)),(6,.val (.pointer (some ⟨b6,0,none⟩))),(7,.val (.pointer (some ⟨b7,0,none⟩))),(8,.bool false),(14,.sl 2 (sg.map cSg)),(15,.int .i64 (sg.length:Int)),(16,.int .i64 (k:Int))],.box b7 25 (cSyn p.2.2.1) :: .box b6 25 (cSyn Mz) :: .box bp 223 (cP p.2.1)::H,34⟩:St)) (fun k=>k≤sg.length∧∀j y,j<k→sg[j]? = some y→Hn y.1 p.2.1=false) (fun k=>sg.length-k) (0) ?_ Cs ?_
  · exact ⟨E2 _,fun j y hj=>absurd hj (Nat.not_lt_zero _)⟩
  rintro k hK;refine Ae (Qp Bx (Re (Aq (fun hc2=>?_) fun hc2=>?_)))
  ·
   try simp only [Dp,Eo] at hc2
   have hk:k<sg.length:=by simpa using hc2
   refine (get_ex hk).elim fun x hx=>?_
   have hwx:x.1.length≤1048576:=hsg x (B4 hx);refine Bg (AW.seq (AW.block (Ae ?_)));refine Qp (Aa (c:=Jz) tok rfl rfl rfl rfl rfl rfl (by omega) (sg_at hx)) ?_;refine Qp (B0 Jz) (Ed [.str [],.int .i64 0] fun b10=>?_);refine Bt 0 Jz (_::_::_::_::_) ?_;refine AOL.ghost (GS.freeze (t:=10) 0 rfl rfl) ?_;refine Bs (Qp Bm (Qp (Qf Jz) (Qp Hc ?_)));refine Rt (Cu rfl ((Df _ _ _ (by simpa using hS) (by first | assumption | decide)).at (k:=2) (H2:=_::_::_::_) rfl rfl)) ?_;refine Ag (Aq (fun hc3=>?_) fun hc3=>?_)
   ·
    try simp only [Dp,Eo] at hc3
    have hfd:sg.find? (fun s=>Hn s.1 p.2.1)=some x:=Ti hK.2 hx hc3;have hlt:=Wb hc3;have hml:=hS.1;have hFa:=hF (adv p.2.1) (by have:=hO2.2.1;show (0:Int)≤p.2.1.depth;omega) hO2.2.2;have hps:p.2.1.pos+1≤(F (adv p.2.1)).2.pos:=hFa.2.1;have hts:(F (adv p.2.1)).2.toks=p.2.1.toks:=hFa.1;refine AW.ghost (GS.Aai (H2:=_::_::_::_) 2 rfl (congrArg cP (E5 hc3)) rfl) ?_;refine AW.seq ?_;refine AW.draw mixed (fun H'=>_∈H') (B4 (i:=0) rfl) (by kernel_rfl) ?_;refine Qn 0 rfl (Qf [Iq _]) (Qn 1 rfl Bi (Qn 2 rfl (OpP.Aah (fun k=>Ax (k:=k) (l:=Au) tok rfl rfl rfl rfl rfl) (fun _ h=>h)) ?_));refine Qn 3 rfl (A1 (v:=.fn _ _ _) rfl) (Qn 5 rfl B7 (Qn 6 rfl (OpP.Aah (fun k=>Ad (k:=k) (c:=Iq _) tok rfl rfl rfl rfl) (fun _ h=>h)) ?_));refine Gz.eff _ _ 4 _ _ rfl (by kernel_rfl) rfl rfl (Ix (hf) rfl rfl rfl ((hc _ (by simpa using hO2)).at (k:=2) (H2:=_::_::_::_) rfl rfl)) (by rintro _ _ ⟨rfl,rfl⟩;simp) ?_;rintro _ _ ⟨rfl,rfl⟩;refine Qn 7 rfl (Qc rfl (Jm _ _ _ _)) ?_;refine Gz.last _ _ 8 _ _ rfl (by kernel_rfl) rfl rfl (Bf (k:=0) (v:=.agg _) (cs':=Au) (H2:=_::_::_::_) tok rfl rfl rfl rfl (rfl) rfl rfl rfl rfl) (by kernel_rfl) ?_;rintro _ _ ⟨rfl,rfl⟩;refine Bh (Ae (Qp A0 (Ag (AW.exit ?_))));refine blkMiss rfl ?_;refine Bq (Bq (Sm (I6 (Bh ?_))));refine ⟨(p.1-1,(F (adv p.2.1)).2,Kr x.2 p.2.2.1 (F (adv p.2.1)).1 p.2.2.1.pos,true),?_,?_,Cs⟩
    · exact ⟨hF.okD hD (by simpa using hO2),by unfold A8 at hfu ⊢;rw [hts];simp only;omega,fun _=>(hR.2.2.1 hc1).trans (by rw [Vp hn,hfd]),fun h=>(by cases h)⟩
    simp only [hc1,↓reduceIte,Bz];omega
   try simp only [Dp,Eo] at hc3
   refine AW.ghost (GS.Aai (H2:=_::_::_::_) 2 rfl (congrArg cP (Fy hc3)) rfl) ?_;refine Rf (AW.region (Qp E9 (Qp Ao (Ag ?_))));refine ⟨k+1,?_,?_,Cs⟩
   · exact ⟨hk,fun j y hj hy=>by rcases Nat.lt_succ_iff_lt_or_eq.1 hj with h | rfl;exact hK.2 j y h hy;rw [hx] at hy;cases hy;exact hc3⟩
   omega
  try simp only [Dp,Eo] at hc2
  have hkn:¬k<sg.length:=by simpa using hc2
  have hfd:sg.find? (fun s=>Hn s.1 p.2.1)=none:=bK fun j y hj hy=>hK.2 j y (by omega) hy
  refine AW.exit ?_;refine Bq (Bq (Sm (I6 (Bh ?_))));refine ⟨(p.1,p.2.1,p.2.2.1,false),?_,?_,Cs⟩
  · exact ⟨hO2,hfu,fun h=>(by cases h),fun _=>(hR.2.2.1 hc1).trans (by rw [Vp hn,hfd])⟩
  simp only [hc1,↓reduceIte,Bz];omega
 try simp only [Dp,Eo] at hc1
 refine AW.exit ?_;refine Bq (Ri (Ae ?_));refine AOL.Aae (Ax (k:=0) (l:=Au) tok rfl rfl rfl rfl rfl) rfl rfl ?_;refine Bt 1 Au (_::_::_::_) (Rb ?_);refine ⟨.inr rfl,[.agg Au],.cons (.box _ _ _ 1 _ _ _ _ rfl rfl rfl rfl rfl rfl) <| .nil,_,.cons _ (.cons _ (.refl _)),?_⟩;have h9:=hR.2.2.2 hc1;exact ⟨by rw [h9];rfl,congrArg (fun s=>HO.box bp 223 (cP s)::H) (by rw [h9])⟩
set_option maxHeartbeats 800000
set_option maxRecDepth 20000

theorem u8_all' {p:UInt8→Bool}(h:(List.range 256).all (fun n=>p (UInt8.ofNat n))=true)(c:UInt8):p c=true:=by
 rw [Z2] at h;have:=h c.toNat (T4.2 c.toNat_lt)
 rwa [UInt8.ofNat_toNat] at this
def kindW:List Am:=[G8,F0,Gl]
abbrev fS (st:PS):PS:=Ce Js (Dw 0 st)
theorem gS:∀(s:Am) (n:Int),0≤n→n≤1099511627776→0≤(L6 s n).1∧(L6 s n).1≤1099511627776
  | [],n,h0,h1=>⟨h0,h1⟩
  | c::r,n,h0,h1=>by
    unfold L6;split
    · decide
    · rename_i h
      have hd:0≤rV c:=by
        have:=u8_all' (p:=fun c=>decide (0≤rV c)) (by kernel_rfl) c;exact Ir this
      simp only [H5,Int.not_lt] at h;exact gS r _ (by omega) h
theorem numP_le (st:PS):0≤Yq st∧Yq st≤1099511627776:=by
 unfold Yq;split
 ·
  unfold Z9;split
  · decide
  exact gS _ _ (by decide) (by decide)
 decide
theorem Yd (st:PS)(bp:Nat)  (hS:O1 st):Bc Tryz.prog 330 bp 223 (cP st) (cP ((F5 st).2)) [.val (.pointer (some ⟨bp,0,none⟩))] (.agg (cSyn (F5 st).1)):=by
 intro H;refine Bp.body (n:=37) tok Tryz.func330 rfl rfl rfl ?_;refine Ae (Ed Kz fun b2=>Bs (Qp Bm ?_));refine AOL.Aae (Cj (k:=1) (by kernel_rfl) rfl rfl (J4 _ _)) rfl rfl ?_;refine Qp (E4 Au) (Ed Kz fun b3=>?_);refine Bt 0 Au (_::_::_::_) (Re (AW.block (Ae (Qp Bm ?_))));refine Rt (Cu rfl ((Df _ _ _ (by simpa using hS) (by decide)).at (k:=2) (H2:=_::_::_::_) rfl rfl)) ?_;refine Qp A0 (Ag (Aq (fun hc1=>?_) fun hc1=>?_))
 ·
  try simp only [Dp,Eo] at hc1
  refine AW.ghost (GS.Aai (H2:=_::_::_::_) 2 rfl (congrArg cP (E5 hc1)) rfl) ?_;refine AW.region (Qp Bm ?_);refine Rt (Cu rfl ((Yy _ _ (by simpa using hS)).at (k:=2) (H2:=_::_::_::_) rfl rfl)) ?_;refine Qp (P_neg rfl rfl (by have:=numP_le (adv st);constructor <;> omega)) ?_;refine Qp B7 ?_;refine Bt 0 Au (_::_::_::_) (Rk (Ae (AOL.Aae (Ax (k:=0) (l:=Au) tok rfl rfl rfl rfl rfl) rfl rfl ?_)));refine Bt 1 Au (_::_::_::_) (Rb ?_);refine ⟨.inr rfl,[.agg Au],.cons (.box _ _ _ 1 _ _ _ _ rfl rfl rfl rfl rfl rfl) <| .nil,_,.cons _ (.cons _ (.refl _)),?_⟩;refine ⟨?_,congrArg (fun c=>HO.box bp 223 c::H) ?_⟩
  ·
   try simp only [Ai,F5,cSyn,Dn,C8,Ba,hc1,↓reduceIte,Bz,Ew,Ef]
   try rfl
  try simp only [cP,F5,hc1,↓reduceIte,Bz,Ew,Ef]
  try rfl
 try simp only [Dp,Eo] at hc1
 refine AW.ghost (GS.Aai (H2:=_::_::_::_) 2 rfl (congrArg cP (Fy hc1)) rfl) ?_;refine Ae (Qp Bm ?_);refine AOL.Aae (Cj (k:=2) (by kernel_rfl) rfl rfl (lD _ _ _ (by simpa using hS))) rfl rfl ?_;refine Qp A0 (Ag (Aq (fun hc2=>?_) fun hc2=>?_))
 ·
  try simp only [Dp,Eo] at hc2
  refine AW.region (Qp Bm ?_);refine Rt (Cu rfl ((Yy _ _ (by simpa using hS)).at (k:=2) (H2:=_::_::_::_) rfl rfl)) ?_;refine Qp B7 ?_;refine Bt 0 Au (_::_::_::_) (Rk (Ae (AOL.Aae (Ax (k:=0) (l:=Au) tok rfl rfl rfl rfl rfl) rfl rfl ?_)));refine Bt 1 Au (_::_::_::_) (Rb ?_);refine ⟨.inr rfl,[.agg Au],.cons (.box _ _ _ 1 _ _ _ _ rfl rfl rfl rfl rfl rfl) <| .nil,_,.cons _ (.cons _ (.refl _)),?_⟩;refine ⟨?_,congrArg (fun c=>HO.box bp 223 c::H) ?_⟩
  ·
   try simp only [Ai,F5,cSyn,Dn,C8,Ba,hc1,hc2,↓reduceIte,Bz,Ew,Ef]
   try rfl
  try simp only [cP,F5,hc1,hc2,↓reduceIte,Bz,Ew,Ef]
  try rfl
 try simp only [Dp,Eo] at hc2
 refine Ae (Qp Bm ?_);refine Rt (Cu rfl ((Df _ _ _ (by simpa using hS) (by decide)).at (k:=2) (H2:=_::_::_::_) rfl rfl)) ?_;refine Qp A0 (Ag (Aq (fun hc3=>?_) fun hc3=>?_))
 ·
  try simp only [Dp,Eo] at hc3
  refine AW.ghost (GS.Aai (H2:=_::_::_::_) 2 rfl (congrArg cP (E5 hc3)) rfl) ?_;refine AW.region (Qp B7 ?_);refine Bt 0 Au (_::_::_::_) (Qp B7 ?_);refine Bt 0 Au (_::_::_::_) (Rk (Ae (AOL.Aae (Ax (k:=0) (l:=Au) tok rfl rfl rfl rfl rfl) rfl rfl ?_)));refine Bt 1 Au (_::_::_::_) (Rb ?_);refine ⟨.inr rfl,[.agg Au],.cons (.box _ _ _ 1 _ _ _ _ rfl rfl rfl rfl rfl rfl) <| .nil,_,.cons _ (.cons _ (.refl _)),?_⟩;refine ⟨?_,congrArg (fun c=>HO.box bp 223 c::H) ?_⟩
  ·
   try simp only [Ai,F5,cSyn,Dn,C8,Ba,hc1,hc2,hc3,↓reduceIte,Bz,Ew,Ef]
   try rfl
  try simp only [cP,F5,hc1,hc2,hc3,↓reduceIte,Bz,Ew,Ef]
  try rfl
 try simp only [Dp,Eo] at hc3
 refine AW.ghost (GS.Aai (H2:=_::_::_::_) 2 rfl (congrArg cP (Fy hc3)) rfl) ?_;refine Ae (Qp Bm ?_);refine Rt (Cu rfl ((Df _ _ _ (by simpa using hS) (by decide)).at (k:=2) (H2:=_::_::_::_) rfl rfl)) ?_;refine Qp A0 (Ag (Aq (fun hc4=>?_) fun hc4=>?_))
 ·
  try simp only [Dp,Eo] at hc4
  refine AW.ghost (GS.Aai (H2:=_::_::_::_) 2 rfl (congrArg cP (E5 hc4)) rfl) ?_;refine AW.region (Qp B7 ?_);refine Bt 0 Au (_::_::_::_) (Rk (Ae (AOL.Aae (Ax (k:=0) (l:=Au) tok rfl rfl rfl rfl rfl) rfl rfl ?_)));refine Bt 1 Au (_::_::_::_) (Rb ?_);refine ⟨.inr rfl,[.agg Au],.cons (.box _ _ _ 1 _ _ _ _ rfl rfl rfl rfl rfl rfl) <| .nil,_,.cons _ (.cons _ (.refl _)),?_⟩;refine ⟨?_,congrArg (fun c=>HO.box bp 223 c::H) ?_⟩
  ·
   try simp only [Ai,F5,cSyn,Dn,C8,Ba,hc1,hc2,hc3,hc4,↓reduceIte,Bz,Ew,Ef]
   try rfl
  try simp only [cP,F5,hc1,hc2,hc3,hc4,↓reduceIte,Bz,Ew,Ef]
  try rfl
 try simp only [Dp,Eo] at hc4
 refine AW.ghost (GS.Aai (H2:=_::_::_::_) 2 rfl (congrArg cP (Fy hc4)) rfl) ?_;refine Ae (Qp B7 ?_);refine Bt 0 Au (_::_::_::_) (Ag (AW.region (Qp Bm ?_)));refine Rt (Cu rfl ((dU _ _ _ (by simpa using hS)).at (k:=2) (H2:=_::_::_::_) rfl rfl)) ?_;refine Qp N4 (Qp Qxt (Qp eU (Qp B7 ?_)));refine Bt 0 Au (_::_::_::_) (Rk (Ae (AOL.Aae (Ax (k:=0) (l:=Au) tok rfl rfl rfl rfl rfl) rfl rfl ?_)));refine Bt 1 Au (_::_::_::_) (Rb ?_);refine ⟨.inr rfl,[.agg Au],.cons (.box _ _ _ 1 _ _ _ _ rfl rfl rfl rfl rfl rfl) <| .nil,_,.cons _ (.cons _ (.refl _)),?_⟩;refine ⟨?_,congrArg (fun c=>HO.box bp 223 c::H) ?_⟩
 ·
  try simp only [Ai,F5,cSyn,Dn,C8,Ba,hc1,hc2,hc3,hc4,↓reduceIte,Bz,Ew,Ef]
  try rfl
 try simp only [cP,F5,hc1,hc2,hc3,hc4,↓reduceIte,Bz,Ew,Ef]
 try rfl
theorem iW (st:PS)(bp:Nat)(z:Syn)(bo:Nat)(hS:O1 st)(R:List HO):Bp Tryz.prog 329 (.box bp 223 (cP st) :: .box bo 25 (cSyn z)::R) [.val (.pointer (some ⟨bp,0,none⟩)),.val (.pointer (some ⟨bo,0,none⟩))] (fun r H'=>r = .tuple []∧H' = .box bp 223 (cP (lF st).2) :: .box bo 25 (cSyn { z with text:=(lF st).1.1,name:=(lF st).1.2 })::R):=by
 refine Bp.body (n:=18) tok Tryz.func329 rfl rfl rfl ?_;refine Ae (Qp Bm ?_);refine Rt (Cu rfl ((Dc _ _ _ (by simpa using hS) (by decide)).at (k:=0) (H2:=_::_::_) rfl rfl)) ?_;refine Bs (Qp Bm (Qp Bm ?_));refine Rt (Cu rfl ((N5 _ _ (by simpa using hS)).at (k:=0) (H2:=_::_::_) rfl rfl)) ?_;refine Qp (Af rfl) (Qp B7 ?_);refine Bt 1 Au (_::_::_) (Bs (Qp Bm ?_));refine Rt (Cu rfl ((Dc _ _ _ (by simpa using hS) (by decide)).at (k:=0) (H2:=_::_::_) rfl rfl)) ?_;refine Ag (AW.region (Qp Bm (Qp Bm ?_)));refine Rt (Cu rfl ((N5 _ _ (by simpa using hS)).at (k:=0) (H2:=_::_::_) rfl rfl)) ?_;refine Qp (Af rfl) (Qp B7 ?_);refine Bt 1 Au (_::_::_) (AOL.nil ?_);refine ⟨.inl rfl,[],.nil,_,.refl _,?_⟩;exact ⟨rfl,rfl⟩


def I5 (a b:PS):Prop:=b.toks=a.toks∧a.pos≤b.pos∧b.depth=a.depth
theorem I5.refl (a:PS):I5 a a:=⟨rfl,C4 _,rfl⟩
theorem I5.trans {a b c:PS}(h:I5 a b)(k:I5 b c):I5 a c:=⟨k.1.trans h.1,Kx h.2.1 k.2.1,k.2.2.trans h.2.2⟩
theorem I5.adv (a:PS):I5 a (adv a):=⟨rfl,Nat.le_succ _,rfl⟩
theorem I5.fail (e:Int)(a:PS):I5 a (Ft e a):=⟨Ls _ _,Nat.le_of_eq (Um _ _).symm,Rg _ _⟩
theorem I5.exp (w:Am)(a:PS):I5 a (Ce w a):=⟨U7 _ _,wH _ _,jC _ _⟩
theorem I5.tok (k:Int)(a:PS):I5 a (Dw k a):=⟨U8 _ _,xD _ _,gY _ _⟩
def mC (a:PS):Prop:=0≤a.depth∧a.depth≤64
theorem I5.rng {a b:PS}(h:I5 a b)(r:mC a):mC b:=by unfold mC;rw [h.2.2];exact r
theorem Cq.goes {F:PS→Syn×PS}(h:Cq F){a:PS}(r:mC a):I5 a (F a).2:=h a r.1 r.2
theorem I5.read {F:PS→Syn×PS}(h:Cq F){a b:PS}(r:mC a)(k:I5 a b):I5 a (F b).2:=k.trans (h.goes (k.rng r))
theorem Cq.of {F:PS→Syn×PS}(h:∀st,mC st→I5 st (F st).2):Cq F:=fun st h0 h1=>h st ⟨h0,h1⟩

theorem O7 {F:PS→Syn×PS}(hF:Cq F):∀(n:Nat) (st:PS) (out:List Syn),mC st→I5 st (Jc F n st out).2
  | 0,st,out,r=>.refl _
  | n+1,st,out,r=>by
    unfold Jc;split
    · have h:=I5.read hF r (.adv st)
      exact h.trans (O7 hF n _ _ (h.rng r))
    exact .refl _
theorem bE {F:PS→Syn×PS}(hF:Cq F){st:PS}(r:mC st):I5 st (T5 F st).2:=by
 have h:=hF.goes r;exact h.trans (O7 hF _ _ _ (h.rng r))
theorem Yt (st:PS):I5 st (F5 st).2:=by
 unfold F5;split
 · exact (I5.adv _).trans (.tok _ _)
 split
 · exact .tok _ _
 split
 · exact .adv _
 split
 · exact .adv _
 exact .tok _ _
theorem fine_const:Cq F5:=.of fun st _=>Yt st
theorem Yf (st:PS):I5 st (lF st).2:=((((I5.exp _ _).trans (.tok _ _)).trans (.exp _ _)).trans (.tok _ _))
@[simp] theorem okS_insP (st : PS) : O1 (lF st).2 ↔ O1 st := Ml (Yf st).1
@[simp] theorem okS_constP (st : PS) : O1 (F5 st).2 ↔ O1 st := Ml (Yt st).1
theorem cZ {n:Int}(h0 : -1000≤n)(h1:n≤1000):IntKind.i64.wrap n=n:=by
 unfold IntKind.wrap IntKind.signed IntKind.bits;simp only [↓reduceIte,Lk,H5,ge_iff_le];split <;> omega
theorem U9 {read:Syn→PS→Syn×PS}{z:Syn}{st:PS}(r:mC st)(h:∀s:PS,mC s→I5 s (read z s).2):I5 st (L4 read z st).2:=by
 have hf:I5 st (Hm st):=by
  unfold Hm;split
  · exact .fail _ _
  exact .refl _
 have e0:L4 read z st=if ((Hm st).bad != 0) then (z,Hm st) else ((read z (adv (Hv st))).1,Hj (read z (adv (Hv st))).2):=rfl
 rw [e0];split
 · exact hf
 rename_i hb;by_cases hd:64≤st.depth
 ·
  exfalso
  apply hb
  unfold Hm;rw [if_pos (decide_eq_true hd)];exact Y9 (by decide) _
 have e1:(Hv st).depth=st.depth+1:=cZ (by have:=r.1;omega) (by omega);have k:=h (adv (Hv st)) ⟨show 0≤(Hv st).depth by rw [e1];have:=r.1;omega,show (Hv st).depth≤64 by rw [e1];omega⟩;refine ⟨k.1,Kx (Nat.le_succ _) k.2.1,?_⟩;show IntKind.i64.wrap ((read z (adv (Hv st))).2.depth-1)=st.depth;rw [k.2.2,show (adv (Hv st)).depth=(Hv st).depth from rfl,e1,cZ (by have:=r.1;omega) (by omega)];omega
theorem bT {E:PS→Syn×PS}(hE:Cq E):Cq (In E):=.of fun st r=>by
 unfold In;split
 · exact U9 r fun s r=>(hE.goes r).trans (.exp _ _)
 split
 ·
  simp only;have h:=((I5.adv st).trans (Yf _)).trans (.exp Co _);exact (h.trans (fine_const.goes (h.rng r))).trans (.exp _ _)
 split
 · exact ((I5.adv st).trans (Yf _)).trans (.exp _ _)
 split
 · exact (((I5.adv st).trans (.exp _ _)).trans (.tok _ _)).trans (.exp _ _)
 split
 ·
  simp only;split
  · exact ((I5.tok _ _).trans (.exp _ _)).trans (.adv _)
  exact ((I5.tok _ _).trans (.exp _ _)).trans (.tok _ _)
 exact fine_const.goes r
theorem Tc {F:PS→Syn×PS}(hF:Cq F){sg:List (Am×Int)}:∀(n:Nat) (st:PS) (out:Syn),mC st→I5 st (Oh F sg n st out).2
  | 0,st,out,r=>.refl _
  | n+1,st,out,r=>by
    unfold Oh;split
    · have h:=I5.read hF r (.adv st)
      exact h.trans (Tc hF n _ _ (h.rng r))
    exact .refl _
theorem Nn {F:PS→Syn×PS}(hF:Cq F)(sg:List (Am×Int)):Cq (Ps F sg):=.of fun st r=>by
 have h:=hF.goes r;exact h.trans (Tc hF _ _ _ (h.rng r))
theorem Zq {E:PS→Syn×PS}(hE:Cq E):Cq (Jh E):=Nn (bT hE) sumL
theorem uK {E:PS→Syn×PS}(hE:Cq E):Cq (M2 E):=.of fun st r=>by
 have h:=(Zq hE).goes r;have h2:=(h.trans (.adv _)).trans ((Zq hE).goes ((h.trans (.adv _)).rng r));unfold M2;simp only
 repeat' split
 all_goals first | exact h2 | exact h
theorem Pb {E N:PS→Syn×PS}(hE:Cq E)(hN:Cq N):Cq (Wq E N):=.of fun st r=>by
 unfold Wq;split
 · exact (uK hE).goes r
 exact U9 r fun s r=>hN.goes r
theorem nY {E N:PS→Syn×PS}(hE:Cq E)(hN:Cq N):Cq (orP E N):=Nn (Nn (Pb hE hN) andL) orL
theorem Gk:Cq D2:=.of fun st _=>.refl _
theorem Iv:∀n,Cq (Ry n).1∧Cq (Ry n).2
 | 0=>⟨Pb Gk Gk,nY Gk Gk⟩
 | n+1=>⟨Pb (Iv n).2 (Iv n).1,nY (Iv n).2 (Iv n).1⟩
theorem Xy {E:PS→Syn×PS}(hE:Cq E):Cq (J9 E):=.of fun st r=>by
 have h:I5 st (Dw 0 (Dw 0 st)):=(I5.tok _ _).trans (.tok _ _);unfold J9;simp only;split
 · exact I5.read hE r (h.trans (.adv _))
 exact h
theorem uA {T:PS→Syn×PS}(hT:Cq T)(z:Syn){st:PS}(r:mC st):I5 st (fB T z st).2:=by
 have h:=I5.read hT r (.exp Co st);exact h.trans (O7 hT _ _ _ (h.rng r))
theorem aV {E T:PS→Syn×PS}(hE:Cq E)(hT:Cq T)(k:Int)(z:Syn){st:PS}(r:mC st):I5 st (Gd E T k z st).2:=by
 unfold Gd;split
 · exact uA hT z r
 split
 · exact .refl _
 split
 · exact I5.read (Xy hE) r (.exp _ _)
 split
 · exact (I5.exp _ _).trans (.tok _ _)
 exact I5.read hE r (.exp _ _)
theorem fI {E T:PS→Syn×PS}(hE:Cq E)(hT:Cq T):Cq (Z3 E T):=.of fun st r=>by
 unfold Z3;split
 ·
  refine U9 r fun s r=>?_
  have h:=I5.read hT r (.exp Dt s);exact (h.trans (aV hE hT _ _ (h.rng r))).trans (.exp _ _)
 exact (Xy hE).goes r
theorem U2 {E:PS→Syn×PS}(hE:Cq E):∀n,Cq (pN E n)
 | 0=>fI hE Gk
 | n+1=>fI hE (U2 hE n)
theorem eZ (st:PS)(k:Int):I5 st (kT st k).2:=by
 unfold kT;split
 · exact (I5.adv _).trans (.tok _ _)
 exact .refl _
theorem lC {E T:PS→Syn×PS}(hE:Cq E)(hT:Cq T):Cq (G5 E T):=.of fun st r=>by
 have h1:I5 st (Ce Gb (kT (Dw 0 (Ce Fk st)) (Cy st)).2):=(((I5.exp _ _).trans (.tok _ _)).trans (eZ _ _)).trans (.exp _ _);have h2:=(I5.read hT r h1).trans (.exp Gi _);exact (h2.trans (bE hE (h2.rng r))).trans (.exp _ _)
set_option maxHeartbeats 3200000
set_option maxRecDepth 20000

theorem Bl {α:Type}{c:Bool}{a b:α}(h:c=false):(if c=true then a else b)=b:=iN h
theorem zU {α:Type}{l:List α}{k:Nat}(h:k<l.length):∃x,l[k]? = some x:=⟨_,List.getElem?_eq_getElem h⟩
theorem Tq {α:Type}{l:List α}{k:Nat}{x:α}(h:l[k]? = some x):k<l.length:=(List.getElem?_eq_some_iff.1 h).1
theorem nX {t:Syn}{k:Nat}(h:k<t.kids.length):t.kids[k]? = some (A3 t k):=by simp [A3,N2,List.getElem?_eq_getElem h]
theorem gR {t:Syn}{i:Nat}{x:Bool}(hi:i<t.kids.length)(hG:K7 [(x,true),((((i:Int)==0)),false)]):0≤(i:Int)-1∧(t.kids.map Cl)[((i:Int)-1).toNat]? = some (cSyn (A3 t (i-1))):=by
 have h0:((i:Int)==0)=false:=hG (((i:Int)==0),false) (by simp);have h1:i≠0:=by intro e;subst e;cases h0
 have hw:(i:Int)-1=((i-1:Nat):Int):=by omega
 rw [hw,mK];exact ⟨by omega,Fc (nX (by omega))⟩
def eW:Pl→AV
 | .only k=>.fn (.func 153) [] [.ptr [.int .i64 k]]
 | .pats=>.fn (.func 206) [] []
 | .exps=>.fn (.func 266) [] []

theorem tC (k:Int):Ap Tryz.prog 206 [.int .i64 k] (.bool (isPat k)):=by
 refine Ap.body (n:=9) tok Tryz.func206 rfl rfl rfl fun H=>?_
 refine Ae (Qp A0 (Bs (Qp Ao (Qp H6 (Qp A9 (Qg [] Qw Ao (Qg [(6,_)] Qw Z5 (Qp E0 (Qp A0 (Rb (Qr (.bool _) ?_)))))))))));rfl
theorem w_exps (k:Int):Ap Tryz.prog 266 [.int .i64 k] (.bool (isExp k)):=by
 refine Ap.body (n:=9) tok Tryz.func266 rfl rfl rfl fun H=>?_
 refine Ae (Qp A0 (Bs (Qp Ao (Qp H6 (Qp A9 (Qg [] Qw Ao (Qg [(6,_)] Qw Z5 (Qp E0 (Qp A0 (Rb (Qr (.bool _) ?_)))))))))));rfl
theorem Sd (k:Int):Ap Tryz.prog 88 [.int .i64 k] (eW (.only k)):=by
 refine Ap.body (n:=4) tok Tryz.func88 rfl rfl rfl fun H=>?_
 refine Ae (Qp (Tr (v:=Iq _) (cs:=[Iq _]) rfl rfl rfl) (Qp Ua (Bs (Qp (Bn (l:=[]) (l':=[.ptr _]) rfl rfl) (Qp (A6 (v:=.fn _ _ _) rfl) (Rb (Qr (.fn _ _ _) ?_)))))));rfl
theorem w_only1 (k x:Int):Ap Tryz.prog 153 [.int .i64 x,.ptr [.int .i64 k]] (.bool (x==k)):=by
 refine Ap.body (n:=7) tok Tryz.func153 rfl rfl rfl fun H=>?_
 refine Ae (Qp A0 (Bs (Qp Ao (Qp Bi (Qp Av (Qp A0 (Rb (Qr (.bool _) ?_))))))));rfl
theorem fO (p k:Int):Ap Tryz.prog 205 [.int .i64 p,.int .i64 k] (.bool (G1 p k)):=by
 refine Ap.body (n:=18) tok Tryz.func205 rfl rfl rfl fun H=>?_
 refine Ae (Qp A0 (Ag (Bk (Qp Ao (Ag (AW.block (Ae (Qp Av (Qp A0 (Ag (Aq (fun hc1=>Ae (Qp Ao (Qp Av (Qp A9 (Qg [] Qw Ao (Qg [(11,_)] Qw Av (Qp B9 (Qp A0 (Rb (Db (Be (Qr (.bool _) ?_)))))))))))) fun hc1=>?_)))))))))))
 · simp only [Ai,G1,hc1,↓reduceIte,Bz]
 refine Ae (Qp Av (Qp A0 (Ag (Aq (fun hc2=>Ae (Qp Ao (Qp Av (Qp A0 (Ra (Qr (.bool _) ?_)))))) fun hc2=>Rf (Ae (Qp A0 (Rb (Qr (.bool _) ?_))))))))
 · simp only [Ai,G1,hc1,hc2,↓reduceIte,Bz]
 simp only [Ai,G1,hc1,hc2,↓reduceIte,Bz]
theorem pl_fn (p:Pl):∃f first cap,eW p = .fn (.func f) first cap∧Sj Tryz.prog f=true∧∀k,Ap Tryz.prog f (first ++ [.int .i64 k]++cap) (.bool (p.at k)):=by
 cases p with
 | only k=>exact ⟨_,_,_,rfl,by kernel_rfl,fun x=>w_only1 k x⟩
 | pats=>exact ⟨_,_,_,rfl,by kernel_rfl,fun x=>tC x⟩
 | exps=>exact ⟨_,_,_,rfl,by kernel_rfl,fun x=>w_exps x⟩
theorem wR (t:Syn):Ap Tryz.prog 201 [.agg (cSyn t)] (.bool (Ei t)):=by
 refine Ap.body (n:=49) tok Tryz.func201 rfl rfl rfl fun H=>?_
 refine Ae (Qp (Gc Au) (Qp A0 (Bs (Qp (Qf Kg) (Qp Cw ?_)))));refine Qp (Ah (n:=t.kids.length) tok rfl rfl rfl (by simp)) ?_;refine Qp Al (Ag (Bk (Qp (Qf Au) (Qp Bi (Ag (AW.block ?_))))));refine AW.Aak (fun (_:Unit)=>(⟨[(1,.ptr (cSyn t)),(3,.int .i64 (t.kids.length:Int)),(8,.int .i64 t.kind),(9,.bool (((t.kind==0)||(t.kind==1))))],H,49⟩:St)) (fun _=>True) ?_ ?_
 ·
  refine Ae (Qp Av (Qp A0 (Ag (Aq (fun hc1=>Bg ?_) fun hc1=>AW.region (Qp Av (Qp A0 (Ag ?_)))))))
  ·
   refine ⟨(),?_,GS.weaken ⟨rfl,rfl,rfl,congrArg AV.bool (by simp [*]),trivial⟩ (.refl _)⟩
   trivial
  refine ⟨(),?_,GS.weaken ⟨rfl,rfl,rfl,congrArg AV.bool (by simp [*]),trivial⟩ (.refl _)⟩
  trivial
 rintro _ _;refine Aq (fun hc2=>Ae (Qp A0 (Ra (Qr (.bool _) ?_)))) fun hc2=>Ae (Qp Av (Qp A0 (Ag (Aq (fun hc3=>Ae (Qp Ao (Qp H6 (Qp A0 (Ra (Qr (.bool _) ?_)))))) fun hc3=>Ae (Qp Av (Qp A0 (Ag (Aq (fun hc4=>Ae (Qp Ao (Qp Z5 (Qp A0 (Ra (Qr (.bool _) ?_)))))) fun hc4=>?_))))))))
 · simp only [Ai,Ei,hc2,↓reduceIte,Bz]
 · simp only [Ai,Ei,hc2,hc3,↓reduceIte,Bz]
 · simp only [Ai,Ei,hc2,hc3,hc4,↓reduceIte,Bz]
 refine AW.Aak (fun (_:Unit)=>(⟨[(1,.ptr (cSyn t)),(3,.int .i64 (t.kids.length:Int)),(8,.int .i64 t.kind),(20,.bool ((((t.kind==6)||(t.kind==7))||(t.kind==8))))],H,49⟩:St)) (fun _=>True) ?_ ?_
 ·
  refine Ae (Qp Av (Qp A0 (Ag (Aq (fun hc5=>Bg ?_) fun hc5=>Ae (Qp Av (Qp A0 (Ag (Aq (fun hc6=>Bg ?_) fun hc6=>AW.region (Qp Av (Qp A0 (Ag ?_)))))))))))
  ·
   refine ⟨(),?_,GS.weaken ⟨rfl,rfl,rfl,congrArg AV.bool (by simp [*]),trivial⟩ (.refl _)⟩
   trivial
  ·
   refine ⟨(),?_,GS.weaken ⟨rfl,rfl,rfl,congrArg AV.bool (by simp [*]),trivial⟩ (.refl _)⟩
   trivial
  refine ⟨(),?_,GS.weaken ⟨rfl,rfl,rfl,congrArg AV.bool (by simp [*]),trivial⟩ (.refl _)⟩
  trivial
 rintro _ _;refine Aq (fun hc7=>Ae (Qp Ao (Qp H6 (Qp A0 (Ra (Qr (.bool _) ?_)))))) fun hc7=>?_
 · simp only [Ai,Ei,hc2,hc3,hc4,hc7,↓reduceIte,Bz]
 refine AW.Aak (fun (_:Unit)=>(⟨[(1,.ptr (cSyn t)),(3,.int .i64 (t.kids.length:Int)),(8,.int .i64 t.kind),(26,.bool ((((t.kind==9)||(t.kind==11))||(t.kind==18))))],H,49⟩:St)) (fun _=>True) ?_ ?_
 ·
  refine Ae (Qp Av (Qp A0 (Ag (Aq (fun hc8=>Bg ?_) fun hc8=>Ae (Qp Av (Qp A0 (Ag (Aq (fun hc9=>Bg ?_) fun hc9=>AW.region (Qp Av (Qp A0 (Ag ?_)))))))))))
  ·
   refine ⟨(),?_,GS.weaken ⟨rfl,rfl,rfl,congrArg AV.bool (by simp [*]),trivial⟩ (.refl _)⟩
   trivial
  ·
   refine ⟨(),?_,GS.weaken ⟨rfl,rfl,rfl,congrArg AV.bool (by simp [*]),trivial⟩ (.refl _)⟩
   trivial
  refine ⟨(),?_,GS.weaken ⟨rfl,rfl,rfl,congrArg AV.bool (by simp [*]),trivial⟩ (.refl _)⟩
  trivial
 rintro _ _;refine Aq (fun hc10=>Ae (Qp Ao (Qp Av (Qp A0 (Ra (Qr (.bool _) ?_)))))) fun hc10=>?_
 · simp only [Ai,Ei,hc2,hc3,hc4,hc7,hc10,↓reduceIte,Bz]
 refine AW.Aak (fun (_:Unit)=>(⟨[(1,.ptr (cSyn t)),(3,.int .i64 (t.kids.length:Int)),(8,.int .i64 t.kind),(32,.bool ((((t.kind==10)||(t.kind==12))||(t.kind==17))))],H,49⟩:St)) (fun _=>True) ?_ ?_
 ·
  refine Ae (Qp Av (Qp A0 (Ag (Aq (fun hc11=>Bg ?_) fun hc11=>Ae (Qp Av (Qp A0 (Ag (Aq (fun hc12=>Bg ?_) fun hc12=>AW.region (Qp Av (Qp A0 (Ag ?_)))))))))))
  ·
   refine ⟨(),?_,GS.weaken ⟨rfl,rfl,rfl,congrArg AV.bool (by simp [*]),trivial⟩ (.refl _)⟩
   trivial
  ·
   refine ⟨(),?_,GS.weaken ⟨rfl,rfl,rfl,congrArg AV.bool (by simp [*]),trivial⟩ (.refl _)⟩
   trivial
  refine ⟨(),?_,GS.weaken ⟨rfl,rfl,rfl,congrArg AV.bool (by simp [*]),trivial⟩ (.refl _)⟩
  trivial
 rintro _ _;refine Aq (fun hc13=>Ae (Qp Ao (Qp Av (Qp A0 (Ra (Qr (.bool _) ?_)))))) fun hc13=>?_
 · simp only [Ai,Ei,hc2,hc3,hc4,hc7,hc10,hc13,↓reduceIte,Bz]
 refine Ae (Qp Av (Qp A0 (Ag (Aq (fun hc14=>Bk (Qp (Qf Uw) (Qp Bi (Qp Av (Ag (Aq (fun hc15=>Ae (Qp Ao (Qp Av (Qp A0 (Rc (Db (Be (Qr (.bool _) ?_)))))))) fun hc15=>Bg (Ae (Qp Ao (Qp Av (Qp A0 (Ra (Qr (.bool _) ?_)))))))))))) fun hc14=>?_))))
 · simp only [Ai,Ei,hc2,hc3,hc4,hc7,hc10,hc13,hc14,hc15,↓reduceIte,Bz]
 · simp only [Ai,Ei,hc2,hc3,hc4,hc7,hc10,hc13,hc14,hc15,↓reduceIte,Bz]
 refine Rf (Ae (Qp Ao (Qp Av (Qp A0 (Rb (Qr (.bool _) ?_))))));simp only [Ai,Ei,hc2,hc3,hc4,hc7,hc10,hc13,hc14,↓reduceIte,Bz]
theorem sF (k:Int):Ap Tryz.prog 263 [.int .i64 k] (.tuple [.bool (Px k).1,.bool (Px k).2]):=by
 refine Ap.body (n:=15) tok Tryz.func263 rfl rfl rfl fun H=>?_
 refine Ae (Qp A0 (Qp A0 (Ag (Bk (Qp Ao (Ag (AW.block ?_)))))));refine AW.Aak (fun (_:Unit)=>(⟨[(4,.int .i64 k),(5,.bool ((((k==5)||(k==14))||(k==16))))],H,15⟩:St)) (fun _=>True) ?_ ?_
 ·
  refine Ae (Qp Av (Qp A0 (Ag (Aq (fun hc1=>Bg ?_) fun hc1=>Ae (Qp Av (Qp A0 (Ag (Aq (fun hc2=>Bg ?_) fun hc2=>AW.region (Qp Av (Qp A0 (Ag ?_)))))))))))
  ·
   refine ⟨(),?_,GS.weaken ⟨rfl,congrArg AV.bool (by simp [*]),trivial⟩ (.refl _)⟩
   trivial
  ·
   refine ⟨(),?_,GS.weaken ⟨rfl,congrArg AV.bool (by simp [*]),trivial⟩ (.refl _)⟩
   trivial
  refine ⟨(),?_,GS.weaken ⟨rfl,congrArg AV.bool (by simp [*]),trivial⟩ (.refl _)⟩
  trivial
 rintro _ _;refine Aq (fun hc3=>Ae (Qp A0 (Qp A0 (Ra (Mf (.bool _) (.bool _) ?_))))) fun hc3=>?_
 · simp only [Ai,Px,hc3,↓reduceIte,Bz]
 refine AW.Aak (fun (_:Unit)=>(⟨[(4,.int .i64 k),(9,.bool ((((((k==1)||(k==2))||(k==3))||(k==4))||(k==15))))],H,15⟩:St)) (fun _=>True) ?_ ?_
 ·
  refine Ae (Qp Av (Qp A0 (Ag (Aq (fun hc4=>Bg ?_) fun hc4=>Ae (Qp Av (Qp A0 (Ag (Aq (fun hc5=>Bg ?_) fun hc5=>Ae (Qp Av (Qp A0 (Ag (Aq (fun hc6=>Bg ?_) fun hc6=>Ae (Qp Av (Qp A0 (Ag (Aq (fun hc7=>Bg ?_) fun hc7=>AW.region (Qp Av (Qp A0 (Ag ?_)))))))))))))))))))
  ·
   refine ⟨(),?_,GS.weaken ⟨rfl,congrArg AV.bool (by simp [*]),trivial⟩ (.refl _)⟩
   trivial
  ·
   refine ⟨(),?_,GS.weaken ⟨rfl,congrArg AV.bool (by simp [*]),trivial⟩ (.refl _)⟩
   trivial
  ·
   refine ⟨(),?_,GS.weaken ⟨rfl,congrArg AV.bool (by simp [*]),trivial⟩ (.refl _)⟩
   trivial
  ·
   refine ⟨(),?_,GS.weaken ⟨rfl,congrArg AV.bool (by simp [*]),trivial⟩ (.refl _)⟩
   trivial
  refine ⟨(),?_,GS.weaken ⟨rfl,congrArg AV.bool (by simp [*]),trivial⟩ (.refl _)⟩
  trivial
 rintro _ _;refine Aq (fun hc8=>Ae (Qp A0 (Qp A0 (Ra (Mf (.bool _) (.bool _) ?_))))) fun hc8=>Rf (Ae (Qp A0 (Qp A0 (Rb (Mf (.bool _) (.bool _) ?_)))))
 · simp only [Ai,Px,hc3,hc8,↓reduceIte,Bz]
 simp only [Ai,Px,hc3,hc8,↓reduceIte,Bz]
theorem w_is (s:Am)(hl:s.length≤1048576):Ap Tryz.prog 262 [.str s] (.bool (qX s)):=by
 refine Ap.body (n:=6) tok Tryz.func262 rfl rfl rfl fun H=>?_
 refine Ae (Qp A0 (Bs (Qp Gj (Qp (Qc rfl (c20 s hl)) (Qp Av (Qp A0 (Rb (Qr (.bool _) ?_))))))));rfl
theorem w_named (t:Syn)(ht:t.text.length≤1048576)(hn:t.name.length≤1048576):Ap Tryz.prog 202 [.agg (cSyn t)] (.bool (Pf t)):=by
 refine Ap.body (n:=48) tok Tryz.func202 rfl rfl rfl fun H=>?_
 refine Ae (Qp (Gc Au) (Qp A0 (Bs (Qp (A6 (v:=.fn _ _ _) rfl) (Bs (Qp (Qf Au) (Qp Bi (Qp (Qc rfl (sF t.kind)) (Qp N4 (Qp eU (Qp eU (Qp A0 (Qp A0 (Ag (Bk (Qp A9 (Qp A9 (AOL.g (y:=.fn _ _ _) _ [] rfl (qZ.all trivial) (fun hG=>A1 (v:=.fn _ _ _) rfl) rfl ?_))))))))))))))))));refine Qg [] Qw (Qf Wv) (Qg [(15,_)] Qw Hc ?_);refine AOL.g (y:=.bool _) _ [(16,_),(14,_)] rfl (qZ.all ⟨Ent.Aad _ _,Ent.Aad _ _,trivial⟩) (fun hG=>Nj (by kernel_rfl) rfl rfl rfl (w_is t.text ht)) rfl ?_;refine Qg [(17,_)] Qw Et (Qp E0 (Qp A9 (Qg [] Qw (Qf Au) (Qg [(21,_)] Qw Bi (Qg [(22,_)] Qw Br (Qg [(23,_)] Qw A9 (Qg [] Qw (Qf Wv) (Qg [(25,_)] Qw Hc (AOL.g (y:=.bool _) _ [(26,_)] rfl (qZ.all ⟨Ent.Aad _ _,trivial⟩) (fun hG=>Dk rfl rfl) rfl ?_)))))))));refine Qg [(24,_),(27,_)] Qw B9 (Qp E0 (Ag (Aq (fun hc1=>Ae (Qp A0 (Rc (Qr (.bool _) ?_)))) fun hc1=>Bg (Ae (Qp A9 (Qp Et (Qp A9 (AOL.g (y:=.fn _ _ _) _ [] rfl (qZ.all trivial) (fun hG=>A1 (v:=.fn _ _ _) rfl) rfl ?_))))))))
 ·
  simp only [Ai,Pf];rw [if_pos hc1]
 refine Qg [] Qw (Qf eX) (Qg [(34,_)] Qw Hc ?_);refine AOL.g (y:=.bool _) _ [(35,_),(33,_)] rfl (qZ.all ⟨Ent.Aad _ _,Ent.Aad _ _,trivial⟩) (fun hG=>Nj (by kernel_rfl) rfl rfl rfl (w_is t.name hn)) rfl ?_;refine Qp B9 (Qp A9 (Qg [] Qw (Qf Au) (Qg [(39,_)] Qw Bi (Qg [(40,_)] Qw Av (Qg [(41,_)] Qw A9 (Qg [] Qw (Qf eX) (Qg [(43,_)] Qw Hc (AOL.g (y:=.bool _) _ [(44,_)] rfl (qZ.all ⟨Ent.Aad _ _,trivial⟩) (fun hG=>D5 rfl rfl) rfl ?_))))))));refine Qg [(42,_),(45,_)] Qw E0 (Qp B9 (Qp A0 (Rb (Qr (.bool _) ?_))));simp only [Ai,Pf];rw [Bl hc1]
theorem w_const (t:Syn):Ap Tryz.prog 264 [.agg (cSyn t)] (.int .i64 (Ho t)):=by
 refine Ap.body (n:=37) tok Tryz.func264 rfl rfl rfl fun H=>?_
 refine Ae (Qp (Gc Au) (Qp Al (Bs (Qp Al (Qp Al (Ag (Bk (Qp (Qf eX) ?_))))))));refine Qp Hc (Ag (AW.block (Ae (Qp (D5 rfl rfl) (Qp A0 (Ag (Aq (fun hc1=>Rf (AW.seq (AW.block (Ae (Qp (Qf Uw) (Qp Bi (Qp Ao (Qp Bx (Qp A9 (Qg [] Qw (Qf Uw) (Qg [(28,_)] Qw Bi (Qg [] Qw Ao (AOL.g (y:=.bool _) _ [(29,_),(30,_)] rfl (qZ.all ⟨Ent.Aad _ _,Ent.Aad _ _,trivial⟩) (fun hG=>Rw rfl rfl) rfl ?_))))))))))))) fun hc1=>?_)))))))
 ·
  refine Qp B9 (Qp A0 (Ag (Aq (fun hc2=>Ae (Qp Al (Ra (Qr (Iq _) ?_)))) fun hc2=>Ae (Qp (Qf Wv) (Qp Hc (Qp (Dk rfl rfl) (Qp A0 (Ag (Aq (fun hc3=>Ae (Qp Al (Ra (Qr (Iq _) ?_)))) fun hc3=>Rf (Ae (Qp Al (Rb (Qr (Iq _) ?_)))))))))))))
  ·
   simp only [Ai,Ho];rw [if_pos hc1,if_pos hc2]
  ·
   simp only [Ai,Ho];rw [if_pos hc1,Bl hc2,if_pos hc3]
  simp only [Ai,Ho];rw [if_pos hc1,Bl hc2,Bl hc3]
 refine Ae (Qp (D5 rfl rfl) (Qp A0 (Ag (Aq (fun hc4=>AW.region (Qp Al (Qp Al (Rk (AW.seq (AW.block (Ae (Qp (Qf Uw) (Qp Bi (Qp Ao (Qp Bx (Qp A9 (Qg [] Qw (Qf Uw) (Qg [(28,_)] Qw Bi (Qg [] Qw Ao (AOL.g (y:=.bool _) _ [(29,_),(30,_)] rfl (qZ.all ⟨Ent.Aad _ _,Ent.Aad _ _,trivial⟩) (fun hG=>Rw rfl rfl) rfl ?_)))))))))))))))) fun hc4=>?_))))
 ·
  refine Qp B9 (Qp A0 (Ag (Aq (fun hc5=>Ae (Qp Al (Ra (Qr (Iq _) ?_)))) fun hc5=>Ae (Qp (Qf Wv) (Qp Hc (Qp (Dk rfl rfl) (Qp A0 (Ag (Aq (fun hc6=>Ae (Qp Al (Ra (Qr (Iq _) ?_)))) fun hc6=>Rf (Ae (Qp Al (Rb (Qr (Iq _) ?_)))))))))))))
  ·
   simp only [Ai,Ho];rw [Bl hc1,if_pos hc4,if_pos hc5]
  ·
   simp only [Ai,Ho];rw [Bl hc1,if_pos hc4,Bl hc5,if_pos hc6]
  simp only [Ai,Ho];rw [Bl hc1,if_pos hc4,Bl hc5,Bl hc6]
 refine Ae (Qp (D5 rfl rfl) (Qp A0 (Ag (Aq (fun hc7=>AW.seq (AW.block (Ae (Qp (Qf Wv) (Qp Hc ?_))))) fun hc7=>Ae (Qp Al (Ra (Qr (Iq _) ?_)))))))
 ·
  refine Qp (B8 tok rfl rfl rfl rfl) (Qp Ej (Qp A0 (Ag (Aq (fun hc8=>Ae (Qp Al (Ra (Db (Be (Qr (Iq _) ?_)))))) fun hc8=>Ae (Qp (Qf Uw) (Qp Bi (Qp Br (Qp A0 (Ag (Aq (fun hc9=>Ae (Qp Al (Ra (Db (Be (Qr (Iq _) ?_)))))) fun hc9=>Rf (Ae (Qp Al (Ra (Qr (Iq _) ?_))))))))))))))
  ·
   simp only [Ai,Ho];rw [Bl hc1,Bl hc4,if_pos hc7,if_pos hc8]
  ·
   simp only [Ai,Ho];rw [Bl hc1,Bl hc4,if_pos hc7,Bl hc8,if_pos hc9]
  simp only [Ai,Ho];rw [Bl hc1,Bl hc4,if_pos hc7,Bl hc8,Bl hc9]
 simp only [Ai,Ho];rw [Bl hc1,Bl hc4,Bl hc7]
theorem wA (t:Syn):Ap Tryz.prog 265 [.agg (cSyn t)] (.int .i64 (Nm t)):=by
 refine Ap.body (n:=27) tok Tryz.func265 rfl rfl rfl fun H=>?_
 refine Ae (Qp (Gc Au) (Qp Al (Bs (Qp Al (Qp Al (Qp Al (Ag (Bk (Qp (Qf Au) (Qp Bi (Ag (AW.block (Ae (Qp Av (Qp A0 (Ag (Aq (fun hc1=>?_) fun hc1=>?_)))))))))))))))))
 ·
  refine AW.region (Qp Al (Qp Al (Qp Al (Rk (Bk (Qp (Qf Uw) (Qp Bi (Qp Ao (Qp Bx (Qp A9 (Qg [] Qw (Qf Uw) (Qg [(21,_)] Qw Bi (Qg [] Qw Ao (AOL.g (y:=.bool _) _ [(22,_),(23,_)] rfl (qZ.all ⟨Ent.Aad _ _,Ent.Aad _ _,trivial⟩) (fun hG=>Rw rfl rfl) rfl ?_))))))))))))));refine Qp B9 (Ag (Aq (fun hc2=>Ae (Qp Ao (Qp Al (Rc (Qr (Iq _) ?_))))) fun hc2=>Bg (Ae (Qp Al (Rb (Qr (Iq _) ?_))))))
  · simp only [Ai,Nm,hc1,hc2,↓reduceIte,Bz]
  simp only [Ai,Nm,hc1,hc2,↓reduceIte,Bz]
 refine Ae (Qp Av (Qp A0 (Ag (Aq (fun hc3=>AW.region (Qp Al (Qp Al (Qp Al (Rk (Bk (Qp (Qf Uw) (Qp Bi (Qp Ao (Qp Bx (Qp A9 (Qg [] Qw (Qf Uw) (Qg [(21,_)] Qw Bi (Qg [] Qw Ao (AOL.g (y:=.bool _) _ [(22,_),(23,_)] rfl (qZ.all ⟨Ent.Aad _ _,Ent.Aad _ _,trivial⟩) (fun hG=>Rw rfl rfl) rfl ?_))))))))))))))) fun hc3=>?_))))
 ·
  refine Qp B9 (Ag (Aq (fun hc4=>Ae (Qp Ao (Qp Al (Rc (Qr (Iq _) ?_))))) fun hc4=>Bg (Ae (Qp Al (Rb (Qr (Iq _) ?_))))))
  · simp only [Ai,Nm,hc1,hc3,hc4,↓reduceIte,Bz]
  simp only [Ai,Nm,hc1,hc3,hc4,↓reduceIte,Bz]
 refine Ae (Qp Av (Qp A0 (Ag (Aq (fun hc5=>AW.region (Qp Al (Qp Al (Qp Al (Rk (Bk (Qp (Qf Uw) (Qp Bi (Qp Ao (Qp Bx (Qp A9 (Qg [] Qw (Qf Uw) (Qg [(21,_)] Qw Bi (Qg [] Qw Ao (AOL.g (y:=.bool _) _ [(22,_),(23,_)] rfl (qZ.all ⟨Ent.Aad _ _,Ent.Aad _ _,trivial⟩) (fun hG=>Rw rfl rfl) rfl ?_))))))))))))))) fun hc5=>?_))))
 ·
  refine Qp B9 (Ag (Aq (fun hc6=>Ae (Qp Ao (Qp Al (Rc (Qr (Iq _) ?_))))) fun hc6=>Bg (Ae (Qp Al (Rb (Qr (Iq _) ?_))))))
  · simp only [Ai,Nm,hc1,hc3,hc5,hc6,↓reduceIte,Bz]
  simp only [Ai,Nm,hc1,hc3,hc5,hc6,↓reduceIte,Bz]
 refine Ae (Qp Av (Qp A0 (Ag (Aq (fun hc7=>AW.region (Qp Al (Qp Al (Rk (Bk (Qp (Qf Uw) (Qp Bi (Qp Ao (Qp Bx (Qp A9 (Qg [] Qw (Qf Uw) (Qg [(21,_)] Qw Bi (Qg [] Qw Ao (AOL.g (y:=.bool _) _ [(22,_),(23,_)] rfl (qZ.all ⟨Ent.Aad _ _,Ent.Aad _ _,trivial⟩) (fun hG=>Rw rfl rfl) rfl ?_)))))))))))))) fun hc7=>?_))))
 ·
  refine Qp B9 (Ag (Aq (fun hc8=>Ae (Qp Ao (Qp Al (Rc (Qr (Iq _) ?_))))) fun hc8=>Bg (Ae (Qp Al (Rb (Qr (Iq _) ?_))))))
  · simp only [Ai,Nm,hc1,hc3,hc5,hc7,hc8,↓reduceIte,Bz]
  simp only [Ai,Nm,hc1,hc3,hc5,hc7,hc8,↓reduceIte,Bz]
 refine Rf (Bk (Qp (Qf Uw) (Qp Bi (Qp Ao (Qp Bx (Qp A9 (Qg [] Qw (Qf Uw) (Qg [(21,_)] Qw Bi (Qg [] Qw Ao (AOL.g (y:=.bool _) _ [(22,_),(23,_)] rfl (qZ.all ⟨Ent.Aad _ _,Ent.Aad _ _,trivial⟩) (fun hG=>Rw rfl rfl) rfl ?_))))))))));refine Qp B9 (Ag (Aq (fun hc9=>Ae (Qp Ao (Qp Al (Rc (Qr (Iq _) ?_))))) fun hc9=>Bg (Ae (Qp Al (Rb (Qr (Iq _) ?_))))))
 · simp only [Ai,Nm,hc1,hc3,hc5,hc7,hc9,↓reduceIte,Bz]
 simp only [Ai,Nm,hc1,hc3,hc5,hc7,hc9,↓reduceIte,Bz]
theorem yQ (t:Syn):Ap Tryz.prog 203 [.agg (cSyn t)] (.int .i64 (C9 t)):=by
 refine Ap.body (n:=38) tok Tryz.func203 rfl rfl rfl fun H=>?_
 refine Ae (Qp (Gc Au) (Qp Al (Ag (Bk (Qp (Qf Au) (Qp Bi (Qp Av (Ag (Aq (fun hc1=>Ae (Qp (B0 Au) (Qp (Qc rfl (w_const t)) (Qp Al (Rc (Qr (Iq _) ?_)))))) fun hc1=>?_)))))))))
 ·
  simp only [Ai,C9];rw [if_pos hc1]
 refine Bg (Bk (Qp (B0 Au) (Qp (Qc rfl (wA t)) (Qp Al (Bs (Qp Ao (Qp Br (Ag (Aq (fun hc2=>Ae (Qp Ao (Qp Al (Rc (Qr (Iq _) ?_))))) fun hc2=>?_)))))))))
 ·
  simp only [Ai,C9];rw [Bl hc1,if_pos hc2]
 refine Bg (Bk (Qp (Qf Au) (Qp Bi (Qp (Qc rfl (sF t.kind)) (Qp N4 (Qp eU (Qp eU (Qp A0 (Qp A0 (Bs (Qp A9 (Qp Et (Qp A9 (Qg [] Qw (Qf Wv) (Qg [(25,_)] Qw Hc (AOL.g (y:=.bool _) _ [(26,_)] rfl (qZ.all ⟨Ent.Aad _ _,trivial⟩) (fun hG=>Dk rfl rfl) rfl ?_))))))))))))))));refine Qp E0 (Qp A9 (Qg [] Qw A9 (Qg [(30,_)] Qw Et (Qg [(31,_)] Qw A9 (Qg [] Qw (Qf eX) (Qg [(33,_)] Qw Hc (AOL.g (y:=.bool _) _ [(34,_)] rfl (qZ.all ⟨Ent.Aad _ _,trivial⟩) (fun hG=>Dk rfl rfl) rfl ?_)))))));refine Qg [(32,_),(35,_)] Qw E0 (Qp B9 (Ag (Aq (fun hc3=>Ae (Qp Al (Rc (Qr (Iq _) ?_)))) fun hc3=>Bg (Ae (Qp Al (Rb (Qr (Iq _) ?_)))))))
 ·
  simp only [Ai,C9];rw [Bl hc1,Bl hc2,if_pos hc3]
 simp only [Ai,C9];rw [Bl hc1,Bl hc2,Bl hc3]
theorem w_kid (t:Syn)(i:Nat)(hi:i<t.kids.length)(hl:t.kids.length≤1048576):Ap Tryz.prog 204 [.agg (cSyn t),.int .i64 (i:Int)] (eW (Ec t i)):=by
 refine Ap.body (n:=59) tok Tryz.func204 rfl rfl rfl fun H=>?_
 refine Ae (Qp (Gc Au) (Qp Ua (Ag (Bk (Qp (Qf Au) (Qp Bi (Ag (AW.block (Ae (Qp Av (Qp A0 (Ag (Aq (fun hc1=>Bk (Qp (Qf Kg) (Qp Cw (Qp Ao ?_)))) fun hc1=>Ae (Qp Av (Qp A0 (Ag (Aq (fun hc3=>Ae (Qp (Qc rfl (Sd _)) (Qp (A6 (v:=.fn _ _ _) rfl) (Ra (Qr (.fn _ _ _) ?_))))) fun hc3=>?_)))))))))))))))))
 ·
  refine Qp (Aa (c:=cSyn (A3 t i)) tok rfl rfl rfl rfl rfl rfl (by omega) (Fc (nX hi))) ?_;refine Qp (Qf Au) (Qp Bi (Qp Av (Qp A9 (Qg [] Qw Ao (Qg [(17,_)] Qw Av (Qg [(18,_)] Qw A9 (Qg [] Qw (Qf Kg) (Qg [(20,_)] Qw Cw (Qg [] Qw Ao ?_)))))))));refine AOL.g (y:=Iq _) _ [(22,_)] rfl (qZ.all ⟨Ent.Aad _ _,trivial⟩) (fun hG=>P_sub rfl rfl rfl (by constructor <;> omega)) rfl ?_;refine AOL.g (y:=.ptr _) _ [(21,_),(23,_)] rfl (qZ.all ⟨Ent.Aad _ _,Ent.Aad _ _,trivial⟩) (fun hG=>Aa (c:=cSyn (A3 t (i-1))) tok rfl rfl rfl rfl rfl rfl ((gR hi hG).1) ((gR hi hG).2)) rfl ?_;refine Qg [(24,_)] Qw (Qf Au) (Qg [(25,_)] Qw Bi (Qg [(26,_)] Qw Av (Qg [(19,_),(27,_)] Qw B9 (Qp E0 (Ag (Aq (fun hc2=>Ae (Qp (Qc rfl (Sd _)) (Qp (A6 (v:=.fn _ _ _) rfl) (Rc (Db (Be (Qr (.fn _ _ _) ?_))))))) fun hc2=>Bg (Ae (Qp (Qc rfl (Sd _)) (Qp (A6 (v:=.fn _ _ _) rfl) (Ra (Qr (.fn _ _ _) ?_)))))))))))
  · simp only [Ai,Ec,eW,hc1,hc2,↓reduceIte,Bz]
  simp only [Ai,Ec,eW,hc1,hc2,↓reduceIte,Bz]
 · simp only [Ai,Ec,eW,hc1,hc3,↓reduceIte,Bz]
 refine Ae (Qp Av (Qp A0 (Ag (Aq (fun hc4=>?_) fun hc4=>Ae (Qp Av (Qp A0 (Ag (Aq (fun hc7=>Ae (Qp Ao (Qp Av (Ag (Aq (fun hc8=>Ae (Qp (Qc rfl (Sd _)) (Qp (A6 (v:=.fn _ _ _) rfl) (Ra (Qr (.fn _ _ _) ?_))))) fun hc8=>Rf (Ae (Qp (A6 (v:=.fn _ _ _) rfl) (Rb (Qr (.fn _ _ _) ?_))))))))) fun hc7=>?_))))))))
 ·
  refine Bk (Qp Ao (Ag (AW.block (Ae (Qp Av (Qp A0 (Ag (Aq (fun hc5=>Ae (Qp (Qc rfl (Sd _)) (Qp (A6 (v:=.fn _ _ _) rfl) (Ra (Db (Be (Qr (.fn _ _ _) ?_))))))) fun hc5=>Ae (Qp Av (Qp A0 (Ag (Aq (fun hc6=>Ae (Qp (A6 (v:=.fn _ _ _) rfl) (Ra (Db (Be (Qr (.fn _ _ _) ?_)))))) fun hc6=>Rf (Ae (Qp (A6 (v:=.fn _ _ _) rfl) (Ra (Qr (.fn _ _ _) ?_))))))))))))))))
  · simp only [Ai,Ec,eW,hc1,hc3,hc4,hc5,↓reduceIte,Bz]
  · simp only [Ai,Ec,eW,hc1,hc3,hc4,hc5,hc6,↓reduceIte,Bz]
  simp only [Ai,Ec,eW,hc1,hc3,hc4,hc5,hc6,↓reduceIte,Bz]
 · simp only [Ai,Ec,eW,hc1,hc3,hc4,hc7,hc8,↓reduceIte,Bz]
 · simp only [Ai,Ec,eW,hc1,hc3,hc4,hc7,hc8,↓reduceIte,Bz]
 refine Ae (Qp Av (Qp A0 (Ag (Aq (fun hc9=>Ae (Qp Ao (Qp Av (Ag (Aq (fun hc10=>Ae (Qp (A6 (v:=.fn _ _ _) rfl) (Ra (Qr (.fn _ _ _) ?_)))) fun hc10=>Rf (Ae (Qp (A6 (v:=.fn _ _ _) rfl) (Rb (Qr (.fn _ _ _) ?_))))))))) fun hc9=>Ae (Qp Av (Qp A0 (Ag (Aq (fun hc11=>Ae (Qp (Qc rfl (Sd _)) (Qp (A6 (v:=.fn _ _ _) rfl) (Ra (Qr (.fn _ _ _) ?_))))) fun hc11=>?_))))))))
 · simp only [Ai,Ec,eW,hc1,hc3,hc4,hc7,hc9,hc10,↓reduceIte,Bz]
 · simp only [Ai,Ec,eW,hc1,hc3,hc4,hc7,hc9,hc10,↓reduceIte,Bz]
 · simp only [Ai,Ec,eW,hc1,hc3,hc4,hc7,hc9,hc11,↓reduceIte,Bz]
 refine AW.Aak (fun (_:Unit)=>(⟨[(2,.ptr (cSyn t)),(55,.bool ((((t.kind==5)||(t.kind==17))||(t.kind==18))))],H,59⟩:St)) (fun _=>True) ?_ ?_
 ·
  refine Ae (Qp Av (Qp A0 (Ag (Aq (fun hc12=>Bg ?_) fun hc12=>Ae (Qp Av (Qp A0 (Ag (Aq (fun hc13=>Bg ?_) fun hc13=>AW.region (Qp Av (Qp A0 (Ag ?_)))))))))))
  ·
   refine ⟨(),?_,GS.weaken ⟨rfl,congrArg AV.bool (by simp [*]),trivial⟩ (.refl _)⟩
   trivial
  ·
   refine ⟨(),?_,GS.weaken ⟨rfl,congrArg AV.bool (by simp [*]),trivial⟩ (.refl _)⟩
   trivial
  refine ⟨(),?_,GS.weaken ⟨rfl,congrArg AV.bool (by simp [*]),trivial⟩ (.refl _)⟩
  trivial
 rintro _ _;refine Aq (fun hc14=>Ae (Qp (A6 (v:=.fn _ _ _) rfl) (Ra (Qr (.fn _ _ _) ?_)))) fun hc14=>Rf (Ae (Qp (A6 (v:=.fn _ _ _) rfl) (Rb (Qr (.fn _ _ _) ?_))))
 · simp only [Ai,Ec,eW,hc1,hc3,hc4,hc7,hc9,hc11,hc14,↓reduceIte,Bz]
 simp only [Ai,Ec,eW,hc1,hc3,hc4,hc7,hc9,hc11,hc14,↓reduceIte,Bz]
end Go.Proofs.YtckhoadldibflaaGreatDoor
