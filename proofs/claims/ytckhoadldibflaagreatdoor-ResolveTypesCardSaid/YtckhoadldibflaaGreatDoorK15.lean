/-
  Several texts in one: R9, R10, R11, R12, R13. No condition.
-/
import Derived.Test.YtckhoadldibflaaGreatDoorK14
set_option linter.unusedVariables false
set_option linter.unusedSimpArgs false
namespace Go.Proofs.YtckhoadldibflaaGreatDoor
open Go Go.Aw

def AllK (tmps:Array Value):List (Nat×Value)→Prop
 | []=>True
 | p::r=>tmps.getD p.1 undef=p.2∧AllK tmps r
theorem xL {tmps:Array Value}{n0 k:Nat}{x:AV}{kn:List (Nat×Value)}(hsz:tmps.size=n0)(hk:Nat.blt k n0=true)(hkn:AllK tmps kn):∀g w vs,Cd g w vs [x]→∀j,
    Rep g w ((((#[k]:Array Tmp).zip vs).foldl (fun t (p,v)=>t.setIfInBounds p v) tmps).getD j undef) (get ((k,x)::kn.map fun p=>(p.1,.val p.2)) j):=by
  intro g w vs hr j
  have h0:=hr.2 0 _ rfl
  have hs:vs.size=1:=hr.1
  obtain ⟨u, rfl⟩ : ∃ u, vs = #[u] := ⟨vs[0], by apply Array.ext; simp [hs]; intro i h1 h2; have : i = 0 := by omega
                                                 subst this;rfl⟩
  have hlt:k<tmps.size:=by have:=Nat.le_of_ble_eq_true hk;omega
  rw [←Array.foldl_toList,Array.toList_zip]
  show Rep g w ((tmps.setIfInBounds k u).getD j undef) _
  rw [E9]
  by_cases e:k=j
  · subst e
    rw [if_pos rfl]
    simp only [Array.getD_eq_getD_getElem?,Array.getElem?_setIfInBounds]
    simp [hlt]
    simpa using h0
  · rw [if_neg e]
    have:(tmps.setIfInBounds k u).getD j undef=tmps.getD j undef:=by
      simp only [Array.getD_eq_getD_getElem?,Array.getElem?_setIfInBounds];simp [e]
    rw [this]
    clear this
    induction kn with
    | nil=>exact .junk _
    | cons p r ih=>
      rw [List.map_cons,E9]
      by_cases e2:p.1=j
      · rw [if_pos e2,←hkn.1,e2];exact .val _
      · rw [if_neg e2];exact ih hkn.2

theorem K5.ofE2 {P:Program}{l:Nat}{rec:Loop}{H:List HO}{args:List AV}{R:AV→List HO→Prop}{A B:Code}(sl:List (Nat×AV)){n0:Nat}(hst:rec.state = .ready)(hpe:rec.pending=none)
  (hsz:rec.tmps.size=n0) (hsl:∀g w vs,Cd g w vs args→∀j,Rep g w (((rec.params.zip vs).foldl (fun t (p,v)=>t.setIfInBounds p v) rec.tmps).getD j undef) (get sl j)) (has:rec.assign=A) (hbo:rec.body=B)
  (h:aZ l P A (fun e s1=>e = .normal∧∃i:Nat,s1.H[i]? = some (HO.obj l (Obj.loop rec))∧aZ l P B (fun e s2=>∃j:Nat,s2.H[j]? = some (HO.obj l (Obj.loop { rec with state:=.busy }))∧
   ((e = .normal∧R (.bool true) (s2.H.set j (.obj l (.loop rec))))∨(e = .ret∧R (.bool false) (s2.H.set j (.obj l (.loop { rec with state:=.done,pending:=some .ret })))))) ⟨s1.sl,s1.H.set i (.obj l (.loop { rec with state:=.busy })),s1.n⟩) ⟨sl,H,n0⟩):K5 P l rec H args R:=by
 subst has hbo
 exact K5.ofE hst hpe hsz hsl h

theorem Q8 (f:Pt→Int):∀l:List Pt,Mx (fun e:Int=>e==0) (fun _ q=>f q) 0 l=Ca f l
  | []=>rfl
  | a::r=>by
    rw [Mx,if_pos (show ((0:Int)==0)=true from rfl),Ca]
    by_cases h:f a=0
    · rw [h,Q8 f r];rfl
    · rw [O8 _ _ (by simpa using h),if_pos (by simpa using h)]
theorem Vw (b:Pt→Bool):∀l:List Pt,Ca (fun q=>if b q then 1 else 0) l=if l.any b then 1 else 0
  | []=>rfl
  | a::r=>by
    rw [Ca,Vw b r,List.any_cons]
    cases b a <;> simp
theorem yT:∀p q:Pt,q∈Ga p→Hq q≤Hq p:=by
  intro p
  induction p using Pt.ind with
  | h p ih=>
    intro q hq
    rw [Q6,List.mem_cons] at hq
    rcases hq with rfl | hq
    · exact Nat.le_refl _
    · obtain ⟨a,ha,hq⟩:=List.mem_flatMap.1 hq
      have:=ih a ha q hq
      have:=Xm ha
      omega
structure medP (p:Pt):Prop where
 n:Hq p≤1048576
 cond:∀q∈Ga p,Cq q.cond≤1048576
theorem medP.len {p:Pt}(h:medP p):∀q∈Ga p,Cq q.cond≤1048576∧q.args.length≤1048576:=fun q hq=>⟨h.cond q hq,by have:=yT p q hq;have:=bT q;have:=h.n;omega⟩
theorem wJ {p:Pt}(h:decide ((64:Int)<(Hq p:Int))=true):Jg p=5:=if_pos h
theorem wA {p:Pt}(h:decide ((64:Int)<(Hq p:Int))=false)(h2:decide ((12:Int)<(Yo p:Int))=true):Jg p=12:=(Bu h).trans (if_pos h2)
theorem jU {p:Pt}(h:decide ((64:Int)<(Hq p:Int))=false)(h2:decide ((12:Int)<(Yo p:Int))=false):Jg p=Ca Uw (Ga p):=(Bu h).trans (Bu h2)
theorem rst_0 {p:Pt}(h:(Jg p != 0)=false):Hq p≤64∧Yo p≤12∧Ca Uw (Ga p)=0:=by
 have h0:Jg p=0:=by simpa using h
 have a:¬(64:Int)<(Hq p:Int):=fun h=>by rw [wJ (decide_eq_true h)] at h0;exact absurd h0 (by decide)
 have b:¬(12:Int)<(Yo p:Int):=fun h=>by rw [wA (decide_eq_false a) (decide_eq_true h)] at h0;exact absurd h0 (by decide)
 refine ⟨by omega,by omega,?_⟩
 rw [←jU (decide_eq_false a) (decide_eq_false b)];exact h0
theorem eS {α:Type}{f:α→Int}:∀{l:List α},Ca f l=0→∀q∈l,f q=0
  | [],_,q,hq=>(List.not_mem_nil hq).elim
  | a::r,h,q,hq=>by
    rw [Ca] at h
    by_cases ha:f a=0
    · rw [ha,if_neg (by decide)] at h
      rcases List.mem_cons.1 hq with rfl | hq
      · exact ha
      · exact eS h q hq
    · rw [if_pos (by simpa using ha)] at h;exact absurd h ha
def mE (q:Pt):Prop:=0≤q.op∧q.op<11
theorem ck_op {q:Pt}(h:Uw q=0):mE q:=by
 have:(decide (q.op<0)||decide (11≤q.op))=false:=by
  cases hc:(decide (q.op<0)||decide (11≤q.op)) with
  | false=>rfl
  | true=>rw [ck_1 hc] at h;exact absurd h (by decide)
 rw [Bool.or_eq_false_iff] at this
 have h1:=of_decide_eq_false this.1
 have h2:=of_decide_eq_false this.2
 exact ⟨by omega,by omega⟩
theorem sW {p:Pt}(h:(Jg p != 0)=false):∀q∈Ga p,mE q:=fun q hq=>ck_op (eS (rst_0 h).2.2 q hq)
def aT (q:Pt):Int:=if decide (8≤q.op) then 1 else 0
theorem vP {p:Pt}(h:(Jg p != 0)=true):Ml p=Jg p:=if_pos h
theorem vH {p:Pt}(h:(Jg p != 0)=false):Ml p=Ca aT (Ga p):=by
 rw [show Ca aT (Ga p)=_ from Vw _ _];exact Bu h
theorem whl_0 {p:Pt}(h:(Ml p != 0)=false):(Jg p != 0)=false:=by
 cases hr:Jg p != 0 with
 | false=>rfl
 | true=>rw [vP hr,hr] at h;exact absurd h (by decide)
theorem chk_1 {p:Pt}(h:(Ml p != 0)=true):Pv p=Ml p:=if_pos h
theorem chk_2 {p:Pt}(h:(Ml p != 0)=false)(h2:(!(Kg p).ok)=true):Pv p=14:=(Bu h).trans (if_pos h2)
theorem chk_3 {p:Pt}(h:(Ml p != 0)=false)(h2:(!(Kg p).ok)=false):Pv p=0:=(Bu h).trans (Bu h2)
def Vv (c:Cnt)(n:Nat):Prop:=0≤c.vars∧0≤c.scopes∧c.vars+n≤3000000∧c.scopes+n≤3000000
theorem pF (c:Cnt)(n m:Nat)(h:Vv c n)(hm:m≤n):Vv c m:=⟨h.1,h.2.1,by have:=h.2.2.1;omega,by have:=h.2.2.2;omega⟩
theorem kF (c:Cnt)(q:Pt)(n:Nat)(h:Vv c (n+1)):Vv (Jz c q) n:=by
 obtain ⟨h1,h2,h3,h4⟩:=h
 unfold Jz Vv
 refine ⟨?_,?_,?_,?_⟩ <;> simp only <;> split <;> omega
theorem dY:∀(l:List Pt) (c:Cnt),Mx (fun _=>true) Jz c l=l.foldl Jz c
 | [],c=>rfl
 | a::r,c=>by rw [Mx,if_pos rfl,dY r,List.foldl_cons]
section
variable {c:Cnt} {q:Pt}
theorem stp_yy (h1:(Oj q.op).typed=true)(h2:(Oj q.op).scope=true):(⟨c.vars+1,c.scopes+1,(c.ok&&(q.var==c.vars))&&(q.scope==c.scopes)⟩:Cnt)=Jz c q:=by unfold Jz;rw [h1,h2];simp
theorem yD (h1:(Oj q.op).typed=true)(h2:(Oj q.op).scope=false):(⟨c.vars+1,c.scopes,c.ok&&(q.var==c.vars)⟩:Cnt)=Jz c q:=by unfold Jz;rw [h1,h2];simp
theorem zU (h1:(Oj q.op).typed=false)(h2:(Oj q.op).scope=true):(⟨c.vars,c.scopes+1,c.ok&&(q.scope==c.scopes)⟩:Cnt)=Jz c q:=by unfold Jz;rw [h1,h2];simp
theorem Aaa (h1:(Oj q.op).typed=false)(h2:(Oj q.op).scope=false):(⟨c.vars,c.scopes,c.ok⟩:Cnt)=Jz c q:=by unfold Jz;rw [h1,h2];simp
end

structure Qy where
 name:Aq
 vars:List Va
 key:List Int
 pattern:Pt
 returns:List Ex
def Yy:Qy:=⟨[],[],[],pt0,[]⟩
@[reducible] def cQyW (q : Qy) (rs : AV) : List AV := [.str q.name, .sl 2 (q.vars.map O1), .sl 1 (q.key.map cI), .int .i64 q.pattern.op, .sl 14 (q.pattern.args.map Si), .int .i64 q.pattern.type, .int .i64 q.pattern.var, .int .i64 q.pattern.scope, .int .i64 q.pattern.span, .int .i64 q.pattern.cond.op, .sl 8 (q.pattern.cond.args.map L2), .int .i64 q.pattern.cond.var, .int .i64 q.pattern.cond.field, .int .i64 q.pattern.cond.kind, .int .i64 q.pattern.cond.val.kind, .int .i64 q.pattern.cond.val.num, .str q.pattern.cond.val.text, rs]
@[reducible] def cQy (q : Qy) : List AV := cQyW q (.sl 8 (q.returns.map L2))

section
variable {T:List e8Sc} {V:List Va}
theorem fZ (t:Syn)(xs:List Ex):Cq (Ls T V t xs)≤1+(xs.map Cq).sum:=by
 unfold Ls
 split
 · rw [Gc];simp
 ·
  split
  · split <;> · rw [Gc];simp
  ·
   split
   · rw [Gc];simp
   ·
    split
    · rw [Gc];simp
    · split <;> · rw [Gc];exact Nat.le_refl _
theorem Rh:∀t:Syn,Cq (Eb T V t)≤Dz t:=by
  intro t
  induction t using Syn.ind with
  | h t ih=>
    rw [Hn,Du]
    refine Nat.le_trans (fZ t _) ?_
    have:∀l:List Syn,(∀a∈l,Cq (Eb T V a)≤Dz a)→((l.map (Eb T V)).map Cq).sum≤Dt l:=by
      intro l
      induction l with
      | nil=>intro _;exact Nat.zero_le _
      | cons x r ih2=>intro h;rw [List.map_cons,List.map_cons,List.sum_cons,Fb];have:=h x (by simp);have:=ih2 fun a ha=>h a (by simp [ha]);omega
    have:=this _ ih
    omega
theorem Wr (t:Syn):Cq (Ju T V t)≤Dz t:=by
 unfold Ju
 split
 ·
  rename_i h
  have h0:0<t.kids.length:=by have:=of_decide_eq_true h;omega
  have:=Xr (List.mem_of_getElem? (Es h0))
  have h2:=Rh (T:=T) (V:=V) (Bn t 0)
  rw [Du];omega
 · rw [show Cq N7=1 from rfl,Du];omega
theorem mQ {t:Syn}{s:Nx}(xs:List Pt)(hc:Bg t .pats=0):Cq (Ki T V t s xs).cond≤Dz t:=by
 have h1:1≤Dz t:=by rw [Du];omega
 have hk:∀j,j<t.kids.length→Dz (Bn t j)≤Dz t:=fun j h=>by
  have:=Xr (List.mem_of_getElem? (Es h))
  have h9:=Du t
  omega
 unfold Ki
 split
 · exact Wr t
 ·
  split
  ·
   rename_i hq
   have h2:=Na hc (.inl (by simpa using hq))
   exact Nat.le_trans (Wr (Bn t 1)) (hk 1 (by omega))
  ·
   split
   · exact h1
   ·
    split
    ·
     rename_i hq
     have h2:=Na hc (.inr (by simpa using hq))
     exact Nat.le_trans (Rh (Bn t 1)) (hk 1 (by omega))
    · exact h1
theorem mI:∀t:Syn,Bg t .pats=0→∀s:Nx,Hq (Gl T V t s).1≤Dz t∧∀q∈Ga (Gl T V t s).1,Cq q.cond≤Dz t:=by
  intro t
  induction t using Syn.ind with
  | h t ih=>
    intro hc s
    have key:∀l:List Syn,(∀a∈l,a∈Ew t)→∀s:Nx,((Ek T V l s).1.map Hq).sum≤Dt l∧∀q∈(Ek T V l s).1.flatMap Ga,Cq q.cond≤Dt l:=by
      intro l
      induction l with
      | nil=>intro _ s;rw [Ek];exact ⟨Nat.zero_le _,fun q h=>by simp at h⟩
      | cons x r ih2=>
        intro hl s
        have hx:=ih x (Um (hl x (by simp))) (Yp hc (hl x (by simp))) s
        have hr:=ih2 (fun a ha=>hl a (by simp [ha])) (Gl T V x s).2
        rw [Ek,Fb]
        refine ⟨by simp only [List.map_cons,List.sum_cons];have:=hx.1;have:=hr.1;omega,fun q hq=>?_⟩
        simp only [List.flatMap_cons] at hq
        rcases List.mem_append.1 hq with hq | hq
        · have:=hx.2 q hq;omega
        · have:=hr.2 q hq;omega
    have hk:=key (Ew t) (fun a ha=>ha) (Q9 t s)
    have hp:=S0 t
    rw [T4]
    refine ⟨by rw [Jc,Du];simp only;have:=hk.1;omega,fun q hq=>?_⟩
    rw [Q6] at hq
    rcases List.mem_cons.1 hq with rfl | hq
    · simp only;exact mQ [] hc
    · have:=hk.2 q hq;rw [Du];omega
theorem sJ {t:Syn}(ht:Eg t)(hc:Bg t .pats=0)(s:Nx):medP (Gl T V t s).1:=by
 have h:=mI (T:=T) (V:=V) t hc s
 have hm:=H8 ht
 exact ⟨by have:=h.1;omega,fun q hq=>by have:=h.2 q hq;omega⟩
end

structure TsOK (T:List e8Sc):Prop where
 tl:T.length≤1048576
 fl:∀s∈T,s.fields.length≤1048576
 nd:(Gb T).Nodup
theorem uW {T:List e8Sc}{t:Syn}(h:(Gb T).contains t.text=true):0≤(P7 T t).type∧(P7 T t).type<(T.length:Int):=by
 have:=I6 h
 rw [List.length_map] at this
 exact this
theorem Wa {T:List e8Sc}{V:List Va}{t:Syn}(h:(In T V t != 0)=false):(Gb T).contains t.text=true∧(Ic V).contains t.name=false∧V.length≠16:=by
 have h0:In T V t=0:=by simpa using h
 unfold In at h0
 split at h0
 · cases h0
 ·
  rename_i h1
  split at h0
  · cases h0
  ·
   rename_i h2
   split at h0
   · cases h0
   ·
    rename_i h3
    exact ⟨by simpa using h2,by simpa using h3,fun e=>h1 (by simp [e])⟩
theorem Zc {T:List e8Sc}:∀(l:List Syn) (V:List Va),V.length≤16→(∀v∈V,0≤v.type∧v.type<(T.length:Int))→(Km T V l).1.length≤16∧∀v∈(Km T V l).1,0≤v.type∧v.type<(T.length:Int)
  | [],V,h1,h2=>⟨h1,h2⟩
  | t::r,V,h1,h2=>by
    rw [M3]
    cases hq:In T V t != 0 with
    | true=>rw [if_pos rfl];exact ⟨h1,h2⟩
    | false=>
      rw [Bu rfl]
      have hd:=Wa hq
      refine Zc r _ (by rw [List.length_append,List.length_singleton];have:=hd.2.2;omega) fun v hv=>?_
      rcases List.mem_append.1 hv with hv | hv
      · exact h2 v hv
      · rw [List.mem_singleton.1 hv];exact uW hd.1
theorem yV {T:List e8Sc}(hT:TsOK T)(l:List Syn):RvOK T (Km T [] l).1:=by
 have h:=Zc (T:=T) l [] (by simp) (fun v hv=>(List.not_mem_nil hv).elim)
 exact ⟨hT.tl,hT.fl,by have:=h.1;omega,h.2⟩
theorem gA {t:Syn}(h:Bg t .pats=0)(h5:t.kind≠5):0<t.kids.length:=by
 have hs:=(Hi (Hm h).1).2.1
 have hr:=Qv h
 unfold Dr at hs
 have:t.kind=6∨t.kind=7∨t.kind=8∨t.kind=9∨t.kind=10∨t.kind=11∨t.kind=12:=by omega
 rcases this with hk | hk | hk | hk | hk | hk | hk <;> · rw [hk] at hs;simp at hs;omega
theorem qB:∀t:Syn,Bg t .pats=0→Pb t≠[]:=by
  intro t
  induction t using Syn.ind with
  | h t ih=>
    intro hc
    rw [Q1]
    split
    · simp
    · rename_i h5
      have h5':t.kind≠5:=by simpa using h5
      have hl:=gA hc h5'
      have hk:=Es hl
      have hm:=List.mem_of_getElem? hk
      have h0:=ih _ hm (M4 hc h5' hk fun _=>rfl)
      split
      · simp
      · split
        · rw [Xs hl];exact h0
        · intro he
          rw [List.flatMap_eq_nil_iff] at he
          exact h0 (he _ hm)
theorem rU {T:List e8Sc}{l:List Syn}(hl:l≠[])(h:((Km T [] l).2.err != 0)=false):0<T.length:=by
  cases l with
  | nil=>exact (hl rfl).elim
  | cons t r=>
    rw [M3] at h
    cases hq:In T [] t != 0 with
    | true=>rw [if_pos hq] at h;simp only at h;rw [hq] at h;cases h
    | false=>
      have:=I6 (Wa hq).1
      rw [List.length_map] at this
      omega

section
variable (T:List e8Sc) (t:Syn)
def Pz:List Va:=(Km T [] (Pb (Bn t 1))).1
def vfR:Fa:=(Km T [] (Pb (Bn t 1))).2
def pQ (V:List Va):List Int×Bool:=if ((Bn t 0).text != []) then bB T V (Bn t 0).text else ([],true)
def rtF (V:List Va)(x:Syn):Fa:=if (Cj (Eb T V x) != 0) then ⟨x.pos,Cj (Eb T V x)⟩ else Mq
def xI (V:List Va):Pt:=(Gl T V (Bn t 1) ⟨0,0⟩).1
def qyR (V:List Va):Qy:=⟨t.text,V,(pQ T t V).1,xI T t V,(t.kids.drop 2).map (Eb T V)⟩
def QR4 (V:List Va):Qy×Fa:=if ((Ir (rtF T V) (t.kids.drop 2)).err != 0) then (Yy,Ir (rtF T V) (t.kids.drop 2)) else (qyR T t V,Mq)
def QR3 (V:List Va):Qy×Fa:=if (Pv (xI T t V) != 0) then (Yy,⟨(Bn t 1).pos,Pv (xI T t V)⟩) else QR4 T t V
def QR2 (V:List Va):Qy×Fa:=if ((Fj T V t).err != 0) then (Yy,Fj T V t) else QR3 T t V
def QR1 (V:List Va):Qy×Fa:=if (!(pQ T t V).2) then (Yy,⟨(Bn t 0).pos,16⟩) else QR2 T t V
def F8:Qy×Fa:=if ((vfR T t).err != 0) then (Yy,vfR T t) else QR1 T t (Pz T t)
end
section
variable {T:List e8Sc} {t:Syn} {V:List Va}
theorem qr_1 (h:((vfR T t).err != 0)=true):F8 T t=(Yy,vfR T t):=if_pos h
theorem oN (h:((vfR T t).err != 0)=false):F8 T t=QR1 T t (Pz T t):=Bu h
theorem cW (h:((Bn t 0).text != [])=true):pQ T t V=bB T V (Bn t 0).text:=if_pos h
theorem wS (h:((Bn t 0).text != [])=false):pQ T t V=([],true):=Bu h
theorem qr_2 (h:(!(pQ T t V).2)=true):QR1 T t V=(Yy,⟨(Bn t 0).pos,16⟩):=if_pos h
theorem tB (h:(!(pQ T t V).2)=false):QR1 T t V=QR2 T t V:=Bu h
theorem qr_3 (h:((Fj T V t).err != 0)=true):QR2 T t V=(Yy,Fj T V t):=if_pos h
theorem zP (h:((Fj T V t).err != 0)=false):QR2 T t V=QR3 T t V:=Bu h
theorem qr_4 (h:(Pv (xI T t V) != 0)=true):QR3 T t V=(Yy,⟨(Bn t 1).pos,Pv (xI T t V)⟩):=if_pos h
theorem qr_e (h:(Pv (xI T t V) != 0)=false):QR3 T t V=QR4 T t V:=Bu h
theorem lW {x:Syn}(h:(Cj (Eb T V x) != 0)=true):rtF T V x=⟨x.pos,Cj (Eb T V x)⟩:=if_pos h
theorem rt_no {x:Syn}(h:(Cj (Eb T V x) != 0)=false):rtF T V x=Mq:=Bu h
theorem qr_5 {k:Nat}{x:Syn}(ha:(t.kids.drop 2)[k]? = some x)(hn:((t.kids.drop 2).take k).any (fun x=>(rtF T V x).err != 0)=false)(h:(Cj (Eb T V x) != 0)=true):QR4 T t V=(Yy,⟨x.pos,Cj (Eb T V x)⟩):=by
 have h1:=Tv ha hn (by rw [lW h];exact h)
 unfold QR4
 rw [h1,lW h]
 exact if_pos h
theorem qr_6 (hn:(t.kids.drop 2).any (fun x=>(rtF T V x).err != 0)=false):QR4 T t V=(qyR T t V,Mq):=by
 unfold QR4
 rw [Q5 hn];rfl
structure QryOK (t:Syn):Prop where
 m:Eg t
 c:Bg t (.only 3)=0
theorem QryOK.kind (h:QryOK t):t.kind=3:=Ie (Hi (Hm h.c).1).1
theorem QryOK.len (h:QryOK t):3≤t.kids.length:=by
 have hs:=(Hi (Hm h.c).1).2.1
 unfold Dr at hs
 rw [h.kind] at hs;simp at hs;omega
theorem QryOK.pat (h:QryOK t):Bg (Bn t 1) .pats=0:=by
 have hk:=(H1 h.c (Es (k:=1) (by have:=h.len;omega))).1
 unfold Ee at hk
 rw [h.kind] at hk;exact hk
theorem QryOK.med1 (h:QryOK t):Eg (Bn t 1):=Sp h.m (by have:=h.len;omega)
theorem QryOK.evl (h:QryOK t):(Pb (Bn t 1)).length≤1048576:=by
 have:=Xx (Bn t 1)
 have:=H8 h.med1
 omega
end

section
variable (T:List e8Sc) (t:Syn)
def Sm:Qy×Int×Int:=if (F2 T != 0) then (Yy,0,F2 T) else if ((Bo t (.only 3)).2 != 0) then (Yy,0,3) else ((F8 T t).1,(F8 T t).2.pos,(F8 T t).2.err)
theorem qp_1 (h:(F2 T != 0)=true):Sm T t=(Yy,0,F2 T):=if_pos h
theorem qp_2 (h:(F2 T != 0)=false)(h2:((Bo t (.only 3)).2 != 0)=true):Sm T t=(Yy,0,3):=(Bu h).trans (if_pos h2)
theorem kY (h:(F2 T != 0)=false)(h2:((Bo t (.only 3)).2 != 0)=false):Sm T t=((F8 T t).1,(F8 T t).2.pos,(F8 T t).2.err):=(Bu h).trans (Bu h2)
end
theorem Yr {t:Syn}{p:Pl}(h:((Bo t p).2 != 0)=false):Bg t p=0:=by
  cases hc:Bg t p != 0 with
  | false=>simpa using hc
  | true=>
    have:(Bo t p).2=Bg t p:=by unfold Bo;rw [if_pos hc]
    rw [this,hc] at h;cases h
theorem Ov:∀(l:List e8Sc) (seen:List (List UInt8)),Jq seen l=0→seen.Nodup→(seen++l.map (·.name)).Nodup∧∀s∈l,Kc s=0
  | [],seen,h,hn=>⟨by simpa using hn,fun s hs=>(List.not_mem_nil hs).elim⟩
  | s::r,seen,h,hn=>by
    rw [Jq] at h
    split at h
    · rename_i h1;rw [h] at h1;cases h1
    · rename_i h1
      have h0:Iu seen s=0:=by simpa using h1
      have hc:s.name∉seen:=by
        intro hm
        unfold Iu at h0
        split at h0
        · rename_i h2;rw [h0] at h2;cases h2
        · rename_i h2
          rw [if_pos (by simpa using hm)] at h0;cases h0
      have hz:Kc s=0:=by
        unfold Iu at h0
        split at h0
        · rename_i h2;rw [h0] at h2;cases h2
        · rename_i h2;simpa using h2
      have ih:=Ov r (seen ++ [s.name]) h (List.nodup_append.2 ⟨hn,by simp,fun a ha b hb=>by rw [List.mem_singleton.1 hb];exact fun e=>hc (e▸ha)⟩)
      refine ⟨by simpa using ih.1,fun x hx=>?_⟩
      rcases List.mem_cons.1 hx with rfl | hx
      · exact hz
      · exact ih.2 x hx
theorem Aak {T:List e8Sc}(h:(F2 T != 0)=false):T.length≤16∧(Gb T).Nodup∧∀s∈T,Kc s=0:=by
 have h0:F2 T=0:=by simpa using h
 unfold F2 at h0
 split at h0
 · cases h0
 ·
  rename_i h1
  have:=Ov T [] h0 List.nodup_nil
  exact ⟨by have:=h1;simp at this;omega,by simpa using this.1,this.2⟩
theorem vA {s:e8Sc}(h:Kc s=0):s.fields.length≤8:=by
 unfold Kc at h
 split at h
 · cases h
 ·
  split at h
  · cases h
  · rename_i h2;simp at h2;omega
theorem yH {T:List e8Sc}(h:(F2 T != 0)=false):TsOK T:=by
 obtain ⟨h1,h2,h3⟩:=Aak h
 exact ⟨by omega,fun s hs=>by have:=vA (h3 s hs);omega,h2⟩

def Dw:List Fi→List Syn→List Fi×Fa
 | fs,[]=>(fs,Mq)
 | fs,x::r=>if ((fs.length:Int)==8) then (fs,⟨x.pos,5⟩) else if (fs.map (·.name)).contains x.text then (fs,⟨x.pos,7⟩) else Dw (fs ++ [⟨x.text,x.num⟩]) r
def Ep:List e8Sc→List Syn→List e8Sc×Fa
  | out,[]=>(out,Mq)
  | out,k::r=>
    if (k.kind != 1) then Ep out r
    else if ((out.length:Int)==16) then ([],⟨k.pos,5⟩)
    else if (Gb out).contains k.text then ([],⟨k.pos,7⟩)
    else if ((Dw [] k.kids).2.err != 0) then ([],(Dw [] k.kids).2)
    else Ep (out ++ [⟨k.text,(Dw [] k.kids).1⟩]) r
def Mh (t:Syn):List e8Sc×Fa:=Ep [] t.kids
section
variable {out:List e8Sc} {l:List Syn} {k:Nat} {a:Syn}
theorem Zl (ha:l[k]? = some a)(h:(a.kind != 1)=true):Ep out (l.drop k)=Ep out (l.drop (k+1)):=by rw [Bj ha,Ep,if_pos h]
theorem typ_5 (ha:l[k]? = some a)(h:(a.kind != 1)=false)(h2:((out.length:Int)==16)=true):Ep out (l.drop k)=([],⟨a.pos,5⟩):=by rw [Bj ha,Ep,Bu h,if_pos h2]
theorem typ_7 (ha:l[k]? = some a)(h:(a.kind != 1)=false)(h2:((out.length:Int)==16)=false)(h3:(Gb out).contains a.text=true):Ep out (l.drop k)=([],⟨a.pos,7⟩):=by rw [Bj ha,Ep,Bu h,Bu h2,if_pos h3]
theorem xA (ha:l[k]? = some a)(h:(a.kind != 1)=false)(h2:((out.length:Int)==16)=false)(h3:(Gb out).contains a.text=false):Ep out (l.drop k)=if ((Dw [] a.kids).2.err != 0) then ([],(Dw [] a.kids).2) else Ep (out ++ [⟨a.text,(Dw [] a.kids).1⟩]) (l.drop (k+1)):=by rw [Bj ha,Ep,Bu h,Bu h2,Bu h3]
theorem vS (ha:l[k]? = some a)(h:(a.kind != 1)=false)(h2:((out.length:Int)==16)=false)(h3:(Gb out).contains a.text=false){fs:List Fi}{f:Fa}(hf:Dw [] a.kids=(fs,f))(he:f.err≠0):Ep out (l.drop k)=([],f):=by
 rw [xA ha h h2 h3,hf];exact if_pos (by simpa using he)
theorem xT (ha:l[k]? = some a)(h:(a.kind != 1)=false)(h2:((out.length:Int)==16)=false)(h3:(Gb out).contains a.text=false){fs:List Fi}(hf:Dw [] a.kids=(fs,Mq)):Ep out (l.drop k)=Ep (out ++ [⟨a.text,fs⟩]) (l.drop (k+1)):=by
 rw [xA ha h h2 h3,hf];rfl
variable {fs:List Fi}
theorem vJ (ha:l[k]? = some a)(h:((fs.length:Int)==8)=true):Dw fs (l.drop k)=(fs,⟨a.pos,5⟩):=by rw [Bj ha,Dw,if_pos h]
theorem wZ (ha:l[k]? = some a)(h:((fs.length:Int)==8)=false)(h2:(fs.map (·.name)).contains a.text=true):Dw fs (l.drop k)=(fs,⟨a.pos,7⟩):=by rw [Bj ha,Dw,Bu h,if_pos h2]
theorem oP (ha:l[k]? = some a)(h:((fs.length:Int)==8)=false)(h2:(fs.map (·.name)).contains a.text=false):Dw fs (l.drop k)=Dw (fs ++ [⟨a.text,a.num⟩]) (l.drop (k+1)):=by rw [Bj ha,Dw,Bu h,Bu h2]
end
theorem scFi (l:List Fi):∀c∈l.map cT,Ba c=true:=fun c hc=>by
 obtain ⟨x,_,rfl⟩:=List.mem_map.1 hc
 rfl
theorem scSc (l:List e8Sc):∀c∈l.map G7,Ba c=true:=fun c hc=>by
 obtain ⟨x,_,rfl⟩:=List.mem_map.1 hc
 rfl
theorem oY {n:Nat}(h:n≤16)(h2:((n:Int)==16)=false):n+1≤16:=by
 have:n≠16:=fun e=>by subst e;exact absurd h2 (by decide)
 omega
theorem xJ {n:Nat}(h:n≤8)(h2:((n:Int)==8)=false):n+1≤8:=by
 have:n≠8:=fun e=>by subst e;exact absurd h2 (by decide)
 omega

def Ok (t:Syn):List e8Sc×Int×Int:=if ((Bo t (.only 0)).2 != 0) then ([],0,3) else ((Mh t).1,(Mh t).2.pos,(Mh t).2.err)
theorem tp_1 {t:Syn}(h:((Bo t (.only 0)).2 != 0)=true):Ok t=([],0,3):=if_pos h
theorem tp_2 {t:Syn}(h:((Bo t (.only 0)).2 != 0)=false):Ok t=((Mh t).1,(Mh t).2.pos,(Mh t).2.err):=Bu h

theorem Ve:∀(l:List Syn) (fs:List Fi),fs.length≤8→(Dw fs l).1.length≤8
  | [],fs,h=>h
  | x::r,fs,h=>by
    rw [Dw]
    split
    · exact h
    · rename_i h1
      split
      · exact h
      · exact Ve r _ (by rw [List.length_append,List.length_singleton];exact xJ h (by simpa using h1))
theorem Ts:∀(l:List Syn) (out:List e8Sc),(out.length≤16∧(∀s∈out,s.fields.length≤8)∧(Gb out).Nodup)→((Ep out l).1.length≤16∧(∀s∈(Ep out l).1,s.fields.length≤8)∧(Gb (Ep out l).1).Nodup)
  | [],out,h=>h
  | k::r,out,h=>by
    have hz:(([]:List e8Sc).length≤16∧(∀s∈([]:List e8Sc),s.fields.length≤8)∧(Gb []).Nodup):=⟨Nat.zero_le _,fun s hs=>(List.not_mem_nil hs).elim,List.nodup_nil⟩
    rw [Ep]
    split
    · exact Ts r out h
    · split
      · exact hz
      · rename_i h2
        split
        · exact hz
        · rename_i h3
          split
          · exact hz
          · refine Ts r _ ⟨by rw [List.length_append,List.length_singleton];exact oY h.1 (by simpa using h2),fun s hs=>?_,?_⟩
            · rcases List.mem_append.1 hs with hs | hs
              · exact h.2.1 s hs
              · rw [List.mem_singleton.1 hs];exact Ve _ _ (Nat.zero_le _)
            · have h3':k.text∉Gb out:=by simpa using h3
              show (List.map (·.name) (out ++ [_])).Nodup
              rw [List.map_append]
              exact List.nodup_append.2 ⟨h.2.2,by simp,fun a ha b hb=>by rw [List.mem_singleton.1 hb];exact fun e=>h3' ((show a=k.text from e)▸ha)⟩
theorem typ_ok (t:Syn):(Mh t).1.length≤16∧(∀s∈(Mh t).1,s.fields.length≤8)∧(Gb (Mh t).1).Nodup:=Ts t.kids [] ⟨Nat.zero_le _,fun s hs=>(List.not_mem_nil hs).elim,List.nodup_nil⟩
structure Pg where
 types:List e8Sc
 queries:List Qy
def pg0:Pg:=⟨[],[]⟩
@[reducible] def cPg (p : Pg) : List AV := [.sl 2 (p.types.map G7), .sl 18 (p.queries.map cQy)]
def Vn (T:List e8Sc):List Qy→List Syn→List Qy×Fa
  | qs,[]=>(qs,Mq)
  | qs,k::r=>
    if (k.kind != 3) then Vn T qs r
    else if ((qs.length:Int)==16) then ([],⟨k.pos,5⟩)
    else if (qs.map (·.name)).contains k.text then ([],⟨k.pos,7⟩)
    else if ((F8 T k).2.err != 0) then ([],(F8 T k).2)
    else Vn T (qs ++ [(F8 T k).1]) r
section
variable {T:List e8Sc} {qs:List Qy} {l:List Syn} {k:Nat} {a:Syn}
end
def PrgT (t:Syn)(T:List e8Sc):Pg×Int×Int:=if ((Vn T [] t.kids).2.err != 0) then (pg0,(Vn T [] t.kids).2.pos,(Vn T [] t.kids).2.err) else (⟨T,(Vn T [] t.kids).1⟩,0,0)
def PrgP (t:Syn):Pg×Int×Int:=if ((Bo t (.only 0)).2 != 0) then (pg0,0,3) else if ((Mh t).2.err != 0) then (pg0,(Mh t).2.pos,(Mh t).2.err) else PrgT t (Mh t).1
section
variable {t:Syn}
end

mutual
def yP (L:Nat):Pt→Nat
 | ⟨_,xs,_,_,_,_,_⟩=>vF L xs 1
def vF (L:Nat):List Pt→Nat→Nat
 | [],n=>n
 | a::r,n=>if n≤L then vF L r (n+yP L a) else n
end
def dF (p:Pt):Bool:=(p.op==5)||(p.op==9)
def Y5 (p:Pt):Bool:=(p.op==6)||(p.op==10)
def iT (p:Pt):Bool:=(p.op==0)||dF p
def conB (p:Pt):Bool:=iT p||(p.op==7)
def ariB (p:Pt):Bool:=
 if (p.op==0) then ((p.args.length:Int)==0)
 else if ((p.op==1)||(p.op==2))||(p.op==3) then decide (2≤(p.args.length:Int))
 else if (p.op==8) then ((p.args.length:Int)==2) else ((p.args.length:Int)==1)
def uV (u:Bool)(n m:Int):Bool:=u&&(decide (n<0)||decide (m<n))
def nbB (p:Pt):Bool:=((uV (iT p) p.type 15||uV (iT p) p.var 15)||uV (dF p||Y5 p) p.scope 63)||uV (Y5 p) p.span 1099511627776
def nuB (p:Pt):Bool:=(((!iT p&&((p.type != 0)||(p.var != 0)))||(!(dF p||Y5 p)&&(p.scope != 0)))||(!Y5 p&&(p.span != 0)))||(!conB p && !E2 p.cond Sk)
def ndR (p:Pt):Int:=
 if decide (p.op<0)||decide (10<p.op) then 1
 else if !ariB p then 15
 else if nbB p then 2
 else if conB p&&(Cj p.cond != 0) then Cj p.cond
 else if nuB p then 3 else 0
section
variable {p:Pt}
end
def rstR (p:Pt):Int:=if decide ((64:Int)<(yP 64 p:Int)) then 5 else if decide ((12:Int)<(Yo p:Int)) then 12 else Ca ndR (Ga p)
def goC:Int→Int→List Pt→Int
  | _,_,[]=>0
  | v,s,q::r=>
    if iT q&&(q.var != v) then 14
    else if (dF q||Y5 q)&&(q.scope != s) then 14
    else goC (if iT q then v+1 else v) (if dF q||Y5 q then s+1 else s) r
def prpB (l:List Pt):Bool:=!l.any (fun q=>decide (8≤q.op))
def chkR (p:Pt):Int:=if (rstR p != 0) then rstR p else if !prpB (Ga p) then 1 else goC 0 0 (Ga p)
section
variable {v s:Int} {l:List Pt} {k:Nat} {a:Pt}
end

def hdP (a b:Pt):Bool:=((((((a.op != b.op)||(a.type != b.type))||(a.var != b.var))||(a.scope != b.scope))||(a.span != b.span)) || !E2 a.cond b.cond)||((a.args.length:Int) != (b.args.length:Int))
mutual
def smP:Pt→Pt→Bool
 | ⟨o,xs,t,v,s,n,c⟩,b=>if hdP ⟨o,xs,t,v,s,n,c⟩ b then false else smPs xs b.args
def smPs:List Pt→List Pt→Bool
 | [],_=>true
 | a::r,l=>if !smP a (l.headD pt0) then false else smPs r l.tail
end
def siL:List Int→List Int→Bool
 | [],_=>true
 | a::r,l=>if a != l.headD 0 then false else siL r l.tail
def siB (a b:List Int):Bool:=if ((a.length:Int) != (b.length:Int)) then false else siL a b
def fewX (e:Ex):Bool:=decide (Cq e≤200∧E1 e≤100)
def fewP (p:Pt):Bool:=if decide ((150:Int)<(yP 150 p:Int))||decide ((60:Int)<(Yo p:Int)) then false else (Ga p).all fun q=>fewX q.cond
end Go.Proofs.YtckhoadldibflaaGreatDoor
