/-
  Several texts in one: S53, Au, S51, S54, S55, S56. No condition.
-/
import Derived.Test.YtjedflcpjlgokaaGreatDoorK21
import Derived.Test.YtjedflcpjlgokaaGreatDoorK10
import Derived.Test.YtjedflcpjlgokaaGreatDoorK17
set_option linter.unusedVariables false
set_option linter.unusedSimpArgs false
namespace Go.Proofs.YtjedflcpjlgokaaGreatDoor
open Go Go.Aw

def We:Ex→Nat:=Or fun e ns=>if e.args.isEmpty then 1 else ns.sum
theorem iF (e:Ex):We e=if e.args.isEmpty then 1 else (e.args.map We).sum:=P5 _ e
theorem lv_nil {e:Ex}(h:e.args = []):We e=1:=by rw [iF,h];rfl
theorem pM {e:Ex}(h:e.args.length=1):We e=We (Ap e):=by rw [iF,Ye h];simp
theorem R0 {e:Ex}(h:e.args.length=2):We e=We (Ap e)+We (B3 e):=by rw [iF,Rn h];simp
theorem gH {e:Ex}(h:Bq e=0):e.args = []∨e.args.length=1∨e.args.length=2:=by
 obtain ⟨h0,h1,h2⟩:=Fw h
 unfold Dp at h2
 split at h2
 · omega
 split at h2
 · left;exact List.eq_nil_of_length_eq_zero (by omega)
 split at h2
 · right;left;omega
 · right;right;omega
theorem T3 (e:Ex):Ci e=0→1≤We e∧2*We e≤Av e+1:=by
 refine Ex.Aa8 (P:=fun e=>Ci e=0→1≤We e∧2*We e≤Av e+1) (fun e ih h=>?_) e
 have hz:=A9 h
 rcases gH hz.1 with h1 | h1 | h1
 · rw [lv_nil h1,Dj];omega
 ·
  have m0:=Ax (show 0<e.args.length by omega)
  have i0:=ih _ m0 (hz.2 _ m0)
  rw [pM h1,Dj,Ye h1]
  simp;omega
 ·
  have m0:=Ax (show 0<e.args.length by omega)
  have m1:=Bf (show 1<e.args.length by omega)
  have i0:=ih _ m0 (hz.2 _ m0)
  have i1:=ih _ m1 (hz.2 _ m1)
  rw [R0 h1,Dj,Rn h1]
  simp;omega
section
variable {T:List Sc} {V:List Va}
def tP (c:List Lit):Nat:=(c.map fun y=>We y.cond).sum
theorem vW (a b:List Lit):tP (a++b)=tP a+tP b:=by unfold tP;rw [List.map_append,List.sum_append]
theorem Ub (y:Lit)(r:List Lit):tP (y::r)=We y.cond+tP r:=by unfold tP;rw [List.map_cons,List.sum_cons]
def Vq (k:Nat)(c:Cs):Prop:=∀x∈c.1,tP x≤k
theorem Vc {m n:Nat}{a b:Cs}(ha:Vq m a)(hb:Vq n b):Vq (m+n) (Dy a b):=by
 unfold Dy
 split
 · intro x hx;cases hx
 ·
  unfold Kg
  split
  · intro x hx;cases hx
  ·
   intro x hx
   obtain ⟨p,hp,hm⟩:=List.mem_flatMap.1 hx
   obtain ⟨q,hq,rfl⟩:=List.mem_map.1 hm
   have:=ha p hp;have:=hb q hq
   rw [vW];omega
theorem kH {k:Nat}{a b:Cs}(ha:Vq k a)(hb:Vq k b):Vq k (Hf a b):=by
 unfold Hf
 split
 · intro x hx;cases hx
 ·
  intro x hx
  rcases List.mem_append.1 hx with h | h
  · exact ha x h
  · exact hb x h
theorem jG {m k:Nat}{a:Cs}(h:Vq m a)(hm:m≤k):Vq k a:=fun x hx=>Nat.le_trans (h x hx) hm
theorem Xm {k:Nat}{l:List Lit}(h:∀y∈l,We y.cond≤k):Vq k (Dn l):=by
 intro x hx
 unfold Dn at hx
 obtain ⟨z,hz,rfl⟩:=List.mem_map.1 hx
 rw [Ub]
 have:=h z hz
 show _+0≤k
 omega
theorem cP (e:Ex):KOK T V e→∀s,Vq (We e) (Bw T V e s):=by
 refine Ex.Aa8 (P:=fun e=>KOK T V e→∀s,Vq (We e) (Bw T V e s)) (fun e ih hk s=>?_) e
 rcases Gz s hk with h | ⟨h,hl⟩ | ⟨h,hl⟩ | ⟨h,hl,h1⟩ | ⟨h,hl,h1,h2⟩ | ⟨_,_,_,h,_⟩
 ·
  cases h1:((e.val.num==1)==s) with
  | true=>rw [Eh h h1];intro x hx;rw [List.mem_singleton.1 hx];exact Nat.zero_le _
  | false=>rw [Ef h h1];intro x hx;cases hx
 ·
  have h12:e.op=12:=by simpa using h
  rw [Ed hl h,pM (len1 hk h12)]
  exact ih _ (Ax hl) (An hk (Ax hl)) _
 ·
  have ho:e.op=10∨e.op=11:=by simpa using h
  have h2:=Wu hk (by omega) (by omega)
  have m0:=Ax (show 0<e.args.length by omega)
  have m1:=Bf hl
  have i0:=ih _ m0 (An hk m0) s
  have i1:=ih _ m1 (An hk m1) s
  rw [R0 h2]
  cases h1:((e.op==10)==s) with
  | true=>rw [Ei hl h h1];exact Vc i0 i1
  | false=>rw [Eg hl h h1];exact kH (jG i0 (by omega)) (jG i1 (by omega))
 ·
  have ho:e.op=9:=by simpa using h
  have h2:=Wu hk (by omega) (by omega)
  have m0:=Ax (show 0<e.args.length by omega)
  have m1:=Bf hl
  have i0:=ih _ m0 (An hk m0)
  have i1:=ih _ m1 (An hk m1)
  rw [Ej hl h h1,R0 h2]
  exact kH (Vc (i0 _) (i1 _)) (Vc (i0 _) (i1 _))
 ·
  have ho:e.op=9:=by simpa using h
  have h3:=Wu hk (by omega) (by omega)
  rw [Ee h h1 h2,R0 h3]
  refine Xm fun y hy=>?_
  have e2:∀a b:Ex,We (two 7 a b)=We a+We b:=fun a b=>by rw [R0 (by rfl)];rfl
  rcases List.mem_cons.1 hy with rfl | hy
  · show We (two 7 _ _)≤_;rw [e2];exact Nat.le_refl _
  · rw [List.mem_singleton.1 hy];show We (two 7 _ _)≤_;rw [e2];omega
 · rw [h];exact Xm fun y hy=>by rw [List.mem_singleton.1 hy];exact Nat.le_refl _
theorem bP (e:Ex):KOK T V e→∀s,Ht (fun y=>By T V y.cond=false) (Bw T V e s):=by
 refine Ex.Aa8 (P:=fun e=>KOK T V e→∀s,Ht (fun y=>By T V y.cond=false) (Bw T V e s)) (fun e ih hk s=>?_) e
 rcases Gz s hk with h | ⟨h,hl⟩ | ⟨h,hl⟩ | ⟨h,hl,h1⟩ | ⟨h,hl,h1,h2⟩ | ⟨h0,h12,h10,h,h9⟩
 ·
  cases h1:((e.val.num==1)==s) with
  | true=>rw [Eh h h1];intro x hx y hy;rw [List.mem_singleton.1 hx] at hy;cases hy
  | false=>rw [Ef h h1];intro x hx;cases hx
 · rw [Ed hl h];exact ih _ (Ax hl) (An hk (Ax hl)) _
 ·
  have m0:=Ax (show 0<e.args.length by omega)
  have m1:=Bf hl
  cases h1:((e.op==10)==s) with
  | true=>rw [Ei hl h h1];exact Ek (ih _ m0 (An hk m0) _) (ih _ m1 (An hk m1) _)
  | false=>rw [Eg hl h h1];exact H1 (ih _ m0 (An hk m0) _) (ih _ m1 (An hk m1) _)
 ·
  have m0:=Ax (show 0<e.args.length by omega)
  have m1:=Bf hl
  have i0:=ih _ m0 (An hk m0)
  have i1:=ih _ m1 (An hk m1)
  rw [Ej hl h h1]
  exact H1 (Ek (i0 _) (i1 _)) (Ek (i0 _) (i1 _))
 ·
  rw [Ee h h1 h2]
  have e2:∀a b:Ex,By T V (two 7 a b)=false:=fun a b=>by rw [Vx (by rfl)];rfl
  refine F9 fun y hy=>?_
  rcases List.mem_cons.1 hy with rfl | hy
  · exact e2 _ _
  · rw [List.mem_singleton.1 hy];exact e2 _ _
 ·
  rw [h]
  refine F9 fun y hy=>?_
  rw [List.mem_singleton.1 hy]
  show By T V e=false
  cases h9':e.op==9 with
  | true=>rw [aU h9'];exact (h9 h9').1
  | false=>rw [Vx h9',h10,h12,h0];rfl
theorem gS {y:Lit}(hk:KOK T V y.cond)(hn:(Aa T V y).2=true):(Aa T V y).1.plus.length+(Aa T V y).1.minus.length≤We y.cond:=by
  have hp:=T3 y.cond hk.nodes
  cases h:y.cond.op==1 with
  | true=>rw [Ys h];simp only [List.length_cons,List.length_nil];omega
  | false=>
    cases h2:(!Cc y.cond||C0 T V y.cond) with
    | true=>rw [bS h h2] at hn;cases hn
    | false=>
      have hc:=Qu h2
      have ho:y.cond.op=7∨y.cond.op=8∨y.cond.op=9:=by
        unfold Cc at hc
        simp only [Bool.or_eq_true,beq_iff_eq] at hc
        omega
      have hl:=Wu hk (by omega) (by omega)
      have m0:=Ax (show 0<y.cond.args.length by omega)
      have m1:=Bf (show 1<y.cond.args.length by omega)
      have p0:=T3 _ (An hk m0).nodes
      have p1:=T3 _ (An hk m1).nodes
      have hb:=P7 hn
      rw [R0 hl];omega
theorem U7 (ts:List Tm){l:List Tm}(hl:l.length≤1):(Ar ts l).length≤ts.length+l.length:=by
  cases l with
  | nil=>exact Nat.le_refl _
  | cons t r=>
    have:=N3 ts (t::r)
    rw [List.length_cons];omega
theorem lC:∀{l:List Lit},Q9 T V l→∀{s:Sy},(l.foldl (Cq T V) s).ts.length≤s.ts.length+tP l
  | [],_,s=>Nat.le_add_right ..
  | c::r,hl,s=>by
    rw [List.foldl_cons,Ub]
    have hr:=lC (fun x hx=>hl x (List.mem_cons_of_mem _ hx)) (s:=Cq T V s c)
    cases h : !(Aa T V c).2 with
    | true=>rw [Jh h] at hr ⊢;omega
    | false=>
      have hn:(Aa T V c).2=true:=by simpa using h
      have hb:=P7 hn
      have hw:=gS (hl c (List.mem_cons_self ..)).1 hn
      have h1:=U7 s.ts hb.1
      have h2:=U7 (Ar s.ts (Aa T V c).1.plus) hb.2
      rw [Jc h] at hr ⊢
      simp only at hr ⊢
      omega
theorem vB {l:List Lit}(hl:Q9 T V l):l.length≤tP l:=by
  induction l with
  | nil=>exact Nat.zero_le _
  | cons c r ih=>
    have h1:=(T3 c.cond (hl c (List.mem_cons_self ..)).1.nodes).1
    have h2:=ih fun x hx=>hl x (List.mem_cons_of_mem _ hx)
    rw [List.length_cons,Ub];omega
theorem Of {e:Ex}(h:CondOK T V e)(s:Bool):∀c∈(Bw T V e s).1,Ha (A7 T V c)=true∧c.length≤32:=fun c hc=>by
 have hl:=Q4 (h.lits s c hc)
 have hw:=cP e h.kc.kok s c hc
 have hs:=Kv h.kc
 have hv:=(T3 e h.kc.kok.nodes).2
 have h1:=lC hl (s:=⟨[],[]⟩)
 have h1':(Bz T V c).ts.length≤0+tP c:=h1
 have h2:=vB hl
 have h3:=(J7 hl).bnds
 have hn:(A7 T V c).n=((Bz T V c).ts.length:Int)+1:=rfl
 have hb:(A7 T V c).bs.length=2*(Bz T V c).ts.length+(Bz T V c).bs.length:=by
  show (Gu T V 0 (Bz T V c).ts++(Bz T V c).bs).length=_
  rw [List.length_append,Tk]
 refine ⟨?_,by omega⟩
 unfold Ha
 rw [Bool.and_eq_true]
 exact ⟨decide_eq_true (by omega),decide_eq_true (by omega)⟩
theorem nC {e:Ex}(h:CondOK T V e)(s:Bool):∀c∈(Bw T V e s).1,Mm T V c=⟨A7 T V c,(Bz T V c).ts.map Hs,0⟩:=fun c hc=>by
 obtain ⟨hf,hlen⟩:=Of h s c hc
 have hF:=h.lits s c hc
 have hce:Ez T V c=0:=by
  unfold Ez
  rw [if_neg (by rw [T4 h.kc.types h.kc.vars];decide),if_neg (by simp;omega)]
  refine Oq fun y hy=>?_
  obtain ⟨k1,k2⟩:=U5 h.kc s c hc y hy
  have hkc:C4 T V y.cond=0:=jI ⟨k1,h.kc.types,h.kc.vars,k2⟩ (hF y hy).kind
  rw [if_neg (by rw [hkc];decide),if_neg ?_]
  rw [bP e h.kc.kok s c hc y hy,Bool.false_or]
  intro hq
  rw [Bool.and_eq_true,Bool.and_eq_true] at hq
  have:=(hF y hy).eqI (by simpa using hq.2.1) (by simpa using hq.2.2)
  rw [this] at hq
  exact absurd hq.1 (by decide)
 unfold Mm
 rw [if_neg (by rw [hce];decide),if_neg (by rw [hf];decide)]
theorem nT {l:List Lit}(hT:D9 T=0)(hty:Kl T V)(hf:∀y∈l,LitF T V y)(hok:(Bl (A7 T V l)).ok=true) :
  EvI T V (Hk (Bl (A7 T V l)).values 0 (Bz T V l).ts (Gs T 0 V))∧(Bl (A7 T V l)).values.length=(Bz T V l).ts.length+1∧C5 (Bl (A7 T V l)).values 0=0∧(∀b∈(A7 T V l).bs,Pw (C5 (Bl (A7 T V l)).values) b)∧
  ∀y∈l,(Aa T V y).2=true→gY (Hi (Hk (Bl (A7 T V l)).values 0 (Bz T V l).ts (Gs T 0 V))) y=true:=by
 have hl:=Q4 hf
 have hE0:EnvOK T V (Hi (Gs T 0 V)):=jV hty (iW hT)
 obtain ⟨hsat1,hsat2,hsat3⟩:=oD (n:=zN T V l) (bs:=(A7 T V l).bs) (J5 hl) hok
 rw [←L1] at hsat1 hsat2 hsat3
 have hts:∀t∈(Bz T V l).ts,KOK T V (Hs t)∧tmOK T V t∧sO T V t:=fun t ht=>⟨(J7 hl).terms t ht,tN hl t ht,Xg hE0 hf (s:=⟨[],[]⟩) (fun t h=>by cases h) t ht⟩
 have hlim:∀(k:Nat) (t:Tm),(Bz T V l).ts[k]? = some t→(Cw T V t).1≤C5 (Bl (A7 T V l)).values (((0:Nat):Int)+k+1)∧C5 (Bl (A7 T V l)).values (((0:Nat):Int)+k+1)≤(Cw T V t).2:=fun k t ht=>by
  obtain ⟨h1,h2⟩:=Zh (T:=T) (V:=V) (i:=0) ht
  have s1:=hsat3 _ (List.mem_append_left _ h1)
  have s2:=hsat3 _ (List.mem_append_left _ h2)
  unfold Pw at s1 s2
  simp only [hsat2] at s1 s2
  omega
 have hev:EvI T V (Hk (Bl (A7 T V l)).values 0 (Bz T V l).ts (Gs T 0 V)):=Xi _ 0 (iW hT) (fun t ht=>⟨(hts t ht).1,(hts t ht).2.1.op,fun _=>(hts t ht).2.2⟩) hlim
 have hnm1:∀(k:Nat) (t:Tm),(Bz T V l).ts[k]? = some t→qY (Hk (Bl (A7 T V l)).values 0 (Bz T V l).ts (Gs T 0 V)) t=C5 (Bl (A7 T V l)).values (((0:Nat):Int)+k+1):=
  eP _ 0 rN (X6 l (by simp)) fun t ht=>⟨(hts t ht).2.1,gW (hts t ht).1⟩
 have hE:=jV hty hev
 have hpv:∀k:Int,0≤k→k<(A7 T V l).n→pv (Wj (Hi (Hk (Bl (A7 T V l)).values 0 (Bz T V l).ts (Gs T 0 V)))) (Bz T V l).ts k=C5 (Bl (A7 T V l)).values k:=fun k k0 k1=>by
  have hn:(A7 T V l).n=((Bz T V l).ts.length:Int)+1:=rfl
  rcases Int.lt_or_le 0 k with h | h
  ·
   obtain ⟨j,hj⟩:∃j:Nat,k=(j:Int)+1:=⟨(k-1).toNat,by omega⟩
   subst hj
   have hlt:j<(Bz T V l).ts.length:=by omega
   have hg:=List.getElem?_eq_getElem hlt
   obtain ⟨q1,q2,_⟩:=hts _ (List.mem_of_getElem? hg)
   rw [pv_at hg,(vR hE q1 q2).1,hnm1 j _ hg,show ((0:Nat):Int)+(j:Int)+1=(j:Int)+1 by omega]
  ·
   have:k=0:=by omega
   subst this
   rw [hsat2];rfl
 refine ⟨hev,hsat1,hsat2,hsat3,?_⟩
 refine (uZ hE hf).1 fun b hb=>?_
 have hbz:b∈(A7 T V l).bs:=List.mem_append_right _ hb
 have h1:=jA l b hbz
 have h2:=hsat3 b hbz
 unfold Pw at h2 ⊢
 rw [hpv b.x h1.1 h1.2.1,hpv b.y h1.2.2.1 h1.2.2.2]
 exact h2
end
end Go.Proofs.YtjedflcpjlgokaaGreatDoor

namespace Go.Aw
open Go

section
variable {P:Program} {T:List (Nat×TD)} {d:Option Nat} {ty:TypeId} {pos:String} {aft:Array Edge} {gd:Option (Nat×Bool)} {ρ:Operand→AV} {K:List HO→Prop}

end
end Go.Aw

namespace Go.Proofs.YtjedflcpjlgokaaGreatDoor
open Go Go.Aw

section
variable {T:List Sc} {V:List Va}
section
variable {l:List Ev} {a b:Ex}
def tr2 (l:List Ev)(a b:Ex):Bool:=gO ⟨Hi l,-1,Ms⟩ a&&gO ⟨Hi l,-1,Ms⟩ b
end
end

def Re (bs:List Bd)(i:Int):Bd:=(bs[i.toNat]?).getD bd0
def K9 (bs:List Bd)(c:List Int)(j:Nat):Bool:=(Re bs ((c[j]?).getD 0)).y != (Re bs ((c[(j+1) % c.length]?).getD 0)).x
def Na (bs:List Bd)(c:List Int):Int:=(c.map fun i=>(Re bs i).most).sum
def Mz (bs:List Bd)(i:Int):Bool:=decide (i<0)||decide ((bs.length:Int)≤i)
def Hp (z:Zn)(c:List Int):Int:=
 if De z != 0 then De z
 else if (c.length:Int)==0||decide (256<(c.length:Int)) then 15
 else if c.any (Mz z.bs) then 2
 else if (List.range c.length).any (K9 z.bs c) then 18
 else if decide (0≤Na z.bs c) then 18 else 0
def eW (l:List Int)(b:Bd):Bool:=decide (C5 l b.x-C5 l b.y≤b.most)
def Ws (v:Int):Bool:=decide (v < -1152921504606846976)||decide (1152921504606846976<v)
def Kf (z:Zn)(l:List Int):Bool×Int:=
 if De z != 0 then (false,De z)
 else if (l.length:Int) != z.n then (false,15)
 else if l.any Ws then (false,2)
 else if C5 l 0 != 0 then (false,3)
 else (!(z.bs.any fun b=>!eW l b),0)
section
variable {n:Nat} {bs:List Bd} {d:Ds}
theorem bH:∀{c:List Int} {b:Int},Kz n bs d c b→∀a∈c,stOK n bs d a
  | [],_,_,a,h=>by cases h
  | x::r,b,hp,a,h=>by
    rcases List.mem_cons.1 h with rfl | h
    · exact hp.1
    · exact bH hp.2.2 a h
theorem Xy:∀{c:List Int} {b:Int},Kz n bs d c b→∀(j:Nat) (a:Int),c[j]? = some a→(If bs d a).y=(c[j+1]?).getD b
  | [],_,_,j,a,h=>by simp at h
  | x::r,b,hp,0,a,h=>by
    simp at h;subst h
    rw [hp.2.1]
    cases r <;> rfl
  | x::r,b,hp,j+1,a,h=>Xy hp.2.2 j a (by simpa using h)
theorem lL (hz:(De (zn n bs) != 0)=false)(hok:(Bl (zn n bs)).ok=false):Hp (zn n bs) (Bl (zn n bs)).cycle=0:=by
  have hk:=Qv (n:=(n:Int)) (bs:=bs) hz
  cases he:decide ((Cy (zn n bs)).2<0) with
  | true=>rw [L9 hz he] at hok;cases hok
  | false=>
    have hbs:∀b∈bs,iI n b:=hk.2.2.2
    have hw:=dS (n:=n) (by omega) hbs he
    unfold Ky at hw
    rw [Bool.and_eq_true] at hw
    have hI:=sF (n:=n) hbs
    obtain ⟨r,h1,h2,h3,h4⟩:=uO hI hw.2
    rw [L3 hz he]
    have hcyc:(Lr (zn n bs)).2=(Hg bs (Cy (zn n bs)).1 n (Cy (zn n bs)).2::r).map (C5 (Cy (zn n bs)).1.last):=by
      have:Lr (zn n bs)=([],Hb bs (Cy (zn n bs)).1 (Hg bs (Cy (zn n bs)).1 n (Cy (zn n bs)).2) (n+1) (Hg bs (Cy (zn n bs)).1 n (Cy (zn n bs)).2)):=by
        unfold Lr
        rw [Cu he]
        simp [zn]
      rw [this]
      simp only
      rw [kE,h1]
    simp only
    rw [hcyc]
    revert hI h2 h3 h4
    generalize (Cy (zn n bs)).1=d
    generalize Hg bs d n (Cy (zn n bs)).2=f
    intro hI h2 h3 h4
    unfold Hp
    have hst:=bH h2
    have hat:∀(j:Nat) (a:Int),(f::r)[j]? = some a→Re bs ((((f::r).map (C5 d.last))[j]?).getD 0)=If bs d a:=fun j a hj=>by
      rw [List.getElem?_map,hj];rfl
    rw [if_neg (by rw [hz];decide),if_neg (by simp only [List.length_map,Bool.or_eq_true,beq_iff_eq,decide_eq_true_eq];rw [List.length_cons] at h4 ⊢;omega),if_neg ?_,if_neg ?_,if_neg ?_]
    · rw [decide_eq_true_eq]
      have:Na bs ((f::r).map (C5 d.last))=Ou bs d (f::r):=by
        unfold Na Ou
        rw [List.map_map];rfl
      show ¬0≤Na bs _
      rw [this];omega
    · rw [Bool.not_eq_true,List.any_eq_false]
      intro j hj
      have hj':j<(f::r).length:=by simpa using List.mem_range.1 hj
      have hg:=List.getElem?_eq_getElem hj'
      have hnx:=Xy h2 j _ hg
      unfold K9
      show ¬((Re bs _).y != (Re bs _).x)=true
      rw [hat j _ hg,hnx,List.length_map]
      by_cases hlt:j+1<(f::r).length
      · have hg2:=List.getElem?_eq_getElem hlt
        rw [Nat.mod_eq_of_lt hlt,hat _ _ hg2,hI.x _ (hst _ (List.getElem_mem hlt)),hg2]
        simp
      · have e:j+1=(f::r).length:=by omega
        rw [e,Nat.mod_self,hat 0 f rfl,hI.x f (hst f (List.mem_cons_self ..)),List.getElem?_eq_none (Nat.le_refl _)]
        simp
    · rw [Bool.not_eq_true,List.any_eq_false]
      intro i hi
      obtain ⟨a,ha,rfl⟩:=List.mem_map.1 hi
      have:=hst a ha
      unfold Mz
      have h5:=this.l0;have h6:=this.ll
      show ¬(decide (C5 d.last a<0)||decide ((bs.length:Int)≤C5 d.last a))=true
      simp only [Bool.or_eq_true,decide_eq_true_eq];omega
end
section
variable {T:List Sc} {V:List Va}
theorem lQ {l:List Lit}(hl:Q9 T V l)(hf:Ha (A7 T V l)=true):(Bl (A7 T V l)).err=0:=by
 have hz:=N9 hl hf
 rw [L1] at hz ⊢
 have hz':(De (zn (zN T V l) (A7 T V l).bs) != 0)=false:=by rw [hz];rfl
 cases he:decide ((Cy (zn (zN T V l) (A7 T V l).bs)).2<0) with
 | true=>rw [L9 hz' he]
 | false=>rw [L3 hz' he]
theorem Wv {l:List Lit}(hl:Q9 T V l)(hf:Ha (A7 T V l)=true)(h:(Bl (A7 T V l)).ok=false):Hp (A7 T V l) (Bl (A7 T V l)).cycle=0:=by
 have hz:=N9 hl hf
 rw [L1] at hz h ⊢
 exact lL (by rw [hz];rfl) h
theorem aM {l:List Lit}(hT:D9 T=0)(hty:Kl T V)(hF:∀y∈l,LitF T V y)(hf:Ha (A7 T V l)=true)(h:(Bl (A7 T V l)).ok=true):Kf (A7 T V l) (Bl (A7 T V l)).values=(true,0):=by
  have hl:=Q4 hF
  obtain ⟨_,h1,h2,h3,_⟩:=nT hT hty hF h
  have hz:=N9 hl hf
  have hn:(A7 T V l).n=((Bz T V l).ts.length:Int)+1:=rfl
  unfold Kf
  rw [if_neg (by rw [hz];decide),if_neg (by rw [hn,h1];simp),if_neg ?_,if_neg (by rw [h2];decide)]
  · have hs:((A7 T V l).bs.any fun b=>!eW (Bl (A7 T V l)).values b)=false:=by
      rw [List.any_eq_false]
      intro b hb
      have:=h3 b hb
      unfold Pw at this
      unfold eW
      rw [decide_eq_true this];decide
    rw [hs];rfl
  · rw [Bool.not_eq_true,List.any_eq_false]
    intro v hv
    obtain ⟨k,hk⟩:=List.mem_iff_getElem?.1 hv
    have hlt:=Bh hk
    have e:C5 (Bl (A7 T V l)).values (k:Int)=v:=by unfold C5;rw [Int.toNat_natCast,hk];rfl
    have hr : -1099511627776≤v∧v≤1099511627776:=by
      cases k with
      | zero => rw [← e]; have : C5 (Bl (A7 T V l)).values ((0 : Nat) : Int) = 0 := h2
                omega
      | succ k=>
        have hlt2:k<(Bz T V l).ts.length:=by omega
        have hg:=List.getElem?_eq_getElem hlt2
        obtain ⟨m1,m2⟩:=Zh (T:=T) (V:=V) (i:=0) hg
        have s1:=h3 _ (List.mem_append_left _ m1)
        have s2:=h3 _ (List.mem_append_left _ m2)
        have hlr:=Lu (T:=T) (V:=V) ((Bz T V l).ts[k])
        unfold Pw at s1 s2
        simp only [h2] at s1 s2
        rw [show ((0:Nat):Int)+(k:Int)+1=((k+1:Nat):Int) by omega,e] at s1 s2
        omega
    unfold Ws
    simp only [Bool.or_eq_true,decide_eq_true_eq];omega
def Ow (T:List Sc)(V:List Va)(y:Lit):Bool:=(y.cond.op==9 && !((y.cond.args.length:Int)==0))&&((Cf T V (Ap y.cond)).2 != 0||(Cf T V (Ap y.cond)).1==2)
theorem lJ {y:Lit}(hk:KOK T V y.cond)(hc:KC T V y.cond)(h:C0 T V y.cond=true):Ow T V y=true:=by
 unfold C0 at h
 rw [Bool.and_eq_true] at h
 have ho:y.cond.op=9:=by simpa using h.1
 have hl:=Wu hk (by omega) (by omega)
 have m0:=Ax (show 0<y.cond.args.length by omega)
 have h2:=T6 (kc_arg hc m0)
 unfold Ow
 rw [h.1,h2,h.2,hl];simp
theorem fW {l:List Lit}(h:∀y∈l,C0 T V y.cond=false):(Id T V l).2=true:=by
 have hs:∀s,∀y∈l,Db T V s y=false:=fun s y hy=>by unfold Db;rw [h y hy];simp
 have h1:∀(m:List Lit) (w:Wm),(∀y∈m,Db T V true y=false)→Jj T V m w=(w,true):=by
  intro m
  induction m with
  | nil=>intro w _;rfl
  | cons c r ih=>intro w hm;rw [Yl (hm c (List.mem_cons_self ..))];exact ih w fun x hx=>hm x (List.mem_cons_of_mem _ hx)
 have h2:∀(m:List Lit) (w:Wm),(∀y∈m,Db T V false y=false)→Ot T V w m=true:=by
  intro m
  induction m with
  | nil=>intro w _;rfl
  | cons c r ih=>intro w hm;rw [Ot,if_pos (by rw [hm c (List.mem_cons_self ..)];rfl)];exact ih w fun x hx=>hm x (List.mem_cons_of_mem _ hx)
 unfold Id
 rw [h1 l [] (hs true),h2 l _ (hs false)];rfl
theorem bN {c:Cs}(h:c.2=true)(hl:c.1.length≤256):Dy ([[]],true) c=(c.1,true):=by
 have h1:decide ((256:Int)<(([[]]:List (List Lit)).length:Int)*(c.1.length:Int))=false:=by simp;omega
 rw [Xk (by rw [h];rfl),bZ h1]
 simp
theorem kY:∀{l:List (List Lit)} {o:Int},(∀c∈l,Lh T V c=true)→(fH T V o l).1=if l.any (Ov T V) then 1 else o
  | [],o,_=>rfl
  | c::r,o,h=>by
    have hc:=h c (List.mem_cons_self ..)
    have hr:=kY (l:=r) (o:=o) fun x hx=>h x (List.mem_cons_of_mem _ hx)
    rw [fH,List.any_cons,(Rw hc).2,Bool.and_true]
    cases hk:Ov T V c with
    | false=>rw [if_pos (by rfl),hr];rfl
    | true=>rw [if_neg (by decide),if_pos hc];rfl
theorem oA {e:Ex}(h:CondOK T V e)(hp:Fx T V e=true)(hn:(Bw T V e true).2=true):(B6 T V [e]).1=if (Bw T V e true).1.any (Ov T V) then 1 else 2:=by
 have hce:E3 T V [e]=0:=bR h.kc.types h.kc.vars (by simp) fun x hx=>by rw [List.mem_singleton.1 hx];exact h
 have hpr:Xq T V [e] ([[]],true)=((Bw T V e true).1,true):=bN hn (Ge e h.kc.kok true).len
 rw [gD (by rw [hce];rfl) hpr,hP (by rfl)]
 simp only
 refine kY fun c hc=>?_
 obtain ⟨hf,hlen⟩:=Of h true c hc
 unfold Lh
 rw [List.all_eq_true.2 (dX e h.kc.kok h.kind hp true c hc),hf,Bool.true_and,Bool.true_and]
 exact decide_eq_true (by omega)
theorem mY {e:Ex}(h:CondOK T V e){c:List Lit}(hc:c∈(Bw T V e true).1)(hs:c.any (Ow T V)=false):Ov T V c=(Bl (A7 T V c)).ok:=by
  obtain ⟨hf,_⟩:=Of h true c hc
  have ht:∀y∈c,C0 T V y.cond=false:=fun y hy=>by
    cases hq:C0 T V y.cond with
    | false=>rfl
    | true=>
      obtain ⟨k1,k2⟩:=U5 h.kc true c hc y hy
      have:=lJ k1 ⟨k1,h.kc.types,h.kc.vars,k2⟩ hq
      have h2:=List.any_eq_false.1 hs y hy
      rw [this] at h2;exact absurd rfl h2
  rw [iH (by rw [hf];rfl),fW ht,Bool.true_and]
theorem oO {a:Ex}(ha:CondOK T V a):E3 T V [a]=0:=bR ha.kc.types ha.kc.vars (by simp) fun x hx=>by rw [List.mem_singleton.1 hx];exact ha
theorem oJ {a:Ex}(ha:CondOK T V a):(B6 T V [a]).2.2=0:=by rw [gD (by rw [oO ha];rfl) rfl]
end
set_option maxRecDepth 100000

def zH (v:Int):Ex:=⟨1,[],v,0,0,v0⟩
def Q0 (op a b n:Int):Ex:=two op (zH a) (two 5 (zH b) (Lq ⟨0,n,[]⟩))
def plT:List Sc:=[⟨[116],[⟨[120],0⟩]⟩]
def plV:List Va:=[⟨[97],0⟩,⟨[98],0⟩]
def plW (k:Nat):Int:=if k<2 then 2 else 1
def plB (k:Nat):Bool:=(B6 plT plV [Q0 7 0 1 0,Q0 7 1 0 (k:Int)]).2.2==0&&(B6 plT plV [Q0 7 0 1 0,Q0 7 1 0 (k:Int)]).1==plW k
theorem pl_0:plB 0=true:=by kernel_rfl
theorem pl_1:plB 1=true:=by kernel_rfl
theorem pl_2:plB 2=true:=by kernel_rfl
theorem pl_k {k:Nat}(h:k<3):(B6 plT plV [Q0 7 0 1 0,Q0 7 1 0 (k:Int)]).2.2=0∧(B6 plT plV [Q0 7 0 1 0,Q0 7 1 0 (k:Int)]).1=plW k:=by
 have h1:plB k=true:=by
  have:k=0∨k=1∨k=2:=by omega
  rcases this with rfl | rfl | rfl
  · exact pl_0
  · exact pl_1
  · exact pl_2
 unfold plB at h1
 rw [Bool.and_eq_true] at h1
 exact ⟨by simpa using h1.1,by simpa using h1.2⟩
theorem pl_sc:∀s∈plT,Is s:=by
 intro s hs
 rw [List.mem_singleton.1 hs]
 exact ⟨by decide,by decide,by decide⟩
theorem jE (op a b n:Int):Av (Q0 op a b n)≤1048576:=by
 have:Av (Q0 op a b n)=5:=by simp [Q0,two,zH,Lq,Dj]
 omega
def Ks (T:List Sc)(V:List Va)(es:List Ex):Bool:=
 if es.any (fun e=>!xE e) then false
 else if !fC T||decide (8<(V.length:Int)) then false
 else !(es.any fun e=>C4 T V e != 0)
theorem fT {T:List Sc}{V:List Va}{es:List Ex}(h:Ks T V es=true):∀e∈es,CondOK T V e:=fun e he=>by
  unfold Ks at h
  cases h1:es.any (fun e=>!xE e) with
  | true=>rw [if_pos h1] at h;cases h
  | false=>
    rw [Cu h1] at h
    cases h2:(!fC T||decide (8<(V.length:Int))) with
    | true=>rw [if_pos h2] at h;cases h
    | false=>
      rw [Cu h2,Bool.not_eq_true'] at h
      have:=List.any_eq_false.1 h e he
      exact wB (by simpa using this)
def setE (x:Ev)(t:Tm)(n:Int):Ev:=if t.op==2 then { x with time:=n } else S8 x t.field.toNat fun y=>{ y with num:=n }
section
variable {T:List Sc} {V:List Va}
def Sh (T:List Sc)(V:List Va)(l:List (List Lit)):Bool:=l.any fun c=>(Bl (A7 T V c)).ok
theorem tO {e:Ex}(h:CondOK T V e)(hp:Fx T V e=true)(hn:(Bw T V e true).2=true)(hs:∀c∈(Bw T V e true).1,c.any (Ow T V)=false) :
  ((Sh T V (Bw T V e true).1==((B6 T V [e]).1==1))&&(((B6 T V [e]).1==1)||((B6 T V [e]).1==2)))=true:=by
 have h1:(Bw T V e true).1.any (Ov T V)=Sh T V (Bw T V e true).1:=X4 fun c hc=>mY h hc (hs c hc)
 rw [oA h hp hn,h1]
 cases Sh T V (Bw T V e true).1 <;> rfl
theorem Pg {e:Ex}(h:CondOK T V e):Cp T V e=if !(Bw T V e true).2 then ([],17) else ((Bw T V e true).1,0):=by
 unfold Cp
 rw [if_neg (by rw [h.zero];decide)]
end

def Rj {α:Type}(p:α→Bool):List α→Int
 | []=>-1
 | a::r=>if p a then 0 else if Rj p r<0 then -1 else Rj p r+1
theorem Y7 {α:Type}(p:α→Bool):∀l:List α,(-1≤Rj p l)∧decide (0≤Rj p l)=l.any p
  | []=>⟨Int.le_refl _,rfl⟩
  | a::r=>by
    obtain ⟨h0,h1⟩:=Y7 p r
    rw [Rj,List.any_cons]
    cases h:p a with
    | true=>exact ⟨by rw [if_pos rfl];decide,by rw [if_pos rfl];rfl⟩
    | false=>
      rw [if_neg (by decide),Bool.false_or,←h1]
      by_cases h2:Rj p r<0
      · rw [if_pos h2]
        exact ⟨Int.le_refl _,by rw [decide_eq_decide];constructor <;> intro h <;> omega⟩
      · rw [if_neg h2]
        exact ⟨by omega,by rw [decide_eq_decide];constructor <;> intro h <;> omega⟩
theorem Z9 {α:Type}{p:α→Bool}:∀{l:List α} {k:Nat} {a:α},l[k]? = some a→(l.take k).any p=false→p a=true→Rj p l=(k:Int)
  | [],k,a,h,_,_=>by simp at h
  | b::r,0,a,h,_,hp=>by simp at h;subst h;rw [Rj,if_pos hp];rfl
  | b::r,k+1,a,h,hn,hp=>by
    rw [List.take_succ_cons,List.any_cons,Bool.or_eq_false_iff] at hn
    have ih:=Z9 (l:=r) (k:=k) (by simpa using h) hn.2 hp
    rw [Rj,if_neg (by rw [hn.1];decide),ih,if_neg (by omega)];omega
theorem U0 {α:Type}{p:α→Bool}:∀{l:List α},l.any p=false→Rj p l = -1
  | [],_=>rfl
  | b::r,h=>by
    rw [List.any_cons,Bool.or_eq_false_iff] at h
    rw [Rj,if_neg (by rw [h.1];decide),U0 h.2];rfl
theorem tM {l:List Int}{k:Int}(h0:0≤k)(h:k<(l.length:Int)):(l.map cI)[k.toNat]? = some [.int .i64 (C5 l k)]:=by
 rw [List.getElem?_map,Yy h0 h];rfl
theorem tB {l:List Int}{k:Nat}{a:Int}(h:l[k]? = some a):(l.map cI)[k]? = some [.int .i64 a]:=by rw [List.getElem?_map,h];rfl
theorem rD {l:List Int}{P:Int→Prop}(h:∀v∈l,P v){k:Int}(h0:0≤k)(hk:k<(l.length:Int)):P (C5 l k):=h _ (qD h0 hk)
theorem far_ok {l:List Int}(h:l.any Ws=false):∀v∈l,-1152921504606846976≤v∧v≤1152921504606846976:=fun v hv=>by
 have:=List.any_eq_false.1 h v hv
 unfold Ws at this
 simp only [Bool.or_eq_true,decide_eq_true_eq,not_or] at this
 omega
section
variable {T:List Sc} {V:List Va} {y:Lit}
theorem Rp:Ow T V y=(!((y.cond.op != 9)||((y.cond.args.length:Int)==0))&&((Cf T V (Ap y.cond)).2 != 0||(Cf T V (Ap y.cond)).1==2)):=by
 unfold Ow
 cases h:y.cond.op==9 <;> simp [bne,h]
theorem uK (h:((y.cond.op != 9)||((y.cond.args.length:Int)==0))=false):0<y.cond.args.length:=by
 rw [Bool.or_eq_false_iff] at h
 have:=h.2
 simp at this
 exact List.length_pos_iff.2 this
theorem vY (h:((y.cond.op != 9)||((y.cond.args.length:Int)==0))=true):Ow T V y=false:=by rw [Rp,h];rfl
theorem xO (h:((y.cond.op != 9)||((y.cond.args.length:Int)==0))=false)(h2:((Cf T V (Ap y.cond)).2 != 0||(Cf T V (Ap y.cond)).1==2)=false):Ow T V y=false:=by rw [Rp,h,h2];rfl
theorem xS (h:((y.cond.op != 9)||((y.cond.args.length:Int)==0))=false)(h2:((Cf T V (Ap y.cond)).2 != 0||(Cf T V (Ap y.cond)).1==2)=true):Ow T V y=true:=by rw [Rp,h,h2];rfl
end
section
variable {z:Zn} {l:List Int}
theorem wL (h:(De z != 0)=true):Kf z l=(false,De z):=if_pos h
theorem Tx (h:(De z != 0)=false):Kf z l=if (l.length:Int) != z.n then (false,15) else if l.any Ws then (false,2) else if C5 l 0 != 0 then (false,3) else (!(z.bs.any fun b=>!eW l b),0):=Cu h
theorem uB (h:(De z != 0)=false)(h2:((l.length:Int) != z.n)=true):Kf z l=(false,15):=(Tx h).trans (if_pos h2)
theorem uY (h:(De z != 0)=false)(h2:((l.length:Int) != z.n)=false)(h3:l.any Ws=true):Kf z l=(false,2):=(Tx h).trans ((Cu h2).trans (if_pos h3))
theorem vG (h:(De z != 0)=false)(h2:((l.length:Int) != z.n)=false)(h3:l.any Ws=false)(h4:(C5 l 0 != 0)=true):Kf z l=(false,3):=(Tx h).trans ((Cu h2).trans ((Cu h3).trans (if_pos h4)))
theorem tX (h:(De z != 0)=false)(h2:((l.length:Int) != z.n)=false)(h3:l.any Ws=false)(h4:(C5 l 0 != 0)=false):Kf z l=(!(z.bs.any fun b=>!eW l b),0):=(Tx h).trans ((Cu h2).trans ((Cu h3).trans (Cu h4)))
theorem oK (h:(De z != 0)=false)(h2:((l.length:Int) != z.n)=false):0<(l.length:Int)∧∀b∈z.bs,(0≤b.x∧b.x<(l.length:Int))∧0≤b.y∧b.y<(l.length:Int):=by
 obtain ⟨n,bs⟩:=z
 have hk:=Qv h
 have e:(l.length:Int)=n:=by simpa using h2
 rw [e]
 exact ⟨by omega,fun b hb=>by have:=hk.2.2.2 b hb;omega⟩
end
end Go.Proofs.YtjedflcpjlgokaaGreatDoor
