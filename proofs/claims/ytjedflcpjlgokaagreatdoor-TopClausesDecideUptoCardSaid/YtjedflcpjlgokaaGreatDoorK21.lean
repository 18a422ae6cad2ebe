/-
  Several texts in one: S50, S52. No condition.
-/
import Derived.Test.YtjedflcpjlgokaaGreatDoorK20
import Derived.Test.YtjedflcpjlgokaaGreatDoorK17
set_option linter.unusedVariables false
set_option linter.unusedSimpArgs false
namespace Go.Proofs.YtjedflcpjlgokaaGreatDoor
open Go Go.Aw

def Aam (τ:Tm→Int)(e:Ex)(vs:List Int):Int:=
 if e.op==0 then 0 else if e.op==1||e.op==2 then τ (Dh e) else if e.op==5 then Ps 0 vs+Xo 0 vs else if e.op==6 then Ps 0 vs-Xo 0 vs else 0
def evT (τ:Tm→Int):Ex→Int:=Or (Aam τ)
theorem evT_eq (τ:Tm→Int)(e:Ex):evT τ e=Aam τ e (e.args.map (evT τ)):=P5 _ e
theorem Ts (τ:Tm→Int)(e:Ex):Ci e=0→∀{b:Int} {s:Su},(A5 e b s).2=true→H7 τ (A5 e b s).1.ts=H7 τ s.ts+b*evT τ e:=by
  refine Ex.Aa8 (P:=fun e=>Ci e=0→∀{b:Int} {s:Su},(A5 e b s).2=true→H7 τ (A5 e b s).1.ts=H7 τ s.ts+b*evT τ e) (fun e ih hn b s h=>?_) e
  have hz:=A9 hn
  rw [evT_eq,Aam]
  rcases Ka hz.1 with c | ⟨c,c1⟩ | ⟨c,hl⟩ | ⟨c,c1,c2,c3⟩
  · rw [D2 c,if_pos c];simp
  · rw [Bs c c1,Cu c,if_pos c1];exact T7 ..
  · have m0:=Ax (show 0<e.args.length by omega)
    have m1:=Bf hl
    have key:∀c:Int,(e.op=5∧c=b)∨(e.op=6∧c=0-b)→H7 τ (A5 e b s).1.ts=H7 τ s.ts+b*evT τ (Ap e)+c*evT τ (B3 e):=by
      intro c hc
      rw [G6 hl hc] at h ⊢
      cases h1:(A5 (Ap e) b s).2 with
      | false=>rw [h1] at h;cases h
      | true=>
        rw [h1] at h
        have a1:=ih _ m0 (hz.2 _ m0) (b:=b) (s:=s) h1
        have b1:=ih _ m1 (hz.2 _ m1) (b:=c) (s:=(A5 (Ap e) b s).1) h
        show H7 τ (A5 (B3 e) c (A5 (Ap e) b s).1).1.ts=_
        rw [b1,a1]
    have n0:(e.op==0)=false:=by simp;omega
    have n1:(e.op==1||e.op==2)=false:=by simp;omega
    rw [Cu n0,Cu n1,Ju _ _ (by omega),Kr _ _ hl]
    rcases c with c | c
    · rw [key b (.inl ⟨c,rfl⟩),if_pos (by simpa using c),Int.mul_add];omega
    · rw [key (0-b) (.inr ⟨c,rfl⟩),Cu (by simp;omega),if_pos (by simpa using c),Int.mul_sub,Int.sub_mul,Int.zero_mul];omega
  · rw [Eb c c1 c2 c3] at h;cases h
theorem iT (e:Ex):Ci e=0→∀{b c:Int} {s t:Su},(A5 e b s).2=(A5 e c t).2:=by
 refine Ex.Aa8 (P:=fun e=>Ci e=0→∀{b c:Int} {s t:Su},(A5 e b s).2=(A5 e c t).2) (fun e ih hn b c s t=>?_) e
 have hz:=A9 hn
 rcases Ka hz.1 with h | ⟨h,h1⟩ | ⟨h,hl⟩ | ⟨h,h1,h2,h3⟩
 · rw [D2 h,D2 h]
 · rw [Bs h h1,Bs h h1]
 ·
  have m0:=Ax (show 0<e.args.length by omega)
  have m1:=Bf hl
  have key:∀x y:Int,((e.op=5∧x=b)∨(e.op=6∧x=0-b))→((e.op=5∧y=c)∨(e.op=6∧y=0-c))→(A5 e b s).2=(A5 e c t).2:=by
   intro x y hx hy
   rw [G6 hl hx,G6 hl hy]
   have i0:=ih _ m0 (hz.2 _ m0) (b:=b) (c:=c) (s:=s) (t:=t)
   rw [i0]
   cases hq:(A5 (Ap e) c t).2 with
   | false=>rfl
   | true=>exact ih _ m1 (hz.2 _ m1)
  rcases h with h | h
  · exact key b c (.inl ⟨h,rfl⟩) (.inl ⟨h,rfl⟩)
  · exact key _ _ (.inr ⟨h,rfl⟩) (.inr ⟨h,rfl⟩)
 · rw [Eb h h1 h2 h3,Eb h h1 h2 h3]
def fI (p:Tm×Int):Bool:=p.2==0||p.2==1||p.2 == -1
def Rv (ts:List (Tm×Int)):List Tm:=(ts.filter fun p=>p.2==1).map (·.1)
def Rf (ts:List (Tm×Int)):List Tm:=(ts.filter fun p=>p.2 == -1).map (·.1)
theorem Qj:∀(ts:List (Tm×Int)) (p m:List Tm),C2 ts p m=if ts.all fI then some (p++Rv ts,m++Rf ts) else none
  | [],p,m=>by simp [C2,Rv,Rf]
  | t::r,p,m=>by
    have hk:(t::r).all fI=(fI t&&r.all fI):=List.all_cons ..
    rw [hk]
    cases h0:t.2==0 with
    | true=>
      have e0:t.2=0:=by simpa using h0
      rw [jX h0,Qj r,show fI t=true by unfold fI;rw [h0];rfl,Bool.true_and]
      have a:Rv (t::r)=Rv r:=by simp [Rv,e0]
      have b:Rf (t::r)=Rf r:=by simp [Rf,e0]
      rw [a,b]
    | false=>
      cases h1:t.2==1 with
      | true=>
        have e1:t.2=1:=by simpa using h1
        rw [kW h0 h1,Qj r,show fI t=true by unfold fI;rw [h1];simp,Bool.true_and]
        have a:Rv (t::r)=t.1::Rv r:=by simp [Rv,e1]
        have b:Rf (t::r)=Rf r:=by simp [Rf,e1]
        rw [a,b,List.append_assoc];rfl
      | false=>
        cases h2:t.2 == -1 with
        | true=>
          have e2:t.2 = -1:=by simpa using h2
          rw [kL h0 h1 h2,Qj r,show fI t=true by unfold fI;rw [h2];simp,Bool.true_and]
          have a:Rv (t::r)=Rv r:=by simp [Rv,e2]
          have b:Rf (t::r)=t.1::Rf r:=by simp [Rf,e2]
          rw [a,b,List.append_assoc];rfl
        | false=>
          rw [kI h0 h1 h2,show fI t=false by unfold fI;rw [h0,h1,h2];rfl,Bool.false_and];rfl
def ind (t:Tm):Tm→Int:=fun u=>if u=t then 1 else 0
theorem Uq {t:Tm}:∀{ts:List (Tm×Int)},t∉ts.map (·.1)→H7 (ind t) ts=0
  | [],_=>rfl
  | p::r,h=>by
    rw [List.map_cons,List.mem_cons,not_or] at h
    have ih:=Uq h.2
    simp only [H7,List.map_cons,List.sum_cons] at ih ⊢
    rw [ih]
    unfold ind
    rw [if_neg (fun e=>h.1 e.symm)];simp
theorem Tn:∀{ts:List (Tm×Int)} {p:Tm×Int},(ts.map (·.1)).Nodup→p∈ts→H7 (ind p.1) ts=p.2
  | [],_,_,h=>by cases h
  | q::r,p,hn,h=>by
    rw [List.map_cons,List.nodup_cons] at hn
    rcases List.mem_cons.1 h with rfl | h
    · have:=Uq hn.1
      simp only [H7,List.map_cons,List.sum_cons] at this ⊢
      rw [this];unfold ind;rw [if_pos rfl];omega
    · have ih:=Tn hn.2 h
      have hne:q.1≠p.1:=fun e=>hn.1 (by rw [e];exact List.mem_map_of_mem h)
      simp only [H7,List.map_cons,List.sum_cons] at ih ⊢
      rw [ih];unfold ind;rw [if_neg hne];omega
theorem pW {ts:List (Tm×Int)}{t:Tm}(hn:(ts.map (·.1)).Nodup)(h:H7 (ind t) ts≠0):(t,H7 (ind t) ts)∈ts:=by
 by_cases hm:t∈ts.map (·.1)
 ·
  obtain ⟨p,hp,rfl⟩:=List.mem_map.1 hm
  rw [Tn hn hp];exact hp
 · exact absurd (Uq hm) h
theorem Vv {ts:List (Tm×Int)}(hn:(ts.map (·.1)).Nodup)(f:Tm×Int→Bool):((ts.filter f).map (·.1)).Nodup:=by
 refine List.Sublist.nodup ?_ hn
 exact (List.filter_sublist).map _
theorem Tu {ts:List (Tm×Int)}(hn:(ts.map (·.1)).Nodup)(t:Tm)(c:Int)(hc:c≠0):t∈((ts.filter fun p=>p.2==c).map (·.1))↔H7 (ind t) ts=c:=by
 constructor
 ·
  intro h
  obtain ⟨p,hp,rfl⟩:=List.mem_map.1 h
  obtain ⟨h1,h2⟩:=List.mem_filter.1 hp
  rw [Tn hn h1];simpa using h2
 ·
  intro h
  have:=pW hn (t:=t) (by rw [h];exact hc)
  rw [h] at this
  exact List.mem_map.2 ⟨(t,c),List.mem_filter.2 ⟨this,by simp⟩,rfl⟩
theorem xN {A B:Su}(hA:(A.ts.map (·.1)).Nodup)(hB:(B.ts.map (·.1)).Nodup)(h:∀τ,H7 τ B.ts = - H7 τ A.ts)(hg:(Mk A).2=true):(Mk B).2=true:=by
  unfold Mk at hg ⊢
  rw [Qj] at hg ⊢
  cases ha:A.ts.all fI with
  | false=>rw [ha] at hg;cases hg
  | true=>
    rw [ha,if_pos rfl] at hg
    have hb:B.ts.all fI=true:=by
      rw [List.all_eq_true]
      intro p hp
      have h1:=Tn hB hp
      have h2:=h (ind p.1)
      rw [h1] at h2
      by_cases h3:H7 (ind p.1) A.ts=0
      · rw [h3] at h2;unfold fI;rw [h2];rfl
      · have h4:=List.all_eq_true.1 ha _ (pW hA h3)
        unfold fI at h4 ⊢
        simp only [Bool.or_eq_true,beq_iff_eq] at h4 ⊢
        omega
    rw [hb,if_pos rfl]
    simp only [List.nil_append,Bool.and_eq_true,decide_eq_true_eq] at hg ⊢
    have l1:(Rv B.ts).length≤(Rf A.ts).length:=Ll (Vv hB _) fun t ht=>by
      have:=(Tu hB t 1 (by decide)).1 ht
      exact (Tu hA t (-1) (by decide)).2 (by have:=h (ind t);omega)
    have l2:(Rf B.ts).length≤(Rv A.ts).length:=Ll (Vv hB _) fun t ht=>by
      have:=(Tu hB t (-1) (by decide)).1 ht
      exact (Tu hA t 1 (by decide)).2 (by have:=h (ind t);omega)
    omega
theorem dK {a b:Ex}(ha:Ci a=0)(hb:Ci b=0)(h:(Bu a b).2=true):(Bu b a).2=true:=by
  unfold Bu at h
  cases h1:(A5 a 1 H9).2 with
  | false=>rw [h1] at h;cases h
  | true=>
    cases h2:(A5 b (-1) (A5 a 1 H9).1).2 with
    | false=>rw [h1,h2] at h;cases h
    | true=>
      rw [h1,h2] at h
      have h3:(A5 b 1 H9).2=true:=by rw [iT b hb (b:=1) (c:=-1) (s:=H9) (t:=(A5 a 1 H9).1)];exact h2
      have h4:(A5 a (-1) (A5 b 1 H9).1).2=true:=by rw [iT a ha (b:=-1) (c:=1) (s:=(A5 b 1 H9).1) (t:=H9)];exact h1
      unfold Bu
      rw [h3,h4]
      have n0:(H9.ts.map (·.1)).Nodup:=by simp [H9]
      refine xN (A:=(A5 b (-1) (A5 a 1 H9).1).1) (J2 b hb (J2 a ha n0)) (J2 a ha (J2 b hb n0)) (fun τ=>?_) h
      rw [Ts τ a ha h4,Ts τ b hb h3,Ts τ b hb h2,Ts τ a ha h1]
      have h0:H7 τ H9.ts=0:=rfl
      omega
section
variable {T:List Sc} {V:List Va}
theorem Uh {a b:Ex}(h:(Bu a b).2=true):Cm T V (two 7 a b)=true:=by
 rw [Ur (by rfl) (by rfl) (by rfl)];exact h
theorem dX (e:Ex):KOK T V e→Ak T V e=1→Fx T V e=true→∀s,Ht (fun y=>Cm T V y.cond=true) (Bw T V e s):=by
  refine Ex.Aa8 (P:=fun e=>KOK T V e→Ak T V e=1→Fx T V e=true→∀s,Ht (fun y=>Cm T V y.cond=true) (Bw T V e s)) (fun e ih hk hr hp s=>?_) e
  rw [Ok,R7] at hp
  have args:By T V e=true→∀a∈e.args,Fx T V a=true:=fun hc a ha=>by
    rw [hc] at hp
    have h2:(e.args.map (Fx T V)).all id=true:=hp
    exact List.all_eq_true.1 h2 _ (List.mem_map_of_mem ha)
  rcases Gz s hk with h | ⟨h,hl⟩ | ⟨h,hl⟩ | ⟨h,hl,h1⟩ | ⟨h,hl,h1,h2⟩ | ⟨h0,h12,h10,h,h9⟩
  · cases h1:((e.val.num==1)==s) with
    | true=>rw [Eh h h1];intro x hx y hy;rw [List.mem_singleton.1 hx] at hy;cases hy
    | false=>rw [Ef h h1];intro x hx;cases hx
  · have h9 : (e.op == 9) = false := by have : e.op = 12 := by simpa using h
                                        simp;omega
    have m0:=Ax hl
    rw [Ed hl h];exact ih _ m0 (An hk m0) (J4 hk m0 (.inr (.inr (by simpa using h)))) (args (by rw [Vx h9,h];simp) _ m0) _
  · have ho:e.op=10∨e.op=11:=by simpa using h
    have h9:(e.op==9)=false:=by simp;omega
    have hc:By T V e=true:=by rw [Vx h9,h];rfl
    have m0:=Ax (show 0<e.args.length by omega)
    have m1:=Bf hl
    have i0:=ih _ m0 (An hk m0) (J4 hk m0 (by omega)) (args hc _ m0) s
    have i1:=ih _ m1 (An hk m1) (J4 hk m1 (by omega)) (args hc _ m1) s
    cases h1:((e.op==10)==s) with
    | true=>rw [Ei hl h h1];exact Ek i0 i1
    | false=>rw [Eg hl h h1];exact H1 i0 i1
  · have hc:By T V e=true:=by rw [aU h];exact h1
    have ho:e.op=9:=by simpa using h
    have m0:=Ax (show 0<e.args.length by omega)
    have m1:=Bf hl
    have k0:Ak T V (Ap e)=1:=by simpa using h1
    have k1:Ak T V (B3 e)=1:=by rw [Lf hk ho m1];exact k0
    have i0:=ih _ m0 (An hk m0) k0 (args hc _ m0)
    have i1:=ih _ m1 (An hk m1) k1 (args hc _ m1)
    rw [Ej hl h h1]
    exact H1 (Ek (i0 _) (i1 _)) (Ek (i0 _) (i1 _))
  · have hc:By T V e=false:=by rw [aU h];exact h1
    have ho:e.op=9:=by simpa using h
    have m0:=Ax (show 0<e.args.length by omega)
    have m1:=Bf hl
    rw [hc] at hp
    have hsim:Cm T V e=true:=hp
    have h3:=h2
    rw [Bool.and_eq_true] at h3
    have k0:Ak T V (Ap e)=0:=by simpa using h3.1
    have hb:(Bu (Ap e) (B3 e)).2=true:=by
      rw [Ur (by rw [ho];rfl) (by unfold Cc;rw [h];simp) (by unfold C0;rw [k0];simp)] at hsim
      exact hsim
    rw [Ee h h1 h2]
    refine F9 fun y hy=>?_
    rcases List.mem_cons.1 hy with rfl | hy
    · exact Uh hb
    · rw [List.mem_singleton.1 hy];exact Uh (dK (An hk m0).nodes (An hk m1).nodes hb)
  · have hc:By T V e=false:=by
      cases h9':e.op==9 with
      | true=>rw [aU h9'];exact (h9 h9').1
      | false=>rw [Vx h9',h10,h12,h0];rfl
    rw [hc] at hp
    rw [h]
    exact F9 fun y hy=>by rw [List.mem_singleton.1 hy];exact hp
abbrev half1 (n:Nat):Nat:=(n-1) / 2
end

def If (bs:List Bd)(d:Ds)(a:Int):Bd:=(bs[(C5 d.last a).toNat]?).getD bd0
structure stOK (n:Nat) (bs:List Bd) (d:Ds) (a:Int):Prop where
 a0:0≤a
 an:a<(n:Int)
 l0:0≤C5 d.last a
 ll:C5 d.last a<(bs.length:Int)
def Kz (n:Nat)(bs:List Bd)(d:Ds):List Int→Int→Prop
 | [],_=>True
 | a::r,b=>stOK n bs d a∧(If bs d a).y=r.headD b∧Kz n bs d r b
def Ou (bs:List Bd)(d:Ds)(c:List Int):Int:=(c.map fun a=>(If bs d a).most).sum
section
variable {n:Nat} {bs:List Bd} {d:Ds}
theorem P1:∀(p q:List Int) (b:Int),Kz n bs d (p++q) b↔Kz n bs d p (q.headD b)∧Kz n bs d q b
  | [],q,b=>by simp [Kz]
  | a::r,q,b=>by
    rw [List.cons_append,Kz,Kz,P1 r q b]
    have:(r++q).headD b=r.headD (q.headD b):=by cases r <;> rfl
    rw [this]
    constructor
    · rintro ⟨h1,h2,h3,h4⟩;exact ⟨⟨h1,h2,h3⟩,h4⟩
    · rintro ⟨⟨h1,h2,h3⟩,h4⟩;exact ⟨h1,h2,h3,h4⟩
theorem eK (p q:List Int):Ou bs d (p++q)=Ou bs d p+Ou bs d q:=by unfold Ou;rw [List.map_append,List.sum_append]
theorem J0 (a:Int)(r:List Int):Ou bs d (a::r)=(If bs d a).most+Ou bs d r:=by unfold Ou;rw [List.map_cons,List.sum_cons]
structure CInv (n:Nat) (bs:List Bd) (d:Ds):Prop where
 s:d.sums.length=n
 l:d.last.length=n
 x:∀a,stOK n bs d a→(If bs d a).x=a
 le:∀a,stOK n bs d a→C5 d.sums (If bs d a).y+(If bs d a).most≤C5 d.sums a
 lt:∀a,0≤a→a<(n:Int)→C5 d.last a<(bs.length:Int)
 neg:∀(a:Int) (r:List Int),(a::r).Nodup→Kz n bs d (a::r) a→Ou bs d (a::r)<0
theorem kC (h:CInv n bs d):∀(r:List Int) (x:Int),Kz n bs d r x→C5 d.sums x+Ou bs d r≤C5 d.sums (r.headD x)
  | [],x,_=>by simp [Ou]
  | a::r,x,hp=>by
    obtain ⟨h1,h2,h3⟩:=hp
    have i1:=kC h r x h3
    have i2:=h.le a h1
    rw [h2] at i2
    rw [J0]
    show _≤C5 d.sums a
    omega
theorem iM (hn:d.sums.length=n)(hl:d.last=Jo n):CInv n bs d:=by
 have hno:∀a,¬stOK n bs d a:=fun a h=>by
  have h1:=h.l0
  have hlt:a.toNat<n:=by have:=h.a0;have:=h.an;omega
  rw [hl] at h1
  unfold C5 Jo at h1
  rw [List.getElem?_replicate,if_pos hlt] at h1
  exact absurd h1 (by decide)
 refine ⟨hn,by rw [hl];simp [Jo],fun a h=>absurd h (hno a),fun a h=>absurd h (hno a),fun a h0 h1=>?_,fun a r _ hp=>absurd hp.1 (hno a)⟩
 rw [hl]
 unfold C5 Jo
 rw [List.getElem?_replicate,if_pos (by omega)]
 show (-1:Int)<_
 omega
end
def Rs (d:Ds)(i:Nat)(b:Bd):Ds:=⟨d.sums.set b.x.toNat (C5 d.sums b.y+b.most),d.last.set b.x.toNat (i:Int)⟩
section
variable {n:Nat} {bs:List Bd} {d:Ds} {i:Nat} {b:Bd}
theorem Q2 (h:CInv n bs d)(hb:iI n b){a:Int}(ha:0≤a):C5 (Rs d i b).last a=if a=b.x then (i:Int) else C5 d.last a:=L5 hb.1 (by rw [h.l];exact hb.2.1) ha
theorem Ty (h:CInv n bs d)(hb:iI n b){a:Int}(ha:0≤a):C5 (Rs d i b).sums a=if a=b.x then C5 d.sums b.y+b.most else C5 d.sums a:=L5 hb.1 (by rw [h.s];exact hb.2.1) ha
theorem V5 (h:CInv n bs d)(hb:iI n b){a:Int}(ha:0≤a)(hne:a≠b.x):If bs (Rs d i b) a=If bs d a:=by
 unfold If;rw [Q2 h hb ha,if_neg hne]
theorem Tr (h:CInv n bs d)(hb:iI n b)(hi:bs[i]? = some b):If bs (Rs d i b) b.x=b:=by
 unfold If;rw [Q2 h hb hb.1,if_pos rfl,Int.toNat_natCast,hi];rfl
theorem fR (h:CInv n bs d)(hb:iI n b){a:Int}(hne:a≠b.x)(hs:stOK n bs (Rs d i b) a):stOK n bs d a:=by
 have h1:=Q2 (i:=i) h hb hs.a0
 rw [if_neg hne] at h1
 exact ⟨hs.a0,hs.an,by rw [←h1];exact hs.l0,by rw [←h1];exact hs.ll⟩
theorem Ut (h:CInv n bs d)(hb:iI n b):∀(r:List Int) (x:Int),b.x∉r→Kz n bs (Rs d i b) r x→Kz n bs d r x∧Ou bs (Rs d i b) r=Ou bs d r
  | [],x,_,_=>⟨trivial,rfl⟩
  | a::r,x,hn,hp=>by
    obtain ⟨h1,h2,h3⟩:=hp
    have hne:a≠b.x:=fun e=>hn (by rw [e];exact List.mem_cons_self ..)
    obtain ⟨i1,i2⟩:=Ut h hb r x (fun hm=>hn (List.mem_cons_of_mem _ hm)) h3
    have e:=V5 (bs:=bs) (i:=i) h hb h1.a0 hne
    rw [e] at h2
    exact ⟨⟨fR h hb hne h1,h2,i1⟩,by rw [J0,J0,e,i2]⟩
theorem uD (h:CInv n bs d)(hbs:∀b∈bs,iI n b)(hi:bs[i]? = some b)(hq:C5 d.sums b.y+b.most<C5 d.sums b.x):CInv n bs (Rs d i b):=by
  have hb:=hbs b (List.mem_of_getElem? hi)
  have hil:=(List.getElem?_eq_some_iff.1 hi).1
  -- the cycles through the new bound
  have hcyc:∀r:List Int,(b.x::r).Nodup→Kz n bs (Rs d i b) (b.x::r) b.x→Ou bs (Rs d i b) (b.x::r)<0:=by
    intro r hn hp
    obtain ⟨_,h2,h3⟩:=hp
    obtain ⟨i1,i2⟩:=Ut h hb r b.x (List.nodup_cons.1 hn).1 h3
    have i3:=kC h r b.x i1
    rw [Tr h hb hi] at h2
    rw [J0,Tr h hb hi,i2]
    rw [←h2] at i3
    omega
  refine ⟨by simp only [Rs,List.length_set];exact h.s,by simp only [Rs,List.length_set];exact h.l,fun a ha=>?_,fun a ha=>?_,fun a a0 an=>?_,fun a r hn hp=>?_⟩
  · by_cases e:a=b.x
    · rw [e,Tr h hb hi]
    · rw [V5 h hb ha.a0 e];exact h.x a (fR h hb e ha)
  · by_cases e:a=b.x
    · rw [e,Tr h hb hi,Ty h hb hb.1,if_pos rfl,Ty h hb hb.2.2.1]
      split
      · rename_i hy;rw [hy] at hq;omega
      · omega
    · have hs:=fR h hb e ha
      have hle:=h.le a hs
      have hy:=hbs _ (show If bs d a∈bs by
        have hlt:(C5 d.last a).toNat<bs.length:=by have:=hs.l0;have:=hs.ll;omega
        unfold If
        rw [List.getElem?_eq_getElem hlt]
        exact List.getElem_mem hlt)
      rw [V5 h hb ha.a0 e,Ty h hb ha.a0,if_neg e,Ty h hb hy.2.2.1]
      split
      · rename_i hx;rw [hx] at hle;omega
      · exact hle
  · rw [Q2 h hb a0]
    split
    · omega
    · exact h.lt a a0 an
  · by_cases hm:b.x∈a::r
    · obtain ⟨p,q,e⟩:=List.append_of_mem hm
      rw [e] at hn hp ⊢
      rw [P1] at hp
      have hh:(p++b.x::q).headD 0=(p++b.x::q).headD 0:=rfl
      have ea:a=p.headD b.x:=by
        cases p with
        | nil=>simp at e;exact e.1
        | cons c p'=>simp at e;exact e.1
      have hrot:Kz n bs (Rs d i b) (b.x::(q++p)) b.x:=by
        rw [←List.cons_append,P1]
        refine ⟨?_,hp.1⟩
        rw [←ea];exact hp.2
      have hnd:(b.x::(q++p)).Nodup:=by
        have:(p++b.x::q).Perm (b.x::(q++p)):=List.perm_append_comm
        exact this.nodup_iff.1 hn
      have:=hcyc (q++p) hnd hrot
      rw [J0,eK] at this
      rw [eK,J0]
      omega
    · obtain ⟨i1,i2⟩:=Ut h hb (a::r) a hm hp
      rw [i2];exact h.neg a r hn i1
theorem kT (hbs:∀b∈bs,iI n b):∀(m i:Nat) {s:Ds×Int},i+m=bs.length→CInv n bs s.1→CInv n bs (Gi i (bs.drop i) s).1
  | 0,i,s,hm,h=>by rw [Rx (List.drop_eq_nil_of_le (by omega))];exact h
  | m+1,i,s,hm,h=>by
    have hlt:i<bs.length:=by omega
    have hb:=List.getElem?_eq_getElem hlt
    rw [Md hb]
    refine kT hbs m (i+1) (by omega) ?_
    cases hq:decide (C5 s.1.sums (bs[i]).y+(bs[i]).most<C5 s.1.sums (bs[i]).x) with
    | false=>rw [R4 hq];exact h
    | true=>rw [Mb hq];exact uD h hbs hb (of_decide_eq_true hq)
theorem Sl (hbs:∀b∈bs,iI n b):∀(m:Nat) {s:Ds×Int},CInv n bs s.1→CInv n bs (Do bs m s).1
  | 0,s,h=>h
  | m+1,s,h=>by
    have h1:CInv n bs (I8 bs s.1).1:=by
      have:=kT hbs bs.length 0 (s:=(s.1,-1)) (by omega) h
      rw [List.drop_zero] at this
      exact this
    rw [Do]
    split
    · exact h1
    · exact Sl hbs m h1
theorem sF (hbs:∀b∈bs,iI n b):CInv n bs (Cy (zn n bs)).1:=by
 rw [Ls]
 exact Sl hbs (n+1) (iM (by simp) rfl)
end
def Rm (bs:List Bd)(d:Ds)(f:Int):Nat→Int→List Int
 | 0,_=>[]
 | n+1,a=>a::if E7 bs d a==f then [] else Rm bs d f n (E7 bs d a)
theorem kE (bs:List Bd)(d:Ds)(f:Int):∀(m:Nat) (a:Int),Hb bs d f m a=(Rm bs d f m a).map (C5 d.last)
  | 0,a=>rfl
  | m+1,a=>by
    rw [Hb,Rm,List.map_cons]
    split
    · rfl
    · rw [kE bs d f m]
section
variable {n:Nat} {bs:List Bd} {d:Ds} {f:Int}
theorem dE (hl:d.last.length=n):∀(m:Nat) (a:Int),Ih bs d f m a=true→Kz n bs d (Rm bs d f m a) f∧(Rm bs d f m a).headD f=a∧f∉(Rm bs d f m a).tail∧(Rm bs d f m a).length≤m∧Rm bs d f m a≠[]
  | 0,a,h=>by cases h
  | m+1,a,h=>by
    rw [Ih,Bool.and_eq_true] at h
    obtain ⟨b,hb⟩:=T5 h.1
    have hst:stOK n bs d a:=⟨hb.a0,by rw [←hl];exact hb.al,hb.l0,by have:=(List.getElem?_eq_some_iff.1 hb.at_).1;have:=hb.l0;omega⟩
    have hy:(If bs d a).y=E7 bs d a:=rfl
    rw [Rm]
    cases hq:E7 bs d a==f with
    | true=>
      rw [if_pos rfl]
      have e:E7 bs d a=f:=by simpa using hq
      refine ⟨⟨hst,by rw [hy,e];rfl,trivial⟩,rfl,(fun h=>by cases h),by simp,by simp⟩
    | false=>
      rw [if_neg (by decide)]
      rw [hq,Bool.false_or] at h
      obtain ⟨i1,i2,i3,i4,i5⟩:=dE hl m (E7 bs d a) h.2
      refine ⟨⟨hst,by rw [hy,i2],i1⟩,rfl,?_,by rw [List.length_cons];omega,by simp⟩
      show f∉Rm bs d f m (E7 bs d a)
      have hne:E7 bs d a≠f:=by simpa using hq
      generalize Rm bs d f m (E7 bs d a)=c at i2 i3 i5
      cases c with
      | nil=>exact absurd rfl i5
      | cons x r=>
        intro hm
        rcases List.mem_cons.1 hm with e | hm
        · exact hne (by rw [←i2,e];rfl)
        · exact i3 hm
theorem Xa:∀(r1 r2:List Int) (a:Int),Kz n bs d (a::r1) f→Kz n bs d (a::r2) f→f∉r1→f∉r2→r1=r2
  | [],[],_,_,_,_,_=>rfl
  | [],b::r2,a,h1,h2,_,n2=>by
    have e1:=h1.2.1
    have e2:=h2.2.1
    rw [e1] at e2
    exact absurd (by show f∈b::r2;rw [show f=b from e2];exact List.mem_cons_self ..) n2
  | b::r1,[],a,h1,h2,n1,_=>by
    have e1:=h1.2.1
    have e2:=h2.2.1
    rw [e2] at e1
    exact absurd (by show f∈b::r1;rw [show f=b from e1];exact List.mem_cons_self ..) n1
  | b::r1,c::r2,a,h1,h2,n1,n2=>by
    have e1:=h1.2.1
    have e2:=h2.2.1
    rw [e1] at e2
    have e3:b=c:=e2
    subst e3
    rw [Xa r1 r2 b h1.2.2 h2.2.2 (fun h=>n1 (List.mem_cons_of_mem _ h)) (fun h=>n2 (List.mem_cons_of_mem _ h))]
theorem V7:∀(r:List Int) (a:Int),Kz n bs d (a::r) f→f∉r→(a::r).Nodup
  | [],a,_,_=>by simp
  | b::r,a,h,hn=>by
    have i1:=V7 r b h.2.2 (fun hm=>hn (List.mem_cons_of_mem _ hm))
    rw [List.nodup_cons]
    refine ⟨fun hm=>?_,i1⟩
    obtain ⟨p,q,e⟩:=List.append_of_mem hm
    have h2:Kz n bs d (a::q) f:=by
      have h3:=h.2.2
      rw [e,P1] at h3
      exact h3.2
    have h4:f∉q:=fun hq=>hn (by rw [e];exact List.mem_append_right _ (List.mem_cons_of_mem _ hq))
    have h5:=Xa (b::r) q a h h2 hn h4
    rw [e] at h5
    have:=congrArg List.length h5
    simp at this
    omega
theorem uO (h:CInv n bs d){m:Nat}(hc:Ih bs d f m f=true):∃r,Rm bs d f m f=f::r∧Kz n bs d (f::r) f∧Ou bs d (f::r)<0∧(f::r).length≤m:=by
  obtain ⟨h1,h2,h3,h4,h5⟩:=dE h.l m f hc
  generalize hg:Rm bs d f m f=c at h1 h2 h3 h4 h5
  cases c with
  | nil=>exact absurd rfl h5
  | cons x r=>
    have e:x=f:=h2
    subst e
    exact ⟨r,rfl,h1,h.neg _ r (V7 r _ h1 h3) h1,h4⟩
end
end Go.Proofs.YtjedflcpjlgokaaGreatDoor
