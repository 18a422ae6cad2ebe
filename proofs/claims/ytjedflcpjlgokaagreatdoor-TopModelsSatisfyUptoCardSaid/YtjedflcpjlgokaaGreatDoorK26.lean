/-
  Several texts in one: S52, S53, Au, S51, S54. No condition.
-/
import Derived.Test.YtjedflcpjlgokaaGreatDoorK22
import Derived.Test.YtjedflcpjlgokaaGreatDoorK25
import Derived.Test.YtjedflcpjlgokaaGreatDoorK14
set_option linter.unusedVariables false
set_option linter.unusedSimpArgs false
namespace Go.Proofs.YtjedflcpjlgokaaGreatDoor
open Go Go.Aw

def I8 (bs:List Bd)(d:Ds)(a:Int):Bd:=(bs[(Du d.last a).toNat]?).getD bd0
structure stOK (n:Nat) (bs:List Bd) (d:Ds) (a:Int):Prop where
 a0:0≤a
 an:a<(n:Int)
 l0:0≤Du d.last a
 ll:Du d.last a<(bs.length:Int)
def L0 (n:Nat)(bs:List Bd)(d:Ds):List Int→Int→Prop
 | [],_=>True
 | a::r,b=>stOK n bs d a∧(I8 bs d a).y=r.headD b∧L0 n bs d r b
def P2 (bs:List Bd)(d:Ds)(c:List Int):Int:=(c.map fun a=>(I8 bs d a).most).sum
section
variable {n:Nat} {bs:List Bd} {d:Ds}
theorem Rs:∀(p q:List Int) (b:Int),L0 n bs d (p++q) b↔L0 n bs d p (q.headD b)∧L0 n bs d q b
  | [],q,b=>by simp [L0]
  | a::r,q,b=>by
    rw [List.cons_append,L0,L0,Rs r q b]
    have:(r++q).headD b=r.headD (q.headD b):=by cases r <;> rfl
    rw [this]
    constructor
    · rintro ⟨h1,h2,h3,h4⟩;exact ⟨⟨h1,h2,h3⟩,h4⟩
    · rintro ⟨⟨h1,h2,h3⟩,h4⟩;exact ⟨h1,h2,h3,h4⟩
theorem fL (p q:List Int):P2 bs d (p++q)=P2 bs d p+P2 bs d q:=by unfold P2;rw [List.map_append,List.sum_append]
theorem K9 (a:Int)(r:List Int):P2 bs d (a::r)=(I8 bs d a).most+P2 bs d r:=by unfold P2;rw [List.map_cons,List.sum_cons]
structure CInv (n:Nat) (bs:List Bd) (d:Ds):Prop where
 s:d.sums.length=n
 l:d.last.length=n
 x:∀a,stOK n bs d a→(I8 bs d a).x=a
 le:∀a,stOK n bs d a→Du d.sums (I8 bs d a).y+(I8 bs d a).most≤Du d.sums a
 lt:∀a,0≤a→a<(n:Int)→Du d.last a<(bs.length:Int)
 neg:∀(a:Int) (r:List Int),(a::r).Nodup→L0 n bs d (a::r) a→P2 bs d (a::r)<0
theorem mN (h:CInv n bs d):∀(r:List Int) (x:Int),L0 n bs d r x→Du d.sums x+P2 bs d r≤Du d.sums (r.headD x)
  | [],x,_=>by simp [P2]
  | a::r,x,hp=>by
    obtain ⟨h1,h2,h3⟩:=hp
    have i1:=mN h r x h3
    have i2:=h.le a h1
    rw [h2] at i2
    rw [K9]
    show _≤Du d.sums a
    omega
theorem jO (hn:d.sums.length=n)(hl:d.last=Ks n):CInv n bs d:=by
 have hno:∀a,¬stOK n bs d a:=fun a h=>by
  have h1:=h.l0
  have hlt:a.toNat<n:=by have:=h.a0;have:=h.an;omega
  rw [hl] at h1
  unfold Du Ks at h1
  rw [List.getElem?_replicate,if_pos hlt] at h1
  exact absurd h1 (by decide)
 refine ⟨hn,by rw [hl];simp [Ks],fun a h=>absurd h (hno a),fun a h=>absurd h (hno a),fun a h0 h1=>?_,fun a r _ hp=>absurd hp.1 (hno a)⟩
 rw [hl]
 unfold Du Ks
 rw [List.getElem?_replicate,if_pos (by omega)]
 show (-1:Int)<_
 omega
end
def S5 (d:Ds)(i:Nat)(b:Bd):Ds:=⟨d.sums.set b.x.toNat (Du d.sums b.y+b.most),d.last.set b.x.toNat (i:Int)⟩
section
variable {n:Nat} {bs:List Bd} {d:Ds} {i:Nat} {b:Bd}
theorem Sh (h:CInv n bs d)(hb:iI n b){a:Int}(ha:0≤a):Du (S5 d i b).last a=if a=b.x then (i:Int) else Du d.last a:=N1 hb.1 (by rw [h.l];exact hb.2.1) ha
theorem Uw (h:CInv n bs d)(hb:iI n b){a:Int}(ha:0≤a):Du (S5 d i b).sums a=if a=b.x then Du d.sums b.y+b.most else Du d.sums a:=N1 hb.1 (by rw [h.s];exact hb.2.1) ha
theorem Vy (h:CInv n bs d)(hb:iI n b){a:Int}(ha:0≤a)(hne:a≠b.x):I8 bs (S5 d i b) a=I8 bs d a:=by
 unfold I8;rw [Sh h hb ha,if_neg hne]
theorem U9 (h:CInv n bs d)(hb:iI n b)(hi:bs[i]? = some b):I8 bs (S5 d i b) b.x=b:=by
 unfold I8;rw [Sh h hb hb.1,if_pos rfl,Int.toNat_natCast,hi];rfl
theorem kC (h:CInv n bs d)(hb:iI n b){a:Int}(hne:a≠b.x)(hs:stOK n bs (S5 d i b) a):stOK n bs d a:=by
 have h1:=Sh (i:=i) h hb hs.a0
 rw [if_neg hne] at h1
 exact ⟨hs.a0,hs.an,by rw [←h1];exact hs.l0,by rw [←h1];exact hs.ll⟩
theorem Xh (h:CInv n bs d)(hb:iI n b):∀(r:List Int) (x:Int),b.x∉r→L0 n bs (S5 d i b) r x→L0 n bs d r x∧P2 bs (S5 d i b) r=P2 bs d r
  | [],x,_,_=>⟨trivial,rfl⟩
  | a::r,x,hn,hp=>by
    obtain ⟨h1,h2,h3⟩:=hp
    have hne:a≠b.x:=fun e=>hn (by rw [e];exact List.mem_cons_self ..)
    obtain ⟨i1,i2⟩:=Xh h hb r x (fun hm=>hn (List.mem_cons_of_mem _ hm)) h3
    have e:=Vy (bs:=bs) (i:=i) h hb h1.a0 hne
    rw [e] at h2
    exact ⟨⟨kC h hb hne h1,h2,i1⟩,by rw [K9,K9,e,i2]⟩
theorem zC (h:CInv n bs d)(hbs:∀b∈bs,iI n b)(hi:bs[i]? = some b)(hq:Du d.sums b.y+b.most<Du d.sums b.x):CInv n bs (S5 d i b):=by
  have hb:=hbs b (List.mem_of_getElem? hi)
  have hil:=(List.getElem?_eq_some_iff.1 hi).1
  -- the cycles through the new bound
  have hcyc:∀r:List Int,(b.x::r).Nodup→L0 n bs (S5 d i b) (b.x::r) b.x→P2 bs (S5 d i b) (b.x::r)<0:=by
    intro r hn hp
    obtain ⟨_,h2,h3⟩:=hp
    obtain ⟨i1,i2⟩:=Xh h hb r b.x (List.nodup_cons.1 hn).1 h3
    have i3:=mN h r b.x i1
    rw [U9 h hb hi] at h2
    rw [K9,U9 h hb hi,i2]
    rw [←h2] at i3
    omega
  refine ⟨by simp only [S5,List.length_set];exact h.s,by simp only [S5,List.length_set];exact h.l,fun a ha=>?_,fun a ha=>?_,fun a a0 an=>?_,fun a r hn hp=>?_⟩
  · by_cases e:a=b.x
    · rw [e,U9 h hb hi]
    · rw [Vy h hb ha.a0 e];exact h.x a (kC h hb e ha)
  · by_cases e:a=b.x
    · rw [e,U9 h hb hi,Uw h hb hb.1,if_pos rfl,Uw h hb hb.2.2.1]
      split
      · rename_i hy;rw [hy] at hq;omega
      · omega
    · have hs:=kC h hb e ha
      have hle:=h.le a hs
      have hy:=hbs _ (show I8 bs d a∈bs by
        have hlt:(Du d.last a).toNat<bs.length:=by have:=hs.l0;have:=hs.ll;omega
        unfold I8
        rw [List.getElem?_eq_getElem hlt]
        exact List.getElem_mem hlt)
      rw [Vy h hb ha.a0 e,Uw h hb ha.a0,if_neg e,Uw h hb hy.2.2.1]
      split
      · rename_i hx;rw [hx] at hle;omega
      · exact hle
  · rw [Sh h hb a0]
    split
    · omega
    · exact h.lt a a0 an
  · by_cases hm:b.x∈a::r
    · obtain ⟨p,q,e⟩:=List.append_of_mem hm
      rw [e] at hn hp ⊢
      rw [Rs] at hp
      have hh:(p++b.x::q).headD 0=(p++b.x::q).headD 0:=rfl
      have ea:a=p.headD b.x:=by
        cases p with
        | nil=>simp at e;exact e.1
        | cons c p'=>simp at e;exact e.1
      have hrot:L0 n bs (S5 d i b) (b.x::(q++p)) b.x:=by
        rw [←List.cons_append,Rs]
        refine ⟨?_,hp.1⟩
        rw [←ea];exact hp.2
      have hnd:(b.x::(q++p)).Nodup:=by
        have:(p++b.x::q).Perm (b.x::(q++p)):=List.perm_append_comm
        exact this.nodup_iff.1 hn
      have:=hcyc (q++p) hnd hrot
      rw [K9,fL] at this
      rw [fL,K9]
      omega
    · obtain ⟨i1,i2⟩:=Xh h hb (a::r) a hm hp
      rw [i2];exact h.neg a r hn i1
theorem mW (hbs:∀b∈bs,iI n b):∀(m i:Nat) {s:Ds×Int},i+m=bs.length→CInv n bs s.1→CInv n bs (Hm i (bs.drop i) s).1
  | 0,i,s,hm,h=>by rw [Tg (List.drop_eq_nil_of_le (by omega))];exact h
  | m+1,i,s,hm,h=>by
    have hlt:i<bs.length:=by omega
    have hb:=List.getElem?_eq_getElem hlt
    rw [Mx hb]
    refine mW hbs m (i+1) (by omega) ?_
    cases hq:decide (Du s.1.sums (bs[i]).y+(bs[i]).most<Du s.1.sums (bs[i]).x) with
    | false=>rw [Tl hq];exact h
    | true=>rw [Mu hq];exact zC h hbs hb (of_decide_eq_true hq)
theorem T1 (hbs:∀b∈bs,iI n b):∀(m:Nat) {s:Ds×Int},CInv n bs s.1→CInv n bs (Ea bs m s).1
  | 0,s,h=>h
  | m+1,s,h=>by
    have h1:CInv n bs (Ka bs s.1).1:=by
      have:=mW hbs bs.length 0 (s:=(s.1,-1)) (by omega) h
      rw [List.drop_zero] at this
      exact this
    rw [Ea]
    split
    · exact h1
    · exact T1 hbs m h1
theorem uR (hbs:∀b∈bs,iI n b):CInv n bs (Di (zn n bs)).1:=by
 rw [Na]
 exact T1 hbs (n+1) (jO (by simp) rfl)
end
def Ta (bs:List Bd)(d:Ds)(f:Int):Nat→Int→List Int
 | 0,_=>[]
 | n+1,a=>a::if F3 bs d a==f then [] else Ta bs d f n (F3 bs d a)
theorem lR (bs:List Bd)(d:Ds)(f:Int):∀(m:Nat) (a:Int),Ib bs d f m a=(Ta bs d f m a).map (Du d.last)
  | 0,a=>rfl
  | m+1,a=>by
    rw [Ib,Ta,List.map_cons]
    split
    · rfl
    · rw [lR bs d f m]
section
variable {n:Nat} {bs:List Bd} {d:Ds} {f:Int}
theorem eE (hl:d.last.length=n):∀(m:Nat) (a:Int),I9 bs d f m a=true→L0 n bs d (Ta bs d f m a) f∧(Ta bs d f m a).headD f=a∧f∉(Ta bs d f m a).tail∧(Ta bs d f m a).length≤m∧Ta bs d f m a≠[]
  | 0,a,h=>by cases h
  | m+1,a,h=>by
    rw [I9,Bool.and_eq_true] at h
    obtain ⟨b,hb⟩:=V5 h.1
    have hst:stOK n bs d a:=⟨hb.a0,by rw [←hl];exact hb.al,hb.l0,by have:=(List.getElem?_eq_some_iff.1 hb.at_).1;have:=hb.l0;omega⟩
    have hy:(I8 bs d a).y=F3 bs d a:=rfl
    rw [Ta]
    cases hq:F3 bs d a==f with
    | true=>
      rw [if_pos rfl]
      have e:F3 bs d a=f:=by simpa using hq
      refine ⟨⟨hst,by rw [hy,e];rfl,trivial⟩,rfl,(fun h=>by cases h),by simp,by simp⟩
    | false=>
      rw [if_neg (by decide)]
      rw [hq,Bool.false_or] at h
      obtain ⟨i1,i2,i3,i4,i5⟩:=eE hl m (F3 bs d a) h.2
      refine ⟨⟨hst,by rw [hy,i2],i1⟩,rfl,?_,by rw [List.length_cons];omega,by simp⟩
      show f∉Ta bs d f m (F3 bs d a)
      have hne:F3 bs d a≠f:=by simpa using hq
      generalize Ta bs d f m (F3 bs d a)=c at i2 i3 i5
      cases c with
      | nil=>exact absurd rfl i5
      | cons x r=>
        intro hm
        rcases List.mem_cons.1 hm with e | hm
        · exact hne (by rw [←i2,e];rfl)
        · exact i3 hm
theorem Zz:∀(r1 r2:List Int) (a:Int),L0 n bs d (a::r1) f→L0 n bs d (a::r2) f→f∉r1→f∉r2→r1=r2
  | [],[],_,_,_,_,_=>rfl
  | [],b::r2,a,h1,h2,_,n2=>by
    have e1:=h1.2.1
    have e2:=h2.2.1
    rw [e1] at e2
    exact absurd (by show f∈b::r2;rw [show f=b from e2];exact List.mem_cons_self ..) n2
  | b::r1,[],a,h1,h2,n1,_=>by
    have e1:=h1.2.1
    have e2:=h2.2.1
    rw [e2] at e1
    exact absurd (by show f∈b::r1;rw [show f=b from e1];exact List.mem_cons_self ..) n1
  | b::r1,c::r2,a,h1,h2,n1,n2=>by
    have e1:=h1.2.1
    have e2:=h2.2.1
    rw [e1] at e2
    have e3:b=c:=e2
    subst e3
    rw [Zz r1 r2 b h1.2.2 h2.2.2 (fun h=>n1 (List.mem_cons_of_mem _ h)) (fun h=>n2 (List.mem_cons_of_mem _ h))]
theorem Wn:∀(r:List Int) (a:Int),L0 n bs d (a::r) f→f∉r→(a::r).Nodup
  | [],a,_,_=>by simp
  | b::r,a,h,hn=>by
    have i1:=Wn r b h.2.2 (fun hm=>hn (List.mem_cons_of_mem _ hm))
    rw [List.nodup_cons]
    refine ⟨fun hm=>?_,i1⟩
    obtain ⟨p,q,e⟩:=List.append_of_mem hm
    have h2:L0 n bs d (a::q) f:=by
      have h3:=h.2.2
      rw [e,Rs] at h3
      exact h3.2
    have h4:f∉q:=fun hq=>hn (by rw [e];exact List.mem_append_right _ (List.mem_cons_of_mem _ hq))
    have h5:=Zz (b::r) q a h h2 hn h4
    rw [e] at h5
    have:=congrArg List.length h5
    simp at this
    omega
theorem xE (h:CInv n bs d){m:Nat}(hc:I9 bs d f m f=true):∃r,Ta bs d f m f=f::r∧L0 n bs d (f::r) f∧P2 bs d (f::r)<0∧(f::r).length≤m:=by
  obtain ⟨h1,h2,h3,h4,h5⟩:=eE h.l m f hc
  generalize hg:Ta bs d f m f=c at h1 h2 h3 h4 h5
  cases c with
  | nil=>exact absurd rfl h5
  | cons x r=>
    have e:x=f:=h2
    subst e
    exact ⟨r,rfl,h1,h.neg _ r (Wn r _ h1 h3) h1,h4⟩
end

def Wh:Ex→Nat:=P3 fun e ns=>if e.args.isEmpty then 1 else ns.sum
theorem jF (e:Ex):Wh e=if e.args.isEmpty then 1 else (e.args.map Wh).sum:=U5 _ e
theorem lv_nil {e:Ex}(h:e.args = []):Wh e=1:=by rw [jF,h];rfl
theorem tH {e:Ex}(h:e.args.length=1):Wh e=Wh (Av e):=by rw [jF,Zo h];simp
theorem S6 {e:Ex}(h:e.args.length=2):Wh e=Wh (Av e)+Wh (Cc e):=by rw [jF,Td h];simp
theorem kB {e:Ex}(h:B3 e=0):e.args = []∨e.args.length=1∨e.args.length=2:=by
 obtain ⟨h0,h1,h2⟩:=F6 h
 unfold D8 at h2
 split at h2
 · omega
 split at h2
 · left;exact List.eq_nil_of_length_eq_zero (by omega)
 split at h2
 · right;left;omega
 · right;right;omega
theorem Vu (e:Ex):Ca e=0→1≤Wh e∧2*Wh e≤Ar e+1:=by
 refine Ex.Aav (P:=fun e=>Ca e=0→1≤Wh e∧2*Wh e≤Ar e+1) (fun e ih h=>?_) e
 have hz:=Bc h
 rcases kB hz.1 with h1 | h1 | h1
 · rw [lv_nil h1,Dp];omega
 ·
  have m0:=A0 (show 0<e.args.length by omega)
  have i0:=ih _ m0 (hz.2 _ m0)
  rw [tH h1,Dp,Zo h1]
  simp;omega
 ·
  have m0:=A0 (show 0<e.args.length by omega)
  have m1:=Bk (show 1<e.args.length by omega)
  have i0:=ih _ m0 (hz.2 _ m0)
  have i1:=ih _ m1 (hz.2 _ m1)
  rw [S6 h1,Dp,Td h1]
  simp;omega
section
variable {T:List Sc} {V:List Va}
def rN (c:List Lit):Nat:=(c.map fun y=>Wh y.cond).sum
theorem xO (a b:List Lit):rN (a++b)=rN a+rN b:=by unfold rN;rw [List.map_append,List.sum_append]
theorem Wc (y:Lit)(r:List Lit):rN (y::r)=Wh y.cond+rN r:=by unfold rN;rw [List.map_cons,List.sum_cons]
def Wx (k:Nat)(c:Cs):Prop:=∀x∈c.1,rN x≤k
theorem We {m n:Nat}{a b:Cs}(ha:Wx m a)(hb:Wx n b):Wx (m+n) (Ek a b):=by
 unfold Ek
 split
 · intro x hx;cases hx
 ·
  unfold Lh
  split
  · intro x hx;cases hx
  ·
   intro x hx
   obtain ⟨p,hp,hm⟩:=List.mem_flatMap.1 hx
   obtain ⟨q,hq,rfl⟩:=List.mem_map.1 hm
   have:=ha p hp;have:=hb q hq
   rw [xO];omega
theorem kL {k:Nat}{a b:Cs}(ha:Wx k a)(hb:Wx k b):Wx k (Ie a b):=by
 unfold Ie
 split
 · intro x hx;cases hx
 ·
  intro x hx
  rcases List.mem_append.1 hx with h | h
  · exact ha x h
  · exact hb x h
theorem lH {m k:Nat}{a:Cs}(h:Wx m a)(hm:m≤k):Wx k a:=fun x hx=>Nat.le_trans (h x hx) hm
theorem Yi {k:Nat}{l:List Lit}(h:∀y∈l,Wh y.cond≤k):Wx k (D9 l):=by
 intro x hx
 unfold D9 at hx
 obtain ⟨z,hz,rfl⟩:=List.mem_map.1 hx
 rw [Wc]
 have:=h z hz
 show _+0≤k
 omega
theorem dC (e:Ex):KOK T V e→∀s,Wx (Wh e) (Cl T V e s):=by
 refine Ex.Aav (P:=fun e=>KOK T V e→∀s,Wx (Wh e) (Cl T V e s)) (fun e ih hk s=>?_) e
 rcases It s hk with h | ⟨h,hl⟩ | ⟨h,hl⟩ | ⟨h,hl,h1⟩ | ⟨h,hl,h1,h2⟩ | ⟨_,_,_,h,_⟩
 ·
  cases h1:((e.val.num==1)==s) with
  | true=>rw [Fq h h1];intro x hx;rw [List.mem_singleton.1 hx];exact Nat.zero_le _
  | false=>rw [Fm h h1];intro x hx;cases hx
 ·
  have h12:e.op=12:=by simpa using h
  rw [Fp hl h,tH (len1 hk h12)]
  exact ih _ (A0 hl) (A2 hk (A0 hl)) _
 ·
  have ho:e.op=10∨e.op=11:=by simpa using h
  have h2:=X5 hk (by omega) (by omega)
  have m0:=A0 (show 0<e.args.length by omega)
  have m1:=Bk hl
  have i0:=ih _ m0 (A2 hk m0) s
  have i1:=ih _ m1 (A2 hk m1) s
  rw [S6 h2]
  cases h1:((e.op==10)==s) with
  | true=>rw [Fs hl h h1];exact We i0 i1
  | false=>rw [Fl hl h h1];exact kL (lH i0 (by omega)) (lH i1 (by omega))
 ·
  have ho:e.op=9:=by simpa using h
  have h2:=X5 hk (by omega) (by omega)
  have m0:=A0 (show 0<e.args.length by omega)
  have m1:=Bk hl
  have i0:=ih _ m0 (A2 hk m0)
  have i1:=ih _ m1 (A2 hk m1)
  rw [Fr hl h h1,S6 h2]
  exact kL (We (i0 _) (i1 _)) (We (i0 _) (i1 _))
 ·
  have ho:e.op=9:=by simpa using h
  have h3:=X5 hk (by omega) (by omega)
  rw [Fk h h1 h2,S6 h3]
  refine Yi fun y hy=>?_
  have e2:∀a b:Ex,Wh (two 7 a b)=Wh a+Wh b:=fun a b=>by rw [S6 (by rfl)];rfl
  rcases List.mem_cons.1 hy with rfl | hy
  · show Wh (two 7 _ _)≤_;rw [e2];exact Nat.le_refl _
  · rw [List.mem_singleton.1 hy];show Wh (two 7 _ _)≤_;rw [e2];omega
 · rw [h];exact Yi fun y hy=>by rw [List.mem_singleton.1 hy];exact Nat.le_refl _
theorem fP (e:Ex):KOK T V e→∀s,Jw (fun y=>C6 T V y.cond=false) (Cl T V e s):=by
 refine Ex.Aav (P:=fun e=>KOK T V e→∀s,Jw (fun y=>C6 T V y.cond=false) (Cl T V e s)) (fun e ih hk s=>?_) e
 rcases It s hk with h | ⟨h,hl⟩ | ⟨h,hl⟩ | ⟨h,hl,h1⟩ | ⟨h,hl,h1,h2⟩ | ⟨h0,h12,h10,h,h9⟩
 ·
  cases h1:((e.val.num==1)==s) with
  | true=>rw [Fq h h1];intro x hx y hy;rw [List.mem_singleton.1 hx] at hy;cases hy
  | false=>rw [Fm h h1];intro x hx;cases hx
 · rw [Fp hl h];exact ih _ (A0 hl) (A2 hk (A0 hl)) _
 ·
  have m0:=A0 (show 0<e.args.length by omega)
  have m1:=Bk hl
  cases h1:((e.op==10)==s) with
  | true=>rw [Fs hl h h1];exact H1 (ih _ m0 (A2 hk m0) _) (ih _ m1 (A2 hk m1) _)
  | false=>rw [Fl hl h h1];exact Ly (ih _ m0 (A2 hk m0) _) (ih _ m1 (A2 hk m1) _)
 ·
  have m0:=A0 (show 0<e.args.length by omega)
  have m1:=Bk hl
  have i0:=ih _ m0 (A2 hk m0)
  have i1:=ih _ m1 (A2 hk m1)
  rw [Fr hl h h1]
  exact Ly (H1 (i0 _) (i1 _)) (H1 (i0 _) (i1 _))
 ·
  rw [Fk h h1 h2]
  have e2:∀a b:Ex,C6 T V (two 7 a b)=false:=fun a b=>by rw [sW (by rfl)];rfl
  refine J1 fun y hy=>?_
  rcases List.mem_cons.1 hy with rfl | hy
  · exact e2 _ _
  · rw [List.mem_singleton.1 hy];exact e2 _ _
 ·
  rw [h]
  refine J1 fun y hy=>?_
  rw [List.mem_singleton.1 hy]
  show C6 T V e=false
  cases h9':e.op==9 with
  | true=>rw [rlog_1 h9'];exact (h9 h9').1
  | false=>rw [sW h9',h10,h12,h0];rfl
theorem hP {y:Lit}(hk:KOK T V y.cond)(hn:(Aa T V y).2=true):(Aa T V y).1.plus.length+(Aa T V y).1.minus.length≤Wh y.cond:=by
  have hp:=Vu y.cond hk.nodes
  cases h:y.cond.op==1 with
  | true=>rw [Vt h];simp only [List.length_cons,List.length_nil];omega
  | false=>
    cases h2:(!Cb y.cond||Dl T V y.cond) with
    | true=>rw [eU h h2] at hn;cases hn
    | false=>
      have hc:=Rt h2
      have ho:y.cond.op=7∨y.cond.op=8∨y.cond.op=9:=by
        unfold Cb at hc
        simp only [Bool.or_eq_true,beq_iff_eq] at hc
        omega
      have hl:=X5 hk (by omega) (by omega)
      have m0:=A0 (show 0<y.cond.args.length by omega)
      have m1:=Bk (show 1<y.cond.args.length by omega)
      have p0:=Vu _ (A2 hk m0).nodes
      have p1:=Vu _ (A2 hk m1).nodes
      have hb:=Se hn
      rw [S6 hl];omega
theorem V7 (ts:List Tm){l:List Tm}(hl:l.length≤1):(A3 ts l).length≤ts.length+l.length:=by
  cases l with
  | nil=>exact Nat.le_refl _
  | cons t r=>
    have:=Px ts (t::r)
    rw [List.length_cons];omega
theorem lM:∀{l:List Lit},Sq T V l→∀{s:Sy},(l.foldl (C7 T V) s).ts.length≤s.ts.length+rN l
  | [],_,s=>Nat.le_add_right ..
  | c::r,hl,s=>by
    rw [List.foldl_cons,Wc]
    have hr:=lM (fun x hx=>hl x (List.mem_cons_of_mem _ hx)) (s:=C7 T V s c)
    cases h : !(Aa T V c).2 with
    | true=>rw [Kf h] at hr ⊢;omega
    | false=>
      have hn:(Aa T V c).2=true:=by simpa using h
      have hb:=Se hn
      have hw:=hP (hl c (List.mem_cons_self ..)).1 hn
      have h1:=V7 s.ts hb.1
      have h2:=V7 (A3 s.ts (Aa T V c).1.plus) hb.2
      rw [J7 h] at hr ⊢
      simp only at hr ⊢
      omega
theorem yQ {l:List Lit}(hl:Sq T V l):l.length≤rN l:=by
  induction l with
  | nil=>exact Nat.zero_le _
  | cons c r ih=>
    have h1:=(Vu c.cond (hl c (List.mem_cons_self ..)).1.nodes).1
    have h2:=ih fun x hx=>hl x (List.mem_cons_of_mem _ hx)
    rw [List.length_cons,Wc];omega
theorem Zu {e:Ex}(h:CondOK T V e)(s:Bool):∀c∈(Cl T V e s).1,Ic (Bf T V c)=true∧c.length≤32:=fun c hc=>by
 have hl:=Rp (h.lits s c hc)
 have hw:=dC e h.kc.kok s c hc
 have hs:=Jy h.kc
 have hv:=(Vu e h.kc.kok.nodes).2
 have h1:=lM hl (s:=⟨[],[]⟩)
 have h1':(B1 T V c).ts.length≤0+rN c:=h1
 have h2:=yQ hl
 have h3:=(J8 hl).bnds
 have hn:(Bf T V c).n=((B1 T V c).ts.length:Int)+1:=rfl
 have hb:(Bf T V c).bs.length=2*(B1 T V c).ts.length+(B1 T V c).bs.length:=by
  show (Ho T V 0 (B1 T V c).ts++(B1 T V c).bs).length=_
  rw [List.length_append,U3]
 refine ⟨?_,by omega⟩
 unfold Ic
 rw [Bool.and_eq_true]
 exact ⟨decide_eq_true (by omega),decide_eq_true (by omega)⟩
theorem nH {e:Ex}(h:CondOK T V e)(s:Bool):∀c∈(Cl T V e s).1,N3 T V c=⟨Bf T V c,(B1 T V c).ts.map Fx,0⟩:=fun c hc=>by
 obtain ⟨hf,hlen⟩:=Zu h s c hc
 have hF:=h.lits s c hc
 have hce:Fu T V c=0:=by
  unfold Fu
  rw [if_neg (by rw [jX h.kc.types h.kc.vars];decide),if_neg (by simp;omega)]
  refine Tb fun y hy=>?_
  obtain ⟨k1,k2⟩:=Ql h.kc s c hc y hy
  have hkc:D1 T V y.cond=0:=kJ ⟨k1,h.kc.types,h.kc.vars,k2⟩ (hF y hy).kind
  rw [if_neg (by rw [hkc];decide),if_neg ?_]
  rw [fP e h.kc.kok s c hc y hy,Bool.false_or]
  intro hq
  rw [Bool.and_eq_true,Bool.and_eq_true] at hq
  have:=(hF y hy).eqI (by simpa using hq.2.1) (by simpa using hq.2.2)
  rw [this] at hq
  exact absurd hq.1 (by decide)
 unfold N3
 rw [if_neg (by rw [hce];decide),if_neg (by rw [hf];decide)]
theorem Tj {l:List Lit}(hT:Ep T=0)(hty:Ki T V)(hf:∀y∈l,LitF T V y)(hok:(Bs (Bf T V l)).ok=true) :
  EvI T V (Gv (Bs (Bf T V l)).values 0 (B1 T V l).ts (Fh T 0 V))∧(Bs (Bf T V l)).values.length=(B1 T V l).ts.length+1∧Du (Bs (Bf T V l)).values 0=0∧(∀b∈(Bf T V l).bs,R6 (Du (Bs (Bf T V l)).values) b)∧
  ∀y∈l,(Aa T V y).2=true→eA (Gq (Gv (Bs (Bf T V l)).values 0 (B1 T V l).ts (Fh T 0 V))) y=true:=by
 have hl:=Rp hf
 have hE0:EnvOK T V (Gq (Fh T 0 V)):=mQ hty (mH hT)
 obtain ⟨hsat1,hsat2,hsat3⟩:=oP (n:=zN T V l) (bs:=(Bf T V l).bs) (Mh hl) hok
 rw [←N2] at hsat1 hsat2 hsat3
 have hts:∀t∈(B1 T V l).ts,KOK T V (Fx t)∧tmOK T V t∧qZ T V t:=fun t ht=>⟨(J8 hl).terms t ht,iF hl t ht,Yf hE0 hf (s:=⟨[],[]⟩) (fun t h=>by cases h) t ht⟩
 have hlim:∀(k:Nat) (t:Tm),(B1 T V l).ts[k]? = some t→(Dh T V t).1≤Du (Bs (Bf T V l)).values (((0:Nat):Int)+k+1)∧Du (Bs (Bf T V l)).values (((0:Nat):Int)+k+1)≤(Dh T V t).2:=fun k t ht=>by
  obtain ⟨h1,h2⟩:=cF (T:=T) (V:=V) (i:=0) ht
  have s1:=hsat3 _ (List.mem_append_left _ h1)
  have s2:=hsat3 _ (List.mem_append_left _ h2)
  unfold R6 at s1 s2
  simp only [hsat2] at s1 s2
  omega
 have hev:EvI T V (Gv (Bs (Bf T V l)).values 0 (B1 T V l).ts (Fh T 0 V)):=Yk _ 0 (mH hT) (fun t ht=>⟨(hts t ht).1,(hts t ht).2.1.op,fun _=>(hts t ht).2.2⟩) hlim
 have hnm1:∀(k:Nat) (t:Tm),(B1 T V l).ts[k]? = some t→rY (Gv (Bs (Bf T V l)).values 0 (B1 T V l).ts (Fh T 0 V)) t=Du (Bs (Bf T V l)).values (((0:Nat):Int)+k+1):=
  fW _ 0 iJ (aA l (by simp)) fun t ht=>⟨(hts t ht).2.1,jL (hts t ht).1⟩
 have hE:=mQ hty hev
 have hpv:∀k:Int,0≤k→k<(Bf T V l).n→pv (Xs (Gq (Gv (Bs (Bf T V l)).values 0 (B1 T V l).ts (Fh T 0 V)))) (B1 T V l).ts k=Du (Bs (Bf T V l)).values k:=fun k k0 k1=>by
  have hn:(Bf T V l).n=((B1 T V l).ts.length:Int)+1:=rfl
  rcases Int.lt_or_le 0 k with h | h
  ·
   obtain ⟨j,hj⟩:∃j:Nat,k=(j:Int)+1:=⟨(k-1).toNat,by omega⟩
   subst hj
   have hlt:j<(B1 T V l).ts.length:=by omega
   have hg:=List.getElem?_eq_getElem hlt
   obtain ⟨q1,q2,_⟩:=hts _ (List.mem_of_getElem? hg)
   rw [pv_at hg,(zZ hE q1 q2).1,hnm1 j _ hg,show ((0:Nat):Int)+(j:Int)+1=(j:Int)+1 by omega]
  ·
   have:k=0:=by omega
   subst this
   rw [hsat2];rfl
 refine ⟨hev,hsat1,hsat2,hsat3,?_⟩
 refine (yX hE hf).1 fun b hb=>?_
 have hbz:b∈(Bf T V l).bs:=List.mem_append_right _ hb
 have h1:=mB l b hbz
 have h2:=hsat3 b hbz
 unfold R6 at h2 ⊢
 rw [hpv b.x h1.1 h1.2.1,hpv b.y h1.2.2.1 h1.2.2.2]
 exact h2
end
end Go.Proofs.YtjedflcpjlgokaaGreatDoor

namespace Go.Aw
open Go

section
variable {P:Program} {T:List (Nat×TD)} {d:Option Nat} {ty:TypeId} {pos:String} {aft:Array Edge} {gd:Option (Nat×Bool)} {ρ:Operand→AV} {K:List HO→Prop}

end
end Go.Aw

namespace Go.Proofs.YtjedflcpjlgokaaGreatDoor
open Go Go.Aw

section
variable {T:List Sc} {V:List Va}
theorem tD (evs:List Ev)(t:Tm)(x:Int):(L1 evs t x).length=evs.length:=by unfold L1;split <;> exact List.length_modify ..
theorem aH (vals:List Int):∀(ts:List Tm) (i:Nat) (evs:List Ev),(Gv vals i ts evs).length=evs.length
 | [],i,evs=>rfl
 | t::r,i,evs=>by rw [Gv,aH vals r,tD]
section
variable {l:List Ev} {a b:Ex}
def tr2 (l:List Ev)(a b:Ex):Bool:=Nh ⟨Gq l,-1,L3⟩ a&&Nh ⟨Gq l,-1,L3⟩ b
end
end

def oJ (bs:List Bd)(i:Int):Bd:=(bs[i.toNat]?).getD bd0
def vfBad (bs:List Bd)(c:List Int)(j:Nat):Bool:=(oJ bs ((c[j]?).getD 0)).y != (oJ bs ((c[(j+1) % c.length]?).getD 0)).x
def kI (bs:List Bd)(c:List Int):Int:=(c.map fun i=>(oJ bs i).most).sum
def vfOut (bs:List Bd)(i:Int):Bool:=decide (i<0)||decide ((bs.length:Int)≤i)
def Uz (z:Zn)(c:List Int):Int:=
 if Gt z != 0 then Gt z
 else if (c.length:Int)==0||decide (256<(c.length:Int)) then 15
 else if c.any (vfOut z.bs) then 2
 else if (List.range c.length).any (vfBad z.bs c) then 18
 else if decide (0≤kI z.bs c) then 18 else 0
def satS (l:List Int)(b:Bd):Bool:=decide (Du l b.x-Du l b.y≤b.most)
def farS (v:Int):Bool:=decide (v < -1152921504606846976)||decide (1152921504606846976<v)
def gY (z:Zn)(l:List Int):Bool×Int:=
 if Gt z != 0 then (false,Gt z)
 else if (l.length:Int) != z.n then (false,15)
 else if l.any farS then (false,2)
 else if Du l 0 != 0 then (false,3)
 else (!(z.bs.any fun b=>!satS l b),0)
section
variable {n:Nat} {bs:List Bd} {d:Ds}
theorem dO:∀{c:List Int} {b:Int},L0 n bs d c b→∀a∈c,stOK n bs d a
  | [],_,_,a,h=>by cases h
  | x::r,b,hp,a,h=>by
    rcases List.mem_cons.1 h with rfl | h
    · exact hp.1
    · exact dO hp.2.2 a h
theorem Zi:∀{c:List Int} {b:Int},L0 n bs d c b→∀(j:Nat) (a:Int),c[j]? = some a→(I8 bs d a).y=(c[j+1]?).getD b
  | [],_,_,j,a,h=>by simp at h
  | x::r,b,hp,0,a,h=>by
    simp at h;subst h
    rw [hp.2.1]
    cases r <;> rfl
  | x::r,b,hp,j+1,a,h=>Zi hp.2.2 j a (by simpa using h)
theorem pS (hz:(Gt (zn n bs) != 0)=false)(hok:(Bs (zn n bs)).ok=false):Uz (zn n bs) (Bs (zn n bs)).cycle=0:=by
  have hk:=Vd (n:=(n:Int)) (bs:=bs) hz
  cases he:decide ((Di (zn n bs)).2<0) with
  | true=>rw [Nj hz he] at hok;cases hok
  | false=>
    have hbs:∀b∈bs,iI n b:=hk.2.2.2
    have hw:=fK (n:=n) (by omega) hbs he
    unfold L2 at hw
    rw [Bool.and_eq_true] at hw
    have hI:=uR (n:=n) hbs
    obtain ⟨r,h1,h2,h3,h4⟩:=xE hI hw.2
    rw [Nf hz he]
    have hcyc:(Nv (zn n bs)).2=(Ii bs (Di (zn n bs)).1 n (Di (zn n bs)).2::r).map (Du (Di (zn n bs)).1.last):=by
      have:Nv (zn n bs)=([],Ib bs (Di (zn n bs)).1 (Ii bs (Di (zn n bs)).1 n (Di (zn n bs)).2) (n+1) (Ii bs (Di (zn n bs)).1 n (Di (zn n bs)).2)):=by
        unfold Nv
        rw [C8 he]
        simp [zn]
      rw [this]
      simp only
      rw [lR,h1]
    simp only
    rw [hcyc]
    revert hI h2 h3 h4
    generalize (Di (zn n bs)).1=d
    generalize Ii bs d n (Di (zn n bs)).2=f
    intro hI h2 h3 h4
    unfold Uz
    have hst:=dO h2
    have hat:∀(j:Nat) (a:Int),(f::r)[j]? = some a→oJ bs ((((f::r).map (Du d.last))[j]?).getD 0)=I8 bs d a:=fun j a hj=>by
      rw [List.getElem?_map,hj];rfl
    rw [if_neg (by rw [hz];decide),if_neg (by simp only [List.length_map,Bool.or_eq_true,beq_iff_eq,decide_eq_true_eq];rw [List.length_cons] at h4 ⊢;omega),if_neg ?_,if_neg ?_,if_neg ?_]
    · rw [decide_eq_true_eq]
      have:kI bs ((f::r).map (Du d.last))=P2 bs d (f::r):=by
        unfold kI P2
        rw [List.map_map];rfl
      show ¬0≤kI bs _
      rw [this];omega
    · rw [Bool.not_eq_true,List.any_eq_false]
      intro j hj
      have hj':j<(f::r).length:=by simpa using List.mem_range.1 hj
      have hg:=List.getElem?_eq_getElem hj'
      have hnx:=Zi h2 j _ hg
      unfold vfBad
      show ¬((oJ bs _).y != (oJ bs _).x)=true
      rw [hat j _ hg,hnx,List.length_map]
      by_cases hlt:j+1<(f::r).length
      · have hg2:=List.getElem?_eq_getElem hlt
        rw [Nat.mod_eq_of_lt hlt,hat _ _ hg2,hI.x _ (hst _ (List.getElem_mem hlt)),hg2]
        simp
      · have e:j+1=(f::r).length:=by omega
        rw [e,Nat.mod_self,hat 0 f rfl,hI.x f (hst f (List.mem_cons_self ..)),List.getElem?_eq_none (Nat.le_refl _)]
        simp
    · rw [Bool.not_eq_true,List.any_eq_false]
      intro i hi
      obtain ⟨a,ha,rfl⟩:=List.mem_map.1 hi
      have:=hst a ha
      unfold vfOut
      have h5:=this.l0;have h6:=this.ll
      show ¬(decide (Du d.last a<0)||decide ((bs.length:Int)≤Du d.last a))=true
      simp only [Bool.or_eq_true,decide_eq_true_eq];omega
end
section
variable {T:List Sc} {V:List Va}
theorem qJ {l:List Lit}(hl:Sq T V l)(hf:Ic (Bf T V l)=true):(Bs (Bf T V l)).err=0:=by
 have hz:=Pj hl hf
 rw [N2] at hz ⊢
 have hz':(Gt (zn (zN T V l) (Bf T V l).bs) != 0)=false:=by rw [hz];rfl
 cases he:decide ((Di (zn (zN T V l) (Bf T V l).bs)).2<0) with
 | true=>rw [Nj hz' he]
 | false=>rw [Nf hz' he]
theorem Xy {l:List Lit}(hl:Sq T V l)(hf:Ic (Bf T V l)=true)(h:(Bs (Bf T V l)).ok=false):Uz (Bf T V l) (Bs (Bf T V l)).cycle=0:=by
 have hz:=Pj hl hf
 rw [N2] at hz h ⊢
 exact pS (by rw [hz];rfl) h
theorem aO {l:List Lit}(hT:Ep T=0)(hty:Ki T V)(hF:∀y∈l,LitF T V y)(hf:Ic (Bf T V l)=true)(h:(Bs (Bf T V l)).ok=true):gY (Bf T V l) (Bs (Bf T V l)).values=(true,0):=by
  have hl:=Rp hF
  obtain ⟨_,h1,h2,h3,_⟩:=Tj hT hty hF h
  have hz:=Pj hl hf
  have hn:(Bf T V l).n=((B1 T V l).ts.length:Int)+1:=rfl
  unfold gY
  rw [if_neg (by rw [hz];decide),if_neg (by rw [hn,h1];simp),if_neg ?_,if_neg (by rw [h2];decide)]
  · have hs:((Bf T V l).bs.any fun b=>!satS (Bs (Bf T V l)).values b)=false:=by
      rw [List.any_eq_false]
      intro b hb
      have:=h3 b hb
      unfold R6 at this
      unfold satS
      rw [decide_eq_true this];decide
    rw [hs];rfl
  · rw [Bool.not_eq_true,List.any_eq_false]
    intro v hv
    obtain ⟨k,hk⟩:=List.mem_iff_getElem?.1 hv
    have hlt:=A4 hk
    have e:Du (Bs (Bf T V l)).values (k:Int)=v:=by unfold Du;rw [Int.toNat_natCast,hk];rfl
    have hr : -1099511627776≤v∧v≤1099511627776:=by
      cases k with
      | zero => rw [← e]; have : Du (Bs (Bf T V l)).values ((0 : Nat) : Int) = 0 := h2
                omega
      | succ k=>
        have hlt2:k<(B1 T V l).ts.length:=by omega
        have hg:=List.getElem?_eq_getElem hlt2
        obtain ⟨m1,m2⟩:=cF (T:=T) (V:=V) (i:=0) hg
        have s1:=h3 _ (List.mem_append_left _ m1)
        have s2:=h3 _ (List.mem_append_left _ m2)
        have hlr:=Nx (T:=T) (V:=V) ((B1 T V l).ts[k])
        unfold R6 at s1 s2
        simp only [h2] at s1 s2
        rw [show ((0:Nat):Int)+(k:Int)+1=((k+1:Nat):Int) by omega,e] at s1 s2
        omega
    unfold farS
    simp only [Bool.or_eq_true,decide_eq_true_eq];omega
def Qt (T:List Sc)(V:List Va)(y:Lit):Bool:=(y.cond.op==9 && !((y.cond.args.length:Int)==0))&&((Cn T V (Av y.cond)).2 != 0||(Cn T V (Av y.cond)).1==2)
theorem pO {y:Lit}(hk:KOK T V y.cond)(hc:KC T V y.cond)(h:Dl T V y.cond=true):Qt T V y=true:=by
 unfold Dl at h
 rw [Bool.and_eq_true] at h
 have ho:y.cond.op=9:=by simpa using h.1
 have hl:=X5 hk (by omega) (by omega)
 have m0:=A0 (show 0<y.cond.args.length by omega)
 have h2:=Rk (iA hc m0)
 unfold Qt
 rw [h.1,h2,h.2,hl];simp
theorem nD {e:Ex}(h:CondOK T V e){c:List Lit}(hc:c∈(Cl T V e true).1)(hok:(Bs (Bf T V c)).ok=true){y:Lit}(hy:y∈c)(hs:Ck T V y.cond=true)(hstr:Qt T V y=false) :
  Nh ⟨Gq (Gv (Bs (Bf T V c)).values 0 (B1 T V c).ts (Fh T 0 V)),-1,L3⟩ y.cond≠y.neg:=by
 have hF:=h.lits true c hc
 obtain ⟨hev,_,_,_,hlit⟩:=Tj h.kc.types h.kc.kok.ty hF hok
 obtain ⟨k1,k2⟩:=Ql h.kc true c hc y hy
 have hn:(Aa T V y).2=true:=by
  rcases bG (hF y hy) hs with q | q
  · exact q
  · rw [pO k1 ⟨k1,h.kc.types,h.kc.vars,k2⟩ q] at hstr;cases hstr
 have:=hlit y hy hn
 rw [sV (Y7 h.kc.kok.ty hev) k1 (hF y hy).kind k2]
 unfold eA at this
 simpa using this
theorem qF {evs:List Ev}(hT:Ep T=0)(hty:Ki T V)(hV:V.length≤1000)(h:EvI T V evs):∀e∈evs,Ja T e=0:=fun e he=>by
 have hs:=jN hT hty hV h
 obtain ⟨hl,h1⟩:=eG hs
 obtain ⟨i,hi⟩:=List.mem_iff_getElem?.1 he
 have hlt:=A4 hi
 obtain ⟨e',he',hc,_⟩:=h1 i (V[i]'(by omega)) (List.getElem?_eq_getElem (by omega))
 rw [hi] at he';cases he'
 exact dZ hc
end
end Go.Proofs.YtjedflcpjlgokaaGreatDoor
