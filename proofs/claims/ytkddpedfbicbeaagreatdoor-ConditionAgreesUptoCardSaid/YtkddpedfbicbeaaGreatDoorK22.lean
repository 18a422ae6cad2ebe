/-
  Several texts in one: S28, S29, S31, S30, S32. No condition.
-/
import Derived.Test.YtkddpedfbicbeaaGreatDoorK21
set_option linter.unusedVariables false
set_option linter.unusedSimpArgs false
namespace Go.Proofs.YtkddpedfbicbeaaGreatDoor
open Go Go.Aw
set_option maxRecDepth 20000
section
variable {P:Program} {d:Option Nat} {ty:TypeId} {pos:String} {aft:Array Edge} {gd:Option (Nat×Bool)} {ρ:Operand→AV}
theorem nD {t:TypeId}{m k:Operand}{kt et b i:Nat}{td tk te:TD}{n:List UInt8}{U:Um}(hT:Ho P TL)(ht:Bs TL t=some td)(hk:td.kind = .map kt et)(htk:Bs TL kt=some tk)(hkk:tk.kind = .str)
  (hte:Bs TL et=some te) (hz:te.zero = [.bool false]) (hzs:Qk P et=true) (hm:ρ m = .val (.map (some b))) (hkey:ρ k = .str n) :
  Di P ⟨d,.lookup t m k false,ty,pos,aft,gd⟩ ρ (fun H=>H[i]? = some (.smap b (sE U))) (.bool (E8 U n)):=
 oU hT ht hk htk hkk hte hzs hm hkey (by rw [hz];exact xI n U)
theorem uX {t:TypeId}{m k v:Operand}{kt et b i:Nat}{td tk:TD}{n:List UInt8}{U:Um}{x:Bool}{H H2:List HO}(hT:Ho P TL)(ht:Bs TL t=some td)(hk:td.kind = .map kt et)(htk:Bs TL kt=some tk)(hkk:tk.kind = .str)
  (hm:ρ m = .val (.map (some b))) (hkey:ρ k = .str n) (hv:ρ v = .bool x) (hH:H[i]? = some (.smap b (sE U))) (hH2:H.set i (.smap b (sE (Tt U n x)))=H2) :
  K9 P ⟨d,.mapUpdate t m k v,ty,pos,aft,gd⟩ ρ H (fun y H'=>y = .junk∧H'=H2):=
 pS hT ht hk htk hkk hm hkey hv hH (by rw [sput_u];exact hH2)
theorem zP {t:TypeId}{m k v:Operand}{kt et b i:Nat}{td tk:TD}{r:Wd}{N:Nm}{s:Ft}{H H2:List HO}(hT:Ho P TL)(ht:Bs TL t=some td)(hk:td.kind = .map kt et)(htk:Bs TL kt=some tk)(hkk:tk.kind = .struct [(0,1,true,4),(1,1,true,9),(2,3,true,143)])
  (hm:ρ m = .val (.map (some b))) (hkey:ρ k = .agg (Ld r)) (hv:ρ v = .str s) (hH:H[i]? = some (.kmap b (nE N))) (hnew:Ia N r=none) (hH2:H.set i (.kmap b (nE (N ++ [(r,s)])))=H2) :
  K9 P ⟨d,.mapUpdate t m k v,ty,pos,aft,gd⟩ ρ H (fun y H'=>y = .junk∧H'=H2):=
 Uc (eq:=Jo r) hT ht hk htk hkk hm hkey hv (Nz r r) (bE r N) hH (new_n hnew) (by rw [cO];exact hH2)
theorem E_nmSet {t:TypeId}{m k v:Operand}{kt et b i:Nat}{td tk:TD}{r:Wd}{N:Nm}{s s':Ft}{H H2:List HO}(hT:Ho P TL)(ht:Bs TL t=some td)(hk:td.kind = .map kt et)(htk:Bs TL kt=some tk)(hkk:tk.kind = .struct [(0,1,true,4),(1,1,true,9),(2,3,true,143)])
  (hm:ρ m = .val (.map (some b))) (hkey:ρ k = .agg (Ld r)) (hv:ρ v = .str s') (hH:H[i]? = some (.kmap b (nE (N ++ [(r,s)])))) (hnew:Ia N r=none) (hH2:H.set i (.kmap b (nE (N ++ [(r,s')])))=H2) :
  K9 P ⟨d,.mapUpdate t m k v,ty,pos,aft,gd⟩ ρ H (fun y H'=>y = .junk∧H'=H2):=
 sZ (eq:=Jo r) hT ht hk htk hkk hm hkey hv (Nz r r) (bE r _) hH (kidx_n hnew) rfl (nE_self r _) (by rw [kput_n];exact hH2)
end
theorem cR {r:Wd}{N:Nm}{s:Ft}(h:Ia N r=some s):match Hc (Jo r) (nE N) with | some y=>y = .str s | none=>[AV.str []] = [.str s]:=by rw [Xk,h];rfl
theorem yE {P:Program}{f:FuncId}{args:List AV}{r0:AV}{bo:Nat}{v:Value}{l l':Es}{pre R:List HO}(h:Dr P f (Zb bo v l (pre++R)) args fun r H'=>r=r0∧H'=Zb bo v l' (pre++R)) :
  Dr P f (pre++Zb bo v l R) args fun r H'=>r=r0∧H'=pre++Zb bo v l' R:=
 (h.perm kF).post fun r K ⟨h1,h2⟩=>⟨_,h2▸kF.symm,h1,rfl⟩
def Xb (p:Um×List Wd)(a:Ex):Um×List Wd:=(Tt p.1 (B8 a).text (E8 p.1 (B8 a).text||(B8 a).const),p.2 ++ [B8 a])
section
variable (T:List Sc) (V:List Va)
def Tv (p:Um×List Wd)(c:Lit):Um×List Wd:=if !Cl T V c.cond || !Bt T V c.cond then p else c.cond.args.foldl Xb p
def Hl (l:List Lit):Um×List Wd:=l.foldl (Tv T V) ([],[])
end
abbrev Ns:=Um×Nm×List Ev
def aH (U:Um)(N:Nm)(r:Wd):Um×Nm:=if (Ia N r).isSome then (U,N) else (Tt U (J1 U r) true,N ++ [(r,J1 U r)])
def nmT (U:Um)(N:Nm)(r:Wd):Ft:=(Ia N r).getD (J1 U r)
def Ix (w:Wm)(s:Ns)(x:Wd):Ns:=
 ((aH s.1 s.2.1 (Cb w x)).1,(aH s.1 s.2.1 (Cb w x)).2,if x.const then s.2.2 else Vo s.2.2 x.field (nmT s.1 s.2.1 (Cb w x)))
def bZ (T:List Sc)(V:List Va)(w:Wm)(l:List Lit)(evs:List Ev):List Ev:=((Hl T V l).2.foldl (Ix w) ((Hl T V l).1,[],evs)).2.2
theorem dT (U:Um)(N:Nm)(r:Wd):Ia (aH U N r).2 r=some (nmT U N r):=by
 unfold aH nmT
 cases h:Ia N r with
 | some s=>exact h
 | none=>exact Uf h
theorem dY {U:Um}{N:Nm}{r:Wd}(h:Ia N r=none):aH U N r=(Tt U (J1 U r) true,N ++ [(r,J1 U r)]):=by unfold aH;rw [h];rfl
theorem bY {U:Um}{N:Nm}{r:Wd}(h:(!(Ia N r).isSome)=false):aH U N r=(U,N):=if_pos (by simpa using h)
theorem X7 (U:Um)(n:Ft)(b:Bool):(Tt U n b).length≤U.length+1:=by
 unfold Tt;cases fA U n <;> simp
theorem cP (U:Um)(N:Nm)(r:Wd):(aH U N r).1.length≤U.length+1:=by
 unfold aH;split
 · simp
 · exact X7 ..
section
variable {T:List Sc} {V:List Va}
theorem Sn {p:Um×List Wd}{c:Lit}(h:(!Cl T V c.cond || !Bt T V c.cond)=true):Tv T V p c=p:=if_pos h
theorem My {p:Um×List Wd}{c:Lit}(h:(!Cl T V c.cond || !Bt T V c.cond)=false):Tv T V p c=c.cond.args.foldl Xb p:=Cz h
def wdOK (T:List Sc)(V:List Va)(x:Wd):Prop:=x.const=false→tmOK T V x.field∧x.field.op=1
theorem S9 {c:Lit}(hk:KOK T V c.cond)(h:(!Cl T V c.cond || !Bt T V c.cond)=false):c.cond.args.length=2∧∀a∈c.cond.args,(a.op==0||a.op==1)=true:=by
 rw [Bool.or_eq_false_iff,Bool.not_eq_false',Bool.not_eq_false'] at h
 have hc:=Mx h.1
 have hn:=(Ba hk.nodes).1
 have ho:c.cond.op=9:=by
  have:=h.1
  unfold Cl at this
  rw [Bool.and_eq_true] at this
  simpa using this.1
 have hl:c.cond.args.length=2:=by
  unfold Bx at hn
  split at hn
  · cases hn
  split at hn
  · cases hn
  rename_i h2
  have h2':(c.cond.args.length:Int)=D6 c.cond.op:=by simpa using h2
  rw [ho] at h2'
  have:D6 9=2:=by decide
  omega
 have hs:=h.2
 unfold Bt at hs
 rw [if_neg (by rw [ho];decide),if_neg (by rw [hc];decide),if_pos h.1,Bool.and_eq_true] at hs
 refine ⟨hl,fun a ha=>?_⟩
 obtain ⟨a0,a1,he⟩:∃a0 a1,c.cond.args = [a0,a1]:=by
  match hq:c.cond.args,hl with
  | [x,y],_=>exact ⟨x,y,rfl⟩
 have e0:Ao c.cond=a0:=by unfold Ao;rw [he];rfl
 have e1:Bj c.cond=a1:=by unfold Bj;rw [he];rfl
 rw [e0,e1] at hs
 rw [he] at ha
 rcases List.mem_cons.1 ha with rfl | ha
 · exact hs.1
 · rw [List.mem_singleton.1 ha];exact hs.2
theorem oX {a:Ex}(hk:KOK T V a)(h:(a.op==0||a.op==1)=true):wdOK T V (B8 a):=by
 intro hc
 unfold B8 at hc ⊢
 split at hc
 · cases hc
 rename_i h0
 rw [if_neg h0]
 have h1:a.op=1:=by simp at h h0;omega
 have hl:=K8 (Ba hk.nodes).1 (by rw [h1];rfl)
 exact ⟨tm_ok (by rw [hl];exact hk) (.inl h1),h1⟩
end
theorem eI {l:Es}{t:Tm}{s:Ft}:(l.modify t.v.toNat fun p=>(Wi p.1 t.field.toNat (fun y=>{ y with text:=s }),p.2)).map Prod.fst=Vo (l.map Prod.fst) t s:=
 Q1 (f:=fun e=>Wi e t.field.toNat fun y=>{ y with text:=s })
theorem X0 {w:Wm}{s:Ns}{x:Wd}(h:x.const=true):Ix w s x=((aH s.1 s.2.1 (Cb w x)).1,(aH s.1 s.2.1 (Cb w x)).2,s.2.2):=by unfold Ix;rw [if_pos h]
theorem W0 {w:Wm}{s:Ns}{x:Wd}(h:x.const=false):Ix w s x=((aH s.1 s.2.1 (Cb w x)).1,(aH s.1 s.2.1 (Cb w x)).2,Vo s.2.2 x.field (nmT s.1 s.2.1 (Cb w x))):=by unfold Ix;rw [if_neg (by rw [h];decide)]
theorem nm_f {w:Wm}{U:Um}{N:Nm}{l:Es}{x:Wd}{t:Um×Nm}(hT:t=aH U N (Cb w x))(h:x.const=false) :
  Ix w (U,N,l.map Prod.fst) x=(t.1,t.2,(l.modify x.field.v.toNat fun p=>(Wi p.1 x.field.field.toNat (fun y=>{ y with text:=nmT U N (Cb w x) }),p.2)).map Prod.fst):=by
 subst hT;rw [W0 h,eI]
theorem nm_c {w:Wm}{U:Um}{N:Nm}{l:Es}{x:Wd}{t:Um×Nm}(hT:t=aH U N (Cb w x))(h:x.const=true):Ix w (U,N,l.map Prod.fst) x=(t.1,t.2,l.map Prod.fst):=by
 subst hT;rw [X0 h]
theorem Zt {α β:Type}{f:β→α→β}{l:List α}{k:Nat}{a:α}{b:β}(h:l[k]? = some a):(l.drop k).foldl f b=(l.drop (k+1)).foldl f (f b a):=by rw [A5 h];rfl
theorem cWd_sc (l:List Wd):∀c∈l.map Ld,Bf c=true:=Ff fun _=>rfl
end Go.Proofs.YtkddpedfbicbeaaGreatDoor

namespace Go.Aw
open Go
theorem lit1 {z:Nat}{ρ:Operand→AV}{y:Operand}{cs:List AV}(h:ρ y = .agg cs)(hl:Nat.beq cs.length z=true)(hs:Bf cs=true):Ot z ρ 0 [(0,y)]=true:=by
 unfold Ot Ot
 rw [h]
 show (true&&Nat.beq cs.length z&&Bf cs&&true)=true
 rw [hl,hs];rfl
end Go.Aw
namespace Go.Proofs.YtkddpedfbicbeaaGreatDoor
open Go Go.Aw
def zV (f:Fi):Vl:=⟨f.kind,0,[]⟩
def yX (T:List Sc)(V:List Va)(w:Wm)(l:List Lit)(vals:List Int):List Ev:=bZ T V w l (Hn vals 0 (B6 T V l).ts (Hs T 0 V))
theorem gL {T:List Sc}{i:Nat}{v:Va}{s:Sc}(h:T[v.type.toNat]? = some s):(Zi T i v).values=s.fields.map zV:=by
 unfold Zi;rw [h];rfl
theorem nQ {vals:List Int}{k:Nat}(h:k+1<vals.length):(vals.map cI)[((k:Int)+1).toNat]? = some [.int .i64 (Eu vals ((k:Int)+1))]:=by
 have:=lF (l:=vals) (k:=(k:Int)+1) (by omega) (by omega)
 rw [List.getElem?_map,this];rfl
theorem aI {l:Es}{t:Tm}{x:Int}(h:(t.op==2)=true):(l.modify t.v.toNat fun p=>({ p.1 with time:=x },p.2)).map Prod.fst=Se (l.map Prod.fst) t x:=by
 unfold Se;rw [if_pos h];exact Q1 (f:=fun e=>{ e with time:=x })
theorem eV {l:Es}{t:Tm}{x:Int}(h:(t.op==2)=false):(l.modify t.v.toNat fun p=>(Wi p.1 t.field.toNat (fun y=>{ y with num:=x }),p.2)).map Prod.fst=Se (l.map Prod.fst) t x:=by
 unfold Se;rw [if_neg (by rw [h];decide)];exact Q1 (f:=fun e=>Wi e t.field.toNat fun y=>{ y with num:=x })
theorem X6 {vals:List Int}{ts:List Tm}{k:Nat}{t:Tm}{evs:List Ev}(h:ts[k]? = some t):Hn vals k (ts.drop k) evs=Hn vals (k+1) (ts.drop (k+1)) (Se evs t (Eu vals ((k:Int)+1))):=by
 rw [A5 h,Hn]
theorem yA {T:List Sc}{V:List Va}(h:Ln T V){v:Va}(hv:v∈V):∃s,T[v.type.toNat]? = some s:=by
 have:=h v hv
 have hlt:v.type.toNat<T.length:=by omega
 exact ⟨_,List.getElem?_eq_getElem hlt⟩
theorem S5 {l:List Int}{k x v:Int}(h0:0≤k)(hk:k<(l.length:Int))(hx:0≤x):Eu (l.set k.toNat v) x=if x=k then v else Eu l x:=by
 unfold Eu
 rw [List.getElem?_set]
 by_cases h:x=k
 ·
  subst h
  rw [if_pos rfl,if_pos (by omega),if_pos rfl];rfl
 · rw [if_neg (by omega),if_neg h]
structure RInv (n:Nat) (bs:List Bd) (r i:Nat) (d:Ds) (tm:Int→Nat):Prop where
 s:d.sums.length=n
 l:d.last.length=n
 le:∀x,tm x≤r
 old:∀(j:Nat) (b:Bd),bs[j]? = some b→i≤j→1<r→tm b.y<r-1→Eu d.sums b.x≤Eu d.sums b.y+b.most
 new:∀(j:Nat) (b:Bd),bs[j]? = some b→j<i→tm b.y<r→Eu d.sums b.x≤Eu d.sums b.y+b.most
 pt:∀x:Int,0≤x→x<(n:Int)→1≤tm x→∃b,0≤Eu d.last x∧bs[(Eu d.last x).toNat]? = some b∧tm x≤tm b.y+1
abbrev inR (n:Nat)(b:Bd):Prop:=0≤b.x∧b.x<(n:Int)∧0≤b.y∧b.y<(n:Int)
theorem qR {n r i:Nat}{bs:List Bd}{d:Ds}{a:Int}{tm:Int→Nat}{b:Bd}(hr:1≤r)(h:RInv n bs r i d tm)(hb:bs[i]? = some b)(hbs:∀b∈bs,inR n b)(ha:a = -1∨(tm a=r∧0≤a∧a<(n:Int))) :
    ∃tm',RInv n bs r (i+1) (Og i b (d,a)).1 tm'∧((Og i b (d,a)).2 = -1∨(tm' (Og i b (d,a)).2=r∧0≤(Og i b (d,a)).2∧(Og i b (d,a)).2<(n:Int))):=by
  have hbr:=hbs b (List.mem_of_getElem? hb)
  have hs:=h.s
  have hl:=h.l
  cases hq:decide (Eu d.sums b.y+b.most<Eu d.sums b.x) with
  | false=>
    rw [Wq (s:=(d,a)) hq]
    have hq':¬(Eu d.sums b.y+b.most<Eu d.sums b.x):=of_decide_eq_false hq
    refine ⟨tm,⟨h.s,h.l,h.le,fun j c hj hle h1 h2=>h.old j c hj (by omega) h1 h2,fun j c hj hlt h1=>?_,h.pt⟩,ha⟩
    rcases Nat.lt_or_ge j i with h3 | h3
    · exact h.new j c hj h3 h1
    · have:j=i:=by omega
      subst this
      rw [hb] at hj;cases hj
      show Eu d.sums b.x≤Eu d.sums b.y+b.most
      omega
  | true=>
    rw [P4 (s:=(d,a)) hq]
    have hq':Eu d.sums b.y+b.most<Eu d.sums b.x:=of_decide_eq_true hq
    have hty:r≤tm b.y+1:=by
      refine Nat.le_of_not_lt fun hlt=>?_
      rcases Nat.lt_or_ge 1 r with h1 | h1
      · have:=h.old i b hb (Nat.le_refl _) h1 (by omega);omega
      · omega
    refine ⟨fun x=>if x=b.x then r else tm x,⟨by simp only [List.length_set];exact hs,by simp only [List.length_set];exact hl,fun x=>?_,fun j c hj hle h1 h2=>?_,fun j c hj hlt h1=>?_,fun x hx0 hxn ht=>?_⟩,.inr ⟨if_pos rfl,hbr.1,hbr.2.1⟩⟩
    · show (if x=b.x then r else tm x)≤r
      split
      · exact Nat.le_refl _
      · exact h.le x
    · have hcr:=hbs c (List.mem_of_getElem? hj)
      simp only at h2 ⊢
      split at h2
      · omega
      · rename_i hne
        rw [S5 hbr.1 (by rw [hs];exact hbr.2.1) hcr.1,S5 hbr.1 (by rw [hs];exact hbr.2.1) hcr.2.2.1,if_neg hne]
        have h3:=h.old j c hj (by omega) h1 h2
        split
        · rename_i hcx;rw [hcx] at h3;omega
        · exact h3
    · have hcr:=hbs c (List.mem_of_getElem? hj)
      simp only at h1 ⊢
      split at h1
      · omega
      · rename_i hne
        rw [S5 hbr.1 (by rw [hs];exact hbr.2.1) hcr.1,S5 hbr.1 (by rw [hs];exact hbr.2.1) hcr.2.2.1,if_neg hne]
        rcases Nat.lt_or_ge j i with h3 | h3
        · have h4:=h.new j c hj h3 h1
          split
          · rename_i hcx;rw [hcx] at h4;omega
          · exact h4
        · have:j=i:=by omega
          subst this
          rw [hb] at hj;cases hj
          rw [if_pos rfl];omega
    · simp only at ht ⊢
      rw [S5 hbr.1 (by rw [hl];exact hbr.2.1) hx0]
      by_cases hxb:x=b.x
      · rw [if_pos hxb,if_pos hxb]
        refine ⟨b,by omega,by simpa using hb,?_⟩
        split
        · omega
        · exact hty
      · rw [if_neg hxb] at ht ⊢
        rw [if_neg hxb]
        obtain ⟨c,h1,h2,h3⟩:=h.pt x hx0 hxn ht
        refine ⟨c,h1,h2,?_⟩
        split
        · have:=h.le x;omega
        · exact h3
theorem nF {n r:Nat}{bs:List Bd}(hr:1≤r)(hbs:∀b∈bs,inR n b):∀(m i:Nat) {d:Ds} {a:Int} {tm:Int→Nat},i+m=bs.length→RInv n bs r i d tm→(a = -1∨(tm a=r∧0≤a∧a<(n:Int)))→
    ∃tm',RInv n bs r bs.length (F7 i (bs.drop i) (d,a)).1 tm'∧((F7 i (bs.drop i) (d,a)).2 = -1∨(tm' (F7 i (bs.drop i) (d,a)).2=r∧0≤(F7 i (bs.drop i) (d,a)).2∧(F7 i (bs.drop i) (d,a)).2<(n:Int)))
  | 0,i,d,a,tm,hm,h,ha=>by
    have hi:i=bs.length:=by omega
    rw [aD (List.drop_eq_nil_of_le (by omega))]
    exact ⟨tm,hi▸h,ha⟩
  | m+1,i,d,a,tm,hm,h,ha=>by
    have hlt:i<bs.length:=by omega
    have hb:=List.getElem?_eq_getElem hlt
    rw [Q7 hb]
    obtain ⟨tm',h1,h2⟩:=qR hr h hb hbs ha
    exact nF hr hbs m (i+1) (d:=(Og i bs[i] (d,a)).1) (a:=(Og i bs[i] (d,a)).2) (by omega) h1 h2
theorem kN {n r:Nat}{bs:List Bd}{d:Ds}{tm:Int→Nat}(h:RInv n bs r bs.length d tm):RInv n bs (r+1) 0 d tm:=
 ⟨h.s,h.l,fun x=>Nat.le_succ_of_le (h.le x),fun j b hj _ _ h2=>h.new j b hj (List.getElem?_eq_some_iff.1 hj).1 (by omega),fun j b _ hlt=>absurd hlt (by omega),h.pt⟩
theorem U4 {n:Nat}{bs:List Bd}(hbs:∀b∈bs,inR n b):∀(m r:Nat) {d:Ds} {a:Int} {tm:Int→Nat},1≤r→RInv n bs r 0 d tm→(1≤m∨(tm a=r-1∧0≤a∧a<(n:Int)))→¬(D2 bs m (d,a)).2<0→
    ∃tm',RInv n bs (r+m) 0 (D2 bs m (d,a)).1 tm'∧tm' (D2 bs m (d,a)).2=r+m-1∧0≤(D2 bs m (d,a)).2∧(D2 bs m (d,a)).2<(n:Int)
  | 0,r,d,a,tm,hr,h,ha,_=>by
    rcases ha with ha | ha
    · omega
    · exact ⟨tm,h,by show tm a=r+0-1;rw [ha.1];rfl,ha.2⟩
  | m+1,r,d,a,tm,hr,h,_,hne=>by
    obtain ⟨tm',h1,h2⟩:=nF hr hbs bs.length 0 (a:=-1) (by omega) h (.inl rfl)
    rw [List.drop_zero] at h1 h2
    cases hq:decide ((Jn bs d).2<0) with
    | true=>rw [Ke (s:=(d,a)) hq] at hne;exact absurd (of_decide_eq_true hq) hne
    | false=>
      rw [Mk (s:=(d,a)) hq] at hne ⊢
      have hq':=of_decide_eq_false hq
      have h3:=h2.resolve_left (fun e=>hq' (by show (F7 0 bs (d,-1)).2<0;rw [e];decide))
      have:=U4 hbs m (r+1) (d:=(Jn bs d).1) (a:=(Jn bs d).2) (by omega) (kN h1) (.inr ⟨by show tm' (F7 0 bs (d,-1)).2=_;rw [h3.1];omega,h3.2⟩) hne
      rw [show r+1+m=r+(m+1) by omega] at this
      exact this
def Hr (bs:List Bd)(d:Ds)(a:Int):Nat→Int
 | 0=>a
 | k+1=>Jg bs d (Hr bs d a k)
theorem Uq {bs:List Bd}{d:Ds}{a:Int}:∀(k j:Nat),Kv bs d k (Hr bs d a j)=Hr bs d a (j+k)
  | 0,j=>rfl
  | k+1,j=>by
    rw [X4]
    have:=Uq (bs:=bs) (d:=d) (a:=a) k (j+1)
    rw [show j+(k+1)=j+1+k by omega,←this];rfl
theorem uO {n:Nat}{bs:List Bd}(hn:1≤n)(hbs:∀b∈bs,inR n b)(hge:decide ((Ed (zn n bs)).2<0)=false):Nx n bs=true:=by
  have hst:RInv n bs 1 0 ⟨List.replicate n 0,N8 n⟩ (fun _=>0):=⟨by simp,by simp [N8],fun _=>by omega,fun j b _ _ h=>absurd h (by omega),fun j b _ h=>absurd h (by omega),fun x _ _ h=>absurd h (by simp)⟩
  have hge':=of_decide_eq_false hge
  rw [Nh] at hge'
  obtain ⟨tm,h1,h2,h3,h4⟩:=U4 hbs (n+1) 1 (a:=-1) (Nat.le_refl _) hst (.inl (by omega)) hge'
  rw [←Nh] at h1 h2 h3 h4
  unfold Nx
  generalize Ed (zn n bs)=e at h1 h2 h3 h4
  have key:∀k,k≤n→0≤Hr bs e.1 e.2 k∧Hr bs e.1 e.2 k<(n:Int)∧n+1≤tm (Hr bs e.1 e.2 k)+k:=by
    intro k
    induction k with
    | zero=>intro _;exact ⟨h3,h4,by show n+1≤tm e.2+0;omega⟩
    | succ k ih=>
      intro hk
      obtain ⟨q1,q2,q3⟩:=ih (by omega)
      obtain ⟨b,p1,p2,p3⟩:=h1.pt _ q1 q2 (by omega)
      have hb:=hbs b (List.mem_of_getElem? p2)
      have he:Hr bs e.1 e.2 (k+1)=b.y:=by
        show Jg bs e.1 (Hr bs e.1 e.2 k)=b.y
        unfold Jg;rw [p2];rfl
      rw [he]
      exact ⟨hb.2.2.1,hb.2.2.2,by omega⟩
  have hok:∀k,k≤n→Yf bs e.1 (Hr bs e.1 e.2 k)=true:=by
    intro k hk
    obtain ⟨q1,q2,q3⟩:=key k hk
    obtain ⟨b,p1,p2,_⟩:=h1.pt _ q1 q2 (by omega)
    have:=(List.getElem?_eq_some_iff.1 p2).1
    unfold Yf
    rw [h1.l]
    simp only [Bool.and_eq_true,decide_eq_true_eq]
    exact ⟨⟨⟨q1,q2⟩,p1⟩,by omega⟩
  -- two of the first n + 1 are the same
  have hrep:∃i j,i<j∧j≤n∧Hr bs e.1 e.2 i=Hr bs e.1 e.2 j:=by
    refine Classical.byContradiction fun hno=>?_
    have hn1:((List.range (n+1)).map (Hr bs e.1 e.2)).Nodup:=by
      refine List.pairwise_map.2 (List.Pairwise.imp_of_mem ?_ List.pairwise_lt_range)
      intro a b ha hb hlt heq
      exact hno ⟨a,b,hlt,by have:=List.mem_range.1 hb;omega,heq⟩
    have hs:(List.range (n+1)).map (Hr bs e.1 e.2) ⊆ (List.range n).map (fun k:Nat=>(k:Int)):=fun x hx=>by
      obtain ⟨k,hk,rfl⟩:=List.mem_map.1 hx
      obtain ⟨q1,q2,_⟩:=key k (by have:=List.mem_range.1 hk;omega)
      exact List.mem_map.2 ⟨(Hr bs e.1 e.2 k).toNat,List.mem_range.2 (by omega),by omega⟩
    have:=Mv hn1 hs
    simp at this
    omega
  obtain ⟨i,j,hij,hjn,heq⟩:=hrep
  have hper:∀k,Hr bs e.1 e.2 (i+k)=Hr bs e.1 e.2 (j+k):=by
    intro k
    induction k with
    | zero=>exact heq
    | succ k ih=>show Jg bs e.1 (Hr bs e.1 e.2 (i+k))=Jg bs e.1 (Hr bs e.1 e.2 (j+k));rw [ih]
  have hall:∀k,Yf bs e.1 (Hr bs e.1 e.2 k)=true:=by
    intro k
    induction k using Nat.strongRecOn with
    | _ k ih=>
      rcases Nat.lt_or_ge n k with h | h
      · have:=hper (k-j)
        rw [show j+(k-j)=k by omega] at this
        rw [←this]
        exact ih _ (by omega)
      · exact hok k h
  have hback:∀m k,Ll bs e.1 m (Hr bs e.1 e.2 k)=true:=by
    intro m
    induction m with
    | zero=>intro k;rfl
    | succ m ih=>intro k;rw [Ll,hall k];exact ih (k+1)
  have hcyc:∀m k,n≤k→k<n+(j-i)→n+(j-i)≤k+m→Mq bs e.1 (Hr bs e.1 e.2 n) m (Hr bs e.1 e.2 k)=true:=by
    intro m
    induction m with
    | zero=>intro k h5 h6 h7;omega
    | succ m ih=>
      intro k h5 h6 h7
      rw [Mq,hall k,Bool.true_and,Bool.or_eq_true]
      rcases Nat.lt_or_ge (k+1) (n+(j-i)) with h8 | h8
      · exact .inr (ih (k+1) (by omega) h8 (by omega))
      · left
        have:=hper (n-i)
        rw [show i+(n-i)=n by omega,show j+(n-i)=k+1 by omega] at this
        rw [this]
        exact beq_self_eq_true (Jg bs e.1 (Hr bs e.1 e.2 k))
  rw [Bool.and_eq_true]
  have hbn:Kv bs e.1 n e.2=Hr bs e.1 e.2 n:=by have:=Uq (bs:=bs) (d:=e.1) (a:=e.2) n 0;rwa [Nat.zero_add] at this
  rw [hbn]
  exact ⟨hback n 0,hcyc (n+1) n (Nat.le_refl _) (by omega) (by omega)⟩
theorem tR (T:List Sc)(V:List Va)(l:List Lit):SOLV T V l:=fun h1 h2=>by
 have hz:=bQ (n:=((zN T V l:Nat):Int)) (bs:=(C2 T V l).bs) h1
 exact uO (n:=zN T V l) (by omega) hz.2.2.2 h2
section
variable {T:List Sc} {V:List Va}
def Jf (T:List Sc)(V:List Va)(n:Nat)(c:Cs):Prop:=∀x∈c.1,∀y∈x,KOK T V y.cond∧Av y.cond≤n
theorem Km {n m:Nat}{c:Cs}(h:Jf T V n c)(hm:n≤m):Jf T V m c:=fun x hx y hy=>⟨(h x hx y hy).1,Nat.le_trans (h x hx y hy).2 hm⟩
theorem Mn {n:Nat}{a b:Cs}(ha:Jf T V n a)(hb:Jf T V n b):Jf T V n (Ee a b):=by
 unfold Ee
 split
 · intro x hx;cases hx
 ·
  unfold Na
  split
  · intro x hx;cases hx
  ·
   intro x hx y hy
   obtain ⟨p,hp,hm⟩:=List.mem_flatMap.1 hx
   obtain ⟨q,hq,rfl⟩:=List.mem_map.1 hm
   rcases List.mem_append.1 hy with h | h
   · exact ha p hp y h
   · exact hb q hq y h
theorem fC {n:Nat}{a b:Cs}(ha:Jf T V n a)(hb:Jf T V n b):Jf T V n (Ii a b):=by
 unfold Ii
 split
 · intro x hx;cases hx
 ·
  intro x hx y hy
  rcases List.mem_append.1 hx with h | h
  · exact ha x h y hy
  · exact hb x h y hy
theorem Xr {n:Nat}{l:List Lit}(h:∀y∈l,KOK T V y.cond∧Av y.cond≤n):Jf T V n (Dz l):=by
 intro x hx y hy
 unfold Dz at hx
 obtain ⟨z,hz,rfl⟩:=List.mem_map.1 hx
 rw [List.mem_singleton.1 hy]
 exact h z hz
theorem Ps {a b:Ex}(ha:KOK T V a)(hb:KOK T V b)(ka:Am T V a=0)(kb:Am T V b=0):KOK T V (two 7 a b):=by
 refine ⟨ha.ty,?_,?_⟩
 ·
  rw [Mz]
  have h1:Bx (two 7 a b)=0:=by
   have hf:Bl (two 7 a b)=0:=by simp [Bl,two,Dt,isV0,v0]
   unfold Bx
   rw [hf]
   simp [two,D6,Dt]
  rw [h1]
  show Aq C0 [a,b]=0
  simp [Aq,ha.nodes,hb.nodes]
 ·
  rw [Eo]
  show (if [a,b].isEmpty then _ else _:Int×Int).2=0
  have e1:(Ce T V a).2=0:=ha.kind
  have e2:(Ce T V b).2=0:=hb.kind
  have k1:(Ce T V a).1=0:=by rw [Hv ha];exact ka
  have k2:(Ce T V b).1=0:=by rw [Hv hb];exact kb
  simp [two,Aq,e1,e2,k1,k2,Dp,N6]
theorem fI (a b:Ex):Av (two 7 a b)=1+Av a+Av b:=by
 rw [Ef];simp [two];omega
theorem Pt (e:Ex):KOK T V e→∀s,Jf T V (Av e) (C4 T V e s):=by
 refine Ex.Aa0 (P:=fun e=>KOK T V e→∀s,Jf T V (Av e) (C4 T V e s)) (fun e ih hk s=>?_) e
 rcases Iy s hk with h | ⟨h,hl⟩ | ⟨h,hl⟩ | ⟨h,hl,h1⟩ | ⟨h,hl,h1,h2⟩ | ⟨_,_,_,h,_⟩
 ·
  cases h1:((e.val.num==1)==s) with
  | true=>rw [Fl h h1];intro x hx y hy;rw [List.mem_singleton.1 hx] at hy;cases hy
  | false=>rw [Fh h h1];intro x hx;cases hx
 ·
  rw [Fo hl h]
  exact Km (ih _ (A4 hl) (Ax hk (A4 hl)) _) (Nat.le_of_lt (uY hl))
 ·
  have m0:=A4 (show 0<e.args.length by omega)
  have m1:=Bn hl
  have hs:=Dd hl
  have i0:=Km (ih _ m0 (Ax hk m0) s) (show Av (Ao e)≤Av e by omega)
  have i1:=Km (ih _ m1 (Ax hk m1) s) (show Av (Bj e)≤Av e by omega)
  cases h1:((e.op==10)==s) with
  | true=>rw [Fk hl h h1];exact Mn i0 i1
  | false=>rw [Fg hl h h1];exact fC i0 i1
 ·
  have m0:=A4 (show 0<e.args.length by omega)
  have m1:=Bn hl
  have hs:=Dd hl
  have i0:=fun t=>Km (ih _ m0 (Ax hk m0) t) (show Av (Ao e)≤Av e by omega)
  have i1:=fun t=>Km (ih _ m1 (Ax hk m1) t) (show Av (Bj e)≤Av e by omega)
  rw [Fj hl h h1]
  exact fC (Mn (i0 _) (i1 _)) (Mn (i0 _) (i1 _))
 ·
  have m0:=A4 (show 0<e.args.length by omega)
  have m1:=Bn hl
  have hs:=Dd hl
  have h9:e.op=9:=by simpa using h
  have k0:Am T V (Ao e)=0:=by rw [Bool.and_eq_true] at h2;simpa using h2.1
  have k1:Am T V (Bj e)=0:=by rw [Ht hk h9 m1];exact k0
  rw [Fq h h1 h2]
  refine Xr fun y hy=>?_
  rcases List.mem_cons.1 hy with rfl | hy
  · exact ⟨Ps (Ax hk m0) (Ax hk m1) k0 k1,by simp only;rw [fI];omega⟩
  ·
   rw [List.mem_singleton.1 hy]
   exact ⟨Ps (Ax hk m1) (Ax hk m0) k1 k0,by simp only;rw [fI];omega⟩
 ·
  rw [h]
  exact Xr fun y hy=>by rw [List.mem_singleton.1 hy];exact ⟨hk,Nat.le_refl _⟩
end
section
variable (T:List Sc) (V:List Va)
def tK (c:List Lit):List Ev:=yX T V (Eg T V c).1 c (Lu T V c)
def Y9:Int→List (List Lit)→Int×List Ev
 | out,[]=>(out,[])
 | out,c::r=>if !Qb T V c&&decide ((c.length:Int)≤256) then Y9 out r else if Jq T V c then (1,tK T V c) else Y9 0 r
def Cp (c:Cs):Int×List Ev:=if !c.2 then (0,[]) else Y9 T V 2 c.1
def D8 (es:List Ex):Int:=if (C9 T V (Fw true)).2 != 0 then (C9 T V (Fw true)).2 else if decide (256<(es.length:Int)) then 5 else Aq (Dx T V) es
def eN (es:List Ex)(c:Cs):Cs:=es.foldl (fun c e=>Ee c (C4 T V e true)) c
def H9 (es:List Ex):Int×List Ev×Int:=if D8 T V es != 0 then (0,[],D8 T V es) else ((Cp T V (eN T V es ([[]],true))).1,(Cp T V (eN T V es ([[]],true))).2,0)
def Kp (a b:Ex):Cs:=Ee (C4 T V a true) (C4 T V b false)
def Cn (a b:Ex):Int×Int:=if D8 T V [a,b] != 0 then (0,D8 T V [a,b]) else if (Cp T V (Kp T V a b)).1==1 then (2,0) else if (Cp T V (Kp T V a b)).1==2 then (1,0) else ((Cp T V (Kp T V a b)).1,0)
end
section
variable {T:List Sc} {V:List Va}
theorem fT {o:Int}{c:List Lit}{r:List (List Lit)}(h:(!Qb T V c&&decide ((c.length:Int)≤256))=true):Y9 T V o (c::r)=Y9 T V o r:=by rw [Y9,if_pos h]
theorem nN {o:Int}{c:List Lit}{r:List (List Lit)}(h:(!Qb T V c&&decide ((c.length:Int)≤256))=false)(h2:Jq T V c=true):Y9 T V o (c::r)=(1,tK T V c):=by rw [Y9,Cz h,if_pos h2]
theorem wM {o:Int}{c:List Lit}{r:List (List Lit)}(h:(!Qb T V c&&decide ((c.length:Int)≤256))=false)(h2:Jq T V c=false):Y9 T V o (c::r)=Y9 T V 0 r:=by rw [Y9,Cz h,Cz h2]
theorem P8 {c:List Lit}(h:Jq T V c=true):In (C2 T V c)=true∧decide ((c.length:Int)≤256)=true:=by
 unfold Jq at h
 rw [Bool.and_eq_true,Bool.and_eq_true] at h
 exact h.2
theorem wC {c:List Lit}(hl:Un T V c)(h:(!Qb T V c&&decide ((c.length:Int)≤256))=false)(h2:Jq T V c=true):(B6 T V c).ts.length+1≤(Lu T V c).length:=by
  obtain ⟨h3,h4⟩:=P8 h2
  rw [h4,Bool.and_true] at h
  have hf:(!In (C2 T V c))=false:=by rw [h3];rfl
  have hk:Qb T V c=true:=by simpa using h
  rw [cN hf,Bool.and_eq_true] at hk
  rw [kH hf]
  have hok:=hk.2
  rw [pJ] at hok ⊢
  cases hz:I1 (zn (zN T V c) (C2 T V c).bs) != 0 with
  | true=>rw [V8 hz] at hok;cases hok
  | false=>
    cases he:decide ((Ed (zn (zN T V c) (C2 T V c).bs)).2<0) with
    | false=>rw [cK hz he] at hok;cases hok
    | true=>
      rw [V7 hz he]
      have:=(kI (mR hz (Pz hl))).s
      rw [List.length_map,this]
      exact Nat.le_refl _
theorem dN {es:List Ex}(h:((C9 T V (Fw true)).2 != 0)=true):D8 T V es=(C9 T V (Fw true)).2:=by rw [D8,if_pos h]
theorem oA {es:List Ex}(h:((C9 T V (Fw true)).2 != 0)=false)(h2:decide ((256:Int)<(es.length:Int))=true):D8 T V es=5:=by rw [D8,Cz h,if_pos h2]
theorem dQ {es:List Ex}(h:((C9 T V (Fw true)).2 != 0)=false)(h2:decide ((256:Int)<(es.length:Int))=false):D8 T V es=Aq (Dx T V) es:=by rw [D8,Cz h,Cz h2]
theorem Ws {es:List Ex}(h:(D8 T V es != 0)=false):es.length≤256∧∀e∈es,KC T V e∧Am T V e=1:=by
  have h0:D8 T V es=0:=by simpa using h
  cases h1:((C9 T V (Fw true)).2 != 0) with
  | true=>rw [dN h1] at h0;rw [h0] at h1;cases h1
  | false=>
    cases h2:decide ((256:Int)<(es.length:Int)) with
    | true=>rw [oA h1 h2] at h0;cases h0
    | false=>
      rw [dQ h1 h2] at h0
      have h2':=of_decide_eq_false h2
      exact ⟨by omega,fun e he=>Sr (by rw [Rk h0 e he];rfl)⟩
theorem jH {es:List Ex}(h:(D8 T V es != 0)=false):Ln T V:=by
 have h0:D8 T V es=0:=by simpa using h
 cases h1:((C9 T V (Fw true)).2 != 0) with
 | true=>rw [dN h1] at h0;rw [h0] at h1;cases h1
 | false=>exact (fM (by simpa using h1)).kok.ty
theorem Poss_1 {es:List Ex}(h:(D8 T V es != 0)=true):H9 T V es=(0,[],D8 T V es):=by rw [H9,if_pos h]
theorem Poss_2 {es:List Ex}{c:Cs}(h:(D8 T V es != 0)=false)(h2:eN T V es ([[]],true)=c):H9 T V es=((Cp T V c).1,(Cp T V c).2,0):=by rw [H9,Cz h,h2]
theorem bJ {c:Cs}(h:(!c.2)=true):Cp T V c=(0,[]):=if_pos h
theorem Xu {c:Cs}(h:(!c.2)=false):Cp T V c=Y9 T V 2 c.1:=Cz h
theorem Imp_1 {a b:Ex}(h:(D8 T V [a,b] != 0)=true):Cn T V a b=(0,D8 T V [a,b]):=by rw [Cn,if_pos h]
theorem Imp_2 {a b:Ex}(h:(D8 T V [a,b] != 0)=false)(h2:((Cp T V (Kp T V a b)).1==1)=true):Cn T V a b=(2,0):=by rw [Cn,Cz h,if_pos h2]
theorem Imp_3 {a b:Ex}(h:(D8 T V [a,b] != 0)=false)(h2:((Cp T V (Kp T V a b)).1==1)=false)(h3:((Cp T V (Kp T V a b)).1==2)=true):Cn T V a b=(1,0):=by rw [Cn,Cz h,Cz h2,if_pos h3]
theorem Imp_4 {a b:Ex}(h:(D8 T V [a,b] != 0)=false)(h2:((Cp T V (Kp T V a b)).1==1)=false)(h3:((Cp T V (Kp T V a b)).1==2)=false):Cn T V a b=((Cp T V (Kp T V a b)).1,0):=by rw [Cn,Cz h,Cz h2,Cz h3]
theorem rK {a b:Ex}{n:Nat}(ha:Av a≤n)(hb:Av b≤n):∀e∈[a,b],Av e≤n:=fun e he=>by
 rcases List.mem_cons.1 he with rfl | he
 · exact ha
 · rw [List.mem_singleton.1 he];exact hb
def vOK (T:List Sc)(V:List Va)(c:Cs):Prop:=c.1.length≤256∧∀x∈c.1,Un T V x∧x.length≤4096
theorem uP {n:Nat}{c:Cs}(h:csOK n c)(hl:Jf T V 64 c)(hn:n≤4096):vOK T V c:=⟨h.len,fun x hx=>⟨fun y hy=>hl x hx y hy,Nat.le_trans (h.lits x hx) hn⟩⟩
theorem uB:csOK 0 ([[]],true):=⟨by simp,fun x hx=>by rw [List.mem_singleton.1 hx];exact Nat.le_refl _⟩
theorem sM {n:Nat}:Jf T V n ([[]],true):=fun x hx y hy=>by rw [List.mem_singleton.1 hx] at hy;cases hy
end
set_option maxRecDepth 100000
def qV:List Sc:=[⟨[116,114,97,100,101],[⟨[115,121,109,98,111,108],2⟩,⟨[112,114,105,99,101],0⟩]⟩]
def tM:List Va:=[⟨[97],0⟩,⟨[98],0⟩]
def Zj (n:Int):Ex:=Ou ⟨0,n,[]⟩
def Hj (v:Int):Ex:=⟨1,[],v,1,0,v0⟩
def Ti (v:Int):Ex:=⟨1,[],v,0,0,v0⟩
def Xi:Ex:=⟨0,[],0,0,0,⟨2,0,[120]⟩⟩
def N9:Ex:=two 7 (Hj 0) (Zj 3)
def upE:Ex:=two 7 (Hj 0) (Hj 1)
def gN (n:Int):Ex:=two 7 (Hj 1) (two 5 (Hj 0) (Zj n))
def bH:Ex:=two 9 ⟨3,[],0,0,0,v0⟩ (Zj 2)
def clE:Ex:=sP (two 11 N9 (two 9 (Hj 0) (Hj 1)))
def clL:List (List Lit):=[[⟨N9,true⟩,⟨two 7 (Hj 0) (Hj 1),false⟩],[⟨N9,true⟩,⟨two 7 (Hj 1) (Hj 0),false⟩]]
def znE:Zn:=⟨3,[⟨1,0,1099511627776⟩,⟨0,1,1099511627776⟩,⟨2,0,1099511627776⟩,⟨0,2,1099511627776⟩,⟨0,1,-3⟩,⟨1,2,-1⟩]⟩
theorem fU:∀s∈qV,I9 s:=by
 intro s hs
 rw [List.mem_singleton.1 hs]
 exact ⟨by decide,by decide,by decide⟩
theorem ex_cl:Jl qV tM clE=(clL,0):=by kernel_rfl
theorem ex_zn:Qx qV tM [⟨N9,true⟩,⟨two 7 (Hj 0) (Hj 1),false⟩]=⟨znE,[Hj 0,Hj 1],0⟩:=by kernel_rfl
theorem zT:J7 clL clL=true:=(Kd _ _).2 rfl
theorem Nd (e:Ex)(h:decide (Av e≤100)=true):Av e≤1048576:=Nat.le_trans (of_decide_eq_true h) (by decide)
theorem Mu (l:List Ex)(h:l.all (fun e=>decide (Av e≤100))=true):∀e∈l,Av e≤1048576:=fun e he=>Nd e (List.all_eq_true.1 h e he)
theorem Zm:∀c∈clL,∀x∈c,Av x.cond≤1048576:=by
 intro c hc x hx
 have h:clL.all (fun c=>c.all fun x=>decide (Av x.cond≤100))=true:=by kernel_rfl
 exact Nd _ (List.all_eq_true.1 (List.all_eq_true.1 h c hc) x hx)
def mM (want:Int)(es:List Ex):Bool:=(H9 qV tM es).2.2==0&&(H9 qV tM es).1==want
theorem ver_1:mM 2 [upE,gN 1]=true:=by kernel_rfl
theorem ver_2:mM 1 [upE,gN 2]=true:=by kernel_rfl
theorem ver_3:mM 2 [two 9 (Ti 0) Xi,two 9 (Ti 1) (Ti 0),sP (two 9 (Ti 1) Xi)]=true:=by kernel_rfl
theorem ver_4:mM 0 [bH]=true:=by kernel_rfl
theorem ver_5:mM 2 [bH,two 7 (Hj 0) (Hj 0)]=true:=by kernel_rfl
theorem imp_1:Cn qV tM N9 (two 7 (Hj 0) (Zj 4))=(1,0):=by kernel_rfl
theorem imp_2:Cn qV tM (two 7 (Hj 0) (Zj 4)) N9=(2,0):=by kernel_rfl
def bigSc (s:Sc):Bool:=decide (20<(s.fields.length:Int))||decide (100<(s.name.length:Int))
def rQ (T:List Sc):Bool:=if T.any bigSc then false else decide ((T.length:Int)≤20)
def fewX (e:Ex):Bool:=decide (Av e≤200∧Et e≤100)
def iF (T:List Sc)(V:List Va)(es:List Ex):Bool:=
 if es.any (fun e=>!fewX e) then false else (rQ T&&decide ((V.length:Int)≤20))&&decide ((es.length:Int)≤10)
theorem dB {α:Type}{f:α→Bool}{l:List α}{k:Nat}{a:α}(h:l[k]? = some a)(hf:f a=true):l.any f=true:=List.any_eq_true.2 ⟨a,List.mem_of_getElem? h,hf⟩
theorem Wy {α:Type}{f:α→Bool}{l:List α}{k:Nat}{a:α}(hk:(l.take k).any f=false)(h:l[k]? = some a)(hf:f a=false):(l.take (k+1)).any f=false:=by
 rw [Cm h,List.any_append,hk,List.any_cons,hf];rfl
def sameAll (a b:List Ex):Bool:=decide (a.length=b.length)&&(a.zip b).all fun p=>Li p.1 p.2
def Aae:List Bd→List Bd→Bool
 | [],[]=>true
 | a::r,b::q=>(a.x==b.x&&a.y==b.y&&a.most==b.most)&&Aae r q
 | _,_=>false
end Go.Proofs.YtkddpedfbicbeaaGreatDoor
