/-
  Several texts in one: S28, S29, S31, S30, S32. No condition.
-/
import Derived.Test.YtjedflcpjlgokaaGreatDoorK16
set_option linter.unusedVariables false
set_option linter.unusedSimpArgs false
namespace Go.Proofs.YtjedflcpjlgokaaGreatDoor
open Go Go.Aw
set_option maxRecDepth 20000
section
variable {P:Program} {d:Option Nat} {ty:TypeId} {pos:String} {aft:Array Edge} {gd:Option (Nat×Bool)} {ρ:Operand→AV}
theorem iR {t:TypeId}{m k:Operand}{kt et b i:Nat}{td tk te:TD}{n:List UInt8}{U:Um}(hT:G7 P TL)(ht:Bm TL t=some td)(hk:td.kind = .map kt et)(htk:Bm TL kt=some tk)(hkk:tk.kind = .str)
  (hte:Bm TL et=some te) (hz:te.zero = [.bool false]) (hzs:Ox P et=true) (hm:ρ m = .val (.map (some b))) (hkey:ρ k = .str n) :
  C3 P ⟨d,.lookup t m k false,ty,pos,aft,gd⟩ ρ (fun H=>H[i]? = some (.smap b (sE U))) (.bool (Jr U n)):=
 jO hT ht hk htk hkk hte hzs hm hkey (by rw [hz];exact oV n U)
theorem sH {t:TypeId}{m k v:Operand}{kt et b i:Nat}{td tk:TD}{n:List UInt8}{U:Um}{x:Bool}{H H2:List HO}(hT:G7 P TL)(ht:Bm TL t=some td)(hk:td.kind = .map kt et)(htk:Bm TL kt=some tk)(hkk:tk.kind = .str)
  (hm:ρ m = .val (.map (some b))) (hkey:ρ k = .str n) (hv:ρ v = .bool x) (hH:H[i]? = some (.smap b (sE U))) (hH2:H.set i (.smap b (sE (Wx U n x)))=H2) :
  Km P ⟨d,.mapUpdate t m k v,ty,pos,aft,gd⟩ ρ H (fun y H'=>y = .junk∧H'=H2):=
 nY hT ht hk htk hkk hm hkey hv hH (by rw [sput_u];exact hH2)
theorem vU {t:TypeId}{m k v:Operand}{kt et b i:Nat}{td tk:TD}{r:Wd}{N:Nm}{s:Gk}{H H2:List HO}(hT:G7 P TL)(ht:Bm TL t=some td)(hk:td.kind = .map kt et)(htk:Bm TL kt=some tk)(hkk:tk.kind = .struct [(0,1,true,4),(1,1,true,9),(2,3,true,103)])
  (hm:ρ m = .val (.map (some b))) (hkey:ρ k = .agg (Jz r)) (hv:ρ v = .str s) (hH:H[i]? = some (.kmap b (nE N))) (hnew:Jp N r=none) (hH2:H.set i (.kmap b (nE (N ++ [(r,s)])))=H2) :
  Km P ⟨d,.mapUpdate t m k v,ty,pos,aft,gd⟩ ρ H (fun y H'=>y = .junk∧H'=H2):=
 R5 (eq:=Ir r) hT ht hk htk hkk hm hkey hv (Lx r r) (Xz r N) hH (new_n hnew) (by rw [Zd];exact hH2)
theorem uG {t:TypeId}{m k v:Operand}{kt et b i:Nat}{td tk:TD}{r:Wd}{N:Nm}{s s':Gk}{H H2:List HO}(hT:G7 P TL)(ht:Bm TL t=some td)(hk:td.kind = .map kt et)(htk:Bm TL kt=some tk)(hkk:tk.kind = .struct [(0,1,true,4),(1,1,true,9),(2,3,true,103)])
  (hm:ρ m = .val (.map (some b))) (hkey:ρ k = .agg (Jz r)) (hv:ρ v = .str s') (hH:H[i]? = some (.kmap b (nE (N ++ [(r,s)])))) (hnew:Jp N r=none) (hH2:H.set i (.kmap b (nE (N ++ [(r,s')])))=H2) :
  Km P ⟨d,.mapUpdate t m k v,ty,pos,aft,gd⟩ ρ H (fun y H'=>y = .junk∧H'=H2):=
 mX (eq:=Ir r) hT ht hk htk hkk hm hkey hv (Lx r r) (Xz r _) hH (kidx_n hnew) rfl (vA r _) (by rw [Aal];exact hH2)
end
theorem aB {r:Wd}{N:Nm}{s:Gk}(h:Jp N r=some s):match F5 (Ir r) (nE N) with | some y=>y = .str s | none=>[AV.str []] = [.str s]:=by rw [U4,h];rfl
theorem oY {P:Program}{f:FuncId}{args:List AV}{r0:AV}{bo:Nat}{v:Value}{l l':Es}{pre R:List HO}(h:C7 P f (Wn bo v l (pre++R)) args fun r H'=>r=r0∧H'=Wn bo v l' (pre++R)) :
  C7 P f (pre++Wn bo v l R) args fun r H'=>r=r0∧H'=pre++Wn bo v l' R:=
 (h.perm fQ).post fun r K ⟨h1,h2⟩=>⟨_,h2▸fQ.symm,h1,rfl⟩
def vH (p:Um×List Wd)(a:Ex):Um×List Wd:=(Wx p.1 (Ff a).text (Jr p.1 (Ff a).text||(Ff a).const),p.2 ++ [Ff a])
section
variable (T:List Sc) (V:List Va)
def qB (p:Um×List Wd)(c:Lit):Um×List Wd:=if !C0 T V c.cond || !Cm T V c.cond then p else c.cond.args.foldl vH p
def Wf (l:List Lit):Um×List Wd:=l.foldl (qB T V) ([],[])
end
abbrev Ns:=Um×Nm×List Ev
def fJ (U:Um)(N:Nm)(r:Wd):Um×Nm:=if (Jp N r).isSome then (U,N) else (Wx U (Po U r) true,N ++ [(r,Po U r)])
def yB (U:Um)(N:Nm)(r:Wd):Gk:=(Jp N r).getD (Po U r)
def Kc (w:Wm)(s:Ns)(x:Wd):Ns:=
 ((fJ s.1 s.2.1 (Df w x)).1,(fJ s.1 s.2.1 (Df w x)).2,if x.const then s.2.2 else wJ s.2.2 x.field (yB s.1 s.2.1 (Df w x)))
def Zp (T:List Sc)(V:List Va)(w:Wm)(l:List Lit)(evs:List Ev):List Ev:=((Wf T V l).2.foldl (Kc w) ((Wf T V l).1,[],evs)).2.2
theorem vE (U:Um)(N:Nm)(r:Wd):Jp (fJ U N r).2 r=some (yB U N r):=by
 unfold fJ yB
 cases h:Jp N r with
 | some s=>exact h
 | none=>exact Rg h
theorem wY {U:Um}{N:Nm}{r:Wd}(h:Jp N r=none):fJ U N r=(Wx U (Po U r) true,N ++ [(r,Po U r)]):=by unfold fJ;rw [h];rfl
theorem uL {U:Um}{N:Nm}{r:Wd}(h:(!(Jp N r).isSome)=false):fJ U N r=(U,N):=if_pos (by simpa using h)
theorem dW (U:Um)(n:Gk)(b:Bool):(Wx U n b).length≤U.length+1:=by
 unfold Wx;cases mH U n <;> simp
theorem jN (U:Um)(N:Nm)(r:Wd):(fJ U N r).1.length≤U.length+1:=by
 unfold fJ;split
 · simp
 · exact dW ..
section
variable {T:List Sc} {V:List Va}
theorem wQ {p:Um×List Wd}{c:Lit}(h:(!C0 T V c.cond || !Cm T V c.cond)=true):qB T V p c=p:=if_pos h
theorem qW {p:Um×List Wd}{c:Lit}(h:(!C0 T V c.cond || !Cm T V c.cond)=false):qB T V p c=c.cond.args.foldl vH p:=Cu h
def wdOK (T:List Sc)(V:List Va)(x:Wd):Prop:=x.const=false→tmOK T V x.field∧x.field.op=1
theorem rY {c:Lit}(hk:KOK T V c.cond)(h:(!C0 T V c.cond || !Cm T V c.cond)=false):c.cond.args.length=2∧∀a∈c.cond.args,(a.op==0||a.op==1)=true:=by
 rw [Bool.or_eq_false_iff,Bool.not_eq_false',Bool.not_eq_false'] at h
 have hc:=Ld h.1
 have hn:=(A9 hk.nodes).1
 have ho:c.cond.op=9:=by
  have:=h.1
  unfold C0 at this
  rw [Bool.and_eq_true] at this
  simpa using this.1
 have hl:c.cond.args.length=2:=by
  unfold Bq at hn
  split at hn
  · cases hn
  split at hn
  · cases hn
  rename_i h2
  have h2':(c.cond.args.length:Int)=Dp c.cond.op:=by simpa using h2
  rw [ho] at h2'
  have:Dp 9=2:=by decide
  omega
 have hs:=h.2
 unfold Cm at hs
 rw [if_neg (by rw [ho];decide),if_neg (by rw [hc];decide),if_pos h.1,Bool.and_eq_true] at hs
 refine ⟨hl,fun a ha=>?_⟩
 obtain ⟨a0,a1,he⟩:∃a0 a1,c.cond.args = [a0,a1]:=by
  match hq:c.cond.args,hl with
  | [x,y],_=>exact ⟨x,y,rfl⟩
 have e0:Ap c.cond=a0:=by unfold Ap;rw [he];rfl
 have e1:B3 c.cond=a1:=by unfold B3;rw [he];rfl
 rw [e0,e1] at hs
 rw [he] at ha
 rcases List.mem_cons.1 ha with rfl | ha
 · exact hs.1
 · rw [List.mem_singleton.1 ha];exact hs.2
theorem tV {a:Ex}(hk:KOK T V a)(h:(a.op==0||a.op==1)=true):wdOK T V (Ff a):=by
 intro hc
 unfold Ff at hc ⊢
 split at hc
 · cases hc
 rename_i h0
 rw [if_neg h0]
 have h1:a.op=1:=by simp at h h0;omega
 have hl:=Lw (A9 hk.nodes).1 (by rw [h1];rfl)
 exact ⟨yC (by rw [hl];exact hk) (.inl h1),h1⟩
end
theorem dG {l:Es}{t:Tm}{s:Gk}:(l.modify t.v.toNat fun p=>(S8 p.1 t.field.toNat (fun y=>{ y with text:=s }),p.2)).map Prod.fst=wJ (l.map Prod.fst) t s:=
 Pc (f:=fun e=>S8 e t.field.toNat fun y=>{ y with text:=s })
theorem oN {w:Wm}{s:Ns}{x:Wd}(h:x.const=true):Kc w s x=((fJ s.1 s.2.1 (Df w x)).1,(fJ s.1 s.2.1 (Df w x)).2,s.2.2):=by unfold Kc;rw [if_pos h]
theorem qI {w:Wm}{s:Ns}{x:Wd}(h:x.const=false):Kc w s x=((fJ s.1 s.2.1 (Df w x)).1,(fJ s.1 s.2.1 (Df w x)).2,wJ s.2.2 x.field (yB s.1 s.2.1 (Df w x))):=by unfold Kc;rw [if_neg (by rw [h];decide)]
theorem nm_f {w:Wm}{U:Um}{N:Nm}{l:Es}{x:Wd}{t:Um×Nm}(hT:t=fJ U N (Df w x))(h:x.const=false) :
  Kc w (U,N,l.map Prod.fst) x=(t.1,t.2,(l.modify x.field.v.toNat fun p=>(S8 p.1 x.field.field.toNat (fun y=>{ y with text:=yB U N (Df w x) }),p.2)).map Prod.fst):=by
 subst hT;rw [qI h,dG]
theorem nm_c {w:Wm}{U:Um}{N:Nm}{l:Es}{x:Wd}{t:Um×Nm}(hT:t=fJ U N (Df w x))(h:x.const=true):Kc w (U,N,l.map Prod.fst) x=(t.1,t.2,l.map Prod.fst):=by
 subst hT;rw [oN h]
theorem Xs {α β:Type}{f:β→α→β}{l:List α}{k:Nat}{a:α}{b:β}(h:l[k]? = some a):(l.drop k).foldl f b=(l.drop (k+1)).foldl f (f b a):=by rw [Bi h];rfl
theorem Aai (l:List Wd):∀c∈l.map Jz,Bg c=true:=F2 fun _=>rfl
end Go.Proofs.YtjedflcpjlgokaaGreatDoor

namespace Go.Aw
open Go
theorem lit1 {z:Nat}{ρ:Operand→AV}{y:Operand}{cs:List AV}(h:ρ y = .agg cs)(hl:Nat.beq cs.length z=true)(hs:Bg cs=true):Ng z ρ 0 [(0,y)]=true:=by
 unfold Ng Ng
 rw [h]
 show (true&&Nat.beq cs.length z&&Bg cs&&true)=true
 rw [hl,hs];rfl
end Go.Aw
namespace Go.Proofs.YtjedflcpjlgokaaGreatDoor
open Go Go.Aw
def zV (f:Fi):Vl:=⟨f.kind,0,[]⟩
def tJ (T:List Sc)(V:List Va)(w:Wm)(l:List Lit)(vals:List Int):List Ev:=Zp T V w l (Hk vals 0 (Bz T V l).ts (Gs T 0 V))
theorem dM {T:List Sc}{i:Nat}{v:Va}{s:Sc}(h:T[v.type.toNat]? = some s):(Wo T i v).values=s.fields.map zV:=by
 unfold Wo;rw [h];rfl
theorem lA {vals:List Int}{k:Nat}(h:k+1<vals.length):(vals.map cI)[((k:Int)+1).toNat]? = some [.int .i64 (C5 vals ((k:Int)+1))]:=by
 have:=Yy (l:=vals) (k:=(k:Int)+1) (by omega) (by omega)
 rw [List.getElem?_map,this];rfl
theorem Yh {l:Es}{t:Tm}{x:Int}(h:(t.op==2)=true):(l.modify t.v.toNat fun p=>({ p.1 with time:=x },p.2)).map Prod.fst=Px (l.map Prod.fst) t x:=by
 unfold Px;rw [if_pos h];exact Pc (f:=fun e=>{ e with time:=x })
theorem dZ {l:Es}{t:Tm}{x:Int}(h:(t.op==2)=false):(l.modify t.v.toNat fun p=>(S8 p.1 t.field.toNat (fun y=>{ y with num:=x }),p.2)).map Prod.fst=Px (l.map Prod.fst) t x:=by
 unfold Px;rw [if_neg (by rw [h];decide)];exact Pc (f:=fun e=>S8 e t.field.toNat fun y=>{ y with num:=x })
theorem Un {vals:List Int}{ts:List Tm}{k:Nat}{t:Tm}{evs:List Ev}(h:ts[k]? = some t):Hk vals k (ts.drop k) evs=Hk vals (k+1) (ts.drop (k+1)) (Px evs t (C5 vals ((k:Int)+1))):=by
 rw [Bi h,Hk]
theorem pJ {T:List Sc}{V:List Va}(h:Kl T V){v:Va}(hv:v∈V):∃s,T[v.type.toNat]? = some s:=by
 have:=h v hv
 have hlt:v.type.toNat<T.length:=by omega
 exact ⟨_,List.getElem?_eq_getElem hlt⟩
theorem L5 {l:List Int}{k x v:Int}(h0:0≤k)(hk:k<(l.length:Int))(hx:0≤x):C5 (l.set k.toNat v) x=if x=k then v else C5 l x:=by
 unfold C5
 rw [List.getElem?_set]
 by_cases h:x=k
 ·
  subst h
  rw [if_pos rfl,if_pos (by omega),if_pos rfl];rfl
 · rw [if_neg (by omega),if_neg h]
structure RInv (n:Nat) (bs:List Bd) (r i:Nat) (d:Ds) (tm:Int→Nat):Prop where
 s:d.sums.length=n
 l:d.last.length=n
 le:∀x,tm x≤r
 old:∀(j:Nat) (b:Bd),bs[j]? = some b→i≤j→1<r→tm b.y<r-1→C5 d.sums b.x≤C5 d.sums b.y+b.most
 new:∀(j:Nat) (b:Bd),bs[j]? = some b→j<i→tm b.y<r→C5 d.sums b.x≤C5 d.sums b.y+b.most
 pt:∀x:Int,0≤x→x<(n:Int)→1≤tm x→∃b,0≤C5 d.last x∧bs[(C5 d.last x).toNat]? = some b∧tm x≤tm b.y+1
abbrev iI (n:Nat)(b:Bd):Prop:=0≤b.x∧b.x<(n:Int)∧0≤b.y∧b.y<(n:Int)
theorem nS {n r i:Nat}{bs:List Bd}{d:Ds}{a:Int}{tm:Int→Nat}{b:Bd}(hr:1≤r)(h:RInv n bs r i d tm)(hb:bs[i]? = some b)(hbs:∀b∈bs,iI n b)(ha:a = -1∨(tm a=r∧0≤a∧a<(n:Int))) :
    ∃tm',RInv n bs r (i+1) (Ta i b (d,a)).1 tm'∧((Ta i b (d,a)).2 = -1∨(tm' (Ta i b (d,a)).2=r∧0≤(Ta i b (d,a)).2∧(Ta i b (d,a)).2<(n:Int))):=by
  have hbr:=hbs b (List.mem_of_getElem? hb)
  have hs:=h.s
  have hl:=h.l
  cases hq:decide (C5 d.sums b.y+b.most<C5 d.sums b.x) with
  | false=>
    rw [R4 (s:=(d,a)) hq]
    have hq':¬(C5 d.sums b.y+b.most<C5 d.sums b.x):=of_decide_eq_false hq
    refine ⟨tm,⟨h.s,h.l,h.le,fun j c hj hle h1 h2=>h.old j c hj (by omega) h1 h2,fun j c hj hlt h1=>?_,h.pt⟩,ha⟩
    rcases Nat.lt_or_ge j i with h3 | h3
    · exact h.new j c hj h3 h1
    · have:j=i:=by omega
      subst this
      rw [hb] at hj;cases hj
      show C5 d.sums b.x≤C5 d.sums b.y+b.most
      omega
  | true=>
    rw [Mb (s:=(d,a)) hq]
    have hq':C5 d.sums b.y+b.most<C5 d.sums b.x:=of_decide_eq_true hq
    have hty:r≤tm b.y+1:=by
      refine Nat.le_of_not_lt fun hlt=>?_
      rcases Nat.lt_or_ge 1 r with h1 | h1
      · have:=h.old i b hb (Nat.le_refl _) h1 (by omega);omega
      · omega
    refine ⟨fun x=>if x=b.x then r else tm x,⟨by simp only [List.length_set];exact hs,by simp only [List.length_set];exact hl,fun x=>?_,fun j c hj hle h1 h2=>?_,fun j c hj hlt h1=>?_,fun x hx0 hxn ht=>?_⟩,.inr ⟨if_pos rfl,hbr.1,hbr.2.1⟩⟩
    · show (if x=b.x then r else tm x)≤r
      split
      · exact Nat.le_refl _
      · exact h.le x
    · have hcr:=hbs c (List.mem_of_getElem? hj)
      simp only at h2 ⊢
      split at h2
      · omega
      · rename_i hne
        rw [L5 hbr.1 (by rw [hs];exact hbr.2.1) hcr.1,L5 hbr.1 (by rw [hs];exact hbr.2.1) hcr.2.2.1,if_neg hne]
        have h3:=h.old j c hj (by omega) h1 h2
        split
        · rename_i hcx;rw [hcx] at h3;omega
        · exact h3
    · have hcr:=hbs c (List.mem_of_getElem? hj)
      simp only at h1 ⊢
      split at h1
      · omega
      · rename_i hne
        rw [L5 hbr.1 (by rw [hs];exact hbr.2.1) hcr.1,L5 hbr.1 (by rw [hs];exact hbr.2.1) hcr.2.2.1,if_neg hne]
        rcases Nat.lt_or_ge j i with h3 | h3
        · have h4:=h.new j c hj h3 h1
          split
          · rename_i hcx;rw [hcx] at h4;omega
          · exact h4
        · have:j=i:=by omega
          subst this
          rw [hb] at hj;cases hj
          rw [if_pos rfl];omega
    · simp only at ht ⊢
      rw [L5 hbr.1 (by rw [hl];exact hbr.2.1) hx0]
      by_cases hxb:x=b.x
      · rw [if_pos hxb,if_pos hxb]
        refine ⟨b,by omega,by simpa using hb,?_⟩
        split
        · omega
        · exact hty
      · rw [if_neg hxb] at ht ⊢
        rw [if_neg hxb]
        obtain ⟨c,h1,h2,h3⟩:=h.pt x hx0 hxn ht
        refine ⟨c,h1,h2,?_⟩
        split
        · have:=h.le x;omega
        · exact h3
theorem iS {n r:Nat}{bs:List Bd}(hr:1≤r)(hbs:∀b∈bs,iI n b):∀(m i:Nat) {d:Ds} {a:Int} {tm:Int→Nat},i+m=bs.length→RInv n bs r i d tm→(a = -1∨(tm a=r∧0≤a∧a<(n:Int)))→
    ∃tm',RInv n bs r bs.length (Gi i (bs.drop i) (d,a)).1 tm'∧((Gi i (bs.drop i) (d,a)).2 = -1∨(tm' (Gi i (bs.drop i) (d,a)).2=r∧0≤(Gi i (bs.drop i) (d,a)).2∧(Gi i (bs.drop i) (d,a)).2<(n:Int)))
  | 0,i,d,a,tm,hm,h,ha=>by
    have hi:i=bs.length:=by omega
    rw [Rx (List.drop_eq_nil_of_le (by omega))]
    exact ⟨tm,hi▸h,ha⟩
  | m+1,i,d,a,tm,hm,h,ha=>by
    have hlt:i<bs.length:=by omega
    have hb:=List.getElem?_eq_getElem hlt
    rw [Md hb]
    obtain ⟨tm',h1,h2⟩:=nS hr h hb hbs ha
    exact iS hr hbs m (i+1) (d:=(Ta i bs[i] (d,a)).1) (a:=(Ta i bs[i] (d,a)).2) (by omega) h1 h2
theorem gK {n r:Nat}{bs:List Bd}{d:Ds}{tm:Int→Nat}(h:RInv n bs r bs.length d tm):RInv n bs (r+1) 0 d tm:=
 ⟨h.s,h.l,fun x=>Nat.le_succ_of_le (h.le x),fun j b hj _ _ h2=>h.new j b hj (List.getElem?_eq_some_iff.1 hj).1 (by omega),fun j b _ hlt=>absurd hlt (by omega),h.pt⟩
theorem Sz {n:Nat}{bs:List Bd}(hbs:∀b∈bs,iI n b):∀(m r:Nat) {d:Ds} {a:Int} {tm:Int→Nat},1≤r→RInv n bs r 0 d tm→(1≤m∨(tm a=r-1∧0≤a∧a<(n:Int)))→¬(Do bs m (d,a)).2<0→
    ∃tm',RInv n bs (r+m) 0 (Do bs m (d,a)).1 tm'∧tm' (Do bs m (d,a)).2=r+m-1∧0≤(Do bs m (d,a)).2∧(Do bs m (d,a)).2<(n:Int)
  | 0,r,d,a,tm,hr,h,ha,_=>by
    rcases ha with ha | ha
    · omega
    · exact ⟨tm,h,by show tm a=r+0-1;rw [ha.1];rfl,ha.2⟩
  | m+1,r,d,a,tm,hr,h,_,hne=>by
    obtain ⟨tm',h1,h2⟩:=iS hr hbs bs.length 0 (a:=-1) (by omega) h (.inl rfl)
    rw [List.drop_zero] at h1 h2
    cases hq:decide ((I8 bs d).2<0) with
    | true=>rw [Jb (s:=(d,a)) hq] at hne;exact absurd (of_decide_eq_true hq) hne
    | false=>
      rw [K7 (s:=(d,a)) hq] at hne ⊢
      have hq':=of_decide_eq_false hq
      have h3:=h2.resolve_left (fun e=>hq' (by show (Gi 0 bs (d,-1)).2<0;rw [e];decide))
      have:=Sz hbs m (r+1) (d:=(I8 bs d).1) (a:=(I8 bs d).2) (by omega) (gK h1) (.inr ⟨by show tm' (Gi 0 bs (d,-1)).2=_;rw [h3.1];omega,h3.2⟩) hne
      rw [show r+1+m=r+(m+1) by omega] at this
      exact this
def Gd (bs:List Bd)(d:Ds)(a:Int):Nat→Int
 | 0=>a
 | k+1=>E7 bs d (Gd bs d a k)
theorem R9 {bs:List Bd}{d:Ds}{a:Int}:∀(k j:Nat),Hg bs d k (Gd bs d a j)=Gd bs d a (j+k)
  | 0,j=>rfl
  | k+1,j=>by
    rw [Up]
    have:=R9 (bs:=bs) (d:=d) (a:=a) k (j+1)
    rw [show j+(k+1)=j+1+k by omega,←this];rfl
theorem dS {n:Nat}{bs:List Bd}(hn:1≤n)(hbs:∀b∈bs,iI n b)(hge:decide ((Cy (zn n bs)).2<0)=false):Ky n bs=true:=by
  have hst:RInv n bs 1 0 ⟨List.replicate n 0,Jo n⟩ (fun _=>0):=⟨by simp,by simp [Jo],fun _=>by omega,fun j b _ _ h=>absurd h (by omega),fun j b _ h=>absurd h (by omega),fun x _ _ h=>absurd h (by simp)⟩
  have hge':=of_decide_eq_false hge
  rw [Ls] at hge'
  obtain ⟨tm,h1,h2,h3,h4⟩:=Sz hbs (n+1) 1 (a:=-1) (Nat.le_refl _) hst (.inl (by omega)) hge'
  rw [←Ls] at h1 h2 h3 h4
  unfold Ky
  generalize Cy (zn n bs)=e at h1 h2 h3 h4
  have key:∀k,k≤n→0≤Gd bs e.1 e.2 k∧Gd bs e.1 e.2 k<(n:Int)∧n+1≤tm (Gd bs e.1 e.2 k)+k:=by
    intro k
    induction k with
    | zero=>intro _;exact ⟨h3,h4,by show n+1≤tm e.2+0;omega⟩
    | succ k ih=>
      intro hk
      obtain ⟨q1,q2,q3⟩:=ih (by omega)
      obtain ⟨b,p1,p2,p3⟩:=h1.pt _ q1 q2 (by omega)
      have hb:=hbs b (List.mem_of_getElem? p2)
      have he:Gd bs e.1 e.2 (k+1)=b.y:=by
        show E7 bs e.1 (Gd bs e.1 e.2 k)=b.y
        unfold E7;rw [p2];rfl
      rw [he]
      exact ⟨hb.2.2.1,hb.2.2.2,by omega⟩
  have hok:∀k,k≤n→U3 bs e.1 (Gd bs e.1 e.2 k)=true:=by
    intro k hk
    obtain ⟨q1,q2,q3⟩:=key k hk
    obtain ⟨b,p1,p2,_⟩:=h1.pt _ q1 q2 (by omega)
    have:=(List.getElem?_eq_some_iff.1 p2).1
    unfold U3
    rw [h1.l]
    simp only [Bool.and_eq_true,decide_eq_true_eq]
    exact ⟨⟨⟨q1,q2⟩,p1⟩,by omega⟩
  -- two of the first n + 1 are the same
  have hrep:∃i j,i<j∧j≤n∧Gd bs e.1 e.2 i=Gd bs e.1 e.2 j:=by
    refine Classical.byContradiction fun hno=>?_
    have hn1:((List.range (n+1)).map (Gd bs e.1 e.2)).Nodup:=by
      refine List.pairwise_map.2 (List.Pairwise.imp_of_mem ?_ List.pairwise_lt_range)
      intro a b ha hb hlt heq
      exact hno ⟨a,b,hlt,by have:=List.mem_range.1 hb;omega,heq⟩
    have hs:(List.range (n+1)).map (Gd bs e.1 e.2) ⊆ (List.range n).map (fun k:Nat=>(k:Int)):=fun x hx=>by
      obtain ⟨k,hk,rfl⟩:=List.mem_map.1 hx
      obtain ⟨q1,q2,_⟩:=key k (by have:=List.mem_range.1 hk;omega)
      exact List.mem_map.2 ⟨(Gd bs e.1 e.2 k).toNat,List.mem_range.2 (by omega),by omega⟩
    have:=Ll hn1 hs
    simp at this
    omega
  obtain ⟨i,j,hij,hjn,heq⟩:=hrep
  have hper:∀k,Gd bs e.1 e.2 (i+k)=Gd bs e.1 e.2 (j+k):=by
    intro k
    induction k with
    | zero=>exact heq
    | succ k ih=>show E7 bs e.1 (Gd bs e.1 e.2 (i+k))=E7 bs e.1 (Gd bs e.1 e.2 (j+k));rw [ih]
  have hall:∀k,U3 bs e.1 (Gd bs e.1 e.2 k)=true:=by
    intro k
    induction k using Nat.strongRecOn with
    | _ k ih=>
      rcases Nat.lt_or_ge n k with h | h
      · have:=hper (k-j)
        rw [show j+(k-j)=k by omega] at this
        rw [←this]
        exact ih _ (by omega)
      · exact hok k h
  have hback:∀m k,Kd bs e.1 m (Gd bs e.1 e.2 k)=true:=by
    intro m
    induction m with
    | zero=>intro k;rfl
    | succ m ih=>intro k;rw [Kd,hall k];exact ih (k+1)
  have hcyc:∀m k,n≤k→k<n+(j-i)→n+(j-i)≤k+m→Ih bs e.1 (Gd bs e.1 e.2 n) m (Gd bs e.1 e.2 k)=true:=by
    intro m
    induction m with
    | zero=>intro k h5 h6 h7;omega
    | succ m ih=>
      intro k h5 h6 h7
      rw [Ih,hall k,Bool.true_and,Bool.or_eq_true]
      rcases Nat.lt_or_ge (k+1) (n+(j-i)) with h8 | h8
      · exact .inr (ih (k+1) (by omega) h8 (by omega))
      · left
        have:=hper (n-i)
        rw [show i+(n-i)=n by omega,show j+(n-i)=k+1 by omega] at this
        rw [this]
        exact beq_self_eq_true (E7 bs e.1 (Gd bs e.1 e.2 k))
  rw [Bool.and_eq_true]
  have hbn:Hg bs e.1 n e.2=Gd bs e.1 e.2 n:=by have:=R9 (bs:=bs) (d:=e.1) (a:=e.2) n 0;rwa [Nat.zero_add] at this
  rw [hbn]
  exact ⟨hback n 0,hcyc (n+1) n (Nat.le_refl _) (by omega) (by omega)⟩
theorem cB (T:List Sc)(V:List Va)(l:List Lit):zR T V l:=fun h1 h2=>by
 have hz:=Qv (n:=((zN T V l:Nat):Int)) (bs:=(A7 T V l).bs) h1
 exact dS (n:=zN T V l) (by omega) hz.2.2.2 h2
section
variable {T:List Sc} {V:List Va}
def Ie (T:List Sc)(V:List Va)(n:Nat)(c:Cs):Prop:=∀x∈c.1,∀y∈x,KOK T V y.cond∧Av y.cond≤n
theorem Lk {n m:Nat}{c:Cs}(h:Ie T V n c)(hm:n≤m):Ie T V m c:=fun x hx y hy=>⟨(h x hx y hy).1,Nat.le_trans (h x hx y hy).2 hm⟩
theorem Og {n:Nat}{a b:Cs}(ha:Ie T V n a)(hb:Ie T V n b):Ie T V n (Dy a b):=by
 unfold Dy
 split
 · intro x hx;cases hx
 ·
  unfold Kg
  split
  · intro x hx;cases hx
  ·
   intro x hx y hy
   obtain ⟨p,hp,hm⟩:=List.mem_flatMap.1 hx
   obtain ⟨q,hq,rfl⟩:=List.mem_map.1 hm
   rcases List.mem_append.1 hy with h | h
   · exact ha p hp y h
   · exact hb q hq y h
theorem dP {n:Nat}{a b:Cs}(ha:Ie T V n a)(hb:Ie T V n b):Ie T V n (Hf a b):=by
 unfold Hf
 split
 · intro x hx;cases hx
 ·
  intro x hx y hy
  rcases List.mem_append.1 hx with h | h
  · exact ha x h y hy
  · exact hb x h y hy
theorem Vu {n:Nat}{l:List Lit}(h:∀y∈l,KOK T V y.cond∧Av y.cond≤n):Ie T V n (Dn l):=by
 intro x hx y hy
 unfold Dn at hx
 obtain ⟨z,hz,rfl⟩:=List.mem_map.1 hx
 rw [List.mem_singleton.1 hy]
 exact h z hz
theorem Tf {a b:Ex}(ha:KOK T V a)(hb:KOK T V b)(ka:Ak T V a=0)(kb:Ak T V b=0):KOK T V (two 7 a b):=by
 refine ⟨ha.ty,?_,?_⟩
 ·
  rw [Oc]
  have h1:Bq (two 7 a b)=0:=by
   have hf:Bj (two 7 a b)=0:=by simp [Bj,two,Dd,isV0,v0]
   unfold Bq
   rw [hf]
   simp [two,Dp,Dd]
  rw [h1]
  show At Ci [a,b]=0
  simp [At,ha.nodes,hb.nodes]
 ·
  rw [Ec]
  show (if [a,b].isEmpty then _ else _:Int×Int).2=0
  have e1:(Ca T V a).2=0:=ha.kind
  have e2:(Ca T V b).2=0:=hb.kind
  have k1:(Ca T V a).1=0:=by rw [Jg ha];exact ka
  have k2:(Ca T V b).1=0:=by rw [Jg hb];exact kb
  simp [two,At,e1,e2,k1,k2,Du,Mp]
theorem eQ (a b:Ex):Av (two 7 a b)=1+Av a+Av b:=by
 rw [Dj];simp [two];omega
theorem Oo (e:Ex):KOK T V e→∀s,Ie T V (Av e) (Bw T V e s):=by
 refine Ex.Aa8 (P:=fun e=>KOK T V e→∀s,Ie T V (Av e) (Bw T V e s)) (fun e ih hk s=>?_) e
 rcases Gz s hk with h | ⟨h,hl⟩ | ⟨h,hl⟩ | ⟨h,hl,h1⟩ | ⟨h,hl,h1,h2⟩ | ⟨_,_,_,h,_⟩
 ·
  cases h1:((e.val.num==1)==s) with
  | true=>rw [Eh h h1];intro x hx y hy;rw [List.mem_singleton.1 hx] at hy;cases hy
  | false=>rw [Ef h h1];intro x hx;cases hx
 ·
  rw [Ed hl h]
  exact Lk (ih _ (Ax hl) (An hk (Ax hl)) _) (Nat.le_of_lt (yU hl))
 ·
  have m0:=Ax (show 0<e.args.length by omega)
  have m1:=Bf hl
  have hs:=Da hl
  have i0:=Lk (ih _ m0 (An hk m0) s) (show Av (Ap e)≤Av e by omega)
  have i1:=Lk (ih _ m1 (An hk m1) s) (show Av (B3 e)≤Av e by omega)
  cases h1:((e.op==10)==s) with
  | true=>rw [Ei hl h h1];exact Og i0 i1
  | false=>rw [Eg hl h h1];exact dP i0 i1
 ·
  have m0:=Ax (show 0<e.args.length by omega)
  have m1:=Bf hl
  have hs:=Da hl
  have i0:=fun t=>Lk (ih _ m0 (An hk m0) t) (show Av (Ap e)≤Av e by omega)
  have i1:=fun t=>Lk (ih _ m1 (An hk m1) t) (show Av (B3 e)≤Av e by omega)
  rw [Ej hl h h1]
  exact dP (Og (i0 _) (i1 _)) (Og (i0 _) (i1 _))
 ·
  have m0:=Ax (show 0<e.args.length by omega)
  have m1:=Bf hl
  have hs:=Da hl
  have h9:e.op=9:=by simpa using h
  have k0:Ak T V (Ap e)=0:=by rw [Bool.and_eq_true] at h2;simpa using h2.1
  have k1:Ak T V (B3 e)=0:=by rw [Lf hk h9 m1];exact k0
  rw [Ee h h1 h2]
  refine Vu fun y hy=>?_
  rcases List.mem_cons.1 hy with rfl | hy
  · exact ⟨Tf (An hk m0) (An hk m1) k0 k1,by simp only;rw [eQ];omega⟩
  ·
   rw [List.mem_singleton.1 hy]
   exact ⟨Tf (An hk m1) (An hk m0) k1 k0,by simp only;rw [eQ];omega⟩
 ·
  rw [h]
  exact Vu fun y hy=>by rw [List.mem_singleton.1 hy];exact ⟨hk,Nat.le_refl _⟩
end
section
variable (T:List Sc) (V:List Va)
def evC (c:List Lit):List Ev:=tJ T V (Id T V c).1 c (Y4 T V c)
def fH:Int→List (List Lit)→Int×List Ev
 | out,[]=>(out,[])
 | out,c::r=>if !Ov T V c&&decide ((c.length:Int)≤256) then fH out r else if Lh T V c then (1,evC T V c) else fH 0 r
def Gx (c:Cs):Int×List Ev:=if !c.2 then (0,[]) else fH T V 2 c.1
def E3 (es:List Ex):Int:=if (Cf T V (E4 true)).2 != 0 then (Cf T V (E4 true)).2 else if decide (256<(es.length:Int)) then 5 else At (C4 T V) es
def Xq (es:List Ex)(c:Cs):Cs:=es.foldl (fun c e=>Dy c (Bw T V e true)) c
def B6 (es:List Ex):Int×List Ev×Int:=if E3 T V es != 0 then (0,[],E3 T V es) else ((Gx T V (Xq T V es ([[]],true))).1,(Gx T V (Xq T V es ([[]],true))).2,0)
def Aag (a b:Ex):Cs:=Dy (Bw T V a true) (Bw T V b false)
def ImpliesS (a b:Ex):Int×Int:=if E3 T V [a,b] != 0 then (0,E3 T V [a,b]) else if (Gx T V (Aag T V a b)).1==1 then (2,0) else if (Gx T V (Aag T V a b)).1==2 then (1,0) else ((Gx T V (Aag T V a b)).1,0)
end
section
variable {T:List Sc} {V:List Va}
theorem rZ {o:Int}{c:List Lit}{r:List (List Lit)}(h:(!Ov T V c&&decide ((c.length:Int)≤256))=true):fH T V o (c::r)=fH T V o r:=by rw [fH,if_pos h]
theorem vO {o:Int}{c:List Lit}{r:List (List Lit)}(h:(!Ov T V c&&decide ((c.length:Int)≤256))=false)(h2:Lh T V c=true):fH T V o (c::r)=(1,evC T V c):=by rw [fH,Cu h,if_pos h2]
theorem zT {o:Int}{c:List Lit}{r:List (List Lit)}(h:(!Ov T V c&&decide ((c.length:Int)≤256))=false)(h2:Lh T V c=false):fH T V o (c::r)=fH T V 0 r:=by rw [fH,Cu h,Cu h2]
theorem Rw {c:List Lit}(h:Lh T V c=true):Ha (A7 T V c)=true∧decide ((c.length:Int)≤256)=true:=by
 unfold Lh at h
 rw [Bool.and_eq_true,Bool.and_eq_true] at h
 exact h.2
theorem sC {c:List Lit}(hl:Q9 T V c)(h:(!Ov T V c&&decide ((c.length:Int)≤256))=false)(h2:Lh T V c=true):(Bz T V c).ts.length+1≤(Y4 T V c).length:=by
  obtain ⟨h3,h4⟩:=Rw h2
  rw [h4,Bool.and_true] at h
  have hf:(!Ha (A7 T V c))=false:=by rw [h3];rfl
  have hk:Ov T V c=true:=by simpa using h
  rw [iH hf,Bool.and_eq_true] at hk
  rw [qM hf]
  have hok:=hk.2
  rw [L1] at hok ⊢
  cases hz:De (zn (zN T V c) (A7 T V c).bs) != 0 with
  | true=>rw [Th hz] at hok;cases hok
  | false=>
    cases he:decide ((Cy (zn (zN T V c) (A7 T V c).bs)).2<0) with
    | false=>rw [L3 hz he] at hok;cases hok
    | true=>
      rw [L9 hz he]
      have:=(aO (cY hz (J5 hl))).s
      rw [List.length_map,this]
      exact Nat.le_refl _
theorem aA {es:List Ex}(h:((Cf T V (E4 true)).2 != 0)=true):E3 T V es=(Cf T V (E4 true)).2:=by rw [E3,if_pos h]
theorem jP {es:List Ex}(h:((Cf T V (E4 true)).2 != 0)=false)(h2:decide ((256:Int)<(es.length:Int))=true):E3 T V es=5:=by rw [E3,Cu h,if_pos h2]
theorem Zg {es:List Ex}(h:((Cf T V (E4 true)).2 != 0)=false)(h2:decide ((256:Int)<(es.length:Int))=false):E3 T V es=At (C4 T V) es:=by rw [E3,Cu h,Cu h2]
theorem hU {es:List Ex}(h:(E3 T V es != 0)=false):es.length≤256∧∀e∈es,KC T V e∧Ak T V e=1:=by
  have h0:E3 T V es=0:=by simpa using h
  cases h1:((Cf T V (E4 true)).2 != 0) with
  | true=>rw [aA h1] at h0;rw [h0] at h1;cases h1
  | false=>
    cases h2:decide ((256:Int)<(es.length:Int)) with
    | true=>rw [jP h1 h2] at h0;cases h0
    | false=>
      rw [Zg h1 h2] at h0
      have h2':=of_decide_eq_false h2
      exact ⟨by omega,fun e he=>Nh (by rw [Pn h0 e he];rfl)⟩
theorem tK {es:List Ex}(h:(E3 T V es != 0)=false):Kl T V:=by
 have h0:E3 T V es=0:=by simpa using h
 cases h1:((Cf T V (E4 true)).2 != 0) with
 | true=>rw [aA h1] at h0;rw [h0] at h1;cases h1
 | false=>exact (eT (by simpa using h1)).kok.ty
theorem Aap {es:List Ex}(h:(E3 T V es != 0)=true):B6 T V es=(0,[],E3 T V es):=by rw [B6,if_pos h]
theorem gD {es:List Ex}{c:Cs}(h:(E3 T V es != 0)=false)(h2:Xq T V es ([[]],true)=c):B6 T V es=((Gx T V c).1,(Gx T V c).2,0):=by rw [B6,Cu h,h2]
theorem verd_1 {c:Cs}(h:(!c.2)=true):Gx T V c=(0,[]):=if_pos h
theorem hP {c:Cs}(h:(!c.2)=false):Gx T V c=fH T V 2 c.1:=Cu h
def vOK (T:List Sc)(V:List Va)(c:Cs):Prop:=c.1.length≤256∧∀x∈c.1,Q9 T V x∧x.length≤4096
theorem vOK_of {n:Nat}{c:Cs}(h:csOK n c)(hl:Ie T V 64 c)(hn:n≤4096):vOK T V c:=⟨h.len,fun x hx=>⟨fun y hy=>hl x hx y hy,Nat.le_trans (h.lits x hx) hn⟩⟩
theorem tE:csOK 0 ([[]],true):=⟨by simp,fun x hx=>by rw [List.mem_singleton.1 hx];exact Nat.le_refl _⟩
theorem nB {n:Nat}:Ie T V n ([[]],true):=fun x hx y hy=>by rw [List.mem_singleton.1 hx] at hy;cases hy
end
set_option maxRecDepth 100000
def exT:List Sc:=[⟨[116,114,97,100,101],[⟨[115,121,109,98,111,108],2⟩,⟨[112,114,105,99,101],0⟩]⟩]
def exV:List Va:=[⟨[97],0⟩,⟨[98],0⟩]
def Aab (n:Int):Ex:=Lq ⟨0,n,[]⟩
def V0 (v:Int):Ex:=⟨1,[],v,1,0,v0⟩
def symE (v:Int):Ex:=⟨1,[],v,0,0,v0⟩
def textE:Ex:=⟨0,[],0,0,0,⟨2,0,[120]⟩⟩
def pY:Ex:=two 7 (V0 0) (Aab 3)
def upE:Ex:=two 7 (V0 0) (V0 1)
def downE (n:Int):Ex:=two 7 (V0 1) (two 5 (V0 0) (Aab n))
def countE:Ex:=two 9 ⟨3,[],0,0,0,v0⟩ (Aab 2)
def clE:Ex:=notE (two 11 pY (two 9 (V0 0) (V0 1)))
def clL:List (List Lit):=[[⟨pY,true⟩,⟨two 7 (V0 0) (V0 1),false⟩],[⟨pY,true⟩,⟨two 7 (V0 1) (V0 0),false⟩]]
def znE:Zn:=⟨3,[⟨1,0,1099511627776⟩,⟨0,1,1099511627776⟩,⟨2,0,1099511627776⟩,⟨0,2,1099511627776⟩,⟨0,1,-3⟩,⟨1,2,-1⟩]⟩
def verS (want:Int)(es:List Ex):Bool:=(B6 exT exV es).2.2==0&&(B6 exT exV es).1==want
def yA (s:Sc):Bool:=decide (20<(s.fields.length:Int))||decide (100<(s.name.length:Int))
def fC (T:List Sc):Bool:=if T.any yA then false else decide ((T.length:Int)≤20)
def xE (e:Ex):Bool:=decide (Av e≤200∧Ch e≤100)
def fewP (T:List Sc)(V:List Va)(es:List Ex):Bool:=
 if es.any (fun e=>!xE e) then false else (fC T&&decide ((V.length:Int)≤20))&&decide ((es.length:Int)≤10)
theorem Tg {α:Type}{f:α→Bool}{l:List α}{k:Nat}{a:α}(h:l[k]? = some a)(hf:f a=true):l.any f=true:=List.any_eq_true.2 ⟨a,List.mem_of_getElem? h,hf⟩
theorem Ik {α:Type}{f:α→Bool}{l:List α}{k:Nat}{a:α}(hk:(l.take k).any f=false)(h:l[k]? = some a)(hf:f a=false):(l.take (k+1)).any f=false:=by
 rw [Cx h,List.any_append,hk,List.any_cons,hf];rfl
def sameAll (a b:List Ex):Bool:=decide (a.length=b.length)&&(a.zip b).all fun p=>qR p.1 p.2
def uV:List Bd→List Bd→Bool
 | [],[]=>true
 | a::r,b::q=>(a.x==b.x&&a.y==b.y&&a.most==b.most)&&uV r q
 | _,_=>false
end Go.Proofs.YtjedflcpjlgokaaGreatDoor
