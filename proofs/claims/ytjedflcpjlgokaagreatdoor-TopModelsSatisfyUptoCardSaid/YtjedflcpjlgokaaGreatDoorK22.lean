/-
  Several texts in one: S28, S29, S31, S30, S32. No condition.
-/
import Derived.Test.YtjedflcpjlgokaaGreatDoorK21
set_option linter.unusedVariables false
set_option linter.unusedSimpArgs false
namespace Go.Proofs.YtjedflcpjlgokaaGreatDoor
open Go Go.Aw
set_option maxRecDepth 20000
section
variable {P:Program} {d:Option Nat} {ty:TypeId} {pos:String} {aft:Array Edge} {gd:Option (Nat×Bool)} {ρ:Operand→AV}
theorem lW {t:TypeId}{m k:Operand}{kt et b i:Nat}{td tk te:TD}{n:List UInt8}{U:Um}(hT:Hb P TL)(ht:Bv TL t=some td)(hk:td.kind = .map kt et)(htk:Bv TL kt=some tk)(hkk:tk.kind = .str)
  (hte:Bv TL et=some te) (hz:te.zero = [.bool false]) (hzs:P4 P et=true) (hm:ρ m = .val (.map (some b))) (hkey:ρ k = .str n) :
  Dn P ⟨d,.lookup t m k false,ty,pos,aft,gd⟩ ρ (fun H=>H[i]? = some (.smap b (sE U))) (.bool (Kv U n)):=
 kO hT ht hk htk hkk hte hzs hm hkey (by rw [hz];exact tW n U)
theorem qY {t:TypeId}{m k v:Operand}{kt et b i:Nat}{td tk:TD}{n:List UInt8}{U:Um}{x:Bool}{H H2:List HO}(hT:Hb P TL)(ht:Bv TL t=some td)(hk:td.kind = .map kt et)(htk:Bv TL kt=some tk)(hkk:tk.kind = .str)
  (hm:ρ m = .val (.map (some b))) (hkey:ρ k = .str n) (hv:ρ v = .bool x) (hH:H[i]? = some (.smap b (sE U))) (hH2:H.set i (.smap b (sE (X0 U n x)))=H2) :
  Km P ⟨d,.mapUpdate t m k v,ty,pos,aft,gd⟩ ρ H (fun y H'=>y = .junk∧H'=H2):=
 oI hT ht hk htk hkk hm hkey hv hH (by rw [sput_u];exact hH2)
theorem wQ {t:TypeId}{m k v:Operand}{kt et b i:Nat}{td tk:TD}{r:Wd}{N:Nm}{s:Hn}{H H2:List HO}(hT:Hb P TL)(ht:Bv TL t=some td)(hk:td.kind = .map kt et)(htk:Bv TL kt=some tk)(hkk:tk.kind = .struct [(0,1,true,4),(1,1,true,9),(2,3,true,103)])
  (hm:ρ m = .val (.map (some b))) (hkey:ρ k = .agg (K8 r)) (hv:ρ v = .str s) (hH:H[i]? = some (.kmap b (nE N))) (hnew:K3 N r=none) (hH2:H.set i (.kmap b (nE (N ++ [(r,s)])))=H2) :
  Km P ⟨d,.mapUpdate t m k v,ty,pos,aft,gd⟩ ρ H (fun y H'=>y = .junk∧H'=H2):=
 S8 (eq:=Jm r) hT ht hk htk hkk hm hkey hv (Mt r r) (Zt r N) hH (new_n hnew) (by rw [cN];exact hH2)
theorem xD {t:TypeId}{m k v:Operand}{kt et b i:Nat}{td tk:TD}{r:Wd}{N:Nm}{s s':Hn}{H H2:List HO}(hT:Hb P TL)(ht:Bv TL t=some td)(hk:td.kind = .map kt et)(htk:Bv TL kt=some tk)(hkk:tk.kind = .struct [(0,1,true,4),(1,1,true,9),(2,3,true,103)])
  (hm:ρ m = .val (.map (some b))) (hkey:ρ k = .agg (K8 r)) (hv:ρ v = .str s') (hH:H[i]? = some (.kmap b (nE (N ++ [(r,s)])))) (hnew:K3 N r=none) (hH2:H.set i (.kmap b (nE (N ++ [(r,s')])))=H2) :
  Km P ⟨d,.mapUpdate t m k v,ty,pos,aft,gd⟩ ρ H (fun y H'=>y = .junk∧H'=H2):=
 qC (eq:=Jm r) hT ht hk htk hkk hm hkey hv (Mt r r) (Zt r _) hH (kidx_n hnew) rfl (zD r _) (by rw [kput_n];exact hH2)
end
theorem cM {r:Wd}{N:Nm}{s:Hn}(h:K3 N r=some s):match G4 (Jm r) (nE N) with | some y=>y = .str s | none=>[AV.str []] = [.str s]:=by rw [Xf,h];rfl
theorem tN {P:Program}{f:FuncId}{args:List AV}{r0:AV}{bo:Nat}{v:Value}{l l':Es}{pre R:List HO}(h:Dk P f (Xv bo v l (pre++R)) args fun r H'=>r=r0∧H'=Xv bo v l' (pre++R)) :
  Dk P f (pre++Xv bo v l R) args fun r H'=>r=r0∧H'=pre++Xv bo v l' R:=
 (h.perm jG).post fun r K ⟨h1,h2⟩=>⟨_,h2▸jG.symm,h1,rfl⟩
def wV (p:Um×List Wd)(a:Ex):Um×List Wd:=(X0 p.1 (Ga a).text (Kv p.1 (Ga a).text||(Ga a).const),p.2 ++ [Ga a])
section
variable (T:List Sc) (V:List Va)
def qQ (p:Um×List Wd)(c:Lit):Um×List Wd:=if !Dl T V c.cond || !Ck T V c.cond then p else c.cond.args.foldl wV p
def Vq (l:List Lit):Um×List Wd:=l.foldl (qQ T V) ([],[])
end
abbrev Ns:=Um×Nm×List Ev
def gT (U:Um)(N:Nm)(r:Wd):Um×Nm:=if (K3 N r).isSome then (U,N) else (X0 U (Qm U r) true,N ++ [(r,Qm U r)])
def nmT (U:Um)(N:Nm)(r:Wd):Hn:=(K3 N r).getD (Qm U r)
def Lc (w:Wm)(s:Ns)(x:Wd):Ns:=
 ((gT s.1 s.2.1 (D4 w x)).1,(gT s.1 s.2.1 (D4 w x)).2,if x.const then s.2.2 else wG s.2.2 x.field (nmT s.1 s.2.1 (D4 w x)))
def bR (T:List Sc)(V:List Va)(w:Wm)(l:List Lit)(evs:List Ev):List Ev:=((Vq T V l).2.foldl (Lc w) ((Vq T V l).1,[],evs)).2.2
theorem xB (U:Um)(N:Nm)(r:Wd):K3 (gT U N r).2 r=some (nmT U N r):=by
 unfold gT nmT
 cases h:K3 N r with
 | some s=>exact h
 | none=>exact S9 h
theorem xP {U:Um}{N:Nm}{r:Wd}(h:K3 N r=none):gT U N r=(X0 U (Qm U r) true,N ++ [(r,Qm U r)]):=by unfold gT;rw [h];rfl
theorem yR {U:Um}{N:Nm}{r:Wd}(h:(!(K3 N r).isSome)=false):gT U N r=(U,N):=if_pos (by simpa using h)
theorem fH (U:Um)(n:Hn)(b:Bool):(X0 U n b).length≤U.length+1:=by
 unfold X0;cases pW U n <;> simp
theorem lG (U:Um)(N:Nm)(r:Wd):(gT U N r).1.length≤U.length+1:=by
 unfold gT;split
 · simp
 · exact fH ..
section
variable {T:List Sc} {V:List Va}
theorem xI {p:Um×List Wd}{c:Lit}(h:(!Dl T V c.cond || !Ck T V c.cond)=true):qQ T V p c=p:=if_pos h
theorem tR {p:Um×List Wd}{c:Lit}(h:(!Dl T V c.cond || !Ck T V c.cond)=false):qQ T V p c=c.cond.args.foldl wV p:=C8 h
def wdOK (T:List Sc)(V:List Va)(x:Wd):Prop:=x.const=false→tmOK T V x.field∧x.field.op=1
theorem tZ {c:Lit}(hk:KOK T V c.cond)(h:(!Dl T V c.cond || !Ck T V c.cond)=false):c.cond.args.length=2∧∀a∈c.cond.args,(a.op==0||a.op==1)=true:=by
 rw [Bool.or_eq_false_iff,Bool.not_eq_false',Bool.not_eq_false'] at h
 have hc:=L9 h.1
 have hn:=(Bc hk.nodes).1
 have ho:c.cond.op=9:=by
  have:=h.1
  unfold Dl at this
  rw [Bool.and_eq_true] at this
  simpa using this.1
 have hl:c.cond.args.length=2:=by
  unfold B3 at hn
  split at hn
  · cases hn
  split at hn
  · cases hn
  rename_i h2
  have h2':(c.cond.args.length:Int)=D8 c.cond.op:=by simpa using h2
  rw [ho] at h2'
  have:D8 9=2:=by decide
  omega
 have hs:=h.2
 unfold Ck at hs
 rw [if_neg (by rw [ho];decide),if_neg (by rw [hc];decide),if_pos h.1,Bool.and_eq_true] at hs
 refine ⟨hl,fun a ha=>?_⟩
 obtain ⟨a0,a1,he⟩:∃a0 a1,c.cond.args = [a0,a1]:=by
  match hq:c.cond.args,hl with
  | [x,y],_=>exact ⟨x,y,rfl⟩
 have e0:Av c.cond=a0:=by unfold Av;rw [he];rfl
 have e1:Cc c.cond=a1:=by unfold Cc;rw [he];rfl
 rw [e0,e1] at hs
 rw [he] at ha
 rcases List.mem_cons.1 ha with rfl | ha
 · exact hs.1
 · rw [List.mem_singleton.1 ha];exact hs.2
theorem xQ {a:Ex}(hk:KOK T V a)(h:(a.op==0||a.op==1)=true):wdOK T V (Ga a):=by
 intro hc
 unfold Ga at hc ⊢
 split at hc
 · cases hc
 rename_i h0
 rw [if_neg h0]
 have h1:a.op=1:=by simp at h h0;omega
 have hl:=Ky (Bc hk.nodes).1 (by rw [h1];rfl)
 exact ⟨tm_ok (by rw [hl];exact hk) (.inl h1),h1⟩
end
theorem fI {l:Es}{t:Tm}{s:Hn}:(l.modify t.v.toNat fun p=>(Uo p.1 t.field.toNat (fun y=>{ y with text:=s }),p.2)).map Prod.fst=wG (l.map Prod.fst) t s:=
 Q6 (f:=fun e=>Uo e t.field.toNat fun y=>{ y with text:=s })
theorem tG {w:Wm}{s:Ns}{x:Wd}(h:x.const=true):Lc w s x=((gT s.1 s.2.1 (D4 w x)).1,(gT s.1 s.2.1 (D4 w x)).2,s.2.2):=by unfold Lc;rw [if_pos h]
theorem vJ {w:Wm}{s:Ns}{x:Wd}(h:x.const=false):Lc w s x=((gT s.1 s.2.1 (D4 w x)).1,(gT s.1 s.2.1 (D4 w x)).2,wG s.2.2 x.field (nmT s.1 s.2.1 (D4 w x))):=by unfold Lc;rw [if_neg (by rw [h];decide)]
theorem nm_f {w:Wm}{U:Um}{N:Nm}{l:Es}{x:Wd}{t:Um×Nm}(hT:t=gT U N (D4 w x))(h:x.const=false) :
  Lc w (U,N,l.map Prod.fst) x=(t.1,t.2,(l.modify x.field.v.toNat fun p=>(Uo p.1 x.field.field.toNat (fun y=>{ y with text:=nmT U N (D4 w x) }),p.2)).map Prod.fst):=by
 subst hT;rw [vJ h,fI]
theorem nm_c {w:Wm}{U:Um}{N:Nm}{l:Es}{x:Wd}{t:Um×Nm}(hT:t=gT U N (D4 w x))(h:x.const=true):Lc w (U,N,l.map Prod.fst) x=(t.1,t.2,l.map Prod.fst):=by
 subst hT;rw [tG h]
theorem aD {α β:Type}{f:β→α→β}{l:List α}{k:Nat}{a:α}{b:β}(h:l[k]? = some a):(l.drop k).foldl f b=(l.drop (k+1)).foldl f (f b a):=by rw [A8 h];rfl
theorem cWd_sc (l:List Wd):∀c∈l.map K8,Be c=true:=Ed fun _=>rfl
end Go.Proofs.YtjedflcpjlgokaaGreatDoor

namespace Go.Aw
open Go
theorem lit1 {z:Nat}{ρ:Operand→AV}{y:Operand}{cs:List AV}(h:ρ y = .agg cs)(hl:Nat.beq cs.length z=true)(hs:Be cs=true):Oi z ρ 0 [(0,y)]=true:=by
 unfold Oi Oi
 rw [h]
 show (true&&Nat.beq cs.length z&&Be cs&&true)=true
 rw [hl,hs];rfl
end Go.Aw
namespace Go.Proofs.YtjedflcpjlgokaaGreatDoor
open Go Go.Aw
def zV (f:Fi):Vl:=⟨f.kind,0,[]⟩
def uI (T:List Sc)(V:List Va)(w:Wm)(l:List Lit)(vals:List Int):List Ev:=bR T V w l (Gv vals 0 (B1 T V l).ts (Fh T 0 V))
theorem Xb {T:List Sc}{i:Nat}{v:Va}{s:Sc}(h:T[v.type.toNat]? = some s):(Uq T i v).values=s.fields.map zV:=by
 unfold Uq;rw [h];rfl
theorem bA {vals:List Int}{k:Nat}(h:k+1<vals.length):(vals.map cI)[((k:Int)+1).toNat]? = some [.int .i64 (Du vals ((k:Int)+1))]:=by
 have:=kF (l:=vals) (k:=(k:Int)+1) (by omega) (by omega)
 rw [List.getElem?_map,this];rfl
theorem Y4 {l:Es}{t:Tm}{x:Int}(h:(t.op==2)=true):(l.modify t.v.toNat fun p=>({ p.1 with time:=x },p.2)).map Prod.fst=L1 (l.map Prod.fst) t x:=by
 unfold L1;rw [if_pos h];exact Q6 (f:=fun e=>{ e with time:=x })
theorem dQ {l:Es}{t:Tm}{x:Int}(h:(t.op==2)=false):(l.modify t.v.toNat fun p=>(Uo p.1 t.field.toNat (fun y=>{ y with num:=x }),p.2)).map Prod.fst=L1 (l.map Prod.fst) t x:=by
 unfold L1;rw [if_neg (by rw [h];decide)];exact Q6 (f:=fun e=>Uo e t.field.toNat fun y=>{ y with num:=x })
theorem Q2 {vals:List Int}{ts:List Tm}{k:Nat}{t:Tm}{evs:List Ev}(h:ts[k]? = some t):Gv vals k (ts.drop k) evs=Gv vals (k+1) (ts.drop (k+1)) (L1 evs t (Du vals ((k:Int)+1))):=by
 rw [A8 h,Gv]
theorem fJ {T:List Sc}{V:List Va}(h:Ki T V){v:Va}(hv:v∈V):∃s,T[v.type.toNat]? = some s:=by
 have:=h v hv
 have hlt:v.type.toNat<T.length:=by omega
 exact ⟨_,List.getElem?_eq_getElem hlt⟩
theorem N1 {l:List Int}{k x v:Int}(h0:0≤k)(hk:k<(l.length:Int))(hx:0≤x):Du (l.set k.toNat v) x=if x=k then v else Du l x:=by
 unfold Du
 rw [List.getElem?_set]
 by_cases h:x=k
 ·
  subst h
  rw [if_pos rfl,if_pos (by omega),if_pos rfl];rfl
 · rw [if_neg (by omega),if_neg h]
structure RInv (n:Nat) (bs:List Bd) (r i:Nat) (d:Ds) (tm:Int→Nat):Prop where
 s:d.sums.length=n
 l:d.last.length=n
 le:∀x,tm x≤r
 old:∀(j:Nat) (b:Bd),bs[j]? = some b→i≤j→1<r→tm b.y<r-1→Du d.sums b.x≤Du d.sums b.y+b.most
 new:∀(j:Nat) (b:Bd),bs[j]? = some b→j<i→tm b.y<r→Du d.sums b.x≤Du d.sums b.y+b.most
 pt:∀x:Int,0≤x→x<(n:Int)→1≤tm x→∃b,0≤Du d.last x∧bs[(Du d.last x).toNat]? = some b∧tm x≤tm b.y+1
abbrev iI (n:Nat)(b:Bd):Prop:=0≤b.x∧b.x<(n:Int)∧0≤b.y∧b.y<(n:Int)
theorem nS {n r i:Nat}{bs:List Bd}{d:Ds}{a:Int}{tm:Int→Nat}{b:Bd}(hr:1≤r)(h:RInv n bs r i d tm)(hb:bs[i]? = some b)(hbs:∀b∈bs,iI n b)(ha:a = -1∨(tm a=r∧0≤a∧a<(n:Int))) :
    ∃tm',RInv n bs r (i+1) (Ul i b (d,a)).1 tm'∧((Ul i b (d,a)).2 = -1∨(tm' (Ul i b (d,a)).2=r∧0≤(Ul i b (d,a)).2∧(Ul i b (d,a)).2<(n:Int))):=by
  have hbr:=hbs b (List.mem_of_getElem? hb)
  have hs:=h.s
  have hl:=h.l
  cases hq:decide (Du d.sums b.y+b.most<Du d.sums b.x) with
  | false=>
    rw [Tl (s:=(d,a)) hq]
    have hq':¬(Du d.sums b.y+b.most<Du d.sums b.x):=of_decide_eq_false hq
    refine ⟨tm,⟨h.s,h.l,h.le,fun j c hj hle h1 h2=>h.old j c hj (by omega) h1 h2,fun j c hj hlt h1=>?_,h.pt⟩,ha⟩
    rcases Nat.lt_or_ge j i with h3 | h3
    · exact h.new j c hj h3 h1
    · have:j=i:=by omega
      subst this
      rw [hb] at hj;cases hj
      show Du d.sums b.x≤Du d.sums b.y+b.most
      omega
  | true=>
    rw [Mu (s:=(d,a)) hq]
    have hq':Du d.sums b.y+b.most<Du d.sums b.x:=of_decide_eq_true hq
    have hty:r≤tm b.y+1:=by
      refine Nat.le_of_not_lt fun hlt=>?_
      rcases Nat.lt_or_ge 1 r with h1 | h1
      · have:=h.old i b hb (Nat.le_refl _) h1 (by omega);omega
      · omega
    refine ⟨fun x=>if x=b.x then r else tm x,⟨by simp only [List.length_set];exact hs,by simp only [List.length_set];exact hl,fun x=>?_,fun j c hj hle h1 h2=>?_,fun j c hj hlt h1=>?_,fun x hx0 hxn ht=>?_⟩,.inr ⟨if_pos rfl,hbr.1,hbr.2.1⟩⟩
    · show (if x=b.x then r else tm x)≤r
      split
      · exact Nat.le_refl _
      · exact h.le x
    · have hcr:=hbs c (List.mem_of_getElem? hj)
      simp only at h2 ⊢
      split at h2
      · omega
      · rename_i hne
        rw [N1 hbr.1 (by rw [hs];exact hbr.2.1) hcr.1,N1 hbr.1 (by rw [hs];exact hbr.2.1) hcr.2.2.1,if_neg hne]
        have h3:=h.old j c hj (by omega) h1 h2
        split
        · rename_i hcx;rw [hcx] at h3;omega
        · exact h3
    · have hcr:=hbs c (List.mem_of_getElem? hj)
      simp only at h1 ⊢
      split at h1
      · omega
      · rename_i hne
        rw [N1 hbr.1 (by rw [hs];exact hbr.2.1) hcr.1,N1 hbr.1 (by rw [hs];exact hbr.2.1) hcr.2.2.1,if_neg hne]
        rcases Nat.lt_or_ge j i with h3 | h3
        · have h4:=h.new j c hj h3 h1
          split
          · rename_i hcx;rw [hcx] at h4;omega
          · exact h4
        · have:j=i:=by omega
          subst this
          rw [hb] at hj;cases hj
          rw [if_pos rfl];omega
    · simp only at ht ⊢
      rw [N1 hbr.1 (by rw [hl];exact hbr.2.1) hx0]
      by_cases hxb:x=b.x
      · rw [if_pos hxb,if_pos hxb]
        refine ⟨b,by omega,by simpa using hb,?_⟩
        split
        · omega
        · exact hty
      · rw [if_neg hxb] at ht ⊢
        rw [if_neg hxb]
        obtain ⟨c,h1,h2,h3⟩:=h.pt x hx0 hxn ht
        refine ⟨c,h1,h2,?_⟩
        split
        · have:=h.le x;omega
        · exact h3
theorem mV {n r:Nat}{bs:List Bd}(hr:1≤r)(hbs:∀b∈bs,iI n b):∀(m i:Nat) {d:Ds} {a:Int} {tm:Int→Nat},i+m=bs.length→RInv n bs r i d tm→(a = -1∨(tm a=r∧0≤a∧a<(n:Int)))→
    ∃tm',RInv n bs r bs.length (Hm i (bs.drop i) (d,a)).1 tm'∧((Hm i (bs.drop i) (d,a)).2 = -1∨(tm' (Hm i (bs.drop i) (d,a)).2=r∧0≤(Hm i (bs.drop i) (d,a)).2∧(Hm i (bs.drop i) (d,a)).2<(n:Int)))
  | 0,i,d,a,tm,hm,h,ha=>by
    have hi:i=bs.length:=by omega
    rw [Tg (List.drop_eq_nil_of_le (by omega))]
    exact ⟨tm,hi▸h,ha⟩
  | m+1,i,d,a,tm,hm,h,ha=>by
    have hlt:i<bs.length:=by omega
    have hb:=List.getElem?_eq_getElem hlt
    rw [Mx hb]
    obtain ⟨tm',h1,h2⟩:=nS hr h hb hbs ha
    exact mV hr hbs m (i+1) (d:=(Ul i bs[i] (d,a)).1) (a:=(Ul i bs[i] (d,a)).2) (by omega) h1 h2
theorem jU {n r:Nat}{bs:List Bd}{d:Ds}{tm:Int→Nat}(h:RInv n bs r bs.length d tm):RInv n bs (r+1) 0 d tm:=
 ⟨h.s,h.l,fun x=>Nat.le_succ_of_le (h.le x),fun j b hj _ _ h2=>h.new j b hj (List.getElem?_eq_some_iff.1 hj).1 (by omega),fun j b _ hlt=>absurd hlt (by omega),h.pt⟩
theorem Ud {n:Nat}{bs:List Bd}(hbs:∀b∈bs,iI n b):∀(m r:Nat) {d:Ds} {a:Int} {tm:Int→Nat},1≤r→RInv n bs r 0 d tm→(1≤m∨(tm a=r-1∧0≤a∧a<(n:Int)))→¬(Ea bs m (d,a)).2<0→
    ∃tm',RInv n bs (r+m) 0 (Ea bs m (d,a)).1 tm'∧tm' (Ea bs m (d,a)).2=r+m-1∧0≤(Ea bs m (d,a)).2∧(Ea bs m (d,a)).2<(n:Int)
  | 0,r,d,a,tm,hr,h,ha,_=>by
    rcases ha with ha | ha
    · omega
    · exact ⟨tm,h,by show tm a=r+0-1;rw [ha.1];rfl,ha.2⟩
  | m+1,r,d,a,tm,hr,h,_,hne=>by
    obtain ⟨tm',h1,h2⟩:=mV hr hbs bs.length 0 (a:=-1) (by omega) h (.inl rfl)
    rw [List.drop_zero] at h1 h2
    cases hq:decide ((Ka bs d).2<0) with
    | true=>rw [Kg (s:=(d,a)) hq] at hne;exact absurd (of_decide_eq_true hq) hne
    | false=>
      rw [Mk (s:=(d,a)) hq] at hne ⊢
      have hq':=of_decide_eq_false hq
      have h3:=h2.resolve_left (fun e=>hq' (by show (Hm 0 bs (d,-1)).2<0;rw [e];decide))
      have:=Ud hbs m (r+1) (d:=(Ka bs d).1) (a:=(Ka bs d).2) (by omega) (jU h1) (.inr ⟨by show tm' (Hm 0 bs (d,-1)).2=_;rw [h3.1];omega,h3.2⟩) hne
      rw [show r+1+m=r+(m+1) by omega] at this
      exact this
def Hj (bs:List Bd)(d:Ds)(a:Int):Nat→Int
 | 0=>a
 | k+1=>F3 bs d (Hj bs d a k)
theorem T4 {bs:List Bd}{d:Ds}{a:Int}:∀(k j:Nat),Ii bs d k (Hj bs d a j)=Hj bs d a (j+k)
  | 0,j=>rfl
  | k+1,j=>by
    rw [Xc]
    have:=T4 (bs:=bs) (d:=d) (a:=a) k (j+1)
    rw [show j+(k+1)=j+1+k by omega,←this];rfl
theorem fK {n:Nat}{bs:List Bd}(hn:1≤n)(hbs:∀b∈bs,iI n b)(hge:decide ((Di (zn n bs)).2<0)=false):L2 n bs=true:=by
  have hst:RInv n bs 1 0 ⟨List.replicate n 0,Ks n⟩ (fun _=>0):=⟨by simp,by simp [Ks],fun _=>by omega,fun j b _ _ h=>absurd h (by omega),fun j b _ h=>absurd h (by omega),fun x _ _ h=>absurd h (by simp)⟩
  have hge':=of_decide_eq_false hge
  rw [Na] at hge'
  obtain ⟨tm,h1,h2,h3,h4⟩:=Ud hbs (n+1) 1 (a:=-1) (Nat.le_refl _) hst (.inl (by omega)) hge'
  rw [←Na] at h1 h2 h3 h4
  unfold L2
  generalize Di (zn n bs)=e at h1 h2 h3 h4
  have key:∀k,k≤n→0≤Hj bs e.1 e.2 k∧Hj bs e.1 e.2 k<(n:Int)∧n+1≤tm (Hj bs e.1 e.2 k)+k:=by
    intro k
    induction k with
    | zero=>intro _;exact ⟨h3,h4,by show n+1≤tm e.2+0;omega⟩
    | succ k ih=>
      intro hk
      obtain ⟨q1,q2,q3⟩:=ih (by omega)
      obtain ⟨b,p1,p2,p3⟩:=h1.pt _ q1 q2 (by omega)
      have hb:=hbs b (List.mem_of_getElem? p2)
      have he:Hj bs e.1 e.2 (k+1)=b.y:=by
        show F3 bs e.1 (Hj bs e.1 e.2 k)=b.y
        unfold F3;rw [p2];rfl
      rw [he]
      exact ⟨hb.2.2.1,hb.2.2.2,by omega⟩
  have hok:∀k,k≤n→Vz bs e.1 (Hj bs e.1 e.2 k)=true:=by
    intro k hk
    obtain ⟨q1,q2,q3⟩:=key k hk
    obtain ⟨b,p1,p2,_⟩:=h1.pt _ q1 q2 (by omega)
    have:=(List.getElem?_eq_some_iff.1 p2).1
    unfold Vz
    rw [h1.l]
    simp only [Bool.and_eq_true,decide_eq_true_eq]
    exact ⟨⟨⟨q1,q2⟩,p1⟩,by omega⟩
  -- two of the first n + 1 are the same
  have hrep:∃i j,i<j∧j≤n∧Hj bs e.1 e.2 i=Hj bs e.1 e.2 j:=by
    refine Classical.byContradiction fun hno=>?_
    have hn1:((List.range (n+1)).map (Hj bs e.1 e.2)).Nodup:=by
      refine List.pairwise_map.2 (List.Pairwise.imp_of_mem ?_ List.pairwise_lt_range)
      intro a b ha hb hlt heq
      exact hno ⟨a,b,hlt,by have:=List.mem_range.1 hb;omega,heq⟩
    have hs:(List.range (n+1)).map (Hj bs e.1 e.2) ⊆ (List.range n).map (fun k:Nat=>(k:Int)):=fun x hx=>by
      obtain ⟨k,hk,rfl⟩:=List.mem_map.1 hx
      obtain ⟨q1,q2,_⟩:=key k (by have:=List.mem_range.1 hk;omega)
      exact List.mem_map.2 ⟨(Hj bs e.1 e.2 k).toNat,List.mem_range.2 (by omega),by omega⟩
    have:=Ss hn1 hs
    simp at this
    omega
  obtain ⟨i,j,hij,hjn,heq⟩:=hrep
  have hper:∀k,Hj bs e.1 e.2 (i+k)=Hj bs e.1 e.2 (j+k):=by
    intro k
    induction k with
    | zero=>exact heq
    | succ k ih=>show F3 bs e.1 (Hj bs e.1 e.2 (i+k))=F3 bs e.1 (Hj bs e.1 e.2 (j+k));rw [ih]
  have hall:∀k,Vz bs e.1 (Hj bs e.1 e.2 k)=true:=by
    intro k
    induction k using Nat.strongRecOn with
    | _ k ih=>
      rcases Nat.lt_or_ge n k with h | h
      · have:=hper (k-j)
        rw [show j+(k-j)=k by omega] at this
        rw [←this]
        exact ih _ (by omega)
      · exact hok k h
  have hback:∀m k,Ll bs e.1 m (Hj bs e.1 e.2 k)=true:=by
    intro m
    induction m with
    | zero=>intro k;rfl
    | succ m ih=>intro k;rw [Ll,hall k];exact ih (k+1)
  have hcyc:∀m k,n≤k→k<n+(j-i)→n+(j-i)≤k+m→I9 bs e.1 (Hj bs e.1 e.2 n) m (Hj bs e.1 e.2 k)=true:=by
    intro m
    induction m with
    | zero=>intro k h5 h6 h7;omega
    | succ m ih=>
      intro k h5 h6 h7
      rw [I9,hall k,Bool.true_and,Bool.or_eq_true]
      rcases Nat.lt_or_ge (k+1) (n+(j-i)) with h8 | h8
      · exact .inr (ih (k+1) (by omega) h8 (by omega))
      · left
        have:=hper (n-i)
        rw [show i+(n-i)=n by omega,show j+(n-i)=k+1 by omega] at this
        rw [this]
        exact beq_self_eq_true (F3 bs e.1 (Hj bs e.1 e.2 k))
  rw [Bool.and_eq_true]
  have hbn:Ii bs e.1 n e.2=Hj bs e.1 e.2 n:=by have:=T4 (bs:=bs) (d:=e.1) (a:=e.2) n 0;rwa [Nat.zero_add] at this
  rw [hbn]
  exact ⟨hback n 0,hcyc (n+1) n (Nat.le_refl _) (by omega) (by omega)⟩
theorem eN (T:List Sc)(V:List Va)(l:List Lit):SOLV T V l:=fun h1 h2=>by
 have hz:=Vd (n:=((zN T V l:Nat):Int)) (bs:=(Bf T V l).bs) h1
 exact fK (n:=zN T V l) (by omega) hz.2.2.2 h2
section
variable {T:List Sc} {V:List Va}
def Jg (T:List Sc)(V:List Va)(n:Nat)(c:Cs):Prop:=∀x∈c.1,∀y∈x,KOK T V y.cond∧Ar y.cond≤n
theorem Me {n m:Nat}{c:Cs}(h:Jg T V n c)(hm:n≤m):Jg T V m c:=fun x hx y hy=>⟨(h x hx y hy).1,Nat.le_trans (h x hx y hy).2 hm⟩
theorem Pp {n:Nat}{a b:Cs}(ha:Jg T V n a)(hb:Jg T V n b):Jg T V n (Ek a b):=by
 unfold Ek
 split
 · intro x hx;cases hx
 ·
  unfold Lh
  split
  · intro x hx;cases hx
  ·
   intro x hx y hy
   obtain ⟨p,hp,hm⟩:=List.mem_flatMap.1 hx
   obtain ⟨q,hq,rfl⟩:=List.mem_map.1 hm
   rcases List.mem_append.1 hy with h | h
   · exact ha p hp y h
   · exact hb q hq y h
theorem eK {n:Nat}{a b:Cs}(ha:Jg T V n a)(hb:Jg T V n b):Jg T V n (Ie a b):=by
 unfold Ie
 split
 · intro x hx;cases hx
 ·
  intro x hx y hy
  rcases List.mem_append.1 hx with h | h
  · exact ha x h y hy
  · exact hb x h y hy
theorem Ww {n:Nat}{l:List Lit}(h:∀y∈l,KOK T V y.cond∧Ar y.cond≤n):Jg T V n (D9 l):=by
 intro x hx y hy
 unfold D9 at hx
 obtain ⟨z,hz,rfl⟩:=List.mem_map.1 hx
 rw [List.mem_singleton.1 hy]
 exact h z hz
theorem Uu {a b:Ex}(ha:KOK T V a)(hb:KOK T V b)(ka:An T V a=0)(kb:An T V b=0):KOK T V (two 7 a b):=by
 refine ⟨ha.ty,?_,?_⟩
 ·
  rw [Pv]
  have h1:B3 (two 7 a b)=0:=by
   have hf:Br (two 7 a b)=0:=by simp [Br,two,D2,isV0,v0]
   unfold B3
   rw [hf]
   simp [two,D8,D2]
  rw [h1]
  show Ao Ca [a,b]=0
  simp [Ao,ha.nodes,hb.nodes]
 ·
  rw [E0]
  show (if [a,b].isEmpty then _ else _:Int×Int).2=0
  have e1:(Cj T V a).2=0:=ha.kind
  have e2:(Cj T V b).2=0:=hb.kind
  have k1:(Cj T V a).1=0:=by rw [Jb ha];exact ka
  have k2:(Cj T V b).1=0:=by rw [Jb hb];exact kb
  simp [two,Ao,e1,e2,k1,k2,D0,Nu]
theorem eS (a b:Ex):Ar (two 7 a b)=1+Ar a+Ar b:=by
 rw [Dp];simp [two];omega
theorem Pf (e:Ex):KOK T V e→∀s,Jg T V (Ar e) (Cl T V e s):=by
 refine Ex.Aav (P:=fun e=>KOK T V e→∀s,Jg T V (Ar e) (Cl T V e s)) (fun e ih hk s=>?_) e
 rcases It s hk with h | ⟨h,hl⟩ | ⟨h,hl⟩ | ⟨h,hl,h1⟩ | ⟨h,hl,h1,h2⟩ | ⟨_,_,_,h,_⟩
 ·
  cases h1:((e.val.num==1)==s) with
  | true=>rw [Fq h h1];intro x hx y hy;rw [List.mem_singleton.1 hx] at hy;cases hy
  | false=>rw [Fm h h1];intro x hx;cases hx
 ·
  rw [Fp hl h]
  exact Me (ih _ (A0 hl) (A2 hk (A0 hl)) _) (Nat.le_of_lt (size0 hl))
 ·
  have m0:=A0 (show 0<e.args.length by omega)
  have m1:=Bk hl
  have hs:=Db hl
  have i0:=Me (ih _ m0 (A2 hk m0) s) (show Ar (Av e)≤Ar e by omega)
  have i1:=Me (ih _ m1 (A2 hk m1) s) (show Ar (Cc e)≤Ar e by omega)
  cases h1:((e.op==10)==s) with
  | true=>rw [Fs hl h h1];exact Pp i0 i1
  | false=>rw [Fl hl h h1];exact eK i0 i1
 ·
  have m0:=A0 (show 0<e.args.length by omega)
  have m1:=Bk hl
  have hs:=Db hl
  have i0:=fun t=>Me (ih _ m0 (A2 hk m0) t) (show Ar (Av e)≤Ar e by omega)
  have i1:=fun t=>Me (ih _ m1 (A2 hk m1) t) (show Ar (Cc e)≤Ar e by omega)
  rw [Fr hl h h1]
  exact eK (Pp (i0 _) (i1 _)) (Pp (i0 _) (i1 _))
 ·
  have m0:=A0 (show 0<e.args.length by omega)
  have m1:=Bk hl
  have hs:=Db hl
  have h9:e.op=9:=by simpa using h
  have k0:An T V (Av e)=0:=by rw [Bool.and_eq_true] at h2;simpa using h2.1
  have k1:An T V (Cc e)=0:=by rw [O6 hk h9 m1];exact k0
  rw [Fk h h1 h2]
  refine Ww fun y hy=>?_
  rcases List.mem_cons.1 hy with rfl | hy
  · exact ⟨Uu (A2 hk m0) (A2 hk m1) k0 k1,by simp only;rw [eS];omega⟩
  ·
   rw [List.mem_singleton.1 hy]
   exact ⟨Uu (A2 hk m1) (A2 hk m0) k1 k0,by simp only;rw [eS];omega⟩
 ·
  rw [h]
  exact Ww fun y hy=>by rw [List.mem_singleton.1 hy];exact ⟨hk,Nat.le_refl _⟩
end
section
variable (T:List Sc) (V:List Va)
def evC (c:List Lit):List Ev:=uI T V (Le T V c).1 c (cO T V c)
def lQ:Int→List (List Lit)→Int×List Ev
 | out,[]=>(out,[])
 | out,c::r=>if !Vx T V c&&decide ((c.length:Int)≤256) then lQ out r else if Oz T V c then (1,evC T V c) else lQ 0 r
def Hu (c:Cs):Int×List Ev:=if !c.2 then (0,[]) else lQ T V 2 c.1
def Hd (es:List Ex):Int:=if (Cn T V (Fy true)).2 != 0 then (Cn T V (Fy true)).2 else if decide (256<(es.length:Int)) then 5 else Ao (D1 T V) es
def gN (es:List Ex)(c:Cs):Cs:=es.foldl (fun c e=>Ek c (Cl T V e true)) c
def Eb (es:List Ex):Int×List Ev×Int:=if Hd T V es != 0 then (0,[],Hd T V es) else ((Hu T V (gN T V es ([[]],true))).1,(Hu T V (gN T V es ([[]],true))).2,0)
def impC (a b:Ex):Cs:=Ek (Cl T V a true) (Cl T V b false)
def ImpliesS (a b:Ex):Int×Int:=if Hd T V [a,b] != 0 then (0,Hd T V [a,b]) else if (Hu T V (impC T V a b)).1==1 then (2,0) else if (Hu T V (impC T V a b)).1==2 then (1,0) else ((Hu T V (impC T V a b)).1,0)
end
section
variable {T:List Sc} {V:List Va}
theorem sK {o:Int}{c:List Lit}{r:List (List Lit)}(h:(!Vx T V c&&decide ((c.length:Int)≤256))=true):lQ T V o (c::r)=lQ T V o r:=by rw [lQ,if_pos h]
theorem xX {o:Int}{c:List Lit}{r:List (List Lit)}(h:(!Vx T V c&&decide ((c.length:Int)≤256))=false)(h2:Oz T V c=true):lQ T V o (c::r)=(1,evC T V c):=by rw [lQ,C8 h,if_pos h2]
theorem vGo_on {o:Int}{c:List Lit}{r:List (List Lit)}(h:(!Vx T V c&&decide ((c.length:Int)≤256))=false)(h2:Oz T V c=false):lQ T V o (c::r)=lQ T V 0 r:=by rw [lQ,C8 h,C8 h2]
theorem Z9 {c:List Lit}(h:Oz T V c=true):Ic (Bf T V c)=true∧decide ((c.length:Int)≤256)=true:=by
 unfold Oz at h
 rw [Bool.and_eq_true,Bool.and_eq_true] at h
 exact h.2
theorem qT {c:List Lit}(hl:Sq T V c)(h:(!Vx T V c&&decide ((c.length:Int)≤256))=false)(h2:Oz T V c=true):(B1 T V c).ts.length+1≤(cO T V c).length:=by
  obtain ⟨h3,h4⟩:=Z9 h2
  rw [h4,Bool.and_true] at h
  have hf:(!Ic (Bf T V c))=false:=by rw [h3];rfl
  have hk:Vx T V c=true:=by simpa using h
  rw [qR hf,Bool.and_eq_true] at hk
  rw [sL hf]
  have hok:=hk.2
  rw [N2] at hok ⊢
  cases hz:Gt (zn (zN T V c) (Bf T V c).bs) != 0 with
  | true=>rw [Vc hz] at hok;cases hok
  | false=>
    cases he:decide ((Di (zn (zN T V c) (Bf T V c).bs)).2<0) with
    | false=>rw [Nf hz he] at hok;cases hok
    | true=>
      rw [Nj hz he]
      have:=(bL (fA hz (Mh hl))).s
      rw [List.length_map,this]
      exact Nat.le_refl _
theorem bT {es:List Ex}(h:((Cn T V (Fy true)).2 != 0)=true):Hd T V es=(Cn T V (Fy true)).2:=by rw [Hd,if_pos h]
theorem mT {es:List Ex}(h:((Cn T V (Fy true)).2 != 0)=false)(h2:decide ((256:Int)<(es.length:Int))=true):Hd T V es=5:=by rw [Hd,C8 h,if_pos h2]
theorem cP {es:List Ex}(h:((Cn T V (Fy true)).2 != 0)=false)(h2:decide ((256:Int)<(es.length:Int))=false):Hd T V es=Ao (D1 T V) es:=by rw [Hd,C8 h,C8 h2]
theorem jR {es:List Ex}(h:(Hd T V es != 0)=false):es.length≤256∧∀e∈es,KC T V e∧An T V e=1:=by
  have h0:Hd T V es=0:=by simpa using h
  cases h1:((Cn T V (Fy true)).2 != 0) with
  | true=>rw [bT h1] at h0;rw [h0] at h1;cases h1
  | false=>
    cases h2:decide ((256:Int)<(es.length:Int)) with
    | true=>rw [mT h1 h2] at h0;cases h0
    | false=>
      rw [cP h1 h2] at h0
      have h2':=of_decide_eq_false h2
      exact ⟨by omega,fun e he=>O3 (by rw [Qq h0 e he];rfl)⟩
theorem tK {es:List Ex}(h:(Hd T V es != 0)=false):Ki T V:=by
 have h0:Hd T V es=0:=by simpa using h
 cases h1:((Cn T V (Fy true)).2 != 0) with
 | true=>rw [bT h1] at h0;rw [h0] at h1;cases h1
 | false=>exact (fU (by simpa using h1)).kok.ty
theorem Poss_1 {es:List Ex}(h:(Hd T V es != 0)=true):Eb T V es=(0,[],Hd T V es):=by rw [Eb,if_pos h]
theorem Poss_2 {es:List Ex}{c:Cs}(h:(Hd T V es != 0)=false)(h2:gN T V es ([[]],true)=c):Eb T V es=((Hu T V c).1,(Hu T V c).2,0):=by rw [Eb,C8 h,h2]
theorem verd_1 {c:Cs}(h:(!c.2)=true):Hu T V c=(0,[]):=if_pos h
theorem tT {c:Cs}(h:(!c.2)=false):Hu T V c=lQ T V 2 c.1:=C8 h
def vOK (T:List Sc)(V:List Va)(c:Cs):Prop:=c.1.length≤256∧∀x∈c.1,Sq T V x∧x.length≤4096
theorem vOK_of {n:Nat}{c:Cs}(h:csOK n c)(hl:Jg T V 64 c)(hn:n≤4096):vOK T V c:=⟨h.len,fun x hx=>⟨fun y hy=>hl x hx y hy,Nat.le_trans (h.lits x hx) hn⟩⟩
theorem vX:csOK 0 ([[]],true):=⟨by simp,fun x hx=>by rw [List.mem_singleton.1 hx];exact Nat.le_refl _⟩
theorem oE {n:Nat}:Jg T V n ([[]],true):=fun x hx y hy=>by rw [List.mem_singleton.1 hx] at hy;cases hy
end
set_option maxRecDepth 100000
def exT:List Sc:=[⟨[116,114,97,100,101],[⟨[115,121,109,98,111,108],2⟩,⟨[112,114,105,99,101],0⟩]⟩]
def exV:List Va:=[⟨[97],0⟩,⟨[98],0⟩]
def numE (n:Int):Ex:=Ny ⟨0,n,[]⟩
def Vw (v:Int):Ex:=⟨1,[],v,1,0,v0⟩
def symE (v:Int):Ex:=⟨1,[],v,0,0,v0⟩
def textE:Ex:=⟨0,[],0,0,0,⟨2,0,[120]⟩⟩
def vQ:Ex:=two 7 (Vw 0) (numE 3)
def upE:Ex:=two 7 (Vw 0) (Vw 1)
def downE (n:Int):Ex:=two 7 (Vw 1) (two 5 (Vw 0) (numE n))
def countE:Ex:=two 9 ⟨3,[],0,0,0,v0⟩ (numE 2)
def clE:Ex:=notE (two 11 vQ (two 9 (Vw 0) (Vw 1)))
def clL:List (List Lit):=[[⟨vQ,true⟩,⟨two 7 (Vw 0) (Vw 1),false⟩],[⟨vQ,true⟩,⟨two 7 (Vw 1) (Vw 0),false⟩]]
def znE:Zn:=⟨3,[⟨1,0,1099511627776⟩,⟨0,1,1099511627776⟩,⟨2,0,1099511627776⟩,⟨0,2,1099511627776⟩,⟨0,1,-3⟩,⟨1,2,-1⟩]⟩
def verS (want:Int)(es:List Ex):Bool:=(Eb exT exV es).2.2==0&&(Eb exT exV es).1==want
def Aak (s:Sc):Bool:=decide (20<(s.fields.length:Int))||decide (100<(s.name.length:Int))
def dB (T:List Sc):Bool:=if T.any Aak then false else decide ((T.length:Int)≤20)
def xY (e:Ex):Bool:=decide (Ar e≤200∧Ct e≤100)
def fewP (T:List Sc)(V:List Va)(es:List Ex):Bool:=
 if es.any (fun e=>!xY e) then false else (dB T&&decide ((V.length:Int)≤20))&&decide ((es.length:Int)≤10)
theorem U6 {α:Type}{f:α→Bool}{l:List α}{k:Nat}{a:α}(h:l[k]? = some a)(hf:f a=true):l.any f=true:=List.any_eq_true.2 ⟨a,List.mem_of_getElem? h,hf⟩
theorem Ou {α:Type}{f:α→Bool}{l:List α}{k:Nat}{a:α}(hk:(l.take k).any f=false)(h:l[k]? = some a)(hf:f a=false):(l.take (k+1)).any f=false:=by
 rw [C4 h,List.any_append,hk,List.any_cons,hf];rfl
def sameAll (a b:List Ex):Bool:=decide (a.length=b.length)&&(a.zip b).all fun p=>Lx p.1 p.2
def yZ:List Bd→List Bd→Bool
 | [],[]=>true
 | a::r,b::q=>(a.x==b.x&&a.y==b.y&&a.most==b.most)&&yZ r q
 | _,_=>false
end Go.Proofs.YtjedflcpjlgokaaGreatDoor
