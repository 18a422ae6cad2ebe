/-
  Several texts in one: S28, S29, S31, S30, S32. No condition.
-/
import Derived.Test.YtkddpedfbicbeaaGreatDoorK20
set_option linter.unusedVariables false
set_option linter.unusedSimpArgs false
namespace Go.Proofs.YtkddpedfbicbeaaGreatDoor
open Go Go.Aw
set_option maxRecDepth 20000
section
variable {P:Program} {d:Option Nat} {ty:TypeId} {pos:String} {aft:Array Edge} {gd:Option (Nat×Bool)} {ρ:Operand→AV}
theorem nN {t:TypeId}{m k:Operand}{kt et b i:Nat}{td tk te:TD}{n:List UInt8}{U:Um}(hT:Hs P TL)(ht:Br TL t=some td)(hk:td.kind = .map kt et)(htk:Br TL kt=some tk)(hkk:tk.kind = .str)
  (hte:Br TL et=some te) (hz:te.zero = [.bool false]) (hzs:Qu P et=true) (hm:ρ m = .val (.map (some b))) (hkey:ρ k = .str n) :
  Dj P ⟨d,.lookup t m k false,ty,pos,aft,gd⟩ ρ (fun H=>H[i]? = some (.smap b (sE U))) (.bool (Fe U n)):=
 oA hT ht hk htk hkk hte hzs hm hkey (by rw [hz];exact yI n U)
theorem zD {t:TypeId}{m k v:Operand}{kt et b i:Nat}{td tk:TD}{n:List UInt8}{U:Um}{x:Bool}{H H2:List HO}(hT:Hs P TL)(ht:Br TL t=some td)(hk:td.kind = .map kt et)(htk:Br TL kt=some tk)(hkk:tk.kind = .str)
  (hm:ρ m = .val (.map (some b))) (hkey:ρ k = .str n) (hv:ρ v = .bool x) (hH:H[i]? = some (.smap b (sE U))) (hH2:H.set i (.smap b (sE (T2 U n x)))=H2) :
  La P ⟨d,.mapUpdate t m k v,ty,pos,aft,gd⟩ ρ H (fun y H'=>y = .junk∧H'=H2):=
 tD hT ht hk htk hkk hm hkey hv hH (by rw [sput_u];exact hH2)
theorem E_nmAdd {t:TypeId}{m k v:Operand}{kt et b i:Nat}{td tk:TD}{r:Wd}{N:Nm}{s:Fr}{H H2:List HO}(hT:Hs P TL)(ht:Br TL t=some td)(hk:td.kind = .map kt et)(htk:Br TL kt=some tk)(hkk:tk.kind = .struct [(0,1,true,4),(1,1,true,9),(2,3,true,143)])
  (hm:ρ m = .val (.map (some b))) (hkey:ρ k = .agg (Lb r)) (hv:ρ v = .str s) (hH:H[i]? = some (.kmap b (nE N))) (hnew:Ig N r=none) (hH2:H.set i (.kmap b (nE (N ++ [(r,s)])))=H2) :
  La P ⟨d,.mapUpdate t m k v,ty,pos,aft,gd⟩ ρ H (fun y H'=>y = .junk∧H'=H2):=
 Tu (eq:=Jq r) hT ht hk htk hkk hm hkey hv (Ng r r) (Zf r N) hH (new_n hnew) (by rw [dO];exact hH2)
theorem E_nmSet {t:TypeId}{m k v:Operand}{kt et b i:Nat}{td tk:TD}{r:Wd}{N:Nm}{s s':Fr}{H H2:List HO}(hT:Hs P TL)(ht:Br TL t=some td)(hk:td.kind = .map kt et)(htk:Br TL kt=some tk)(hkk:tk.kind = .struct [(0,1,true,4),(1,1,true,9),(2,3,true,143)])
  (hm:ρ m = .val (.map (some b))) (hkey:ρ k = .agg (Lb r)) (hv:ρ v = .str s') (hH:H[i]? = some (.kmap b (nE (N ++ [(r,s)])))) (hnew:Ig N r=none) (hH2:H.set i (.kmap b (nE (N ++ [(r,s')])))=H2) :
  La P ⟨d,.mapUpdate t m k v,ty,pos,aft,gd⟩ ρ H (fun y H'=>y = .junk∧H'=H2):=
 tK (eq:=Jq r) hT ht hk htk hkk hm hkey hv (Ng r r) (Zf r _) hH (kidx_n hnew) rfl (nE_self r _) (by rw [kput_n];exact hH2)
end
theorem dG {r:Wd}{N:Nm}{s:Fr}(h:Ig N r=some s):match Hj (Jq r) (nE N) with | some y=>y = .str s | none=>[AV.str []] = [.str s]:=by rw [Xq,h];rfl
theorem vL {P:Program}{f:FuncId}{args:List AV}{r0:AV}{bo:Nat}{v:Value}{l l':Es}{pre R:List HO}(h:Dv P f (Y4 bo v l (pre++R)) args fun r H'=>r=r0∧H'=Y4 bo v l' (pre++R)) :
  Dv P f (pre++Y4 bo v l R) args fun r H'=>r=r0∧H'=pre++Y4 bo v l' R:=
 (h.perm kI).post fun r K ⟨h1,h2⟩=>⟨_,h2▸kI.symm,h1,rfl⟩
/-! ### what is named -/
def Xr (p:Um×List Wd)(a:Ex):Um×List Wd:=(T2 p.1 (B9 a).text (Fe p.1 (B9 a).text||(B9 a).const),p.2 ++ [B9 a])
section
variable (T:List Sc) (V:List Va)
def Tr (p:Um×List Wd)(c:Lit):Um×List Wd:=if !Cp T V c.cond || !B5 T V c.cond then p else c.cond.args.foldl Xr p
def Hf (l:List Lit):Um×List Wd:=l.foldl (Tr T V) ([],[])
end
abbrev Ns:=Um×Nm×List Ev
def Zw (U:Um)(N:Nm)(r:Wd):Um×Nm:=if (Ig N r).isSome then (U,N) else (T2 U (Jw U r) true,N ++ [(r,Jw U r)])
def nmT (U:Um)(N:Nm)(r:Wd):Fr:=(Ig N r).getD (Jw U r)
def H8 (w:Wm)(s:Ns)(x:Wd):Ns:=
 ((Zw s.1 s.2.1 (Cc w x)).1,(Zw s.1 s.2.1 (Cc w x)).2,if x.const then s.2.2 else Uk s.2.2 x.field (nmT s.1 s.2.1 (Cc w x)))
def bY (T:List Sc)(V:List Va)(w:Wm)(l:List Lit)(evs:List Ev):List Ev:=((Hf T V l).2.foldl (H8 w) ((Hf T V l).1,[],evs)).2.2
theorem dD (U:Um)(N:Nm)(r:Wd):Ig (Zw U N r).2 r=some (nmT U N r):=by
 unfold Zw nmT
 cases h:Ig N r with
 | some s=>exact h
 | none=>exact Tt h
theorem cM {U:Um}{N:Nm}{r:Wd}(h:Ig N r=none):Zw U N r=(T2 U (Jw U r) true,N ++ [(r,Jw U r)]):=by unfold Zw;rw [h];rfl
theorem cR {U:Um}{N:Nm}{r:Wd}(h:(!(Ig N r).isSome)=false):Zw U N r=(U,N):=if_pos (by simpa using h)
theorem Xb (U:Um)(n:Fr)(b:Bool):(T2 U n b).length≤U.length+1:=by
 unfold T2;cases jC U n <;> simp
theorem dT (U:Um)(N:Nm)(r:Wd):(Zw U N r).1.length≤U.length+1:=by
 unfold Zw;split
 · simp
 · exact Xb ..
section
variable {T:List Sc} {V:List Va}
theorem S1 {p:Um×List Wd}{c:Lit}(h:(!Cp T V c.cond || !B5 T V c.cond)=true):Tr T V p c=p:=if_pos h
theorem Mf {p:Um×List Wd}{c:Lit}(h:(!Cp T V c.cond || !B5 T V c.cond)=false):Tr T V p c=c.cond.args.foldl Xr p:=Ci h
def wdOK (T:List Sc)(V:List Va)(x:Wd):Prop:=x.const=false→tmOK T V x.field∧x.field.op=1
theorem Sn {c:Lit}(hk:KOK T V c.cond)(h:(!Cp T V c.cond || !B5 T V c.cond)=false):c.cond.args.length=2∧∀a∈c.cond.args,(a.op==0||a.op==1)=true:=by
 rw [Bool.or_eq_false_iff,Bool.not_eq_false',Bool.not_eq_false'] at h
 have hc:=Mg h.1
 have hn:=(Bb hk.nodes).1
 have ho:c.cond.op=9:=by
  have:=h.1
  unfold Cp at this
  rw [Bool.and_eq_true] at this
  simpa using this.1
 have hl:c.cond.args.length=2:=by
  unfold Bw at hn
  split at hn
  · cases hn
  split at hn
  · cases hn
  rename_i h2
  have h2':(c.cond.args.length:Int)=D4 c.cond.op:=by simpa using h2
  rw [ho] at h2'
  have:D4 9=2:=by decide
  omega
 have hs:=h.2
 unfold B5 at hs
 rw [if_neg (by rw [ho];decide),if_neg (by rw [hc];decide),if_pos h.1,Bool.and_eq_true] at hs
 refine ⟨hl,fun a ha=>?_⟩
 obtain ⟨a0,a1,he⟩:∃a0 a1,c.cond.args = [a0,a1]:=by
  match hq:c.cond.args,hl with
  | [x,y],_=>exact ⟨x,y,rfl⟩
 have e0:Ao c.cond=a0:=by unfold Ao;rw [he];rfl
 have e1:Bg c.cond=a1:=by unfold Bg;rw [he];rfl
 rw [e0,e1] at hs
 rw [he] at ha
 rcases List.mem_cons.1 ha with rfl | ha
 · exact hs.1
 · rw [List.mem_singleton.1 ha];exact hs.2
theorem pE {a:Ex}(hk:KOK T V a)(h:(a.op==0||a.op==1)=true):wdOK T V (B9 a):=by
 intro hc
 unfold B9 at hc ⊢
 split at hc
 · cases hc
 rename_i h0
 rw [if_neg h0]
 have h1:a.op=1:=by simp at h h0;omega
 have hl:=K1 (Bb hk.nodes).1 (by rw [h1];rfl)
 exact ⟨tm_ok (by rw [hl];exact hk) (.inl h1),h1⟩
end
theorem iO {l:Es}{t:Tm}{s:Fr}:(l.modify t.v.toNat fun p=>(V3 p.1 t.field.toNat (fun y=>{ y with text:=s }),p.2)).map Prod.fst=Uk (l.map Prod.fst) t s:=
 Re (f:=fun e=>V3 e t.field.toNat fun y=>{ y with text:=s })
theorem Sl {w:Wm}{s:Ns}{x:Wd}(h:x.const=true):H8 w s x=((Zw s.1 s.2.1 (Cc w x)).1,(Zw s.1 s.2.1 (Cc w x)).2,s.2.2):=by unfold H8;rw [if_pos h]
theorem R3 {w:Wm}{s:Ns}{x:Wd}(h:x.const=false):H8 w s x=((Zw s.1 s.2.1 (Cc w x)).1,(Zw s.1 s.2.1 (Cc w x)).2,Uk s.2.2 x.field (nmT s.1 s.2.1 (Cc w x))):=by unfold H8;rw [if_neg (by rw [h];decide)]
theorem nm_f {w:Wm}{U:Um}{N:Nm}{l:Es}{x:Wd}{t:Um×Nm}(hT:t=Zw U N (Cc w x))(h:x.const=false) :
  H8 w (U,N,l.map Prod.fst) x=(t.1,t.2,(l.modify x.field.v.toNat fun p=>(V3 p.1 x.field.field.toNat (fun y=>{ y with text:=nmT U N (Cc w x) }),p.2)).map Prod.fst):=by
 subst hT;rw [R3 h,iO]
theorem nm_c {w:Wm}{U:Um}{N:Nm}{l:Es}{x:Wd}{t:Um×Nm}(hT:t=Zw U N (Cc w x))(h:x.const=true):H8 w (U,N,l.map Prod.fst) x=(t.1,t.2,l.map Prod.fst):=by
 subst hT;rw [Sl h]
theorem Zo {α β:Type}{f:β→α→β}{l:List α}{k:Nat}{a:α}{b:β}(h:l[k]? = some a):(l.drop k).foldl f b=(l.drop (k+1)).foldl f (f b a):=by rw [A8 h];rfl
theorem cWd_sc (l:List Wd):∀c∈l.map Lb,Bf c=true:=Fm fun _=>rfl
end Go.Proofs.YtkddpedfbicbeaaGreatDoor

namespace Go.Aw
open Go
theorem lit1 {z:Nat}{ρ:Operand→AV}{y:Operand}{cs:List AV}(h:ρ y = .agg cs)(hl:Nat.beq cs.length z=true)(hs:Bf cs=true):Oq z ρ 0 [(0,y)]=true:=by
 unfold Oq Oq
 rw [h]
 show (true&&Nat.beq cs.length z&&Bf cs&&true)=true
 rw [hl,hs];rfl
end Go.Aw
namespace Go.Proofs.YtkddpedfbicbeaaGreatDoor
open Go Go.Aw
def zV (f:Fi):Vl:=⟨f.kind,0,[]⟩
def uE (T:List Sc)(V:List Va)(w:Wm)(l:List Lit)(vals:List Int):List Ev:=bY T V w l (G2 vals 0 (Cg T V l).ts (Ht T 0 V))
theorem gE {T:List Sc}{i:Nat}{v:Va}{s:Sc}(h:T[v.type.toNat]? = some s):(Y1 T i v).values=s.fields.map zV:=by
 unfold Y1;rw [h];rfl
theorem pF {vals:List Int}{k:Nat}(h:k+1<vals.length):(vals.map cI)[((k:Int)+1).toNat]? = some [.int .i64 (E0 vals ((k:Int)+1))]:=by
 have:=kC (l:=vals) (k:=(k:Int)+1) (by omega) (by omega)
 rw [List.getElem?_map,this];rfl
theorem Zq {l:Es}{t:Tm}{x:Int}(h:(t.op==2)=true):(l.modify t.v.toNat fun p=>({ p.1 with time:=x },p.2)).map Prod.fst=Qi (l.map Prod.fst) t x:=by
 unfold Qi;rw [if_pos h];exact Re (f:=fun e=>{ e with time:=x })
theorem fW {l:Es}{t:Tm}{x:Int}(h:(t.op==2)=false):(l.modify t.v.toNat fun p=>(V3 p.1 t.field.toNat (fun y=>{ y with num:=x }),p.2)).map Prod.fst=Qi (l.map Prod.fst) t x:=by
 unfold Qi;rw [if_neg (by rw [h];decide)];exact Re (f:=fun e=>V3 e t.field.toNat fun y=>{ y with num:=x })
theorem Xp {vals:List Int}{ts:List Tm}{k:Nat}{t:Tm}{evs:List Ev}(h:ts[k]? = some t):G2 vals k (ts.drop k) evs=G2 vals (k+1) (ts.drop (k+1)) (Qi evs t (E0 vals ((k:Int)+1))):=by
 rw [A8 h,G2]
theorem oY {T:List Sc}{V:List Va}(h:Jt T V){v:Va}(hv:v∈V):∃s,T[v.type.toNat]? = some s:=by
 have:=h v hv
 have hlt:v.type.toNat<T.length:=by omega
 exact ⟨_,List.getElem?_eq_getElem hlt⟩
theorem Sz {l:List Int}{k x v:Int}(h0:0≤k)(hk:k<(l.length:Int))(hx:0≤x):E0 (l.set k.toNat v) x=if x=k then v else E0 l x:=by
 unfold E0
 rw [List.getElem?_set]
 by_cases h:x=k
 ·
  subst h
  rw [if_pos rfl,if_pos (by omega),if_pos rfl];rfl
 · rw [if_neg (by omega),if_neg h]
/-- before bound i of round r: tm tells in which round an unknown was improved last -/
structure RInv (n:Nat) (bs:List Bd) (r i:Nat) (d:Ds) (tm:Int→Nat):Prop where
 s:d.sums.length=n
 l:d.last.length=n
 le:∀x,tm x≤r
 old:∀(j:Nat) (b:Bd),bs[j]? = some b→i≤j→1<r→tm b.y<r-1→E0 d.sums b.x≤E0 d.sums b.y+b.most
 new:∀(j:Nat) (b:Bd),bs[j]? = some b→j<i→tm b.y<r→E0 d.sums b.x≤E0 d.sums b.y+b.most
 pt:∀x:Int,0≤x→x<(n:Int)→1≤tm x→∃b,0≤E0 d.last x∧bs[(E0 d.last x).toNat]? = some b∧tm x≤tm b.y+1
abbrev inR (n:Nat)(b:Bd):Prop:=0≤b.x∧b.x<(n:Int)∧0≤b.y∧b.y<(n:Int)
theorem sZ {n r i:Nat}{bs:List Bd}{d:Ds}{a:Int}{tm:Int→Nat}{b:Bd}(hr:1≤r)(h:RInv n bs r i d tm)(hb:bs[i]? = some b)(hbs:∀b∈bs,inR n b)(ha:a = -1∨(tm a=r∧0≤a∧a<(n:Int))) :
    ∃tm',RInv n bs r (i+1) (N5 i b (d,a)).1 tm'∧((N5 i b (d,a)).2 = -1∨(tm' (N5 i b (d,a)).2=r∧0≤(N5 i b (d,a)).2∧(N5 i b (d,a)).2<(n:Int))):=by
  have hbr:=hbs b (List.mem_of_getElem? hb)
  have hs:=h.s
  have hl:=h.l
  cases hq:decide (E0 d.sums b.y+b.most<E0 d.sums b.x) with
  | false=>
    rw [X9 (s:=(d,a)) hq]
    have hq':¬(E0 d.sums b.y+b.most<E0 d.sums b.x):=of_decide_eq_false hq
    refine ⟨tm,⟨h.s,h.l,h.le,fun j c hj hle h1 h2=>h.old j c hj (by omega) h1 h2,fun j c hj hlt h1=>?_,h.pt⟩,ha⟩
    rcases Nat.lt_or_ge j i with h3 | h3
    · exact h.new j c hj h3 h1
    · have:j=i:=by omega
      subst this
      rw [hb] at hj;cases hj
      show E0 d.sums b.x≤E0 d.sums b.y+b.most
      omega
  | true=>
    rw [Pl (s:=(d,a)) hq]
    have hq':E0 d.sums b.y+b.most<E0 d.sums b.x:=of_decide_eq_true hq
    have hty:r≤tm b.y+1:=by
      refine Nat.le_of_not_lt fun hlt=>?_
      rcases Nat.lt_or_ge 1 r with h1 | h1
      · have:=h.old i b hb (Nat.le_refl _) h1 (by omega);omega
      · omega
    refine ⟨fun x=>if x=b.x then r else tm x,⟨by simp only [List.length_set];exact hs,by simp only [List.length_set];exact hl,fun x=>?_,fun j c hj hle h1 h2=>?_,fun j c hj hlt h1=>?_,fun x hx0 hxn ht=>?_⟩,.inr ⟨if_pos rfl,hbr.1,hbr.2.1⟩⟩
    · show (if x=b.x then r else tm x)≤r
      split
      · exact Nat.le_refl _
      · exact h.le x
    · have hcr:=hbs c (List.mem_of_getElem? hj)
      simp only at h2 ⊢
      split at h2
      · omega
      · rename_i hne
        rw [Sz hbr.1 (by rw [hs];exact hbr.2.1) hcr.1,Sz hbr.1 (by rw [hs];exact hbr.2.1) hcr.2.2.1,if_neg hne]
        have h3:=h.old j c hj (by omega) h1 h2
        split
        · rename_i hcx;rw [hcx] at h3;omega
        · exact h3
    · have hcr:=hbs c (List.mem_of_getElem? hj)
      simp only at h1 ⊢
      split at h1
      · omega
      · rename_i hne
        rw [Sz hbr.1 (by rw [hs];exact hbr.2.1) hcr.1,Sz hbr.1 (by rw [hs];exact hbr.2.1) hcr.2.2.1,if_neg hne]
        rcases Nat.lt_or_ge j i with h3 | h3
        · have h4:=h.new j c hj h3 h1
          split
          · rename_i hcx;rw [hcx] at h4;omega
          · exact h4
        · have:j=i:=by omega
          subst this
          rw [hb] at hj;cases hj
          rw [if_pos rfl];omega
    · simp only at ht ⊢
      rw [Sz hbr.1 (by rw [hl];exact hbr.2.1) hx0]
      by_cases hxb:x=b.x
      · rw [if_pos hxb,if_pos hxb]
        refine ⟨b,by omega,by simpa using hb,?_⟩
        split
        · omega
        · exact hty
      · rw [if_neg hxb] at ht ⊢
        rw [if_neg hxb]
        obtain ⟨c,h1,h2,h3⟩:=h.pt x hx0 hxn ht
        refine ⟨c,h1,h2,?_⟩
        split
        · have:=h.le x;omega
        · exact h3
theorem nK {n r:Nat}{bs:List Bd}(hr:1≤r)(hbs:∀b∈bs,inR n b):∀(m i:Nat) {d:Ds} {a:Int} {tm:Int→Nat},i+m=bs.length→RInv n bs r i d tm→(a = -1∨(tm a=r∧0≤a∧a<(n:Int)))→
    ∃tm',RInv n bs r bs.length (F8 i (bs.drop i) (d,a)).1 tm'∧((F8 i (bs.drop i) (d,a)).2 = -1∨(tm' (F8 i (bs.drop i) (d,a)).2=r∧0≤(F8 i (bs.drop i) (d,a)).2∧(F8 i (bs.drop i) (d,a)).2<(n:Int)))
  | 0,i,d,a,tm,hm,h,ha=>by
    have hi:i=bs.length:=by omega
    rw [aS (List.drop_eq_nil_of_le (by omega))]
    exact ⟨tm,hi▸h,ha⟩
  | m+1,i,d,a,tm,hm,h,ha=>by
    have hlt:i<bs.length:=by omega
    have hb:=List.getElem?_eq_getElem hlt
    rw [Rs hb]
    obtain ⟨tm',h1,h2⟩:=sZ hr h hb hbs ha
    exact nK hr hbs m (i+1) (d:=(N5 i bs[i] (d,a)).1) (a:=(N5 i bs[i] (d,a)).2) (by omega) h1 h2
theorem mA {n r:Nat}{bs:List Bd}{d:Ds}{tm:Int→Nat}(h:RInv n bs r bs.length d tm):RInv n bs (r+1) 0 d tm:=
 ⟨h.s,h.l,fun x=>Nat.le_succ_of_le (h.le x),fun j b hj _ _ h2=>h.new j b hj (List.getElem?_eq_some_iff.1 hj).1 (by omega),fun j b _ hlt=>absurd hlt (by omega),h.pt⟩
theorem Vh {n:Nat}{bs:List Bd}(hbs:∀b∈bs,inR n b):∀(m r:Nat) {d:Ds} {a:Int} {tm:Int→Nat},1≤r→RInv n bs r 0 d tm→(1≤m∨(tm a=r-1∧0≤a∧a<(n:Int)))→¬(D7 bs m (d,a)).2<0→
    ∃tm',RInv n bs (r+m) 0 (D7 bs m (d,a)).1 tm'∧tm' (D7 bs m (d,a)).2=r+m-1∧0≤(D7 bs m (d,a)).2∧(D7 bs m (d,a)).2<(n:Int)
  | 0,r,d,a,tm,hr,h,ha,_=>by
    rcases ha with ha | ha
    · omega
    · exact ⟨tm,h,by show tm a=r+0-1;rw [ha.1];rfl,ha.2⟩
  | m+1,r,d,a,tm,hr,h,_,hne=>by
    obtain ⟨tm',h1,h2⟩:=nK hr hbs bs.length 0 (a:=-1) (by omega) h (.inl rfl)
    rw [List.drop_zero] at h1 h2
    cases hq:decide ((Jr bs d).2<0) with
    | true=>rw [Kj (s:=(d,a)) hq] at hne;exact absurd (of_decide_eq_true hq) hne
    | false=>
      rw [Mn (s:=(d,a)) hq] at hne ⊢
      have hq':=of_decide_eq_false hq
      have h3:=h2.resolve_left (fun e=>hq' (by show (F8 0 bs (d,-1)).2<0;rw [e];decide))
      have:=Vh hbs m (r+1) (d:=(Jr bs d).1) (a:=(Jr bs d).2) (by omega) (mA h1) (.inr ⟨by show tm' (F8 0 bs (d,-1)).2=_;rw [h3.1];omega,h3.2⟩) hne
      rw [show r+1+m=r+(m+1) by omega] at this
      exact this
def Hw (bs:List Bd)(d:Ds)(a:Int):Nat→Int
 | 0=>a
 | k+1=>Jd bs d (Hw bs d a k)
theorem Vg {bs:List Bd}{d:Ds}{a:Int}:∀(k j:Nat),Kt bs d k (Hw bs d a j)=Hw bs d a (j+k)
  | 0,j=>rfl
  | k+1,j=>by
    rw [Ws]
    have:=Vg (bs:=bs) (d:=d) (a:=a) k (j+1)
    rw [show j+(k+1)=j+1+k by omega,←this];rfl
theorem tV {n:Nat}{bs:List Bd}(hn:1≤n)(hbs:∀b∈bs,inR n b)(hge:decide ((Ek (zn n bs)).2<0)=false):Nv n bs=true:=by
  have hst:RInv n bs 1 0 ⟨List.replicate n 0,N2 n⟩ (fun _=>0):=⟨by simp,by simp [N2],fun _=>by omega,fun j b _ _ h=>absurd h (by omega),fun j b _ h=>absurd h (by omega),fun x _ _ h=>absurd h (by simp)⟩
  have hge':=of_decide_eq_false hge
  rw [M0] at hge'
  obtain ⟨tm,h1,h2,h3,h4⟩:=Vh hbs (n+1) 1 (a:=-1) (Nat.le_refl _) hst (.inl (by omega)) hge'
  rw [←M0] at h1 h2 h3 h4
  unfold Nv
  generalize Ek (zn n bs)=e at h1 h2 h3 h4
  have key:∀k,k≤n→0≤Hw bs e.1 e.2 k∧Hw bs e.1 e.2 k<(n:Int)∧n+1≤tm (Hw bs e.1 e.2 k)+k:=by
    intro k
    induction k with
    | zero=>intro _;exact ⟨h3,h4,by show n+1≤tm e.2+0;omega⟩
    | succ k ih=>
      intro hk
      obtain ⟨q1,q2,q3⟩:=ih (by omega)
      obtain ⟨b,p1,p2,p3⟩:=h1.pt _ q1 q2 (by omega)
      have hb:=hbs b (List.mem_of_getElem? p2)
      have he:Hw bs e.1 e.2 (k+1)=b.y:=by
        show Jd bs e.1 (Hw bs e.1 e.2 k)=b.y
        unfold Jd;rw [p2];rfl
      rw [he]
      exact ⟨hb.2.2.1,hb.2.2.2,by omega⟩
  have hok:∀k,k≤n→Xd bs e.1 (Hw bs e.1 e.2 k)=true:=by
    intro k hk
    obtain ⟨q1,q2,q3⟩:=key k hk
    obtain ⟨b,p1,p2,_⟩:=h1.pt _ q1 q2 (by omega)
    have:=(List.getElem?_eq_some_iff.1 p2).1
    unfold Xd
    rw [h1.l]
    simp only [Bool.and_eq_true,decide_eq_true_eq]
    exact ⟨⟨⟨q1,q2⟩,p1⟩,by omega⟩
  -- two of the first n + 1 are the same
  have hrep:∃i j,i<j∧j≤n∧Hw bs e.1 e.2 i=Hw bs e.1 e.2 j:=by
    refine Classical.byContradiction fun hno=>?_
    have hn1:((List.range (n+1)).map (Hw bs e.1 e.2)).Nodup:=by
      refine List.pairwise_map.2 (List.Pairwise.imp_of_mem ?_ List.pairwise_lt_range)
      intro a b ha hb hlt heq
      exact hno ⟨a,b,hlt,by have:=List.mem_range.1 hb;omega,heq⟩
    have hs:(List.range (n+1)).map (Hw bs e.1 e.2) ⊆ (List.range n).map (fun k:Nat=>(k:Int)):=fun x hx=>by
      obtain ⟨k,hk,rfl⟩:=List.mem_map.1 hx
      obtain ⟨q1,q2,_⟩:=key k (by have:=List.mem_range.1 hk;omega)
      exact List.mem_map.2 ⟨(Hw bs e.1 e.2 k).toNat,List.mem_range.2 (by omega),by omega⟩
    have:=T9 hn1 hs
    simp at this
    omega
  obtain ⟨i,j,hij,hjn,heq⟩:=hrep
  have hper:∀k,Hw bs e.1 e.2 (i+k)=Hw bs e.1 e.2 (j+k):=by
    intro k
    induction k with
    | zero=>exact heq
    | succ k ih=>show Jd bs e.1 (Hw bs e.1 e.2 (i+k))=Jd bs e.1 (Hw bs e.1 e.2 (j+k));rw [ih]
  have hall:∀k,Xd bs e.1 (Hw bs e.1 e.2 k)=true:=by
    intro k
    induction k using Nat.strongRecOn with
    | _ k ih=>
      rcases Nat.lt_or_ge n k with h | h
      · have:=hper (k-j)
        rw [show j+(k-j)=k by omega] at this
        rw [←this]
        exact ih _ (by omega)
      · exact hok k h
  have hback:∀m k,Ln bs e.1 m (Hw bs e.1 e.2 k)=true:=by
    intro m
    induction m with
    | zero=>intro k;rfl
    | succ m ih=>intro k;rw [Ln,hall k];exact ih (k+1)
  have hcyc:∀m k,n≤k→k<n+(j-i)→n+(j-i)≤k+m→Mk bs e.1 (Hw bs e.1 e.2 n) m (Hw bs e.1 e.2 k)=true:=by
    intro m
    induction m with
    | zero=>intro k h5 h6 h7;omega
    | succ m ih=>
      intro k h5 h6 h7
      rw [Mk,hall k,Bool.true_and,Bool.or_eq_true]
      rcases Nat.lt_or_ge (k+1) (n+(j-i)) with h8 | h8
      · exact .inr (ih (k+1) (by omega) h8 (by omega))
      · left
        have:=hper (n-i)
        rw [show i+(n-i)=n by omega,show j+(n-i)=k+1 by omega] at this
        rw [this]
        exact beq_self_eq_true (Jd bs e.1 (Hw bs e.1 e.2 k))
  rw [Bool.and_eq_true]
  have hbn:Kt bs e.1 n e.2=Hw bs e.1 e.2 n:=by have:=Vg (bs:=bs) (d:=e.1) (a:=e.2) n 0;rwa [Nat.zero_add] at this
  rw [hbn]
  exact ⟨hback n 0,hcyc (n+1) n (Nat.le_refl _) (by omega) (by omega)⟩
theorem xV (T:List Sc)(V:List Va)(l:List Lit):SOLV T V l:=fun h1 h2=>by
 have hz:=dF (n:=((zN T V l:Nat):Int)) (bs:=(C5 T V l).bs) h1
 exact tV (n:=zN T V l) (by omega) hz.2.2.2 h2
section
variable {T:List Sc} {V:List Va}
def Jm (T:List Sc)(V:List Va)(n:Nat)(c:Cs):Prop:=∀x∈c.1,∀y∈x,KOK T V y.cond∧Ar y.cond≤n
theorem Kg {n m:Nat}{c:Cs}(h:Jm T V n c)(hm:n≤m):Jm T V m c:=fun x hx y hy=>⟨(h x hx y hy).1,Nat.le_trans (h x hx y hy).2 hm⟩
theorem L6 {n:Nat}{a b:Cs}(ha:Jm T V n a)(hb:Jm T V n b):Jm T V n (El a b):=by
 unfold El
 split
 · intro x hx;cases hx
 ·
  unfold Mc
  split
  · intro x hx;cases hx
  ·
   intro x hx y hy
   obtain ⟨p,hp,hm⟩:=List.mem_flatMap.1 hx
   obtain ⟨q,hq,rfl⟩:=List.mem_map.1 hm
   rcases List.mem_append.1 hy with h | h
   · exact ha p hp y h
   · exact hb q hq y h
theorem gC {n:Nat}{a b:Cs}(ha:Jm T V n a)(hb:Jm T V n b):Jm T V n (Jf a b):=by
 unfold Jf
 split
 · intro x hx;cases hx
 ·
  intro x hx y hy
  rcases List.mem_append.1 hx with h | h
  · exact ha x h y hy
  · exact hb x h y hy
theorem X5 {n:Nat}{l:List Lit}(h:∀y∈l,KOK T V y.cond∧Ar y.cond≤n):Jm T V n (Eg l):=by
 intro x hx y hy
 unfold Eg at hx
 obtain ⟨z,hz,rfl⟩:=List.mem_map.1 hx
 rw [List.mem_singleton.1 hy]
 exact h z hz
theorem P3 {a b:Ex}(ha:KOK T V a)(hb:KOK T V b)(ka:Am T V a=0)(kb:Am T V b=0):KOK T V (two 7 a b):=by
 refine ⟨ha.ty,?_,?_⟩
 ·
  rw [K9]
  have h1:Bw (two 7 a b)=0:=by
   have hf:Bk (two 7 a b)=0:=by simp [Bk,two,Dn,isV0,v0]
   unfold Bw
   rw [hf]
   simp [two,D4,Dn]
  rw [h1]
  show Aq C1 [a,b]=0
  simp [Aq,ha.nodes,hb.nodes]
 ·
  rw [Ee]
  show (if [a,b].isEmpty then _ else _:Int×Int).2=0
  have e1:(Ca T V a).2=0:=ha.kind
  have e2:(Ca T V b).2=0:=hb.kind
  have k1:(Ca T V a).1=0:=by rw [Fz ha];exact ka
  have k2:(Ca T V b).1=0:=by rw [Fz hb];exact kb
  simp [two,Aq,e1,e2,k1,k2,Di,Mo]
theorem eQ (a b:Ex):Ar (two 7 a b)=1+Ar a+Ar b:=by
 rw [D5];simp [two];omega
theorem Py (e:Ex):KOK T V e→∀s,Jm T V (Ar e) (Da T V e s):=by
 refine Ex.Aak (P:=fun e=>KOK T V e→∀s,Jm T V (Ar e) (Da T V e s)) (fun e ih hk s=>?_) e
 rcases Ls s hk with h | ⟨h,hl⟩ | ⟨h,hl⟩ | ⟨h,hl,h1⟩ | ⟨h,hl,h1,h2⟩ | ⟨_,_,_,h,_⟩
 ·
  cases h1:((e.val.num==1)==s) with
  | true=>rw [Gg h h1];intro x hx y hy;rw [List.mem_singleton.1 hx] at hy;cases hy
  | false=>rw [Gr h h1];intro x hx;cases hx
 ·
  rw [Gd hl h]
  exact Kg (ih _ (A4 hl) (A1 hk (A4 hl)) _) (Nat.le_of_lt (vM hl))
 ·
  have m0:=A4 (show 0<e.args.length by omega)
  have m1:=Bi hl
  have hs:=Dx hl
  have i0:=Kg (ih _ m0 (A1 hk m0) s) (show Ar (Ao e)≤Ar e by omega)
  have i1:=Kg (ih _ m1 (A1 hk m1) s) (show Ar (Bg e)≤Ar e by omega)
  cases h1:((e.op==10)==s) with
  | true=>rw [Gk hl h h1];exact L6 i0 i1
  | false=>rw [Gq hl h h1];exact gC i0 i1
 ·
  have m0:=A4 (show 0<e.args.length by omega)
  have m1:=Bi hl
  have hs:=Dx hl
  have i0:=fun t=>Kg (ih _ m0 (A1 hk m0) t) (show Ar (Ao e)≤Ar e by omega)
  have i1:=fun t=>Kg (ih _ m1 (A1 hk m1) t) (show Ar (Bg e)≤Ar e by omega)
  rw [Gb hl h h1]
  exact gC (L6 (i0 _) (i1 _)) (L6 (i0 _) (i1 _))
 ·
  have m0:=A4 (show 0<e.args.length by omega)
  have m1:=Bi hl
  have hs:=Dx hl
  have h9:e.op=9:=by simpa using h
  have k0:Am T V (Ao e)=0:=by rw [Bool.and_eq_true] at h2;simpa using h2.1
  have k1:Am T V (Bg e)=0:=by rw [Ik hk h9 m1];exact k0
  rw [Gl h h1 h2]
  refine X5 fun y hy=>?_
  rcases List.mem_cons.1 hy with rfl | hy
  · exact ⟨P3 (A1 hk m0) (A1 hk m1) k0 k1,by simp only;rw [eQ];omega⟩
  ·
   rw [List.mem_singleton.1 hy]
   exact ⟨P3 (A1 hk m1) (A1 hk m0) k1 k0,by simp only;rw [eQ];omega⟩
 ·
  rw [h]
  exact X5 fun y hy=>by rw [List.mem_singleton.1 hy];exact ⟨hk,Nat.le_refl _⟩
end
section
variable (T:List Sc) (V:List Va)
def nO (c:List Lit):List Ev:=uE T V (Ef T V c).1 c (Li T V c)
def Yy:Int→List (List Lit)→Int×List Ev
 | out,[]=>(out,[])
 | out,c::r=>if !Qk T V c&&decide ((c.length:Int)≤256) then Yy out r else if Lj T V c then (1,nO T V c) else Yy 0 r
def B3 (c:Cs):Int×List Ev:=if !c.2 then (0,[]) else Yy T V 2 c.1
def Ed (es:List Ex):Int:=if (Db T V (Em true)).2 != 0 then (Db T V (Em true)).2 else if decide (256<(es.length:Int)) then 5 else Aq (Eb T V) es
def Ke (es:List Ex)(c:Cs):Cs:=es.foldl (fun c e=>El c (Da T V e true)) c
/-- Possible: the verdict, the events, the error -/
def B1 (es:List Ex):Int×List Ev×Int:=if Ed T V es != 0 then (0,[],Ed T V es) else ((B3 T V (Ke T V es ([[]],true))).1,(B3 T V (Ke T V es ([[]],true))).2,0)
def K4 (a b:Ex):Cs:=El (Da T V a true) (Da T V b false)
def C9 (a b:Ex):Int×Int:=if Ed T V [a,b] != 0 then (0,Ed T V [a,b]) else if (B3 T V (K4 T V a b)).1==1 then (2,0) else if (B3 T V (K4 T V a b)).1==2 then (1,0) else ((B3 T V (K4 T V a b)).1,0)
end
section
variable {T:List Sc} {V:List Va}
theorem gZ {o:Int}{c:List Lit}{r:List (List Lit)}(h:(!Qk T V c&&decide ((c.length:Int)≤256))=true):Yy T V o (c::r)=Yy T V o r:=by rw [Yy,if_pos h]
theorem mY {o:Int}{c:List Lit}{r:List (List Lit)}(h:(!Qk T V c&&decide ((c.length:Int)≤256))=false)(h2:Lj T V c=true):Yy T V o (c::r)=(1,nO T V c):=by rw [Yy,Ci h,if_pos h2]
theorem xC {o:Int}{c:List Lit}{r:List (List Lit)}(h:(!Qk T V c&&decide ((c.length:Int)≤256))=false)(h2:Lj T V c=false):Yy T V o (c::r)=Yy T V 0 r:=by rw [Yy,Ci h,Ci h2]
theorem Px {c:List Lit}(h:Lj T V c=true):I8 (C5 T V c)=true∧decide ((c.length:Int)≤256)=true:=by
 unfold Lj at h
 rw [Bool.and_eq_true,Bool.and_eq_true] at h
 exact h.2
theorem vG {c:List Lit}(hl:Ve T V c)(h:(!Qk T V c&&decide ((c.length:Int)≤256))=false)(h2:Lj T V c=true):(Cg T V c).ts.length+1≤(Li T V c).length:=by
  obtain ⟨h3,h4⟩:=Px h2
  rw [h4,Bool.and_true] at h
  have hf:(!I8 (C5 T V c))=false:=by rw [h3];rfl
  have hk:Qk T V c=true:=by simpa using h
  rw [dC hf,Bool.and_eq_true] at hk
  rw [lP hf]
  have hok:=hk.2
  rw [oU] at hok ⊢
  cases hz:I4 (zn (zN T V c) (C5 T V c).bs) != 0 with
  | true=>rw [Wf hz] at hok;cases hok
  | false=>
    cases he:decide ((Ek (zn (zN T V c) (C5 T V c).bs)).2<0) with
    | false=>rw [dX hz he] at hok;cases hok
    | true=>
      rw [We hz he]
      have:=(kQ (pI hz (P9 hl))).s
      rw [List.length_map,this]
      exact Nat.le_refl _
theorem cC {es:List Ex}(h:((Db T V (Em true)).2 != 0)=true):Ed T V es=(Db T V (Em true)).2:=by rw [Ed,if_pos h]
theorem nR {es:List Ex}(h:((Db T V (Em true)).2 != 0)=false)(h2:decide ((256:Int)<(es.length:Int))=true):Ed T V es=5:=by rw [Ed,Ci h,if_pos h2]
theorem cP {es:List Ex}(h:((Db T V (Em true)).2 != 0)=false)(h2:decide ((256:Int)<(es.length:Int))=false):Ed T V es=Aq (Eb T V) es:=by rw [Ed,Ci h,Ci h2]
theorem Yo {es:List Ex}(h:(Ed T V es != 0)=false):es.length≤256∧∀e∈es,KC T V e∧Am T V e=1:=by
  have h0:Ed T V es=0:=by simpa using h
  cases h1:((Db T V (Em true)).2 != 0) with
  | true=>rw [cC h1] at h0;rw [h0] at h1;cases h1
  | false=>
    cases h2:decide ((256:Int)<(es.length:Int)) with
    | true=>rw [nR h1 h2] at h0;cases h0
    | false=>
      rw [cP h1 h2] at h0
      have h2':=of_decide_eq_false h2
      exact ⟨by omega,fun e he=>R0 (by rw [Ra h0 e he];rfl)⟩
theorem jI {es:List Ex}(h:(Ed T V es != 0)=false):Jt T V:=by
 have h0:Ed T V es=0:=by simpa using h
 cases h1:((Db T V (Em true)).2 != 0) with
 | true=>rw [cC h1] at h0;rw [h0] at h1;cases h1
 | false=>exact (iH (by simpa using h1)).kok.ty
theorem Poss_1 {es:List Ex}(h:(Ed T V es != 0)=true):B1 T V es=(0,[],Ed T V es):=by rw [B1,if_pos h]
theorem wF {es:List Ex}{c:Cs}(h:(Ed T V es != 0)=false)(h2:Ke T V es ([[]],true)=c):B1 T V es=((B3 T V c).1,(B3 T V c).2,0):=by rw [B1,Ci h,h2]
theorem Yk {c:Cs}(h:(!c.2)=true):B3 T V c=(0,[]):=if_pos h
theorem bT {c:Cs}(h:(!c.2)=false):B3 T V c=Yy T V 2 c.1:=Ci h
theorem Imp_1 {a b:Ex}(h:(Ed T V [a,b] != 0)=true):C9 T V a b=(0,Ed T V [a,b]):=by rw [C9,if_pos h]
theorem Imp_2 {a b:Ex}(h:(Ed T V [a,b] != 0)=false)(h2:((B3 T V (K4 T V a b)).1==1)=true):C9 T V a b=(2,0):=by rw [C9,Ci h,if_pos h2]
theorem Imp_3 {a b:Ex}(h:(Ed T V [a,b] != 0)=false)(h2:((B3 T V (K4 T V a b)).1==1)=false)(h3:((B3 T V (K4 T V a b)).1==2)=true):C9 T V a b=(1,0):=by rw [C9,Ci h,Ci h2,if_pos h3]
theorem Imp_4 {a b:Ex}(h:(Ed T V [a,b] != 0)=false)(h2:((B3 T V (K4 T V a b)).1==1)=false)(h3:((B3 T V (K4 T V a b)).1==2)=false):C9 T V a b=((B3 T V (K4 T V a b)).1,0):=by rw [C9,Ci h,Ci h2,Ci h3]
theorem rC {a b:Ex}{n:Nat}(ha:Ar a≤n)(hb:Ar b≤n):∀e∈[a,b],Ar e≤n:=fun e he=>by
 rcases List.mem_cons.1 he with rfl | he
 · exact ha
 · rw [List.mem_singleton.1 he];exact hb
/-- clauses that can be solved -/
def vOK (T:List Sc)(V:List Va)(c:Cs):Prop:=c.1.length≤256∧∀x∈c.1,Ve T V x∧x.length≤4096
theorem vA {n:Nat}{c:Cs}(h:csOK n c)(hl:Jm T V 64 c)(hn:n≤4096):vOK T V c:=⟨h.len,fun x hx=>⟨fun y hy=>hl x hx y hy,Nat.le_trans (h.lits x hx) hn⟩⟩
theorem wI:csOK 0 ([[]],true):=⟨by simp,fun x hx=>by rw [List.mem_singleton.1 hx];exact Nat.le_refl _⟩
theorem qM {n:Nat}:Jm T V n ([[]],true):=fun x hx y hy=>by rw [List.mem_singleton.1 hx] at hy;cases hy
end
set_option maxRecDepth 100000
/-! ### The chapter's example -/
def qW:List Sc:=[⟨[116,114,97,100,101],[⟨[115,121,109,98,111,108],2⟩,⟨[112,114,105,99,101],0⟩]⟩]
def tN:List Va:=[⟨[97],0⟩,⟨[98],0⟩]
def Zd (n:Int):Ex:=Ol ⟨0,n,[]⟩
def Hq (v:Int):Ex:=⟨1,[],v,1,0,v0⟩
def Tq (v:Int):Ex:=⟨1,[],v,0,0,v0⟩
def Yl:Ex:=⟨0,[],0,0,0,⟨2,0,[120]⟩⟩
def N3:Ex:=two 7 (Hq 0) (Zd 3)
def upE:Ex:=two 7 (Hq 0) (Hq 1)
def fD (n:Int):Ex:=two 7 (Hq 1) (two 5 (Hq 0) (Zd n))
def bK:Ex:=two 9 ⟨3,[],0,0,0,v0⟩ (Zd 2)
def clE:Ex:=Ov (two 11 N3 (two 9 (Hq 0) (Hq 1)))
def clL:List (List Lit):=[[⟨N3,true⟩,⟨two 7 (Hq 0) (Hq 1),false⟩],[⟨N3,true⟩,⟨two 7 (Hq 1) (Hq 0),false⟩]]
def znE:Zn:=⟨3,[⟨1,0,1099511627776⟩,⟨0,1,1099511627776⟩,⟨2,0,1099511627776⟩,⟨0,2,1099511627776⟩,⟨0,1,-3⟩,⟨1,2,-1⟩]⟩
theorem gT:∀s∈qW,Jk s:=by
 intro s hs
 rw [List.mem_singleton.1 hs]
 exact ⟨by decide,by decide,by decide⟩
theorem ex_cl:Jb qW tN clE=(clL,0):=by kernel_rfl
theorem ex_zn:Qq qW tN [⟨N3,true⟩,⟨two 7 (Hq 0) (Hq 1),false⟩]=⟨znE,[Hq 0,Hq 1],0⟩:=by kernel_rfl
theorem ex_same:J5 clL clL=true:=(Kh _ _).2 rfl
theorem Nk (e:Ex)(h:decide (Ar e≤100)=true):Ar e≤1048576:=Nat.le_trans (of_decide_eq_true h) (by decide)
theorem Mp (l:List Ex)(h:l.all (fun e=>decide (Ar e≤100))=true):∀e∈l,Ar e≤1048576:=fun e he=>Nk e (List.all_eq_true.1 h e he)
theorem bD:∀c∈clL,∀x∈c,Ar x.cond≤1048576:=by
 intro c hc x hx
 have h:clL.all (fun c=>c.all fun x=>decide (Ar x.cond≤100))=true:=by kernel_rfl
 exact Nk _ (List.all_eq_true.1 (List.all_eq_true.1 h c hc) x hx)
def kE (want:Int)(es:List Ex):Bool:=(B1 qW tN es).2.2==0&&(B1 qW tN es).1==want
theorem ver_1:kE 2 [upE,fD 1]=true:=by kernel_rfl
theorem ver_2:kE 1 [upE,fD 2]=true:=by kernel_rfl
theorem ver_3:kE 2 [two 9 (Tq 0) Yl,two 9 (Tq 1) (Tq 0),Ov (two 9 (Tq 1) Yl)]=true:=by kernel_rfl
theorem ver_4:kE 0 [bK]=true:=by kernel_rfl
theorem ver_5:kE 2 [bK,two 7 (Hq 0) (Hq 0)]=true:=by kernel_rfl
theorem imp_1:C9 qW tN N3 (two 7 (Hq 0) (Zd 4))=(1,0):=by kernel_rfl
theorem imp_2:C9 qW tN (two 7 (Hq 0) (Zd 4)) N3=(2,0):=by kernel_rfl
/-! ### Smallness -/
def bigSc (s:Sc):Bool:=decide (20<(s.fields.length:Int))||decide (100<(s.name.length:Int))
def rZ (T:List Sc):Bool:=if T.any bigSc then false else decide ((T.length:Int)≤20)
def fewX (e:Ex):Bool:=decide (Ar e≤200∧Ez e≤100)
def fT (T:List Sc)(V:List Va)(es:List Ex):Bool:=
 if es.any (fun e=>!fewX e) then false else (rZ T&&decide ((V.length:Int)≤20))&&decide ((es.length:Int)≤10)
theorem cD {α:Type}{f:α→Bool}{l:List α}{k:Nat}{a:α}(h:l[k]? = some a)(hf:f a=true):l.any f=true:=List.any_eq_true.2 ⟨a,List.mem_of_getElem? h,hf⟩
theorem Ye {α:Type}{f:α→Bool}{l:List α}{k:Nat}{a:α}(hk:(l.take k).any f=false)(h:l[k]? = some a)(hf:f a=false):(l.take (k+1)).any f=false:=by
 rw [Cq h,List.any_append,hk,List.any_cons,hf];rfl
/-! ### Comparing -/
def sameAll (a b:List Ex):Bool:=decide (a.length=b.length)&&(a.zip b).all fun p=>Lw p.1 p.2
def sameBds:List Bd→List Bd→Bool
 | [],[]=>true
 | a::r,b::q=>(a.x==b.x&&a.y==b.y&&a.most==b.most)&&sameBds r q
 | _,_=>false
end Go.Proofs.YtkddpedfbicbeaaGreatDoor
