/-
  Several texts in one: S28, S29, S31, S30, S32. No condition.
-/
import Derived.Test.YtjedflcpjlgokaaGreatDoorK20
set_option linter.unusedVariables false
set_option linter.unusedSimpArgs false
namespace Go.Proofs.YtjedflcpjlgokaaGreatDoor
open Go Go.Aw
set_option maxRecDepth 20000
section
variable {P:Program} {d:Option Nat} {ty:TypeId} {pos:String} {aft:Array Edge} {gd:Option (Nat×Bool)} {ρ:Operand→AV}
theorem lU {t:TypeId}{m k:Operand}{kt et b i:Nat}{td tk te:TD}{n:List UInt8}{U:Um}(hT:G3 P TL)(ht:Bl TL t=some td)(hk:td.kind = .map kt et)(htk:Bl TL kt=some tk)(hkk:tk.kind = .str)
  (hte:Bl TL et=some te) (hz:te.zero = [.bool false]) (hzs:Ps P et=true) (hm:ρ m = .val (.map (some b))) (hkey:ρ k = .str n) :
  C6 P ⟨d,.lookup t m k false,ty,pos,aft,gd⟩ ρ (fun H=>H[i]? = some (.smap b (sE U))) (.bool (E1 U n)):=
 mE hT ht hk htk hkk hte hzs hm hkey (by rw [hz];exact tH n U)
theorem vO {t:TypeId}{m k v:Operand}{kt et b i:Nat}{td tk:TD}{n:List UInt8}{U:Um}{x:Bool}{H H2:List HO}(hT:G3 P TL)(ht:Bl TL t=some td)(hk:td.kind = .map kt et)(htk:Bl TL kt=some tk)(hkk:tk.kind = .str)
  (hm:ρ m = .val (.map (some b))) (hkey:ρ k = .str n) (hv:ρ v = .bool x) (hH:H[i]? = some (.smap b (sE U))) (hH2:H.set i (.smap b (sE (Sr U n x)))=H2) :
  Ks P ⟨d,.mapUpdate t m k v,ty,pos,aft,gd⟩ ρ H (fun y H'=>y = .junk∧H'=H2):=
 qH hT ht hk htk hkk hm hkey hv hH (by rw [sput_u];exact hH2)
theorem wY {t:TypeId}{m k v:Operand}{kt et b i:Nat}{td tk:TD}{r:Wd}{N:Nm}{s:E9}{H H2:List HO}(hT:G3 P TL)(ht:Bl TL t=some td)(hk:td.kind = .map kt et)(htk:Bl TL kt=some tk)(hkk:tk.kind = .struct [(0,1,true,4),(1,1,true,9),(2,3,true,103)])
  (hm:ρ m = .val (.map (some b))) (hkey:ρ k = .agg (Kr r)) (hv:ρ v = .str s) (hH:H[i]? = some (.kmap b (nE N))) (hnew:H0 N r=none) (hH2:H.set i (.kmap b (nE (N ++ [(r,s)])))=H2) :
  Ks P ⟨d,.mapUpdate t m k v,ty,pos,aft,gd⟩ ρ H (fun y H'=>y = .junk∧H'=H2):=
 Sj (eq:=I5 r) hT ht hk htk hkk hm hkey hv (Mm r r) (Zg r N) hH (new_n hnew) (by rw [aC];exact hH2)
theorem xL {t:TypeId}{m k v:Operand}{kt et b i:Nat}{td tk:TD}{r:Wd}{N:Nm}{s s':E9}{H H2:List HO}(hT:G3 P TL)(ht:Bl TL t=some td)(hk:td.kind = .map kt et)(htk:Bl TL kt=some tk)(hkk:tk.kind = .struct [(0,1,true,4),(1,1,true,9),(2,3,true,103)])
  (hm:ρ m = .val (.map (some b))) (hkey:ρ k = .agg (Kr r)) (hv:ρ v = .str s') (hH:H[i]? = some (.kmap b (nE (N ++ [(r,s)])))) (hnew:H0 N r=none) (hH2:H.set i (.kmap b (nE (N ++ [(r,s')])))=H2) :
  Ks P ⟨d,.mapUpdate t m k v,ty,pos,aft,gd⟩ ρ H (fun y H'=>y = .junk∧H'=H2):=
 pA (eq:=I5 r) hT ht hk htk hkk hm hkey hv (Mm r r) (Zg r _) hH (kidx_n hnew) rfl (xX r _) (by rw [kput_n];exact hH2)
end
theorem bP {r:Wd}{N:Nm}{s:E9}(h:H0 N r=some s):match Gy (I5 r) (nE N) with | some y=>y = .str s | none=>[AV.str []] = [.str s]:=by rw [Wj,h];rfl
theorem rB {P:Program}{f:FuncId}{args:List AV}{r0:AV}{bo:Nat}{v:Value}{l l':Es}{pre R:List HO}(h:Dj P f (Xt bo v l (pre++R)) args fun r H'=>r=r0∧H'=Xt bo v l' (pre++R)) :
  Dj P f (pre++Xt bo v l R) args fun r H'=>r=r0∧H'=pre++Xt bo v l' R:=
 (h.perm jZ).post fun r K ⟨h1,h2⟩=>⟨_,h2▸jZ.symm,h1,rfl⟩
def V2 (p:Um×List Wd)(a:Ex):Um×List Wd:=(Sr p.1 (B5 a).text (E1 p.1 (B5 a).text||(B5 a).const),p.2 ++ [B5 a])
section
variable (T:List Sc) (V:List Va)
def Sd (p:Um×List Wd)(c:Lit):Um×List Wd:=if !Ch T V c.cond || !B0 T V c.cond then p else c.cond.args.foldl V2 p
def Gs (l:List Lit):Um×List Wd:=l.foldl (Sd T V) ([],[])
end
abbrev Ns:=Um×Nm×List Ev
def X8 (U:Um)(N:Nm)(r:Wd):Um×Nm:=if (H0 N r).isSome then (U,N) else (Sr U (Je U r) true,N ++ [(r,Je U r)])
def wI (U:Um)(N:Nm)(r:Wd):E9:=(H0 N r).getD (Je U r)
def Hg (w:Wm)(s:Ns)(x:Wd):Ns:=
 ((X8 s.1 s.2.1 (Cc w x)).1,(X8 s.1 s.2.1 (Cc w x)).2,if x.const then s.2.2 else S1 s.2.2 x.field (wI s.1 s.2.1 (Cc w x)))
def aT (T:List Sc)(V:List Va)(w:Wm)(l:List Lit)(evs:List Ev):List Ev:=((Gs T V l).2.foldl (Hg w) ((Gs T V l).1,[],evs)).2.2
theorem aJ (U:Um)(N:Nm)(r:Wd):H0 (X8 U N r).2 r=some (wI U N r):=by
 unfold X8 wI
 cases h:H0 N r with
 | some s=>exact h
 | none=>exact S4 h
theorem bH {U:Um}{N:Nm}{r:Wd}(h:H0 N r=none):X8 U N r=(Sr U (Je U r) true,N ++ [(r,Je U r)]):=by unfold X8;rw [h];rfl
theorem Zy {U:Um}{N:Nm}{r:Wd}(h:(!(H0 N r).isSome)=false):X8 U N r=(U,N):=if_pos (by simpa using h)
theorem Xe (U:Um)(n:E9)(b:Bool):(Sr U n b).length≤U.length+1:=by
 unfold Sr;cases dM U n <;> simp
theorem aS (U:Um)(N:Nm)(r:Wd):(X8 U N r).1.length≤U.length+1:=by
 unfold X8;split
 · simp
 · exact Xe ..
section
variable {T:List Sc} {V:List Va}
theorem Ro {p:Um×List Wd}{c:Lit}(h:(!Ch T V c.cond || !B0 T V c.cond)=true):Sd T V p c=p:=if_pos h
theorem L6 {p:Um×List Wd}{c:Lit}(h:(!Ch T V c.cond || !B0 T V c.cond)=false):Sd T V p c=c.cond.args.foldl V2 p:=C3 h
def wdOK (T:List Sc)(V:List Va)(x:Wd):Prop:=x.const=false→tmOK T V x.field∧x.field.op=1
theorem R5 {c:Lit}(hk:KOK T V c.cond)(h:(!Ch T V c.cond || !B0 T V c.cond)=false):c.cond.args.length=2∧∀a∈c.cond.args,(a.op==0||a.op==1)=true:=by
 rw [Bool.or_eq_false_iff,Bool.not_eq_false',Bool.not_eq_false'] at h
 have hc:=Mb h.1
 have hn:=(A8 hk.nodes).1
 have ho:c.cond.op=9:=by
  have:=h.1
  unfold Ch at this
  rw [Bool.and_eq_true] at this
  simpa using this.1
 have hl:c.cond.args.length=2:=by
  unfold Bt at hn
  split at hn
  · cases hn
  split at hn
  · cases hn
  rename_i h2
  have h2':(c.cond.args.length:Int)=D6 c.cond.op:=by simpa using h2
  rw [ho] at h2'
  have:D6 9=2:=by decide
  omega
 have hs:=h.2
 unfold B0 at hs
 rw [if_neg (by rw [ho];decide),if_neg (by rw [hc];decide),if_pos h.1,Bool.and_eq_true] at hs
 refine ⟨hl,fun a ha=>?_⟩
 obtain ⟨a0,a1,he⟩:∃a0 a1,c.cond.args = [a0,a1]:=by
  match hq:c.cond.args,hl with
  | [x,y],_=>exact ⟨x,y,rfl⟩
 have e0:Ap c.cond=a0:=by unfold Ap;rw [he];rfl
 have e1:Bj c.cond=a1:=by unfold Bj;rw [he];rfl
 rw [e0,e1] at hs
 rw [he] at ha
 rcases List.mem_cons.1 ha with rfl | ha
 · exact hs.1
 · rw [List.mem_singleton.1 ha];exact hs.2
theorem lZ {a:Ex}(hk:KOK T V a)(h:(a.op==0||a.op==1)=true):wdOK T V (B5 a):=by
 intro hc
 unfold B5 at hc ⊢
 split at hc
 · cases hc
 rename_i h0
 rw [if_neg h0]
 have h1:a.op=1:=by simp at h h0;omega
 have hl:=Kj (A8 hk.nodes).1 (by rw [h1];rfl)
 exact ⟨tm_ok (by rw [hl];exact hk) (.inl h1),h1⟩
end
theorem fT {l:Es}{t:Tm}{s:E9}:(l.modify t.v.toNat fun p=>(Uh p.1 t.field.toNat (fun y=>{ y with text:=s }),p.2)).map Prod.fst=S1 (l.map Prod.fst) t s:=
 P8 (f:=fun e=>Uh e t.field.toNat fun y=>{ y with text:=s })
theorem Rw {w:Wm}{s:Ns}{x:Wd}(h:x.const=true):Hg w s x=((X8 s.1 s.2.1 (Cc w x)).1,(X8 s.1 s.2.1 (Cc w x)).2,s.2.2):=by unfold Hg;rw [if_pos h]
theorem R8 {w:Wm}{s:Ns}{x:Wd}(h:x.const=false):Hg w s x=((X8 s.1 s.2.1 (Cc w x)).1,(X8 s.1 s.2.1 (Cc w x)).2,S1 s.2.2 x.field (wI s.1 s.2.1 (Cc w x))):=by unfold Hg;rw [if_neg (by rw [h];decide)]
theorem nm_f {w:Wm}{U:Um}{N:Nm}{l:Es}{x:Wd}{t:Um×Nm}(hT:t=X8 U N (Cc w x))(h:x.const=false) :
  Hg w (U,N,l.map Prod.fst) x=(t.1,t.2,(l.modify x.field.v.toNat fun p=>(Uh p.1 x.field.field.toNat (fun y=>{ y with text:=wI U N (Cc w x) }),p.2)).map Prod.fst):=by
 subst hT;rw [R8 h,fT]
theorem nm_c {w:Wm}{U:Um}{N:Nm}{l:Es}{x:Wd}{t:Um×Nm}(hT:t=X8 U N (Cc w x))(h:x.const=true):Hg w (U,N,l.map Prod.fst) x=(t.1,t.2,l.map Prod.fst):=by
 subst hT;rw [Rw h]
theorem Yq {α β:Type}{f:β→α→β}{l:List α}{k:Nat}{a:α}{b:β}(h:l[k]? = some a):(l.drop k).foldl f b=(l.drop (k+1)).foldl f (f b a):=by rw [A4 h];rfl
theorem cWd_sc (l:List Wd):∀c∈l.map Kr,Bc c=true:=Fc fun _=>rfl
end Go.Proofs.YtjedflcpjlgokaaGreatDoor

namespace Go.Aw
open Go
theorem lit1 {z:Nat}{ρ:Operand→AV}{y:Operand}{cs:List AV}(h:ρ y = .agg cs)(hl:Nat.beq cs.length z=true)(hs:Bc cs=true):Nn z ρ 0 [(0,y)]=true:=by
 unfold Nn Nn
 rw [h]
 show (true&&Nat.beq cs.length z&&Bc cs&&true)=true
 rw [hl,hs];rfl
end Go.Aw
namespace Go.Proofs.YtjedflcpjlgokaaGreatDoor
open Go Go.Aw
def zV (f:Fi):Vl:=⟨f.kind,0,[]⟩
def uA (T:List Sc)(V:List Va)(w:Wm)(l:List Lit)(vals:List Int):List Ev:=aT T V w l (Gf vals 0 (Cp T V l).ts (Ha T 0 V))
theorem fJ {T:List Sc}{i:Nat}{v:Va}{s:Sc}(h:T[v.type.toNat]? = some s):(Xv T i v).values=s.fields.map zV:=by
 unfold Xv;rw [h];rfl
theorem kY {vals:List Int}{k:Nat}(h:k+1<vals.length):(vals.map cI)[((k:Int)+1).toNat]? = some [.int .i64 (D7 vals ((k:Int)+1))]:=by
 have:=jU (l:=vals) (k:=(k:Int)+1) (by omega) (by omega)
 rw [List.getElem?_map,this];rfl
theorem Zl {l:Es}{t:Tm}{x:Int}(h:(t.op==2)=true):(l.modify t.v.toNat fun p=>({ p.1 with time:=x },p.2)).map Prod.fst=Pi (l.map Prod.fst) t x:=by
 unfold Pi;rw [if_pos h];exact P8 (f:=fun e=>{ e with time:=x })
theorem dE {l:Es}{t:Tm}{x:Int}(h:(t.op==2)=false):(l.modify t.v.toNat fun p=>(Uh p.1 t.field.toNat (fun y=>{ y with num:=x }),p.2)).map Prod.fst=Pi (l.map Prod.fst) t x:=by
 unfold Pi;rw [if_neg (by rw [h];decide)];exact P8 (f:=fun e=>Uh e t.field.toNat fun y=>{ y with num:=x })
theorem Vn {vals:List Int}{ts:List Tm}{k:Nat}{t:Tm}{evs:List Ev}(h:ts[k]? = some t):Gf vals k (ts.drop k) evs=Gf vals (k+1) (ts.drop (k+1)) (Pi evs t (D7 vals ((k:Int)+1))):=by
 rw [A4 h,Gf]
theorem lG {T:List Sc}{V:List Va}(h:Ju T V){v:Va}(hv:v∈V):∃s,T[v.type.toNat]? = some s:=by
 have:=h v hv
 have hlt:v.type.toNat<T.length:=by omega
 exact ⟨_,List.getElem?_eq_getElem hlt⟩
theorem Rx {l:List Int}{k x v:Int}(h0:0≤k)(hk:k<(l.length:Int))(hx:0≤x):D7 (l.set k.toNat v) x=if x=k then v else D7 l x:=by
 unfold D7
 rw [List.getElem?_set]
 by_cases h:x=k
 ·
  subst h
  rw [if_pos rfl,if_pos (by omega),if_pos rfl];rfl
 · rw [if_neg (by omega),if_neg h]
structure RInv (n:Nat) (bs:List Bd) (r i:Nat) (d:Ds) (tm:Int→Nat):Prop where
 s:d.sums.length=n
 l:d.last.length=n
 le:∀x,tm x≤r
 old:∀(j:Nat) (b:Bd),bs[j]? = some b→i≤j→1<r→tm b.y<r-1→D7 d.sums b.x≤D7 d.sums b.y+b.most
 new:∀(j:Nat) (b:Bd),bs[j]? = some b→j<i→tm b.y<r→D7 d.sums b.x≤D7 d.sums b.y+b.most
 pt:∀x:Int,0≤x→x<(n:Int)→1≤tm x→∃b,0≤D7 d.last x∧bs[(D7 d.last x).toNat]? = some b∧tm x≤tm b.y+1
abbrev inR (n:Nat)(b:Bd):Prop:=0≤b.x∧b.x<(n:Int)∧0≤b.y∧b.y<(n:Int)
theorem pT {n r i:Nat}{bs:List Bd}{d:Ds}{a:Int}{tm:Int→Nat}{b:Bd}(hr:1≤r)(h:RInv n bs r i d tm)(hb:bs[i]? = some b)(hbs:∀b∈bs,inR n b)(ha:a = -1∨(tm a=r∧0≤a∧a<(n:Int))) :
    ∃tm',RInv n bs r (i+1) (Nf i b (d,a)).1 tm'∧((Nf i b (d,a)).2 = -1∨(tm' (Nf i b (d,a)).2=r∧0≤(Nf i b (d,a)).2∧(Nf i b (d,a)).2<(n:Int))):=by
  have hbr:=hbs b (List.mem_of_getElem? hb)
  have hs:=h.s
  have hl:=h.l
  cases hq:decide (D7 d.sums b.y+b.most<D7 d.sums b.x) with
  | false=>
    rw [Wh (s:=(d,a)) hq]
    have hq':¬(D7 d.sums b.y+b.most<D7 d.sums b.x):=of_decide_eq_false hq
    refine ⟨tm,⟨h.s,h.l,h.le,fun j c hj hle h1 h2=>h.old j c hj (by omega) h1 h2,fun j c hj hlt h1=>?_,h.pt⟩,ha⟩
    rcases Nat.lt_or_ge j i with h3 | h3
    · exact h.new j c hj h3 h1
    · have:j=i:=by omega
      subst this
      rw [hb] at hj;cases hj
      show D7 d.sums b.x≤D7 d.sums b.y+b.most
      omega
  | true=>
    rw [Om (s:=(d,a)) hq]
    have hq':D7 d.sums b.y+b.most<D7 d.sums b.x:=of_decide_eq_true hq
    have hty:r≤tm b.y+1:=by
      refine Nat.le_of_not_lt fun hlt=>?_
      rcases Nat.lt_or_ge 1 r with h1 | h1
      · have:=h.old i b hb (Nat.le_refl _) h1 (by omega);omega
      · omega
    refine ⟨fun x=>if x=b.x then r else tm x,⟨by simp only [List.length_set];exact hs,by simp only [List.length_set];exact hl,fun x=>?_,fun j c hj hle h1 h2=>?_,fun j c hj hlt h1=>?_,fun x hx0 hxn ht=>?_⟩,.inr ⟨if_pos rfl,hbr.1,hbr.2.1⟩⟩
    · show (if x=b.x then r else tm x)≤r
      split
      · exact Nat.le_refl _
      · exact h.le x
    · have hcr:=hbs c (List.mem_of_getElem? hj)
      simp only at h2 ⊢
      split at h2
      · omega
      · rename_i hne
        rw [Rx hbr.1 (by rw [hs];exact hbr.2.1) hcr.1,Rx hbr.1 (by rw [hs];exact hbr.2.1) hcr.2.2.1,if_neg hne]
        have h3:=h.old j c hj (by omega) h1 h2
        split
        · rename_i hcx;rw [hcx] at h3;omega
        · exact h3
    · have hcr:=hbs c (List.mem_of_getElem? hj)
      simp only at h1 ⊢
      split at h1
      · omega
      · rename_i hne
        rw [Rx hbr.1 (by rw [hs];exact hbr.2.1) hcr.1,Rx hbr.1 (by rw [hs];exact hbr.2.1) hcr.2.2.1,if_neg hne]
        rcases Nat.lt_or_ge j i with h3 | h3
        · have h4:=h.new j c hj h3 h1
          split
          · rename_i hcx;rw [hcx] at h4;omega
          · exact h4
        · have:j=i:=by omega
          subst this
          rw [hb] at hj;cases hj
          rw [if_pos rfl];omega
    · simp only at ht ⊢
      rw [Rx hbr.1 (by rw [hl];exact hbr.2.1) hx0]
      by_cases hxb:x=b.x
      · rw [if_pos hxb,if_pos hxb]
        refine ⟨b,by omega,by simpa using hb,?_⟩
        split
        · omega
        · exact hty
      · rw [if_neg hxb] at ht ⊢
        rw [if_neg hxb]
        obtain ⟨c,h1,h2,h3⟩:=h.pt x hx0 hxn ht
        refine ⟨c,h1,h2,?_⟩
        split
        · have:=h.le x;omega
        · exact h3
theorem mM {n r:Nat}{bs:List Bd}(hr:1≤r)(hbs:∀b∈bs,inR n b):∀(m i:Nat) {d:Ds} {a:Int} {tm:Int→Nat},i+m=bs.length→RInv n bs r i d tm→(a = -1∨(tm a=r∧0≤a∧a<(n:Int)))→
    ∃tm',RInv n bs r bs.length (Fo i (bs.drop i) (d,a)).1 tm'∧((Fo i (bs.drop i) (d,a)).2 = -1∨(tm' (Fo i (bs.drop i) (d,a)).2=r∧0≤(Fo i (bs.drop i) (d,a)).2∧(Fo i (bs.drop i) (d,a)).2<(n:Int)))
  | 0,i,d,a,tm,hm,h,ha=>by
    have hi:i=bs.length:=by omega
    rw [X2 (List.drop_eq_nil_of_le (by omega))]
    exact ⟨tm,hi▸h,ha⟩
  | m+1,i,d,a,tm,hm,h,ha=>by
    have hlt:i<bs.length:=by omega
    have hb:=List.getElem?_eq_getElem hlt
    rw [Ql hb]
    obtain ⟨tm',h1,h2⟩:=pT hr h hb hbs ha
    exact mM hr hbs m (i+1) (d:=(Nf i bs[i] (d,a)).1) (a:=(Nf i bs[i] (d,a)).2) (by omega) h1 h2
theorem iE {n r:Nat}{bs:List Bd}{d:Ds}{tm:Int→Nat}(h:RInv n bs r bs.length d tm):RInv n bs (r+1) 0 d tm:=
 ⟨h.s,h.l,fun x=>Nat.le_succ_of_le (h.le x),fun j b hj _ _ h2=>h.new j b hj (List.getElem?_eq_some_iff.1 hj).1 (by omega),fun j b _ hlt=>absurd hlt (by omega),h.pt⟩
theorem T5 {n:Nat}{bs:List Bd}(hbs:∀b∈bs,inR n b):∀(m r:Nat) {d:Ds} {a:Int} {tm:Int→Nat},1≤r→RInv n bs r 0 d tm→(1≤m∨(tm a=r-1∧0≤a∧a<(n:Int)))→¬(Dw bs m (d,a)).2<0→
    ∃tm',RInv n bs (r+m) 0 (Dw bs m (d,a)).1 tm'∧tm' (Dw bs m (d,a)).2=r+m-1∧0≤(Dw bs m (d,a)).2∧(Dw bs m (d,a)).2<(n:Int)
  | 0,r,d,a,tm,hr,h,ha,_=>by
    rcases ha with ha | ha
    · omega
    · exact ⟨tm,h,by show tm a=r+0-1;rw [ha.1];rfl,ha.2⟩
  | m+1,r,d,a,tm,hr,h,_,hne=>by
    obtain ⟨tm',h1,h2⟩:=mM hr hbs bs.length 0 (a:=-1) (by omega) h (.inl rfl)
    rw [List.drop_zero] at h1 h2
    cases hq:decide ((I7 bs d).2<0) with
    | true=>rw [J0 (s:=(d,a)) hq] at hne;exact absurd (of_decide_eq_true hq) hne
    | false=>
      rw [L5 (s:=(d,a)) hq] at hne ⊢
      have hq':=of_decide_eq_false hq
      have h3:=h2.resolve_left (fun e=>hq' (by show (Fo 0 bs (d,-1)).2<0;rw [e];decide))
      have:=T5 hbs m (r+1) (d:=(I7 bs d).1) (a:=(I7 bs d).2) (by omega) (iE h1) (.inr ⟨by show tm' (Fo 0 bs (d,-1)).2=_;rw [h3.1];omega,h3.2⟩) hne
      rw [show r+1+m=r+(m+1) by omega] at this
      exact this
def Hf (bs:List Bd)(d:Ds)(a:Int):Nat→Int
 | 0=>a
 | k+1=>H6 bs d (Hf bs d a k)
theorem T2 {bs:List Bd}{d:Ds}{a:Int}:∀(k j:Nat),Js bs d k (Hf bs d a j)=Hf bs d a (j+k)
  | 0,j=>rfl
  | k+1,j=>by
    rw [Vk]
    have:=T2 (bs:=bs) (d:=d) (a:=a) k (j+1)
    rw [show j+(k+1)=j+1+k by omega,←this];rfl
theorem rF {n:Nat}{bs:List Bd}(hn:1≤n)(hbs:∀b∈bs,inR n b)(hge:decide ((D1 (zn n bs)).2<0)=false):Mi n bs=true:=by
  have hst:RInv n bs 1 0 ⟨List.replicate n 0,M0 n⟩ (fun _=>0):=⟨by simp,by simp [M0],fun _=>by omega,fun j b _ _ h=>absurd h (by omega),fun j b _ h=>absurd h (by omega),fun x _ _ h=>absurd h (by simp)⟩
  have hge':=of_decide_eq_false hge
  rw [Mn] at hge'
  obtain ⟨tm,h1,h2,h3,h4⟩:=T5 hbs (n+1) 1 (a:=-1) (Nat.le_refl _) hst (.inl (by omega)) hge'
  rw [←Mn] at h1 h2 h3 h4
  unfold Mi
  generalize D1 (zn n bs)=e at h1 h2 h3 h4
  have key:∀k,k≤n→0≤Hf bs e.1 e.2 k∧Hf bs e.1 e.2 k<(n:Int)∧n+1≤tm (Hf bs e.1 e.2 k)+k:=by
    intro k
    induction k with
    | zero=>intro _;exact ⟨h3,h4,by show n+1≤tm e.2+0;omega⟩
    | succ k ih=>
      intro hk
      obtain ⟨q1,q2,q3⟩:=ih (by omega)
      obtain ⟨b,p1,p2,p3⟩:=h1.pt _ q1 q2 (by omega)
      have hb:=hbs b (List.mem_of_getElem? p2)
      have he:Hf bs e.1 e.2 (k+1)=b.y:=by
        show H6 bs e.1 (Hf bs e.1 e.2 k)=b.y
        unfold H6;rw [p2];rfl
      rw [he]
      exact ⟨hb.2.2.1,hb.2.2.2,by omega⟩
  have hok:∀k,k≤n→Ve bs e.1 (Hf bs e.1 e.2 k)=true:=by
    intro k hk
    obtain ⟨q1,q2,q3⟩:=key k hk
    obtain ⟨b,p1,p2,_⟩:=h1.pt _ q1 q2 (by omega)
    have:=(List.getElem?_eq_some_iff.1 p2).1
    unfold Ve
    rw [h1.l]
    simp only [Bool.and_eq_true,decide_eq_true_eq]
    exact ⟨⟨⟨q1,q2⟩,p1⟩,by omega⟩
  -- two of the first n + 1 are the same
  have hrep:∃i j,i<j∧j≤n∧Hf bs e.1 e.2 i=Hf bs e.1 e.2 j:=by
    refine Classical.byContradiction fun hno=>?_
    have hn1:((List.range (n+1)).map (Hf bs e.1 e.2)).Nodup:=by
      refine List.pairwise_map.2 (List.Pairwise.imp_of_mem ?_ List.pairwise_lt_range)
      intro a b ha hb hlt heq
      exact hno ⟨a,b,hlt,by have:=List.mem_range.1 hb;omega,heq⟩
    have hs:(List.range (n+1)).map (Hf bs e.1 e.2) ⊆ (List.range n).map (fun k:Nat=>(k:Int)):=fun x hx=>by
      obtain ⟨k,hk,rfl⟩:=List.mem_map.1 hx
      obtain ⟨q1,q2,_⟩:=key k (by have:=List.mem_range.1 hk;omega)
      exact List.mem_map.2 ⟨(Hf bs e.1 e.2 k).toNat,List.mem_range.2 (by omega),by omega⟩
    have:=Sv hn1 hs
    simp at this
    omega
  obtain ⟨i,j,hij,hjn,heq⟩:=hrep
  have hper:∀k,Hf bs e.1 e.2 (i+k)=Hf bs e.1 e.2 (j+k):=by
    intro k
    induction k with
    | zero=>exact heq
    | succ k ih=>show H6 bs e.1 (Hf bs e.1 e.2 (i+k))=H6 bs e.1 (Hf bs e.1 e.2 (j+k));rw [ih]
  have hall:∀k,Ve bs e.1 (Hf bs e.1 e.2 k)=true:=by
    intro k
    induction k using Nat.strongRecOn with
    | _ k ih=>
      rcases Nat.lt_or_ge n k with h | h
      · have:=hper (k-j)
        rw [show j+(k-j)=k by omega] at this
        rw [←this]
        exact ih _ (by omega)
      · exact hok k h
  have hback:∀m k,Kx bs e.1 m (Hf bs e.1 e.2 k)=true:=by
    intro m
    induction m with
    | zero=>intro k;rfl
    | succ m ih=>intro k;rw [Kx,hall k];exact ih (k+1)
  have hcyc:∀m k,n≤k→k<n+(j-i)→n+(j-i)≤k+m→J8 bs e.1 (Hf bs e.1 e.2 n) m (Hf bs e.1 e.2 k)=true:=by
    intro m
    induction m with
    | zero=>intro k h5 h6 h7;omega
    | succ m ih=>
      intro k h5 h6 h7
      rw [J8,hall k,Bool.true_and,Bool.or_eq_true]
      rcases Nat.lt_or_ge (k+1) (n+(j-i)) with h8 | h8
      · exact .inr (ih (k+1) (by omega) h8 (by omega))
      · left
        have:=hper (n-i)
        rw [show i+(n-i)=n by omega,show j+(n-i)=k+1 by omega] at this
        rw [this]
        exact beq_self_eq_true (H6 bs e.1 (Hf bs e.1 e.2 k))
  rw [Bool.and_eq_true]
  have hbn:Js bs e.1 n e.2=Hf bs e.1 e.2 n:=by have:=T2 (bs:=bs) (d:=e.1) (a:=e.2) n 0;rwa [Nat.zero_add] at this
  rw [hbn]
  exact ⟨hback n 0,hcyc (n+1) n (Nat.le_refl _) (by omega) (by omega)⟩
theorem sM (T:List Sc)(V:List Va)(l:List Lit):SOLV T V l:=fun h1 h2=>by
 have hz:=bE (n:=((zN T V l:Nat):Int)) (bs:=(Cy T V l).bs) h1
 exact rF (n:=zN T V l) (by omega) hz.2.2.2 h2
section
variable {T:List Sc} {V:List Va}
def Is (T:List Sc)(V:List Va)(n:Nat)(c:Cs):Prop:=∀x∈c.1,∀y∈x,KOK T V y.cond∧At y.cond≤n
theorem Jw {n m:Nat}{c:Cs}(h:Is T V n c)(hm:n≤m):Is T V m c:=fun x hx y hy=>⟨(h x hx y hy).1,Nat.le_trans (h x hx y hy).2 hm⟩
theorem Ln {n:Nat}{a b:Cs}(ha:Is T V n a)(hb:Is T V n b):Is T V n (Eb a b):=by
 unfold Eb
 split
 · intro x hx;cases hx
 ·
  unfold Lx
  split
  · intro x hx;cases hx
  ·
   intro x hx y hy
   obtain ⟨p,hp,hm⟩:=List.mem_flatMap.1 hx
   obtain ⟨q,hq,rfl⟩:=List.mem_map.1 hm
   rcases List.mem_append.1 hy with h | h
   · exact ha p hp y h
   · exact hb q hq y h
theorem gK {n:Nat}{a b:Cs}(ha:Is T V n a)(hb:Is T V n b):Is T V n (Iu a b):=by
 unfold Iu
 split
 · intro x hx;cases hx
 ·
  intro x hx y hy
  rcases List.mem_append.1 hx with h | h
  · exact ha x h y hy
  · exact hb x h y hy
theorem Xc {n:Nat}{l:List Lit}(h:∀y∈l,KOK T V y.cond∧At y.cond≤n):Is T V n (D4 l):=by
 intro x hx y hy
 unfold D4 at hx
 obtain ⟨z,hz,rfl⟩:=List.mem_map.1 hx
 rw [List.mem_singleton.1 hy]
 exact h z hz
theorem Pa {a b:Ex}(ha:KOK T V a)(hb:KOK T V b)(ka:Ak T V a=0)(kb:Ak T V b=0):KOK T V (two 7 a b):=by
 refine ⟨ha.ty,?_,?_⟩
 ·
  rw [Or]
  have h1:Bt (two 7 a b)=0:=by
   have hf:Bg (two 7 a b)=0:=by simp [Bg,two,Dq,isV0,v0]
   unfold Bt
   rw [hf]
   simp [two,D6,Dq]
  rw [h1]
  show Aq Dc [a,b]=0
  simp [Aq,ha.nodes,hb.nodes]
 ·
  rw [Ep]
  show (if [a,b].isEmpty then _ else _:Int×Int).2=0
  have e1:(Ce T V a).2=0:=ha.kind
  have e2:(Ce T V b).2=0:=hb.kind
  have k1:(Ce T V a).1=0:=by rw [Iw ha];exact ka
  have k2:(Ce T V b).1=0:=by rw [Iw hb];exact kb
  simp [two,Aq,e1,e2,k1,k2,Dm,Na]
theorem eK (a b:Ex):At (two 7 a b)=1+At a+At b:=by
 rw [Ek];simp [two];omega
theorem Pc (e:Ex):KOK T V e→∀s,Is T V (At e) (C4 T V e s):=by
 refine Ex.Aaj (P:=fun e=>KOK T V e→∀s,Is T V (At e) (C4 T V e s)) (fun e ih hk s=>?_) e
 rcases Kz s hk with h | ⟨h,hl⟩ | ⟨h,hl⟩ | ⟨h,hl,h1⟩ | ⟨h,hl,h1,h2⟩ | ⟨_,_,_,h,_⟩
 ·
  cases h1:((e.val.num==1)==s) with
  | true=>rw [F0 h h1];intro x hx y hy;rw [List.mem_singleton.1 hx] at hy;cases hy
  | false=>rw [Fv h h1];intro x hx;cases hx
 ·
  rw [F5 hl h]
  exact Jw (ih _ (Ba hl) (Az hk (Ba hl)) _) (Nat.le_of_lt (size0 hl))
 ·
  have m0:=Ba (show 0<e.args.length by omega)
  have m1:=Bw hl
  have hs:=Dl hl
  have i0:=Jw (ih _ m0 (Az hk m0) s) (show At (Ap e)≤At e by omega)
  have i1:=Jw (ih _ m1 (Az hk m1) s) (show At (Bj e)≤At e by omega)
  cases h1:((e.op==10)==s) with
  | true=>rw [Fz hl h h1];exact Ln i0 i1
  | false=>rw [Fw hl h h1];exact gK i0 i1
 ·
  have m0:=Ba (show 0<e.args.length by omega)
  have m1:=Bw hl
  have hs:=Dl hl
  have i0:=fun t=>Jw (ih _ m0 (Az hk m0) t) (show At (Ap e)≤At e by omega)
  have i1:=fun t=>Jw (ih _ m1 (Az hk m1) t) (show At (Bj e)≤At e by omega)
  rw [F4 hl h h1]
  exact gK (Ln (i0 _) (i1 _)) (Ln (i0 _) (i1 _))
 ·
  have m0:=Ba (show 0<e.args.length by omega)
  have m1:=Bw hl
  have hs:=Dl hl
  have h9:e.op=9:=by simpa using h
  have k0:Ak T V (Ap e)=0:=by rw [Bool.and_eq_true] at h2;simpa using h2.1
  have k1:Ak T V (Bj e)=0:=by rw [H8 hk h9 m1];exact k0
  rw [Ft h h1 h2]
  refine Xc fun y hy=>?_
  rcases List.mem_cons.1 hy with rfl | hy
  · exact ⟨Pa (Az hk m0) (Az hk m1) k0 k1,by simp only;rw [eK];omega⟩
  ·
   rw [List.mem_singleton.1 hy]
   exact ⟨Pa (Az hk m1) (Az hk m0) k1 k0,by simp only;rw [eK];omega⟩
 ·
  rw [h]
  exact Xc fun y hy=>by rw [List.mem_singleton.1 hy];exact ⟨hk,Nat.le_refl _⟩
end
section
variable (T:List Sc) (V:List Va)
def kJ (c:List Lit):List Ev:=uA T V (D5 T V c).1 c (Ku T V c)
def Xq:Int→List (List Lit)→Int×List Ev
 | out,[]=>(out,[])
 | out,c::r=>if !Pe T V c&&decide ((c.length:Int)≤256) then Xq out r else if K7 T V c then (1,kJ T V c) else Xq 0 r
def Br (c:Cs):Int×List Ev:=if !c.2 then (0,[]) else Xq T V 2 c.1
def Dz (es:List Ex):Int:=if (C7 T V (Hq true)).2 != 0 then (C7 T V (Hq true)).2 else if decide (256<(es.length:Int)) then 5 else Aq (Fg T V) es
def Ip (es:List Ex)(c:Cs):Cs:=es.foldl (fun c e=>Eb c (C4 T V e true)) c
def Bz (es:List Ex):Int×List Ev×Int:=if Dz T V es != 0 then (0,[],Dz T V es) else ((Br T V (Ip T V es ([[]],true))).1,(Br T V (Ip T V es ([[]],true))).2,0)
def Kl (a b:Ex):Cs:=Eb (C4 T V a true) (C4 T V b false)
def Cj (a b:Ex):Int×Int:=if Dz T V [a,b] != 0 then (0,Dz T V [a,b]) else if (Br T V (Kl T V a b)).1==1 then (2,0) else if (Br T V (Kl T V a b)).1==2 then (1,0) else ((Br T V (Kl T V a b)).1,0)
end
section
variable {T:List Sc} {V:List Va}
theorem cP {o:Int}{c:List Lit}{r:List (List Lit)}(h:(!Pe T V c&&decide ((c.length:Int)≤256))=true):Xq T V o (c::r)=Xq T V o r:=by rw [Xq,if_pos h]
theorem lI {o:Int}{c:List Lit}{r:List (List Lit)}(h:(!Pe T V c&&decide ((c.length:Int)≤256))=false)(h2:K7 T V c=true):Xq T V o (c::r)=(1,kJ T V c):=by rw [Xq,C3 h,if_pos h2]
theorem tV {o:Int}{c:List Lit}{r:List (List Lit)}(h:(!Pe T V c&&decide ((c.length:Int)≤256))=false)(h2:K7 T V c=false):Xq T V o (c::r)=Xq T V 0 r:=by rw [Xq,C3 h,C3 h2]
theorem O4 {c:List Lit}(h:K7 T V c=true):Ja (Cy T V c)=true∧decide ((c.length:Int)≤256)=true:=by
 unfold K7 at h
 rw [Bool.and_eq_true,Bool.and_eq_true] at h
 exact h.2
theorem sJ {c:List Lit}(hl:Up T V c)(h:(!Pe T V c&&decide ((c.length:Int)≤256))=false)(h2:K7 T V c=true):(Cp T V c).ts.length+1≤(Ku T V c).length:=by
  obtain ⟨h3,h4⟩:=O4 h2
  rw [h4,Bool.and_true] at h
  have hf:(!Ja (Cy T V c))=false:=by rw [h3];rfl
  have hk:Pe T V c=true:=by simpa using h
  rw [aP hf,Bool.and_eq_true] at hk
  rw [jH hf]
  have hok:=hk.2
  rw [mK] at hok ⊢
  cases hz:He (zn (zN T V c) (Cy T V c).bs) != 0 with
  | true=>rw [U3 hz] at hok;cases hok
  | false=>
    cases he:decide ((D1 (zn (zN T V c) (Cy T V c).bs)).2<0) with
    | false=>rw [cF hz he] at hok;cases hok
    | true=>
      rw [Ut hz he]
      have:=(jP (mT hz (O3 hl))).s
      rw [List.length_map,this]
      exact Nat.le_refl _
theorem bK {es:List Ex}(h:((C7 T V (Hq true)).2 != 0)=true):Dz T V es=(C7 T V (Hq true)).2:=by rw [Dz,if_pos h]
theorem lV {es:List Ex}(h:((C7 T V (Hq true)).2 != 0)=false)(h2:decide ((256:Int)<(es.length:Int))=true):Dz T V es=5:=by rw [Dz,C3 h,if_pos h2]
theorem bY {es:List Ex}(h:((C7 T V (Hq true)).2 != 0)=false)(h2:decide ((256:Int)<(es.length:Int))=false):Dz T V es=Aq (Fg T V) es:=by rw [Dz,C3 h,C3 h2]
theorem Xi {es:List Ex}(h:(Dz T V es != 0)=false):es.length≤256∧∀e∈es,KC T V e∧Ak T V e=1:=by
  have h0:Dz T V es=0:=by simpa using h
  cases h1:((C7 T V (Hq true)).2 != 0) with
  | true=>rw [bK h1] at h0;rw [h0] at h1;cases h1
  | false=>
    cases h2:decide ((256:Int)<(es.length:Int)) with
    | true=>rw [lV h1 h2] at h0;cases h0
    | false=>
      rw [bY h1 h2] at h0
      have h2':=of_decide_eq_false h2
      exact ⟨by omega,fun e he=>dZ (by rw [Qi h0 e he];rfl)⟩
theorem gB {es:List Ex}(h:(Dz T V es != 0)=false):Ju T V:=by
 have h0:Dz T V es=0:=by simpa using h
 cases h1:((C7 T V (Hq true)).2 != 0) with
 | true=>rw [bK h1] at h0;rw [h0] at h1;cases h1
 | false=>exact (eA (by simpa using h1)).kok.ty
theorem Poss_1 {es:List Ex}(h:(Dz T V es != 0)=true):Bz T V es=(0,[],Dz T V es):=by rw [Bz,if_pos h]
theorem bD {es:List Ex}{c:Cs}(h:(Dz T V es != 0)=false)(h2:Ip T V es ([[]],true)=c):Bz T V es=((Br T V c).1,(Br T V c).2,0):=by rw [Bz,C3 h,h2]
theorem Xl {c:Cs}(h:(!c.2)=true):Br T V c=(0,[]):=if_pos h
theorem bS {c:Cs}(h:(!c.2)=false):Br T V c=Xq T V 2 c.1:=C3 h
theorem Imp_1 {a b:Ex}(h:(Dz T V [a,b] != 0)=true):Cj T V a b=(0,Dz T V [a,b]):=by rw [Cj,if_pos h]
theorem zU {a b:Ex}(h:(Dz T V [a,b] != 0)=false)(h2:((Br T V (Kl T V a b)).1==1)=true):Cj T V a b=(2,0):=by rw [Cj,C3 h,if_pos h2]
theorem zR {a b:Ex}(h:(Dz T V [a,b] != 0)=false)(h2:((Br T V (Kl T V a b)).1==1)=false)(h3:((Br T V (Kl T V a b)).1==2)=true):Cj T V a b=(1,0):=by rw [Cj,C3 h,C3 h2,if_pos h3]
theorem zQ {a b:Ex}(h:(Dz T V [a,b] != 0)=false)(h2:((Br T V (Kl T V a b)).1==1)=false)(h3:((Br T V (Kl T V a b)).1==2)=false):Cj T V a b=((Br T V (Kl T V a b)).1,0):=by rw [Cj,C3 h,C3 h2,C3 h3]
theorem nJ {a b:Ex}{n:Nat}(ha:At a≤n)(hb:At b≤n):∀e∈[a,b],At e≤n:=fun e he=>by
 rcases List.mem_cons.1 he with rfl | he
 · exact ha
 · rw [List.mem_singleton.1 he];exact hb
def vOK (T:List Sc)(V:List Va)(c:Cs):Prop:=c.1.length≤256∧∀x∈c.1,Up T V x∧x.length≤4096
theorem rX {n:Nat}{c:Cs}(h:csOK n c)(hl:Is T V 64 c)(hn:n≤4096):vOK T V c:=⟨h.len,fun x hx=>⟨fun y hy=>hl x hx y hy,Nat.le_trans (h.lits x hx) hn⟩⟩
theorem vQ:csOK 0 ([[]],true):=⟨by simp,fun x hx=>by rw [List.mem_singleton.1 hx];exact Nat.le_refl _⟩
theorem oX {n:Nat}:Is T V n ([[]],true):=fun x hx y hy=>by rw [List.mem_singleton.1 hx] at hy;cases hy
end
set_option maxRecDepth 100000
def exT:List Sc:=[⟨[116,114,97,100,101],[⟨[115,121,109,98,111,108],2⟩,⟨[112,114,105,99,101],0⟩]⟩]
def exV:List Va:=[⟨[97],0⟩,⟨[98],0⟩]
def numE (n:Int):Ex:=My ⟨0,n,[]⟩
def Xn (v:Int):Ex:=⟨1,[],v,1,0,v0⟩
def symE (v:Int):Ex:=⟨1,[],v,0,0,v0⟩
def textE:Ex:=⟨0,[],0,0,0,⟨2,0,[120]⟩⟩
def tT:Ex:=two 7 (Xn 0) (numE 3)
def upE:Ex:=two 7 (Xn 0) (Xn 1)
def downE (n:Int):Ex:=two 7 (Xn 1) (two 5 (Xn 0) (numE n))
def countE:Ex:=two 9 ⟨3,[],0,0,0,v0⟩ (numE 2)
def clE:Ex:=notE (two 11 tT (two 9 (Xn 0) (Xn 1)))
def clL:List (List Lit):=[[⟨tT,true⟩,⟨two 7 (Xn 0) (Xn 1),false⟩],[⟨tT,true⟩,⟨two 7 (Xn 1) (Xn 0),false⟩]]
def znE:Zn:=⟨3,[⟨1,0,1099511627776⟩,⟨0,1,1099511627776⟩,⟨2,0,1099511627776⟩,⟨0,2,1099511627776⟩,⟨0,1,-3⟩,⟨1,2,-1⟩]⟩
def verS (want:Int)(es:List Ex):Bool:=(Bz exT exV es).2.2==0&&(Bz exT exV es).1==want
def bigSc (s:Sc):Bool:=decide (20<(s.fields.length:Int))||decide (100<(s.name.length:Int))
def fR (T:List Sc):Bool:=if T.any bigSc then false else decide ((T.length:Int)≤20)
def xB (e:Ex):Bool:=decide (At e≤200∧El e≤100)
def fewP (T:List Sc)(V:List Va)(es:List Ex):Bool:=
 if es.any (fun e=>!xB e) then false else (fR T&&decide ((V.length:Int)≤20))&&decide ((es.length:Int)≤10)
theorem U4 {α:Type}{f:α→Bool}{l:List α}{k:Nat}{a:α}(h:l[k]? = some a)(hf:f a=true):l.any f=true:=List.any_eq_true.2 ⟨a,List.mem_of_getElem? h,hf⟩
theorem Q4 {α:Type}{f:α→Bool}{l:List α}{k:Nat}{a:α}(hk:(l.take k).any f=false)(h:l[k]? = some a)(hf:f a=false):(l.take (k+1)).any f=false:=by
 rw [C9 h,List.any_append,hk,List.any_cons,hf];rfl
def sameAll (a b:List Ex):Bool:=decide (a.length=b.length)&&(a.zip b).all fun p=>rR p.1 p.2
def zF:List Bd→List Bd→Bool
 | [],[]=>true
 | a::r,b::q=>(a.x==b.x&&a.y==b.y&&a.most==b.most)&&zF r q
 | _,_=>false
end Go.Proofs.YtjedflcpjlgokaaGreatDoor
