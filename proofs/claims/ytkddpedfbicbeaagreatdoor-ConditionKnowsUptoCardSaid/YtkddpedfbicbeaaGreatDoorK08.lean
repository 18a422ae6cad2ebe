/-
  Several texts in one: S28, S29, S31, S30, S32, Y3. No condition.
-/
import Derived.Test.YtkddpedfbicbeaaGreatDoorK07
import Derived.Test.YtkddpedfbicbeaaGreatDoorK01
import Derived.Test.YtkddpedfbicbeaaGreatDoorK04
import Derived.KernelRfl
namespace Go.Proofs.YtkddpedfbicbeaaGreatDoor
open Go Go.Aw
set_option maxRecDepth 20000
set_option linter.unusedVariables false
set_option linter.unusedSimpArgs false
section
variable {P:Program} {d:Option Nat} {ty:TypeId} {pos:String} {aft:Array Edge} {gd:Option (Nat×Bool)} {ρ:Operand→AV}
theorem P_lookU {t:TypeId}{m k:Operand}{kt et b i:Nat}{td tk te:TD}{n:List UInt8}{U:Um}(hT:TOK P TL)(ht:tget TL t=some td)(hk:td.kind = .map kt et)(htk:tget TL kt=some tk)(hkk:tk.kind = .str)
    (hte:tget TL et=some te) (hz:te.zero=[.bool false]) (hzs:zscal P et=true) (hm:ρ m = .val (.map (some b))) (hkey:ρ k = .str n) :
    OpP P ⟨d,.lookup t m k false,ty,pos,aft,gd⟩ ρ (fun H=>H[i]? = some (.smap b (sE U))) (.bool (uget U n)):=
  P_slook hT ht hk htk hkk hte hzs hm hkey (by rw [hz];exact look_u n U)
theorem E_putU {t:TypeId}{m k v:Operand}{kt et b i:Nat}{td tk:TD}{n:List UInt8}{U:Um}{x:Bool}{H H2:List HO}(hT:TOK P TL)(ht:tget TL t=some td)(hk:td.kind = .map kt et)(htk:tget TL kt=some tk)(hkk:tk.kind = .str)
    (hm:ρ m = .val (.map (some b))) (hkey:ρ k = .str n) (hv:ρ v = .bool x) (hH:H[i]? = some (.smap b (sE U))) (hH2:H.set i (.smap b (sE (uput U n x)))=H2) :
    OpE P ⟨d,.mapUpdate t m k v,ty,pos,aft,gd⟩ ρ H (fun y H'=>y = .junk∧H'=H2):=
  E_smapPut hT ht hk htk hkk hm hkey hv hH (by rw [sput_u];exact hH2)
theorem E_nmAdd {t:TypeId}{m k v:Operand}{kt et b i:Nat}{td tk:TD}{r:Wd}{N:Nm}{s:Str1}{H H2:List HO}(hT:TOK P TL)(ht:tget TL t=some td)(hk:td.kind = .map kt et)(htk:tget TL kt=some tk)(hkk:tk.kind = .struct [(0,1,true,4),(1,1,true,9),(2,3,true,143)])
    (hm:ρ m = .val (.map (some b))) (hkey:ρ k = .agg (cWd r)) (hv:ρ v = .str s) (hH:H[i]? = some (.kmap b (nE N))) (hnew:nget N r=none) (hH2:H.set i (.kmap b (nE (N++[(r,s)])))=H2) :
    OpE P ⟨d,.mapUpdate t m k v,ty,pos,aft,gd⟩ ρ H (fun y H'=>y = .junk∧H'=H2):=
  E_kmapAdd (eq:=eqWd r) hT ht hk htk hkk hm hkey hv (eqWd_is r r) (nE_eq r N) hH (new_n hnew) (by rw [nE_snoc];exact hH2)
theorem E_nmSet {t:TypeId}{m k v:Operand}{kt et b i:Nat}{td tk:TD}{r:Wd}{N:Nm}{s s':Str1}{H H2:List HO}(hT:TOK P TL)(ht:tget TL t=some td)(hk:td.kind = .map kt et)(htk:tget TL kt=some tk)(hkk:tk.kind = .struct [(0,1,true,4),(1,1,true,9),(2,3,true,143)])
    (hm:ρ m = .val (.map (some b))) (hkey:ρ k = .agg (cWd r)) (hv:ρ v = .str s') (hH:H[i]? = some (.kmap b (nE (N++[(r,s)])))) (hnew:nget N r=none) (hH2:H.set i (.kmap b (nE (N++[(r,s')])))=H2) :
    OpE P ⟨d,.mapUpdate t m k v,ty,pos,aft,gd⟩ ρ H (fun y H'=>y = .junk∧H'=H2):=
  E_kmapSet (eq:=eqWd r) hT ht hk htk hkk hm hkey hv (eqWd_is r r) (nE_eq r _) hH (kidx_n hnew) rfl (nE_self r _) (by rw [kput_n];exact hH2)
end
theorem look_is {r:Wd}{N:Nm}{s:Str1}(h:nget N r=some s):match kget (eqWd r) (nE N) with | some y=>y = .str s | none=>[AV.str []]=[.str s]:=by rw [kget_n,h];rfl
theorem set_call {P:Program}{f:FuncId}{args:List AV}{r0:AV}{bo:Nat}{v:Value}{l l':Es}{pre R:List HO}(h:ACall P f (evH bo v l (pre++R)) args fun r H'=>r=r0∧H'=evH bo v l' (pre++R)) :
    ACall P f (pre++evH bo v l R) args fun r H'=>r=r0∧H'=pre++evH bo v l' R:=
  (h.perm ev_pre).post fun r K ⟨h1,h2⟩=>⟨_,h2▸ev_pre.symm,h1,rfl⟩
/-! ### what is named -/
def colA (p:Um×List Wd)(a:Ex):Um×List Wd:=(uput p.1 (asWd a).text (uget p.1 (asWd a).text||(asWd a).const),p.2++[asWd a])
section
variable (T:List Sc) (V:List Va)
def colL (p:Um×List Wd)(c:Lit):Um×List Wd:=if !textsS T V c.cond || !simpleS T V c.cond then p else c.cond.args.foldl colA p
def colAll (l:List Lit):Um×List Wd:=l.foldl (colL T V) ([],[])
end
abbrev Ns:=Um×Nm×List Ev
def nmU (U:Um)(N:Nm)(r:Wd):Um×Nm:=if (nget N r).isSome then (U,N) else (uput U (nameOf U r) true,N++[(r,nameOf U r)])
def nmT (U:Um)(N:Nm)(r:Wd):Str1:=(nget N r).getD (nameOf U r)
def nmStep (w:Wm)(s:Ns)(x:Wd):Ns:=
  ((nmU s.1 s.2.1 (ofS' w x)).1,(nmU s.1 s.2.1 (ofS' w x)).2,if x.const then s.2.2 else setX s.2.2 x.field (nmT s.1 s.2.1 (ofS' w x)))
def nameEv (T:List Sc)(V:List Va)(w:Wm)(l:List Lit)(evs:List Ev):List Ev:=((colAll T V l).2.foldl (nmStep w) ((colAll T V l).1,[],evs)).2.2
theorem nmU_get (U:Um)(N:Nm)(r:Wd):nget (nmU U N r).2 r=some (nmT U N r):=by
  unfold nmU nmT
  cases h:nget N r with
  | some s=>exact h
  | none=>exact nget_snoc h
theorem nmU_new {U:Um}{N:Nm}{r:Wd}(h:nget N r=none):nmU U N r=(uput U (nameOf U r) true,N++[(r,nameOf U r)]):=by unfold nmU;rw [h];rfl
theorem nmU_old {U:Um}{N:Nm}{r:Wd}(h:(!(nget N r).isSome)=false):nmU U N r=(U,N):=if_pos (by simpa using h)
theorem uput_len (U:Um)(n:Str1)(b:Bool):(uput U n b).length≤U.length+1:=by
  unfold uput;cases uidx U n <;> simp
theorem nmU_len (U:Um)(N:Nm)(r:Wd):(nmU U N r).1.length≤U.length+1:=by
  unfold nmU;split
  · simp
  · exact uput_len ..
section
variable {T:List Sc} {V:List Va}
theorem colL_no {p:Um×List Wd}{c:Lit}(h:(!textsS T V c.cond || !simpleS T V c.cond)=true):colL T V p c=p:=if_pos h
theorem colL_yes {p:Um×List Wd}{c:Lit}(h:(!textsS T V c.cond || !simpleS T V c.cond)=false):colL T V p c=c.cond.args.foldl colA p:=ifF h
def wdOK (T:List Sc)(V:List Va)(x:Wd):Prop:=x.const=false→tmOK T V x.field∧x.field.op=1
theorem args_two {c:Lit}(hk:KOK T V c.cond)(h:(!textsS T V c.cond || !simpleS T V c.cond)=false):c.cond.args.length=2∧∀a∈c.cond.args,(a.op == 0||a.op == 1)=true:=by
  rw [Bool.or_eq_false_iff,Bool.not_eq_false',Bool.not_eq_false'] at h
  have hc:=texts_cmp h.1
  have hn:=(nodes_zero hk.nodes).1
  have ho:c.cond.op=9:=by
    have:=h.1
    unfold textsS at this
    rw [Bool.and_eq_true] at this
    simpa using this.1
  have hl:c.cond.args.length=2:=by
    unfold nodeS at hn
    split at hn
    · cases hn
    split at hn
    · cases hn
    rename_i h2
    have h2':(c.cond.args.length:Int)=arityS c.cond.op:=by simpa using h2
    rw [ho] at h2'
    have:arityS 9=2:=by decide
    omega
  have hs:=h.2
  unfold simpleS at hs
  rw [if_neg (by rw [ho];decide),if_neg (by rw [hc];decide),if_pos h.1,Bool.and_eq_true] at hs
  refine ⟨hl,fun a ha=>?_⟩
  obtain ⟨a0,a1,he⟩:∃a0 a1,c.cond.args=[a0,a1]:=by
    match hq:c.cond.args,hl with
    | [x,y],_=>exact ⟨x,y,rfl⟩
  have e0:arg0 c.cond=a0:=by unfold arg0;rw [he];rfl
  have e1:arg1 c.cond=a1:=by unfold arg1;rw [he];rfl
  rw [e0,e1] at hs
  rw [he] at ha
  rcases List.mem_cons.1 ha with rfl | ha
  · exact hs.1
  · rw [List.mem_singleton.1 ha];exact hs.2
theorem word_ok {a:Ex}(hk:KOK T V a)(h:(a.op == 0||a.op == 1)=true):wdOK T V (asWd a):=by
  intro hc
  unfold asWd at hc ⊢
  split at hc
  · cases hc
  rename_i h0
  rw [if_neg h0]
  have h1:a.op=1:=by simp at h h0;omega
  have hl:=leaf_tm (nodes_zero hk.nodes).1 (by rw [h1];rfl)
  exact ⟨tm_ok (by rw [hl];exact hk) (.inl h1),h1⟩
end
theorem setX_fst {l:Es}{t:Tm}{s:Str1}:(l.modify t.v.toNat fun p=>(atV p.1 t.field.toNat (fun y=>{ y with text:=s }),p.2)).map Prod.fst=setX (l.map Prod.fst) t s:=
  fst_modify (f:=fun e=>atV e t.field.toNat fun y=>{ y with text:=s })
theorem nm_const {w:Wm}{s:Ns}{x:Wd}(h:x.const=true):nmStep w s x=((nmU s.1 s.2.1 (ofS' w x)).1,(nmU s.1 s.2.1 (ofS' w x)).2,s.2.2):=by unfold nmStep;rw [if_pos h]
theorem nm_field {w:Wm}{s:Ns}{x:Wd}(h:x.const=false):nmStep w s x=((nmU s.1 s.2.1 (ofS' w x)).1,(nmU s.1 s.2.1 (ofS' w x)).2,setX s.2.2 x.field (nmT s.1 s.2.1 (ofS' w x))):=by unfold nmStep;rw [if_neg (by rw [h];decide)]
theorem nm_f {w:Wm}{U:Um}{N:Nm}{l:Es}{x:Wd}{t:Um×Nm}(hT:t=nmU U N (ofS' w x))(h:x.const=false) :
    nmStep w (U,N,l.map Prod.fst) x=(t.1,t.2,(l.modify x.field.v.toNat fun p=>(atV p.1 x.field.field.toNat (fun y=>{ y with text:=nmT U N (ofS' w x) }),p.2)).map Prod.fst):=by
  subst hT;rw [nm_field h,setX_fst]
theorem nm_c {w:Wm}{U:Um}{N:Nm}{l:Es}{x:Wd}{t:Um×Nm}(hT:t=nmU U N (ofS' w x))(h:x.const=true):nmStep w (U,N,l.map Prod.fst) x=(t.1,t.2,l.map Prod.fst):=by
  subst hT;rw [nm_const h]
theorem fold_drop {α β:Type}{f:β→α→β}{l:List α}{k:Nat}{a:α}{b:β}(h:l[k]? = some a):(l.drop k).foldl f b=(l.drop (k+1)).foldl f (f b a):=by rw [drop_cons h];rfl
theorem cWd_sc (l:List Wd):∀c∈l.map cWd,scalars c=true:=sc_map fun _=>rfl
end Go.Proofs.YtkddpedfbicbeaaGreatDoor

namespace Go.Aw
open Go
theorem lit1 {z:Nat}{ρ:Operand→AV}{y:Operand}{cs:List AV}(h:ρ y = .agg cs)(hl:Nat.beq cs.length z=true)(hs:scalars cs=true):litOK z ρ 0 [(0,y)]=true:=by
  unfold litOK litOK
  rw [h]
  show (true&&Nat.beq cs.length z&&scalars cs&&true)=true
  rw [hl,hs];rfl
end Go.Aw
namespace Go.Proofs.YtkddpedfbicbeaaGreatDoor
open Go Go.Aw
set_option linter.unusedVariables false
set_option linter.unusedSimpArgs false
def zV (f:Fi):Vl:=⟨f.kind,0,[]⟩
def evModS (T:List Sc)(V:List Va)(w:Wm)(l:List Lit)(vals:List Int):List Ev:=nameEv T V w l (numGo vals 0 (sysGo T V l).ts (bevGo T 0 V))
theorem ev0_vals {T:List Sc}{i:Nat}{v:Va}{s:Sc}(h:T[v.type.toNat]? = some s):(ev0S T i v).values=s.fields.map zV:=by
  unfold ev0S;rw [h];rfl
theorem vals_at {vals:List Int}{k:Nat}(h:k+1 < vals.length):(vals.map cI)[((k:Int)+1).toNat]? = some [.int .i64 (ixI vals ((k:Int)+1))]:=by
  have:=ixI_at (l:=vals) (k:=(k:Int)+1) (by omega) (by omega)
  rw [List.getElem?_map,this];rfl
theorem setN_time {l:Es}{t:Tm}{x:Int}(h:(t.op == 2)=true):(l.modify t.v.toNat fun p=>({ p.1 with time:=x },p.2)).map Prod.fst=setN (l.map Prod.fst) t x:=by
  unfold setN;rw [if_pos h];exact fst_modify (f:=fun e=>{ e with time:=x })
theorem setN_num {l:Es}{t:Tm}{x:Int}(h:(t.op == 2)=false):(l.modify t.v.toNat fun p=>(atV p.1 t.field.toNat (fun y=>{ y with num:=x }),p.2)).map Prod.fst=setN (l.map Prod.fst) t x:=by
  unfold setN;rw [if_neg (by rw [h];decide)];exact fst_modify (f:=fun e=>atV e t.field.toNat fun y=>{ y with num:=x })
theorem numGo_step {vals:List Int}{ts:List Tm}{k:Nat}{t:Tm}{evs:List Ev}(h:ts[k]? = some t):numGo vals k (ts.drop k) evs=numGo vals (k+1) (ts.drop (k+1)) (setN evs t (ixI vals ((k:Int)+1))):=by
  rw [drop_cons h,numGo]
theorem ty_at {T:List Sc}{V:List Va}(h:TyOK8 T V){v:Va}(hv:v∈V):∃s,T[v.type.toNat]? = some s:=by
  have:=h v hv
  have hlt:v.type.toNat < T.length:=by omega
  exact ⟨_,List.getElem?_eq_getElem hlt⟩
end Go.Proofs.YtkddpedfbicbeaaGreatDoor

namespace Go.Proofs.YtkddpedfbicbeaaGreatDoor
open Go Go.Aw
set_option linter.unusedVariables false
set_option linter.unusedSimpArgs false
theorem ixI_set {l:List Int}{k x v:Int}(h0:0≤k)(hk:k < (l.length:Int))(hx:0≤x):ixI (l.set k.toNat v) x=if x=k then v else ixI l x:=by
  unfold ixI
  rw [List.getElem?_set]
  by_cases h:x=k
  · subst h
    rw [if_pos rfl,if_pos (by omega),if_pos rfl];rfl
  · rw [if_neg (by omega),if_neg h]
/-- before bound i of round r: tm tells in which round an unknown was improved last -/
structure RInv (n:Nat) (bs:List Bd) (r i:Nat) (d:Ds) (tm:Int→Nat):Prop where
  s:d.sums.length=n
  l:d.last.length=n
  le:∀x,tm x≤r
  old:∀(j:Nat) (b:Bd),bs[j]? = some b→i≤j→1 < r→tm b.y < r - 1→ixI d.sums b.x≤ixI d.sums b.y+b.most
  new:∀(j:Nat) (b:Bd),bs[j]? = some b→j < i→tm b.y < r→ixI d.sums b.x≤ixI d.sums b.y+b.most
  pt:∀x:Int,0≤x→x < (n:Int)→1≤tm x→∃b,0≤ixI d.last x∧bs[(ixI d.last x).toNat]? = some b∧tm x≤tm b.y+1
abbrev inR (n:Nat)(b:Bd):Prop:=0≤b.x∧b.x < (n:Int)∧0≤b.y∧b.y < (n:Int)
theorem rinv_step {n r i:Nat}{bs:List Bd}{d:Ds}{a:Int}{tm:Int→Nat}{b:Bd}(hr:1≤r)(h:RInv n bs r i d tm)(hb:bs[i]? = some b)(hbs:∀b∈bs,inR n b)(ha:a = -1∨(tm a=r∧0≤a∧a < (n:Int))) :
    ∃tm',RInv n bs r (i+1) (rlx1 i b (d,a)).1 tm'∧((rlx1 i b (d,a)).2 = -1∨(tm' (rlx1 i b (d,a)).2=r∧0≤(rlx1 i b (d,a)).2∧(rlx1 i b (d,a)).2 < (n:Int))):=by
  have hbr:=hbs b (List.mem_of_getElem? hb)
  have hs:=h.s
  have hl:=h.l
  cases hq:decide (ixI d.sums b.y+b.most < ixI d.sums b.x) with
  | false=>
    rw [rlx_no (s:=(d,a)) hq]
    have hq':¬(ixI d.sums b.y+b.most < ixI d.sums b.x):=of_decide_eq_false hq
    refine ⟨tm,⟨h.s,h.l,h.le,fun j c hj hle h1 h2=>h.old j c hj (by omega) h1 h2,fun j c hj hlt h1=>?_,h.pt⟩,ha⟩
    rcases Nat.lt_or_ge j i with h3 | h3
    · exact h.new j c hj h3 h1
    · have:j=i:=by omega
      subst this
      rw [hb] at hj;cases hj
      show ixI d.sums b.x≤ixI d.sums b.y+b.most
      omega
  | true=>
    rw [rlx_yes (s:=(d,a)) hq]
    have hq':ixI d.sums b.y+b.most < ixI d.sums b.x:=of_decide_eq_true hq
    have hty:r≤tm b.y+1:=by
      refine Nat.le_of_not_lt fun hlt=>?_
      rcases Nat.lt_or_ge 1 r with h1 | h1
      · have:=h.old i b hb (Nat.le_refl _) h1 (by omega);omega
      · omega
    refine ⟨fun x=>if x=b.x then r else tm x,⟨by simp only [List.length_set];exact hs,by simp only [List.length_set];exact hl,fun x=>?_,fun j c hj hle h1 h2=>?_,fun j c hj hlt h1=>?_,fun x hx0 hxn ht=>?_⟩,.inr ⟨if_pos rfl,hbr.1,hbr.2.1⟩⟩
    · show (if x=b.x then r else tm x)≤r
      split
      · exact Nat.le_refl _
      · exact h.le x
    · have hcr:=hbs c (List.mem_of_getElem? hj)
      simp only at h2 ⊢
      split at h2
      · omega
      · rename_i hne
        rw [ixI_set hbr.1 (by rw [hs];exact hbr.2.1) hcr.1,ixI_set hbr.1 (by rw [hs];exact hbr.2.1) hcr.2.2.1,if_neg hne]
        have h3:=h.old j c hj (by omega) h1 h2
        split
        · rename_i hcx;rw [hcx] at h3;omega
        · exact h3
    · have hcr:=hbs c (List.mem_of_getElem? hj)
      simp only at h1 ⊢
      split at h1
      · omega
      · rename_i hne
        rw [ixI_set hbr.1 (by rw [hs];exact hbr.2.1) hcr.1,ixI_set hbr.1 (by rw [hs];exact hbr.2.1) hcr.2.2.1,if_neg hne]
        rcases Nat.lt_or_ge j i with h3 | h3
        · have h4:=h.new j c hj h3 h1
          split
          · rename_i hcx;rw [hcx] at h4;omega
          · exact h4
        · have:j=i:=by omega
          subst this
          rw [hb] at hj;cases hj
          rw [if_pos rfl];omega
    · simp only at ht ⊢
      rw [ixI_set hbr.1 (by rw [hl];exact hbr.2.1) hx0]
      by_cases hxb:x=b.x
      · rw [if_pos hxb,if_pos hxb]
        refine ⟨b,by omega,by simpa using hb,?_⟩
        split
        · omega
        · exact hty
      · rw [if_neg hxb] at ht ⊢
        rw [if_neg hxb]
        obtain ⟨c,h1,h2,h3⟩:=h.pt x hx0 hxn ht
        refine ⟨c,h1,h2,?_⟩
        split
        · have:=h.le x;omega
        · exact h3
theorem rinv_go {n r:Nat}{bs:List Bd}(hr:1≤r)(hbs:∀b∈bs,inR n b):∀(m i:Nat) {d:Ds} {a:Int} {tm:Int→Nat},i+m=bs.length→RInv n bs r i d tm→(a = -1∨(tm a=r∧0≤a∧a < (n:Int)))→
    ∃tm',RInv n bs r bs.length (rlxGo i (bs.drop i) (d,a)).1 tm'∧((rlxGo i (bs.drop i) (d,a)).2 = -1∨(tm' (rlxGo i (bs.drop i) (d,a)).2=r∧0≤(rlxGo i (bs.drop i) (d,a)).2∧(rlxGo i (bs.drop i) (d,a)).2 < (n:Int)))
  | 0,i,d,a,tm,hm,h,ha=>by
    have hi:i=bs.length:=by omega
    rw [rlxGo_end (List.drop_eq_nil_of_le (by omega))]
    exact ⟨tm,hi▸h,ha⟩
  | m+1,i,d,a,tm,hm,h,ha=>by
    have hlt:i < bs.length:=by omega
    have hb:=List.getElem?_eq_getElem hlt
    rw [rlxGo_step hb]
    obtain ⟨tm',h1,h2⟩:=rinv_step hr h hb hbs ha
    exact rinv_go hr hbs m (i+1) (d:=(rlx1 i bs[i] (d,a)).1) (a:=(rlx1 i bs[i] (d,a)).2) (by omega) h1 h2
theorem rinv_round {n r:Nat}{bs:List Bd}{d:Ds}{tm:Int→Nat}(h:RInv n bs r bs.length d tm):RInv n bs (r+1) 0 d tm:=
  ⟨h.s,h.l,fun x=>Nat.le_succ_of_le (h.le x),fun j b hj _ _ h2=>h.new j b hj (List.getElem?_eq_some_iff.1 hj).1 (by omega),fun j b _ hlt=>absurd hlt (by omega),h.pt⟩
theorem rinv_rounds {n:Nat}{bs:List Bd}(hbs:∀b∈bs,inR n b):∀(m r:Nat) {d:Ds} {a:Int} {tm:Int→Nat},1≤r→RInv n bs r 0 d tm→(1≤m∨(tm a=r - 1∧0≤a∧a < (n:Int)))→¬(roundsS bs m (d,a)).2 < 0→
    ∃tm',RInv n bs (r+m) 0 (roundsS bs m (d,a)).1 tm'∧tm' (roundsS bs m (d,a)).2=r+m - 1∧0≤(roundsS bs m (d,a)).2∧(roundsS bs m (d,a)).2 < (n:Int)
  | 0,r,d,a,tm,hr,h,ha,_=>by
    rcases ha with ha | ha
    · omega
    · exact ⟨tm,h,by show tm a=r+0 - 1;rw [ha.1];rfl,ha.2⟩
  | m+1,r,d,a,tm,hr,h,_,hne=>by
    obtain ⟨tm',h1,h2⟩:=rinv_go hr hbs bs.length 0 (a:=-1) (by omega) h (.inl rfl)
    rw [List.drop_zero] at h1 h2
    cases hq:decide ((rlxS bs d).2 < 0) with
    | true=>rw [rounds_stop (s:=(d,a)) hq] at hne;exact absurd (of_decide_eq_true hq) hne
    | false=>
      rw [rounds_on (s:=(d,a)) hq] at hne ⊢
      have hq':=of_decide_eq_false hq
      have h3:=h2.resolve_left (fun e=>hq' (by show (rlxGo 0 bs (d,-1)).2 < 0;rw [e];decide))
      have:=rinv_rounds hbs m (r+1) (d:=(rlxS bs d).1) (a:=(rlxS bs d).2) (by omega) (rinv_round h1) (.inr ⟨by show tm' (rlxGo 0 bs (d,-1)).2=_;rw [h3.1];omega,h3.2⟩) hne
      rw [show r+1+m=r+(m+1) by omega] at this
      exact this
def walkX (bs:List Bd)(d:Ds)(a:Int):Nat→Int
  | 0=>a
  | k+1=>predS bs d (walkX bs d a k)
theorem walkX_backN {bs:List Bd}{d:Ds}{a:Int}:∀(k j:Nat),backN bs d k (walkX bs d a j)=walkX bs d a (j+k)
  | 0,j=>rfl
  | k+1,j=>by
    rw [backN_step]
    have:=walkX_backN (bs:=bs) (d:=d) (a:=a) k (j+1)
    rw [show j+(k+1)=j+1+k by omega,←this];rfl
theorem walk_all {n:Nat}{bs:List Bd}(hn:1≤n)(hbs:∀b∈bs,inR n b)(hge:decide ((endS (zn n bs)).2 < 0)=false):walkOK n bs=true:=by
  have hst:RInv n bs 1 0 ⟨List.replicate n 0,none1 n⟩ (fun _=>0):=⟨by simp,by simp [none1],fun _=>by omega,fun j b _ _ h=>absurd h (by omega),fun j b _ h=>absurd h (by omega),fun x _ _ h=>absurd h (by simp)⟩
  have hge':=of_decide_eq_false hge
  rw [endS_eq] at hge'
  obtain ⟨tm,h1,h2,h3,h4⟩:=rinv_rounds hbs (n+1) 1 (a:=-1) (Nat.le_refl _) hst (.inl (by omega)) hge'
  rw [←endS_eq] at h1 h2 h3 h4
  unfold walkOK
  generalize endS (zn n bs)=e at h1 h2 h3 h4
  have key:∀k,k≤n→0≤walkX bs e.1 e.2 k∧walkX bs e.1 e.2 k < (n:Int)∧n+1≤tm (walkX bs e.1 e.2 k)+k:=by
    intro k
    induction k with
    | zero=>intro _;exact ⟨h3,h4,by show n+1≤tm e.2+0;omega⟩
    | succ k ih=>
      intro hk
      obtain ⟨q1,q2,q3⟩:=ih (by omega)
      obtain ⟨b,p1,p2,p3⟩:=h1.pt _ q1 q2 (by omega)
      have hb:=hbs b (List.mem_of_getElem? p2)
      have he:walkX bs e.1 e.2 (k+1)=b.y:=by
        show predS bs e.1 (walkX bs e.1 e.2 k)=b.y
        unfold predS;rw [p2];rfl
      rw [he]
      exact ⟨hb.2.2.1,hb.2.2.2,by omega⟩
  have hok:∀k,k≤n→okAt bs e.1 (walkX bs e.1 e.2 k)=true:=by
    intro k hk
    obtain ⟨q1,q2,q3⟩:=key k hk
    obtain ⟨b,p1,p2,_⟩:=h1.pt _ q1 q2 (by omega)
    have:=(List.getElem?_eq_some_iff.1 p2).1
    unfold okAt
    rw [h1.l]
    simp only [Bool.and_eq_true,decide_eq_true_eq]
    exact ⟨⟨⟨q1,q2⟩,p1⟩,by omega⟩
  -- two of the first n + 1 are the same
  have hrep:∃i j,i < j∧j≤n∧walkX bs e.1 e.2 i=walkX bs e.1 e.2 j:=by
    refine Classical.byContradiction fun hno=>?_
    have hn1:((List.range (n+1)).map (walkX bs e.1 e.2)).Nodup:=by
      refine List.pairwise_map.2 (List.Pairwise.imp_of_mem ?_ List.pairwise_lt_range)
      intro a b ha hb hlt heq
      exact hno ⟨a,b,hlt,by have:=List.mem_range.1 hb;omega,heq⟩
    have hs:(List.range (n+1)).map (walkX bs e.1 e.2) ⊆ (List.range n).map (fun k:Nat=>(k:Int)):=fun x hx=>by
      obtain ⟨k,hk,rfl⟩:=List.mem_map.1 hx
      obtain ⟨q1,q2,_⟩:=key k (by have:=List.mem_range.1 hk;omega)
      exact List.mem_map.2 ⟨(walkX bs e.1 e.2 k).toNat,List.mem_range.2 (by omega),by omega⟩
    have:=nodup_len hn1 hs
    simp at this
    omega
  obtain ⟨i,j,hij,hjn,heq⟩:=hrep
  have hper:∀k,walkX bs e.1 e.2 (i+k)=walkX bs e.1 e.2 (j+k):=by
    intro k
    induction k with
    | zero=>exact heq
    | succ k ih=>show predS bs e.1 (walkX bs e.1 e.2 (i+k))=predS bs e.1 (walkX bs e.1 e.2 (j+k));rw [ih]
  have hall:∀k,okAt bs e.1 (walkX bs e.1 e.2 k)=true:=by
    intro k
    induction k using Nat.strongRecOn with
    | _ k ih=>
      rcases Nat.lt_or_ge n k with h | h
      · have:=hper (k - j)
        rw [show j+(k - j)=k by omega] at this
        rw [←this]
        exact ih _ (by omega)
      · exact hok k h
  have hback:∀m k,backOK bs e.1 m (walkX bs e.1 e.2 k)=true:=by
    intro m
    induction m with
    | zero=>intro k;rfl
    | succ m ih=>intro k;rw [backOK,hall k];exact ih (k+1)
  have hcyc:∀m k,n≤k→k < n+(j - i)→n+(j - i)≤k+m→cycOK bs e.1 (walkX bs e.1 e.2 n) m (walkX bs e.1 e.2 k)=true:=by
    intro m
    induction m with
    | zero=>intro k h5 h6 h7;omega
    | succ m ih=>
      intro k h5 h6 h7
      rw [cycOK,hall k,Bool.true_and,Bool.or_eq_true]
      rcases Nat.lt_or_ge (k+1) (n+(j - i)) with h8 | h8
      · exact .inr (ih (k+1) (by omega) h8 (by omega))
      · left
        have:=hper (n - i)
        rw [show i+(n - i)=n by omega,show j+(n - i)=k+1 by omega] at this
        rw [this]
        exact beq_self_eq_true (predS bs e.1 (walkX bs e.1 e.2 k))
  rw [Bool.and_eq_true]
  have hbn:backN bs e.1 n e.2=walkX bs e.1 e.2 n:=by have:=walkX_backN (bs:=bs) (d:=e.1) (a:=e.2) n 0;rwa [Nat.zero_add] at this
  rw [hbn]
  exact ⟨hback n 0,hcyc (n+1) n (Nat.le_refl _) (by omega) (by omega)⟩
theorem solv_all (T:List Sc)(V:List Va)(l:List Lit):SOLV T V l:=fun h1 h2=>by
  have hz:=zone_ok (n:=((zN T V l:Nat):Int)) (bs:=(zoneS T V l).bs) h1
  exact walk_all (n:=zN T V l) (by omega) hz.2.2.2 h2
end Go.Proofs.YtkddpedfbicbeaaGreatDoor

namespace Go.Proofs.YtkddpedfbicbeaaGreatDoor
open Go Go.Aw
set_option linter.unusedVariables false
set_option linter.unusedSimpArgs false
section
variable {T:List Sc} {V:List Va}
def litOKn (T:List Sc)(V:List Va)(n:Nat)(c:Cs):Prop:=∀x∈c.1,∀y∈x,KOK T V y.cond∧sizeN y.cond≤n
theorem lit_mono {n m:Nat}{c:Cs}(h:litOKn T V n c)(hm:n≤m):litOKn T V m c:=fun x hx y hy=>⟨(h x hx y hy).1,Nat.le_trans (h x hx y hy).2 hm⟩
theorem lit_times {n:Nat}{a b:Cs}(ha:litOKn T V n a)(hb:litOKn T V n b):litOKn T V n (timesS a b):=by
  unfold timesS
  split
  · intro x hx;cases hx
  · unfold prodS
    split
    · intro x hx;cases hx
    · intro x hx y hy
      obtain ⟨p,hp,hm⟩:=List.mem_flatMap.1 hx
      obtain ⟨q,hq,rfl⟩:=List.mem_map.1 hm
      rcases List.mem_append.1 hy with h | h
      · exact ha p hp y h
      · exact hb q hq y h
theorem lit_plus {n:Nat}{a b:Cs}(ha:litOKn T V n a)(hb:litOKn T V n b):litOKn T V n (plusS a b):=by
  unfold plusS
  split
  · intro x hx;cases hx
  · intro x hx y hy
    rcases List.mem_append.1 hx with h | h
    · exact ha x h y hy
    · exact hb x h y hy
theorem lit_single {n:Nat}{l:List Lit}(h:∀y∈l,KOK T V y.cond∧sizeN y.cond≤n):litOKn T V n (singleC l):=by
  intro x hx y hy
  unfold singleC at hx
  obtain ⟨z,hz,rfl⟩:=List.mem_map.1 hx
  rw [List.mem_singleton.1 hy]
  exact h z hz
theorem kok_two {a b:Ex}(ha:KOK T V a)(hb:KOK T V b)(ka:kindR T V a=0)(kb:kindR T V b=0):KOK T V (two 7 a b):=by
  refine ⟨ha.ty,?_,?_⟩
  · rw [nodesS_eq]
    have h1:nodeS (two 7 a b)=0:=by
      have hf:formS (two 7 a b)=0:=by simp [formS,two,usesS,isV0,v0]
      unfold nodeS
      rw [hf]
      simp [two,arityS,usesS]
    rw [h1]
    show firstS nodesS [a,b]=0
    simp [firstS,ha.nodes,hb.nodes]
  · rw [kindS_eq]
    show (if [a,b].isEmpty then _ else _:Int×Int).2=0
    have e1:(kindS T V a).2=0:=ha.kind
    have e2:(kindS T V b).2=0:=hb.kind
    have k1:(kindS T V a).1=0:=by rw [kok_kind ha];exact ka
    have k2:(kindS T V b).1=0:=by rw [kok_kind hb];exact kb
    simp [two,firstS,e1,e2,k1,k2,operandsS,okS]
theorem size_two (a b:Ex):sizeN (two 7 a b)=1+sizeN a+sizeN b:=by
  rw [sizeN_eq];simp [two];omega
theorem norm_lits (e:Ex):KOK T V e→∀s,litOKn T V (sizeN e) (normS T V e s):=by
  refine Ex.ind (P:=fun e=>KOK T V e→∀s,litOKn T V (sizeN e) (normS T V e s)) (fun e ih hk s=>?_) e
  rcases norm_cases s hk with h | ⟨h,hl⟩ | ⟨h,hl⟩ | ⟨h,hl,h1⟩ | ⟨h,hl,h1,h2⟩ | ⟨_,_,_,h,_⟩
  · cases h1:((e.val.num == 1) == s) with
    | true=>rw [norm_0t h h1];intro x hx y hy;rw [List.mem_singleton.1 hx] at hy;cases hy
    | false=>rw [norm_0f h h1];intro x hx;cases hx
  · rw [norm_12 hl h]
    exact lit_mono (ih _ (arg0_mem hl) (kok_arg hk (arg0_mem hl)) _) (Nat.le_of_lt (size0 hl))
  · have m0:=arg0_mem (show 0 < e.args.length by omega)
    have m1:=arg1_mem hl
    have hs:=arg_sizes hl
    have i0:=lit_mono (ih _ m0 (kok_arg hk m0) s) (show sizeN (arg0 e)≤sizeN e by omega)
    have i1:=lit_mono (ih _ m1 (kok_arg hk m1) s) (show sizeN (arg1 e)≤sizeN e by omega)
    cases h1:((e.op == 10) == s) with
    | true=>rw [norm_1t hl h h1];exact lit_times i0 i1
    | false=>rw [norm_1f hl h h1];exact lit_plus i0 i1
  · have m0:=arg0_mem (show 0 < e.args.length by omega)
    have m1:=arg1_mem hl
    have hs:=arg_sizes hl
    have i0:=fun t=>lit_mono (ih _ m0 (kok_arg hk m0) t) (show sizeN (arg0 e)≤sizeN e by omega)
    have i1:=fun t=>lit_mono (ih _ m1 (kok_arg hk m1) t) (show sizeN (arg1 e)≤sizeN e by omega)
    rw [norm_9b hl h h1]
    exact lit_plus (lit_times (i0 _) (i1 _)) (lit_times (i0 _) (i1 _))
  · have m0:=arg0_mem (show 0 < e.args.length by omega)
    have m1:=arg1_mem hl
    have hs:=arg_sizes hl
    have h9:e.op=9:=by simpa using h
    have k0:kindR T V (arg0 e)=0:=by rw [Bool.and_eq_true] at h2;simpa using h2.1
    have k1:kindR T V (arg1 e)=0:=by rw [kok_same hk h9 m1];exact k0
    rw [norm_9i h h1 h2]
    refine lit_single fun y hy=>?_
    rcases List.mem_cons.1 hy with rfl | hy
    · exact ⟨kok_two (kok_arg hk m0) (kok_arg hk m1) k0 k1,by simp only;rw [size_two];omega⟩
    · rw [List.mem_singleton.1 hy]
      exact ⟨kok_two (kok_arg hk m1) (kok_arg hk m0) k1 k0,by simp only;rw [size_two];omega⟩
  · rw [h]
    exact lit_single fun y hy=>by rw [List.mem_singleton.1 hy];exact ⟨hk,Nat.le_refl _⟩
end
section
variable (T:List Sc) (V:List Va)
def evC (c:List Lit):List Ev:=evModS T V (stringsS T V c).1 c (solV T V c)
def vGo:Int→List (List Lit)→Int×List Ev
  | out,[]=>(out,[])
  | out,c::r=>if !solK T V c&&decide ((c.length:Int)≤256) then vGo out r else if certS T V c then (1,evC T V c) else vGo 0 r
def verdictS (c:Cs):Int×List Ev:=if !c.2 then (0,[]) else vGo T V 2 c.1
def condsE (es:List Ex):Int:=if (KindS T V (truthE true)).2 != 0 then (KindS T V (truthE true)).2 else if decide (256 < (es.length:Int)) then 5 else firstS (condE T V) es
def prodL (es:List Ex)(c:Cs):Cs:=es.foldl (fun c e=>timesS c (normS T V e true)) c
/-- Possible: the verdict, the events, the error -/
def PossibleS (es:List Ex):Int×List Ev×Int:=if condsE T V es != 0 then (0,[],condsE T V es) else ((verdictS T V (prodL T V es ([[]],true))).1,(verdictS T V (prodL T V es ([[]],true))).2,0)
def impC (a b:Ex):Cs:=timesS (normS T V a true) (normS T V b false)
def ImpliesS (a b:Ex):Int×Int:=if condsE T V [a,b] != 0 then (0,condsE T V [a,b]) else if (verdictS T V (impC T V a b)).1 == 1 then (2,0) else if (verdictS T V (impC T V a b)).1 == 2 then (1,0) else ((verdictS T V (impC T V a b)).1,0)
end
section
variable {T:List Sc} {V:List Va}
theorem vGo_skip {o:Int}{c:List Lit}{r:List (List Lit)}(h:(!solK T V c&&decide ((c.length:Int)≤256))=true):vGo T V o (c::r)=vGo T V o r:=by rw [vGo,if_pos h]
theorem vGo_yes {o:Int}{c:List Lit}{r:List (List Lit)}(h:(!solK T V c&&decide ((c.length:Int)≤256))=false)(h2:certS T V c=true):vGo T V o (c::r)=(1,evC T V c):=by rw [vGo,ifF h,if_pos h2]
theorem vGo_on {o:Int}{c:List Lit}{r:List (List Lit)}(h:(!solK T V c&&decide ((c.length:Int)≤256))=false)(h2:certS T V c=false):vGo T V o (c::r)=vGo T V 0 r:=by rw [vGo,ifF h,ifF h2]
theorem cert_fits {c:List Lit}(h:certS T V c=true):fitsS (zoneS T V c)=true∧decide ((c.length:Int)≤256)=true:=by
  unfold certS at h
  rw [Bool.and_eq_true,Bool.and_eq_true] at h
  exact h.2
theorem vals_len {c:List Lit}(hl:LOK T V c)(h:(!solK T V c&&decide ((c.length:Int)≤256))=false)(h2:certS T V c=true):(sysGo T V c).ts.length+1≤(solV T V c).length:=by
  obtain ⟨h3,h4⟩:=cert_fits h2
  rw [h4,Bool.and_true] at h
  have hf:(!fitsS (zoneS T V c))=false:=by rw [h3];rfl
  have hk:solK T V c=true:=by simpa using h
  rw [solK_2 hf,Bool.and_eq_true] at hk
  rw [solV_2 hf]
  have hok:=hk.2
  rw [zone_is] at hok ⊢
  cases hz:zoneE (zn (zN T V c) (zoneS T V c).bs) != 0 with
  | true=>rw [Solve_1 hz] at hok;cases hok
  | false=>
    cases he:decide ((endS (zn (zN T V c) (zoneS T V c).bs)).2 < 0) with
    | false=>rw [Solve_3 hz he] at hok;cases hok
    | true=>
      rw [Solve_2 hz he]
      have:=(end_ok (zn_ok hz (zone_most hl))).s
      rw [List.length_map,this]
      exact Nat.le_refl _
theorem conds_1 {es:List Ex}(h:((KindS T V (truthE true)).2 != 0)=true):condsE T V es=(KindS T V (truthE true)).2:=by rw [condsE,if_pos h]
theorem conds_2 {es:List Ex}(h:((KindS T V (truthE true)).2 != 0)=false)(h2:decide ((256:Int) < (es.length:Int))=true):condsE T V es=5:=by rw [condsE,ifF h,if_pos h2]
theorem conds_f {es:List Ex}(h:((KindS T V (truthE true)).2 != 0)=false)(h2:decide ((256:Int) < (es.length:Int))=false):condsE T V es=firstS (condE T V) es:=by rw [condsE,ifF h,ifF h2]
theorem conds_zero {es:List Ex}(h:(condsE T V es != 0)=false):es.length≤256∧∀e∈es,KC T V e∧kindR T V e=1:=by
  have h0:condsE T V es=0:=by simpa using h
  cases h1:((KindS T V (truthE true)).2 != 0) with
  | true=>rw [conds_1 h1] at h0;rw [h0] at h1;cases h1
  | false=>
    cases h2:decide ((256:Int) < (es.length:Int)) with
    | true=>rw [conds_2 h1 h2] at h0;cases h0
    | false=>
      rw [conds_f h1 h2] at h0
      have h2':=of_decide_eq_false h2
      exact ⟨by omega,fun e he=>condE_kc (by rw [firstS_mem h0 e he];rfl)⟩
theorem conds_ty {es:List Ex}(h:(condsE T V es != 0)=false):TyOK8 T V:=by
  have h0:condsE T V es=0:=by simpa using h
  cases h1:((KindS T V (truthE true)).2 != 0) with
  | true=>rw [conds_1 h1] at h0;rw [h0] at h1;cases h1
  | false=>exact (KindS_kc (by simpa using h1)).kok.ty
theorem Poss_1 {es:List Ex}(h:(condsE T V es != 0)=true):PossibleS T V es=(0,[],condsE T V es):=by rw [PossibleS,if_pos h]
theorem Poss_2 {es:List Ex}{c:Cs}(h:(condsE T V es != 0)=false)(h2:prodL T V es ([[]],true)=c):PossibleS T V es=((verdictS T V c).1,(verdictS T V c).2,0):=by rw [PossibleS,ifF h,h2]
theorem verd_1 {c:Cs}(h:(!c.2)=true):verdictS T V c=(0,[]):=if_pos h
theorem verd_2 {c:Cs}(h:(!c.2)=false):verdictS T V c=vGo T V 2 c.1:=ifF h
theorem Imp_1 {a b:Ex}(h:(condsE T V [a,b] != 0)=true):ImpliesS T V a b=(0,condsE T V [a,b]):=by rw [ImpliesS,if_pos h]
theorem Imp_2 {a b:Ex}(h:(condsE T V [a,b] != 0)=false)(h2:((verdictS T V (impC T V a b)).1 == 1)=true):ImpliesS T V a b=(2,0):=by rw [ImpliesS,ifF h,if_pos h2]
theorem Imp_3 {a b:Ex}(h:(condsE T V [a,b] != 0)=false)(h2:((verdictS T V (impC T V a b)).1 == 1)=false)(h3:((verdictS T V (impC T V a b)).1 == 2)=true):ImpliesS T V a b=(1,0):=by rw [ImpliesS,ifF h,ifF h2,if_pos h3]
theorem Imp_4 {a b:Ex}(h:(condsE T V [a,b] != 0)=false)(h2:((verdictS T V (impC T V a b)).1 == 1)=false)(h3:((verdictS T V (impC T V a b)).1 == 2)=false):ImpliesS T V a b=((verdictS T V (impC T V a b)).1,0):=by rw [ImpliesS,ifF h,ifF h2,ifF h3]
theorem two_sizes {a b:Ex}{n:Nat}(ha:sizeN a≤n)(hb:sizeN b≤n):∀e∈[a,b],sizeN e≤n:=fun e he=>by
  rcases List.mem_cons.1 he with rfl | he
  · exact ha
  · rw [List.mem_singleton.1 he];exact hb
/-- clauses that can be solved -/
def vOK (T:List Sc)(V:List Va)(c:Cs):Prop:=c.1.length≤256∧∀x∈c.1,LOK T V x∧x.length≤4096
theorem vOK_of {n:Nat}{c:Cs}(h:csOK n c)(hl:litOKn T V 64 c)(hn:n≤4096):vOK T V c:=⟨h.len,fun x hx=>⟨fun y hy=>hl x hx y hy,Nat.le_trans (h.lits x hx) hn⟩⟩
theorem start_cs:csOK 0 ([[]],true):=⟨by simp,fun x hx=>by rw [List.mem_singleton.1 hx];exact Nat.le_refl _⟩
theorem start_lit {n:Nat}:litOKn T V n ([[]],true):=fun x hx y hy=>by rw [List.mem_singleton.1 hx] at hy;cases hy
end
end Go.Proofs.YtkddpedfbicbeaaGreatDoor

namespace Go.Proofs.YtkddpedfbicbeaaGreatDoor
open Go Go.Aw
set_option linter.unusedVariables false
set_option linter.unusedSimpArgs false
set_option maxRecDepth 100000
/-! ### The chapter's example -/
def exT:List Sc:=[⟨[116,114,97,100,101],[⟨[115,121,109,98,111,108],2⟩,⟨[112,114,105,99,101],0⟩]⟩]
def exV:List Va:=[⟨[97],0⟩,⟨[98],0⟩]
def numE (n:Int):Ex:=constE ⟨0,n,[]⟩
def priE (v:Int):Ex:=⟨1,[],v,1,0,v0⟩
def symE (v:Int):Ex:=⟨1,[],v,0,0,v0⟩
def textE:Ex:=⟨0,[],0,0,0,⟨2,0,[120]⟩⟩
def lessE:Ex:=two 7 (priE 0) (numE 3)
def upE:Ex:=two 7 (priE 0) (priE 1)
def downE (n:Int):Ex:=two 7 (priE 1) (two 5 (priE 0) (numE n))
def countE:Ex:=two 9 ⟨3,[],0,0,0,v0⟩ (numE 2)
def clE:Ex:=notE (two 11 lessE (two 9 (priE 0) (priE 1)))
def clL:List (List Lit):=[[⟨lessE,true⟩,⟨two 7 (priE 0) (priE 1),false⟩],[⟨lessE,true⟩,⟨two 7 (priE 1) (priE 0),false⟩]]
def znE:Zn:=⟨3,[⟨1,0,1099511627776⟩,⟨0,1,1099511627776⟩,⟨2,0,1099511627776⟩,⟨0,2,1099511627776⟩,⟨0,1,-3⟩,⟨1,2,-1⟩]⟩
theorem ex_sc:∀s∈exT,scOK s:=by
  intro s hs
  rw [List.mem_singleton.1 hs]
  exact ⟨by decide,by decide,by decide⟩
theorem ex_cl:ClausesS exT exV clE=(clL,0):=by kernel_rfl
theorem ex_zn:ZoneS exT exV [⟨lessE,true⟩,⟨two 7 (priE 0) (priE 1),false⟩]=⟨znE,[priE 0,priE 1],0⟩:=by kernel_rfl
theorem ex_same:sameCls clL clL=true:=(sameCls_iff _ _).2 rfl
theorem ex_size (e:Ex)(h:decide (sizeN e≤100)=true):sizeN e≤1048576:=Nat.le_trans (of_decide_eq_true h) (by decide)
theorem ex_sizes (l:List Ex)(h:l.all (fun e=>decide (sizeN e≤100))=true):∀e∈l,sizeN e≤1048576:=fun e he=>ex_size e (List.all_eq_true.1 h e he)
theorem ex_sizes2:∀c∈clL,∀x∈c,sizeN x.cond≤1048576:=by
  intro c hc x hx
  have h:clL.all (fun c=>c.all fun x=>decide (sizeN x.cond≤100))=true:=by kernel_rfl
  exact ex_size _ (List.all_eq_true.1 (List.all_eq_true.1 h c hc) x hx)
def verS (want:Int)(es:List Ex):Bool:=(PossibleS exT exV es).2.2 == 0&&(PossibleS exT exV es).1 == want
theorem ver_1:verS 2 [upE,downE 1]=true:=by kernel_rfl
theorem ver_2:verS 1 [upE,downE 2]=true:=by kernel_rfl
theorem ver_3:verS 2 [two 9 (symE 0) textE,two 9 (symE 1) (symE 0),notE (two 9 (symE 1) textE)]=true:=by kernel_rfl
theorem ver_4:verS 0 [countE]=true:=by kernel_rfl
theorem ver_5:verS 2 [countE,two 7 (priE 0) (priE 0)]=true:=by kernel_rfl
theorem imp_1:ImpliesS exT exV lessE (two 7 (priE 0) (numE 4))=(1,0):=by kernel_rfl
theorem imp_2:ImpliesS exT exV (two 7 (priE 0) (numE 4)) lessE=(2,0):=by kernel_rfl
/-! ### Smallness -/
def bigSc (s:Sc):Bool:=decide (20 < (s.fields.length:Int))||decide (100 < (s.name.length:Int))
def fewT (T:List Sc):Bool:=if T.any bigSc then false else decide ((T.length:Int)≤20)
def fewX (e:Ex):Bool:=decide (sizeN e≤200∧depthN e≤100)
def fewP (T:List Sc)(V:List Va)(es:List Ex):Bool:=
  if es.any (fun e=>!fewX e) then false else (fewT T&&decide ((V.length:Int)≤20))&&decide ((es.length:Int)≤10)
/-! ### Comparing -/
def sameAll (a b:List Ex):Bool:=decide (a.length=b.length)&&(a.zip b).all fun p=>sameS p.1 p.2
def sameBds:List Bd→List Bd→Bool
  | [],[]=>true
  | a::r,b::q=>(a.x == b.x&&a.y == b.y&&a.most == b.most)&&sameBds r q
  | _,_=>false
end Go.Proofs.YtkddpedfbicbeaaGreatDoor

namespace Go.Proofs.YtkddpedfbicbeaaGreatDoor
open Go Go.Aw
set_option maxHeartbeats 1600000
set_option maxRecDepth 20000
set_option linter.unusedVariables false
set_option linter.unusedSimpArgs false

theorem d_kind (T:List Sc)(V:List Va)(e:Ex)(hk:KOK T V e):APure Tryz.prog 89 [.agg (cScene T V),.agg (cE e)] (.int .i64 (kindR T V e)):=by
 refine APure.body (n:=37) tok Tryz.func89 rfl rfl rfl fun H=>?_
 refine Qsr (Qp (Qbx [_,_]) ?_)
 refine Qp Qbe ?_
 refine Qp Qai ?_
 refine Qnn (AW.seq (Qsr (Qp Qf0 ?_)))
 refine Qp Qli ?_
 refine Qnn (AW.block (AW.seq (Qsr (Qp Qceq ?_))))
 refine Qp Qab ?_
 refine Qnn (Qif (fun hc1=>?_) fun hc1=>?_)
 ·
  refine Qst (Qif (fun hc2=>?_) fun hc2=>?_)
  ·
   refine Qsr (Qp Qf5 ?_)
   refine Qp Qf5 ?_
   refine Qp Qli ?_
   refine Qp Qai ?_
   refine Qnn (AW.ret (blkR (thenR (Qr (.int .i64 _) ?_))))
   first
    | exact Eq.trans rfl (congrArg (fun q:Int=>AV.int .i64 q) hfk).symm
    | (exfalso;simp_all;done)
    | (simp_all [resOf,kindR];done)
  ·
   refine Qsr (Qp Qceq ?_)
   refine Qp Qab ?_
   refine Qnn (Qif (fun hc3=>?_) fun hc3=>?_)
   ·
    refine AW.seq ?_
    refine (kok_at hk (eq_of_beq ‹(e.op == 1)=true›)).elim fun v hv=>?_
    refine hv.elim fun s hv=>?_
    refine hv.elim fun f hv=>?_
    have hv0:=hv.1
    have hv1:=hv.2.1
    have ht0:=hv.2.2.1
    have ht1:=hv.2.2.2.1
    have hf0:=hv.2.2.2.2.1
    have hf1:=hv.2.2.2.2.2.1
    have hfk:=hv.2.2.2.2.2.2
    refine AW.draw mixed (fun _=>True) trivial (by kernel_rfl) ?_
    refine Qn 0 rfl (Qf [_,_]) ?_
    refine Qn 1 rfl Qls ?_
    refine Qn 2 rfl (Qf [_]) ?_
    refine Qn 3 rfl Qls ?_
    refine Qn 4 rfl Qf2 ?_
    refine Qn 5 rfl Qli ?_
    refine Qn 6 rfl (P_indexAddr (c:=[.str _,.int .i64 _]) tok rfl rfl rfl rfl rfl rfl (hv0) (map_at hv1)) ?_
    refine Qn 7 rfl (Qf [.int .i64 _]) ?_
    refine Qn 8 rfl Qli ?_
    refine Qn 9 rfl (P_indexAddr (c:=[.str _,_]) tok rfl rfl rfl rfl rfl rfl (ht0) (map_at ht1)) ?_
    refine Qn 10 rfl (Qf [_]) ?_
    refine Qn 11 rfl Qls ?_
    refine Qn 12 rfl Qf3 ?_
    refine Qn 13 rfl Qli ?_
    refine Qn 14 rfl (P_indexAddr (c:=[.str _,.int .i64 _]) tok rfl rfl rfl rfl rfl rfl (hf0) (map_at hf1)) ?_
    refine Qn 15 rfl (Qf [.int .i64 _]) ?_
    refine Qn 16 rfl Qli ?_
    refine Qn 17 rfl Qai ?_
    refine Canon.done _ _ (by kernel_rfl) ?_
    refine thenN (AW.ret (blkR (thenR (Qr (.int .i64 _) ?_))))
    first
     | exact Eq.trans rfl (congrArg (fun q:Int=>AV.int .i64 q) hfk).symm
     | (exfalso;simp_all;done)
     | (simp_all [resOf,kindR];done)
   ·
    refine AW.seq (Qsr (Qp Qceq ?_))
    refine Qp Qab ?_
    refine Qnn (Qif (fun hc4=>?_) fun hc4=>?_)
    ·
     refine Qst (Qif (fun hc5=>?_) fun hc5=>?_)
     ·
      refine Qsr (Qp Qai ?_)
      refine Qnn (AW.ret (blkR (thenR (Qr (.int .i64 _) ?_))))
      first
       | exact Eq.trans rfl (congrArg (fun q:Int=>AV.int .i64 q) hfk).symm
       | (exfalso;simp_all;done)
       | (simp_all [resOf,kindR];done)
     ·
      refine AW.skip (blkN (thenN (Qsr (Qp Qai ?_))))
      refine Qnn (AW.ret (Qr (.int .i64 _) ?_))
      first
       | exact Eq.trans rfl (congrArg (fun q:Int=>AV.int .i64 q) hfk).symm
       | (exfalso;simp_all;done)
       | (simp_all [resOf,kindR];done)
    ·
     refine Qsr (Qp Qceq ?_)
     refine Qp Qab ?_
     refine Qnn (Qif (fun hc6=>?_) fun hc6=>?_)
     ·
      refine Qst (Qif (fun hc7=>?_) fun hc7=>?_)
      ·
       refine Qsr (Qp Qai ?_)
       refine Qnn (AW.ret (blkR (thenR (Qr (.int .i64 _) ?_))))
       first
        | exact Eq.trans rfl (congrArg (fun q:Int=>AV.int .i64 q) hfk).symm
        | (exfalso;simp_all;done)
        | (simp_all [resOf,kindR];done)
      ·
       refine AW.skip (blkN (thenN (Qsr (Qp Qai ?_))))
       refine Qnn (AW.ret (Qr (.int .i64 _) ?_))
       first
        | exact Eq.trans rfl (congrArg (fun q:Int=>AV.int .i64 q) hfk).symm
        | (exfalso;simp_all;done)
        | (simp_all [resOf,kindR];done)
     ·
      refine Qsr (Qp Qceq ?_)
      refine Qp Qab ?_
      refine Qnn (Qif (fun hc8=>?_) fun hc8=>?_)
      ·
       refine Qst (Qif (fun hc9=>?_) fun hc9=>?_)
       ·
        refine Qsr (Qp Qai ?_)
        refine Qnn (AW.ret (blkR (thenR (Qr (.int .i64 _) ?_))))
        first
         | exact Eq.trans rfl (congrArg (fun q:Int=>AV.int .i64 q) hfk).symm
         | (exfalso;simp_all;done)
         | (simp_all [resOf,kindR];done)
       ·
        refine AW.skip (blkN (thenN (Qsr (Qp Qai ?_))))
        refine Qnn (AW.ret (Qr (.int .i64 _) ?_))
        first
         | exact Eq.trans rfl (congrArg (fun q:Int=>AV.int .i64 q) hfk).symm
         | (exfalso;simp_all;done)
         | (simp_all [resOf,kindR];done)
      ·
       refine AW.region (Qp Qceq ?_)
       refine Qp Qab ?_
       refine Qnn (Qif (fun hc10=>?_) fun hc10=>?_)
       ·
        refine Qsr (Qp Qai ?_)
        refine Qnn (AW.ret (blkR (thenR (Qr (.int .i64 _) ?_))))
        first
         | exact Eq.trans rfl (congrArg (fun q:Int=>AV.int .i64 q) hfk).symm
         | (exfalso;simp_all;done)
         | (simp_all [resOf,kindR];done)
       ·
        refine AW.skip (blkN (thenN (Qsr (Qp Qai ?_))))
        refine Qnn (AW.ret (Qr (.int .i64 _) ?_))
        first
         | exact Eq.trans rfl (congrArg (fun q:Int=>AV.int .i64 q) hfk).symm
         | (exfalso;simp_all;done)
         | (simp_all [resOf,kindR];done)
 ·
  refine AW.region (Qp Qceq ?_)
  refine Qp Qab ?_
  refine Qnn (Qif (fun hc11=>?_) fun hc11=>?_)
  ·
   refine Qsr (Qp Qf5 ?_)
   refine Qp Qf5 ?_
   refine Qp Qli ?_
   refine Qp Qai ?_
   refine Qnn (AW.ret (blkR (thenR (Qr (.int .i64 _) ?_))))
   first
    | exact Eq.trans rfl (congrArg (fun q:Int=>AV.int .i64 q) hfk).symm
    | (exfalso;simp_all;done)
    | (simp_all [resOf,kindR];done)
  ·
   refine Qsr (Qp Qceq ?_)
   refine Qp Qab ?_
   refine Qnn (Qif (fun hc12=>?_) fun hc12=>?_)
   ·
    refine AW.seq ?_
    refine (kok_at hk (eq_of_beq ‹(e.op == 1)=true›)).elim fun v hv=>?_
    refine hv.elim fun s hv=>?_
    refine hv.elim fun f hv=>?_
    have hv0:=hv.1
    have hv1:=hv.2.1
    have ht0:=hv.2.2.1
    have ht1:=hv.2.2.2.1
    have hf0:=hv.2.2.2.2.1
    have hf1:=hv.2.2.2.2.2.1
    have hfk:=hv.2.2.2.2.2.2
    refine AW.draw mixed (fun _=>True) trivial (by kernel_rfl) ?_
    refine Qn 0 rfl (Qf [_,_]) ?_
    refine Qn 1 rfl Qls ?_
    refine Qn 2 rfl (Qf [_]) ?_
    refine Qn 3 rfl Qls ?_
    refine Qn 4 rfl Qf2 ?_
    refine Qn 5 rfl Qli ?_
    refine Qn 6 rfl (P_indexAddr (c:=[.str _,.int .i64 _]) tok rfl rfl rfl rfl rfl rfl (hv0) (map_at hv1)) ?_
    refine Qn 7 rfl (Qf [.int .i64 _]) ?_
    refine Qn 8 rfl Qli ?_
    refine Qn 9 rfl (P_indexAddr (c:=[.str _,_]) tok rfl rfl rfl rfl rfl rfl (ht0) (map_at ht1)) ?_
    refine Qn 10 rfl (Qf [_]) ?_
    refine Qn 11 rfl Qls ?_
    refine Qn 12 rfl Qf3 ?_
    refine Qn 13 rfl Qli ?_
    refine Qn 14 rfl (P_indexAddr (c:=[.str _,.int .i64 _]) tok rfl rfl rfl rfl rfl rfl (hf0) (map_at hf1)) ?_
    refine Qn 15 rfl (Qf [.int .i64 _]) ?_
    refine Qn 16 rfl Qli ?_
    refine Qn 17 rfl Qai ?_
    refine Canon.done _ _ (by kernel_rfl) ?_
    refine thenN (AW.ret (blkR (thenR (Qr (.int .i64 _) ?_))))
    first
     | exact Eq.trans rfl (congrArg (fun q:Int=>AV.int .i64 q) hfk).symm
     | (exfalso;simp_all;done)
     | (simp_all [resOf,kindR];done)
   ·
    refine AW.seq (Qsr (Qp Qceq ?_))
    refine Qp Qab ?_
    refine Qnn (Qif (fun hc13=>?_) fun hc13=>?_)
    ·
     refine Qst (Qif (fun hc14=>?_) fun hc14=>?_)
     ·
      refine Qsr (Qp Qai ?_)
      refine Qnn (AW.ret (blkR (thenR (Qr (.int .i64 _) ?_))))
      first
       | exact Eq.trans rfl (congrArg (fun q:Int=>AV.int .i64 q) hfk).symm
       | (exfalso;simp_all;done)
       | (simp_all [resOf,kindR];done)
     ·
      refine AW.skip (blkN (thenN (Qsr (Qp Qai ?_))))
      refine Qnn (AW.ret (Qr (.int .i64 _) ?_))
      first
       | exact Eq.trans rfl (congrArg (fun q:Int=>AV.int .i64 q) hfk).symm
       | (exfalso;simp_all;done)
       | (simp_all [resOf,kindR];done)
    ·
     refine Qsr (Qp Qceq ?_)
     refine Qp Qab ?_
     refine Qnn (Qif (fun hc15=>?_) fun hc15=>?_)
     ·
      refine Qst (Qif (fun hc16=>?_) fun hc16=>?_)
      ·
       refine Qsr (Qp Qai ?_)
       refine Qnn (AW.ret (blkR (thenR (Qr (.int .i64 _) ?_))))
       first
        | exact Eq.trans rfl (congrArg (fun q:Int=>AV.int .i64 q) hfk).symm
        | (exfalso;simp_all;done)
        | (simp_all [resOf,kindR];done)
      ·
       refine AW.skip (blkN (thenN (Qsr (Qp Qai ?_))))
       refine Qnn (AW.ret (Qr (.int .i64 _) ?_))
       first
        | exact Eq.trans rfl (congrArg (fun q:Int=>AV.int .i64 q) hfk).symm
        | (exfalso;simp_all;done)
        | (simp_all [resOf,kindR];done)
     ·
      refine Qsr (Qp Qceq ?_)
      refine Qp Qab ?_
      refine Qnn (Qif (fun hc17=>?_) fun hc17=>?_)
      ·
       refine Qst (Qif (fun hc18=>?_) fun hc18=>?_)
       ·
        refine Qsr (Qp Qai ?_)
        refine Qnn (AW.ret (blkR (thenR (Qr (.int .i64 _) ?_))))
        first
         | exact Eq.trans rfl (congrArg (fun q:Int=>AV.int .i64 q) hfk).symm
         | (exfalso;simp_all;done)
         | (simp_all [resOf,kindR];done)
       ·
        refine AW.skip (blkN (thenN (Qsr (Qp Qai ?_))))
        refine Qnn (AW.ret (Qr (.int .i64 _) ?_))
        first
         | exact Eq.trans rfl (congrArg (fun q:Int=>AV.int .i64 q) hfk).symm
         | (exfalso;simp_all;done)
         | (simp_all [resOf,kindR];done)
      ·
       refine AW.region (Qp Qceq ?_)
       refine Qp Qab ?_
       refine Qnn (Qif (fun hc19=>?_) fun hc19=>?_)
       ·
        refine Qsr (Qp Qai ?_)
        refine Qnn (AW.ret (blkR (thenR (Qr (.int .i64 _) ?_))))
        first
         | exact Eq.trans rfl (congrArg (fun q:Int=>AV.int .i64 q) hfk).symm
         | (exfalso;simp_all;done)
         | (simp_all [resOf,kindR];done)
       ·
        refine AW.skip (blkN (thenN (Qsr (Qp Qai ?_))))
        refine Qnn (AW.ret (Qr (.int .i64 _) ?_))
        first
         | exact Eq.trans rfl (congrArg (fun q:Int=>AV.int .i64 q) hfk).symm
         | (exfalso;simp_all;done)
         | (simp_all [resOf,kindR];done)
theorem d_compares (e:Ex):APure Tryz.prog 135 [.agg (cE e)] (.bool (comparesS e)):=by
 refine APure.body (n:=16) tok Tryz.func135 rfl rfl rfl fun H=>?_
 refine Qsr (Qp Qbe ?_)
 refine Qp Qab ?_
 refine Qns (Qp Qf0 ?_)
 refine Qp Qli ?_
 refine Qp Qceq ?_
 refine Qp Qmb ?_
 refine Qg [] Qw Qf0 ?_
 refine Qg [(7,_)] Qw Qli ?_
 refine Qg [(8,_)] Qw Qceq ?_
 refine Qp Qpo ?_
 refine Qp Qmb ?_
 refine Qg [] Qw Qf0 ?_
 refine Qg [(12,_)] Qw Qli ?_
 refine Qg [(13,_)] Qw Qceq ?_
 refine Qp Qpo ?_
 refine Qp Qab ?_
 refine Qnn (AW.ret (Qr (.bool _) ?_))
 rfl
theorem d_expr (t:Tm):APure Tryz.prog 81 [.agg (cTm t)] (.agg (cE (tmE t))):=by
 refine APure.body (n:=10) tok Tryz.func81 rfl rfl rfl fun H=>?_
 refine Qsr (Qp (Qbx [.int .i64 _,.int .i64 _,.int .i64 _]) ?_)
 refine Qe (E_alloc (l:=[.int .i64 0,.sl 8 [],.int .i64 0,.int .i64 0,.int .i64 0,.int .i64 0,.int .i64 0,.str []]) (by kernel_rfl)) ?_
 rintro _ _ ⟨b2,rfl,rfl⟩
 refine Qns (Qp (Qf [.int .i64 _,.int .i64 _,.int .i64 _]) ?_)
 refine Qp Qli ?_
 refine Qp (Qf [.int .i64 _,.int .i64 _]) ?_
 refine Qp Qli ?_
 refine Qp (Qf [.int .i64 _]) ?_
 refine Qp Qli ?_
 refine Qp (Qbd [.int .i64 _,_,.int .i64 _,.int .i64 _,.int .i64 _,.int .i64 _,.int .i64 _,.str _]) ?_
 refine Qe (E_store (k:=0) (v:=.agg _) (cs':=[.int .i64 _,_,.int .i64 _,.int .i64 _,.int .i64 _,.int .i64 _,.int .i64 _,.str _]) (H2:=_::_) tok rfl rfl rfl rfl (rfl) rfl rfl rfl rfl) ?_
 rintro _ _ ⟨rfl,rfl⟩
 refine Qnn (AW.ret ?_)
 refine ⟨.inr rfl,[.agg [.int .i64 _,_,.int .i64 _,.int .i64 _,.int .i64 _,.int .i64 _,.int .i64 _,.str _]],.cons (.box _ _ _ 0 _ _ _ _ rfl rfl rfl rfl rfl rfl) <| .nil,.cons _ (.refl _),?_⟩
 rfl
theorem d_direct (e:Ex):APure Tryz.prog 134 [.agg (cE e)] (.bool (directS e)):=by
 refine APure.body (n:=11) tok Tryz.func134 rfl rfl rfl fun H=>?_
 refine Qsr (Qp Qbe ?_)
 refine Qp Qab ?_
 refine Qns (Qp Qf0 ?_)
 refine Qp Qli ?_
 refine Qp Qceq ?_
 refine Qp Qmb ?_
 refine Qg [] Qw Qf0 ?_
 refine Qg [(7,_)] Qw Qli ?_
 refine Qg [(8,_)] Qw Qceq ?_
 refine Qp Qpo ?_
 refine Qp Qab ?_
 refine Qnn (AW.ret (Qr (.bool _) ?_))
 rfl
theorem d_condition (T:List Sc)(hl:T.length≤1048576)(hst:∀s∈T,scOK s)(V:List Va)(hvl:V.length≤1048576)(e:Ex)(hse:sizeN e≤1048576):APure Tryz.prog 49 [.agg (cScene T V),.agg (cE e)] (.int .i64 (condE T V e)):=by
 refine APure.body (n:=21) tok Tryz.func49 rfl rfl rfl fun H=>?_
 refine Qsr (Qp (Qbx [_,_]) ?_)
 refine Qp Qbe ?_
 refine Qp Qai ?_
 refine Qns (Qp (Qf [_,_]) ?_)
 refine Qp Qls ?_
 refine Qp (Qf [_]) ?_
 refine Qp Qls ?_
 refine Qp Qle ?_
 refine Qp (Qc rfl (c31 T hl hst V hvl e hse)) ?_
 refine Qp Qmu ?_
 refine Qp Qxi ?_
 refine Qp Qxi ?_
 refine Qp Qai ?_
 refine Qp Qai ?_
 refine Qnn (AW.seq (Qsr (Qp Qmi ?_)))
 refine Qp Qcne ?_
 refine Qnn (Qif (fun hc1=>?_) fun hc1=>?_)
 ·
  refine Qsr (Qp Qmi ?_)
  refine Qp Qai ?_
  refine Qnn (Qrt (Qr (.int .i64 _) ?_))
  exact Eq.trans rfl (congrArg (fun q:Int=>AV.int .i64 q) (condE_1 hc1)).symm
 ·
  refine Qst (AW.seq (Qsr (Qp Qmi ?_)))
  refine Qp Qcne ?_
  refine Qnn (Qif (fun hc2=>?_) fun hc2=>?_)
  ·
   refine Qsr (Qp Qai ?_)
   refine Qnn (Qrt (Qr (.int .i64 _) ?_))
   exact Eq.trans rfl (congrArg (fun q:Int=>AV.int .i64 q) (condE_2 hc1 hc2)).symm
  ·
   refine Qst (Qsr (Qp Qai ?_))
   refine Qnn (AW.ret (Qr (.int .i64 _) ?_))
   exact Eq.trans rfl (congrArg (fun q:Int=>AV.int .i64 q) (condE_3 hc1 hc2)).symm
theorem d_texts (T:List Sc)(V:List Va)(e:Ex)(hk:KOK T V e):APure Tryz.prog 136 [.agg (cScene T V),.agg (cE e)] (.bool (textsS T V e)):=by
 refine APure.body (n:=17) tok Tryz.func136 rfl rfl rfl fun H=>?_
 refine Qsr (Qp (Qbx [_,_]) ?_)
 refine Qp Qbe ?_
 refine Qp Qab ?_
 refine Qnn (AW.seq ?_)
 refine AW.draw mixed (fun _=>True) trivial (by kernel_rfl) ?_
 refine Qn 0 rfl Qf0 ?_
 refine Qn 1 rfl Qli ?_
 refine Qn 2 rfl Qceq ?_
 refine Qn 3 rfl Qmb ?_
 refine Qo 4 rfl [] Qw (Qlg [_,_]) ?_
 refine Qo 5 rfl [] Qw Qf1 ?_
 refine Qo 6 rfl [(10,_)] Qw Qls ?_
 refine Canon.pure _ _ 7 _ _ rfl (by kernel_rfl) (by kernel_rfl) rfl (.opt _ (.ptr _) [(11,_)] rfl (EntL.all ⟨Ent.self _ _,trivial⟩) (fun hG=>P_indexAddr (c:=[.int .i64 _,_,.int .i64 _,.int .i64 _,.int .i64 _,.int .i64 _,.int .i64 _,.str _]) tok rfl rfl rfl rfl rfl rfl (by decide) (arg0_at (Nat.lt_of_succ_lt (g9 hk hG)))) rfl) ?_
 refine Qo 8 rfl [(12,_)] Qw Qle ?_
 refine Canon.pure _ _ 9 _ _ rfl (by kernel_rfl) (by kernel_rfl) rfl (.opt _ (.int .i64 _) [(9,_),(13,_)] rfl (EntL.all ⟨Ent.self _ _,Ent.self _ _,trivial⟩) (fun hG=>P_callf (by kernel_rfl) rfl rfl (d_kind T V _ (kok_arg hk (arg0_mem (Nat.lt_of_succ_lt (g9 hk hG)))))) rfl) ?_
 refine Qo 10 rfl [(14,_)] Qw Qceq ?_
 refine Qn 11 rfl Qpa ?_
 refine Qn 12 rfl Qab ?_
 refine Canon.done _ _ (by kernel_rfl) ?_
 refine thenN (AW.ret (Qr (.bool _) ?_))
 rfl
theorem d_composed (T:List Sc)(V:List Va)(e:Ex)(hk:KOK T V e):APure Tryz.prog 83 [.agg (cScene T V),.agg (cE e)] (.bool (composedS T V e)):=by
 refine APure.body (n:=21) tok Tryz.func83 rfl rfl rfl fun H=>?_
 refine Qsr (Qp (Qbx [_,_]) ?_)
 refine Qp Qbe ?_
 refine Qp Qab ?_
 refine Qnn (AW.seq (Qsr (Qp Qf0 ?_)))
 refine Qp Qli ?_
 refine Qnn (AW.block (Qsr (Qp Qceq ?_)))
 refine Qp Qab ?_
 refine Qnn (Qif (fun hc1=>?_) fun hc1=>?_)
 ·
  refine AW.seq ?_
  have h2:=l9 hk ‹(e.op == 9)=true›
  have h00:0 < e.args.length:=by omega
  refine AW.draw mixed (fun _=>True) trivial (by kernel_rfl) ?_
  refine Qn 0 rfl (Qlg [_,_]) ?_
  refine Qn 1 rfl Qf1 ?_
  refine Qn 2 rfl Qls ?_
  refine Qn 3 rfl (P_indexAddr (c:=[.int .i64 _,_,.int .i64 _,.int .i64 _,.int .i64 _,.int .i64 _,.int .i64 _,.str _]) tok rfl rfl rfl rfl rfl rfl (by decide) (arg0_at h00)) ?_
  refine Qn 4 rfl Qle ?_
  refine Qn 5 rfl (Qc rfl (d_kind T V _ (kok_arg hk (arg0_mem h00)))) ?_
  refine Qn 6 rfl Qceq ?_
  refine Qn 7 rfl Qab ?_
  refine Canon.done _ _ (by kernel_rfl) ?_
  refine thenN (AW.ret (blkR (thenR (Qr (.bool _) ?_))))
  first
   | (exfalso;simp_all;done)
   | (simp_all [resOf,composedS];done)
 ·
  refine AW.seq (Qsr (Qp Qceq ?_))
  refine Qp Qab ?_
  refine Qnn (Qif (fun hc2=>?_) fun hc2=>?_)
  ·
   refine Qst (Qif (fun hc3=>?_) fun hc3=>?_)
   ·
    refine Qsr (Qp Qab ?_)
    refine Qnn (AW.ret (blkR (thenR (Qr (.bool _) ?_))))
    first
     | (exfalso;simp_all;done)
     | (simp_all [resOf,composedS];done)
   ·
    refine AW.skip (blkN (thenN (Qsr (Qp Qab ?_))))
    refine Qnn (AW.ret (Qr (.bool _) ?_))
    first
     | (exfalso;simp_all;done)
     | (simp_all [resOf,composedS];done)
  ·
   refine Qsr (Qp Qceq ?_)
   refine Qp Qab ?_
   refine Qnn (Qif (fun hc4=>?_) fun hc4=>?_)
   ·
    refine Qst (Qif (fun hc5=>?_) fun hc5=>?_)
    ·
     refine Qsr (Qp Qab ?_)
     refine Qnn (AW.ret (blkR (thenR (Qr (.bool _) ?_))))
     first
      | (exfalso;simp_all;done)
      | (simp_all [resOf,composedS];done)
    ·
     refine AW.skip (blkN (thenN (Qsr (Qp Qab ?_))))
     refine Qnn (AW.ret (Qr (.bool _) ?_))
     first
      | (exfalso;simp_all;done)
      | (simp_all [resOf,composedS];done)
   ·
    refine Qsr (Qp Qceq ?_)
    refine Qp Qab ?_
    refine Qnn (Qif (fun hc6=>?_) fun hc6=>?_)
    ·
     refine Qst (Qif (fun hc7=>?_) fun hc7=>?_)
     ·
      refine Qsr (Qp Qab ?_)
      refine Qnn (AW.ret (blkR (thenR (Qr (.bool _) ?_))))
      first
       | (exfalso;simp_all;done)
       | (simp_all [resOf,composedS];done)
     ·
      refine AW.skip (blkN (thenN (Qsr (Qp Qab ?_))))
      refine Qnn (AW.ret (Qr (.bool _) ?_))
      first
       | (exfalso;simp_all;done)
       | (simp_all [resOf,composedS];done)
    ·
     refine AW.region (Qp Qceq ?_)
     refine Qp Qab ?_
     refine Qnn (Qif (fun hc8=>?_) fun hc8=>?_)
     ·
      refine Qsr (Qp Qab ?_)
      refine Qnn (AW.ret (blkR (thenR (Qr (.bool _) ?_))))
      first
       | (exfalso;simp_all;done)
       | (simp_all [resOf,composedS];done)
     ·
      refine AW.skip (blkN (thenN (Qsr (Qp Qab ?_))))
      refine Qnn (AW.ret (Qr (.bool _) ?_))
      first
       | (exfalso;simp_all;done)
       | (simp_all [resOf,composedS];done)

end Go.Proofs.YtkddpedfbicbeaaGreatDoor
