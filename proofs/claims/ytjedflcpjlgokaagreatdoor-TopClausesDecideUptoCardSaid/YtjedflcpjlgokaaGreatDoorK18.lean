/-
  Several texts in one: S34, S35, S36, S37, S39, S42, S41. No condition.
-/
import Derived.Test.YtjedflcpjlgokaaGreatDoorK17
import Derived.Test.YtjedflcpjlgokaaGreatDoorK03
set_option linter.unusedVariables false
set_option linter.unusedSimpArgs false
namespace Go.Proofs.YtjedflcpjlgokaaGreatDoor
open Go Go.Aw

def okI (v:Vl):Prop:=v.kind=0→v.text = []
section
variable {T:List Sc} {V:List Va} {env:List (List Ev)}
theorem qK (hS:J8 T V env){e:Ex}(hz:Bq e=0)(ha:e.args = [])(hk:(Fa T V e).2=0):okI (La ⟨env,-1,Ms⟩ e).1:=by
 have hvr:=Lo hz
 have hfr:=Ki hz
 have key:∀{w:Vl},Ao w=0→okI w:=fun h hk=>(E6 h hk).1
 unfold Fa at hk
 by_cases h0:(e.op==0)=true
 · unfold La;rw [if_pos h0];exact key (Nz hz (by simpa using h0)).1
 rw [if_neg h0] at hk
 by_cases h1:decide ((V.length:Int)≤e.var)=true
 · rw [if_pos h1] at hk;cases hk
 rw [if_neg h1] at hk
 have hlt:e.var<(V.length:Int):=by simp at h1;omega
 obtain ⟨v,hv⟩:=Hm (l:=V) hvr.1 hlt
 obtain ⟨s,ev,hs,hev,hse⟩:=hS.2 _ v hv
 have hel:e.var<(env.length:Int):=by rw [hS.1];exact hlt
 have hevs:Cz env e.var = [ev]:=by
  unfold Cz
  rw [if_neg (by simp;omega),hev];rfl
 have hown:(e.var != -1)=true:=by simp;omega
 have hfl:E1 T V e.var=s.fields:=aP hv hs
 rw [hfl] at hk
 by_cases h3:e.op=3
 ·
  unfold La
  rw [if_neg h0,if_pos (by simp [h3])]
  exact fun _=>rfl
 by_cases h2:e.op=2
 ·
  rw [K3 hevs hown h0 h3 (by omega)]
  unfold Pv
  rw [if_pos (by simp [h2])]
  exact fun _=>rfl
 rw [if_neg (by simp [h2,h3])] at hk
 by_cases h4:decide ((s.fields.length:Int)≤e.field)=true
 · rw [if_pos h4] at hk;cases hk
 rw [if_neg h4] at hk
 obtain ⟨f,hf⟩:=Hm (l:=s.fields) hfr (by simp at h4;omega)
 obtain ⟨w,hw,hgw⟩:=hse.2 _ f hf
 have hka:Ga s.fields e.field=f.kind:=by simp [Ga,hf]
 have hfs:Gb ev e.field=(w,0):=by
  unfold Gb
  rw [if_neg (by rw [hse.1];exact h4),hw];rfl
 rw [hka] at hk
 by_cases h5:e.op=4
 ·
  by_cases h6:(e.op==4&&(f.kind != e.val.kind || !C9 e.kind ⟨f.kind,0,[]⟩))=true
  · rw [if_pos h6] at hk;cases hk
  have htw:=Sq hz h5
  have hes:C9 e.kind w=true:=by
   simp [h5] at h6
   have:=h6.2
   unfold C9 at this ⊢
   rw [hgw.1];exact this
  unfold La gJ
  rw [if_neg h0,if_neg (by simp [h3]),if_pos (by simp [h5]),hevs]
  have e1:At (fun v=>(Gb v e.field).2) [ev]=0:=by simp [At,hfs]
  rw [if_neg (by rw [e1];decide)]
  have e2:([ev].map fun v=>(Gb v e.field).1) = [w]:=by simp [hfs]
  rw [e2,Xt ⟨htw.2.1,htw.2.2⟩ hgw.2 hes htw.1]
  exact key hgw.2
 ·
  rw [K3 hevs hown h0 h3 h5]
  unfold Pv
  rw [if_neg (by simp [h2]),hfs,if_pos (by rfl),if_neg (by rw [hgw.2];decide)]
  exact key hgw.2
theorem mS (op a b:Int):okI (Nk op a b):=by
 unfold Nk
 intro h
 split
 · rfl
 split
 · rfl
 all_goals (rename_i h5 h6;rw [Cu (Bool.eq_false_iff.2 h5),Cu (Bool.eq_false_iff.2 h6)] at h;repeat' split at h) <;> exact absurd h (by rw [On];decide)
theorem Ue (hS:J8 T V env){e:Ex}(hk:KOK T V e)(ha:e.args≠[]):C6 ⟨env,-1,Ms⟩ e=U1 e.op (e.args.map fun a=>(C6 ⟨env,-1,Ms⟩ a).1):=
 Vp ha fun a hm=>(U6 hS a (An hk hm).nodes (An hk hm).kind).1
theorem eS (hS:J8 T V env){e:Ex}(hk:KOK T V e):okI (C6 ⟨env,-1,Ms⟩ e).1:=by
 by_cases ha:e.args = []
 ·
  have h:=hk.kind
  rw [Ec,if_pos (by simp [ha])] at h
  rw [N1 ha];exact qK hS (A9 hk.nodes).1 ha h
 ·
  rw [Ue hS hk ha]
  unfold U1
  split
  · exact fun _=>rfl
  split
  · exact fun h=>absurd h (by rw [On];decide)
  · exact mS _ _ _
def tv (env:List (List Ev))(e:Ex):Bool:=(C6 ⟨env,-1,Ms⟩ e).1.num==1
theorem tI (hS:J8 T V env){e:Ex}(hk:KOK T V e)(ha:e.args≠[]) :
  (C6 ⟨env,-1,Ms⟩ e).1=if e.op==9 then Fo (eqV (((e.args.map fun a=>(C6 ⟨env,-1,Ms⟩ a).1)).headD v0) (((e.args.map fun a=>(C6 ⟨env,-1,Ms⟩ a).1)[1]?).getD v0)) else Nk e.op ((e.args.map fun a=>(C6 ⟨env,-1,Ms⟩ a).1).headD v0).num ((e.args.map fun a=>(C6 ⟨env,-1,Ms⟩ a).1).getLastD v0).num:=by
 have h2:=(U6 hS e hk.nodes hk.kind).1
 rw [Ue hS hk ha] at h2 ⊢
 unfold U1 at h2 ⊢
 by_cases h:(Du e.op ((e.args.map fun a=>(C6 ⟨env,-1,Ms⟩ a).1).map (·.kind)) != 0)=true
 · rw [if_pos h] at h2;simp only at h2;rw [h2] at h;cases h
 ·
  rw [if_neg h]
  split <;> rfl
theorem Rn {e:Ex}(hl:e.args.length=2):e.args = [Ap e,B3 e]:=by
 unfold Ap B3
 match h:e.args,hl with
 | [a,b],_=>rfl
theorem Ye {e:Ex}(hl:e.args.length=1):e.args = [Ap e]:=by
 unfold Ap
 match h:e.args,hl with
 | [a],_=>rfl
theorem Wu {e:Ex}(hk:KOK T V e)(h5:5≤e.op)(h:e.op≤11):e.args.length=2:=by
 obtain ⟨_,_,h2⟩:=Fw (A9 hk.nodes).1
 unfold Dp at h2
 rw [if_neg (by omega),if_neg (by omega),if_neg (by omega)] at h2
 omega
theorem len1 {e:Ex}(hk:KOK T V e)(h:e.op=12):e.args.length=1:=by
 obtain ⟨_,_,h2⟩:=Fw (A9 hk.nodes).1
 rw [h] at h2
 have:Dp 12=1:=by decide
 rw [this] at h2;omega
def vl (env:List (List Ev))(e:Ex):Vl:=(C6 ⟨env,-1,Ms⟩ e).1
theorem vl_def (env:List (List Ev))(e:Ex):(C6 ⟨env,-1,Ms⟩ e).1=vl env e:=rfl
theorem Tv (hS:J8 T V env){e:Ex}(hk:KOK T V e)(h5:5≤e.op)(h:e.op≤11):vl env e=if e.op==9 then Fo (eqV (vl env (Ap e)) (vl env (B3 e))) else Nk e.op (vl env (Ap e)).num (vl env (B3 e)).num:=by
 have hl:=Wu hk h5 h
 have h1:=tI hS hk (by intro hn;rw [hn] at hl;cases hl)
 rw [Rn hl] at h1
 exact h1
theorem T9 (b:Bool):((Fo b).num==1)=b:=by cases b <;> rfl
theorem uQ (hS:J8 T V env){e:Ex}(hk:KOK T V e)(h:e.op=7):tv env e=decide ((vl env (Ap e)).num<(vl env (B3 e)).num):=by
 show ((vl env e).num==1)=_;rw [Tv hS hk (by omega) (by omega),h];exact T9 _
theorem tw_leq (hS:J8 T V env){e:Ex}(hk:KOK T V e)(h:e.op=8):tv env e=decide ((vl env (Ap e)).num≤(vl env (B3 e)).num):=by
 show ((vl env e).num==1)=_;rw [Tv hS hk (by omega) (by omega),h];exact T9 _
theorem tw_eq (hS:J8 T V env){e:Ex}(hk:KOK T V e)(h:e.op=9):tv env e=eqV (vl env (Ap e)) (vl env (B3 e)):=by
 show ((vl env e).num==1)=_;rw [Tv hS hk (by omega) (by omega),h];exact T9 _
theorem Uv (hS:J8 T V env){e:Ex}(hk:KOK T V e):(vl env e).kind=Ak T V e:=by
 rw [←Jg hk];exact (U6 hS e hk.nodes hk.kind).2
theorem Aas (hS:J8 T V env){e:Ex}(hk:KOK T V e)(h:e.op=9)(h1:Ak T V (Ap e)=0):tv env e=((vl env (Ap e)).num==(vl env (B3 e)).num):=by
 have hl:=Wu hk (by omega) (by omega)
 have m0:=Ax (show 0<e.args.length by omega)
 have m1:=Bf (show 1<e.args.length by omega)
 have k0:=An hk m0
 have k1:=An hk m1
 rw [tw_eq hS hk h]
 have a0:=(Uv hS k0).trans h1
 have a1:=(Uv hS k1).trans ((Lf hk h m1).trans h1)
 have b0:=eS hS k0 a0
 have b1:=eS hS k1 a1
 rw [Bool.eq_iff_iff,uJ]
 constructor
 · intro h;rw [h];simp
 ·
  intro h
  have h':(vl env (Ap e)).num=(vl env (B3 e)).num:=by simpa using h
  have c0:(vl env (Ap e)).text = []:=b0
  have c1:(vl env (B3 e)).text = []:=b1
  revert h' a0 a1 c0 c1
  generalize vl env (Ap e)=v
  generalize vl env (B3 e)=w
  intro a0 a1 c0 c1 h'
  cases v;cases w
  simp_all
end

section
variable {T:List Sc} {V:List Va} {env:List (List Ev)}
def gY (env:List (List Ev))(y:Lit):Bool:=tv env y.cond != y.neg
def clT (env:List (List Ev))(c:List Lit):Bool:=c.all (gY env)
def csT (env:List (List Ev))(l:List (List Lit)):Bool:=l.any (clT env)
theorem J4 {e:Ex}(hk:KOK T V e){a:Ex}(ha:a∈e.args)(ho:e.op=10∨e.op=11∨e.op=12):Ak T V a=1:=by
 have h1:=Pq hk ha
 unfold Mp at h1
 rcases ho with h | h | h <;> rw [h] at h1 <;> simpa using h1
end

section
variable {T:List Sc} {V:List Va} {env:List (List Ev)}
theorem Ym {op:Int}(a b:Ex)(h:op=7∨op=8∨op=10∨op=11):KOK T V (two op a b)→Ak T V (two op a b)=1:=fun hk=>by
 rw [←Jg hk,(Q5 hk (by simp [two])).2.2]
 rcases h with h | h | h | h <;> subst h <;> rfl
theorem Pi {e a:Ex}(h:a∈e.args):Ch a<Ch e:=by
  have key:∀{l:List Ex},a∈l→Ch a≤(l.map Ch).foldr max 0:=by
    intro l
    induction l with
    | nil=>intro h;cases h
    | cons b r ih=>
      intro h
      simp only [List.map_cons,List.foldr_cons]
      rcases List.mem_cons.1 h with rfl | h
      · omega
      · have:=ih h;omega
  rw [J3 e]
  have:=key h
  omega
theorem Xn (op:Int)(a b:Ex):Ch (two op a b)=max (Ch a) (Ch b)+1:=by
 rw [J3];simp [two]
def Tb (n:Nat)(c:Cs):Prop:=∀x∈c.1,∀y∈x,Ch y.cond≤n
theorem lR {n m:Nat}{c:Cs}(h:Tb n c)(hm:n≤m):Tb m c:=fun x hx y hy=>Nat.le_trans (h x hx y hy) hm
theorem O7 {n:Nat}{a b:Cs}(ha:Tb n a)(hb:Tb n b):Tb n (Dy a b):=by
 unfold Dy
 split
 · intro x hx;cases hx
 ·
  unfold Kg
  split
  · intro x hx;cases hx
  ·
   intro x hx y hy
   obtain ⟨p,hp,hm⟩:=List.mem_flatMap.1 hx
   obtain ⟨q,hq,rfl⟩:=List.mem_map.1 hm
   rcases List.mem_append.1 hy with h | h
   · exact ha p hp y h
   · exact hb q hq y h
theorem Xp {n:Nat}{a b:Cs}(ha:Tb n a)(hb:Tb n b):Tb n (Hf a b):=by
 unfold Hf
 split
 · intro x hx;cases hx
 ·
  intro x hx y hy
  rcases List.mem_append.1 hx with h | h
  · exact ha x h y hy
  · exact hb x h y hy
theorem Se {n:Nat}{l:List Lit}(h:∀y∈l,Ch y.cond≤n):Tb n (Dn l):=by
 intro x hx y hy
 unfold Dn at hx
 obtain ⟨z,hz,rfl⟩:=List.mem_map.1 hx
 rw [List.mem_singleton.1 hy]
 exact h z hz
theorem gI (e:Ex):KOK T V e→∀s,Tb (Ch e) (Bw T V e s):=by
 refine Ex.Aa8 (P:=fun e=>KOK T V e→∀s,Tb (Ch e) (Bw T V e s)) (fun e ih hk s=>?_) e
 have dl:∀{a:Ex},a∈e.args→∀t,Tb (Ch e) (Bw T V a t):=fun ha t=>lR (ih _ ha (An hk ha) t) (Nat.le_of_lt (Pi ha))
 rcases Gz s hk with h | ⟨h,hl⟩ | ⟨h,hl⟩ | ⟨h,hl,h1⟩ | ⟨h,hl,h1,h2⟩ | ⟨_,_,_,h,_⟩
 ·
  cases h1:((e.val.num==1)==s) with
  | true=>rw [Eh h h1];intro x hx y hy;rw [List.mem_singleton.1 hx] at hy;cases hy
  | false=>rw [Ef h h1];intro x hx;cases hx
 · rw [Ed hl h];exact dl (Ax hl) _
 ·
  have m0:=Ax (show 0<e.args.length by omega)
  have m1:=Bf hl
  cases h1:((e.op==10)==s) with
  | true=>rw [Ei hl h h1];exact O7 (dl m0 _) (dl m1 _)
  | false=>rw [Eg hl h h1];exact Xp (dl m0 _) (dl m1 _)
 ·
  have m0:=Ax (show 0<e.args.length by omega)
  have m1:=Bf hl
  rw [Ej hl h h1]
  exact Xp (O7 (dl m0 _) (dl m1 _)) (O7 (dl m0 _) (dl m1 _))
 ·
  have m0:=Ax (show 0<e.args.length by omega)
  have m1:=Bf hl
  have d0:=Pi m0
  have d1:=Pi m1
  rw [Ee h h1 h2]
  refine Se fun y hy=>?_
  rcases List.mem_cons.1 hy with rfl | hy
  · simp only;rw [Xn];omega
  · rw [List.mem_singleton.1 hy];simp only;rw [Xn];omega
 ·
  rw [h]
  exact Se fun y hy=>by rw [List.mem_singleton.1 hy];exact Nat.le_refl _
theorem U5 {e:Ex}(hk:KC T V e)(s:Bool):∀c∈(Bw T V e s).1,∀y∈c,KOK T V y.cond∧Bp y.cond=0:=fun c hc y hy=>by
 have h:=cZ hk.check
 have h1:=Oo e hk.kok s c hc y hy
 have h2:=gI e hk.kok s c hc y hy
 exact ⟨h1.1,qA (by omega) (by omega) h1.1.nodes⟩
def Zl (T:List Sc)(V:List Va)(c:Cs):Prop:=∀x∈c.1,∀y∈x,Ak T V y.cond=1
theorem Ph {a b:Cs}(ha:Zl T V a)(hb:Zl T V b):Zl T V (Dy a b):=by
 unfold Dy
 split
 · intro x hx;cases hx
 ·
  unfold Kg
  split
  · intro x hx;cases hx
  ·
   intro x hx y hy
   obtain ⟨p,hp,hm⟩:=List.mem_flatMap.1 hx
   obtain ⟨q,hq,rfl⟩:=List.mem_map.1 hm
   rcases List.mem_append.1 hy with h | h
   · exact ha p hp y h
   · exact hb q hq y h
theorem Yn {a b:Cs}(ha:Zl T V a)(hb:Zl T V b):Zl T V (Hf a b):=by
 unfold Hf
 split
 · intro x hx;cases hx
 ·
  intro x hx y hy
  rcases List.mem_append.1 hx with h | h
  · exact ha x h y hy
  · exact hb x h y hy
theorem Sp {l:List Lit}(h:∀y∈l,Ak T V y.cond=1):Zl T V (Dn l):=by
 intro x hx y hy
 unfold Dn at hx
 obtain ⟨z,hz,rfl⟩:=List.mem_map.1 hx
 rw [List.mem_singleton.1 hy]
 exact h z hz
theorem gV (e:Ex):KOK T V e→Ak T V e=1→∀s,Zl T V (Bw T V e s):=by
 refine Ex.Aa8 (P:=fun e=>KOK T V e→Ak T V e=1→∀s,Zl T V (Bw T V e s)) (fun e ih hk hr s=>?_) e
 rcases Gz s hk with h | ⟨h,hl⟩ | ⟨h,hl⟩ | ⟨h,hl,h1⟩ | ⟨h,hl,h1,h2⟩ | ⟨_,_,_,h,_⟩
 ·
  cases h1:((e.val.num==1)==s) with
  | true=>rw [Eh h h1];intro x hx y hy;rw [List.mem_singleton.1 hx] at hy;cases hy
  | false=>rw [Ef h h1];intro x hx;cases hx
 ·
  have m0:=Ax hl
  rw [Ed hl h];exact ih _ m0 (An hk m0) (J4 hk m0 (.inr (.inr (by simpa using h)))) _
 ·
  have m0:=Ax (show 0<e.args.length by omega)
  have m1:=Bf hl
  have ho:e.op=10∨e.op=11:=by simpa using h
  have i0:=ih _ m0 (An hk m0) (J4 hk m0 (by omega)) s
  have i1:=ih _ m1 (An hk m1) (J4 hk m1 (by omega)) s
  cases h1:((e.op==10)==s) with
  | true=>rw [Ei hl h h1];exact Ph i0 i1
  | false=>rw [Eg hl h h1];exact Yn i0 i1
 ·
  have m0:=Ax (show 0<e.args.length by omega)
  have m1:=Bf hl
  have h9:e.op=9:=by simpa using h
  have k0:Ak T V (Ap e)=1:=by simpa using h1
  have k1:Ak T V (B3 e)=1:=by rw [Lf hk h9 m1];exact k0
  have i0:=ih _ m0 (An hk m0) k0
  have i1:=ih _ m1 (An hk m1) k1
  rw [Ej hl h h1]
  exact Yn (Ph (i0 _) (i1 _)) (Ph (i0 _) (i1 _))
 ·
  have m0:=Ax (show 0<e.args.length by omega)
  have m1:=Bf hl
  have h9:e.op=9:=by simpa using h
  have h3:=h2
  rw [Bool.and_eq_true] at h3
  have k0:Ak T V (Ap e)=0:=by simpa using h3.1
  have k1:Ak T V (B3 e)=0:=by rw [Lf hk h9 m1];exact k0
  rw [Ee h h1 h2]
  refine Sp fun y hy=>?_
  rcases List.mem_cons.1 hy with rfl | hy
  · exact Ym _ _ (.inl rfl) (Tf (An hk m0) (An hk m1) k0 k1)
  · rw [List.mem_singleton.1 hy];exact Ym _ _ (.inl rfl) (Tf (An hk m1) (An hk m0) k1 k0)
 ·
  rw [h]
  exact Sp fun y hy=>by rw [List.mem_singleton.1 hy];exact hr
theorem X4 {α:Type}{f g:α→Bool}:∀{l:List α},(∀x∈l,f x=g x)→l.any f=l.any g
 | [],_=>rfl
 | a::r,h=>by rw [List.any_cons,List.any_cons,h a (List.mem_cons_self ..),X4 fun x hx=>h x (List.mem_cons_of_mem _ hx)]
end

def bD (e:Ev):Int:=
 if decide (e.source<0)||decide (8≤e.source) then 32
 else if decide (e.seq<0)||decide (1099511627776<e.seq)||decide (e.time<0)||decide (1099511627776<e.time) then 2 else 0
def valE (v:Vl)(f:Fi):Int:=if Ao v != 0 then Ao v else if v.kind != f.kind then 9 else 0
def yM:List Vl→List Fi→Int
 | v::r,f::s=>if valE v f != 0 then valE v f else yM r s
 | _,_=>0
def cO (types:List Sc)(e:Ev):List Fi:=((types[e.type.toNat]?).getD sc0).fields
def zL (types:List Sc)(e:Ev):Int:=
 if bD e != 0 then bD e
 else if decide (e.type<0)||decide ((types.length:Int)≤e.type) then 6
 else if (e.values.length:Int) != ((cO types e).length:Int) then 15
 else yM e.values (cO types e)
def pH (types:List Sc)(e:Ev):Int:=if D9 types != 0 then D9 types else zL types e
def few1 (l:List Vl):Bool:=!((l.take 40).any fun v=>decide (128<v.text.length))&&decide (l.length<40)
def fewL (l:List Ev):Bool:=!((l.take 20).any fun e=>!few1 e.values)&&decide (l.length≤20)
theorem oT {α:Type}(f:α→Bool){l:List α}{k:Nat}{x:α}(h:l[k]? = some x):(l.take (k+1)).any f=((l.take k).any f||f x):=by rw [Cx h];simp
def wC (T:List Sc)(p:Ev×Va):Bool:=pH T p.1 != 0||p.1.type != p.2.type
def suitsS (T:List Sc)(V:List Va)(l:List Ev):Bool:=if (l.zip V).any (wC T) then false else ((l.length:Int)==(V.length:Int))
def Hi (l:List Ev):List (List Ev):=l.map fun e=>[e]
def sceneS (T:List Sc)(V:List Va)(l:List Ev)(e:Ex):Bool:=(((fewP T V [e]&&fewL l)&&(D9 T==0))&&suitsS T V l)&&(C4 T V e==0)

structure Half (env kn:List (List Ev)):Prop where
 some:∀v:Int,Cz kn v=Cz env v∨Cz kn v = []
def jK (env:List (List Ev)):Prop:=∀l∈env,∀ev∈l,Ao ⟨0,ev.time,[]⟩=0
section
variable {T:List Sc} {V:List Va} {env kn:List (List Ev)}
theorem V8 (hS:J8 T V env)(hT:jK env){e:Ex}(hk:KOK T V e)(ho:(e.op==1||e.op==2)=true) :
  ∃ev,Cz env e.var = [ev]∧(Ku e ev).2=0∧Ao (Ku e ev).1=0∧C6 ⟨env,-1,Ms⟩ e=((Ku e ev).1,0):=by
 have hz:=(A9 hk.nodes).1
 have hvr:=Lo hz
 have hfr:=Ki hz
 have hop:e.op=1∨e.op=2:=by simpa using ho
 have ha:e.args = []:=Ud hz (by omega)
 have hkk:=hk.kind
 rw [Q7 hk (by omega)] at hkk
 unfold Fa at hkk
 have h0:¬(e.op==0)=true:=by simp;omega
 rw [if_neg h0] at hkk
 by_cases h1:decide ((V.length:Int)≤e.var)=true
 · rw [if_pos h1] at hkk;cases hkk
 rw [if_neg h1] at hkk
 have hlt:e.var<(V.length:Int):=by simp at h1;omega
 obtain ⟨v,hv⟩:=Hm (l:=V) hvr.1 hlt
 obtain ⟨s,ev,hs,hev,hse⟩:=hS.2 _ v hv
 have hel:e.var<(env.length:Int):=by rw [hS.1];exact hlt
 have hevs:Cz env e.var = [ev]:=lN hvr.1 hev
 have hown:(e.var != -1)=true:=by simp;omega
 refine ⟨ev,hevs,?_⟩
 rw [N1 ha,K3 hevs hown h0 (by omega) (by omega)]
 rcases hop with hop | hop
 ·
  have hfl:E1 T V e.var=s.fields:=aP hv hs
  rw [hfl,if_neg (by simp [hop])] at hkk
  by_cases h4:decide ((s.fields.length:Int)≤e.field)=true
  · rw [if_pos h4] at hkk;cases hkk
  obtain ⟨f,hf⟩:=Hm (l:=s.fields) hfr (by simp at h4;omega)
  obtain ⟨w,hw,hgw⟩:=hse.2 _ f hf
  have hr:Ku e ev=(w,0):=by
   unfold Ku
   rw [if_pos (by simp [hop]),if_neg (by rw [hse.1];exact h4),hw]
   simp [hgw.2]
  rw [hr]
  refine ⟨rfl,hgw.2,?_⟩
  have hfs:Gb ev e.field=(w,0):=by
   unfold Gb
   rw [if_neg (by rw [hse.1];exact h4),hw];rfl
  unfold Pv
  rw [if_neg (by simp [hop]),hfs,if_pos (by rfl),if_neg (by rw [hgw.2];decide)]
 ·
  have ht:=hT _ (List.mem_of_getElem? hev) ev (List.mem_cons_self ..)
  have hr:Ku e ev=(⟨0,ev.time,[]⟩,0):=by
   unfold Ku
   rw [if_neg (by simp [hop]),ht]
  rw [hr]
  refine ⟨rfl,ht,?_⟩
  unfold Pv
  rw [if_pos (by simp [hop])]
end
def readsN:Ex→Nat:=Or fun e ns=>(if e.op==1||e.op==2 then 1 else 0)+ns.sum
def yP (l:List (List Ev)):Nat→List (List Ev)
 | 0=>l
 | k+1=>if k % 2=1 then (yP l k).set k [] else yP l k

structure EnvOK (T:List Sc) (V:List Va) (env:List (List Ev)):Prop where
 suits:J8 T V env
 times:∀l∈env,∀ev∈l,0≤ev.time∧ev.time≤1099511627776
theorem EnvOK.small {T:List Sc}{V:List Va}{env:List (List Ev)}(h:EnvOK T V env):jK env:=fun l hl ev hev=>by
 have:=h.times l hl ev hev
 unfold Ao Dz
 simp
 omega
section
variable {T:List Sc} {V:List Va} {env:List (List Ev)}
abbrev Wj (env:List (List Ev))(t:Tm):Int:=(vl env (Hs t)).num
theorem nZ {v:Vl}(h:Ao v=0)(hk:v.kind=0∨v.kind=1) : -1099511627776≤v.num∧v.num≤1099511627776:=by
 rcases hk with hk | hk
 · exact (E6 h hk).2
 ·
  have:=Qq h hk
  rw [this];cases v.num==1 <;> simp [Fo]
theorem Vo (hE:EnvOK T V env){e:Ex}(hk:KOK T V e)(ho:(e.op==1||e.op==2)=true) :
  ((e.op==2)=true→0≤(vl env e).num∧(vl env e).num≤1099511627776)∧Ao (vl env e)=0∧(vl env e).kind=Ak T V e:=by
 obtain ⟨ev,h1,h2,h3,h4⟩:=V8 hE.suits hE.small hk ho
 refine ⟨fun h=>?_,?_,Uv hE.suits hk⟩
 ·
  have hm:Cz env e.var∈env:=Z0 (by rw [h1];exact Nat.one_pos)
  have ht:=hE.times _ hm ev (by rw [h1];exact List.mem_cons_self ..)
  have:vl env e=⟨0,ev.time,[]⟩:=by
   show (C6 _ e).1=_
   rw [h4]
   unfold Ku
   rw [if_neg (by simp at h ⊢;omega)]
  rw [this];exact ht
 ·
  show Ao (C6 _ e).1=0
  rw [h4];exact h3
def H7 (τ:Tm→Int)(ts:List (Tm×Int)):Int:=(ts.map fun p=>p.2*τ p.1).sum
theorem T7 (τ:Tm→Int)(t:Tm)(b:Int):∀ts:List (Tm×Int),H7 τ (He t b ts)=H7 τ ts+b*τ t
  | []=>by simp [He,H7]
  | p::r=>by
    rw [He]
    split
    · rename_i h
      subst h
      simp only [H7,List.map_cons,List.sum_cons,Int.add_mul]
      omega
    · have ih:=T7 τ t b r
      simp only [H7,List.map_cons,List.sum_cons] at ih ⊢
      omega
def oH (τ:Tm→Int)(s:Su):Int:=H7 τ s.ts+s.rest
theorem iQ {x:Int}(h : -9223372036854775808≤x∧x≤9223372036854775807):IntKind.i64.wrap x=x:=IntWalk.i64_in x h
theorem Py {e:Ex}(hk:KOK T V e)(ho:e.op=5∨e.op=6){a:Ex}(ha:a∈e.args):Ak T V a=0:=by
 have h:=Pq hk ha
 unfold Mp at h
 rcases ho with ho | ho <;> rw [ho] at h <;> simpa using h
theorem kV (hE:EnvOK T V env)(e:Ex):KOK T V e→Ak T V e=0→Av e≤64→∀{b:Int} {s:Su},(A5 e b s).2=true→
    oH (Wj env) (A5 e b s).1=oH (Wj env) s+b*(vl env e).num∧-(Av e:Int)*1099511627776≤(vl env e).num∧(vl env e).num≤(Av e:Int)*1099511627776:=by
  refine Ex.Aa8 (P:=fun e=>KOK T V e→Ak T V e=0→Av e≤64→∀{b:Int} {s:Su},(A5 e b s).2=true→
    oH (Wj env) (A5 e b s).1=oH (Wj env) s+b*(vl env e).num∧-(Av e:Int)*1099511627776≤(vl env e).num∧(vl env e).num≤(Av e:Int)*1099511627776) (fun e ih hk h0 hs b s h=>?_) e
  have hz:=A9 hk.nodes
  have hp:1≤Av e:=by rw [Dj];omega
  rcases Ka hz.1 with c | ⟨c,c1⟩ | ⟨c,hl⟩ | ⟨c,c1,c2,c3⟩
  · have hc:e.op=0:=by simpa using c
    have hv:(vl env e)=e.val:=by show (C6 _ e).1=_;rw [oS hz.1 hc]
    have hn:=Rt hz.1 hc
    rw [D2 c,hv]
    refine ⟨by simp only [oH];omega,?_,?_⟩
    · have:(1:Int)≤Av e:=by omega
      omega
    · have:(1:Int)≤Av e:=by omega
      omega
  · obtain ⟨_,h2,h3⟩:=Vo hE hk c1
    have hn:=nZ h2 (.inl (h3.trans h0))
    rw [Bs c c1]
    refine ⟨?_,by omega,by omega⟩
    simp only [oH]
    rw [T7]
    have:Wj env (Dh e)=(vl env e).num:=by unfold Wj;rw [Lw hz.1 c1]
    rw [this];omega
  · have ho:e.op=5∨e.op=6:=by simpa using c
    have m0:=Ax (show 0<e.args.length by omega)
    have m1:=Bf hl
    have hsz:=Da hl
    have k0:=Py hk ho m0
    have k1:=Py hk ho m1
    have hv:=Tv hE.suits hk (by omega) (by omega)
    have c9:¬(e.op==9)=true:=by simp;omega
    rw [if_neg c9] at hv
    have key:∀c:Int,(e.op=5∧c=b)∨(e.op=6∧c=0-b)→oH (Wj env) (A5 e b s).1=oH (Wj env) s+b*(vl env (Ap e)).num+c*(vl env (B3 e)).num∧
        (-(Av (Ap e):Int)*1099511627776≤(vl env (Ap e)).num∧(vl env (Ap e)).num≤(Av (Ap e):Int)*1099511627776)∧(-(Av (B3 e):Int)*1099511627776≤(vl env (B3 e)).num∧(vl env (B3 e)).num≤(Av (B3 e):Int)*1099511627776):=by
      intro c hc
      rw [G6 hl hc] at h ⊢
      cases h1:(A5 (Ap e) b s).2 with
      | false=>rw [h1] at h;cases h
      | true=>
        rw [h1] at h
        obtain ⟨a1,a2,a3⟩:=ih _ m0 (An hk m0) k0 (by omega) (b:=b) (s:=s) h1
        obtain ⟨b1,b2,b3⟩:=ih _ m1 (An hk m1) k1 (by omega) (b:=c) (s:=(A5 (Ap e) b s).1) h
        refine ⟨?_,⟨a2,a3⟩,⟨b2,b3⟩⟩
        show oH (Wj env) (A5 (B3 e) c (A5 (Ap e) b s).1).1=_
        rw [b1,a1]
    rcases ho with ho | ho
    · obtain ⟨a1,⟨a2,a3⟩,⟨a4,a5⟩⟩:=key b (.inl ⟨ho,rfl⟩)
      have hw:(vl env e).num=(vl env (Ap e)).num+(vl env (B3 e)).num:=by
        rw [hv,ho]
        show IntKind.i64.wrap _=_
        exact iQ (by omega)
      rw [a1,hw,Int.mul_add]
      refine ⟨by omega,by omega,by omega⟩
    · obtain ⟨a1,⟨a2,a3⟩,⟨a4,a5⟩⟩:=key (0-b) (.inr ⟨ho,rfl⟩)
      have hw:(vl env e).num=(vl env (Ap e)).num-(vl env (B3 e)).num:=by
        rw [hv,ho]
        show IntKind.i64.wrap _=_
        exact iQ (by omega)
      rw [a1,hw,Int.mul_sub,Int.sub_mul,Int.zero_mul]
      refine ⟨by omega,by omega,by omega⟩
  · rw [Eb c c1 c2 c3] at h;cases h
theorem Od {τ:Tm→Int}:∀{ts:List (Tm×Int)} {p m p' m':List Tm},C2 ts p m=some (p',m')→H7 τ ts+(p.map τ).sum-(m.map τ).sum=(p'.map τ).sum-(m'.map τ).sum
  | [],p,m,p',m',h=>by
    rw [C2] at h;cases h;simp [H7]
  | t::r,p,m,p',m',h=>by
    rw [C2] at h
    by_cases h0:(t.2==0)=true
    · rw [if_pos h0] at h
      have:=Od (τ:=τ) h
      have e0:t.2=0:=by simpa using h0
      simp only [H7,List.map_cons,List.sum_cons,e0,Int.zero_mul] at this ⊢;omega
    · rw [if_neg h0] at h
      by_cases h1:(t.2==1)=true
      · rw [if_pos h1] at h
        have:=Od (τ:=τ) h
        have e1:t.2=1:=by simpa using h1
        simp only [H7,List.map_cons,List.sum_cons,e1,Int.one_mul,List.map_append,List.map_nil,List.sum_append,List.sum_nil] at this ⊢;omega
      · rw [if_neg h1] at h
        by_cases h2:(t.2 == -1)=true
        · rw [if_pos h2] at h
          have:=Od (τ:=τ) h
          have e2:t.2 = -1:=by simpa using h2
          simp only [H7,List.map_cons,List.sum_cons,e2,List.map_append,List.map_nil,List.sum_append,List.sum_nil] at this ⊢;omega
        · rw [if_neg h2] at h;cases h
def eR (τ:Tm→Int)(l:List Tm):Int:=(l.map τ).sum
theorem cH (hE:EnvOK T V env){a b:Ex}(ha:KOK T V a)(hb:KOK T V b)(ka:Ak T V a=0)(kb:Ak T V b=0)(hs:Av a+Av b≤64)(h:(Bu a b).2=true) :
    (vl env a).num-(vl env b).num=eR (Wj env) (Bu a b).1.plus-eR (Wj env) (Bu a b).1.minus+(Bu a b).1.rest∧(Bu a b).1.plus.length≤1∧(Bu a b).1.minus.length≤1:=by
  unfold Bu at h ⊢
  cases h1:(A5 a 1 H9).2 with
  | false=>rw [h1] at h;cases h
  | true=>
    rw [h1] at h
    cases h2:(A5 b (-1) (A5 a 1 H9).1).2 with
    | false=>rw [h2] at h;cases h
    | true=>
      rw [h2] at h
      simp only [Bool.not_true,Bool.false_eq_true,if_false] at h ⊢
      obtain ⟨a1,_,_⟩:=kV hE a ha ka (by omega) (b:=1) (s:=H9) h1
      obtain ⟨b1,_,_⟩:=kV hE b hb kb (by omega) (b:=-1) h2
      unfold Mk at h ⊢
      cases hp:C2 (A5 b (-1) (A5 a 1 H9).1).1.ts [] [] with
      | none=>rw [hp] at h;cases h
      | some q=>
        obtain ⟨p,m⟩:=q
        rw [hp] at h
        simp only [Bool.and_eq_true,decide_eq_true_eq] at h ⊢
        have h3:=Od (τ:=Wj env) hp
        refine ⟨?_,by omega,by omega⟩
        have h4:oH (Wj env) H9=0:=rfl
        simp only [oH] at a1 b1
        simp only [oH] at h4
        simp only [eR,List.map_nil,List.sum_nil] at h3 ⊢
        omega
end

def upd (f:Nat→Int)(b:Bd):Nat→Int:=fun k=>if k=b.x.toNat∧f b.y.toNat+b.most<f b.x.toNat then f b.y.toNat+b.most else f k
def runF (f:Nat→Int)(es:List Bd):Nat→Int:=es.foldl upd f
def FixF (D:Nat→Int)(bs:List Bd):Prop:=∀b∈bs,D b.x.toNat≤D b.y.toNat+b.most
def openN (D f:Nat→Int)(n:Nat):Nat:=(List.range n).countP fun k=>f k != D k
def iterF (bs:List Bd)(f:Nat→Int):Nat→(Nat→Int)
 | 0=>f
 | m+1=>runF (iterF bs f m) bs
def measF (L f:Nat→Int)(n:Nat):Nat:=((List.range n).map fun k=>(f k-L k).toNat).sum
def gf (l:List Int):Nat→Int:=fun k=>(l[k]?).getD 0
end Go.Proofs.YtjedflcpjlgokaaGreatDoor
