/-
  Several texts in one: S34, S35, S36, S37, S39, S42. No condition.
-/
import Derived.Test.YtjedflcpjlgokaaGreatDoorK21
import Derived.Test.YtjedflcpjlgokaaGreatDoorK03
set_option linter.unusedVariables false
set_option linter.unusedSimpArgs false
namespace Go.Proofs.YtjedflcpjlgokaaGreatDoor
open Go Go.Aw

def okI (v:Vl):Prop:=v.kind=0→v.text = []
section
variable {T:List Sc} {V:List Va} {env:List (List Ev)}
theorem vK (hS:Gj T V env){e:Ex}(hz:Bt e=0)(ha:e.args = [])(hk:(Fm T V e).2=0):okI (Ey ⟨env,-1,Ke⟩ e).1:=by
 have hvr:=L7 hz
 have hfr:=Jd hz
 have key:∀{w:Vl},An w=0→okI w:=fun h hk=>(Fj h hk).1
 unfold Fm at hk
 by_cases h0:(e.op==0)=true
 · unfold Ey;rw [if_pos h0];exact key (Im hz (by simpa using h0)).1
 rw [if_neg h0] at hk
 by_cases h1:decide ((V.length:Int)≤e.var)=true
 · rw [if_pos h1] at hk;cases hk
 rw [if_neg h1] at hk
 have hlt:e.var<(V.length:Int):=by simp at h1;omega
 obtain ⟨v,hv⟩:=Hc (l:=V) hvr.1 hlt
 obtain ⟨s,ev,hs,hev,hse⟩:=hS.2 _ v hv
 have hel:e.var<(env.length:Int):=by rw [hS.1];exact hlt
 have hevs:Bn env e.var = [ev]:=by
  unfold Bn
  rw [if_neg (by simp;omega),hev];rfl
 have hown:(e.var != -1)=true:=by simp;omega
 have hfl:Fa T V e.var=s.fields:=aD hv hs
 rw [hfl] at hk
 by_cases h3:e.op=3
 ·
  unfold Ey
  rw [if_neg h0,if_pos (by simp [h3])]
  exact fun _=>rfl
 by_cases h2:e.op=2
 ·
  rw [Lo hevs hown h0 h3 (by omega)]
  unfold Gk
  rw [if_pos (by simp [h2])]
  exact fun _=>rfl
 rw [if_neg (by simp [h2,h3])] at hk
 by_cases h4:decide ((s.fields.length:Int)≤e.field)=true
 · rw [if_pos h4] at hk;cases hk
 rw [if_neg h4] at hk
 obtain ⟨f,hf⟩:=Hc (l:=s.fields) hfr (by simp at h4;omega)
 obtain ⟨w,hw,hgw⟩:=hse.2 _ f hf
 have hka:G8 s.fields e.field=f.kind:=by simp [G8,hf]
 have hfs:Dg ev e.field=(w,0):=by
  unfold Dg
  rw [if_neg (by rw [hse.1];exact h4),hw];rfl
 rw [hka] at hk
 by_cases h5:e.op=4
 ·
  by_cases h6:(e.op==4&&(f.kind != e.val.kind || !Dk e.kind ⟨f.kind,0,[]⟩))=true
  · rw [if_pos h6] at hk;cases hk
  have htw:=Tl hz h5
  have hes:Dk e.kind w=true:=by
   simp [h5] at h6
   have:=h6.2
   unfold Dk at this ⊢
   rw [hgw.1];exact this
  unfold Ey Nx
  rw [if_neg h0,if_neg (by simp [h3]),if_pos (by simp [h5]),hevs]
  have e1:Aq (fun v=>(Dg v e.field).2) [ev]=0:=by simp [Aq,hfs]
  rw [if_neg (by rw [e1];decide)]
  have e2:([ev].map fun v=>(Dg v e.field).1) = [w]:=by simp [hfs]
  rw [e2,X4 ⟨htw.2.1,htw.2.2⟩ hgw.2 hes htw.1]
  exact key hgw.2
 ·
  rw [Lo hevs hown h0 h3 h5]
  unfold Gk
  rw [if_neg (by simp [h2]),hfs,if_pos (by rfl),if_neg (by rw [hgw.2];decide)]
  exact key hgw.2
theorem nU (op a b:Int):okI (Gb op a b):=by
 unfold Gb
 intro h
 split
 · rfl
 split
 · rfl
 all_goals (rename_i h5 h6;rw [C3 (Bool.eq_false_iff.2 h5),C3 (Bool.eq_false_iff.2 h6)] at h;repeat' split at h) <;> exact absurd h (by rw [Ol];decide)
theorem Vu (hS:Gj T V env){e:Ex}(hk:KOK T V e)(ha:e.args≠[]):Bq ⟨env,-1,Ke⟩ e=J7 e.op (e.args.map fun a=>(Bq ⟨env,-1,Ke⟩ a).1):=
 Wq ha fun a hm=>(Qz hS a (Az hk hm).nodes (Az hk hm).kind).1
theorem cO (hS:Gj T V env){e:Ex}(hk:KOK T V e):okI (Bq ⟨env,-1,Ke⟩ e).1:=by
 by_cases ha:e.args = []
 ·
  have h:=hk.kind
  rw [Ep,if_pos (by simp [ha])] at h
  rw [L3 ha];exact vK hS (A8 hk.nodes).1 ha h
 ·
  rw [Vu hS hk ha]
  unfold J7
  split
  · exact fun _=>rfl
  split
  · exact fun h=>absurd h (by rw [Ol];decide)
  · exact nU _ _ _
def tv (env:List (List Ev))(e:Ex):Bool:=(Bq ⟨env,-1,Ke⟩ e).1.num==1
theorem iT (hS:Gj T V env){e:Ex}(hk:KOK T V e)(h1:Ak T V e=1):Bq ⟨env,-1,Ke⟩ e=(Dv (tv env e),0):=by
 obtain ⟨h2,h3⟩:=Qz hS e hk.nodes hk.kind
 rw [Iw hk,h1] at h3
 have h4:=vF hk.nodes h2 h3
 show _=(Dv ((Bq ⟨env,-1,Ke⟩ e).1.num==1),(0:Int))
 rw [←h4,←h2]
theorem qR (hS:Gj T V env){e:Ex}(hk:KOK T V e)(h1:Ak T V e=1)(hc:B4 e=0):Li ⟨env,-1,Ke⟩ e=tv env e:=by
 unfold Li V6
 rw [if_neg (by rw [hc];decide),iT hS hk h1]
 cases tv env e <;> rfl
theorem gO (hS:Gj T V env){e:Ex}(hk:KOK T V e)(ha:e.args≠[]) :
  (Bq ⟨env,-1,Ke⟩ e).1=if e.op==9 then Dv (eqV (((e.args.map fun a=>(Bq ⟨env,-1,Ke⟩ a).1)).headD v0) (((e.args.map fun a=>(Bq ⟨env,-1,Ke⟩ a).1)[1]?).getD v0)) else Gb e.op ((e.args.map fun a=>(Bq ⟨env,-1,Ke⟩ a).1).headD v0).num ((e.args.map fun a=>(Bq ⟨env,-1,Ke⟩ a).1).getLastD v0).num:=by
 have h2:=(Qz hS e hk.nodes hk.kind).1
 rw [Vu hS hk ha] at h2 ⊢
 unfold J7 at h2 ⊢
 by_cases h:(Dm e.op ((e.args.map fun a=>(Bq ⟨env,-1,Ke⟩ a).1).map (·.kind)) != 0)=true
 · rw [if_pos h] at h2;simp only at h2;rw [h2] at h;cases h
 ·
  rw [if_neg h]
  split <;> rfl
theorem nP {e:Ex}(hl:e.args.length=2):e.args = [Ap e,Bj e]:=by
 unfold Ap Bj
 match h:e.args,hl with
 | [a,b],_=>rfl
theorem pR {e:Ex}(hl:e.args.length=1):e.args = [Ap e]:=by
 unfold Ap
 match h:e.args,hl with
 | [a],_=>rfl
theorem oG {e:Ex}(hk:KOK T V e)(h5:5≤e.op)(h:e.op≤11):e.args.length=2:=by
 obtain ⟨_,_,h2⟩:=Gu (A8 hk.nodes).1
 unfold D6 at h2
 rw [if_neg (by omega),if_neg (by omega),if_neg (by omega)] at h2
 omega
theorem len1 {e:Ex}(hk:KOK T V e)(h:e.op=12):e.args.length=1:=by
 obtain ⟨_,_,h2⟩:=Gu (A8 hk.nodes).1
 rw [h] at h2
 have:D6 12=1:=by decide
 rw [this] at h2;omega
def vl (env:List (List Ev))(e:Ex):Vl:=(Bq ⟨env,-1,Ke⟩ e).1
theorem vl_def (env:List (List Ev))(e:Ex):(Bq ⟨env,-1,Ke⟩ e).1=vl env e:=rfl
theorem Ou (hS:Gj T V env){e:Ex}(hk:KOK T V e)(h5:5≤e.op)(h:e.op≤11):vl env e=if e.op==9 then Dv (eqV (vl env (Ap e)) (vl env (Bj e))) else Gb e.op (vl env (Ap e)).num (vl env (Bj e)).num:=by
 have hl:=oG hk h5 h
 have h1:=gO hS hk (by intro hn;rw [hn] at hl;cases hl)
 rw [nP hl] at h1
 exact h1
theorem wV (hS:Gj T V env){e:Ex}(hk:KOK T V e)(h:e.op=12):vl env e=Dv ((vl env (Ap e)).num != 1):=by
 have hl:=len1 hk h
 have h1:=gO hS hk (by intro hn;rw [hn] at hl;cases hl)
 rw [pR hl] at h1
 have h2:vl env e=Gb e.op (vl env (Ap e)).num (vl env (Ap e)).num:=by
  refine h1.trans ?_
  rw [if_neg (by rw [h];decide)];rfl
 rw [h2,h];rfl
theorem Lz (b:Bool):((Dv b).num==1)=b:=by cases b <;> rfl
theorem yO (a b:Bool):eqV (Dv a) (Dv b)=(a==b):=by cases a <;> cases b <;> rfl
theorem tw_not (hS:Gj T V env){e:Ex}(hk:KOK T V e)(h:e.op=12):tv env e = !tv env (Ap e):=by
 show ((vl env e).num==1)=_;rw [wV hS hk h,Lz];rfl
theorem tw_and (hS:Gj T V env){e:Ex}(hk:KOK T V e)(h:e.op=10):tv env e=(tv env (Ap e)&&tv env (Bj e)):=by
 show ((vl env e).num==1)=_;rw [Ou hS hk (by omega) (by omega),h];exact Lz _
theorem tw_or (hS:Gj T V env){e:Ex}(hk:KOK T V e)(h:e.op=11):tv env e=(tv env (Ap e)||tv env (Bj e)):=by
 show ((vl env e).num==1)=_;rw [Ou hS hk (by omega) (by omega),h];exact Lz _
theorem aG (hS:Gj T V env){e:Ex}(hk:KOK T V e)(h:e.op=7):tv env e=decide ((vl env (Ap e)).num<(vl env (Bj e)).num):=by
 show ((vl env e).num==1)=_;rw [Ou hS hk (by omega) (by omega),h];exact Lz _
theorem tw_leq (hS:Gj T V env){e:Ex}(hk:KOK T V e)(h:e.op=8):tv env e=decide ((vl env (Ap e)).num≤(vl env (Bj e)).num):=by
 show ((vl env e).num==1)=_;rw [Ou hS hk (by omega) (by omega),h];exact Lz _
theorem sY (hS:Gj T V env){e:Ex}(hk:KOK T V e)(h:e.op=9):tv env e=eqV (vl env (Ap e)) (vl env (Bj e)):=by
 show ((vl env e).num==1)=_;rw [Ou hS hk (by omega) (by omega),h];exact Lz _
theorem tw_eqB (hS:Gj T V env){e:Ex}(hk:KOK T V e)(h:e.op=9)(h1:Ak T V (Ap e)=1):tv env e=(tv env (Ap e)==tv env (Bj e)):=by
 have hl:=oG hk (by omega) (by omega)
 have m0:=Ba (show 0<e.args.length by omega)
 have m1:=Bw (show 1<e.args.length by omega)
 rw [sY hS hk h]
 show eqV (Bq ⟨env,-1,Ke⟩ (Ap e)).1 (Bq ⟨env,-1,Ke⟩ (Bj e)).1=_
 rw [iT hS (Az hk m0) h1,iT hS (Az hk m1) (by rw [H8 hk h m1];exact h1)]
 exact yO _ _
theorem Rv (hS:Gj T V env){e:Ex}(hk:KOK T V e):(vl env e).kind=Ak T V e:=by
 rw [←Iw hk];exact (Qz hS e hk.nodes hk.kind).2
theorem uW (hS:Gj T V env){e:Ex}(hk:KOK T V e)(h:e.op=9)(h1:Ak T V (Ap e)=0):tv env e=((vl env (Ap e)).num==(vl env (Bj e)).num):=by
 have hl:=oG hk (by omega) (by omega)
 have m0:=Ba (show 0<e.args.length by omega)
 have m1:=Bw (show 1<e.args.length by omega)
 have k0:=Az hk m0
 have k1:=Az hk m1
 rw [sY hS hk h]
 have a0:=(Rv hS k0).trans h1
 have a1:=(Rv hS k1).trans ((H8 hk h m1).trans h1)
 have b0:=cO hS k0 a0
 have b1:=cO hS k1 a1
 rw [Bool.eq_iff_iff,mW]
 constructor
 · intro h;rw [h];simp
 ·
  intro h
  have h':(vl env (Ap e)).num=(vl env (Bj e)).num:=by simpa using h
  have c0:(vl env (Ap e)).text = []:=b0
  have c1:(vl env (Bj e)).text = []:=b1
  revert h' a0 a1 c0 c1
  generalize vl env (Ap e)=v
  generalize vl env (Bj e)=w
  intro a0 a1 c0 c1 h'
  cases v;cases w
  simp_all
end

section
variable {T:List Sc} {V:List Va} {env:List (List Ev)}
def N7 (env:List (List Ev))(y:Lit):Bool:=tv env y.cond != y.neg
def gR (env:List (List Ev))(c:List Lit):Bool:=c.all (N7 env)
def Oz (env:List (List Ev))(l:List (List Lit)):Bool:=l.any (gR env)
theorem cl_app (a b:List Lit):gR env (a++b)=(gR env a&&gR env b):=List.all_append
theorem uE (x:List Lit):∀b:List (List Lit),Oz env (b.map fun y=>x++y)=(gR env x&&Oz env b)
  | []=>by simp [Oz]
  | y::r=>by
    show (gR env (x++y)||Oz env (r.map fun y=>x++y))=(gR env x&&(gR env y||Oz env r))
    rw [uE x r,cl_app]
    cases gR env x <;> cases gR env y <;> rfl
theorem rZ (a b:List (List Lit)):Oz env (a++b)=(Oz env a||Oz env b):=List.any_append
theorem lX:∀a b:List (List Lit),Oz env (a.flatMap fun x=>b.map fun y=>x++y)=(Oz env a&&Oz env b)
  | [],b=>rfl
  | x::r,b=>by
    rw [List.flatMap_cons,rZ,uE,lX r b]
    show _=((gR env x||Oz env r)&&Oz env b)
    cases gR env x <;> cases Oz env r <;> cases Oz env b <;> rfl
theorem Oi {a b:Cs}(h:(Eb a b).2=true):a.2=true∧b.2=true∧Oz env (Eb a b).1=(Oz env a.1&&Oz env b.1):=by
  cases h1:(!a.2 || !b.2) with
  | true=>rw [eG h1] at h;cases h
  | false=>
    rw [Zb h1] at h ⊢
    cases h2:decide ((256:Int)<(a.1.length:Int)*(b.1.length:Int)) with
    | true=>rw [lF h2] at h;cases h
    | false=>rw [eI h2];exact ⟨(U6 h1).1,(U6 h1).2,lX _ _⟩
theorem mY {a b:Cs}(h:(Iu a b).2=true):a.2=true∧b.2=true∧Oz env (Iu a b).1=(Oz env a.1||Oz env b.1):=by
  cases h1:((!a.2 || !b.2)||decide ((256:Int)<(a.1.length:Int)+(b.1.length:Int))) with
  | true=>rw [mJ h1] at h;cases h
  | false=>
    rw [gQ h1]
    rw [Bool.or_eq_false_iff] at h1
    exact ⟨(U6 h1.1).1,(U6 h1.1).2,rZ _ _⟩
theorem cs_one (y:Lit):Oz env (D4 [y]).1=N7 env y:=by simp [Oz,D4,gR]
theorem cs_two (y z:Lit):Oz env (D4 [y,z]).1=(N7 env y||N7 env z):=by simp [Oz,D4,gR]
theorem Kq {e:Ex}(hk:KOK T V e){a:Ex}(ha:a∈e.args)(ho:e.op=10∨e.op=11∨e.op=12):Ak T V a=1:=by
 have h1:=Qh hk ha
 unfold Na at h1
 rcases ho with h | h | h <;> rw [h] at h1 <;> simpa using h1
theorem tG {e:Ex}(hk:KOK T V e)(h0:(e.op==0)=true):tv env e=(e.val.num==1):=by
 unfold tv
 rw [R0 (A8 hk.nodes).1 (by simpa using h0)]
theorem P4 (hS:Gj T V env)(e:Ex):KOK T V e→Ak T V e=1→∀s,(C4 T V e s).2=true→Oz env (C4 T V e s).1=(tv env e==s):=by
  refine Ex.Aaj (P:=fun e=>KOK T V e→Ak T V e=1→∀s,(C4 T V e s).2=true→Oz env (C4 T V e s).1=(tv env e==s)) (fun e ih hk h1 s hs=>?_) e
  rcases Kz s hk with h | ⟨h,hl⟩ | ⟨h,hl⟩ | ⟨h,hl,h2⟩ | ⟨h,hl,h2,h3⟩ | ⟨_,_,_,h,_⟩
  · rw [tG hk h]
    cases h2:((e.val.num==1)==s) with
    | true=>rw [F0 h h2];rfl
    | false=>rw [Fv h h2];rfl
  · have h12:e.op=12:=by simpa using h
    have m0:=Ba hl
    rw [F5 hl h] at hs ⊢
    rw [ih _ m0 (Az hk m0) (Kq hk m0 (by omega)) _ hs,tw_not hS hk h12]
    cases tv env (Ap e) <;> cases s <;> rfl
  · have m0:=Ba (show 0<e.args.length by omega)
    have m1:=Bw hl
    have ho:e.op=10∨e.op=11:=by simpa using h
    have i0:=ih _ m0 (Az hk m0) (Kq hk m0 (by omega)) s
    have i1:=ih _ m1 (Az hk m1) (Kq hk m1 (by omega)) s
    have ht:tv env e=if e.op==10 then (tv env (Ap e)&&tv env (Bj e)) else (tv env (Ap e)||tv env (Bj e)):=by
      rcases ho with ho | ho
      · rw [tw_and hS hk ho,ho];rfl
      · rw [tw_or hS hk ho,ho];rfl
    rw [ht]
    cases h2:((e.op==10)==s) with
    | true=>
      rw [Fz hl h h2] at hs ⊢
      obtain ⟨a1,a2,a3⟩:=Oi (env:=env) hs
      rw [a3,i0 a1,i1 a2]
      cases h4:(e.op==10) <;> rw [h4] at h2 <;> cases s <;> simp at h2 <;> cases tv env (Ap e) <;> cases tv env (Bj e) <;> rfl
    | false=>
      rw [Fw hl h h2] at hs ⊢
      obtain ⟨a1,a2,a3⟩:=mY (env:=env) hs
      rw [a3,i0 a1,i1 a2]
      cases h4:(e.op==10) <;> rw [h4] at h2 <;> cases s <;> simp at h2 <;> cases tv env (Ap e) <;> cases tv env (Bj e) <;> rfl
  · have m0:=Ba (show 0<e.args.length by omega)
    have m1:=Bw hl
    have h9:e.op=9:=by simpa using h
    have k0:Ak T V (Ap e)=1:=by simpa using h2
    have k1:Ak T V (Bj e)=1:=by rw [H8 hk h9 m1];exact k0
    have i0:=ih _ m0 (Az hk m0) k0
    have i1:=ih _ m1 (Az hk m1) k1
    rw [F4 hl h h2] at hs ⊢
    obtain ⟨a1,a2,a3⟩:=mY (env:=env) hs
    obtain ⟨b1,b2,b3⟩:=Oi (env:=env) a1
    obtain ⟨c1,c2,c3⟩:=Oi (env:=env) a2
    rw [a3,b3,c3,i0 _ b1,i1 _ b2,i0 _ c1,i1 _ c2,tw_eqB hS hk h9 k0]
    cases tv env (Ap e) <;> cases tv env (Bj e) <;> cases s <;> rfl
  · have m0:=Ba (show 0<e.args.length by omega)
    have m1:=Bw hl
    have h9:e.op=9:=by simpa using h
    rw [Bool.and_eq_true] at h3
    have k0:Ak T V (Ap e)=0:=by simpa using h3.1
    have k1:Ak T V (Bj e)=0:=by rw [H8 hk h9 m1];exact k0
    have hs0:s=false:=by simpa using h3.2
    have t0:=Pa (Az hk m0) (Az hk m1) k0 k1
    have t1:=Pa (Az hk m1) (Az hk m0) k1 k0
    rw [Ft h h2 (by rw [Bool.and_eq_true];exact h3),cs_two,uW hS hk h9 k0,hs0]
    unfold N7
    rw [aG hS t0 rfl,aG hS t1 rfl]
    show ((decide ((vl env (Ap e)).num<(vl env (Bj e)).num) != false)||(decide ((vl env (Bj e)).num<(vl env (Ap e)).num) != false))=(((vl env (Ap e)).num==(vl env (Bj e)).num)==false)
    rw [Bool.eq_iff_iff]
    simp
    omega
  · rw [h,cs_one]
    unfold N7
    cases tv env e <;> cases s <;> rfl
end

section
variable {T:List Sc} {V:List Va} {env:List (List Ev)}
theorem Yy {op:Int}(a b:Ex)(h:op=7∨op=8∨op=10∨op=11):KOK T V (two op a b)→Ak T V (two op a b)=1:=fun hk=>by
 rw [←Iw hk,(R6 hk (by simp [two])).2.2]
 rcases h with h | h | h | h <;> subst h <;> rfl
def litD (n:Nat)(c:Cs):Prop:=∀x∈c.1,∀y∈x,El y.cond≤n
def aA (T:List Sc)(V:List Va)(c:Cs):Prop:=∀x∈c.1,∀y∈x,Ak T V y.cond=1
theorem Qd {a b:Cs}(ha:aA T V a)(hb:aA T V b):aA T V (Eb a b):=by
 unfold Eb
 split
 · intro x hx;cases hx
 ·
  unfold Lx
  split
  · intro x hx;cases hx
  ·
   intro x hx y hy
   obtain ⟨p,hp,hm⟩:=List.mem_flatMap.1 hx
   obtain ⟨q,hq,rfl⟩:=List.mem_map.1 hm
   rcases List.mem_append.1 hy with h | h
   · exact ha p hp y h
   · exact hb q hq y h
theorem Yx {a b:Cs}(ha:aA T V a)(hb:aA T V b):aA T V (Iu a b):=by
 unfold Iu
 split
 · intro x hx;cases hx
 ·
  intro x hx y hy
  rcases List.mem_append.1 hx with h | h
  · exact ha x h y hy
  · exact hb x h y hy
theorem Tz {l:List Lit}(h:∀y∈l,Ak T V y.cond=1):aA T V (D4 l):=by
 intro x hx y hy
 unfold D4 at hx
 obtain ⟨z,hz,rfl⟩:=List.mem_map.1 hx
 rw [List.mem_singleton.1 hy]
 exact h z hz
theorem jC (e:Ex):KOK T V e→Ak T V e=1→∀s,aA T V (C4 T V e s):=by
 refine Ex.Aaj (P:=fun e=>KOK T V e→Ak T V e=1→∀s,aA T V (C4 T V e s)) (fun e ih hk hr s=>?_) e
 rcases Kz s hk with h | ⟨h,hl⟩ | ⟨h,hl⟩ | ⟨h,hl,h1⟩ | ⟨h,hl,h1,h2⟩ | ⟨_,_,_,h,_⟩
 ·
  cases h1:((e.val.num==1)==s) with
  | true=>rw [F0 h h1];intro x hx y hy;rw [List.mem_singleton.1 hx] at hy;cases hy
  | false=>rw [Fv h h1];intro x hx;cases hx
 ·
  have m0:=Ba hl
  rw [F5 hl h];exact ih _ m0 (Az hk m0) (Kq hk m0 (.inr (.inr (by simpa using h)))) _
 ·
  have m0:=Ba (show 0<e.args.length by omega)
  have m1:=Bw hl
  have ho:e.op=10∨e.op=11:=by simpa using h
  have i0:=ih _ m0 (Az hk m0) (Kq hk m0 (by omega)) s
  have i1:=ih _ m1 (Az hk m1) (Kq hk m1 (by omega)) s
  cases h1:((e.op==10)==s) with
  | true=>rw [Fz hl h h1];exact Qd i0 i1
  | false=>rw [Fw hl h h1];exact Yx i0 i1
 ·
  have m0:=Ba (show 0<e.args.length by omega)
  have m1:=Bw hl
  have h9:e.op=9:=by simpa using h
  have k0:Ak T V (Ap e)=1:=by simpa using h1
  have k1:Ak T V (Bj e)=1:=by rw [H8 hk h9 m1];exact k0
  have i0:=ih _ m0 (Az hk m0) k0
  have i1:=ih _ m1 (Az hk m1) k1
  rw [F4 hl h h1]
  exact Yx (Qd (i0 _) (i1 _)) (Qd (i0 _) (i1 _))
 ·
  have m0:=Ba (show 0<e.args.length by omega)
  have m1:=Bw hl
  have h9:e.op=9:=by simpa using h
  have h3:=h2
  rw [Bool.and_eq_true] at h3
  have k0:Ak T V (Ap e)=0:=by simpa using h3.1
  have k1:Ak T V (Bj e)=0:=by rw [H8 hk h9 m1];exact k0
  rw [Ft h h1 h2]
  refine Tz fun y hy=>?_
  rcases List.mem_cons.1 hy with rfl | hy
  · exact Yy _ _ (.inl rfl) (Pa (Az hk m0) (Az hk m1) k0 k1)
  · rw [List.mem_singleton.1 hy];exact Yy _ _ (.inl rfl) (Pa (Az hk m1) (Az hk m0) k1 k0)
 ·
  rw [h]
  exact Tz fun y hy=>by rw [List.mem_singleton.1 hy];exact hr
end

def Hi (e:Ev):Int:=
 if decide (e.source<0)||decide (8≤e.source) then 32
 else if decide (e.seq<0)||decide (1099511627776<e.seq)||decide (e.time<0)||decide (1099511627776<e.time) then 2 else 0
def Wz (v:Vl)(f:Fi):Int:=if An v != 0 then An v else if v.kind != f.kind then 9 else 0
def Pn:List Vl→List Fi→Int
 | v::r,f::s=>if Wz v f != 0 then Wz v f else Pn r s
 | _,_=>0
def Er (types:List Sc)(e:Ev):List Fi:=((types[e.type.toNat]?).getD sc0).fields
def K8 (types:List Sc)(e:Ev):Int:=
 if Hi e != 0 then Hi e
 else if decide (e.type<0)||decide ((types.length:Int)≤e.type) then 6
 else if (e.values.length:Int) != ((Er types e).length:Int) then 15
 else Pn e.values (Er types e)
def Hm (types:List Sc)(e:Ev):Int:=if D8 types != 0 then D8 types else K8 types e
def few1 (l:List Vl):Bool:=!((l.take 40).any fun v=>decide (128<v.text.length))&&decide (l.length<40)
def fewL (l:List Ev):Bool:=!((l.take 20).any fun e=>!few1 e.values)&&decide (l.length≤20)
theorem nC {α:Type}{l:List α}{k:Nat}(d:α)(h:k<l.length):l[k]? = some ((l[k]?).getD d):=by
 rw [List.getElem?_eq_getElem h];rfl
theorem qI {l:List Vl}{m:List Fi}{k:Nat}{v:Vl}{f:Fi}(hv:l[k]? = some v)(hf:m[k]? = some f):Pn (l.drop k) (m.drop k)=if Wz v f != 0 then Wz v f else Pn (l.drop (k+1)) (m.drop (k+1)):=by
 rw [A4 hv,A4 hf,Pn]
theorem oY (l:List Vl):Pn l []=0:=by cases l <;> rfl
theorem ty_in {n:Nat}{t:Int}(h:(decide (t<0)||decide ((n:Int)≤t))=false):0≤t∧t.toNat<n:=by
 simp only [Bool.or_eq_false_iff,decide_eq_false_iff_not] at h
 omega
theorem len_eq {n m:Nat}(h:((n:Int) != (m:Int))=false):n=m:=by
 have h1:(n:Int)=m:=by simpa using h
 omega
def U5 (T:List Sc)(p:Ev×Va):Bool:=Hm T p.1 != 0||p.1.type != p.2.type
def Lk (T:List Sc)(V:List Va)(l:List Ev):Bool:=if (l.zip V).any (U5 T) then false else ((l.length:Int)==(V.length:Int))
def Eg (l:List Ev):List (List Ev):=l.map fun e=>[e]
theorem xK {α β:Type}{l:List α}{m:List β}{k:Nat}{x:α}{y:β}(hx:l[k]? = some x)(hy:m[k]? = some y):(l.zip m)[k]? = some (x,y):=by
 rw [List.getElem?_zip_eq_some];exact ⟨hx,hy⟩
theorem vZ {α β:Type}{l:List α}{m:List β}{k:Nat}(h:(decide ((k:Int)<(l.length:Int))&&decide ((k:Int)<(m.length:Int)))=false):(l.zip m).take k=l.zip m:=by
 simp only [Bool.and_eq_false_iff,decide_eq_false_iff_not] at h
 exact List.take_of_length_le (by rw [List.length_zip];omega)
theorem tF (l:List Ev):∀x∈Eg l,x.length≤1048576:=fun x hx=>by
 obtain ⟨e,_,rfl⟩:=List.mem_map.1 hx
 exact (by decide:1≤1048576)
def sceneS (T:List Sc)(V:List Va)(l:List Ev)(e:Ex):Bool:=(((fewP T V [e]&&fewL l)&&(D8 T==0))&&Lk T V l)&&(Fg T V e==0)

structure Half (env kn:List (List Ev)):Prop where
 some:∀v:Int,Bn kn v=Bn env v∨Bn kn v = []
def kZ (env:List (List Ev)):Prop:=∀l∈env,∀ev∈l,An ⟨0,ev.time,[]⟩=0
section
variable {T:List Sc} {V:List Va} {env kn:List (List Ev)}
theorem Vo (hS:Gj T V env)(hT:kZ env){e:Ex}(hk:KOK T V e)(ho:(e.op==1||e.op==2)=true) :
  ∃ev,Bn env e.var = [ev]∧(Lg e ev).2=0∧An (Lg e ev).1=0∧Bq ⟨env,-1,Ke⟩ e=((Lg e ev).1,0):=by
 have hz:=(A8 hk.nodes).1
 have hvr:=L7 hz
 have hfr:=Jd hz
 have hop:e.op=1∨e.op=2:=by simpa using ho
 have ha:e.args = []:=Xh hz (by omega)
 have hkk:=hk.kind
 rw [Ri hk (by omega)] at hkk
 unfold Fm at hkk
 have h0:¬(e.op==0)=true:=by simp;omega
 rw [if_neg h0] at hkk
 by_cases h1:decide ((V.length:Int)≤e.var)=true
 · rw [if_pos h1] at hkk;cases hkk
 rw [if_neg h1] at hkk
 have hlt:e.var<(V.length:Int):=by simp at h1;omega
 obtain ⟨v,hv⟩:=Hc (l:=V) hvr.1 hlt
 obtain ⟨s,ev,hs,hev,hse⟩:=hS.2 _ v hv
 have hel:e.var<(env.length:Int):=by rw [hS.1];exact hlt
 have hevs:Bn env e.var = [ev]:=oW hvr.1 hev
 have hown:(e.var != -1)=true:=by simp;omega
 refine ⟨ev,hevs,?_⟩
 rw [L3 ha,Lo hevs hown h0 (by omega) (by omega)]
 rcases hop with hop | hop
 ·
  have hfl:Fa T V e.var=s.fields:=aD hv hs
  rw [hfl,if_neg (by simp [hop])] at hkk
  by_cases h4:decide ((s.fields.length:Int)≤e.field)=true
  · rw [if_pos h4] at hkk;cases hkk
  obtain ⟨f,hf⟩:=Hc (l:=s.fields) hfr (by simp at h4;omega)
  obtain ⟨w,hw,hgw⟩:=hse.2 _ f hf
  have hr:Lg e ev=(w,0):=by
   unfold Lg
   rw [if_pos (by simp [hop]),if_neg (by rw [hse.1];exact h4),hw]
   simp [hgw.2]
  rw [hr]
  refine ⟨rfl,hgw.2,?_⟩
  have hfs:Dg ev e.field=(w,0):=by
   unfold Dg
   rw [if_neg (by rw [hse.1];exact h4),hw];rfl
  unfold Gk
  rw [if_neg (by simp [hop]),hfs,if_pos (by rfl),if_neg (by rw [hgw.2];decide)]
 ·
  have ht:=hT _ (List.mem_of_getElem? hev) ev (List.mem_cons_self ..)
  have hr:Lg e ev=(⟨0,ev.time,[]⟩,0):=by
   unfold Lg
   rw [if_neg (by simp [hop]),ht]
  rw [hr]
  refine ⟨rfl,ht,?_⟩
  unfold Gk
  rw [if_pos (by simp [hop])]
end
def readsN:Ex→Nat:=Pg fun e ns=>(if e.op==1||e.op==2 then 1 else 0)+ns.sum
def zT (l:List (List Ev)):Nat→List (List Ev)
 | 0=>l
 | k+1=>if k % 2=1 then (zT l k).set k [] else zT l k

structure EnvOK (T:List Sc) (V:List Va) (env:List (List Ev)):Prop where
 suits:Gj T V env
 times:∀l∈env,∀ev∈l,0≤ev.time∧ev.time≤1099511627776
theorem EnvOK.small {T:List Sc}{V:List Va}{env:List (List Ev)}(h:EnvOK T V env):kZ env:=fun l hl ev hev=>by
 have:=h.times l hl ev hev
 unfold An Dy
 simp
 omega
section
variable {T:List Sc} {V:List Va} {env:List (List Ev)}
abbrev Sq (env:List (List Ev))(t:Tm):Int:=(vl env (Hr t)).num
theorem Sf {v:Vl}(h:An v=0)(hk:v.kind=0∨v.kind=1) : -1099511627776≤v.num∧v.num≤1099511627776:=by
 rcases hk with hk | hk
 · exact (Fj h hk).2
 ·
  have:=Fk h hk
  rw [this];cases v.num==1 <;> simp [Dv]
theorem N9 (hE:EnvOK T V env){e:Ex}(hk:KOK T V e)(ho:(e.op==1||e.op==2)=true) :
  ((e.op==2)=true→0≤(vl env e).num∧(vl env e).num≤1099511627776)∧An (vl env e)=0∧(vl env e).kind=Ak T V e:=by
 obtain ⟨ev,h1,h2,h3,h4⟩:=Vo hE.suits hE.small hk ho
 refine ⟨fun h=>?_,?_,Rv hE.suits hk⟩
 ·
  have hm:Bn env e.var∈env:=aH (by rw [h1];exact Nat.one_pos)
  have ht:=hE.times _ hm ev (by rw [h1];exact List.mem_cons_self ..)
  have:vl env e=⟨0,ev.time,[]⟩:=by
   show (Bq _ e).1=_
   rw [h4]
   unfold Lg
   rw [if_neg (by simp at h ⊢;omega)]
  rw [this];exact ht
 ·
  show An (Bq _ e).1=0
  rw [h4];exact h3
def V9 (τ:Tm→Int)(ts:List (Tm×Int)):Int:=(ts.map fun p=>p.2*τ p.1).sum
theorem fS (τ:Tm→Int)(t:Tm)(b:Int):∀ts:List (Tm×Int),V9 τ (H5 t b ts)=V9 τ ts+b*τ t
  | []=>by simp [H5,V9]
  | p::r=>by
    rw [H5]
    split
    · rename_i h
      subst h
      simp only [V9,List.map_cons,List.sum_cons,Int.add_mul]
      omega
    · have ih:=fS τ t b r
      simp only [V9,List.map_cons,List.sum_cons] at ih ⊢
      omega
def qO (τ:Tm→Int)(s:Su):Int:=V9 τ s.ts+s.rest
theorem kF {x:Int}(h : -9223372036854775808≤x∧x≤9223372036854775807):IntKind.i64.wrap x=x:=IntWalk.i64_in x h
theorem Q2 {e:Ex}(hk:KOK T V e)(ho:e.op=5∨e.op=6){a:Ex}(ha:a∈e.args):Ak T V a=0:=by
 have h:=Qh hk ha
 unfold Na at h
 rcases ho with ho | ho <;> rw [ho] at h <;> simpa using h
theorem mQ (hE:EnvOK T V env)(e:Ex):KOK T V e→Ak T V e=0→At e≤64→∀{b:Int} {s:Su},(Bh e b s).2=true→
    qO (Sq env) (Bh e b s).1=qO (Sq env) s+b*(vl env e).num∧-(At e:Int)*1099511627776≤(vl env e).num∧(vl env e).num≤(At e:Int)*1099511627776:=by
  refine Ex.Aaj (P:=fun e=>KOK T V e→Ak T V e=0→At e≤64→∀{b:Int} {s:Su},(Bh e b s).2=true→
    qO (Sq env) (Bh e b s).1=qO (Sq env) s+b*(vl env e).num∧-(At e:Int)*1099511627776≤(vl env e).num∧(vl env e).num≤(At e:Int)*1099511627776) (fun e ih hk h0 hs b s h=>?_) e
  have hz:=A8 hk.nodes
  have hp:1≤At e:=by rw [Ek];omega
  rcases Np hz.1 with c | ⟨c,c1⟩ | ⟨c,hl⟩ | ⟨c,c1,c2,c3⟩
  · have hc:e.op=0:=by simpa using c
    have hv:(vl env e)=e.val:=by show (Bq _ e).1=_;rw [R0 hz.1 hc]
    have hn:=Sw hz.1 hc
    rw [Fe c,hv]
    refine ⟨by simp only [qO];omega,?_,?_⟩
    · have:(1:Int)≤At e:=by omega
      omega
    · have:(1:Int)≤At e:=by omega
      omega
  · obtain ⟨_,h2,h3⟩:=N9 hE hk c1
    have hn:=Sf h2 (.inl (h3.trans h0))
    rw [B2 c c1]
    refine ⟨?_,by omega,by omega⟩
    simp only [qO]
    rw [fS]
    have:Sq env (Dp e)=(vl env e).num:=by unfold Sq;rw [Kj hz.1 c1]
    rw [this];omega
  · have ho:e.op=5∨e.op=6:=by simpa using c
    have m0:=Ba (show 0<e.args.length by omega)
    have m1:=Bw hl
    have hsz:=Dl hl
    have k0:=Q2 hk ho m0
    have k1:=Q2 hk ho m1
    have hv:=Ou hE.suits hk (by omega) (by omega)
    have c9:¬(e.op==9)=true:=by simp;omega
    rw [if_neg c9] at hv
    have key:∀c:Int,(e.op=5∧c=b)∨(e.op=6∧c=0-b)→qO (Sq env) (Bh e b s).1=qO (Sq env) s+b*(vl env (Ap e)).num+c*(vl env (Bj e)).num∧
        (-(At (Ap e):Int)*1099511627776≤(vl env (Ap e)).num∧(vl env (Ap e)).num≤(At (Ap e):Int)*1099511627776)∧(-(At (Bj e):Int)*1099511627776≤(vl env (Bj e)).num∧(vl env (Bj e)).num≤(At (Bj e):Int)*1099511627776):=by
      intro c hc
      rw [Jp hl hc] at h ⊢
      cases h1:(Bh (Ap e) b s).2 with
      | false=>rw [h1] at h;cases h
      | true=>
        rw [h1] at h
        obtain ⟨a1,a2,a3⟩:=ih _ m0 (Az hk m0) k0 (by omega) (b:=b) (s:=s) h1
        obtain ⟨b1,b2,b3⟩:=ih _ m1 (Az hk m1) k1 (by omega) (b:=c) (s:=(Bh (Ap e) b s).1) h
        refine ⟨?_,⟨a2,a3⟩,⟨b2,b3⟩⟩
        show qO (Sq env) (Bh (Bj e) c (Bh (Ap e) b s).1).1=_
        rw [b1,a1]
    rcases ho with ho | ho
    · obtain ⟨a1,⟨a2,a3⟩,⟨a4,a5⟩⟩:=key b (.inl ⟨ho,rfl⟩)
      have hw:(vl env e).num=(vl env (Ap e)).num+(vl env (Bj e)).num:=by
        rw [hv,ho]
        show IntKind.i64.wrap _=_
        exact kF (by omega)
      rw [a1,hw,Int.mul_add]
      refine ⟨by omega,by omega,by omega⟩
    · obtain ⟨a1,⟨a2,a3⟩,⟨a4,a5⟩⟩:=key (0-b) (.inr ⟨ho,rfl⟩)
      have hw:(vl env e).num=(vl env (Ap e)).num-(vl env (Bj e)).num:=by
        rw [hv,ho]
        show IntKind.i64.wrap _=_
        exact kF (by omega)
      rw [a1,hw,Int.mul_sub,Int.sub_mul,Int.zero_mul]
      refine ⟨by omega,by omega,by omega⟩
  · rw [Ge c c1 c2 c3] at h;cases h
theorem Pb {τ:Tm→Int}:∀{ts:List (Tm×Int)} {p m p' m':List Tm},Di ts p m=some (p',m')→V9 τ ts+(p.map τ).sum-(m.map τ).sum=(p'.map τ).sum-(m'.map τ).sum
  | [],p,m,p',m',h=>by
    rw [Di] at h;cases h;simp [V9]
  | t::r,p,m,p',m',h=>by
    rw [Di] at h
    by_cases h0:(t.2==0)=true
    · rw [if_pos h0] at h
      have:=Pb (τ:=τ) h
      have e0:t.2=0:=by simpa using h0
      simp only [V9,List.map_cons,List.sum_cons,e0,Int.zero_mul] at this ⊢;omega
    · rw [if_neg h0] at h
      by_cases h1:(t.2==1)=true
      · rw [if_pos h1] at h
        have:=Pb (τ:=τ) h
        have e1:t.2=1:=by simpa using h1
        simp only [V9,List.map_cons,List.sum_cons,e1,Int.one_mul,List.map_append,List.map_nil,List.sum_append,List.sum_nil] at this ⊢;omega
      · rw [if_neg h1] at h
        by_cases h2:(t.2 == -1)=true
        · rw [if_pos h2] at h
          have:=Pb (τ:=τ) h
          have e2:t.2 = -1:=by simpa using h2
          simp only [V9,List.map_cons,List.sum_cons,e2,List.map_append,List.map_nil,List.sum_append,List.sum_nil] at this ⊢;omega
        · rw [if_neg h2] at h;cases h
def cL (τ:Tm→Int)(l:List Tm):Int:=(l.map τ).sum
theorem dK (hE:EnvOK T V env){a b:Ex}(ha:KOK T V a)(hb:KOK T V b)(ka:Ak T V a=0)(kb:Ak T V b=0)(hs:At a+At b≤64)(h:(Cd a b).2=true) :
    (vl env a).num-(vl env b).num=cL (Sq env) (Cd a b).1.plus-cL (Sq env) (Cd a b).1.minus+(Cd a b).1.rest∧(Cd a b).1.plus.length≤1∧(Cd a b).1.minus.length≤1:=by
  unfold Cd at h ⊢
  cases h1:(Bh a 1 Kb).2 with
  | false=>rw [h1] at h;cases h
  | true=>
    rw [h1] at h
    cases h2:(Bh b (-1) (Bh a 1 Kb).1).2 with
    | false=>rw [h2] at h;cases h
    | true=>
      rw [h2] at h
      simp only [Bool.not_true,Bool.false_eq_true,if_false] at h ⊢
      obtain ⟨a1,_,_⟩:=mQ hE a ha ka (by omega) (b:=1) (s:=Kb) h1
      obtain ⟨b1,_,_⟩:=mQ hE b hb kb (by omega) (b:=-1) h2
      unfold Q5 at h ⊢
      cases hp:Di (Bh b (-1) (Bh a 1 Kb).1).1.ts [] [] with
      | none=>rw [hp] at h;cases h
      | some q=>
        obtain ⟨p,m⟩:=q
        rw [hp] at h
        simp only [Bool.and_eq_true,decide_eq_true_eq] at h ⊢
        have h3:=Pb (τ:=Sq env) hp
        refine ⟨?_,by omega,by omega⟩
        have h4:qO (Sq env) Kb=0:=rfl
        simp only [qO] at a1 b1
        simp only [qO] at h4
        simp only [cL,List.map_nil,List.sum_nil] at h3 ⊢
        omega
end
end Go.Proofs.YtjedflcpjlgokaaGreatDoor
