/-
  Several texts in one: S34, S35, S36, S37, S39. No condition.
-/
import Derived.Test.YtkddpedfbicbeaaGreatDoorK22
import Derived.Test.YtkddpedfbicbeaaGreatDoorK03
set_option linter.unusedVariables false
set_option linter.unusedSimpArgs false
namespace Go.Proofs.YtkddpedfbicbeaaGreatDoor
open Go Go.Aw

def okI (v:Vl):Prop:=v.kind=0→v.text = []
section
variable {T:List Sc} {V:List Va} {env:List (List Ev)}
theorem uE (hS:Gq T V env){e:Ex}(hz:Bx e=0)(ha:e.args = [])(hk:(F3 T V e).2=0):okI (E6 ⟨env,-1,Kn⟩ e).1:=by
 have hvr:=Ml hz
 have hfr:=Jx hz
 have key:∀{w:Vl},An w=0→okI w:=fun h hk=>(F4 h hk).1
 unfold F3 at hk
 by_cases h0:(e.op==0)=true
 · unfold E6;rw [if_pos h0];exact key (I6 hz (by simpa using h0)).1
 rw [if_neg h0] at hk
 by_cases h1:decide ((V.length:Int)≤e.var)=true
 · rw [if_pos h1] at hk;cases hk
 rw [if_neg h1] at hk
 have hlt:e.var<(V.length:Int):=by simp at h1;omega
 obtain ⟨v,hv⟩:=Hq (l:=V) hvr.1 hlt
 obtain ⟨s,ev,hs,hev,hse⟩:=hS.2 _ v hv
 have hel:e.var<(env.length:Int):=by rw [hS.1];exact hlt
 have hevs:Bu env e.var = [ev]:=by
  unfold Bu
  rw [if_neg (by simp;omega),hev];rfl
 have hown:(e.var != -1)=true:=by simp;omega
 have hfl:Fs T V e.var=s.fields:=bW hv hs
 rw [hfl] at hk
 by_cases h3:e.op=3
 ·
  unfold E6
  rw [if_neg h0,if_pos (by simp [h3])]
  exact fun _=>rfl
 by_cases h2:e.op=2
 ·
  rw [Mj hevs hown h0 h3 (by omega)]
  unfold Gy
  rw [if_pos (by simp [h2])]
  exact fun _=>rfl
 rw [if_neg (by simp [h2,h3])] at hk
 by_cases h4:decide ((s.fields.length:Int)≤e.field)=true
 · rw [if_pos h4] at hk;cases hk
 rw [if_neg h4] at hk
 obtain ⟨f,hf⟩:=Hq (l:=s.fields) hfr (by simp at h4;omega)
 obtain ⟨w,hw,hgw⟩:=hse.2 _ f hf
 have hka:Hh s.fields e.field=f.kind:=by simp [Hh,hf]
 have hfs:Do ev e.field=(w,0):=by
  unfold Do
  rw [if_neg (by rw [hse.1];exact h4),hw];rfl
 rw [hka] at hk
 by_cases h5:e.op=4
 ·
  by_cases h6:(e.op==4&&(f.kind != e.val.kind || !Du e.kind ⟨f.kind,0,[]⟩))=true
  · rw [if_pos h6] at hk;cases hk
  have htw:=Vj hz h5
  have hes:Du e.kind w=true:=by
   simp [h5] at h6
   have:=h6.2
   unfold Du at this ⊢
   rw [hgw.1];exact this
  unfold E6 O8
  rw [if_neg h0,if_neg (by simp [h3]),if_pos (by simp [h5]),hevs]
  have e1:Aq (fun v=>(Do v e.field).2) [ev]=0:=by simp [Aq,hfs]
  rw [if_neg (by rw [e1];decide)]
  have e2:([ev].map fun v=>(Do v e.field).1) = [w]:=by simp [hfs]
  rw [e2,Z4 ⟨htw.2.1,htw.2.2⟩ hgw.2 hes htw.1]
  exact key hgw.2
 ·
  rw [Mj hevs hown h0 h3 h5]
  unfold Gy
  rw [if_neg (by simp [h2]),hfs,if_pos (by rfl),if_neg (by rw [hgw.2];decide)]
  exact key hgw.2
theorem pT (op a b:Int):okI (Gv op a b):=by
 unfold Gv
 intro h
 split
 · rfl
 split
 · rfl
 all_goals (rename_i h5 h6;rw [Cz (Bool.eq_false_iff.2 h5),Cz (Bool.eq_false_iff.2 h6)] at h;repeat' split at h) <;> exact absurd h (by rw [P3];decide)
theorem Yy (hS:Gq T V env){e:Ex}(hk:KOK T V e)(ha:e.args≠[]):Bw ⟨env,-1,Kn⟩ e=Ku e.op (e.args.map fun a=>(Bw ⟨env,-1,Kn⟩ a).1):=
 Xc ha fun a hm=>(Td hS a (Ax hk hm).nodes (Ax hk hm).kind).1
theorem gP (hS:Gq T V env){e:Ex}(hk:KOK T V e):okI (Bw ⟨env,-1,Kn⟩ e).1:=by
 by_cases ha:e.args = []
 ·
  have h:=hk.kind
  rw [Eo,if_pos (by simp [ha])] at h
  rw [Ma ha];exact uE hS (Ba hk.nodes).1 ha h
 ·
  rw [Yy hS hk ha]
  unfold Ku
  split
  · exact fun _=>rfl
  split
  · exact fun h=>absurd h (by rw [P3];decide)
  · exact pT _ _ _
def tv (env:List (List Ev))(e:Ex):Bool:=(Bw ⟨env,-1,Kn⟩ e).1.num==1
theorem lB (hS:Gq T V env){e:Ex}(hk:KOK T V e)(h1:Am T V e=1):Bw ⟨env,-1,Kn⟩ e=(D0 (tv env e),0):=by
 obtain ⟨h2,h3⟩:=Td hS e hk.nodes hk.kind
 rw [Hv hk,h1] at h3
 have h4:=xZ hk.nodes h2 h3
 show _=(D0 ((Bw ⟨env,-1,Kn⟩ e).1.num==1),(0:Int))
 rw [←h4,←h2]
theorem vT (hS:Gq T V env){e:Ex}(hk:KOK T V e)(h1:Am T V e=1)(hc:B5 e=0):L8 ⟨env,-1,Kn⟩ e=tv env e:=by
 unfold L8 Yc
 rw [if_neg (by rw [hc];decide),lB hS hk h1]
 cases tv env e <;> rfl
theorem jL (hS:Gq T V env){e:Ex}(hk:KOK T V e)(ha:e.args≠[]) :
  (Bw ⟨env,-1,Kn⟩ e).1=if e.op==9 then D0 (eqV (((e.args.map fun a=>(Bw ⟨env,-1,Kn⟩ a).1)).headD v0) (((e.args.map fun a=>(Bw ⟨env,-1,Kn⟩ a).1)[1]?).getD v0)) else Gv e.op ((e.args.map fun a=>(Bw ⟨env,-1,Kn⟩ a).1).headD v0).num ((e.args.map fun a=>(Bw ⟨env,-1,Kn⟩ a).1).getLastD v0).num:=by
 have h2:=(Td hS e hk.nodes hk.kind).1
 rw [Yy hS hk ha] at h2 ⊢
 unfold Ku at h2 ⊢
 by_cases h:(Dp e.op ((e.args.map fun a=>(Bw ⟨env,-1,Kn⟩ a).1).map (·.kind)) != 0)=true
 · rw [if_pos h] at h2;simp only at h2;rw [h2] at h;cases h
 ·
  rw [if_neg h]
  split <;> rfl
theorem qJ {e:Ex}(hl:e.args.length=2):e.args = [Ao e,Bj e]:=by
 unfold Ao Bj
 match h:e.args,hl with
 | [a,b],_=>rfl
theorem tJ {e:Ex}(hl:e.args.length=1):e.args = [Ao e]:=by
 unfold Ao
 match h:e.args,hl with
 | [a],_=>rfl
theorem qN {e:Ex}(hk:KOK T V e)(h5:5≤e.op)(h:e.op≤11):e.args.length=2:=by
 obtain ⟨_,_,h2⟩:=G5 (Ba hk.nodes).1
 unfold D6 at h2
 rw [if_neg (by omega),if_neg (by omega),if_neg (by omega)] at h2
 omega
theorem len1 {e:Ex}(hk:KOK T V e)(h:e.op=12):e.args.length=1:=by
 obtain ⟨_,_,h2⟩:=G5 (Ba hk.nodes).1
 rw [h] at h2
 have:D6 12=1:=by decide
 rw [this] at h2;omega
def vl (env:List (List Ev))(e:Ex):Vl:=(Bw ⟨env,-1,Kn⟩ e).1
theorem vl_def (env:List (List Ev))(e:Ex):(Bw ⟨env,-1,Kn⟩ e).1=vl env e:=rfl
theorem Pq (hS:Gq T V env){e:Ex}(hk:KOK T V e)(h5:5≤e.op)(h:e.op≤11):vl env e=if e.op==9 then D0 (eqV (vl env (Ao e)) (vl env (Bj e))) else Gv e.op (vl env (Ao e)).num (vl env (Bj e)).num:=by
 have hl:=qN hk h5 h
 have h1:=jL hS hk (by intro hn;rw [hn] at hl;cases hl)
 rw [qJ hl] at h1
 exact h1
theorem zZ (hS:Gq T V env){e:Ex}(hk:KOK T V e)(h:e.op=12):vl env e=D0 ((vl env (Ao e)).num != 1):=by
 have hl:=len1 hk h
 have h1:=jL hS hk (by intro hn;rw [hn] at hl;cases hl)
 rw [tJ hl] at h1
 have h2:vl env e=Gv e.op (vl env (Ao e)).num (vl env (Ao e)).num:=by
  refine h1.trans ?_
  rw [if_neg (by rw [h];decide)];rfl
 rw [h2,h];rfl
theorem Mm (b:Bool):((D0 b).num==1)=b:=by cases b <;> rfl
theorem Aal (a b:Bool):eqV (D0 a) (D0 b)=(a==b):=by cases a <;> cases b <;> rfl
theorem tw_not (hS:Gq T V env){e:Ex}(hk:KOK T V e)(h:e.op=12):tv env e = !tv env (Ao e):=by
 show ((vl env e).num==1)=_;rw [zZ hS hk h,Mm];rfl
theorem tw_and (hS:Gq T V env){e:Ex}(hk:KOK T V e)(h:e.op=10):tv env e=(tv env (Ao e)&&tv env (Bj e)):=by
 show ((vl env e).num==1)=_;rw [Pq hS hk (by omega) (by omega),h];exact Mm _
theorem tw_or (hS:Gq T V env){e:Ex}(hk:KOK T V e)(h:e.op=11):tv env e=(tv env (Ao e)||tv env (Bj e)):=by
 show ((vl env e).num==1)=_;rw [Pq hS hk (by omega) (by omega),h];exact Mm _
theorem cQ (hS:Gq T V env){e:Ex}(hk:KOK T V e)(h:e.op=7):tv env e=decide ((vl env (Ao e)).num<(vl env (Bj e)).num):=by
 show ((vl env e).num==1)=_;rw [Pq hS hk (by omega) (by omega),h];exact Mm _
theorem tw_leq (hS:Gq T V env){e:Ex}(hk:KOK T V e)(h:e.op=8):tv env e=decide ((vl env (Ao e)).num≤(vl env (Bj e)).num):=by
 show ((vl env e).num==1)=_;rw [Pq hS hk (by omega) (by omega),h];exact Mm _
theorem vQ (hS:Gq T V env){e:Ex}(hk:KOK T V e)(h:e.op=9):tv env e=eqV (vl env (Ao e)) (vl env (Bj e)):=by
 show ((vl env e).num==1)=_;rw [Pq hS hk (by omega) (by omega),h];exact Mm _
theorem tw_eqB (hS:Gq T V env){e:Ex}(hk:KOK T V e)(h:e.op=9)(h1:Am T V (Ao e)=1):tv env e=(tv env (Ao e)==tv env (Bj e)):=by
 have hl:=qN hk (by omega) (by omega)
 have m0:=A4 (show 0<e.args.length by omega)
 have m1:=Bn (show 1<e.args.length by omega)
 rw [vQ hS hk h]
 show eqV (Bw ⟨env,-1,Kn⟩ (Ao e)).1 (Bw ⟨env,-1,Kn⟩ (Bj e)).1=_
 rw [lB hS (Ax hk m0) h1,lB hS (Ax hk m1) (by rw [Ht hk h m1];exact h1)]
 exact Aal _ _
theorem Ru (hS:Gq T V env){e:Ex}(hk:KOK T V e):(vl env e).kind=Am T V e:=by
 rw [←Hv hk];exact (Td hS e hk.nodes hk.kind).2
theorem wJ (hS:Gq T V env){e:Ex}(hk:KOK T V e)(h:e.op=9)(h1:Am T V (Ao e)=0):tv env e=((vl env (Ao e)).num==(vl env (Bj e)).num):=by
 have hl:=qN hk (by omega) (by omega)
 have m0:=A4 (show 0<e.args.length by omega)
 have m1:=Bn (show 1<e.args.length by omega)
 have k0:=Ax hk m0
 have k1:=Ax hk m1
 rw [vQ hS hk h]
 have a0:=(Ru hS k0).trans h1
 have a1:=(Ru hS k1).trans ((Ht hk h m1).trans h1)
 have b0:=gP hS k0 a0
 have b1:=gP hS k1 a1
 rw [Bool.eq_iff_iff,pC]
 constructor
 · intro h;rw [h];simp
 ·
  intro h
  have h':(vl env (Ao e)).num=(vl env (Bj e)).num:=by simpa using h
  have c0:(vl env (Ao e)).text = []:=b0
  have c1:(vl env (Bj e)).text = []:=b1
  revert h' a0 a1 c0 c1
  generalize vl env (Ao e)=v
  generalize vl env (Bj e)=w
  intro a0 a1 c0 c1 h'
  cases v;cases w
  simp_all
end

section
variable {T:List Sc} {V:List Va} {env:List (List Ev)}
def Pk (env:List (List Ev))(y:Lit):Bool:=tv env y.cond != y.neg
def jT (env:List (List Ev))(c:List Lit):Bool:=c.all (Pk env)
def Rs (env:List (List Ev))(l:List (List Lit)):Bool:=l.any (jT env)
theorem cl_app (a b:List Lit):jT env (a++b)=(jT env a&&jT env b):=List.all_append
theorem tS (x:List Lit):∀b:List (List Lit),Rs env (b.map fun y=>x++y)=(jT env x&&Rs env b)
  | []=>by simp [Rs]
  | y::r=>by
    show (jT env (x++y)||Rs env (r.map fun y=>x++y))=(jT env x&&(jT env y||Rs env r))
    rw [tS x r,cl_app]
    cases jT env x <;> cases jT env y <;> rfl
theorem vB (a b:List (List Lit)):Rs env (a++b)=(Rs env a||Rs env b):=List.any_append
theorem oV:∀a b:List (List Lit),Rs env (a.flatMap fun x=>b.map fun y=>x++y)=(Rs env a&&Rs env b)
  | [],b=>rfl
  | x::r,b=>by
    rw [List.flatMap_cons,vB,tS,oV r b]
    show _=((jT env x||Rs env r)&&Rs env b)
    cases jT env x <;> cases Rs env r <;> cases Rs env b <;> rfl
theorem Sw {a b:Cs}(h:(Ee a b).2=true):a.2=true∧b.2=true∧Rs env (Ee a b).1=(Rs env a.1&&Rs env b.1):=by
  cases h1:(!a.2 || !b.2) with
  | true=>rw [gH h1] at h;cases h
  | false=>
    rw [Tq h1] at h ⊢
    cases h2:decide ((256:Int)<(a.1.length:Int)*(b.1.length:Int)) with
    | true=>rw [nW h2] at h;cases h
    | false=>rw [Xn h2];exact ⟨(Wc h1).1,(Wc h1).2,oV _ _⟩
theorem mW {a b:Cs}(h:(Ii a b).2=true):a.2=true∧b.2=true∧Rs env (Ii a b).1=(Rs env a.1||Rs env b.1):=by
  cases h1:((!a.2 || !b.2)||decide ((256:Int)<(a.1.length:Int)+(b.1.length:Int))) with
  | true=>rw [oY h1] at h;cases h
  | false=>
    rw [Yh h1]
    rw [Bool.or_eq_false_iff] at h1
    exact ⟨(Wc h1.1).1,(Wc h1.1).2,vB _ _⟩
theorem cs_one (y:Lit):Rs env (Dz [y]).1=Pk env y:=by simp [Rs,Dz,jT]
theorem cs_two (y z:Lit):Rs env (Dz [y,z]).1=(Pk env y||Pk env z):=by simp [Rs,Dz,jT]
theorem Ic {e:Ex}(hk:KOK T V e){a:Ex}(ha:a∈e.args)(ho:e.op=10∨e.op=11∨e.op=12):Am T V a=1:=by
 have h1:=Rl hk ha
 unfold N6 at h1
 rcases ho with h | h | h <;> rw [h] at h1 <;> simpa using h1
theorem vC {e:Ex}(hk:KOK T V e)(h0:(e.op==0)=true):tv env e=(e.val.num==1):=by
 unfold tv
 rw [Ta (Ba hk.nodes).1 (by simpa using h0)]
theorem X1 (hS:Gq T V env)(e:Ex):KOK T V e→Am T V e=1→∀s,(C4 T V e s).2=true→Rs env (C4 T V e s).1=(tv env e==s):=by
  refine Ex.Aa0 (P:=fun e=>KOK T V e→Am T V e=1→∀s,(C4 T V e s).2=true→Rs env (C4 T V e s).1=(tv env e==s)) (fun e ih hk h1 s hs=>?_) e
  rcases Iy s hk with h | ⟨h,hl⟩ | ⟨h,hl⟩ | ⟨h,hl,h2⟩ | ⟨h,hl,h2,h3⟩ | ⟨_,_,_,h,_⟩
  · rw [vC hk h]
    cases h2:((e.val.num==1)==s) with
    | true=>rw [Fl h h2];rfl
    | false=>rw [Fh h h2];rfl
  · have h12:e.op=12:=by simpa using h
    have m0:=A4 hl
    rw [Fo hl h] at hs ⊢
    rw [ih _ m0 (Ax hk m0) (Ic hk m0 (by omega)) _ hs,tw_not hS hk h12]
    cases tv env (Ao e) <;> cases s <;> rfl
  · have m0:=A4 (show 0<e.args.length by omega)
    have m1:=Bn hl
    have ho:e.op=10∨e.op=11:=by simpa using h
    have i0:=ih _ m0 (Ax hk m0) (Ic hk m0 (by omega)) s
    have i1:=ih _ m1 (Ax hk m1) (Ic hk m1 (by omega)) s
    have ht:tv env e=if e.op==10 then (tv env (Ao e)&&tv env (Bj e)) else (tv env (Ao e)||tv env (Bj e)):=by
      rcases ho with ho | ho
      · rw [tw_and hS hk ho,ho];rfl
      · rw [tw_or hS hk ho,ho];rfl
    rw [ht]
    cases h2:((e.op==10)==s) with
    | true=>
      rw [Fk hl h h2] at hs ⊢
      obtain ⟨a1,a2,a3⟩:=Sw (env:=env) hs
      rw [a3,i0 a1,i1 a2]
      cases h4:(e.op==10) <;> rw [h4] at h2 <;> cases s <;> simp at h2 <;> cases tv env (Ao e) <;> cases tv env (Bj e) <;> rfl
    | false=>
      rw [Fg hl h h2] at hs ⊢
      obtain ⟨a1,a2,a3⟩:=mW (env:=env) hs
      rw [a3,i0 a1,i1 a2]
      cases h4:(e.op==10) <;> rw [h4] at h2 <;> cases s <;> simp at h2 <;> cases tv env (Ao e) <;> cases tv env (Bj e) <;> rfl
  · have m0:=A4 (show 0<e.args.length by omega)
    have m1:=Bn hl
    have h9:e.op=9:=by simpa using h
    have k0:Am T V (Ao e)=1:=by simpa using h2
    have k1:Am T V (Bj e)=1:=by rw [Ht hk h9 m1];exact k0
    have i0:=ih _ m0 (Ax hk m0) k0
    have i1:=ih _ m1 (Ax hk m1) k1
    rw [Fj hl h h2] at hs ⊢
    obtain ⟨a1,a2,a3⟩:=mW (env:=env) hs
    obtain ⟨b1,b2,b3⟩:=Sw (env:=env) a1
    obtain ⟨c1,c2,c3⟩:=Sw (env:=env) a2
    rw [a3,b3,c3,i0 _ b1,i1 _ b2,i0 _ c1,i1 _ c2,tw_eqB hS hk h9 k0]
    cases tv env (Ao e) <;> cases tv env (Bj e) <;> cases s <;> rfl
  · have m0:=A4 (show 0<e.args.length by omega)
    have m1:=Bn hl
    have h9:e.op=9:=by simpa using h
    rw [Bool.and_eq_true] at h3
    have k0:Am T V (Ao e)=0:=by simpa using h3.1
    have k1:Am T V (Bj e)=0:=by rw [Ht hk h9 m1];exact k0
    have hs0:s=false:=by simpa using h3.2
    have t0:=Ps (Ax hk m0) (Ax hk m1) k0 k1
    have t1:=Ps (Ax hk m1) (Ax hk m0) k1 k0
    rw [Fq h h2 (by rw [Bool.and_eq_true];exact h3),cs_two,wJ hS hk h9 k0,hs0]
    unfold Pk
    rw [cQ hS t0 rfl,cQ hS t1 rfl]
    show ((decide ((vl env (Ao e)).num<(vl env (Bj e)).num) != false)||(decide ((vl env (Bj e)).num<(vl env (Ao e)).num) != false))=(((vl env (Ao e)).num==(vl env (Bj e)).num)==false)
    rw [Bool.eq_iff_iff]
    simp
    omega
  · rw [h,cs_one]
    unfold Pk
    cases tv env e <;> cases s <;> rfl
end

section
variable {T:List Sc} {V:List Va} {env:List (List Ev)}
theorem qF {op:Int}(a b:Ex)(h:op=7∨op=8∨op=10∨op=11):Bx (two op a b)=0:=by
 have hf:Bl (two op a b)=0:=by rcases h with h | h | h | h <;> subst h <;> simp [Bl,two,Dt,isV0,v0]
 unfold Bx
 rw [hf]
 rcases h with h | h | h | h <;> subst h <;> simp [two,D6,Dt]
theorem kok_mk2 {op:Int}{a b:Ex}(ha:KOK T V a)(hb:KOK T V b)(h:((op=7∨op=8)∧Am T V a=0∧Am T V b=0)∨((op=10∨op=11)∧Am T V a=1∧Am T V b=1)):KOK T V (two op a b):=by
 refine ⟨ha.ty,?_,?_⟩
 ·
  rw [Mz,qF a b (by omega)]
  show Aq C0 [a,b]=0
  simp [Aq,ha.nodes,hb.nodes]
 ·
  rw [Eo]
  show (if [a,b].isEmpty then _ else _:Int×Int).2=0
  have e1:(Ce T V a).2=0:=ha.kind
  have e2:(Ce T V b).2=0:=hb.kind
  have k1:=Hv ha
  have k2:=Hv hb
  rcases h with ⟨ho,h1,h2⟩ | ⟨ho,h1,h2⟩ <;> rw [h1] at k1 <;> rw [h2] at k2 <;> rcases ho with ho | ho <;> subst ho <;> simp [two,Aq,e1,e2,k1,k2,Dp,N6]
theorem Uo {op:Int}(a b:Ex)(h:op=7∨op=8∨op=10∨op=11):KOK T V (two op a b)→Am T V (two op a b)=1:=fun hk=>by
 rw [←Hv hk,(S1 hk (by simp [two])).2.2]
 rcases h with h | h | h | h <;> subst h <;> rfl
def litD (n:Nat)(c:Cs):Prop:=∀x∈c.1,∀y∈x,Et y.cond≤n
def dI (T:List Sc)(V:List Va)(c:Cs):Prop:=∀x∈c.1,∀y∈x,Am T V y.cond=1
theorem Ri {a b:Cs}(ha:dI T V a)(hb:dI T V b):dI T V (Ee a b):=by
 unfold Ee
 split
 · intro x hx;cases hx
 ·
  unfold Na
  split
  · intro x hx;cases hx
  ·
   intro x hx y hy
   obtain ⟨p,hp,hm⟩:=List.mem_flatMap.1 hx
   obtain ⟨q,hq,rfl⟩:=List.mem_map.1 hm
   rcases List.mem_append.1 hy with h | h
   · exact ha p hp y h
   · exact hb q hq y h
theorem Zz {a b:Cs}(ha:dI T V a)(hb:dI T V b):dI T V (Ii a b):=by
 unfold Ii
 split
 · intro x hx;cases hx
 ·
  intro x hx y hy
  rcases List.mem_append.1 hx with h | h
  · exact ha x h y hy
  · exact hb x h y hy
theorem Vc {l:List Lit}(h:∀y∈l,Am T V y.cond=1):dI T V (Dz l):=by
 intro x hx y hy
 unfold Dz at hx
 obtain ⟨z,hz,rfl⟩:=List.mem_map.1 hx
 rw [List.mem_singleton.1 hy]
 exact h z hz
theorem mA (e:Ex):KOK T V e→Am T V e=1→∀s,dI T V (C4 T V e s):=by
 refine Ex.Aa0 (P:=fun e=>KOK T V e→Am T V e=1→∀s,dI T V (C4 T V e s)) (fun e ih hk hr s=>?_) e
 rcases Iy s hk with h | ⟨h,hl⟩ | ⟨h,hl⟩ | ⟨h,hl,h1⟩ | ⟨h,hl,h1,h2⟩ | ⟨_,_,_,h,_⟩
 ·
  cases h1:((e.val.num==1)==s) with
  | true=>rw [Fl h h1];intro x hx y hy;rw [List.mem_singleton.1 hx] at hy;cases hy
  | false=>rw [Fh h h1];intro x hx;cases hx
 ·
  have m0:=A4 hl
  rw [Fo hl h];exact ih _ m0 (Ax hk m0) (Ic hk m0 (.inr (.inr (by simpa using h)))) _
 ·
  have m0:=A4 (show 0<e.args.length by omega)
  have m1:=Bn hl
  have ho:e.op=10∨e.op=11:=by simpa using h
  have i0:=ih _ m0 (Ax hk m0) (Ic hk m0 (by omega)) s
  have i1:=ih _ m1 (Ax hk m1) (Ic hk m1 (by omega)) s
  cases h1:((e.op==10)==s) with
  | true=>rw [Fk hl h h1];exact Ri i0 i1
  | false=>rw [Fg hl h h1];exact Zz i0 i1
 ·
  have m0:=A4 (show 0<e.args.length by omega)
  have m1:=Bn hl
  have h9:e.op=9:=by simpa using h
  have k0:Am T V (Ao e)=1:=by simpa using h1
  have k1:Am T V (Bj e)=1:=by rw [Ht hk h9 m1];exact k0
  have i0:=ih _ m0 (Ax hk m0) k0
  have i1:=ih _ m1 (Ax hk m1) k1
  rw [Fj hl h h1]
  exact Zz (Ri (i0 _) (i1 _)) (Ri (i0 _) (i1 _))
 ·
  have m0:=A4 (show 0<e.args.length by omega)
  have m1:=Bn hl
  have h9:e.op=9:=by simpa using h
  have h3:=h2
  rw [Bool.and_eq_true] at h3
  have k0:Am T V (Ao e)=0:=by simpa using h3.1
  have k1:Am T V (Bj e)=0:=by rw [Ht hk h9 m1];exact k0
  rw [Fq h h1 h2]
  refine Vc fun y hy=>?_
  rcases List.mem_cons.1 hy with rfl | hy
  · exact Uo _ _ (.inl rfl) (Ps (Ax hk m0) (Ax hk m1) k0 k1)
  · rw [List.mem_singleton.1 hy];exact Uo _ _ (.inl rfl) (Ps (Ax hk m1) (Ax hk m0) k1 k0)
 ·
  rw [h]
  exact Vc fun y hy=>by rw [List.mem_singleton.1 hy];exact hr
end

def Gu (e:Ev):Int:=
 if decide (e.source<0)||decide (8≤e.source) then 32
 else if decide (e.seq<0)||decide (1099511627776<e.seq)||decide (e.time<0)||decide (1099511627776<e.time) then 2 else 0
def Wt (v:Vl)(f:Fi):Int:=if An v != 0 then An v else if v.kind != f.kind then 9 else 0
def Qh:List Vl→List Fi→Int
 | v::r,f::s=>if Wt v f != 0 then Wt v f else Qh r s
 | _,_=>0
def Fa (types:List Sc)(e:Ev):List Fi:=((types[e.type.toNat]?).getD sc0).fields
def Jz (types:List Sc)(e:Ev):Int:=
 if Gu e != 0 then Gu e
 else if decide (e.type<0)||decide ((types.length:Int)≤e.type) then 6
 else if (e.values.length:Int) != ((Fa types e).length:Int) then 15
 else Qh e.values (Fa types e)
def Gi (types:List Sc)(e:Ev):Int:=if Eb types != 0 then Eb types else Jz types e
def Xd (l:List Vl):Bool:=!((l.take 40).any fun v=>decide (128<v.text.length))&&decide (l.length<40)
def kP (l:List Ev):Bool:=!((l.take 20).any fun e=>!Xd e.values)&&decide (l.length≤20)
theorem dJ {α:Type}{l:List α}{k:Nat}(d:α)(h:k<l.length):l[k]? = some ((l[k]?).getD d):=by
 rw [List.getElem?_eq_getElem h];rfl
theorem jM {α:Type}(f:α→Bool){l:List α}{k:Nat}{x:α}(h:l[k]? = some x):(l.take (k+1)).any f=((l.take k).any f||f x):=by rw [Cm h];simp
theorem qM {l:List Vl}{m:List Fi}{k:Nat}{v:Vl}{f:Fi}(hv:l[k]? = some v)(hf:m[k]? = some f):Qh (l.drop k) (m.drop k)=if Wt v f != 0 then Wt v f else Qh (l.drop (k+1)) (m.drop (k+1)):=by
 rw [A5 hv,A5 hf,Qh]
theorem pP (l:List Vl):Qh l []=0:=by cases l <;> rfl
theorem ty_in {n:Nat}{t:Int}(h:(decide (t<0)||decide ((n:Int)≤t))=false):0≤t∧t.toNat<n:=by
 simp only [Bool.or_eq_false_iff,decide_eq_false_iff_not] at h
 omega
theorem mC {n m:Nat}(h:((n:Int) != (m:Int))=false):n=m:=by
 have h1:(n:Int)=m:=by simpa using h
 omega
theorem rF {l:List Vl}{k:Nat}{a:Vl}(ha:l[k]? = some a)(h:(l.take k).any (fun v=>decide (128<v.text.length))=false)(h2:decide ((128:Int)<(a.text.length:Int))=false):(l.take (k+1)).any (fun v=>decide (128<v.text.length))=false:=by
 rw [jM _ ha,h,Bool.false_or,decide_eq_false_iff_not]
 have:=of_decide_eq_false h2;omega
theorem vH {l:List Vl}{k:Nat}{a:Vl}(ha:l[k]? = some a)(hk:k<40)(h2:decide ((128:Int)<(a.text.length:Int))=true):Xd l=false:=by
 have h3:(l.take 40).any (fun v=>decide (128<v.text.length))=true:=by
  rw [List.any_eq_true]
  exact ⟨a,List.mem_iff_getElem?.2 ⟨k,by rw [List.getElem?_take,if_pos hk];exact ha⟩,by have:=of_decide_eq_true h2;simp;omega⟩
 unfold Xd;rw [h3];rfl
theorem gB {α:Type}{l:List α}{k n:Nat}(h:(decide ((k:Int)<(l.length:Int))&&decide ((k:Int)<(n:Int)))=false)(hk:k≤n):l.take k=l.take n:=by
 simp only [Bool.and_eq_false_iff,decide_eq_false_iff_not] at h
 by_cases hn:k=n
 · rw [hn]
 · rw [List.take_of_length_le (by omega),List.take_of_length_le (by omega)]
theorem yH {l:List Vl}{k:Nat}(h:(decide ((k:Int)<(l.length:Int))&&decide ((k:Int)<40))=false)(hk:k≤40)(ha:(l.take k).any (fun v=>decide (128<v.text.length))=false):Xd l=decide ((l.length:Int)<40):=by
 rw [gB (n:=40) h hk] at ha
 unfold Xd;rw [ha,Bool.not_false,Bool.true_and,decide_eq_decide];omega
theorem xD {l:List Ev}{k:Nat}{a:Ev}(ha:l[k]? = some a)(hk:k<20)(h2:(!Xd a.values)=true):kP l=false:=by
 have h3:(l.take 20).any (fun e=>!Xd e.values)=true:=by
  rw [List.any_eq_true]
  exact ⟨a,List.mem_iff_getElem?.2 ⟨k,by rw [List.getElem?_take,if_pos hk];exact ha⟩,h2⟩
 unfold kP;rw [h3];rfl
theorem vD {l:List Ev}{k:Nat}(h:(decide ((k:Int)<(l.length:Int))&&decide ((k:Int)<20))=false)(hk:k≤20)(ha:(l.take k).any (fun e=>!Xd e.values)=false):kP l=decide ((l.length:Int)≤20):=by
 rw [gB (n:=20) h hk] at ha
 unfold kP;rw [ha,Bool.not_false,Bool.true_and,decide_eq_decide];omega
def We (T:List Sc)(p:Ev×Va):Bool:=Gi T p.1 != 0||p.1.type != p.2.type
def Ls (T:List Sc)(V:List Va)(l:List Ev):Bool:=if (l.zip V).any (We T) then false else ((l.length:Int)==(V.length:Int))
def Dw (l:List Ev):List (List Ev):=l.map fun e=>[e]
theorem pD {α β:Type}{l:List α}{m:List β}{k:Nat}{x:α}{y:β}(hx:l[k]? = some x)(hy:m[k]? = some y):(l.zip m)[k]? = some (x,y):=by
 rw [List.getElem?_zip_eq_some];exact ⟨hx,hy⟩
theorem zip_end {α β:Type}{l:List α}{m:List β}{k:Nat}(h:(decide ((k:Int)<(l.length:Int))&&decide ((k:Int)<(m.length:Int)))=false):(l.zip m).take k=l.zip m:=by
 simp only [Bool.and_eq_false_iff,decide_eq_false_iff_not] at h
 exact List.take_of_length_le (by rw [List.length_zip];omega)
theorem fH:∀{l:List Vl} {m:List Fi},l.length=m.length→Qh l m=0→∀(k:Nat) (f:Fi),m[k]? = some f→∃w,l[k]? = some w∧rJ w f.kind
  | [],[],_,_,k,f,h=>by simp at h
  | [],_::_,h,_,_,_,_=>by simp at h
  | _::_,[],h,_,_,_,_=>by simp at h
  | v::r,g::s,hl,h,k,f,hf=>by
    rw [Qh] at h
    cases h1:(Wt v g != 0) with
    | true=>rw [if_pos h1] at h;rw [h] at h1;cases h1
    | false=>
      rw [Cz h1] at h
      cases k with
      | zero=>
        simp only [List.getElem?_cons_zero,Option.some.injEq] at hf
        subst hf
        refine ⟨v,rfl,?_⟩
        unfold Wt at h1
        cases h2:(An v != 0) with
        | true=>rw [if_pos h2] at h1;rw [h1] at h2;cases h2
        | false=>
          rw [Cz h2] at h1
          cases h3:(v.kind != g.kind) with
          | true=>rw [if_pos h3] at h1;cases h1
          | false=>exact ⟨by simpa using h3,by simpa using h2⟩
      | succ k=>exact fH (by simpa using hl) h k f (by simpa using hf)
theorem kD {T:List Sc}{e:Ev}(h:Jz T e=0):∃s,T[e.type.toNat]? = some s∧Yd s e:=by
  unfold Jz at h
  cases h1:(Gu e != 0) with
  | true=>rw [if_pos h1] at h;rw [h] at h1;cases h1
  | false=>
    rw [Cz h1] at h
    cases h2:(decide (e.type<0)||decide ((T.length:Int)≤e.type)) with
    | true=>rw [if_pos h2] at h;cases h
    | false=>
      rw [Cz h2] at h
      cases h3:((e.values.length:Int) != ((Fa T e).length:Int)) with
      | true=>rw [if_pos h3] at h;cases h
      | false=>
        rw [Cz h3] at h
        have hs:=dJ sc0 (ty_in h2).2
        exact ⟨_,hs,mC h3,fH (mC h3) h⟩
theorem U8 {T:List Sc}{e:Ev}(h:Gi T e=0):Jz T e=0:=by
 unfold Gi at h
 cases h1:(Eb T != 0) with
 | true=>rw [if_pos h1] at h;rw [h] at h1;cases h1
 | false=>rwa [Cz h1] at h
theorem Vi {T:List Sc}{V:List Va}{l:List Ev}(h:Ls T V l=true):l.length=V.length∧∀(i:Nat) (v:Va),V[i]? = some v→∃e,l[i]? = some e∧Gi T e=0∧e.type=v.type:=by
  unfold Ls at h
  cases h1:(l.zip V).any (We T) with
  | true=>rw [if_pos h1] at h;cases h
  | false=>
    rw [Cz h1] at h
    have hl : l.length = V.length := by have : (l.length : Int) = V.length := by simpa using h
                                        omega
    refine ⟨hl,fun i v hv=>?_⟩
    have hi:=A8 hv
    have hx:l[i]? = some (l[i]'(by omega)):=List.getElem?_eq_getElem (by omega)
    have h2:=Bool.eq_false_iff.2 (List.any_eq_false.1 h1 _ (List.mem_of_getElem? (pD hx hv)))
    unfold We at h2
    rw [Bool.or_eq_false_iff] at h2
    exact ⟨_,hx,by simpa using h2.1,by simpa using h2.2⟩
theorem uS {T:List Sc}{V:List Va}{l:List Ev}(h:Ls T V l=true):Gq T V (Dw l):=by
 obtain ⟨hl,h1⟩:=Vi h
 refine ⟨by simp [Dw,hl],fun i v hv=>?_⟩
 obtain ⟨e,he,hc,ht⟩:=h1 i v hv
 obtain ⟨s,hs,hse⟩:=kD (U8 hc)
 exact ⟨s,e,by rw [←ht];exact hs,by simp [Dw,he],hse⟩
theorem Rz (l:List Ev):∀x∈Dw l,x.length≤1048576:=fun x hx=>by
 obtain ⟨e,_,rfl⟩:=List.mem_map.1 hx
 exact (by decide:1≤1048576)
def Om (T:List Sc)(V:List Va)(l:List Ev)(e:Ex):Bool:=(((iF T V [e]&&kP l)&&(Eb T==0))&&Ls T V l)&&(Dx T V e==0)
theorem gE {T:List Sc}{V:List Va}{l:List Ev}{e:Ex}(h:Om T V l e=true):iF T V [e]=true∧kP l=true∧Eb T=0∧Ls T V l=true∧Dx T V e=0:=by
 unfold Om at h
 simp only [Bool.and_eq_true,beq_iff_eq] at h
 exact ⟨h.1.1.1.1,h.1.1.1.2,h.1.1.2,h.1.2,h.2⟩

structure Half (env kn:List (List Ev)):Prop where
 some:∀v:Int,Bu kn v=Bu env v∨Bu kn v = []
def oE (env:List (List Ev)):Prop:=∀l∈env,∀ev∈l,An ⟨0,ev.time,[]⟩=0
section
variable {T:List Sc} {V:List Va} {env kn:List (List Ev)}
theorem Y0 (hS:Gq T V env)(hT:oE env){e:Ex}(hk:KOK T V e)(ho:(e.op==1||e.op==2)=true) :
  ∃ev,Bu env e.var = [ev]∧(L4 e ev).2=0∧An (L4 e ev).1=0∧Bw ⟨env,-1,Kn⟩ e=((L4 e ev).1,0):=by
 have hz:=(Ba hk.nodes).1
 have hvr:=Ml hz
 have hfr:=Jx hz
 have hop:e.op=1∨e.op=2:=by simpa using ho
 have ha:e.args = []:=Y4 hz (by omega)
 have hkk:=hk.kind
 rw [Sa hk (by omega)] at hkk
 unfold F3 at hkk
 have h0:¬(e.op==0)=true:=by simp;omega
 rw [if_neg h0] at hkk
 by_cases h1:decide ((V.length:Int)≤e.var)=true
 · rw [if_pos h1] at hkk;cases hkk
 rw [if_neg h1] at hkk
 have hlt:e.var<(V.length:Int):=by simp at h1;omega
 obtain ⟨v,hv⟩:=Hq (l:=V) hvr.1 hlt
 obtain ⟨s,ev,hs,hev,hse⟩:=hS.2 _ v hv
 have hel:e.var<(env.length:Int):=by rw [hS.1];exact hlt
 have hevs:Bu env e.var = [ev]:=tD hvr.1 hev
 have hown:(e.var != -1)=true:=by simp;omega
 refine ⟨ev,hevs,?_⟩
 rw [Ma ha,Mj hevs hown h0 (by omega) (by omega)]
 rcases hop with hop | hop
 ·
  have hfl:Fs T V e.var=s.fields:=bW hv hs
  rw [hfl,if_neg (by simp [hop])] at hkk
  by_cases h4:decide ((s.fields.length:Int)≤e.field)=true
  · rw [if_pos h4] at hkk;cases hkk
  obtain ⟨f,hf⟩:=Hq (l:=s.fields) hfr (by simp at h4;omega)
  obtain ⟨w,hw,hgw⟩:=hse.2 _ f hf
  have hr:L4 e ev=(w,0):=by
   unfold L4
   rw [if_pos (by simp [hop]),if_neg (by rw [hse.1];exact h4),hw]
   simp [hgw.2]
  rw [hr]
  refine ⟨rfl,hgw.2,?_⟩
  have hfs:Do ev e.field=(w,0):=by
   unfold Do
   rw [if_neg (by rw [hse.1];exact h4),hw];rfl
  unfold Gy
  rw [if_neg (by simp [hop]),hfs,if_pos (by rfl),if_neg (by rw [hgw.2];decide)]
 ·
  have ht:=hT _ (List.mem_of_getElem? hev) ev (List.mem_cons_self ..)
  have hr:L4 e ev=(⟨0,ev.time,[]⟩,0):=by
   unfold L4
   rw [if_neg (by simp [hop]),ht]
  rw [hr]
  refine ⟨rfl,ht,?_⟩
  unfold Gy
  rw [if_pos (by simp [hop])]
end
def readsN:Ex→Nat:=Re fun e ns=>(if e.op==1||e.op==2 then 1 else 0)+ns.sum
def halfS (l:List (List Ev)):Nat→List (List Ev)
 | 0=>l
 | k+1=>if k % 2=1 then (halfS l k).set k [] else halfS l k
end Go.Proofs.YtkddpedfbicbeaaGreatDoor
