/-
  Several texts in one: S34, S35, S36, S37. No condition.
-/
import Derived.Test.YtkddpedfbicbeaaGreatDoorK21
import Derived.Test.YtkddpedfbicbeaaGreatDoorK03
set_option linter.unusedVariables false
set_option linter.unusedSimpArgs false
namespace Go.Proofs.YtkddpedfbicbeaaGreatDoor
open Go Go.Aw

def okI (v:Vl):Prop:=v.kind=0→v.text = []
section
variable {T:List Sc} {V:List Va} {env:List (List Ev)}
theorem uO (hS:E6 T V env){e:Ex}(hz:Bw e=0)(ha:e.args = [])(hk:(F0 T V e).2=0):okI (Fb ⟨env,-1,Kl⟩ e).1:=by
 have hvr:=Mt hz
 have hfr:=Jx hz
 have key:∀{w:Vl},Ap w=0→okI w:=fun h hk=>(F3 h hk).1
 unfold F0 at hk
 by_cases h0:(e.op==0)=true
 · unfold Fb;rw [if_pos h0];exact key (H6 hz (by simpa using h0)).1
 rw [if_neg h0] at hk
 by_cases h1:decide ((V.length:Int)≤e.var)=true
 · rw [if_pos h1] at hk;cases hk
 rw [if_neg h1] at hk
 have hlt:e.var<(V.length:Int):=by simp at h1;omega
 obtain ⟨v,hv⟩:=Hz (l:=V) hvr.1 hlt
 obtain ⟨s,ev,hs,hev,hse⟩:=hS.2 _ v hv
 have hel:e.var<(env.length:Int):=by rw [hS.1];exact hlt
 have hevs:Bt env e.var = [ev]:=by
  unfold Bt
  rw [if_neg (by simp;omega),hev];rfl
 have hown:(e.var != -1)=true:=by simp;omega
 have hfl:Fs T V e.var=s.fields:=bS hv hs
 rw [hfl] at hk
 by_cases h3:e.op=3
 ·
  unfold Fb
  rw [if_neg h0,if_pos (by simp [h3])]
  exact fun _=>rfl
 by_cases h2:e.op=2
 ·
  rw [L9 hevs hown h0 h3 (by omega)]
  unfold G4
  rw [if_pos (by simp [h2])]
  exact fun _=>rfl
 rw [if_neg (by simp [h2,h3])] at hk
 by_cases h4:decide ((s.fields.length:Int)≤e.field)=true
 · rw [if_pos h4] at hk;cases hk
 rw [if_neg h4] at hk
 obtain ⟨f,hf⟩:=Hz (l:=s.fields) hfr (by simp at h4;omega)
 obtain ⟨w,hw,hgw⟩:=hse.2 _ f hf
 have hka:Hp s.fields e.field=f.kind:=by simp [Hp,hf]
 have hfs:Dq ev e.field=(w,0):=by
  unfold Dq
  rw [if_neg (by rw [hse.1];exact h4),hw];rfl
 rw [hka] at hk
 by_cases h5:e.op=4
 ·
  by_cases h6:(e.op==4&&(f.kind != e.val.kind || !Du e.kind ⟨f.kind,0,[]⟩))=true
  · rw [if_pos h6] at hk;cases hk
  have htw:=Uo hz h5
  have hes:Du e.kind w=true:=by
   simp [h5] at h6
   have:=h6.2
   unfold Du at this ⊢
   rw [hgw.1];exact this
  unfold Fb Pk
  rw [if_neg h0,if_neg (by simp [h3]),if_pos (by simp [h5]),hevs]
  have e1:Aq (fun v=>(Dq v e.field).2) [ev]=0:=by simp [Aq,hfs]
  rw [if_neg (by rw [e1];decide)]
  have e2:([ev].map fun v=>(Dq v e.field).1) = [w]:=by simp [hfs]
  rw [e2,aF ⟨htw.2.1,htw.2.2⟩ hgw.2 hes htw.1]
  exact key hgw.2
 ·
  rw [L9 hevs hown h0 h3 h5]
  unfold G4
  rw [if_neg (by simp [h2]),hfs,if_pos (by rfl),if_neg (by rw [hgw.2];decide)]
  exact key hgw.2
theorem tH (op a b:Int):okI (G0 op a b):=by
 unfold G0
 intro h
 split
 · rfl
 split
 · rfl
 all_goals (rename_i h5 h6;rw [Ci (Bool.eq_false_iff.2 h5),Ci (Bool.eq_false_iff.2 h6)] at h;repeat' split at h) <;> exact absurd h (by rw [Qh];decide)
theorem Xi (hS:E6 T V env){e:Ex}(hk:KOK T V e)(ha:e.args≠[]):By ⟨env,-1,Kl⟩ e=Kv e.op (e.args.map fun a=>(By ⟨env,-1,Kl⟩ a).1):=
 Xt ha fun a hm=>(Sx hS a (A1 hk hm).nodes (A1 hk hm).kind).1
theorem fB (hS:E6 T V env){e:Ex}(hk:KOK T V e):okI (By ⟨env,-1,Kl⟩ e).1:=by
 by_cases ha:e.args = []
 ·
  have h:=hk.kind
  rw [Ee,if_pos (by simp [ha])] at h
  rw [L5 ha];exact uO hS (Bb hk.nodes).1 ha h
 ·
  rw [Xi hS hk ha]
  unfold Kv
  split
  · exact fun _=>rfl
  split
  · exact fun h=>absurd h (by rw [Qh];decide)
  · exact tH _ _ _
/-- truth of what is a condition -/
def tv (env:List (List Ev))(e:Ex):Bool:=(By ⟨env,-1,Kl⟩ e).1.num==1
theorem mJ (hS:E6 T V env){e:Ex}(hk:KOK T V e)(h1:Am T V e=1):By ⟨env,-1,Kl⟩ e=(D3 (tv env e),0):=by
 obtain ⟨h2,h3⟩:=Sx hS e hk.nodes hk.kind
 rw [Fz hk,h1] at h3
 have h4:=wC hk.nodes h2 h3
 show _=(D3 ((By ⟨env,-1,Kl⟩ e).1.num==1),(0:Int))
 rw [←h4,←h2]
theorem uD (hS:E6 T V env){e:Ex}(hk:KOK T V e)(h1:Am T V e=1)(hc:Bu e=0):Ko ⟨env,-1,Kl⟩ e=tv env e:=by
 unfold Ko Wz
 rw [if_neg (by rw [hc];decide),mJ hS hk h1]
 cases tv env e <;> rfl
/-- the values of a node's parts -/
theorem eO (hS:E6 T V env){e:Ex}(hk:KOK T V e)(ha:e.args≠[]) :
  (By ⟨env,-1,Kl⟩ e).1=if e.op==9 then D3 (eqV (((e.args.map fun a=>(By ⟨env,-1,Kl⟩ a).1)).headD v0) (((e.args.map fun a=>(By ⟨env,-1,Kl⟩ a).1)[1]?).getD v0)) else G0 e.op ((e.args.map fun a=>(By ⟨env,-1,Kl⟩ a).1).headD v0).num ((e.args.map fun a=>(By ⟨env,-1,Kl⟩ a).1).getLastD v0).num:=by
 have h2:=(Sx hS e hk.nodes hk.kind).1
 rw [Xi hS hk ha] at h2 ⊢
 unfold Kv at h2 ⊢
 by_cases h:(Di e.op ((e.args.map fun a=>(By ⟨env,-1,Kl⟩ a).1).map (·.kind)) != 0)=true
 · rw [if_pos h] at h2;simp only at h2;rw [h2] at h;cases h
 ·
  rw [if_neg h]
  split <;> rfl
theorem rF {e:Ex}(hl:e.args.length=2):e.args = [Ao e,Bg e]:=by
 unfold Ao Bg
 match h:e.args,hl with
 | [a,b],_=>rfl
theorem rM {e:Ex}(hl:e.args.length=1):e.args = [Ao e]:=by
 unfold Ao
 match h:e.args,hl with
 | [a],_=>rfl
theorem iU {e:Ex}(hk:KOK T V e)(h5:5≤e.op)(h:e.op≤11):e.args.length=2:=by
 obtain ⟨_,_,h2⟩:=Hb (Bb hk.nodes).1
 unfold D4 at h2
 rw [if_neg (by omega),if_neg (by omega),if_neg (by omega)] at h2
 omega
theorem len1 {e:Ex}(hk:KOK T V e)(h:e.op=12):e.args.length=1:=by
 obtain ⟨_,_,h2⟩:=Hb (Bb hk.nodes).1
 rw [h] at h2
 have:D4 12=1:=by decide
 rw [this] at h2;omega
def vl (env:List (List Ev))(e:Ex):Vl:=(By ⟨env,-1,Kl⟩ e).1
theorem vl_def (env:List (List Ev))(e:Ex):(By ⟨env,-1,Kl⟩ e).1=vl env e:=rfl
theorem Pn (hS:E6 T V env){e:Ex}(hk:KOK T V e)(h5:5≤e.op)(h:e.op≤11):vl env e=if e.op==9 then D3 (eqV (vl env (Ao e)) (vl env (Bg e))) else G0 e.op (vl env (Ao e)).num (vl env (Bg e)).num:=by
 have hl:=iU hk h5 h
 have h1:=eO hS hk (by intro hn;rw [hn] at hl;cases hl)
 rw [rF hl] at h1
 exact h1
theorem val_one (hS:E6 T V env){e:Ex}(hk:KOK T V e)(h:e.op=12):vl env e=D3 ((vl env (Ao e)).num != 1):=by
 have hl:=len1 hk h
 have h1:=eO hS hk (by intro hn;rw [hn] at hl;cases hl)
 rw [rM hl] at h1
 have h2:vl env e=G0 e.op (vl env (Ao e)).num (vl env (Ao e)).num:=by
  refine h1.trans ?_
  rw [if_neg (by rw [h];decide)];rfl
 rw [h2,h];rfl
theorem L7 (b:Bool):((D3 b).num==1)=b:=by cases b <;> rfl
theorem flag_eq (a b:Bool):eqV (D3 a) (D3 b)=(a==b):=by cases a <;> cases b <;> rfl
theorem kB (hS:E6 T V env){e:Ex}(hk:KOK T V e)(h:e.op=12):tv env e = !tv env (Ao e):=by
 show ((vl env e).num==1)=_;rw [val_one hS hk h,L7];rfl
theorem mE (hS:E6 T V env){e:Ex}(hk:KOK T V e)(h:e.op=10):tv env e=(tv env (Ao e)&&tv env (Bg e)):=by
 show ((vl env e).num==1)=_;rw [Pn hS hk (by omega) (by omega),h];exact L7 _
theorem uV (hS:E6 T V env){e:Ex}(hk:KOK T V e)(h:e.op=11):tv env e=(tv env (Ao e)||tv env (Bg e)):=by
 show ((vl env e).num==1)=_;rw [Pn hS hk (by omega) (by omega),h];exact L7 _
theorem Td (hS:E6 T V env){e:Ex}(hk:KOK T V e)(h:e.op=7):tv env e=decide ((vl env (Ao e)).num<(vl env (Bg e)).num):=by
 show ((vl env e).num==1)=_;rw [Pn hS hk (by omega) (by omega),h];exact L7 _
theorem kV (hS:E6 T V env){e:Ex}(hk:KOK T V e)(h:e.op=8):tv env e=decide ((vl env (Ao e)).num≤(vl env (Bg e)).num):=by
 show ((vl env e).num==1)=_;rw [Pn hS hk (by omega) (by omega),h];exact L7 _
theorem vZ (hS:E6 T V env){e:Ex}(hk:KOK T V e)(h:e.op=9):tv env e=eqV (vl env (Ao e)) (vl env (Bg e)):=by
 show ((vl env e).num==1)=_;rw [Pn hS hk (by omega) (by omega),h];exact L7 _
theorem tw_eqB (hS:E6 T V env){e:Ex}(hk:KOK T V e)(h:e.op=9)(h1:Am T V (Ao e)=1):tv env e=(tv env (Ao e)==tv env (Bg e)):=by
 have hl:=iU hk (by omega) (by omega)
 have m0:=A4 (show 0<e.args.length by omega)
 have m1:=Bi (show 1<e.args.length by omega)
 rw [vZ hS hk h]
 show eqV (By ⟨env,-1,Kl⟩ (Ao e)).1 (By ⟨env,-1,Kl⟩ (Bg e)).1=_
 rw [mJ hS (A1 hk m0) h1,mJ hS (A1 hk m1) (by rw [Ik hk h m1];exact h1)]
 exact flag_eq _ _
theorem Si (hS:E6 T V env){e:Ex}(hk:KOK T V e):(vl env e).kind=Am T V e:=by
 rw [←Fz hk];exact (Sx hS e hk.nodes hk.kind).2
theorem wU (hS:E6 T V env){e:Ex}(hk:KOK T V e)(h:e.op=9)(h1:Am T V (Ao e)=0):tv env e=((vl env (Ao e)).num==(vl env (Bg e)).num):=by
 have hl:=iU hk (by omega) (by omega)
 have m0:=A4 (show 0<e.args.length by omega)
 have m1:=Bi (show 1<e.args.length by omega)
 have k0:=A1 hk m0
 have k1:=A1 hk m1
 rw [vZ hS hk h]
 have a0:=(Si hS k0).trans h1
 have a1:=(Si hS k1).trans ((Ik hk h m1).trans h1)
 have b0:=fB hS k0 a0
 have b1:=fB hS k1 a1
 rw [Bool.eq_iff_iff,mT]
 constructor
 · intro h;rw [h];simp
 ·
  intro h
  have h':(vl env (Ao e)).num=(vl env (Bg e)).num:=by simpa using h
  have c0:(vl env (Ao e)).text = []:=b0
  have c1:(vl env (Bg e)).text = []:=b1
  revert h' a0 a1 c0 c1
  generalize vl env (Ao e)=v
  generalize vl env (Bg e)=w
  intro a0 a1 c0 c1 h'
  cases v;cases w
  simp_all
end

section
variable {T:List Sc} {V:List Va} {env:List (List Ev)}
def Pa (env:List (List Ev))(y:Lit):Bool:=tv env y.cond != y.neg
def jW (env:List (List Ev))(c:List Lit):Bool:=c.all (Pa env)
def P4 (env:List (List Ev))(l:List (List Lit)):Bool:=l.any (jW env)
theorem cl_app (a b:List Lit):jW env (a++b)=(jW env a&&jW env b):=List.all_append
theorem xL (x:List Lit):∀b:List (List Lit),P4 env (b.map fun y=>x++y)=(jW env x&&P4 env b)
  | []=>by simp [P4]
  | y::r=>by
    show (jW env (x++y)||P4 env (r.map fun y=>x++y))=(jW env x&&(jW env y||P4 env r))
    rw [xL x r,cl_app]
    cases jW env x <;> cases jW env y <;> rfl
theorem uU (a b:List (List Lit)):P4 env (a++b)=(P4 env a||P4 env b):=List.any_append
theorem oF:∀a b:List (List Lit),P4 env (a.flatMap fun x=>b.map fun y=>x++y)=(P4 env a&&P4 env b)
  | [],b=>rfl
  | x::r,b=>by
    rw [List.flatMap_cons,uU,xL,oF r b]
    show _=((jW env x||P4 env r)&&P4 env b)
    cases jW env x <;> cases P4 env r <;> cases P4 env b <;> rfl
theorem Oy {a b:Cs}(h:(El a b).2=true):a.2=true∧b.2=true∧P4 env (El a b).1=(P4 env a.1&&P4 env b.1):=by
  cases h1:(!a.2 || !b.2) with
  | true=>rw [jT h1] at h;cases h
  | false=>
    rw [Zs h1] at h ⊢
    cases h2:decide ((256:Int)<(a.1.length:Int)*(b.1.length:Int)) with
    | true=>rw [nH h2] at h;cases h
    | false=>rw [jK h2];exact ⟨(V8 h1).1,(V8 h1).2,oF _ _⟩
theorem oS {a b:Cs}(h:(Jf a b).2=true):a.2=true∧b.2=true∧P4 env (Jf a b).1=(P4 env a.1||P4 env b.1):=by
  cases h1:((!a.2 || !b.2)||decide ((256:Int)<(a.1.length:Int)+(b.1.length:Int))) with
  | true=>rw [nF h1] at h;cases h
  | false=>
    rw [eP h1]
    rw [Bool.or_eq_false_iff] at h1
    exact ⟨(V8 h1.1).1,(V8 h1.1).2,uU _ _⟩
theorem cs_one (y:Lit):P4 env (Eg [y]).1=Pa env y:=by simp [P4,Eg,jW]
theorem cs_two (y z:Lit):P4 env (Eg [y,z]).1=(Pa env y||Pa env z):=by simp [P4,Eg,jW]
theorem Id {e:Ex}(hk:KOK T V e){a:Ex}(ha:a∈e.args)(ho:e.op=10∨e.op=11∨e.op=12):Am T V a=1:=by
 have h1:=Ot hk ha
 unfold Mo at h1
 rcases ho with h | h | h <;> rw [h] at h1 <;> simpa using h1
theorem Yb {e:Ex}(hk:KOK T V e)(h0:(e.op==0)=true):tv env e=(e.val.num==1):=by
 unfold tv
 rw [Tc (Bb hk.nodes).1 (by simpa using h0)]
theorem Q7 (hS:E6 T V env)(e:Ex):KOK T V e→Am T V e=1→∀s,(Da T V e s).2=true→P4 env (Da T V e s).1=(tv env e==s):=by
  refine Ex.Aak (P:=fun e=>KOK T V e→Am T V e=1→∀s,(Da T V e s).2=true→P4 env (Da T V e s).1=(tv env e==s)) (fun e ih hk h1 s hs=>?_) e
  rcases Ls s hk with h | ⟨h,hl⟩ | ⟨h,hl⟩ | ⟨h,hl,h2⟩ | ⟨h,hl,h2,h3⟩ | ⟨_,_,_,h,_⟩
  · rw [Yb hk h]
    cases h2:((e.val.num==1)==s) with
    | true=>rw [Gg h h2];rfl
    | false=>rw [Gr h h2];rfl
  · have h12:e.op=12:=by simpa using h
    have m0:=A4 hl
    rw [Gd hl h] at hs ⊢
    rw [ih _ m0 (A1 hk m0) (Id hk m0 (by omega)) _ hs,kB hS hk h12]
    cases tv env (Ao e) <;> cases s <;> rfl
  · have m0:=A4 (show 0<e.args.length by omega)
    have m1:=Bi hl
    have ho:e.op=10∨e.op=11:=by simpa using h
    have i0:=ih _ m0 (A1 hk m0) (Id hk m0 (by omega)) s
    have i1:=ih _ m1 (A1 hk m1) (Id hk m1 (by omega)) s
    have ht:tv env e=if e.op==10 then (tv env (Ao e)&&tv env (Bg e)) else (tv env (Ao e)||tv env (Bg e)):=by
      rcases ho with ho | ho
      · rw [mE hS hk ho,ho];rfl
      · rw [uV hS hk ho,ho];rfl
    rw [ht]
    cases h2:((e.op==10)==s) with
    | true=>
      rw [Gk hl h h2] at hs ⊢
      obtain ⟨a1,a2,a3⟩:=Oy (env:=env) hs
      rw [a3,i0 a1,i1 a2]
      cases h4:(e.op==10) <;> rw [h4] at h2 <;> cases s <;> simp at h2 <;> cases tv env (Ao e) <;> cases tv env (Bg e) <;> rfl
    | false=>
      rw [Gq hl h h2] at hs ⊢
      obtain ⟨a1,a2,a3⟩:=oS (env:=env) hs
      rw [a3,i0 a1,i1 a2]
      cases h4:(e.op==10) <;> rw [h4] at h2 <;> cases s <;> simp at h2 <;> cases tv env (Ao e) <;> cases tv env (Bg e) <;> rfl
  · have m0:=A4 (show 0<e.args.length by omega)
    have m1:=Bi hl
    have h9:e.op=9:=by simpa using h
    have k0:Am T V (Ao e)=1:=by simpa using h2
    have k1:Am T V (Bg e)=1:=by rw [Ik hk h9 m1];exact k0
    have i0:=ih _ m0 (A1 hk m0) k0
    have i1:=ih _ m1 (A1 hk m1) k1
    rw [Gb hl h h2] at hs ⊢
    obtain ⟨a1,a2,a3⟩:=oS (env:=env) hs
    obtain ⟨b1,b2,b3⟩:=Oy (env:=env) a1
    obtain ⟨c1,c2,c3⟩:=Oy (env:=env) a2
    rw [a3,b3,c3,i0 _ b1,i1 _ b2,i0 _ c1,i1 _ c2,tw_eqB hS hk h9 k0]
    cases tv env (Ao e) <;> cases tv env (Bg e) <;> cases s <;> rfl
  · have m0:=A4 (show 0<e.args.length by omega)
    have m1:=Bi hl
    have h9:e.op=9:=by simpa using h
    rw [Bool.and_eq_true] at h3
    have k0:Am T V (Ao e)=0:=by simpa using h3.1
    have k1:Am T V (Bg e)=0:=by rw [Ik hk h9 m1];exact k0
    have hs0:s=false:=by simpa using h3.2
    have t0:=P3 (A1 hk m0) (A1 hk m1) k0 k1
    have t1:=P3 (A1 hk m1) (A1 hk m0) k1 k0
    rw [Gl h h2 (by rw [Bool.and_eq_true];exact h3),cs_two,wU hS hk h9 k0,hs0]
    unfold Pa
    rw [Td hS t0 rfl,Td hS t1 rfl]
    show ((decide ((vl env (Ao e)).num<(vl env (Bg e)).num) != false)||(decide ((vl env (Bg e)).num<(vl env (Ao e)).num) != false))=(((vl env (Ao e)).num==(vl env (Bg e)).num)==false)
    rw [Bool.eq_iff_iff]
    simp
    omega
  · rw [h,cs_one]
    unfold Pa
    cases tv env e <;> cases s <;> rfl
end

section
variable {T:List Sc} {V:List Va} {env:List (List Ev)}
theorem sK {op:Int}(a b:Ex)(h:op=7∨op=8∨op=10∨op=11):Bw (two op a b)=0:=by
 have hf:Bk (two op a b)=0:=by rcases h with h | h | h | h <;> subst h <;> simp [Bk,two,Dn,isV0,v0]
 unfold Bw
 rw [hf]
 rcases h with h | h | h | h <;> subst h <;> simp [two,D4,Dn]
theorem rY (a:Ex):Bw (Ov a)=0:=by
 have hf:Bk (Ov a)=0:=by simp [Bk,Ov,Dn,isV0,v0]
 unfold Bw
 rw [hf]
 simp [Ov,D4,Dn]
theorem nP {op:Int}{a b:Ex}(ha:KOK T V a)(hb:KOK T V b)(h:((op=7∨op=8)∧Am T V a=0∧Am T V b=0)∨((op=10∨op=11)∧Am T V a=1∧Am T V b=1)):KOK T V (two op a b):=by
 refine ⟨ha.ty,?_,?_⟩
 ·
  rw [K9,sK a b (by omega)]
  show Aq C1 [a,b]=0
  simp [Aq,ha.nodes,hb.nodes]
 ·
  rw [Ee]
  show (if [a,b].isEmpty then _ else _:Int×Int).2=0
  have e1:(Ca T V a).2=0:=ha.kind
  have e2:(Ca T V b).2=0:=hb.kind
  have k1:=Fz ha
  have k2:=Fz hb
  rcases h with ⟨ho,h1,h2⟩ | ⟨ho,h1,h2⟩ <;> rw [h1] at k1 <;> rw [h2] at k2 <;> rcases ho with ho | ho <;> subst ho <;> simp [two,Aq,e1,e2,k1,k2,Di,Mo]
theorem kok_not {a:Ex}(ha:KOK T V a)(h1:Am T V a=1):KOK T V (Ov a):=by
 refine ⟨ha.ty,?_,?_⟩
 ·
  rw [K9,rY]
  show Aq C1 [a]=0
  simp [Aq,ha.nodes]
 ·
  rw [Ee]
  show (if [a].isEmpty then _ else _:Int×Int).2=0
  have e1:(Ca T V a).2=0:=ha.kind
  have k1:=Fz ha
  rw [h1] at k1
  simp [Ov,Aq,e1,k1,Di,Mo]
theorem pW (hty:Jt T V)(b:Bool):KOK T V (Em b)∧Am T V (Em b)=1:=by
 have hk:∀b:Bool,Ca T V (Em b)=(1,0):=fun b=>by rw [Ee];cases b <;> rfl
 have h:KOK T V (Em b):=⟨hty,by cases b <;> decide +kernel,by rw [hk]⟩
 exact ⟨h,by rw [←Fz h,hk]⟩
theorem Qd {op:Int}(a b:Ex)(h:op=7∨op=8∨op=10∨op=11):KOK T V (two op a b)→Am T V (two op a b)=1:=fun hk=>by
 rw [←Fz hk,(Pc hk (by simp [two])).2.2]
 rcases h with h | h | h | h <;> subst h <;> rfl
theorem tM {a:Ex}(hk:KOK T V (Ov a)):Am T V (Ov a)=1:=by
 rw [←Fz hk,(Pc hk (by simp [Ov])).2.2];rfl
theorem nL (e:Ex):KOK T V e→Am T V e=1→KOK T V (Fh e)∧Am T V (Fh e)=1∧∀env,E6 T V env→tv env (Fh e) = !tv env e:=by
  refine Ex.Aak (P:=fun e=>KOK T V e→Am T V e=1→KOK T V (Fh e)∧Am T V (Fh e)=1∧∀env,E6 T V env→tv env (Fh e) = !tv env e) (fun e ih hk h1=>?_) e
  have hz:=Bb hk.nodes
  rw [K7,Vp]
  have two_case:∀(o p:Int),(o=10∧p=11∨o=11∧p=10)→e.op=o→KOK T V (two p (Ql Wc (e.args.map Fh)) (Wn Wc (e.args.map Fh)))∧Am T V (two p (Ql Wc (e.args.map Fh)) (Wn Wc (e.args.map Fh)))=1∧∀env,E6 T V env→tv env (two p (Ql Wc (e.args.map Fh)) (Wn Wc (e.args.map Fh))) = !tv env e:=by
    intro o p hop ho
    have hl:=iU hk (by omega) (by omega)
    have m0:=A4 (show 0<e.args.length by omega)
    have m1:=Bi (show 1<e.args.length by omega)
    rw [Ii _ _ (by omega),Iv _ _ (by omega)]
    obtain ⟨a1,a2,a3⟩:=ih _ m0 (A1 hk m0) (Id hk m0 (by omega))
    obtain ⟨b1,b2,b3⟩:=ih _ m1 (A1 hk m1) (Id hk m1 (by omega))
    have k:=nP (op:=p) a1 b1 (.inr ⟨by omega,a2,b2⟩)
    refine ⟨k,Qd _ _ (by omega) k,fun env hS=>?_⟩
    rcases hop with ⟨h3,h4⟩ | ⟨h3,h4⟩ <;> subst h4 <;> rw [h3] at ho
    · rw [uV hS k rfl,mE hS hk ho]
      show (tv env (Fh (Ao e))||tv env (Fh (Bg e)))=_
      rw [a3 env hS,b3 env hS];cases tv env (Ao e) <;> cases tv env (Bg e) <;> rfl
    · rw [mE hS k rfl,uV hS hk ho]
      show (tv env (Fh (Ao e))&&tv env (Fh (Bg e)))=_
      rw [a3 env hS,b3 env hS];cases tv env (Ao e) <;> cases tv env (Bg e) <;> rfl
  have cmp_case:∀(o p:Int),(o=7∧p=8∨o=8∧p=7)→e.op=o→KOK T V (two p (Bg e) (Ao e))∧Am T V (two p (Bg e) (Ao e))=1∧∀env,E6 T V env→tv env (two p (Bg e) (Ao e)) = !tv env e:=by
    intro o p hop ho
    have hl:=iU hk (by omega) (by omega)
    have m0:=A4 (show 0<e.args.length by omega)
    have m1:=Bi (show 1<e.args.length by omega)
    have c:∀{a:Ex},a∈e.args→Am T V a=0:=fun ha=>by
      have h:=Ot hk ha
      unfold Mo at h
      rcases hop with ⟨h3,h4⟩ | ⟨h3,h4⟩ <;> rw [ho,h3] at h <;> simpa using h
    have k:=nP (op:=p) (A1 hk m1) (A1 hk m0) (.inl ⟨by omega,c m1,c m0⟩)
    refine ⟨k,Qd _ _ (by omega) k,fun env hS=>?_⟩
    rcases hop with ⟨h3,h4⟩ | ⟨h3,h4⟩ <;> subst h4 <;> rw [h3] at ho
    · rw [kV hS k rfl,Td hS hk ho]
      show decide ((vl env (Bg e)).num≤(vl env (Ao e)).num) = !decide ((vl env (Ao e)).num<(vl env (Bg e)).num)
      rw [Bool.eq_iff_iff];simp
    · rw [Td hS k rfl,kV hS hk ho]
      show decide ((vl env (Bg e)).num<(vl env (Ao e)).num) = !decide ((vl env (Ao e)).num≤(vl env (Bg e)).num)
      rw [Bool.eq_iff_iff];simp
  cases c1:e.op==10 with
  | true=>rw [if_pos rfl];exact two_case 10 11 (.inl ⟨rfl,rfl⟩) (by simpa using c1)
  | false=>
  rw [Ci rfl]
  cases c2:e.op==11 with
  | true=>rw [if_pos rfl];exact two_case 11 10 (.inr ⟨rfl,rfl⟩) (by simpa using c2)
  | false=>
  rw [Ci rfl]
  cases c3:e.op==12 with
  | true=>
    rw [if_pos rfl]
    have h12:e.op=12:=by simpa using c3
    have hl:=len1 hk h12
    have m0:=A4 (show 0<e.args.length by omega)
    exact ⟨A1 hk m0,Id hk m0 (by omega),fun env hS=>by rw [kB hS hk h12,Bool.not_not]⟩
  | false=>
  rw [Ci rfl]
  cases c4:e.op==7 with
  | true=>rw [if_pos rfl];exact cmp_case 7 8 (.inl ⟨rfl,rfl⟩) (by simpa using c4)
  | false=>
  rw [Ci rfl]
  cases c5:e.op==8 with
  | true=>rw [if_pos rfl];exact cmp_case 8 7 (.inr ⟨rfl,rfl⟩) (by simpa using c5)
  | false=>
  rw [Ci rfl]
  cases c6:(e.op==0&&e.val.kind==1) with
  | true=>
    rw [if_pos rfl]
    rw [Bool.and_eq_true] at c6
    obtain ⟨k1,k2⟩:=pW hk.ty (e.val.num==0)
    refine ⟨k1,k2,fun env hS=>?_⟩
    rw [Yb k1 rfl,Yb hk c6.1]
    have h2:=E7 (H6 hz.1 (by simpa using c6.1)).1 (by simpa using c6.2)
    have h3:e.val.num=0∨e.val.num=1:=by rw [h2];cases e.val.num==1 <;> simp [D3]
    rcases h3 with h3 | h3 <;> rw [h3] <;> rfl
  | false=>
    rw [Ci rfl]
    have k:=kok_not hk h1
    exact ⟨k,tM k,fun env hS=>kB hS k rfl⟩
theorem qO {e:Ex}(h:C1 e=0):Bu e=0∨Bu e=5∨Bu e=12:=by
 unfold Bu
 split
 · exact .inr (.inl rfl)
 split
 · exact .inr (.inr rfl)
 · exact .inl h
/-! ### Depth of literals -/
def litD (n:Nat)(c:Cs):Prop:=∀x∈c.1,∀y∈x,Ez y.cond≤n
/-! ### Kinds of literals -/
def dR (T:List Sc)(V:List Va)(c:Cs):Prop:=∀x∈c.1,∀y∈x,Am T V y.cond=1
theorem Rk {a b:Cs}(ha:dR T V a)(hb:dR T V b):dR T V (El a b):=by
 unfold El
 split
 · intro x hx;cases hx
 ·
  unfold Mc
  split
  · intro x hx;cases hx
  ·
   intro x hx y hy
   obtain ⟨p,hp,hm⟩:=List.mem_flatMap.1 hx
   obtain ⟨q,hq,rfl⟩:=List.mem_map.1 hm
   rcases List.mem_append.1 hy with h | h
   · exact ha p hp y h
   · exact hb q hq y h
theorem aT {a b:Cs}(ha:dR T V a)(hb:dR T V b):dR T V (Jf a b):=by
 unfold Jf
 split
 · intro x hx;cases hx
 ·
  intro x hx y hy
  rcases List.mem_append.1 hx with h | h
  · exact ha x h y hy
  · exact hb x h y hy
theorem Vm {l:List Lit}(h:∀y∈l,Am T V y.cond=1):dR T V (Eg l):=by
 intro x hx y hy
 unfold Eg at hx
 obtain ⟨z,hz,rfl⟩:=List.mem_map.1 hx
 rw [List.mem_singleton.1 hy]
 exact h z hz
theorem kP (e:Ex):KOK T V e→Am T V e=1→∀s,dR T V (Da T V e s):=by
 refine Ex.Aak (P:=fun e=>KOK T V e→Am T V e=1→∀s,dR T V (Da T V e s)) (fun e ih hk hr s=>?_) e
 rcases Ls s hk with h | ⟨h,hl⟩ | ⟨h,hl⟩ | ⟨h,hl,h1⟩ | ⟨h,hl,h1,h2⟩ | ⟨_,_,_,h,_⟩
 ·
  cases h1:((e.val.num==1)==s) with
  | true=>rw [Gg h h1];intro x hx y hy;rw [List.mem_singleton.1 hx] at hy;cases hy
  | false=>rw [Gr h h1];intro x hx;cases hx
 ·
  have m0:=A4 hl
  rw [Gd hl h];exact ih _ m0 (A1 hk m0) (Id hk m0 (.inr (.inr (by simpa using h)))) _
 ·
  have m0:=A4 (show 0<e.args.length by omega)
  have m1:=Bi hl
  have ho:e.op=10∨e.op=11:=by simpa using h
  have i0:=ih _ m0 (A1 hk m0) (Id hk m0 (by omega)) s
  have i1:=ih _ m1 (A1 hk m1) (Id hk m1 (by omega)) s
  cases h1:((e.op==10)==s) with
  | true=>rw [Gk hl h h1];exact Rk i0 i1
  | false=>rw [Gq hl h h1];exact aT i0 i1
 ·
  have m0:=A4 (show 0<e.args.length by omega)
  have m1:=Bi hl
  have h9:e.op=9:=by simpa using h
  have k0:Am T V (Ao e)=1:=by simpa using h1
  have k1:Am T V (Bg e)=1:=by rw [Ik hk h9 m1];exact k0
  have i0:=ih _ m0 (A1 hk m0) k0
  have i1:=ih _ m1 (A1 hk m1) k1
  rw [Gb hl h h1]
  exact aT (Rk (i0 _) (i1 _)) (Rk (i0 _) (i1 _))
 ·
  have m0:=A4 (show 0<e.args.length by omega)
  have m1:=Bi hl
  have h9:e.op=9:=by simpa using h
  have h3:=h2
  rw [Bool.and_eq_true] at h3
  have k0:Am T V (Ao e)=0:=by simpa using h3.1
  have k1:Am T V (Bg e)=0:=by rw [Ik hk h9 m1];exact k0
  rw [Gl h h1 h2]
  refine Vm fun y hy=>?_
  rcases List.mem_cons.1 hy with rfl | hy
  · exact Qd _ _ (.inl rfl) (P3 (A1 hk m0) (A1 hk m1) k0 k1)
  · rw [List.mem_singleton.1 hy];exact Qd _ _ (.inl rfl) (P3 (A1 hk m1) (A1 hk m0) k1 k0)
 ·
  rw [h]
  exact Vm fun y hy=>by rw [List.mem_singleton.1 hy];exact hr
end

def Fk (e:Ev):Int:=
 if decide (e.source<0)||decide (8≤e.source) then 32
 else if decide (e.seq<0)||decide (1099511627776<e.seq)||decide (e.time<0)||decide (1099511627776<e.time) then 2 else 0
def Ug (v:Vl)(f:Fi):Int:=if Ap v != 0 then Ap v else if v.kind != f.kind then 9 else 0
def Ny:List Vl→List Fi→Int
 | v::r,f::s=>if Ug v f != 0 then Ug v f else Ny r s
 | _,_=>0
def Et (types:List Sc)(e:Ev):List Fi:=((types[e.type.toNat]?).getD sc0).fields
def Iy (types:List Sc)(e:Ev):Int:=
 if Fk e != 0 then Fk e
 else if decide (e.type<0)||decide ((types.length:Int)≤e.type) then 6
 else if (e.values.length:Int) != ((Et types e).length:Int) then 15
 else Ny e.values (Et types e)
def Fy (types:List Sc)(e:Ev):Int:=if Ea types != 0 then Ea types else Iy types e
def Xe (l:List Vl):Bool:=!((l.take 40).any fun v=>decide (128<v.text.length))&&decide (l.length<40)
def lI (l:List Ev):Bool:=!((l.take 20).any fun e=>!Xe e.values)&&decide (l.length≤20)
theorem dV {α:Type}{l:List α}{k:Nat}(d:α)(h:k<l.length):l[k]? = some ((l[k]?).getD d):=by
 rw [List.getElem?_eq_getElem h];rfl
theorem iS {α:Type}(f:α→Bool){l:List α}{k:Nat}{x:α}(h:l[k]? = some x):(l.take (k+1)).any f=((l.take k).any f||f x):=by rw [Cq h];simp
theorem sI {l:List Vl}{m:List Fi}{k:Nat}{v:Vl}{f:Fi}(hv:l[k]? = some v)(hf:m[k]? = some f):Ny (l.drop k) (m.drop k)=if Ug v f != 0 then Ug v f else Ny (l.drop (k+1)) (m.drop (k+1)):=by
 rw [A8 hv,A8 hf,Ny]
theorem qA (l:List Vl):Ny l []=0:=by cases l <;> rfl
theorem ty_in {n:Nat}{t:Int}(h:(decide (t<0)||decide ((n:Int)≤t))=false):0≤t∧t.toNat<n:=by
 simp only [Bool.or_eq_false_iff,decide_eq_false_iff_not] at h
 omega
theorem kR {n m:Nat}(h:((n:Int) != (m:Int))=false):n=m:=by
 have h1:(n:Int)=m:=by simpa using h
 omega
theorem qP {l:List Vl}{k:Nat}{a:Vl}(ha:l[k]? = some a)(h:(l.take k).any (fun v=>decide (128<v.text.length))=false)(h2:decide ((128:Int)<(a.text.length:Int))=false):(l.take (k+1)).any (fun v=>decide (128<v.text.length))=false:=by
 rw [iS _ ha,h,Bool.false_or,decide_eq_false_iff_not]
 have:=of_decide_eq_false h2;omega
theorem yB {l:List Vl}{k:Nat}{a:Vl}(ha:l[k]? = some a)(hk:k<40)(h2:decide ((128:Int)<(a.text.length:Int))=true):Xe l=false:=by
 have h3:(l.take 40).any (fun v=>decide (128<v.text.length))=true:=by
  rw [List.any_eq_true]
  exact ⟨a,List.mem_iff_getElem?.2 ⟨k,by rw [List.getElem?_take,if_pos hk];exact ha⟩,by have:=of_decide_eq_true h2;simp;omega⟩
 unfold Xe;rw [h3];rfl
theorem iG {α:Type}{l:List α}{k n:Nat}(h:(decide ((k:Int)<(l.length:Int))&&decide ((k:Int)<(n:Int)))=false)(hk:k≤n):l.take k=l.take n:=by
 simp only [Bool.and_eq_false_iff,decide_eq_false_iff_not] at h
 by_cases hn:k=n
 · rw [hn]
 · rw [List.take_of_length_le (by omega),List.take_of_length_le (by omega)]
theorem wR {l:List Vl}{k:Nat}(h:(decide ((k:Int)<(l.length:Int))&&decide ((k:Int)<40))=false)(hk:k≤40)(ha:(l.take k).any (fun v=>decide (128<v.text.length))=false):Xe l=decide ((l.length:Int)<40):=by
 rw [iG (n:=40) h hk] at ha
 unfold Xe;rw [ha,Bool.not_false,Bool.true_and,decide_eq_decide];omega
theorem vT {l:List Ev}{k:Nat}{a:Ev}(ha:l[k]? = some a)(hk:k<20)(h2:(!Xe a.values)=true):lI l=false:=by
 have h3:(l.take 20).any (fun e=>!Xe e.values)=true:=by
  rw [List.any_eq_true]
  exact ⟨a,List.mem_iff_getElem?.2 ⟨k,by rw [List.getElem?_take,if_pos hk];exact ha⟩,h2⟩
 unfold lI;rw [h3];rfl
theorem uP {l:List Ev}{k:Nat}(h:(decide ((k:Int)<(l.length:Int))&&decide ((k:Int)<20))=false)(hk:k≤20)(ha:(l.take k).any (fun e=>!Xe e.values)=false):lI l=decide ((l.length:Int)≤20):=by
 rw [iG (n:=20) h hk] at ha
 unfold lI;rw [ha,Bool.not_false,Bool.true_and,decide_eq_decide];omega
/-! ### E6 -/
def Ps (T:List Sc)(p:Ev×Va):Bool:=Fy T p.1 != 0||p.1.type != p.2.type
def Ix (T:List Sc)(V:List Va)(l:List Ev):Bool:=if (l.zip V).any (Ps T) then false else ((l.length:Int)==(V.length:Int))
def Dy (l:List Ev):List (List Ev):=l.map fun e=>[e]
theorem pK {α β:Type}{l:List α}{m:List β}{k:Nat}{x:α}{y:β}(hx:l[k]? = some x)(hy:m[k]? = some y):(l.zip m)[k]? = some (x,y):=by
 rw [List.getElem?_zip_eq_some];exact ⟨hx,hy⟩
theorem zip_end {α β:Type}{l:List α}{m:List β}{k:Nat}(h:(decide ((k:Int)<(l.length:Int))&&decide ((k:Int)<(m.length:Int)))=false):(l.zip m).take k=l.zip m:=by
 simp only [Bool.and_eq_false_iff,decide_eq_false_iff_not] at h
 exact List.take_of_length_le (by rw [List.length_zip];omega)
theorem gN:∀{l:List Vl} {m:List Fi},l.length=m.length→Ny l m=0→∀(k:Nat) (f:Fi),m[k]? = some f→∃w,l[k]? = some w∧lE w f.kind
  | [],[],_,_,k,f,h=>by simp at h
  | [],_::_,h,_,_,_,_=>by simp at h
  | _::_,[],h,_,_,_,_=>by simp at h
  | v::r,g::s,hl,h,k,f,hf=>by
    rw [Ny] at h
    cases h1:(Ug v g != 0) with
    | true=>rw [if_pos h1] at h;rw [h] at h1;cases h1
    | false=>
      rw [Ci h1] at h
      cases k with
      | zero=>
        simp only [List.getElem?_cons_zero,Option.some.injEq] at hf
        subst hf
        refine ⟨v,rfl,?_⟩
        unfold Ug at h1
        cases h2:(Ap v != 0) with
        | true=>rw [if_pos h2] at h1;rw [h1] at h2;cases h2
        | false=>
          rw [Ci h2] at h1
          cases h3:(v.kind != g.kind) with
          | true=>rw [if_pos h3] at h1;cases h1
          | false=>exact ⟨by simpa using h3,by simpa using h2⟩
      | succ k=>exact gN (by simpa using hl) h k f (by simpa using hf)
theorem kN {T:List Sc}{e:Ev}(h:Iy T e=0):∃s,T[e.type.toNat]? = some s∧Yv s e:=by
  unfold Iy at h
  cases h1:(Fk e != 0) with
  | true=>rw [if_pos h1] at h;rw [h] at h1;cases h1
  | false=>
    rw [Ci h1] at h
    cases h2:(decide (e.type<0)||decide ((T.length:Int)≤e.type)) with
    | true=>rw [if_pos h2] at h;cases h
    | false=>
      rw [Ci h2] at h
      cases h3:((e.values.length:Int) != ((Et T e).length:Int)) with
      | true=>rw [if_pos h3] at h;cases h
      | false=>
        rw [Ci h3] at h
        have hs:=dV sc0 (ty_in h2).2
        exact ⟨_,hs,kR h3,gN (kR h3) h⟩
theorem Vd {T:List Sc}{e:Ev}(h:Fy T e=0):Iy T e=0:=by
 unfold Fy at h
 cases h1:(Ea T != 0) with
 | true=>rw [if_pos h1] at h;rw [h] at h1;cases h1
 | false=>rwa [Ci h1] at h
theorem Uu {T:List Sc}{V:List Va}{l:List Ev}(h:Ix T V l=true):l.length=V.length∧∀(i:Nat) (v:Va),V[i]? = some v→∃e,l[i]? = some e∧Fy T e=0∧e.type=v.type:=by
  unfold Ix at h
  cases h1:(l.zip V).any (Ps T) with
  | true=>rw [if_pos h1] at h;cases h
  | false=>
    rw [Ci h1] at h
    have hl : l.length = V.length := by have : (l.length : Int) = V.length := by simpa using h
                                        omega
    refine ⟨hl,fun i v hv=>?_⟩
    have hi:=A9 hv
    have hx:l[i]? = some (l[i]'(by omega)):=List.getElem?_eq_getElem (by omega)
    have h2:=Bool.eq_false_iff.2 (List.any_eq_false.1 h1 _ (List.mem_of_getElem? (pK hx hv)))
    unfold Ps at h2
    rw [Bool.or_eq_false_iff] at h2
    exact ⟨_,hx,by simpa using h2.1,by simpa using h2.2⟩
theorem yF {T:List Sc}{V:List Va}{l:List Ev}(h:Ix T V l=true):E6 T V (Dy l):=by
 obtain ⟨hl,h1⟩:=Uu h
 refine ⟨by simp [Dy,hl],fun i v hv=>?_⟩
 obtain ⟨e,he,hc,ht⟩:=h1 i v hv
 obtain ⟨s,hs,hse⟩:=kN (Vd hc)
 exact ⟨s,e,by rw [←ht];exact hs,by simp [Dy,he],hse⟩
theorem fZ (l:List Ev):∀x∈Dy l,x.length≤1048576:=fun x hx=>by
 obtain ⟨e,_,rfl⟩:=List.mem_map.1 hx
 exact (by decide:1≤1048576)
/-! ### The law's scene -/
def O9 (T:List Sc)(V:List Va)(l:List Ev)(e:Ex):Bool:=(((fT T V [e]&&lI l)&&(Ea T==0))&&Ix T V l)&&(Eb T V e==0)
theorem fU {T:List Sc}{V:List Va}{l:List Ev}{e:Ex}(h:O9 T V l e=true):fT T V [e]=true∧lI l=true∧Ea T=0∧Ix T V l=true∧Eb T V e=0:=by
 unfold O9 at h
 simp only [Bool.and_eq_true,beq_iff_eq] at h
 exact ⟨h.1.1.1.1,h.1.1.1.2,h.1.1.2,h.1.2,h.2⟩
end Go.Proofs.YtkddpedfbicbeaaGreatDoor
