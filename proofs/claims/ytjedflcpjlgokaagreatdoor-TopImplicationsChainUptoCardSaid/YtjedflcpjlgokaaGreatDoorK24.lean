/-
  Several texts in one: S44, S45. No condition.
-/
import Derived.Test.YtjedflcpjlgokaaGreatDoorK23
import Derived.Test.YtjedflcpjlgokaaGreatDoorK21
set_option linter.unusedVariables false
set_option linter.unusedSimpArgs false
namespace Go.Proofs.YtjedflcpjlgokaaGreatDoor
open Go Go.Aw

section
variable {T:List Sc} {V:List Va} {env:List (List Ev)}
def Hk (P:Lit→Prop)(c:Cs):Prop:=∀x∈c.1,∀y∈x,P y
theorem I1 {P:Lit→Prop}{a b:Cs}(ha:Hk P a)(hb:Hk P b):Hk P (Eb a b):=by
 unfold Eb
 split
 · intro x hx;cases hx
 ·
  unfold Lx
  split
  · intro x hx;cases hx
  ·
   intro x hx y hy
   obtain ⟨p,hp,hm⟩:=List.mem_flatMap.1 hx
   obtain ⟨q,hq,rfl⟩:=List.mem_map.1 hm
   rcases List.mem_append.1 hy with h | h
   · exact ha p hp y h
   · exact hb q hq y h
theorem Tt {P:Lit→Prop}{a b:Cs}(ha:Hk P a)(hb:Hk P b):Hk P (Iu a b):=by
 unfold Iu
 split
 · intro x hx;cases hx
 ·
  intro x hx y hy
  rcases List.mem_append.1 hx with h | h
  · exact ha x h y hy
  · exact hb x h y hy
theorem Pl {P:Lit→Prop}{l:List Lit}(h:∀y∈l,P y):Hk P (D4 l):=by
 intro x hx y hy
 unfold D4 at hx
 obtain ⟨z,hz,rfl⟩:=List.mem_map.1 hx
 rw [List.mem_singleton.1 hy]
 exact h z hz
def eqF (T:List Sc)(V:List Va)(y:Lit):Prop:=(y.cond.op=9→Ak T V (Ap y.cond)≠1)∧(y.cond.op=9→Ak T V (Ap y.cond)=0→y.neg=false)
theorem gT (e:Ex):KOK T V e→∀s,Hk (eqF T V) (C4 T V e s):=by
 refine Ex.Aaj (P:=fun e=>KOK T V e→∀s,Hk (eqF T V) (C4 T V e s)) (fun e ih hk s=>?_) e
 rcases Kz s hk with h | ⟨h,hl⟩ | ⟨h,hl⟩ | ⟨h,hl,h1⟩ | ⟨h,hl,h1,h2⟩ | ⟨_,_,_,h,h9⟩
 ·
  cases h1:((e.val.num==1)==s) with
  | true=>rw [F0 h h1];intro x hx y hy;rw [List.mem_singleton.1 hx] at hy;cases hy
  | false=>rw [Fv h h1];intro x hx;cases hx
 · rw [F5 hl h];exact ih _ (Ba hl) (Az hk (Ba hl)) _
 ·
  have m0:=Ba (show 0<e.args.length by omega)
  have m1:=Bw hl
  cases h1:((e.op==10)==s) with
  | true=>rw [Fz hl h h1];exact I1 (ih _ m0 (Az hk m0) _) (ih _ m1 (Az hk m1) _)
  | false=>rw [Fw hl h h1];exact Tt (ih _ m0 (Az hk m0) _) (ih _ m1 (Az hk m1) _)
 ·
  have m0:=Ba (show 0<e.args.length by omega)
  have m1:=Bw hl
  have i0:=ih _ m0 (Az hk m0)
  have i1:=ih _ m1 (Az hk m1)
  rw [F4 hl h h1]
  exact Tt (I1 (i0 _) (i1 _)) (I1 (i0 _) (i1 _))
 ·
  rw [Ft h h1 h2]
  refine Pl fun y hy=>?_
  rcases List.mem_cons.1 hy with rfl | hy
  · exact ⟨fun h=>absurd (show (7:Int)=9 from h) (by decide),fun h=>absurd (show (7:Int)=9 from h) (by decide)⟩
  · rw [List.mem_singleton.1 hy];exact ⟨fun h=>absurd (show (7:Int)=9 from h) (by decide),fun h=>absurd (show (7:Int)=9 from h) (by decide)⟩
 ·
  rw [h]
  refine Pl fun y hy=>?_
  rw [List.mem_singleton.1 hy]
  refine ⟨fun ho=>?_,fun ho h0=>?_⟩
  ·
   have:=(h9 (by simpa using ho)).1
   simpa using this
  ·
   have:=(h9 (by simpa using ho)).2
   rw [h0] at this
   simpa using this
theorem nR {e:Ex}(hk:KOK T V e)(h1:Ak T V e=1)(hs:At e≤64)(s:Bool):Hk (LitF T V) (C4 T V e s):=fun x hx y hy=>by
 have a:=Pc e hk s x hx y hy
 have b:=jC e hk h1 s x hx y hy
 have c:=gT e hk s x hx y hy
 exact ⟨a.1,Nat.le_trans a.2 hs,b,c.1,c.2⟩
theorem Wi {l:List Lit}(h:∀y∈l,LitF T V y):Up T V l:=fun y hy=>⟨(h y hy).kok,(h y hy).size⟩
theorem S9 {α:Type}{f:α→Int}:∀{l:List α},(∀x∈l,f x=0)→Aq f l=0
  | [],_=>rfl
  | a::r,h=>by
    rw [Aq,if_neg (by rw [h a (List.mem_cons_self ..)];decide)]
    exact S9 fun x hx=>h x (List.mem_cons_of_mem _ hx)
theorem Tj {ts l:List Tm}(h:∀t∈l,t∈ts):0≤B1 ts l∧B1 ts l≤(ts.length:Int):=by
  match l with
  | []=>exact ⟨Int.le_refl _,by show (0:Int)≤_;omega⟩
  | t::r=>
    have:=List.idxOf_lt_length_of_mem (h t (List.mem_cons_self ..))
    show 0≤((ts.idxOf t:Nat):Int)+1∧((ts.idxOf t:Nat):Int)+1≤_
    omega
theorem pZ {c:Lit}{x z r:Int}:∀b∈Dx c x z r,(b.x=x∨b.x=z)∧(b.y=x∨b.y=z):=by
 intro b hb
 unfold Dx at hb
 repeat' split at hb
 all_goals
  simp only [List.mem_cons,List.not_mem_nil,or_false] at hb
  rcases hb with rfl | rfl <;> simp
theorem gM:∀(ts:List Tm) (i:Nat),∀b∈G2 T V i ts,0≤b.x∧b.x≤(i:Int)+ts.length∧0≤b.y∧b.y≤(i:Int)+ts.length
  | [],i,b,h=>by cases h
  | t::r,i,b,h=>by
    rw [G2] at h
    rw [List.length_cons]
    rcases List.mem_cons.1 h with rfl | h
    · simp only;omega
    · rcases List.mem_cons.1 h with rfl | h
      · simp only;omega
      · have:=gM r (i+1) b h;omega
theorem sys_bs (l:List Lit):(Cp T V l).bs=l.flatMap (Oj T V (Cp T V l).ts):=by
 obtain ⟨_,h2,_⟩:=U8 (T:=T) (V:=V) l ⟨[],[]⟩
 show (l.foldl (C1 T V) ⟨[],[]⟩).bs=_
 rw [h2];rfl
theorem wP (l:List Lit):∀c∈l,(Aa T V c).2=true→(∀t∈(Aa T V c).1.plus,t∈(Cp T V l).ts)∧∀t∈(Aa T V c).1.minus,t∈(Cp T V l).ts:=
 (U8 (T:=T) (V:=V) l ⟨[],[]⟩).2.2
theorem kS (l:List Lit):∀b∈(Cy T V l).bs,0≤b.x∧b.x<(Cy T V l).n∧0≤b.y∧b.y<(Cy T V l).n:=by
  intro b hb
  show 0≤b.x∧b.x<((Cp T V l).ts.length:Int)+1∧0≤b.y∧b.y<((Cp T V l).ts.length:Int)+1
  rcases List.mem_append.1 (show b∈G2 T V 0 (Cp T V l).ts++(Cp T V l).bs from hb) with h | h
  · have:=gM _ _ b h;omega
  · rw [sys_bs] at h
    obtain ⟨c,hc,hb⟩:=List.mem_flatMap.1 h
    cases hn:(Aa T V c).2 with
    | false=>unfold Oj at hb;rw [hn] at hb;cases hb
    | true=>
      unfold Oj at hb
      rw [hn,if_pos rfl] at hb
      obtain ⟨m1,m2⟩:=wP l c hc hn
      have r1:=Tj m1
      have r2:=Tj m2
      obtain ⟨h1,h2⟩:=pZ b hb
      rcases h1 with h1 | h1 <;> rcases h2 with h2 | h2 <;> omega
theorem nV {l:List Lit}(hl:Up T V l)(hf:Ja (Cy T V l)=true):He (Cy T V l)=0:=by
 unfold Ja at hf
 simp only [Bool.and_eq_true,decide_eq_true_eq] at hf
 have hn:(Cy T V l).n=((Cp T V l).ts.length:Int)+1:=rfl
 unfold He
 rw [if_neg (by simp;omega),if_neg (by simp;omega)]
 refine S9 fun b hb=>?_
 have h1:=kS l b hb
 have h2:=O3 hl b hb
 have hbig:I4=140737488355329:=rfl
 unfold bdE
 rw [if_neg (by simp only [Bool.or_eq_true,decide_eq_true_eq];omega)]
theorem nT {v:Vl}(h:An v=0) : -1099511627776≤v.num∧v.num≤1099511627776:=by
 rcases Of h with h1 | h1 | h1
 · exact Sf h (.inl h1)
 · exact Sf h (.inr h1)
 ·
  unfold An at h
  rw [if_neg (by rw [h1];decide),if_pos (by rw [h1];rfl)] at h
  split at h
  · cases h
  ·
   rename_i h2
   have:v.num=0:=by simpa using h2
   omega
theorem qS (hE:EnvOK T V env){t:Tm}(hk:KOK T V (Hr t))(ho:t.op=1∨t.op=2):(Ct T V t).1≤Sq env t∧Sq env t≤(Ct T V t).2:=by
  obtain ⟨h1,h2,h3⟩:=N9 hE hk (show ((Hr t).op==1||(Hr t).op==2)=true by show (t.op==1||t.op==2)=true;simpa using ho)
  have hr:=nT h2
  cases h:t.op==2 with
  | true=>rw [uG h];exact h1 h
  | false=>
    cases hb:Ak T V (Hr t)==1 with
    | true=>
      rw [sX h hb]
      have hb':Ak T V (Hr t)=1:=by simpa using hb
      have:=Fk h2 (h3.trans hb')
      have hnum:(vl env (Hr t)).num=0∨(vl env (Hr t)).num=1:=by rw [this];cases (vl env (Hr t)).num==1 <;> simp [Dv]
      show (0:Int)≤(vl env (Hr t)).num∧(vl env (Hr t)).num≤1
      omega
    | false=>rw [vH h hb];exact hr
theorem pv_zero (τ:Tm→Int)(ts:List Tm):pv τ ts 0=0:=rfl
theorem zP {τ:Tm→Int}{ts:List Tm}{k:Nat}{t:Tm}(h:ts[k]? = some t):pv τ ts ((k:Int)+1)=τ t:=by
 unfold pv
 rw [if_neg (by omega),show (((k:Int)+1)-1).toNat=k by omega,h];rfl
theorem Zs {p:Int→Int}{τ:Tm→Int}(h0:p 0=0):∀(ts:List Tm) (i:Nat),(∀(k:Nat) (t:Tm),ts[k]? = some t→p ((i:Int)+k+1)=τ t)→(∀t∈ts,(Ct T V t).1≤τ t∧τ t≤(Ct T V t).2)→∀b∈G2 T V i ts,Sa p b
  | [],i,_,_,b,h=>by cases h
  | t::r,i,hp,hl,b,h=>by
    have h1:=hp 0 t rfl
    have h2:=hl t (List.mem_cons_self ..)
    rw [show (i:Int)+((0:Nat):Int)+1=(i:Int)+1 by omega] at h1
    rw [G2] at h
    rcases List.mem_cons.1 h with rfl | h
    · show p ((i:Int)+1)-p 0≤_;rw [h0,h1];simp only;omega
    · rcases List.mem_cons.1 h with rfl | h
      · show p 0-p ((i:Int)+1)≤_;rw [h0,h1];simp only;omega
      · refine Zs h0 r (i+1) (fun k u hk=>?_) (fun u hu=>hl u (List.mem_cons_of_mem _ hu)) b h
        rw [show ((i+1:Nat):Int)+k+1=(i:Int)+((k+1:Nat):Int)+1 by omega]
        exact hp (k+1) u (by simpa using hk)
theorem fZ (hE:EnvOK T V env){l:List Lit}(hf:∀y∈l,LitF T V y)(hfit:Ja (Cy T V l)=true)(ht:∀y∈l,N7 env y=true):(Dr (Cy T V l)).ok=true:=by
 have hl:=Wi hf
 have hz:=nV hl hfit
 rw [mK] at hz ⊢
 refine fG (p:=pv (Sq env) (Cp T V l).ts) (by rw [hz];rfl) fun b hb=>?_
 rcases List.mem_append.1 (show b∈G2 T V 0 (Cp T V l).ts++(Cp T V l).bs from hb) with h | h
 ·
  refine Zs (p:=pv (Sq env) (Cp T V l).ts) (τ:=Sq env) rfl _ 0 (fun k t hk=>?_) (fun t ht'=>?_) b h
  · rw [show ((0:Nat):Int)+(k:Int)+1=(k:Int)+1 by omega];exact zP hk
  · exact qS hE ((Lt hl).terms t ht') (iZ hl t ht').op
 · exact (nH hE hf).2 (fun y hy _=>ht y hy) b h
def sg (env:List (List Ev))(x:Wd):E9:=if x.const then x.text else (vl env (Hr x.field)).text
def qM (x:Wd):Prop:=(x.const=true→x.field=tm0)∧(x.const=false→x.text = [])
theorem gG (e:Ex):qM (B5 e):=by
 unfold B5
 split
 · exact ⟨fun _=>rfl,fun h=>(by cases h)⟩
 · exact ⟨fun h=>(by cases h),fun _=>rfl⟩
theorem sg_as {e:Ex}(hz:Bt e=0)(h:(e.op==0||e.op==1)=true):sg env (B5 e)=(vl env e).text:=by
  cases h0:e.op==0 with
  | true=>
    rw [Z8 h0]
    show e.val.text=(Bq _ e).1.text
    rw [R0 hz (by simpa using h0)]
  | false=>
    rw [h0,Bool.false_or] at h
    rw [bX h0]
    show (vl env (Hr (Dp e))).text=_
    rw [Kj hz (by rw [h];rfl)]
structure StrL (T:List Sc) (V:List Va) (c:Lit):Prop where
 op:c.cond.op=9
 len:c.cond.args.length=2
 d0:(Ap c.cond).op=0∨(Ap c.cond).op=1
 d1:(Bj c.cond).op=0∨(Bj c.cond).op=1
 k0:Ak T V (Ap c.cond)=2
 k1:Ak T V (Bj c.cond)=2
 m0:Ap c.cond∈c.cond.args
 m1:Bj c.cond∈c.cond.args
theorem Uq {c:Lit}(hk:KOK T V c.cond)(h:Ch T V c.cond=true)(h2:B0 T V c.cond=true):StrL T V c:=by
 obtain ⟨h3,h4⟩:=R5 hk (show (!Ch T V c.cond || !B0 T V c.cond)=false by rw [h,h2];rfl)
 unfold Ch at h
 rw [Bool.and_eq_true] at h
 have m0:=Ba (show 0<c.cond.args.length by omega)
 have m1:=Bw (show 1<c.cond.args.length by omega)
 have ho:c.cond.op=9:=by simpa using h.1
 have hk0:Ak T V (Ap c.cond)=2:=by simpa using h.2
 exact ⟨ho,h3,by simpa using h4 _ m0,by simpa using h4 _ m1,hk0,by rw [H8 hk ho m1];exact hk0,m0,m1⟩
theorem Ts {s:Bool}{c:Lit}(h:Cb T V s c=true):c.neg = !s∧Ch T V c.cond=true∧B0 T V c.cond=true:=by
 unfold Cb at h
 rw [Bool.and_eq_true,Bool.and_eq_true] at h
 refine ⟨?_,h.2.1,h.2.2⟩
 have:=h.1
 cases hn:c.neg <;> cases s <;> rw [hn] at this <;> first | rfl | cases this
theorem Rp (hE:EnvOK T V env){e:Ex}(hk:KOK T V e)(h:e.op=0∨e.op=1):An (vl env e)=0∧(vl env e).kind=Ak T V e:=by
 rcases h with h | h
 ·
  have hz:=(A8 hk.nodes).1
  have hv:vl env e=e.val:=by show (Bq _ e).1=_;rw [R0 hz h]
  refine ⟨by rw [hv];exact (Im hz h).1,Rv hE.suits hk⟩
 ·
  obtain ⟨_,h2,h3⟩:=N9 hE hk (by rw [h];rfl)
  exact ⟨h2,h3⟩
theorem Uw {v:Vl}(h:An v=0)(hk:v.kind=2):v.num=0:=by
 unfold An at h
 rw [if_neg (by rw [hk];decide),if_pos (by rw [hk];rfl)] at h
 split at h
 · cases h
 · rename_i h2;simpa using h2
theorem sS (hE:EnvOK T V env){c:Lit}(hk:KOK T V c.cond)(hs:StrL T V c):tv env c.cond=true↔sg env (B5 (Ap c.cond))=sg env (B5 (Bj c.cond)):=by
 have k0:=Az hk hs.m0
 have k1:=Az hk hs.m1
 rw [sY hE.suits hk hs.op,mW,sg_as (A8 k0.nodes).1 (by simpa using hs.d0),sg_as (A8 k1.nodes).1 (by simpa using hs.d1)]
 obtain ⟨a1,a2⟩:=Rp hE k0 hs.d0
 obtain ⟨b1,b2⟩:=Rp hE k1 hs.d1
 rw [hs.k0] at a2
 rw [hs.k1] at b2
 have a3:=Uw a1 a2
 have b3:=Uw b1 b2
 revert a2 a3 b2 b3
 generalize vl env (Ap c.cond)=v
 generalize vl env (Bj c.cond)=w
 intro a2 a3 b2 b3
 constructor
 · intro h;rw [h]
 ·
  intro h
  cases v;cases w
  simp_all
def wSg (env:List (List Ev))(w:Wm):Prop:=∀p∈w,sg env p.1=sg env p.2
def wWf (w:Wm):Prop:=∀p∈w,qM p.1∧qM p.2
theorem Vs {w:Wm}{x y:Wd}(h:Fs w x=some y):(x,y)∈w:=by
 obtain ⟨i,p,h1,h2,h3⟩:=X1 h
 have:=List.mem_of_getElem? h1
 rw [←h2,←h3];exact this
theorem gP {w:Wm}(h:wSg env w):∀(n:Nat) (x:Wd),sg env (Pf w n x)=sg env x
  | 0,x=>rfl
  | n+1,x=>by
    rw [Pf]
    cases hg:Fs w x with
    | none=>rfl
    | some y=>simp only;rw [gP h n y,h _ (Vs hg)]
theorem dN {w:Wm}(h:wWf w):∀(n:Nat) (x:Wd),qM x→qM (Pf w n x)
  | 0,x,hx=>hx
  | n+1,x,hx=>by
    rw [Pf]
    cases hg:Fs w x with
    | none=>exact hx
    | some y=>exact dN h n y (h _ (Vs hg)).2
theorem fD {a b:Wd}(ha:qM a)(hb:qM b)(h:(a.const&&b.const)=true)(ht:a.text=b.text):a=b:=by
 rw [Bool.and_eq_true] at h
 have h1:=ha.1 h.1
 have h2:=hb.1 h.2
 obtain ⟨c,t,f⟩:=a
 obtain ⟨c',t',f'⟩:=b
 simp only at h h1 h2 ht
 rw [h.1,h.2,h1,h2,ht]
theorem wR {w:Wm}{a b:Wd}(h:wWf w)(ha:qM a)(hb:qM b):wWf (Mq w a b).1:=by
 unfold Mq
 split
 · exact h
 split
 · exact h
 split
 ·
  intro p hp
  rcases List.mem_append.1 hp with hp | hp
  · exact h p hp
  · rw [List.mem_singleton.1 hp];exact ⟨hb,ha⟩
 ·
  intro p hp
  rcases List.mem_append.1 hp with hp | hp
  · exact h p hp
  · rw [List.mem_singleton.1 hp];exact ⟨ha,hb⟩
theorem nQ {w:Wm}{c:Lit}(h:wWf w):wWf (Et w c).1:=by rw [Jc];exact wR h (dN h _ _ (gG _)) (dN h _ _ (gG _))
theorem pY {w:Wm}{c:Lit}(h:wSg env w)(hw:wWf w)(he:sg env (B5 (Ap c.cond))=sg env (B5 (Bj c.cond))):(Et w c).2=true∧wSg env (Et w c).1:=by
  rw [Jc]
  have ha:=gP h w.length (B5 (Ap c.cond))
  have hb:=gP h w.length (B5 (Bj c.cond))
  have wa:=dN hw w.length _ (gG (Ap c.cond))
  have wb:=dN hw w.length _ (gG (Bj c.cond))
  change sg env (Cc w (B5 (Ap c.cond)))=_ at ha
  change sg env (Cc w (B5 (Bj c.cond)))=_ at hb
  change qM (Cc w (B5 (Ap c.cond))) at wa
  change qM (Cc w (B5 (Bj c.cond))) at wb
  have hab:sg env (Cc w (B5 (Ap c.cond)))=sg env (Cc w (B5 (Bj c.cond))):=by rw [ha,hb,he]
  revert wa wb hab
  generalize Cc w (B5 (Ap c.cond))=a
  generalize Cc w (B5 (Bj c.cond))=b
  intro wa wb hab
  unfold Mq
  by_cases hq:a=b
  · rw [if_pos hq];exact ⟨rfl,h⟩
  rw [if_neg hq]
  cases hc:(a.const&&b.const) with
  | true=>
    have h2:=hc
    rw [Bool.and_eq_true] at h2
    unfold sg at hab
    rw [if_pos h2.1,if_pos h2.2] at hab
    exact absurd (fD wa wb hc hab) hq
  | false=>
    rw [C3 rfl]
    cases h3:a.const with
    | true=>
      rw [if_pos rfl]
      refine ⟨rfl,fun p hp=>?_⟩
      rcases List.mem_append.1 hp with hp | hp
      · exact h p hp
      · rw [List.mem_singleton.1 hp];exact hab.symm
    | false=>
      rw [C3 rfl]
      refine ⟨rfl,fun p hp=>?_⟩
      rcases List.mem_append.1 hp with hp | hp
      · exact h p hp
      · rw [List.mem_singleton.1 hp];exact hab
theorem aO:∀(l:List Lit) (w:Wm),(∀c∈l,Cb T V true c=true→sg env (B5 (Ap c.cond))=sg env (B5 (Bj c.cond)))→wSg env w→wWf w→(Ir T V l w).2=true∧wSg env (Ir T V l w).1
  | [],w,_,h,_=>⟨rfl,h⟩
  | c::r,w,hl,h,hw=>by
    have hr:=fun x hx=>hl x (List.mem_cons_of_mem _ hx)
    cases h1:Cb T V true c with
    | false=>rw [Lv h1];exact aO r w hr h hw
    | true=>
      obtain ⟨h2,h3⟩:=pY (c:=c) h hw (hl c (List.mem_cons_self ..) h1)
      rw [L8 h1 h2]
      exact aO r _ hr h3 (nQ hw)
theorem lK {w:Wm}(h:wSg env w):∀(l:List Lit),(∀c∈l,Cb T V false c=true→sg env (B5 (Ap c.cond))≠sg env (B5 (Bj c.cond)))→Nh T V w l=true
  | [],_=>rfl
  | c::r,hl=>by
    have hr:=lK h r fun x hx=>hl x (List.mem_cons_of_mem _ hx)
    rw [Nh]
    cases h1:Cb T V false c with
    | false=>exact hr
    | true=>
      have h2:=hl c (List.mem_cons_self ..) h1
      rw [if_neg (by decide),if_neg ?_]
      · exact hr
      · intro he
        have h3:=congrArg (sg env) he
        rw [show sg env (Cc w (B5 (Ap c.cond)))=_ from gP h _ _,show sg env (Cc w (B5 (Bj c.cond)))=_ from gP h _ _] at h3
        exact h2 h3
theorem bU (hE:EnvOK T V env){l:List Lit}(hl:Up T V l)(ht:∀y∈l,N7 env y=true):(D5 T V l).2=true:=by
 have key:∀{s:Bool} {c:Lit},c∈l→Cb T V s c=true→(tv env c.cond=true↔sg env (B5 (Ap c.cond))=sg env (B5 (Bj c.cond)))∧tv env c.cond=s:=fun {s c} hc hs=>by
  obtain ⟨h1,h2,h3⟩:=Ts hs
  have hk:=(hl c hc).1
  refine ⟨sS hE hk (Uq hk h2 h3),?_⟩
  have h4:=ht c hc
  unfold N7 at h4
  rw [h1] at h4
  cases hq:tv env c.cond <;> cases s <;> rw [hq] at h4 <;> first | rfl | cases h4
 obtain ⟨h1,h2⟩:=aO (T:=T) (V:=V) (env:=env) l [] (fun c hc hs=>(key hc hs).1.1 (key hc hs).2) (fun p hp=>by cases hp) (fun p hp=>by cases hp)
 unfold D5
 rw [h1,Bool.true_and]
 refine lK h2 l fun c hc hs he=>?_
 have h3:=(key hc hs).1.2 he
 rw [(key hc hs).2] at h3
 cases h3
theorem gZ (hE:EnvOK T V env){l:List Lit}(hf:∀y∈l,LitF T V y)(ht:gR env l=true):Pe T V l=true:=by
 have ht':∀y∈l,N7 env y=true:=List.all_eq_true.1 ht
 cases h:Ja (Cy T V l) with
 | false=>exact tU (by rw [h];rfl)
 | true=>rw [aP (by rw [h];rfl),bU hE (Wi hf) ht',fZ hE hf h ht'];rfl
theorem Wx:∀(l:List (List Lit)),(Xq T V 0 l).1≠2
  | []=>by show (0:Int)≠2;decide
  | c::r=>by
    rw [Xq]
    split
    · exact Wx r
    split
    · show (1:Int)≠2;decide
    · exact Wx r
theorem sB:∀{l:List (List Lit)} {o:Int},(∃c∈l,Pe T V c=true)→(Xq T V o l).1≠2
  | [],_,⟨c,hc,_⟩=>by cases hc
  | d::r,o,⟨c,hc,hk⟩=>by
    rw [Xq]
    split
    · rename_i h
      rw [Bool.and_eq_true] at h
      rcases List.mem_cons.1 hc with rfl | hc
      · rw [hk] at h;cases h.1
      · exact sB ⟨c,hc,hk⟩
    split
    · show (1:Int)≠2;decide
    · exact Wx r
theorem Vd (hE:EnvOK T V env){c:Cs}(hf:Hk (LitF T V) c)(ht:Oz env c.1=true):(Br T V c).1≠2:=by
  cases h:(!c.2) with
  | true=>rw [Xl h];show (0:Int)≠2;decide
  | false=>
    rw [bS h]
    obtain ⟨x,hx,hx2⟩:=List.any_eq_true.1 ht
    exact sB ⟨x,hx,gZ hE (hf x hx) hx2⟩
theorem V3:∀{l:List (List Lit)} {o:Int},o≠1→(Xq T V o l).1=1→∃c∈l,Pe T V c=true∧K7 T V c=true∧Xq T V o l=(1,kJ T V c)
  | [],o,ho,h=>absurd h ho
  | c::r,o,ho,h=>by
    cases h1:(!Pe T V c&&decide ((c.length:Int)≤256)) with
    | true=>
      rw [cP h1] at h ⊢
      obtain ⟨d,hd,hx⟩:=V3 ho h
      exact ⟨d,List.mem_cons_of_mem _ hd,hx⟩
    | false=>
      cases h2:K7 T V c with
      | true=>
        refine ⟨c,List.mem_cons_self ..,?_,h2,lI h1 h2⟩
        rw [(O4 h2).2,Bool.and_true] at h1
        simpa using h1
      | false=>
        rw [tV h1 h2] at h ⊢
        obtain ⟨d,hd,hx⟩:=V3 (by decide) h
        exact ⟨d,List.mem_cons_of_mem _ hd,hx⟩
end

theorem Xo {bs:List Bd}:∀(m:Nat) (s:Ds×Int),(Dw bs (m+1) s).2<0→∃d,Dw bs (m+1) s=I7 bs d∧(I7 bs d).2<0
  | 0,s,h=>by
    cases hq:decide ((I7 bs s.1).2<0) with
    | true=>rw [J0 hq] at h ⊢;exact ⟨s.1,rfl,h⟩
    | false=>rw [L5 hq] at h;exact absurd h (of_decide_eq_false hq)
  | m+1,s,h=>by
    cases hq:decide ((I7 bs s.1).2<0) with
    | true=>rw [J0 hq] at h ⊢;exact ⟨s.1,rfl,h⟩
    | false=>rw [L5 hq] at h ⊢;exact Xo m _ h
theorem oO {bs:List Bd}:∀{i:Nat} {s:Ds×Int},(∀b∈bs,0≤b.x)→0≤s.2→0≤(Fo i bs s).2:=by
  induction bs with
  | nil=>intro i s _ h;exact h
  | cons b r ih=>
    intro i s hb h
    rw [Fo]
    refine ih (fun x hx=>hb x (List.mem_cons_of_mem _ hx)) ?_
    cases hq:decide (D7 s.1.sums b.y+b.most<D7 s.1.sums b.x) with
    | false=>rw [Wh hq];exact h
    | true=>rw [Om hq];exact hb b (List.mem_cons_self ..)
theorem rA:∀(bs:List Bd) (i:Nat) (s:Ds×Int),(∀b∈bs,0≤b.x)→(Fo i bs s).2<0→Fo i bs s=s∧Ni (gf s.1.sums) bs
  | [],i,s,_,h=>⟨rfl,fun b hb=>by cases hb⟩
  | b::r,i,s,hb,h=>by
    have hr:∀x∈r,0≤x.x:=fun x hx=>hb x (List.mem_cons_of_mem _ hx)
    rw [Fo] at h ⊢
    cases hq:decide (D7 s.1.sums b.y+b.most<D7 s.1.sums b.x) with
    | true=>
      rw [Om hq] at h
      have:=oO (i:=i+1) (s:=(⟨s.1.sums.set b.x.toNat (D7 s.1.sums b.y+b.most),s.1.last.set b.x.toNat (i:Int)⟩,b.x)) hr (hb b (List.mem_cons_self ..))
      omega
    | false=>
      rw [Wh hq] at h ⊢
      obtain ⟨h1,h2⟩:=rA r (i+1) s hr h
      refine ⟨h1,fun c hc=>?_⟩
      rcases List.mem_cons.1 hc with rfl | hc
      · have h3:=of_decide_eq_false hq
        have h4:¬(gf s.1.sums c.y.toNat+c.most<gf s.1.sums c.x.toNat):=h3
        omega
      · exact h2 c hc
theorem oT {n:Nat}{bs:List Bd}(hm:∀b∈bs,-I4≤b.most∧b.most≤I4)(h:(Dr (zn n bs)).ok=true) :
    (Dr (zn n bs)).values.length=n∧D7 (Dr (zn n bs)).values 0=0∧∀b∈bs,Sa (D7 (Dr (zn n bs)).values) b:=by
  cases hz:He (zn n bs) != 0 with
  | true=>rw [U3 hz] at h;cases h
  | false=>
    cases he:decide ((D1 (zn n bs)).2<0) with
    | false=>rw [cF hz he] at h;cases h
    | true=>
      have hk:=mT hz hm
      have hs:=(jP hk).s
      rw [Ut hz he]
      simp only [List.length_map]
      have he':=of_decide_eq_true he
      rw [Mn] at he'
      obtain ⟨d,h1,h2⟩:=Xo n _ he'
      obtain ⟨h3,h4⟩:=rA bs 0 (d,-1) (fun b hb=>(hk.bd b hb).1) h2
      rw [←Mn] at h1
      have h5:(D1 (zn n bs)).1=d:=by rw [h1];show (Fo 0 bs (d,-1)).1=d;rw [h3]
      rw [h5] at hs ⊢
      have hix:∀k:Int,0≤k→k<(n:Int)→D7 (d.sums.map fun v=>v-D7 d.sums 0) k=D7 d.sums k-D7 d.sums 0:=fun k k0 k1=>by
        have hlt:k.toNat<d.sums.length:=by omega
        have hg:=List.getElem?_eq_getElem hlt
        show ((d.sums.map fun v=>v-D7 d.sums 0)[k.toNat]?).getD 0=(d.sums[k.toNat]?).getD 0-D7 d.sums 0
        rw [List.getElem?_map,hg];rfl
      have hn:=hk.n1
      refine ⟨hs,?_,fun b hb=>?_⟩
      · rw [hix 0 (by omega) (by omega)];omega
      · have hb2:=hk.bd b hb
        have h6:=h4 b hb
        have h7:D7 d.sums b.x≤D7 d.sums b.y+b.most:=h6
        show D7 _ b.x-D7 _ b.y≤b.most
        rw [hix b.x hb2.1 hb2.2.1,hix b.y hb2.2.2.1 hb2.2.2.2]
        omega
inductive Root (w:Wm):Wd→Wd→Prop
 | here {x:Wd}:Fs w x=none→Root w x x
 | step {x y r:Wd}:Fs w x=some y→Root w y r→Root w x r
theorem Root.one {w:Wm}{x r s:Wd}(h:Root w x r):Root w x s→s=r:=by
  induction h with
  | here h=>
    intro h2
    cases h2 with
    | here _=>rfl
    | step h3 _=>rw [h] at h3;cases h3
  | step h1 _ ih=>
    intro h2
    cases h2 with
    | here h3=>rw [h1] at h3;cases h3
    | step h3 h4=>rw [h1] at h3;cases h3;exact ih h4
theorem nB {w:Wm}(hw:Qt w):∀(n:Nat) (x:Wd),qC w n x→Root w x (Pf w n x)
  | 0,x,h=>.here (Wr hw 0 x h)
  | n+1,x,h=>by
    cases hq:Fs w x with
    | none=>rw [Uz hq];exact .here hq
    | some y=>
      obtain ⟨h1,h2⟩:=Se hw h hq
      rw [aQ h1 hq]
      exact .step hq (nB hw n y h2)
theorem mL {w:Wm}(hw:Qt w)(x:Wd):Root w x (Cc w x):=nB hw _ _ (P7 w x)
theorem of_is {w:Wm}(hw:Qt w){x r:Wd}(h:Root w x r):Cc w x=r:=h.one (mL hw x)
theorem O5 {w:Wm}{k v x:Wd}:Fs (w ++ [(k,v)]) x=match Fs w x with | some y=>some y | none=>if k=x then some v else none:=by
  unfold Fs
  rw [List.find?_append]
  cases w.find? fun p=>decide (p.1=x) with
  | some p=>rfl
  | none=>
    simp only [Option.none_or,Option.map_none]
    by_cases h:k=x
    · rw [if_pos h];simp [h]
    · rw [if_neg h];simp [h]
theorem pB {w:Wm}{k v:Wd}(hv:Fs w v=none)(hkv:k≠v){x r:Wd}(h:Root w x r):Root (w ++ [(k,v)]) x (if r=k then v else r):=by
  induction h with
  | @here x h=>
    by_cases e:x=k
    · rw [if_pos e]
      refine .step (y:=v) (by rw [O5,h];simp [e]) (.here ?_)
      rw [O5,hv];simp [hkv]
    · rw [if_neg e]
      refine .here ?_
      rw [O5,h];simp [Ne.symm e]
  | @step x y r h1 _ ih=>
    exact .step (y:=y) (by rw [O5,h1]) ih
theorem Lf {w:Wm}(hw:Qt w){k v:Wd}(hv:Fs w v=none)(hkv:k≠v)(x:Wd):Cc (w ++ [(k,v)]) x=if Cc w x=k then v else Cc w x:=
 of_is (Xp hw hv hkv) (pB hv hkv (mL hw x))
def Pj (w:Wm)(x y:Wd):Prop:=Cc w x=Cc w y
theorem oS {w:Wm}(hw:Qt w){a b:Wd}(ha:Fs w a=none)(hb:Fs w b=none){x y:Wd}(h:Pj w x y):Pj (Mq w a b).1 x y:=by
 unfold Pj at *
 unfold Mq
 by_cases e:a=b
 · rw [if_pos e];exact h
 rw [if_neg e]
 split
 · exact h
 split
 · simp only;rw [Lf hw ha (fun q=>e q.symm),Lf hw ha (fun q=>e q.symm),h]
 · simp only;rw [Lf hw hb e,Lf hw hb e,h]
theorem To {w:Wm}(hw:Qt w){c:Lit}{x y:Wd}(h:Pj w x y):Pj (Et w c).1 x y:=by rw [Jc];exact oS hw (Ij hw _) (Ij hw _) h
theorem Z0 {w:Wm}(hw:Qt w){c:Lit}(h:(Et w c).2=true):Pj (Et w c).1 (B5 (Ap c.cond)) (B5 (Bj c.cond)):=by
  rw [Jc] at h ⊢
  have fa:=Ij hw (B5 (Ap c.cond))
  have fb:=Ij hw (B5 (Bj c.cond))
  unfold Pj
  unfold Mq at h ⊢
  by_cases e:Cc w (B5 (Ap c.cond))=Cc w (B5 (Bj c.cond))
  · rw [if_pos e];exact e
  rw [if_neg e] at h ⊢
  cases hc:((Cc w (B5 (Ap c.cond))).const&&(Cc w (B5 (Bj c.cond))).const) with
  | true=>rw [hc,if_pos rfl] at h;cases h
  | false=>
    rw [C3 rfl]
    cases h3:(Cc w (B5 (Ap c.cond))).const with
    | true=>
      rw [if_pos rfl]
      simp only
      rw [Lf hw fa (fun q=>e q.symm),Lf hw fa (fun q=>e q.symm),if_neg e,if_pos rfl]
    | false=>
      rw [C3 rfl]
      simp only
      rw [Lf hw fb e,Lf hw fb e,if_pos rfl,if_neg (fun q=>e q.symm)]
section
variable {T:List Sc} {V:List Va}
theorem S0:∀(l:List Lit) {w:Wm},Qt w→∀{x y:Wd},Pj w x y→Pj (Ir T V l w).1 x y
  | [],w,_,x,y,h=>h
  | c::r,w,hw,x,y,h=>by
    cases h1:Cb T V true c with
    | false=>rw [Lv h1];exact S0 r hw h
    | true=>
      cases h2:(Et w c).2 with
      | false=>rw [L2 h1 h2];exact To hw h
      | true=>rw [L8 h1 h2];exact S0 r (Lm hw c) (To hw h)
theorem Qa:∀(l:List Lit) {w:Wm},Qt w→(Ir T V l w).2=true→∀c∈l,Cb T V true c=true→Pj (Ir T V l w).1 (B5 (Ap c.cond)) (B5 (Bj c.cond))
  | [],w,_,_,c,hc,_=>by cases hc
  | d::r,w,hw,h,c,hc,hs=>by
    cases h1:Cb T V true d with
    | false=>
      rw [Lv h1] at h ⊢
      rcases List.mem_cons.1 hc with rfl | hc
      · rw [h1] at hs;cases hs
      · exact Qa r hw h c hc hs
    | true=>
      cases h2:(Et w d).2 with
      | false=>rw [L2 h1 h2] at h;cases h
      | true=>
        rw [L8 h1 h2] at h ⊢
        rcases List.mem_cons.1 hc with rfl | hc
        · exact S0 r (Lm hw c) (Z0 hw h2)
        · exact Qa r (Lm hw d) h c hc hs
theorem Pv {w:Wm}:∀(l:List Lit),Nh T V w l=true→∀c∈l,Cb T V false c=true→Cc w (B5 (Ap c.cond))≠Cc w (B5 (Bj c.cond))
  | [],_,c,hc,_=>by cases hc
  | d::r,h,c,hc,hs=>by
    rw [Nh] at h
    cases h1:Cb T V false d with
    | false=>
      rw [h1] at h
      rcases List.mem_cons.1 hc with rfl | hc
      · rw [h1] at hs;cases hs
      · exact Pv r h c hc hs
    | true=>
      rw [h1,if_neg (by decide)] at h
      by_cases e:Cc w (B5 (Ap d.cond))=Cc w (B5 (Bj d.cond))
      · rw [if_pos e] at h;cases h
      · rw [if_neg e] at h
        rcases List.mem_cons.1 hc with rfl | hc
        · exact e
        · exact Pv r h c hc hs
structure wGood (W:Wd→Prop) (w:Wm):Prop where
 key:∀p∈w,p.1.const=false
 val:∀p∈w,W p.2
theorem vI {W:Wd→Prop}{w:Wm}(h:wGood W w):∀(n:Nat) (x:Wd),W x→W (Pf w n x)
  | 0,x,hx=>hx
  | n+1,x,hx=>by
    rw [Pf]
    cases hg:Fs w x with
    | none=>exact hx
    | some y=>exact vI h n y (h.val _ (Vs hg))
theorem iO {W:Wd→Prop}{w:Wm}(h:wGood W w){x:Wd}(hx:W x):W (Cc w x):=vI h _ _ hx
theorem sU {W:Wd→Prop}{w:Wm}(h:wGood W w){x:Wd}(hx:x.const=true):Cc w x=x:=by
 have:Fs w x=none:=Vy fun p hp e=>by
  have:=h.key p hp
  rw [e,hx] at this;cases this
 exact Uz this
theorem Tq {W:Wd→Prop}{w:Wm}(h:wGood W w){c:Lit}(h0:W (B5 (Ap c.cond)))(h1:W (B5 (Bj c.cond))):wGood W (Et w c).1:=by
  rw [Jc]
  have a:=iO h h0
  have b:=iO h h1
  revert a b
  generalize Cc w (B5 (Ap c.cond))=x
  generalize Cc w (B5 (Bj c.cond))=y
  intro a b
  unfold Mq
  split
  · exact h
  cases hc:(x.const&&y.const) with
  | true=>rw [if_pos rfl];exact h
  | false=>
    rw [C3 rfl]
    cases h3:x.const with
    | true=>
      rw [h3,Bool.true_and] at hc
      rw [if_pos rfl]
      refine ⟨fun p hp=>?_,fun p hp=>?_⟩
      · rcases List.mem_append.1 hp with hp | hp
        · exact h.key p hp
        · rw [List.mem_singleton.1 hp];exact hc
      · rcases List.mem_append.1 hp with hp | hp
        · exact h.val p hp
        · rw [List.mem_singleton.1 hp];exact a
    | false=>
      rw [C3 rfl]
      refine ⟨fun p hp=>?_,fun p hp=>?_⟩
      · rcases List.mem_append.1 hp with hp | hp
        · exact h.key p hp
        · rw [List.mem_singleton.1 hp];exact h3
      · rcases List.mem_append.1 hp with hp | hp
        · exact h.val p hp
        · rw [List.mem_singleton.1 hp];exact b
theorem Tc {W:Wd→Prop}:∀(l:List Lit) {w:Wm},(∀c∈l,Cb T V true c=true→W (B5 (Ap c.cond))∧W (B5 (Bj c.cond)))→wGood W w→wGood W (Ir T V l w).1
  | [],w,_,h=>h
  | c::r,w,hl,h=>by
    have hr:=fun x hx=>hl x (List.mem_cons_of_mem _ hx)
    cases h1:Cb T V true c with
    | false=>rw [Lv h1];exact Tc r hr h
    | true=>
      obtain ⟨a,b⟩:=hl c (List.mem_cons_self ..) h1
      cases h2:(Et w c).2 with
      | false=>rw [L2 h1 h2];exact Tq h a b
      | true=>rw [L8 h1 h2];exact Tc r hr (Tq h a b)
end
end Go.Proofs.YtjedflcpjlgokaaGreatDoor
