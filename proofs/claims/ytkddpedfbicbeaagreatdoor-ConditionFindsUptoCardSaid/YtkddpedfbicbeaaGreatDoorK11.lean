/-
  Several texts in one: S30, S32, S34, S35, S36, S37, S39, S42. No condition.
-/
import Derived.Test.YtkddpedfbicbeaaGreatDoorK10
import Derived.Test.YtkddpedfbicbeaaGreatDoorK02
set_option linter.unusedVariables false
set_option linter.unusedSimpArgs false
namespace Go.Proofs.YtkddpedfbicbeaaGreatDoor
open Go Go.Aw
section
variable {T:List Sc} {V:List Va}
def Jc (T:List Sc)(V:List Va)(n:Nat)(c:Cs):Prop:=∀x∈c.1,∀y∈x,KOK T V y.cond∧At y.cond≤n
theorem Kf {n m:Nat}{c:Cs}(h:Jc T V n c)(hm:n≤m):Jc T V m c:=fun x hx y hy=>⟨(h x hx y hy).1,Nat.le_trans (h x hx y hy).2 hm⟩
theorem Mb {n:Nat}{a b:Cs}(ha:Jc T V n a)(hb:Jc T V n b):Jc T V n (En a b):=by
 unfold En
 split
 · intro x hx;cases hx
 ·
  unfold Mk
  split
  · intro x hx;cases hx
  ·
   intro x hx y hy
   obtain ⟨p,hp,hm⟩:=List.mem_flatMap.1 hx
   obtain ⟨q,hq,rfl⟩:=List.mem_map.1 hm
   rcases List.mem_append.1 hy with h | h
   · exact ha p hp y h
   · exact hb q hq y h
theorem iP {n:Nat}{a b:Cs}(ha:Jc T V n a)(hb:Jc T V n b):Jc T V n (Je a b):=by
 unfold Je
 split
 · intro x hx;cases hx
 ·
  intro x hx y hy
  rcases List.mem_append.1 hx with h | h
  · exact ha x h y hy
  · exact hb x h y hy
theorem Xj {n:Nat}{l:List Lit}(h:∀y∈l,KOK T V y.cond∧At y.cond≤n):Jc T V n (Ef l):=by
 intro x hx y hy
 unfold Ef at hx
 obtain ⟨z,hz,rfl⟩:=List.mem_map.1 hx
 rw [List.mem_singleton.1 hy]
 exact h z hz
theorem P1 {a b:Ex}(ha:KOK T V a)(hb:KOK T V b)(ka:Am T V a=0)(kb:Am T V b=0):KOK T V (two 7 a b):=by
 refine ⟨ha.ty,?_,?_⟩
 ·
  rw [Lf]
  have h1:By (two 7 a b)=0:=by
   have hf:Bm (two 7 a b)=0:=by simp [Bm,two,Dp,isV0,v0]
   unfold By
   rw [hf]
   simp [two,D6,Dp]
  rw [h1]
  show Aq C5 [a,b]=0
  simp [Aq,ha.nodes,hb.nodes]
 ·
  rw [Eg]
  show (if [a,b].isEmpty then _ else _:Int×Int).2=0
  have e1:(Cc T V a).2=0:=ha.kind
  have e2:(Cc T V b).2=0:=hb.kind
  have k1:(Cc T V a).1=0:=by rw [F2 ha];exact ka
  have k2:(Cc T V b).1=0:=by rw [F2 hb];exact kb
  simp [two,Aq,e1,e2,k1,k2,Dl,Mn]
theorem gE (a b:Ex):At (two 7 a b)=1+At a+At b:=by
 rw [D7];simp [two];omega
theorem Po (e:Ex):KOK T V e→∀s,Jc T V (At e) (Db T V e s):=by
 refine Ex.Aao (P:=fun e=>KOK T V e→∀s,Jc T V (At e) (Db T V e s)) (fun e ih hk s=>?_) e
 rcases Ll s hk with h | ⟨h,hl⟩ | ⟨h,hl⟩ | ⟨h,hl,h1⟩ | ⟨h,hl,h1,h2⟩ | ⟨_,_,_,h,_⟩
 ·
  cases h1:((e.val.num==1)==s) with
  | true=>rw [Gg h h1];intro x hx y hy;rw [List.mem_singleton.1 hx] at hy;cases hy
  | false=>rw [Gc h h1];intro x hx;cases hx
 ·
  rw [Gd hl h]
  exact Kf (ih _ (A6 hl) (A3 hk (A6 hl)) _) (Nat.le_of_lt (vV hl))
 ·
  have m0:=A6 (show 0<e.args.length by omega)
  have m1:=Bk hl
  have hs:=Dy hl
  have i0:=Kf (ih _ m0 (A3 hk m0) s) (show At (Ao e)≤At e by omega)
  have i1:=Kf (ih _ m1 (A3 hk m1) s) (show At (Bi e)≤At e by omega)
  cases h1:((e.op==10)==s) with
  | true=>rw [Gr hl h h1];exact Mb i0 i1
  | false=>rw [Gk hl h h1];exact iP i0 i1
 ·
  have m0:=A6 (show 0<e.args.length by omega)
  have m1:=Bk hl
  have hs:=Dy hl
  have i0:=fun t=>Kf (ih _ m0 (A3 hk m0) t) (show At (Ao e)≤At e by omega)
  have i1:=fun t=>Kf (ih _ m1 (A3 hk m1) t) (show At (Bi e)≤At e by omega)
  rw [Gf hl h h1]
  exact iP (Mb (i0 _) (i1 _)) (Mb (i0 _) (i1 _))
 ·
  have m0:=A6 (show 0<e.args.length by omega)
  have m1:=Bk hl
  have hs:=Dy hl
  have h9:e.op=9:=by simpa using h
  have k0:Am T V (Ao e)=0:=by rw [Bool.and_eq_true] at h2;simpa using h2.1
  have k1:Am T V (Bi e)=0:=by rw [Im hk h9 m1];exact k0
  rw [Gn h h1 h2]
  refine Xj fun y hy=>?_
  rcases List.mem_cons.1 hy with rfl | hy
  · exact ⟨P1 (A3 hk m0) (A3 hk m1) k0 k1,by simp only;rw [gE];omega⟩
  ·
   rw [List.mem_singleton.1 hy]
   exact ⟨P1 (A3 hk m1) (A3 hk m0) k1 k0,by simp only;rw [gE];omega⟩
 ·
  rw [h]
  exact Xj fun y hy=>by rw [List.mem_singleton.1 hy];exact ⟨hk,Nat.le_refl _⟩
end
section
variable (T:List Sc) (V:List Va)
def pW (c:List Lit):List Ev:=yJ T V (Eh T V c).1 c (Ls T V c)
def Zb:Int→List (List Lit)→Int×List Ev
 | out,[]=>(out,[])
 | out,c::r=>if !Qk T V c&&decide ((c.length:Int)≤256) then Zb out r else if Lj T V c then (1,pW T V c) else Zb 0 r
def B5 (c:Cs):Int×List Ev:=if !c.2 then (0,[]) else Zb T V 2 c.1
def Ei (es:List Ex):Int:=if (Dd T V (Er true)).2 != 0 then (Dd T V (Er true)).2 else if decide (256<(es.length:Int)) then 5 else Aq (Ec T V) es
def Kh (es:List Ex)(c:Cs):Cs:=es.foldl (fun c e=>En c (Db T V e true)) c
/-- Possible: the verdict, the events, the error -/
def B3 (es:List Ex):Int×List Ev×Int:=if Ei T V es != 0 then (0,[],Ei T V es) else ((B5 T V (Kh T V es ([[]],true))).1,(B5 T V (Kh T V es ([[]],true))).2,0)
def K8 (a b:Ex):Cs:=En (Db T V a true) (Db T V b false)
def Dc (a b:Ex):Int×Int:=if Ei T V [a,b] != 0 then (0,Ei T V [a,b]) else if (B5 T V (K8 T V a b)).1==1 then (2,0) else if (B5 T V (K8 T V a b)).1==2 then (1,0) else ((B5 T V (K8 T V a b)).1,0)
end
section
variable {T:List Sc} {V:List Va}
theorem gY {o:Int}{c:List Lit}{r:List (List Lit)}(h:(!Qk T V c&&decide ((c.length:Int)≤256))=true):Zb T V o (c::r)=Zb T V o r:=by rw [Zb,if_pos h]
theorem nF {o:Int}{c:List Lit}{r:List (List Lit)}(h:(!Qk T V c&&decide ((c.length:Int)≤256))=false)(h2:Lj T V c=true):Zb T V o (c::r)=(1,pW T V c):=by rw [Zb,Ck h,if_pos h2]
theorem vH {o:Int}{c:List Lit}{r:List (List Lit)}(h:(!Qk T V c&&decide ((c.length:Int)≤256))=false)(h2:Lj T V c=false):Zb T V o (c::r)=Zb T V 0 r:=by rw [Zb,Ck h,Ck h2]
theorem P9 {c:List Lit}(h:Lj T V c=true):I9 (C8 T V c)=true∧decide ((c.length:Int)≤256)=true:=by
 unfold Lj at h
 rw [Bool.and_eq_true,Bool.and_eq_true] at h
 exact h.2
theorem wW {c:List Lit}(hl:U4 T V c)(h:(!Qk T V c&&decide ((c.length:Int)≤256))=false)(h2:Lj T V c=true):(Cj T V c).ts.length+1≤(Ls T V c).length:=by
  obtain ⟨h3,h4⟩:=P9 h2
  rw [h4,Bool.and_true] at h
  have hf:(!I9 (C8 T V c))=false:=by rw [h3];rfl
  have hk:Qk T V c=true:=by simpa using h
  rw [bY hf,Bool.and_eq_true] at hk
  rw [kH hf]
  have hok:=hk.2
  rw [pB] at hok ⊢
  cases hz:I4 (zn (zN T V c) (C8 T V c).bs) != 0 with
  | true=>rw [Wl hz] at hok;cases hok
  | false=>
    cases he:decide ((Em (zn (zN T V c) (C8 T V c).bs)).2<0) with
    | false=>rw [dZ hz he] at hok;cases hok
    | true=>
      rw [Wa hz he]
      have:=(kI (oT hz (P8 hl))).s
      rw [List.length_map,this]
      exact Nat.le_refl _
theorem dO {es:List Ex}(h:((Dd T V (Er true)).2 != 0)=true):Ei T V es=(Dd T V (Er true)).2:=by rw [Ei,if_pos h]
theorem oP {es:List Ex}(h:((Dd T V (Er true)).2 != 0)=false)(h2:decide ((256:Int)<(es.length:Int))=true):Ei T V es=5:=by rw [Ei,Ck h,if_pos h2]
theorem dF {es:List Ex}(h:((Dd T V (Er true)).2 != 0)=false)(h2:decide ((256:Int)<(es.length:Int))=false):Ei T V es=Aq (Ec T V) es:=by rw [Ei,Ck h,Ck h2]
theorem Xw {es:List Ex}(h:(Ei T V es != 0)=false):es.length≤256∧∀e∈es,KC T V e∧Am T V e=1:=by
  have h0:Ei T V es=0:=by simpa using h
  cases h1:((Dd T V (Er true)).2 != 0) with
  | true=>rw [dO h1] at h0;rw [h0] at h1;cases h1
  | false=>
    cases h2:decide ((256:Int)<(es.length:Int)) with
    | true=>rw [oP h1 h2] at h0;cases h0
    | false=>
      rw [dF h1 h2] at h0
      have h2':=of_decide_eq_false h2
      exact ⟨by omega,fun e he=>R7 (by rw [Ro h0 e he];rfl)⟩
theorem gK {es:List Ex}(h:(Ei T V es != 0)=false):Jx T V:=by
 have h0:Ei T V es=0:=by simpa using h
 cases h1:((Dd T V (Er true)).2 != 0) with
 | true=>rw [dO h1] at h0;rw [h0] at h1;cases h1
 | false=>exact (gB (by simpa using h1)).kok.ty
theorem Poss_1 {es:List Ex}(h:(Ei T V es != 0)=true):B3 T V es=(0,[],Ei T V es):=by rw [B3,if_pos h]
theorem xR {es:List Ex}{c:Cs}(h:(Ei T V es != 0)=false)(h2:Kh T V es ([[]],true)=c):B3 T V es=((B5 T V c).1,(B5 T V c).2,0):=by rw [B3,Ck h,h2]
theorem Yq {c:Cs}(h:(!c.2)=true):B5 T V c=(0,[]):=if_pos h
theorem cN {c:Cs}(h:(!c.2)=false):B5 T V c=Zb T V 2 c.1:=Ck h
theorem Imp_1 {a b:Ex}(h:(Ei T V [a,b] != 0)=true):Dc T V a b=(0,Ei T V [a,b]):=by rw [Dc,if_pos h]
theorem Imp_2 {a b:Ex}(h:(Ei T V [a,b] != 0)=false)(h2:((B5 T V (K8 T V a b)).1==1)=true):Dc T V a b=(2,0):=by rw [Dc,Ck h,if_pos h2]
theorem Imp_3 {a b:Ex}(h:(Ei T V [a,b] != 0)=false)(h2:((B5 T V (K8 T V a b)).1==1)=false)(h3:((B5 T V (K8 T V a b)).1==2)=true):Dc T V a b=(1,0):=by rw [Dc,Ck h,Ck h2,if_pos h3]
theorem Imp_4 {a b:Ex}(h:(Ei T V [a,b] != 0)=false)(h2:((B5 T V (K8 T V a b)).1==1)=false)(h3:((B5 T V (K8 T V a b)).1==2)=false):Dc T V a b=((B5 T V (K8 T V a b)).1,0):=by rw [Dc,Ck h,Ck h2,Ck h3]
theorem sY {a b:Ex}{n:Nat}(ha:At a≤n)(hb:At b≤n):∀e∈[a,b],At e≤n:=fun e he=>by
 rcases List.mem_cons.1 he with rfl | he
 · exact ha
 · rw [List.mem_singleton.1 he];exact hb
/-- clauses that can be solved -/
def vOK (T:List Sc)(V:List Va)(c:Cs):Prop:=c.1.length≤256∧∀x∈c.1,U4 T V x∧x.length≤4096
theorem zC {n:Nat}{c:Cs}(h:csOK n c)(hl:Jc T V 64 c)(hn:n≤4096):vOK T V c:=⟨h.len,fun x hx=>⟨fun y hy=>hl x hx y hy,Nat.le_trans (h.lits x hx) hn⟩⟩
theorem xG:csOK 0 ([[]],true):=⟨by simp,fun x hx=>by rw [List.mem_singleton.1 hx];exact Nat.le_refl _⟩
theorem rL {n:Nat}:Jc T V n ([[]],true):=fun x hx y hy=>by rw [List.mem_singleton.1 hx] at hy;cases hy
end
set_option maxRecDepth 100000
/-! ### The chapter's example -/
def sK:List Sc:=[⟨[116,114,97,100,101],[⟨[115,121,109,98,111,108],2⟩,⟨[112,114,105,99,101],0⟩]⟩]
def tW:List Va:=[⟨[97],0⟩,⟨[98],0⟩]
def Zk (n:Int):Ex:=Pk ⟨0,n,[]⟩
def Hs (v:Int):Ex:=⟨1,[],v,1,0,v0⟩
def Ui (v:Int):Ex:=⟨1,[],v,0,0,v0⟩
def W7:Ex:=⟨0,[],0,0,0,⟨2,0,[120]⟩⟩
def N3:Ex:=two 7 (Hs 0) (Zk 3)
def upE:Ex:=two 7 (Hs 0) (Hs 1)
def iY (n:Int):Ex:=two 7 (Hs 1) (two 5 (Hs 0) (Zk n))
def bR:Ex:=two 9 ⟨3,[],0,0,0,v0⟩ (Zk 2)
def clE:Ex:=Pf (two 11 N3 (two 9 (Hs 0) (Hs 1)))
def clL:List (List Lit):=[[⟨N3,true⟩,⟨two 7 (Hs 0) (Hs 1),false⟩],[⟨N3,true⟩,⟨two 7 (Hs 1) (Hs 0),false⟩]]
def znE:Zn:=⟨3,[⟨1,0,1099511627776⟩,⟨0,1,1099511627776⟩,⟨2,0,1099511627776⟩,⟨0,2,1099511627776⟩,⟨0,1,-3⟩,⟨1,2,-1⟩]⟩
theorem jZ:∀s∈sK,Jg s:=by
 intro s hs
 rw [List.mem_singleton.1 hs]
 exact ⟨by decide,by decide,by decide⟩
theorem ex_cl:Jf sK tW clE=(clL,0):=by kernel_rfl
theorem ex_zn:Q3 sK tW [⟨N3,true⟩,⟨two 7 (Hs 0) (Hs 1),false⟩]=⟨znE,[Hs 0,Hs 1],0⟩:=by kernel_rfl
theorem ex_same:J9 clL clL=true:=(Kl _ _).2 rfl
theorem Nr (e:Ex)(h:decide (At e≤100)=true):At e≤1048576:=Nat.le_trans (of_decide_eq_true h) (by decide)
theorem Mc (l:List Ex)(h:l.all (fun e=>decide (At e≤100))=true):∀e∈l,At e≤1048576:=fun e he=>Nr e (List.all_eq_true.1 h e he)
theorem bL:∀c∈clL,∀x∈c,At x.cond≤1048576:=by
 intro c hc x hx
 have h:clL.all (fun c=>c.all fun x=>decide (At x.cond≤100))=true:=by kernel_rfl
 exact Nr _ (List.all_eq_true.1 (List.all_eq_true.1 h c hc) x hx)
def lF (want:Int)(es:List Ex):Bool:=(B3 sK tW es).2.2==0&&(B3 sK tW es).1==want
theorem ver_1:lF 2 [upE,iY 1]=true:=by kernel_rfl
theorem ver_2:lF 1 [upE,iY 2]=true:=by kernel_rfl
theorem ver_3:lF 2 [two 9 (Ui 0) W7,two 9 (Ui 1) (Ui 0),Pf (two 9 (Ui 1) W7)]=true:=by kernel_rfl
theorem ver_4:lF 0 [bR]=true:=by kernel_rfl
theorem ver_5:lF 2 [bR,two 7 (Hs 0) (Hs 0)]=true:=by kernel_rfl
theorem imp_1:Dc sK tW N3 (two 7 (Hs 0) (Zk 4))=(1,0):=by kernel_rfl
theorem imp_2:Dc sK tW (two 7 (Hs 0) (Zk 4)) N3=(2,0):=by kernel_rfl
/-! ### Smallness -/
def bigSc (s:Sc):Bool:=decide (20<(s.fields.length:Int))||decide (100<(s.name.length:Int))
def qQ (T:List Sc):Bool:=if T.any bigSc then false else decide ((T.length:Int)≤20)
def fewX (e:Ex):Bool:=decide (At e≤200∧Ew e≤100)
def eX (T:List Sc)(V:List Va)(es:List Ex):Bool:=
 if es.any (fun e=>!fewX e) then false else (qQ T&&decide ((V.length:Int)≤20))&&decide ((es.length:Int)≤10)
theorem dP {α:Type}{f:α→Bool}{l:List α}{k:Nat}{a:α}(h:l[k]? = some a)(hf:f a=true):l.any f=true:=List.any_eq_true.2 ⟨a,List.mem_of_getElem? h,hf⟩
theorem Yj {α:Type}{f:α→Bool}{l:List α}{k:Nat}{a:α}(hk:(l.take k).any f=false)(h:l[k]? = some a)(hf:f a=false):(l.take (k+1)).any f=false:=by
 rw [Cu h,List.any_append,hk,List.any_cons,hf];rfl
/-! ### Comparing -/
def sameAll (a b:List Ex):Bool:=decide (a.length=b.length)&&(a.zip b).all fun p=>Lh p.1 p.2
def sameBds:List Bd→List Bd→Bool
 | [],[]=>true
 | a::r,b::q=>(a.x==b.x&&a.y==b.y&&a.most==b.most)&&sameBds r q
 | _,_=>false

def okI (v:Vl):Prop:=v.kind=0→v.text = []
section
variable {T:List Sc} {V:List Va} {env:List (List Ev)}
theorem vL (hS:E8 T V env){e:Ex}(hz:By e=0)(ha:e.args = [])(hk:(F7 T V e).2=0):okI (Fe ⟨env,-1,Kn⟩ e).1:=by
 have hvr:=Mw hz
 have hfr:=J2 hz
 have key:∀{w:Vl},Ap w=0→okI w:=fun h hk=>(F5 h hk).1
 unfold F7 at hk
 by_cases h0:(e.op==0)=true
 · unfold Fe;rw [if_pos h0];exact key (H4 hz (by simpa using h0)).1
 rw [if_neg h0] at hk
 by_cases h1:decide ((V.length:Int)≤e.var)=true
 · rw [if_pos h1] at hk;cases hk
 rw [if_neg h1] at hk
 have hlt:e.var<(V.length:Int):=by simp at h1;omega
 obtain ⟨v,hv⟩:=H0 (l:=V) hvr.1 hlt
 obtain ⟨s,ev,hs,hev,hse⟩:=hS.2 _ v hv
 have hel:e.var<(env.length:Int):=by rw [hS.1];exact hlt
 have hevs:Bv env e.var = [ev]:=by
  unfold Bv
  rw [if_neg (by simp;omega),hev];rfl
 have hown:(e.var != -1)=true:=by simp;omega
 have hfl:Fu T V e.var=s.fields:=cC hv hs
 rw [hfl] at hk
 by_cases h3:e.op=3
 ·
  unfold Fe
  rw [if_neg h0,if_pos (by simp [h3])]
  exact fun _=>rfl
 by_cases h2:e.op=2
 ·
  rw [Mt hevs hown h0 h3 (by omega)]
  unfold G8
  rw [if_pos (by simp [h2])]
  exact fun _=>rfl
 rw [if_neg (by simp [h2,h3])] at hk
 by_cases h4:decide ((s.fields.length:Int)≤e.field)=true
 · rw [if_pos h4] at hk;cases hk
 rw [if_neg h4] at hk
 obtain ⟨f,hf⟩:=H0 (l:=s.fields) hfr (by simp at h4;omega)
 obtain ⟨w,hw,hgw⟩:=hse.2 _ f hf
 have hka:Hr s.fields e.field=f.kind:=by simp [Hr,hf]
 have hfs:Dq ev e.field=(w,0):=by
  unfold Dq
  rw [if_neg (by rw [hse.1];exact h4),hw];rfl
 rw [hka] at hk
 by_cases h5:e.op=4
 ·
  by_cases h6:(e.op==4&&(f.kind != e.val.kind || !Dx e.kind ⟨f.kind,0,[]⟩))=true
  · rw [if_pos h6] at hk;cases hk
  have htw:=Uy hz h5
  have hes:Dx e.kind w=true:=by
   simp [h5] at h6
   have:=h6.2
   unfold Dx at this ⊢
   rw [hgw.1];exact this
  unfold Fe Og
  rw [if_neg h0,if_neg (by simp [h3]),if_pos (by simp [h5]),hevs]
  have e1:Aq (fun v=>(Dq v e.field).2) [ev]=0:=by simp [Aq,hfs]
  rw [if_neg (by rw [e1];decide)]
  have e2:([ev].map fun v=>(Dq v e.field).1) = [w]:=by simp [hfs]
  rw [e2,aY ⟨htw.2.1,htw.2.2⟩ hgw.2 hes htw.1]
  exact key hgw.2
 ·
  rw [Mt hevs hown h0 h3 h5]
  unfold G8
  rw [if_neg (by simp [h2]),hfs,if_pos (by rfl),if_neg (by rw [hgw.2];decide)]
  exact key hgw.2
theorem rX (op a b:Int):okI (G1 op a b):=by
 unfold G1
 intro h
 split
 · rfl
 split
 · rfl
 all_goals (rename_i h5 h6;rw [Ck (Bool.eq_false_iff.2 h5),Ck (Bool.eq_false_iff.2 h6)] at h;repeat' split at h) <;> exact absurd h (by rw [P4];decide)
theorem Xm (hS:E8 T V env){e:Ex}(hk:KOK T V e)(ha:e.args≠[]):B0 ⟨env,-1,Kn⟩ e=Kv e.op (e.args.map fun a=>(B0 ⟨env,-1,Kn⟩ a).1):=
 Xs ha fun a hm=>(Tc hS a (A3 hk hm).nodes (A3 hk hm).kind).1
theorem gD (hS:E8 T V env){e:Ex}(hk:KOK T V e):okI (B0 ⟨env,-1,Kn⟩ e).1:=by
 by_cases ha:e.args = []
 ·
  have h:=hk.kind
  rw [Eg,if_pos (by simp [ha])] at h
  rw [Mq ha];exact vL hS (Be hk.nodes).1 ha h
 ·
  rw [Xm hS hk ha]
  unfold Kv
  split
  · exact fun _=>rfl
  split
  · exact fun h=>absurd h (by rw [P4];decide)
  · exact rX _ _ _
/-- truth of what is a condition -/
def tv (env:List (List Ev))(e:Ex):Bool:=(B0 ⟨env,-1,Kn⟩ e).1.num==1
theorem mK (hS:E8 T V env){e:Ex}(hk:KOK T V e)(h1:Am T V e=1):B0 ⟨env,-1,Kn⟩ e=(D5 (tv env e),0):=by
 obtain ⟨h2,h3⟩:=Tc hS e hk.nodes hk.kind
 rw [F2 hk,h1] at h3
 have h4:=xY hk.nodes h2 h3
 show _=(D5 ((B0 ⟨env,-1,Kn⟩ e).1.num==1),(0:Int))
 rw [←h4,←h2]
theorem vI (hS:E8 T V env){e:Ex}(hk:KOK T V e)(h1:Am T V e=1)(hc:Bx e=0):Kr ⟨env,-1,Kn⟩ e=tv env e:=by
 unfold Kr X4
 rw [if_neg (by rw [hc];decide),mK hS hk h1]
 cases tv env e <;> rfl
/-- the values of a node's parts -/
theorem fA (hS:E8 T V env){e:Ex}(hk:KOK T V e)(ha:e.args≠[]) :
  (B0 ⟨env,-1,Kn⟩ e).1=if e.op==9 then D5 (eqV (((e.args.map fun a=>(B0 ⟨env,-1,Kn⟩ a).1)).headD v0) (((e.args.map fun a=>(B0 ⟨env,-1,Kn⟩ a).1)[1]?).getD v0)) else G1 e.op ((e.args.map fun a=>(B0 ⟨env,-1,Kn⟩ a).1).headD v0).num ((e.args.map fun a=>(B0 ⟨env,-1,Kn⟩ a).1).getLastD v0).num:=by
 have h2:=(Tc hS e hk.nodes hk.kind).1
 rw [Xm hS hk ha] at h2 ⊢
 unfold Kv at h2 ⊢
 by_cases h:(Dl e.op ((e.args.map fun a=>(B0 ⟨env,-1,Kn⟩ a).1).map (·.kind)) != 0)=true
 · rw [if_pos h] at h2;simp only at h2;rw [h2] at h;cases h
 ·
  rw [if_neg h]
  split <;> rfl
theorem rR {e:Ex}(hl:e.args.length=2):e.args = [Ao e,Bi e]:=by
 unfold Ao Bi
 match h:e.args,hl with
 | [a,b],_=>rfl
theorem rP {e:Ex}(hl:e.args.length=1):e.args = [Ao e]:=by
 unfold Ao
 match h:e.args,hl with
 | [a],_=>rfl
theorem gG {e:Ex}(hk:KOK T V e)(h5:5≤e.op)(h:e.op≤11):e.args.length=2:=by
 obtain ⟨_,_,h2⟩:=Hf (Be hk.nodes).1
 unfold D6 at h2
 rw [if_neg (by omega),if_neg (by omega),if_neg (by omega)] at h2
 omega
theorem len1 {e:Ex}(hk:KOK T V e)(h:e.op=12):e.args.length=1:=by
 obtain ⟨_,_,h2⟩:=Hf (Be hk.nodes).1
 rw [h] at h2
 have:D6 12=1:=by decide
 rw [this] at h2;omega
def vl (env:List (List Ev))(e:Ex):Vl:=(B0 ⟨env,-1,Kn⟩ e).1
theorem vl_def (env:List (List Ev))(e:Ex):(B0 ⟨env,-1,Kn⟩ e).1=vl env e:=rfl
theorem P5 (hS:E8 T V env){e:Ex}(hk:KOK T V e)(h5:5≤e.op)(h:e.op≤11):vl env e=if e.op==9 then D5 (eqV (vl env (Ao e)) (vl env (Bi e))) else G1 e.op (vl env (Ao e)).num (vl env (Bi e)).num:=by
 have hl:=gG hk h5 h
 have h1:=fA hS hk (by intro hn;rw [hn] at hl;cases hl)
 rw [rR hl] at h1
 exact h1
theorem val_one (hS:E8 T V env){e:Ex}(hk:KOK T V e)(h:e.op=12):vl env e=D5 ((vl env (Ao e)).num != 1):=by
 have hl:=len1 hk h
 have h1:=fA hS hk (by intro hn;rw [hn] at hl;cases hl)
 rw [rP hl] at h1
 have h2:vl env e=G1 e.op (vl env (Ao e)).num (vl env (Ao e)).num:=by
  refine h1.trans ?_
  rw [if_neg (by rw [h];decide)];rfl
 rw [h2,h];rfl
theorem Mp (b:Bool):((D5 b).num==1)=b:=by cases b <;> rfl
theorem flag_eq (a b:Bool):eqV (D5 a) (D5 b)=(a==b):=by cases a <;> cases b <;> rfl
theorem kP (hS:E8 T V env){e:Ex}(hk:KOK T V e)(h:e.op=12):tv env e = !tv env (Ao e):=by
 show ((vl env e).num==1)=_;rw [val_one hS hk h,Mp];rfl
theorem lQ (hS:E8 T V env){e:Ex}(hk:KOK T V e)(h:e.op=10):tv env e=(tv env (Ao e)&&tv env (Bi e)):=by
 show ((vl env e).num==1)=_;rw [P5 hS hk (by omega) (by omega),h];exact Mp _
theorem yQ (hS:E8 T V env){e:Ex}(hk:KOK T V e)(h:e.op=11):tv env e=(tv env (Ao e)||tv env (Bi e)):=by
 show ((vl env e).num==1)=_;rw [P5 hS hk (by omega) (by omega),h];exact Mp _
theorem Sh (hS:E8 T V env){e:Ex}(hk:KOK T V e)(h:e.op=7):tv env e=decide ((vl env (Ao e)).num<(vl env (Bi e)).num):=by
 show ((vl env e).num==1)=_;rw [P5 hS hk (by omega) (by omega),h];exact Mp _
theorem lB (hS:E8 T V env){e:Ex}(hk:KOK T V e)(h:e.op=8):tv env e=decide ((vl env (Ao e)).num≤(vl env (Bi e)).num):=by
 show ((vl env e).num==1)=_;rw [P5 hS hk (by omega) (by omega),h];exact Mp _
theorem yF (hS:E8 T V env){e:Ex}(hk:KOK T V e)(h:e.op=9):tv env e=eqV (vl env (Ao e)) (vl env (Bi e)):=by
 show ((vl env e).num==1)=_;rw [P5 hS hk (by omega) (by omega),h];exact Mp _
theorem tw_eqB (hS:E8 T V env){e:Ex}(hk:KOK T V e)(h:e.op=9)(h1:Am T V (Ao e)=1):tv env e=(tv env (Ao e)==tv env (Bi e)):=by
 have hl:=gG hk (by omega) (by omega)
 have m0:=A6 (show 0<e.args.length by omega)
 have m1:=Bk (show 1<e.args.length by omega)
 rw [yF hS hk h]
 show eqV (B0 ⟨env,-1,Kn⟩ (Ao e)).1 (B0 ⟨env,-1,Kn⟩ (Bi e)).1=_
 rw [mK hS (A3 hk m0) h1,mK hS (A3 hk m1) (by rw [Im hk h m1];exact h1)]
 exact flag_eq _ _
theorem Ry (hS:E8 T V env){e:Ex}(hk:KOK T V e):(vl env e).kind=Am T V e:=by
 rw [←F2 hk];exact (Tc hS e hk.nodes hk.kind).2
theorem wB (hS:E8 T V env){e:Ex}(hk:KOK T V e)(h:e.op=9)(h1:Am T V (Ao e)=0):tv env e=((vl env (Ao e)).num==(vl env (Bi e)).num):=by
 have hl:=gG hk (by omega) (by omega)
 have m0:=A6 (show 0<e.args.length by omega)
 have m1:=Bk (show 1<e.args.length by omega)
 have k0:=A3 hk m0
 have k1:=A3 hk m1
 rw [yF hS hk h]
 have a0:=(Ry hS k0).trans h1
 have a1:=(Ry hS k1).trans ((Im hk h m1).trans h1)
 have b0:=gD hS k0 a0
 have b1:=gD hS k1 a1
 rw [Bool.eq_iff_iff,nL]
 constructor
 · intro h;rw [h];simp
 ·
  intro h
  have h':(vl env (Ao e)).num=(vl env (Bi e)).num:=by simpa using h
  have c0:(vl env (Ao e)).text = []:=b0
  have c1:(vl env (Bi e)).text = []:=b1
  revert h' a0 a1 c0 c1
  generalize vl env (Ao e)=v
  generalize vl env (Bi e)=w
  intro a0 a1 c0 c1 h'
  cases v;cases w
  simp_all
end

section
variable {T:List Sc} {V:List Va} {env:List (List Ev)}
def Oo (env:List (List Ev))(y:Lit):Bool:=tv env y.cond != y.neg
def kD (env:List (List Ev))(c:List Lit):Bool:=c.all (Oo env)
def Pq (env:List (List Ev))(l:List (List Lit)):Bool:=l.any (kD env)
theorem cl_app (a b:List Lit):kD env (a++b)=(kD env a&&kD env b):=List.all_append
theorem yD (x:List Lit):∀b:List (List Lit),Pq env (b.map fun y=>x++y)=(kD env x&&Pq env b)
  | []=>by simp [Pq]
  | y::r=>by
    show (kD env (x++y)||Pq env (r.map fun y=>x++y))=(kD env x&&(kD env y||Pq env r))
    rw [yD x r,cl_app]
    cases kD env x <;> cases kD env y <;> rfl
theorem yN (a b:List (List Lit)):Pq env (a++b)=(Pq env a||Pq env b):=List.any_append
theorem nH:∀a b:List (List Lit),Pq env (a.flatMap fun x=>b.map fun y=>x++y)=(Pq env a&&Pq env b)
  | [],b=>rfl
  | x::r,b=>by
    rw [List.flatMap_cons,yN,yD,nH r b]
    show _=((kD env x||Pq env r)&&Pq env b)
    cases kD env x <;> cases Pq env r <;> cases Pq env b <;> rfl
theorem O5 {a b:Cs}(h:(En a b).2=true):a.2=true∧b.2=true∧Pq env (En a b).1=(Pq env a.1&&Pq env b.1):=by
  cases h1:(!a.2 || !b.2) with
  | true=>rw [eU h1] at h;cases h
  | false=>
    rw [bG h1] at h ⊢
    cases h2:decide ((256:Int)<(a.1.length:Int)*(b.1.length:Int)) with
    | true=>rw [oE h2] at h;cases h
    | false=>rw [fK h2];exact ⟨(Wo h1).1,(Wo h1).2,nH _ _⟩
theorem oN {a b:Cs}(h:(Je a b).2=true):a.2=true∧b.2=true∧Pq env (Je a b).1=(Pq env a.1||Pq env b.1):=by
  cases h1:((!a.2 || !b.2)||decide ((256:Int)<(a.1.length:Int)+(b.1.length:Int))) with
  | true=>rw [nN h1] at h;cases h
  | false=>
    rw [kA h1]
    rw [Bool.or_eq_false_iff] at h1
    exact ⟨(Wo h1.1).1,(Wo h1.1).2,yN _ _⟩
theorem cs_one (y:Lit):Pq env (Ef [y]).1=Oo env y:=by simp [Pq,Ef,kD]
theorem cs_two (y z:Lit):Pq env (Ef [y,z]).1=(Oo env y||Oo env z):=by simp [Pq,Ef,kD]
theorem Id {e:Ex}(hk:KOK T V e){a:Ex}(ha:a∈e.args)(ho:e.op=10∨e.op=11∨e.op=12):Am T V a=1:=by
 have h1:=Or hk ha
 unfold Mn at h1
 rcases ho with h | h | h <;> rw [h] at h1 <;> simpa using h1
theorem Xb {e:Ex}(hk:KOK T V e)(h0:(e.op==0)=true):tv env e=(e.val.num==1):=by
 unfold tv
 rw [Sv (Be hk.nodes).1 (by simpa using h0)]
theorem Rh (hS:E8 T V env)(e:Ex):KOK T V e→Am T V e=1→∀s,(Db T V e s).2=true→Pq env (Db T V e s).1=(tv env e==s):=by
  refine Ex.Aao (P:=fun e=>KOK T V e→Am T V e=1→∀s,(Db T V e s).2=true→Pq env (Db T V e s).1=(tv env e==s)) (fun e ih hk h1 s hs=>?_) e
  rcases Ll s hk with h | ⟨h,hl⟩ | ⟨h,hl⟩ | ⟨h,hl,h2⟩ | ⟨h,hl,h2,h3⟩ | ⟨_,_,_,h,_⟩
  · rw [Xb hk h]
    cases h2:((e.val.num==1)==s) with
    | true=>rw [Gg h h2];rfl
    | false=>rw [Gc h h2];rfl
  · have h12:e.op=12:=by simpa using h
    have m0:=A6 hl
    rw [Gd hl h] at hs ⊢
    rw [ih _ m0 (A3 hk m0) (Id hk m0 (by omega)) _ hs,kP hS hk h12]
    cases tv env (Ao e) <;> cases s <;> rfl
  · have m0:=A6 (show 0<e.args.length by omega)
    have m1:=Bk hl
    have ho:e.op=10∨e.op=11:=by simpa using h
    have i0:=ih _ m0 (A3 hk m0) (Id hk m0 (by omega)) s
    have i1:=ih _ m1 (A3 hk m1) (Id hk m1 (by omega)) s
    have ht:tv env e=if e.op==10 then (tv env (Ao e)&&tv env (Bi e)) else (tv env (Ao e)||tv env (Bi e)):=by
      rcases ho with ho | ho
      · rw [lQ hS hk ho,ho];rfl
      · rw [yQ hS hk ho,ho];rfl
    rw [ht]
    cases h2:((e.op==10)==s) with
    | true=>
      rw [Gr hl h h2] at hs ⊢
      obtain ⟨a1,a2,a3⟩:=O5 (env:=env) hs
      rw [a3,i0 a1,i1 a2]
      cases h4:(e.op==10) <;> rw [h4] at h2 <;> cases s <;> simp at h2 <;> cases tv env (Ao e) <;> cases tv env (Bi e) <;> rfl
    | false=>
      rw [Gk hl h h2] at hs ⊢
      obtain ⟨a1,a2,a3⟩:=oN (env:=env) hs
      rw [a3,i0 a1,i1 a2]
      cases h4:(e.op==10) <;> rw [h4] at h2 <;> cases s <;> simp at h2 <;> cases tv env (Ao e) <;> cases tv env (Bi e) <;> rfl
  · have m0:=A6 (show 0<e.args.length by omega)
    have m1:=Bk hl
    have h9:e.op=9:=by simpa using h
    have k0:Am T V (Ao e)=1:=by simpa using h2
    have k1:Am T V (Bi e)=1:=by rw [Im hk h9 m1];exact k0
    have i0:=ih _ m0 (A3 hk m0) k0
    have i1:=ih _ m1 (A3 hk m1) k1
    rw [Gf hl h h2] at hs ⊢
    obtain ⟨a1,a2,a3⟩:=oN (env:=env) hs
    obtain ⟨b1,b2,b3⟩:=O5 (env:=env) a1
    obtain ⟨c1,c2,c3⟩:=O5 (env:=env) a2
    rw [a3,b3,c3,i0 _ b1,i1 _ b2,i0 _ c1,i1 _ c2,tw_eqB hS hk h9 k0]
    cases tv env (Ao e) <;> cases tv env (Bi e) <;> cases s <;> rfl
  · have m0:=A6 (show 0<e.args.length by omega)
    have m1:=Bk hl
    have h9:e.op=9:=by simpa using h
    rw [Bool.and_eq_true] at h3
    have k0:Am T V (Ao e)=0:=by simpa using h3.1
    have k1:Am T V (Bi e)=0:=by rw [Im hk h9 m1];exact k0
    have hs0:s=false:=by simpa using h3.2
    have t0:=P1 (A3 hk m0) (A3 hk m1) k0 k1
    have t1:=P1 (A3 hk m1) (A3 hk m0) k1 k0
    rw [Gn h h2 (by rw [Bool.and_eq_true];exact h3),cs_two,wB hS hk h9 k0,hs0]
    unfold Oo
    rw [Sh hS t0 rfl,Sh hS t1 rfl]
    show ((decide ((vl env (Ao e)).num<(vl env (Bi e)).num) != false)||(decide ((vl env (Bi e)).num<(vl env (Ao e)).num) != false))=(((vl env (Ao e)).num==(vl env (Bi e)).num)==false)
    rw [Bool.eq_iff_iff]
    simp
    omega
  · rw [h,cs_one]
    unfold Oo
    cases tv env e <;> cases s <;> rfl
end

section
variable {T:List Sc} {V:List Va} {env:List (List Ev)}
theorem sX {op:Int}(a b:Ex)(h:op=7∨op=8∨op=10∨op=11):By (two op a b)=0:=by
 have hf:Bm (two op a b)=0:=by rcases h with h | h | h | h <;> subst h <;> simp [Bm,two,Dp,isV0,v0]
 unfold By
 rw [hf]
 rcases h with h | h | h | h <;> subst h <;> simp [two,D6,Dp]
theorem sP (a:Ex):By (Pf a)=0:=by
 have hf:Bm (Pf a)=0:=by simp [Bm,Pf,Dp,isV0,v0]
 unfold By
 rw [hf]
 simp [Pf,D6,Dp]
theorem pJ {op:Int}{a b:Ex}(ha:KOK T V a)(hb:KOK T V b)(h:((op=7∨op=8)∧Am T V a=0∧Am T V b=0)∨((op=10∨op=11)∧Am T V a=1∧Am T V b=1)):KOK T V (two op a b):=by
 refine ⟨ha.ty,?_,?_⟩
 ·
  rw [Lf,sX a b (by omega)]
  show Aq C5 [a,b]=0
  simp [Aq,ha.nodes,hb.nodes]
 ·
  rw [Eg]
  show (if [a,b].isEmpty then _ else _:Int×Int).2=0
  have e1:(Cc T V a).2=0:=ha.kind
  have e2:(Cc T V b).2=0:=hb.kind
  have k1:=F2 ha
  have k2:=F2 hb
  rcases h with ⟨ho,h1,h2⟩ | ⟨ho,h1,h2⟩ <;> rw [h1] at k1 <;> rw [h2] at k2 <;> rcases ho with ho | ho <;> subst ho <;> simp [two,Aq,e1,e2,k1,k2,Dl,Mn]
theorem kok_not {a:Ex}(ha:KOK T V a)(h1:Am T V a=1):KOK T V (Pf a):=by
 refine ⟨ha.ty,?_,?_⟩
 ·
  rw [Lf,sP]
  show Aq C5 [a]=0
  simp [Aq,ha.nodes]
 ·
  rw [Eg]
  show (if [a].isEmpty then _ else _:Int×Int).2=0
  have e1:(Cc T V a).2=0:=ha.kind
  have k1:=F2 ha
  rw [h1] at k1
  simp [Pf,Aq,e1,k1,Dl,Mn]
theorem sB (hty:Jx T V)(b:Bool):KOK T V (Er b)∧Am T V (Er b)=1:=by
 have hk:∀b:Bool,Cc T V (Er b)=(1,0):=fun b=>by rw [Eg];cases b <;> rfl
 have h:KOK T V (Er b):=⟨hty,by cases b <;> decide +kernel,by rw [hk]⟩
 exact ⟨h,by rw [←F2 h,hk]⟩
theorem Px {op:Int}(a b:Ex)(h:op=7∨op=8∨op=10∨op=11):KOK T V (two op a b)→Am T V (two op a b)=1:=fun hk=>by
 rw [←F2 hk,(Oq hk (by simp [two])).2.2]
 rcases h with h | h | h | h <;> subst h <;> rfl
theorem rF {a:Ex}(hk:KOK T V (Pf a)):Am T V (Pf a)=1:=by
 rw [←F2 hk,(Oq hk (by simp [Pf])).2.2];rfl
theorem pV (e:Ex):KOK T V e→Am T V e=1→KOK T V (Fh e)∧Am T V (Fh e)=1∧∀env,E8 T V env→tv env (Fh e) = !tv env e:=by
  refine Ex.Aao (P:=fun e=>KOK T V e→Am T V e=1→KOK T V (Fh e)∧Am T V (Fh e)=1∧∀env,E8 T V env→tv env (Fh e) = !tv env e) (fun e ih hk h1=>?_) e
  have hz:=Be hk.nodes
  rw [K3,Vs]
  have two_case:∀(o p:Int),(o=10∧p=11∨o=11∧p=10)→e.op=o→KOK T V (two p (Ql Wh (e.args.map Fh)) (Ye Wh (e.args.map Fh)))∧Am T V (two p (Ql Wh (e.args.map Fh)) (Ye Wh (e.args.map Fh)))=1∧∀env,E8 T V env→tv env (two p (Ql Wh (e.args.map Fh)) (Ye Wh (e.args.map Fh))) = !tv env e:=by
    intro o p hop ho
    have hl:=gG hk (by omega) (by omega)
    have m0:=A6 (show 0<e.args.length by omega)
    have m1:=Bk (show 1<e.args.length by omega)
    rw [Ic _ _ (by omega),It _ _ (by omega)]
    obtain ⟨a1,a2,a3⟩:=ih _ m0 (A3 hk m0) (Id hk m0 (by omega))
    obtain ⟨b1,b2,b3⟩:=ih _ m1 (A3 hk m1) (Id hk m1 (by omega))
    have k:=pJ (op:=p) a1 b1 (.inr ⟨by omega,a2,b2⟩)
    refine ⟨k,Px _ _ (by omega) k,fun env hS=>?_⟩
    rcases hop with ⟨h3,h4⟩ | ⟨h3,h4⟩ <;> subst h4 <;> rw [h3] at ho
    · rw [yQ hS k rfl,lQ hS hk ho]
      show (tv env (Fh (Ao e))||tv env (Fh (Bi e)))=_
      rw [a3 env hS,b3 env hS];cases tv env (Ao e) <;> cases tv env (Bi e) <;> rfl
    · rw [lQ hS k rfl,yQ hS hk ho]
      show (tv env (Fh (Ao e))&&tv env (Fh (Bi e)))=_
      rw [a3 env hS,b3 env hS];cases tv env (Ao e) <;> cases tv env (Bi e) <;> rfl
  have cmp_case:∀(o p:Int),(o=7∧p=8∨o=8∧p=7)→e.op=o→KOK T V (two p (Bi e) (Ao e))∧Am T V (two p (Bi e) (Ao e))=1∧∀env,E8 T V env→tv env (two p (Bi e) (Ao e)) = !tv env e:=by
    intro o p hop ho
    have hl:=gG hk (by omega) (by omega)
    have m0:=A6 (show 0<e.args.length by omega)
    have m1:=Bk (show 1<e.args.length by omega)
    have c:∀{a:Ex},a∈e.args→Am T V a=0:=fun ha=>by
      have h:=Or hk ha
      unfold Mn at h
      rcases hop with ⟨h3,h4⟩ | ⟨h3,h4⟩ <;> rw [ho,h3] at h <;> simpa using h
    have k:=pJ (op:=p) (A3 hk m1) (A3 hk m0) (.inl ⟨by omega,c m1,c m0⟩)
    refine ⟨k,Px _ _ (by omega) k,fun env hS=>?_⟩
    rcases hop with ⟨h3,h4⟩ | ⟨h3,h4⟩ <;> subst h4 <;> rw [h3] at ho
    · rw [lB hS k rfl,Sh hS hk ho]
      show decide ((vl env (Bi e)).num≤(vl env (Ao e)).num) = !decide ((vl env (Ao e)).num<(vl env (Bi e)).num)
      rw [Bool.eq_iff_iff];simp
    · rw [Sh hS k rfl,lB hS hk ho]
      show decide ((vl env (Bi e)).num<(vl env (Ao e)).num) = !decide ((vl env (Ao e)).num≤(vl env (Bi e)).num)
      rw [Bool.eq_iff_iff];simp
  cases c1:e.op==10 with
  | true=>rw [if_pos rfl];exact two_case 10 11 (.inl ⟨rfl,rfl⟩) (by simpa using c1)
  | false=>
  rw [Ck rfl]
  cases c2:e.op==11 with
  | true=>rw [if_pos rfl];exact two_case 11 10 (.inr ⟨rfl,rfl⟩) (by simpa using c2)
  | false=>
  rw [Ck rfl]
  cases c3:e.op==12 with
  | true=>
    rw [if_pos rfl]
    have h12:e.op=12:=by simpa using c3
    have hl:=len1 hk h12
    have m0:=A6 (show 0<e.args.length by omega)
    exact ⟨A3 hk m0,Id hk m0 (by omega),fun env hS=>by rw [kP hS hk h12,Bool.not_not]⟩
  | false=>
  rw [Ck rfl]
  cases c4:e.op==7 with
  | true=>rw [if_pos rfl];exact cmp_case 7 8 (.inl ⟨rfl,rfl⟩) (by simpa using c4)
  | false=>
  rw [Ck rfl]
  cases c5:e.op==8 with
  | true=>rw [if_pos rfl];exact cmp_case 8 7 (.inr ⟨rfl,rfl⟩) (by simpa using c5)
  | false=>
  rw [Ck rfl]
  cases c6:(e.op==0&&e.val.kind==1) with
  | true=>
    rw [if_pos rfl]
    rw [Bool.and_eq_true] at c6
    obtain ⟨k1,k2⟩:=sB hk.ty (e.val.num==0)
    refine ⟨k1,k2,fun env hS=>?_⟩
    rw [Xb k1 rfl,Xb hk c6.1]
    have h2:=Fa (H4 hz.1 (by simpa using c6.1)).1 (by simpa using c6.2)
    have h3:e.val.num=0∨e.val.num=1:=by rw [h2];cases e.val.num==1 <;> simp [D5]
    rcases h3 with h3 | h3 <;> rw [h3] <;> rfl
  | false=>
    rw [Ck rfl]
    have k:=kok_not hk h1
    exact ⟨k,rF k,fun env hS=>kP hS k rfl⟩
theorem sN {e:Ex}(h:C5 e=0):Bx e=0∨Bx e=5∨Bx e=12:=by
 unfold Bx
 split
 · exact .inr (.inl rfl)
 split
 · exact .inr (.inr rfl)
 · exact .inl h
/-! ### Depth of literals -/
def litD (n:Nat)(c:Cs):Prop:=∀x∈c.1,∀y∈x,Ew y.cond≤n
/-! ### Kinds of literals -/
def dC (T:List Sc)(V:List Va)(c:Cs):Prop:=∀x∈c.1,∀y∈x,Am T V y.cond=1
theorem Ra {a b:Cs}(ha:dC T V a)(hb:dC T V b):dC T V (En a b):=by
 unfold En
 split
 · intro x hx;cases hx
 ·
  unfold Mk
  split
  · intro x hx;cases hx
  ·
   intro x hx y hy
   obtain ⟨p,hp,hm⟩:=List.mem_flatMap.1 hx
   obtain ⟨q,hq,rfl⟩:=List.mem_map.1 hm
   rcases List.mem_append.1 hy with h | h
   · exact ha p hp y h
   · exact hb q hq y h
theorem Zy {a b:Cs}(ha:dC T V a)(hb:dC T V b):dC T V (Je a b):=by
 unfold Je
 split
 · intro x hx;cases hx
 ·
  intro x hx y hy
  rcases List.mem_append.1 hx with h | h
  · exact ha x h y hy
  · exact hb x h y hy
theorem Uq {l:List Lit}(h:∀y∈l,Am T V y.cond=1):dC T V (Ef l):=by
 intro x hx y hy
 unfold Ef at hx
 obtain ⟨z,hz,rfl⟩:=List.mem_map.1 hx
 rw [List.mem_singleton.1 hy]
 exact h z hz
theorem lJ (e:Ex):KOK T V e→Am T V e=1→∀s,dC T V (Db T V e s):=by
 refine Ex.Aao (P:=fun e=>KOK T V e→Am T V e=1→∀s,dC T V (Db T V e s)) (fun e ih hk hr s=>?_) e
 rcases Ll s hk with h | ⟨h,hl⟩ | ⟨h,hl⟩ | ⟨h,hl,h1⟩ | ⟨h,hl,h1,h2⟩ | ⟨_,_,_,h,_⟩
 ·
  cases h1:((e.val.num==1)==s) with
  | true=>rw [Gg h h1];intro x hx y hy;rw [List.mem_singleton.1 hx] at hy;cases hy
  | false=>rw [Gc h h1];intro x hx;cases hx
 ·
  have m0:=A6 hl
  rw [Gd hl h];exact ih _ m0 (A3 hk m0) (Id hk m0 (.inr (.inr (by simpa using h)))) _
 ·
  have m0:=A6 (show 0<e.args.length by omega)
  have m1:=Bk hl
  have ho:e.op=10∨e.op=11:=by simpa using h
  have i0:=ih _ m0 (A3 hk m0) (Id hk m0 (by omega)) s
  have i1:=ih _ m1 (A3 hk m1) (Id hk m1 (by omega)) s
  cases h1:((e.op==10)==s) with
  | true=>rw [Gr hl h h1];exact Ra i0 i1
  | false=>rw [Gk hl h h1];exact Zy i0 i1
 ·
  have m0:=A6 (show 0<e.args.length by omega)
  have m1:=Bk hl
  have h9:e.op=9:=by simpa using h
  have k0:Am T V (Ao e)=1:=by simpa using h1
  have k1:Am T V (Bi e)=1:=by rw [Im hk h9 m1];exact k0
  have i0:=ih _ m0 (A3 hk m0) k0
  have i1:=ih _ m1 (A3 hk m1) k1
  rw [Gf hl h h1]
  exact Zy (Ra (i0 _) (i1 _)) (Ra (i0 _) (i1 _))
 ·
  have m0:=A6 (show 0<e.args.length by omega)
  have m1:=Bk hl
  have h9:e.op=9:=by simpa using h
  have h3:=h2
  rw [Bool.and_eq_true] at h3
  have k0:Am T V (Ao e)=0:=by simpa using h3.1
  have k1:Am T V (Bi e)=0:=by rw [Im hk h9 m1];exact k0
  rw [Gn h h1 h2]
  refine Uq fun y hy=>?_
  rcases List.mem_cons.1 hy with rfl | hy
  · exact Px _ _ (.inl rfl) (P1 (A3 hk m0) (A3 hk m1) k0 k1)
  · rw [List.mem_singleton.1 hy];exact Px _ _ (.inl rfl) (P1 (A3 hk m1) (A3 hk m0) k1 k0)
 ·
  rw [h]
  exact Uq fun y hy=>by rw [List.mem_singleton.1 hy];exact hr
end

def Fl (e:Ev):Int:=
 if decide (e.source<0)||decide (8≤e.source) then 32
 else if decide (e.seq<0)||decide (1099511627776<e.seq)||decide (e.time<0)||decide (1099511627776<e.time) then 2 else 0
def T8 (v:Vl)(f:Fi):Int:=if Ap v != 0 then Ap v else if v.kind != f.kind then 9 else 0
def N4:List Vl→List Fi→Int
 | v::r,f::s=>if T8 v f != 0 then T8 v f else N4 r s
 | _,_=>0
def E1 (types:List Sc)(e:Ev):List Fi:=((types[e.type.toNat]?).getD sc0).fields
def Iy (types:List Sc)(e:Ev):Int:=
 if Fl e != 0 then Fl e
 else if decide (e.type<0)||decide ((types.length:Int)≤e.type) then 6
 else if (e.values.length:Int) != ((E1 types e).length:Int) then 15
 else N4 e.values (E1 types e)
def F4 (types:List Sc)(e:Ev):Int:=if Ed types != 0 then Ed types else Iy types e
def X2 (l:List Vl):Bool:=!((l.take 40).any fun v=>decide (128<v.text.length))&&decide (l.length<40)
def lM (l:List Ev):Bool:=!((l.take 20).any fun e=>!X2 e.values)&&decide (l.length≤20)
theorem bQ {α:Type}{l:List α}{k:Nat}(d:α)(h:k<l.length):l[k]? = some ((l[k]?).getD d):=by
 rw [List.getElem?_eq_getElem h];rfl
theorem fD {α:Type}(f:α→Bool){l:List α}{k:Nat}{x:α}(h:l[k]? = some x):(l.take (k+1)).any f=((l.take k).any f||f x):=by rw [Cu h];simp
theorem tR {l:List Vl}{m:List Fi}{k:Nat}{v:Vl}{f:Fi}(hv:l[k]? = some v)(hf:m[k]? = some f):N4 (l.drop k) (m.drop k)=if T8 v f != 0 then T8 v f else N4 (l.drop (k+1)) (m.drop (k+1)):=by
 rw [Ba hv,Ba hf,N4]
theorem sR (l:List Vl):N4 l []=0:=by cases l <;> rfl
theorem ty_in {n:Nat}{t:Int}(h:(decide (t<0)||decide ((n:Int)≤t))=false):0≤t∧t.toNat<n:=by
 simp only [Bool.or_eq_false_iff,decide_eq_false_iff_not] at h
 omega
theorem mM {n m:Nat}(h:((n:Int) != (m:Int))=false):n=m:=by
 have h1:(n:Int)=m:=by simpa using h
 omega
theorem rJ {l:List Vl}{k:Nat}{a:Vl}(ha:l[k]? = some a)(h:(l.take k).any (fun v=>decide (128<v.text.length))=false)(h2:decide ((128:Int)<(a.text.length:Int))=false):(l.take (k+1)).any (fun v=>decide (128<v.text.length))=false:=by
 rw [fD _ ha,h,Bool.false_or,decide_eq_false_iff_not]
 have:=of_decide_eq_false h2;omega
theorem zI {l:List Vl}{k:Nat}{a:Vl}(ha:l[k]? = some a)(hk:k<40)(h2:decide ((128:Int)<(a.text.length:Int))=true):X2 l=false:=by
 have h3:(l.take 40).any (fun v=>decide (128<v.text.length))=true:=by
  rw [List.any_eq_true]
  exact ⟨a,List.mem_iff_getElem?.2 ⟨k,by rw [List.getElem?_take,if_pos hk];exact ha⟩,by have:=of_decide_eq_true h2;simp;omega⟩
 unfold X2;rw [h3];rfl
theorem iL {α:Type}{l:List α}{k n:Nat}(h:(decide ((k:Int)<(l.length:Int))&&decide ((k:Int)<(n:Int)))=false)(hk:k≤n):l.take k=l.take n:=by
 simp only [Bool.and_eq_false_iff,decide_eq_false_iff_not] at h
 by_cases hn:k=n
 · rw [hn]
 · rw [List.take_of_length_le (by omega),List.take_of_length_le (by omega)]
theorem wX {l:List Vl}{k:Nat}(h:(decide ((k:Int)<(l.length:Int))&&decide ((k:Int)<40))=false)(hk:k≤40)(ha:(l.take k).any (fun v=>decide (128<v.text.length))=false):X2 l=decide ((l.length:Int)<40):=by
 rw [iL (n:=40) h hk] at ha
 unfold X2;rw [ha,Bool.not_false,Bool.true_and,decide_eq_decide];omega
theorem zL {l:List Ev}{k:Nat}{a:Ev}(ha:l[k]? = some a)(hk:k<20)(h2:(!X2 a.values)=true):lM l=false:=by
 have h3:(l.take 20).any (fun e=>!X2 e.values)=true:=by
  rw [List.any_eq_true]
  exact ⟨a,List.mem_iff_getElem?.2 ⟨k,by rw [List.getElem?_take,if_pos hk];exact ha⟩,h2⟩
 unfold lM;rw [h3];rfl
theorem xA {l:List Ev}{k:Nat}(h:(decide ((k:Int)<(l.length:Int))&&decide ((k:Int)<20))=false)(hk:k≤20)(ha:(l.take k).any (fun e=>!X2 e.values)=false):lM l=decide ((l.length:Int)≤20):=by
 rw [iL (n:=20) h hk] at ha
 unfold lM;rw [ha,Bool.not_false,Bool.true_and,decide_eq_decide];omega
/-! ### E8 -/
def Ps (T:List Sc)(p:Ev×Va):Bool:=F4 T p.1 != 0||p.1.type != p.2.type
def Iz (T:List Sc)(V:List Va)(l:List Ev):Bool:=if (l.zip V).any (Ps T) then false else ((l.length:Int)==(V.length:Int))
def D2 (l:List Ev):List (List Ev):=l.map fun e=>[e]
theorem nM {α β:Type}{l:List α}{m:List β}{k:Nat}{x:α}{y:β}(hx:l[k]? = some x)(hy:m[k]? = some y):(l.zip m)[k]? = some (x,y):=by
 rw [List.getElem?_zip_eq_some];exact ⟨hx,hy⟩
theorem zip_end {α β:Type}{l:List α}{m:List β}{k:Nat}(h:(decide ((k:Int)<(l.length:Int))&&decide ((k:Int)<(m.length:Int)))=false):(l.zip m).take k=l.zip m:=by
 simp only [Bool.and_eq_false_iff,decide_eq_false_iff_not] at h
 exact List.take_of_length_le (by rw [List.length_zip];omega)
theorem iU:∀{l:List Vl} {m:List Fi},l.length=m.length→N4 l m=0→∀(k:Nat) (f:Fi),m[k]? = some f→∃w,l[k]? = some w∧mI w f.kind
  | [],[],_,_,k,f,h=>by simp at h
  | [],_::_,h,_,_,_,_=>by simp at h
  | _::_,[],h,_,_,_,_=>by simp at h
  | v::r,g::s,hl,h,k,f,hf=>by
    rw [N4] at h
    cases h1:(T8 v g != 0) with
    | true=>rw [if_pos h1] at h;rw [h] at h1;cases h1
    | false=>
      rw [Ck h1] at h
      cases k with
      | zero=>
        simp only [List.getElem?_cons_zero,Option.some.injEq] at hf
        subst hf
        refine ⟨v,rfl,?_⟩
        unfold T8 at h1
        cases h2:(Ap v != 0) with
        | true=>rw [if_pos h2] at h1;rw [h1] at h2;cases h2
        | false=>
          rw [Ck h2] at h1
          cases h3:(v.kind != g.kind) with
          | true=>rw [if_pos h3] at h1;cases h1
          | false=>exact ⟨by simpa using h3,by simpa using h2⟩
      | succ k=>exact iU (by simpa using hl) h k f (by simpa using hf)
theorem mO {T:List Sc}{e:Ev}(h:Iy T e=0):∃s,T[e.type.toNat]? = some s∧Wp s e:=by
  unfold Iy at h
  cases h1:(Fl e != 0) with
  | true=>rw [if_pos h1] at h;rw [h] at h1;cases h1
  | false=>
    rw [Ck h1] at h
    cases h2:(decide (e.type<0)||decide ((T.length:Int)≤e.type)) with
    | true=>rw [if_pos h2] at h;cases h
    | false=>
      rw [Ck h2] at h
      cases h3:((e.values.length:Int) != ((E1 T e).length:Int)) with
      | true=>rw [if_pos h3] at h;cases h
      | false=>
        rw [Ck h3] at h
        have hs:=bQ sc0 (ty_in h2).2
        exact ⟨_,hs,mM h3,iU (mM h3) h⟩
theorem U7 {T:List Sc}{e:Ev}(h:F4 T e=0):Iy T e=0:=by
 unfold F4 at h
 cases h1:(Ed T != 0) with
 | true=>rw [if_pos h1] at h;rw [h] at h1;cases h1
 | false=>rwa [Ck h1] at h
theorem Uo {T:List Sc}{V:List Va}{l:List Ev}(h:Iz T V l=true):l.length=V.length∧∀(i:Nat) (v:Va),V[i]? = some v→∃e,l[i]? = some e∧F4 T e=0∧e.type=v.type:=by
  unfold Iz at h
  cases h1:(l.zip V).any (Ps T) with
  | true=>rw [if_pos h1] at h;cases h
  | false=>
    rw [Ck h1] at h
    have hl : l.length = V.length := by have : (l.length : Int) = V.length := by simpa using h
                                        omega
    refine ⟨hl,fun i v hv=>?_⟩
    have hi:=Bb hv
    have hx:l[i]? = some (l[i]'(by omega)):=List.getElem?_eq_getElem (by omega)
    have h2:=Bool.eq_false_iff.2 (List.any_eq_false.1 h1 _ (List.mem_of_getElem? (nM hx hv)))
    unfold Ps at h2
    rw [Bool.or_eq_false_iff] at h2
    exact ⟨_,hx,by simpa using h2.1,by simpa using h2.2⟩
theorem zF {T:List Sc}{V:List Va}{l:List Ev}(h:Iz T V l=true):E8 T V (D2 l):=by
 obtain ⟨hl,h1⟩:=Uo h
 refine ⟨by simp [D2,hl],fun i v hv=>?_⟩
 obtain ⟨e,he,hc,ht⟩:=h1 i v hv
 obtain ⟨s,hs,hse⟩:=mO (U7 hc)
 exact ⟨s,e,by rw [←ht];exact hs,by simp [D2,he],hse⟩
theorem jH (l:List Ev):∀x∈D2 l,x.length≤1048576:=fun x hx=>by
 obtain ⟨e,_,rfl⟩:=List.mem_map.1 hx
 exact (by decide:1≤1048576)
/-! ### The law's scene -/
def Oh (T:List Sc)(V:List Va)(l:List Ev)(e:Ex):Bool:=(((eX T V [e]&&lM l)&&(Ed T==0))&&Iz T V l)&&(Ec T V e==0)
theorem eP {T:List Sc}{V:List Va}{l:List Ev}{e:Ex}(h:Oh T V l e=true):eX T V [e]=true∧lM l=true∧Ed T=0∧Iz T V l=true∧Ec T V e=0:=by
 unfold Oh at h
 simp only [Bool.and_eq_true,beq_iff_eq] at h
 exact ⟨h.1.1.1.1,h.1.1.1.2,h.1.1.2,h.1.2,h.2⟩

/-- some of what is known, the rest is not -/
structure Half (env kn:List (List Ev)):Prop where
 some:∀v:Int,Bv kn v=Bv env v∨Bv kn v = []
/-- the times of the events are small -/
def nJ (env:List (List Ev)):Prop:=∀l∈env,∀ev∈l,Ap ⟨0,ev.time,[]⟩=0
section
variable {T:List Sc} {V:List Va} {env kn:List (List Ev)}
/-- the event of a variable that is read -/
theorem Za (hS:E8 T V env)(hT:nJ env){e:Ex}(hk:KOK T V e)(ho:(e.op==1||e.op==2)=true) :
  ∃ev,Bv env e.var = [ev]∧(Lz e ev).2=0∧Ap (Lz e ev).1=0∧B0 ⟨env,-1,Kn⟩ e=((Lz e ev).1,0):=by
 have hz:=(Be hk.nodes).1
 have hvr:=Mw hz
 have hfr:=J2 hz
 have hop:e.op=1∨e.op=2:=by simpa using ho
 have ha:e.args = []:=X8 hz (by omega)
 have hkk:=hk.kind
 rw [Sq hk (by omega)] at hkk
 unfold F7 at hkk
 have h0:¬(e.op==0)=true:=by simp;omega
 rw [if_neg h0] at hkk
 by_cases h1:decide ((V.length:Int)≤e.var)=true
 · rw [if_pos h1] at hkk;cases hkk
 rw [if_neg h1] at hkk
 have hlt:e.var<(V.length:Int):=by simp at h1;omega
 obtain ⟨v,hv⟩:=H0 (l:=V) hvr.1 hlt
 obtain ⟨s,ev,hs,hev,hse⟩:=hS.2 _ v hv
 have hel:e.var<(env.length:Int):=by rw [hS.1];exact hlt
 have hevs:Bv env e.var = [ev]:=tS hvr.1 hev
 have hown:(e.var != -1)=true:=by simp;omega
 refine ⟨ev,hevs,?_⟩
 rw [Mq ha,Mt hevs hown h0 (by omega) (by omega)]
 rcases hop with hop | hop
 ·
  have hfl:Fu T V e.var=s.fields:=cC hv hs
  rw [hfl,if_neg (by simp [hop])] at hkk
  by_cases h4:decide ((s.fields.length:Int)≤e.field)=true
  · rw [if_pos h4] at hkk;cases hkk
  obtain ⟨f,hf⟩:=H0 (l:=s.fields) hfr (by simp at h4;omega)
  obtain ⟨w,hw,hgw⟩:=hse.2 _ f hf
  have hr:Lz e ev=(w,0):=by
   unfold Lz
   rw [if_pos (by simp [hop]),if_neg (by rw [hse.1];exact h4),hw]
   simp [hgw.2]
  rw [hr]
  refine ⟨rfl,hgw.2,?_⟩
  have hfs:Dq ev e.field=(w,0):=by
   unfold Dq
   rw [if_neg (by rw [hse.1];exact h4),hw];rfl
  unfold G8
  rw [if_neg (by simp [hop]),hfs,if_pos (by rfl),if_neg (by rw [hgw.2];decide)]
 ·
  have ht:=hT _ (List.mem_of_getElem? hev) ev (List.mem_cons_self ..)
  have hr:Lz e ev=(⟨0,ev.time,[]⟩,0):=by
   unfold Lz
   rw [if_neg (by simp [hop]),ht]
  rw [hr]
  refine ⟨rfl,ht,?_⟩
  unfold G8
  rw [if_pos (by simp [hop])]
end
/-! ### oL -/
def readsN:Ex→Nat:=Rt fun e ns=>(if e.op==1||e.op==2 then 1 else 0)+ns.sum
/-! ### What the law leaves out -/
def halfS (l:List (List Ev)):Nat→List (List Ev)
 | 0=>l
 | k+1=>if k % 2=1 then (halfS l k).set k [] else halfS l k

/-- events that suit, with times within the limits -/
structure EnvOK (T:List Sc) (V:List Va) (env:List (List Ev)):Prop where
 suits:E8 T V env
 times:∀l∈env,∀ev∈l,0≤ev.time∧ev.time≤1099511627776
theorem EnvOK.small {T:List Sc}{V:List Va}{env:List (List Ev)}(h:EnvOK T V env):nJ env:=fun l hl ev hev=>by
 have:=h.times l hl ev hev
 unfold Ap Ea
 simp
 omega
section
variable {T:List Sc} {V:List Va} {env:List (List Ev)}
abbrev Tk (env:List (List Ev))(t:Tm):Int:=(vl env (Hp t)).num
theorem Tt {v:Vl}(h:Ap v=0)(hk:v.kind=0∨v.kind=1) : -1099511627776≤v.num∧v.num≤1099511627776:=by
 rcases hk with hk | hk
 · exact (F5 h hk).2
 ·
  have:=Fa h hk
  rw [this];cases v.num==1 <;> simp [D5]
/-- what a term is worth -/
theorem Om (hE:EnvOK T V env){e:Ex}(hk:KOK T V e)(ho:(e.op==1||e.op==2)=true) :
  ((e.op==2)=true→0≤(vl env e).num∧(vl env e).num≤1099511627776)∧Ap (vl env e)=0∧(vl env e).kind=Am T V e:=by
 obtain ⟨ev,h1,h2,h3,h4⟩:=Za hE.suits hE.small hk ho
 refine ⟨fun h=>?_,?_,Ry hE.suits hk⟩
 ·
  have hm:Bv env e.var∈env:=cY (by rw [h1];exact Nat.one_pos)
  have ht:=hE.times _ hm ev (by rw [h1];exact List.mem_cons_self ..)
  have:vl env e=⟨0,ev.time,[]⟩:=by
   show (B0 _ e).1=_
   rw [h4]
   unfold Lz
   rw [if_neg (by simp at h ⊢;omega)]
  rw [this];exact ht
 ·
  show Ap (B0 _ e).1=0
  rw [h4];exact h3
/-! ### Sums -/
def X1 (τ:Tm→Int)(ts:List (Tm×Int)):Int:=(ts.map fun p=>p.2*τ p.1).sum
theorem iH (τ:Tm→Int)(t:Tm)(b:Int):∀ts:List (Tm×Int),X1 τ (Io t b ts)=X1 τ ts+b*τ t
  | []=>by simp [Io,X1]
  | p::r=>by
    rw [Io]
    split
    · rename_i h
      subst h
      simp only [X1,List.map_cons,List.sum_cons,Int.add_mul]
      omega
    · have ih:=iH τ t b r
      simp only [X1,List.map_cons,List.sum_cons] at ih ⊢
      omega
def tX (τ:Tm→Int)(s:Su):Int:=X1 τ s.ts+s.rest
theorem oC {x:Int}(h : -9223372036854775808≤x∧x≤9223372036854775807):IntKind.i64.wrap x=x:=IntWalk.i64_in x h
theorem R0 {e:Ex}(hk:KOK T V e)(ho:e.op=5∨e.op=6){a:Ex}(ha:a∈e.args):Am T V a=0:=by
 have h:=Or hk ha
 unfold Mn at h
 rcases ho with ho | ho <;> rw [ho] at h <;> simpa using h
/-- linear sums are worth what is summed -/
theorem oM (hE:EnvOK T V env)(e:Ex):KOK T V e→Am T V e=0→At e≤64→∀{b:Int} {s:Su},(Bp e b s).2=true→
    tX (Tk env) (Bp e b s).1=tX (Tk env) s+b*(vl env e).num∧-(At e:Int)*1099511627776≤(vl env e).num∧(vl env e).num≤(At e:Int)*1099511627776:=by
  refine Ex.Aao (P:=fun e=>KOK T V e→Am T V e=0→At e≤64→∀{b:Int} {s:Su},(Bp e b s).2=true→
    tX (Tk env) (Bp e b s).1=tX (Tk env) s+b*(vl env e).num∧-(At e:Int)*1099511627776≤(vl env e).num∧(vl env e).num≤(At e:Int)*1099511627776) (fun e ih hk h0 hs b s h=>?_) e
  have hz:=Be hk.nodes
  have hp:1≤At e:=by rw [D7];omega
  rcases O7 hz.1 with c | ⟨c,c1⟩ | ⟨c,hl⟩ | ⟨c,c1,c2,c3⟩
  · have hc:e.op=0:=by simpa using c
    have hv:(vl env e)=e.val:=by show (B0 _ e).1=_;rw [Sv hz.1 hc]
    have hn:=Ti hz.1 hc
    rw [Fx c,hv]
    refine ⟨by simp only [tX];omega,?_,?_⟩
    · have:(1:Int)≤At e:=by omega
      omega
    · have:(1:Int)≤At e:=by omega
      omega
  · obtain ⟨_,h2,h3⟩:=Om hE hk c1
    have hn:=Tt h2 (.inl (h3.trans h0))
    rw [B8 c c1]
    refine ⟨?_,by omega,by omega⟩
    simp only [tX]
    rw [iH]
    have:Tk env (D4 e)=(vl env e).num:=by unfold Tk;rw [K7 hz.1 c1]
    rw [this];omega
  · have ho:e.op=5∨e.op=6:=by simpa using c
    have m0:=A6 (show 0<e.args.length by omega)
    have m1:=Bk hl
    have hsz:=Dy hl
    have k0:=R0 hk ho m0
    have k1:=R0 hk ho m1
    have hv:=P5 hE.suits hk (by omega) (by omega)
    have c9:¬(e.op==9)=true:=by simp;omega
    rw [if_neg c9] at hv
    have key:∀c:Int,(e.op=5∧c=b)∨(e.op=6∧c=0-b)→tX (Tk env) (Bp e b s).1=tX (Tk env) s+b*(vl env (Ao e)).num+c*(vl env (Bi e)).num∧
        (-(At (Ao e):Int)*1099511627776≤(vl env (Ao e)).num∧(vl env (Ao e)).num≤(At (Ao e):Int)*1099511627776)∧(-(At (Bi e):Int)*1099511627776≤(vl env (Bi e)).num∧(vl env (Bi e)).num≤(At (Bi e):Int)*1099511627776):=by
      intro c hc
      rw [Ka hl hc] at h ⊢
      cases h1:(Bp (Ao e) b s).2 with
      | false=>rw [h1] at h;cases h
      | true=>
        rw [h1] at h
        obtain ⟨a1,a2,a3⟩:=ih _ m0 (A3 hk m0) k0 (by omega) (b:=b) (s:=s) h1
        obtain ⟨b1,b2,b3⟩:=ih _ m1 (A3 hk m1) k1 (by omega) (b:=c) (s:=(Bp (Ao e) b s).1) h
        refine ⟨?_,⟨a2,a3⟩,⟨b2,b3⟩⟩
        show tX (Tk env) (Bp (Bi e) c (Bp (Ao e) b s).1).1=_
        rw [b1,a1]
    rcases ho with ho | ho
    · obtain ⟨a1,⟨a2,a3⟩,⟨a4,a5⟩⟩:=key b (.inl ⟨ho,rfl⟩)
      have hw:(vl env e).num=(vl env (Ao e)).num+(vl env (Bi e)).num:=by
        rw [hv,ho]
        show IntKind.i64.wrap _=_
        exact oC (by omega)
      rw [a1,hw,Int.mul_add]
      refine ⟨by omega,by omega,by omega⟩
    · obtain ⟨a1,⟨a2,a3⟩,⟨a4,a5⟩⟩:=key (0-b) (.inr ⟨ho,rfl⟩)
      have hw:(vl env e).num=(vl env (Ao e)).num-(vl env (Bi e)).num:=by
        rw [hv,ho]
        show IntKind.i64.wrap _=_
        exact oC (by omega)
      rw [a1,hw,Int.mul_sub,Int.sub_mul,Int.zero_mul]
      refine ⟨by omega,by omega,by omega⟩
  · rw [G3 c c1 c2 c3] at h;cases h
theorem P3 {τ:Tm→Int}:∀{ts:List (Tm×Int)} {p m p' m':List Tm},Dv ts p m=some (p',m')→X1 τ ts+(p.map τ).sum-(m.map τ).sum=(p'.map τ).sum-(m'.map τ).sum
  | [],p,m,p',m',h=>by
    rw [Dv] at h;cases h;simp [X1]
  | t::r,p,m,p',m',h=>by
    rw [Dv] at h
    by_cases h0:(t.2==0)=true
    · rw [if_pos h0] at h
      have:=P3 (τ:=τ) h
      have e0:t.2=0:=by simpa using h0
      simp only [X1,List.map_cons,List.sum_cons,e0,Int.zero_mul] at this ⊢;omega
    · rw [if_neg h0] at h
      by_cases h1:(t.2==1)=true
      · rw [if_pos h1] at h
        have:=P3 (τ:=τ) h
        have e1:t.2=1:=by simpa using h1
        simp only [X1,List.map_cons,List.sum_cons,e1,Int.one_mul,List.map_append,List.map_nil,List.sum_append,List.sum_nil] at this ⊢;omega
      · rw [if_neg h1] at h
        by_cases h2:(t.2 == -1)=true
        · rw [if_pos h2] at h
          have:=P3 (τ:=τ) h
          have e2:t.2 = -1:=by simpa using h2
          simp only [X1,List.map_cons,List.sum_cons,e2,List.map_append,List.map_nil,List.sum_append,List.sum_nil] at this ⊢;omega
        · rw [if_neg h2] at h;cases h
def gP (τ:Tm→Int)(l:List Tm):Int:=(l.map τ).sum
/-- a difference is worth what is subtracted -/
theorem jS (hE:EnvOK T V env){a b:Ex}(ha:KOK T V a)(hb:KOK T V b)(ka:Am T V a=0)(kb:Am T V b=0)(hs:At a+At b≤64)(h:(Ci a b).2=true) :
    (vl env a).num-(vl env b).num=gP (Tk env) (Ci a b).1.plus-gP (Tk env) (Ci a b).1.minus+(Ci a b).1.rest∧(Ci a b).1.plus.length≤1∧(Ci a b).1.minus.length≤1:=by
  unfold Ci at h ⊢
  cases h1:(Bp a 1 Kx).2 with
  | false=>rw [h1] at h;cases h
  | true=>
    rw [h1] at h
    cases h2:(Bp b (-1) (Bp a 1 Kx).1).2 with
    | false=>rw [h2] at h;cases h
    | true=>
      rw [h2] at h
      simp only [Bool.not_true,Bool.false_eq_true,if_false] at h ⊢
      obtain ⟨a1,_,_⟩:=oM hE a ha ka (by omega) (b:=1) (s:=Kx) h1
      obtain ⟨b1,_,_⟩:=oM hE b hb kb (by omega) (b:=-1) h2
      unfold Sj at h ⊢
      cases hp:Dv (Bp b (-1) (Bp a 1 Kx).1).1.ts [] [] with
      | none=>rw [hp] at h;cases h
      | some q=>
        obtain ⟨p,m⟩:=q
        rw [hp] at h
        simp only [Bool.and_eq_true,decide_eq_true_eq] at h ⊢
        have h3:=P3 (τ:=Tk env) hp
        refine ⟨?_,by omega,by omega⟩
        have h4:tX (Tk env) Kx=0:=rfl
        simp only [tX] at a1 b1
        simp only [tX] at h4
        simp only [gP,List.map_nil,List.sum_nil] at h3 ⊢
        omega
end
end Go.Proofs.YtkddpedfbicbeaaGreatDoor
