/-
  Several texts in one: S30, S32, S34, S35, S36, S37, S39, S42. No condition.
-/
import Derived.Test.YtkddpedfbicbeaaGreatDoorK10
import Derived.Test.YtkddpedfbicbeaaGreatDoorK02
set_option linter.unusedVariables false
set_option linter.unusedSimpArgs false
namespace Go.Proofs.YtkddpedfbicbeaaGreatDoor
open Go Go.Aw
section
variable {T:List Sc} {V:List Va}
def Jl (T:List Sc)(V:List Va)(n:Nat)(c:Cs):Prop:=∀x∈c.1,∀y∈x,KOK T V y.cond∧At y.cond≤n
theorem Km {n m:Nat}{c:Cs}(h:Jl T V n c)(hm:n≤m):Jl T V m c:=fun x hx y hy=>⟨(h x hx y hy).1,Nat.le_trans (h x hx y hy).2 hm⟩
theorem Mm {n:Nat}{a b:Cs}(ha:Jl T V n a)(hb:Jl T V n b):Jl T V n (En a b):=by
 unfold En
 split
 · intro x hx;cases hx
 ·
  unfold Ma
  split
  · intro x hx;cases hx
  ·
   intro x hx y hy
   obtain ⟨p,hp,hm⟩:=List.mem_flatMap.1 hx
   obtain ⟨q,hq,rfl⟩:=List.mem_map.1 hm
   rcases List.mem_append.1 hy with h | h
   · exact ha p hp y h
   · exact hb q hq y h
theorem eU {n:Nat}{a b:Cs}(ha:Jl T V n a)(hb:Jl T V n b):Jl T V n (Jh a b):=by
 unfold Jh
 split
 · intro x hx;cases hx
 ·
  intro x hx y hy
  rcases List.mem_append.1 hx with h | h
  · exact ha x h y hy
  · exact hb x h y hy
theorem Wr {n:Nat}{l:List Lit}(h:∀y∈l,KOK T V y.cond∧At y.cond≤n):Jl T V n (Eg l):=by
 intro x hx y hy
 unfold Eg at hx
 obtain ⟨z,hz,rfl⟩:=List.mem_map.1 hx
 rw [List.mem_singleton.1 hy]
 exact h z hz
theorem Pv {a b:Ex}(ha:KOK T V a)(hb:KOK T V b)(ka:Am T V a=0)(kb:Am T V b=0):KOK T V (two 7 a b):=by
 refine ⟨ha.ty,?_,?_⟩
 ·
  rw [Lc]
  have h1:By (two 7 a b)=0:=by
   have hf:Bm (two 7 a b)=0:=by simp [Bm,two,Dp,isV0,v0]
   unfold By
   rw [hf]
   simp [two,D6,Dp]
  rw [h1]
  show Aq C4 [a,b]=0
  simp [Aq,ha.nodes,hb.nodes]
 ·
  rw [Ei]
  show (if [a,b].isEmpty then _ else _:Int×Int).2=0
  have e1:(Cc T V a).2=0:=ha.kind
  have e2:(Cc T V b).2=0:=hb.kind
  have k1:(Cc T V a).1=0:=by rw [F4 ha];exact ka
  have k2:(Cc T V b).1=0:=by rw [F4 hb];exact kb
  simp [two,Aq,e1,e2,k1,k2,Dk,Mo]
theorem iU (a b:Ex):At (two 7 a b)=1+At a+At b:=by
 rw [D7];simp [two];omega
theorem Pw (e:Ex):KOK T V e→∀s,Jl T V (At e) (Dc T V e s):=by
 refine Ex.Abb (P:=fun e=>KOK T V e→∀s,Jl T V (At e) (Dc T V e s)) (fun e ih hk s=>?_) e
 rcases Lo s hk with h | ⟨h,hl⟩ | ⟨h,hl⟩ | ⟨h,hl,h1⟩ | ⟨h,hl,h1,h2⟩ | ⟨_,_,_,h,_⟩
 ·
  cases h1:((e.val.num==1)==s) with
  | true=>rw [Gg h h1];intro x hx y hy;rw [List.mem_singleton.1 hx] at hy;cases hy
  | false=>rw [Ge h h1];intro x hx;cases hx
 ·
  rw [Gl hl h]
  exact Km (ih _ (A6 hl) (A3 hk (A6 hl)) _) (Nat.le_of_lt (uY hl))
 ·
  have m0:=A6 (show 0<e.args.length by omega)
  have m1:=Bk hl
  have hs:=Dy hl
  have i0:=Km (ih _ m0 (A3 hk m0) s) (show At (Ao e)≤At e by omega)
  have i1:=Km (ih _ m1 (A3 hk m1) s) (show At (Bi e)≤At e by omega)
  cases h1:((e.op==10)==s) with
  | true=>rw [Gf hl h h1];exact Mm i0 i1
  | false=>rw [Gd hl h h1];exact eU i0 i1
 ·
  have m0:=A6 (show 0<e.args.length by omega)
  have m1:=Bk hl
  have hs:=Dy hl
  have i0:=fun t=>Km (ih _ m0 (A3 hk m0) t) (show At (Ao e)≤At e by omega)
  have i1:=fun t=>Km (ih _ m1 (A3 hk m1) t) (show At (Bi e)≤At e by omega)
  rw [Gc hl h h1]
  exact eU (Mm (i0 _) (i1 _)) (Mm (i0 _) (i1 _))
 ·
  have m0:=A6 (show 0<e.args.length by omega)
  have m1:=Bk hl
  have hs:=Dy hl
  have h9:e.op=9:=by simpa using h
  have k0:Am T V (Ao e)=0:=by rw [Bool.and_eq_true] at h2;simpa using h2.1
  have k1:Am T V (Bi e)=0:=by rw [Im hk h9 m1];exact k0
  rw [Gj h h1 h2]
  refine Wr fun y hy=>?_
  rcases List.mem_cons.1 hy with rfl | hy
  · exact ⟨Pv (A3 hk m0) (A3 hk m1) k0 k1,by simp only;rw [iU];omega⟩
  ·
   rw [List.mem_singleton.1 hy]
   exact ⟨Pv (A3 hk m1) (A3 hk m0) k1 k0,by simp only;rw [iU];omega⟩
 ·
  rw [h]
  exact Wr fun y hy=>by rw [List.mem_singleton.1 hy];exact ⟨hk,Nat.le_refl _⟩
end
section
variable (T:List Sc) (V:List Va)
def oA (c:List Lit):List Ev:=yS T V (Ej T V c).1 c (Ln T V c)
def Zb:Int→List (List Lit)→Int×List Ev
 | out,[]=>(out,[])
 | out,c::r=>if !Qq T V c&&decide ((c.length:Int)≤256) then Zb out r else if Lw T V c then (1,oA T V c) else Zb 0 r
def B5 (c:Cs):Int×List Ev:=if !c.2 then (0,[]) else Zb T V 2 c.1
def Ef (es:List Ex):Int:=if (Dd T V (Er true)).2 != 0 then (Dd T V (Er true)).2 else if decide (256<(es.length:Int)) then 5 else Aq (Ec T V) es
def Kg (es:List Ex)(c:Cs):Cs:=es.foldl (fun c e=>En c (Dc T V e true)) c
/-- Possible: the verdict, the events, the error -/
def B3 (es:List Ex):Int×List Ev×Int:=if Ef T V es != 0 then (0,[],Ef T V es) else ((B5 T V (Kg T V es ([[]],true))).1,(B5 T V (Kg T V es ([[]],true))).2,0)
def K5 (a b:Ex):Cs:=En (Dc T V a true) (Dc T V b false)
def Db (a b:Ex):Int×Int:=if Ef T V [a,b] != 0 then (0,Ef T V [a,b]) else if (B5 T V (K5 T V a b)).1==1 then (2,0) else if (B5 T V (K5 T V a b)).1==2 then (1,0) else ((B5 T V (K5 T V a b)).1,0)
end
section
variable {T:List Sc} {V:List Va}
theorem jP {o:Int}{c:List Lit}{r:List (List Lit)}(h:(!Qq T V c&&decide ((c.length:Int)≤256))=true):Zb T V o (c::r)=Zb T V o r:=by rw [Zb,if_pos h]
theorem nM {o:Int}{c:List Lit}{r:List (List Lit)}(h:(!Qq T V c&&decide ((c.length:Int)≤256))=false)(h2:Lw T V c=true):Zb T V o (c::r)=(1,oA T V c):=by rw [Zb,Ck h,if_pos h2]
theorem uK {o:Int}{c:List Lit}{r:List (List Lit)}(h:(!Qq T V c&&decide ((c.length:Int)≤256))=false)(h2:Lw T V c=false):Zb T V o (c::r)=Zb T V 0 r:=by rw [Zb,Ck h,Ck h2]
theorem Pn {c:List Lit}(h:Lw T V c=true):Ja (C9 T V c)=true∧decide ((c.length:Int)≤256)=true:=by
 unfold Lw at h
 rw [Bool.and_eq_true,Bool.and_eq_true] at h
 exact h.2
theorem xQ {c:List Lit}(hl:Vk T V c)(h:(!Qq T V c&&decide ((c.length:Int)≤256))=false)(h2:Lw T V c=true):(Ci T V c).ts.length+1≤(Ln T V c).length:=by
  obtain ⟨h3,h4⟩:=Pn h2
  rw [h4,Bool.and_true] at h
  have hf:(!Ja (C9 T V c))=false:=by rw [h3];rfl
  have hk:Qq T V c=true:=by simpa using h
  rw [bR hf,Bool.and_eq_true] at hk
  rw [lJ hf]
  have hok:=hk.2
  rw [oC] at hok ⊢
  cases hz:I6 (zn (zN T V c) (C9 T V c).bs) != 0 with
  | true=>rw [Wl hz] at hok;cases hok
  | false=>
    cases he:decide ((Em (zn (zN T V c) (C9 T V c).bs)).2<0) with
    | false=>rw [dQ hz he] at hok;cases hok
    | true=>
      rw [V5 hz he]
      have:=(kZ (nV hz (Px hl))).s
      rw [List.length_map,this]
      exact Nat.le_refl _
theorem eD {es:List Ex}(h:((Dd T V (Er true)).2 != 0)=true):Ef T V es=(Dd T V (Er true)).2:=by rw [Ef,if_pos h]
theorem oY {es:List Ex}(h:((Dd T V (Er true)).2 != 0)=false)(h2:decide ((256:Int)<(es.length:Int))=true):Ef T V es=5:=by rw [Ef,Ck h,if_pos h2]
theorem bX {es:List Ex}(h:((Dd T V (Er true)).2 != 0)=false)(h2:decide ((256:Int)<(es.length:Int))=false):Ef T V es=Aq (Ec T V) es:=by rw [Ef,Ck h,Ck h2]
theorem W7 {es:List Ex}(h:(Ef T V es != 0)=false):es.length≤256∧∀e∈es,KC T V e∧Am T V e=1:=by
  have h0:Ef T V es=0:=by simpa using h
  cases h1:((Dd T V (Er true)).2 != 0) with
  | true=>rw [eD h1] at h0;rw [h0] at h1;cases h1
  | false=>
    cases h2:decide ((256:Int)<(es.length:Int)) with
    | true=>rw [oY h1 h2] at h0;cases h0
    | false=>
      rw [bX h1 h2] at h0
      have h2':=of_decide_eq_false h2
      exact ⟨by omega,fun e he=>S7 (by rw [Q5 h0 e he];rfl)⟩
theorem gF {es:List Ex}(h:(Ef T V es != 0)=false):Jv T V:=by
 have h0:Ef T V es=0:=by simpa using h
 cases h1:((Dd T V (Er true)).2 != 0) with
 | true=>rw [eD h1] at h0;rw [h0] at h1;cases h1
 | false=>exact (jD (by simpa using h1)).kok.ty
theorem Poss_1 {es:List Ex}(h:(Ef T V es != 0)=true):B3 T V es=(0,[],Ef T V es):=by rw [B3,if_pos h]
theorem vZ {es:List Ex}{c:Cs}(h:(Ef T V es != 0)=false)(h2:Kg T V es ([[]],true)=c):B3 T V es=((B5 T V c).1,(B5 T V c).2,0):=by rw [B3,Ck h,h2]
theorem Yw {c:Cs}(h:(!c.2)=true):B5 T V c=(0,[]):=if_pos h
theorem cQ {c:Cs}(h:(!c.2)=false):B5 T V c=Zb T V 2 c.1:=Ck h
theorem Imp_1 {a b:Ex}(h:(Ef T V [a,b] != 0)=true):Db T V a b=(0,Ef T V [a,b]):=by rw [Db,if_pos h]
theorem Imp_2 {a b:Ex}(h:(Ef T V [a,b] != 0)=false)(h2:((B5 T V (K5 T V a b)).1==1)=true):Db T V a b=(2,0):=by rw [Db,Ck h,if_pos h2]
theorem Imp_3 {a b:Ex}(h:(Ef T V [a,b] != 0)=false)(h2:((B5 T V (K5 T V a b)).1==1)=false)(h3:((B5 T V (K5 T V a b)).1==2)=true):Db T V a b=(1,0):=by rw [Db,Ck h,Ck h2,if_pos h3]
theorem Imp_4 {a b:Ex}(h:(Ef T V [a,b] != 0)=false)(h2:((B5 T V (K5 T V a b)).1==1)=false)(h3:((B5 T V (K5 T V a b)).1==2)=false):Db T V a b=((B5 T V (K5 T V a b)).1,0):=by rw [Db,Ck h,Ck h2,Ck h3]
theorem qU {a b:Ex}{n:Nat}(ha:At a≤n)(hb:At b≤n):∀e∈[a,b],At e≤n:=fun e he=>by
 rcases List.mem_cons.1 he with rfl | he
 · exact ha
 · rw [List.mem_singleton.1 he];exact hb
/-- clauses that can be solved -/
def vOK (T:List Sc)(V:List Va)(c:Cs):Prop:=c.1.length≤256∧∀x∈c.1,Vk T V x∧x.length≤4096
theorem wX {n:Nat}{c:Cs}(h:csOK n c)(hl:Jl T V 64 c)(hn:n≤4096):vOK T V c:=⟨h.len,fun x hx=>⟨fun y hy=>hl x hx y hy,Nat.le_trans (h.lits x hx) hn⟩⟩
theorem uV:csOK 0 ([[]],true):=⟨by simp,fun x hx=>by rw [List.mem_singleton.1 hx];exact Nat.le_refl _⟩
theorem sR {n:Nat}:Jl T V n ([[]],true):=fun x hx y hy=>by rw [List.mem_singleton.1 hx] at hy;cases hy
end
set_option maxRecDepth 100000
/-! ### The chapter's example -/
def rY:List Sc:=[⟨[116,114,97,100,101],[⟨[115,121,109,98,111,108],2⟩,⟨[112,114,105,99,101],0⟩]⟩]
def tX:List Va:=[⟨[97],0⟩,⟨[98],0⟩]
def Zk (n:Int):Ex:=Oz ⟨0,n,[]⟩
def Hu (v:Int):Ex:=⟨1,[],v,1,0,v0⟩
def T1 (v:Int):Ex:=⟨1,[],v,0,0,v0⟩
def Ye:Ex:=⟨0,[],0,0,0,⟨2,0,[120]⟩⟩
def N0:Ex:=two 7 (Hu 0) (Zk 3)
def upE:Ex:=two 7 (Hu 0) (Hu 1)
def gJ (n:Int):Ex:=two 7 (Hu 1) (two 5 (Hu 0) (Zk n))
def bW:Ex:=two 9 ⟨3,[],0,0,0,v0⟩ (Zk 2)
def clE:Ex:=Ow (two 11 N0 (two 9 (Hu 0) (Hu 1)))
def clL:List (List Lit):=[[⟨N0,true⟩,⟨two 7 (Hu 0) (Hu 1),false⟩],[⟨N0,true⟩,⟨two 7 (Hu 1) (Hu 0),false⟩]]
def znE:Zn:=⟨3,[⟨1,0,1099511627776⟩,⟨0,1,1099511627776⟩,⟨2,0,1099511627776⟩,⟨0,2,1099511627776⟩,⟨0,1,-3⟩,⟨1,2,-1⟩]⟩
theorem iC:∀s∈rY,Jn s:=by
 intro s hs
 rw [List.mem_singleton.1 hs]
 exact ⟨by decide,by decide,by decide⟩
theorem ex_cl:Jo rY tX clE=(clL,0):=by kernel_rfl
theorem ex_zn:Q3 rY tX [⟨N0,true⟩,⟨two 7 (Hu 0) (Hu 1),false⟩]=⟨znE,[Hu 0,Hu 1],0⟩:=by kernel_rfl
theorem Aaj:J6 clL clL=true:=(Ke _ _).2 rfl
theorem Nn (e:Ex)(h:decide (At e≤100)=true):At e≤1048576:=Nat.le_trans (of_decide_eq_true h) (by decide)
theorem Mj (l:List Ex)(h:l.all (fun e=>decide (At e≤100))=true):∀e∈l,At e≤1048576:=fun e he=>Nn e (List.all_eq_true.1 h e he)
theorem aJ:∀c∈clL,∀x∈c,At x.cond≤1048576:=by
 intro c hc x hx
 have h:clL.all (fun c=>c.all fun x=>decide (At x.cond≤100))=true:=by kernel_rfl
 exact Nn _ (List.all_eq_true.1 (List.all_eq_true.1 h c hc) x hx)
def lA (want:Int)(es:List Ex):Bool:=(B3 rY tX es).2.2==0&&(B3 rY tX es).1==want
theorem ver_1:lA 2 [upE,gJ 1]=true:=by kernel_rfl
theorem ver_2:lA 1 [upE,gJ 2]=true:=by kernel_rfl
theorem ver_3:lA 2 [two 9 (T1 0) Ye,two 9 (T1 1) (T1 0),Ow (two 9 (T1 1) Ye)]=true:=by kernel_rfl
theorem ver_4:lA 0 [bW]=true:=by kernel_rfl
theorem ver_5:lA 2 [bW,two 7 (Hu 0) (Hu 0)]=true:=by kernel_rfl
theorem imp_1:Db rY tX N0 (two 7 (Hu 0) (Zk 4))=(1,0):=by kernel_rfl
theorem imp_2:Db rY tX (two 7 (Hu 0) (Zk 4)) N0=(2,0):=by kernel_rfl
/-! ### Smallness -/
def bigSc (s:Sc):Bool:=decide (20<(s.fields.length:Int))||decide (100<(s.name.length:Int))
def rM (T:List Sc):Bool:=if T.any bigSc then false else decide ((T.length:Int)≤20)
def fewX (e:Ex):Bool:=decide (At e≤200∧E0 e≤100)
def iR (T:List Sc)(V:List Va)(es:List Ex):Bool:=
 if es.any (fun e=>!fewX e) then false else (rM T&&decide ((V.length:Int)≤20))&&decide ((es.length:Int)≤10)
theorem cU {α:Type}{f:α→Bool}{l:List α}{k:Nat}{a:α}(h:l[k]? = some a)(hf:f a=true):l.any f=true:=List.any_eq_true.2 ⟨a,List.mem_of_getElem? h,hf⟩
theorem X7 {α:Type}{f:α→Bool}{l:List α}{k:Nat}{a:α}(hk:(l.take k).any f=false)(h:l[k]? = some a)(hf:f a=false):(l.take (k+1)).any f=false:=by
 rw [Cu h,List.any_append,hk,List.any_cons,hf];rfl
/-! ### Comparing -/
def sameAll (a b:List Ex):Bool:=decide (a.length=b.length)&&(a.zip b).all fun p=>Li p.1 p.2
def sameBds:List Bd→List Bd→Bool
 | [],[]=>true
 | a::r,b::q=>(a.x==b.x&&a.y==b.y&&a.most==b.most)&&sameBds r q
 | _,_=>false

def okI (v:Vl):Prop:=v.kind=0→v.text = []
section
variable {T:List Sc} {V:List Va} {env:List (List Ev)}
theorem xT (hS:E8 T V env){e:Ex}(hz:By e=0)(ha:e.args = [])(hk:(F0 T V e).2=0):okI (Fc ⟨env,-1,Kn⟩ e).1:=by
 have hvr:=L8 hz
 have hfr:=Jz hz
 have key:∀{w:Vl},Ap w=0→okI w:=fun h hk=>(Fz h hk).1
 unfold F0 at hk
 by_cases h0:(e.op==0)=true
 · unfold Fc;rw [if_pos h0];exact key (Ia hz (by simpa using h0)).1
 rw [if_neg h0] at hk
 by_cases h1:decide ((V.length:Int)≤e.var)=true
 · rw [if_pos h1] at hk;cases hk
 rw [if_neg h1] at hk
 have hlt:e.var<(V.length:Int):=by simp at h1;omega
 obtain ⟨v,hv⟩:=Hv (l:=V) hvr.1 hlt
 obtain ⟨s,ev,hs,hev,hse⟩:=hS.2 _ v hv
 have hel:e.var<(env.length:Int):=by rw [hS.1];exact hlt
 have hevs:Bv env e.var = [ev]:=by
  unfold Bv
  rw [if_neg (by simp;omega),hev];rfl
 have hown:(e.var != -1)=true:=by simp;omega
 have hfl:Fu T V e.var=s.fields:=cM hv hs
 rw [hfl] at hk
 by_cases h3:e.op=3
 ·
  unfold Fc
  rw [if_neg h0,if_pos (by simp [h3])]
  exact fun _=>rfl
 by_cases h2:e.op=2
 ·
  rw [Ml hevs hown h0 h3 (by omega)]
  unfold G8
  rw [if_pos (by simp [h2])]
  exact fun _=>rfl
 rw [if_neg (by simp [h2,h3])] at hk
 by_cases h4:decide ((s.fields.length:Int)≤e.field)=true
 · rw [if_pos h4] at hk;cases hk
 rw [if_neg h4] at hk
 obtain ⟨f,hf⟩:=Hv (l:=s.fields) hfr (by simp at h4;omega)
 obtain ⟨w,hw,hgw⟩:=hse.2 _ f hf
 have hka:Hs s.fields e.field=f.kind:=by simp [Hs,hf]
 have hfs:Dq ev e.field=(w,0):=by
  unfold Dq
  rw [if_neg (by rw [hse.1];exact h4),hw];rfl
 rw [hka] at hk
 by_cases h5:e.op=4
 ·
  by_cases h6:(e.op==4&&(f.kind != e.val.kind || !Dw e.kind ⟨f.kind,0,[]⟩))=true
  · rw [if_pos h6] at hk;cases hk
  have htw:=Vn hz h5
  have hes:Dw e.kind w=true:=by
   simp [h5] at h6
   have:=h6.2
   unfold Dw at this ⊢
   rw [hgw.1];exact this
  unfold Fc O3
  rw [if_neg h0,if_neg (by simp [h3]),if_pos (by simp [h5]),hevs]
  have e1:Aq (fun v=>(Dq v e.field).2) [ev]=0:=by simp [Aq,hfs]
  rw [if_neg (by rw [e1];decide)]
  have e2:([ev].map fun v=>(Dq v e.field).1) = [w]:=by simp [hfs]
  rw [e2,bB ⟨htw.2.1,htw.2.2⟩ hgw.2 hes htw.1]
  exact key hgw.2
 ·
  rw [Ml hevs hown h0 h3 h5]
  unfold G8
  rw [if_neg (by simp [h2]),hfs,if_pos (by rfl),if_neg (by rw [hgw.2];decide)]
  exact key hgw.2
theorem qE (op a b:Int):okI (Gw op a b):=by
 unfold Gw
 intro h
 split
 · rfl
 split
 · rfl
 all_goals (rename_i h5 h6;rw [Ck (Bool.eq_false_iff.2 h5),Ck (Bool.eq_false_iff.2 h6)] at h;repeat' split at h) <;> exact absurd h (by rw [P1];decide)
theorem X4 (hS:E8 T V env){e:Ex}(hk:KOK T V e)(ha:e.args≠[]):B0 ⟨env,-1,Kn⟩ e=Ky e.op (e.args.map fun a=>(B0 ⟨env,-1,Kn⟩ a).1):=
 Ws ha fun a hm=>(S1 hS a (A3 hk hm).nodes (A3 hk hm).kind).1
theorem fN (hS:E8 T V env){e:Ex}(hk:KOK T V e):okI (B0 ⟨env,-1,Kn⟩ e).1:=by
 by_cases ha:e.args = []
 ·
  have h:=hk.kind
  rw [Ei,if_pos (by simp [ha])] at h
  rw [Mw ha];exact xT hS (Be hk.nodes).1 ha h
 ·
  rw [X4 hS hk ha]
  unfold Ky
  split
  · exact fun _=>rfl
  split
  · exact fun h=>absurd h (by rw [P1];decide)
  · exact qE _ _ _
/-- truth of what is a condition -/
def tv (env:List (List Ev))(e:Ex):Bool:=(B0 ⟨env,-1,Kn⟩ e).1.num==1
theorem lT (hS:E8 T V env){e:Ex}(hk:KOK T V e)(h1:Am T V e=1):B0 ⟨env,-1,Kn⟩ e=(D5 (tv env e),0):=by
 obtain ⟨h2,h3⟩:=S1 hS e hk.nodes hk.kind
 rw [F4 hk,h1] at h3
 have h4:=zH hk.nodes h2 h3
 show _=(D5 ((B0 ⟨env,-1,Kn⟩ e).1.num==1),(0:Int))
 rw [←h4,←h2]
theorem uB (hS:E8 T V env){e:Ex}(hk:KOK T V e)(h1:Am T V e=1)(hc:Bx e=0):Ks ⟨env,-1,Kn⟩ e=tv env e:=by
 unfold Ks Xp
 rw [if_neg (by rw [hc];decide),lT hS hk h1]
 cases tv env e <;> rfl
/-- the values of a node's parts -/
theorem iY (hS:E8 T V env){e:Ex}(hk:KOK T V e)(ha:e.args≠[]) :
  (B0 ⟨env,-1,Kn⟩ e).1=if e.op==9 then D5 (eqV (((e.args.map fun a=>(B0 ⟨env,-1,Kn⟩ a).1)).headD v0) (((e.args.map fun a=>(B0 ⟨env,-1,Kn⟩ a).1)[1]?).getD v0)) else Gw e.op ((e.args.map fun a=>(B0 ⟨env,-1,Kn⟩ a).1).headD v0).num ((e.args.map fun a=>(B0 ⟨env,-1,Kn⟩ a).1).getLastD v0).num:=by
 have h2:=(S1 hS e hk.nodes hk.kind).1
 rw [X4 hS hk ha] at h2 ⊢
 unfold Ky at h2 ⊢
 by_cases h:(Dk e.op ((e.args.map fun a=>(B0 ⟨env,-1,Kn⟩ a).1).map (·.kind)) != 0)=true
 · rw [if_pos h] at h2;simp only at h2;rw [h2] at h;cases h
 ·
  rw [if_neg h]
  split <;> rfl
theorem sO {e:Ex}(hl:e.args.length=2):e.args = [Ao e,Bi e]:=by
 unfold Ao Bi
 match h:e.args,hl with
 | [a,b],_=>rfl
theorem tT {e:Ex}(hl:e.args.length=1):e.args = [Ao e]:=by
 unfold Ao
 match h:e.args,hl with
 | [a],_=>rfl
theorem iE {e:Ex}(hk:KOK T V e)(h5:5≤e.op)(h:e.op≤11):e.args.length=2:=by
 obtain ⟨_,_,h2⟩:=Hc (Be hk.nodes).1
 unfold D6 at h2
 rw [if_neg (by omega),if_neg (by omega),if_neg (by omega)] at h2
 omega
theorem len1 {e:Ex}(hk:KOK T V e)(h:e.op=12):e.args.length=1:=by
 obtain ⟨_,_,h2⟩:=Hc (Be hk.nodes).1
 rw [h] at h2
 have:D6 12=1:=by decide
 rw [this] at h2;omega
def vl (env:List (List Ev))(e:Ex):Vl:=(B0 ⟨env,-1,Kn⟩ e).1
theorem vl_def (env:List (List Ev))(e:Ex):(B0 ⟨env,-1,Kn⟩ e).1=vl env e:=rfl
theorem Pp (hS:E8 T V env){e:Ex}(hk:KOK T V e)(h5:5≤e.op)(h:e.op≤11):vl env e=if e.op==9 then D5 (eqV (vl env (Ao e)) (vl env (Bi e))) else Gw e.op (vl env (Ao e)).num (vl env (Bi e)).num:=by
 have hl:=iE hk h5 h
 have h1:=iY hS hk (by intro hn;rw [hn] at hl;cases hl)
 rw [sO hl] at h1
 exact h1
theorem val_one (hS:E8 T V env){e:Ex}(hk:KOK T V e)(h:e.op=12):vl env e=D5 ((vl env (Ao e)).num != 1):=by
 have hl:=len1 hk h
 have h1:=iY hS hk (by intro hn;rw [hn] at hl;cases hl)
 rw [tT hl] at h1
 have h2:vl env e=Gw e.op (vl env (Ao e)).num (vl env (Ao e)).num:=by
  refine h1.trans ?_
  rw [if_neg (by rw [h];decide)];rfl
 rw [h2,h];rfl
theorem Mq (b:Bool):((D5 b).num==1)=b:=by cases b <;> rfl
theorem flag_eq (a b:Bool):eqV (D5 a) (D5 b)=(a==b):=by cases a <;> cases b <;> rfl
theorem kO (hS:E8 T V env){e:Ex}(hk:KOK T V e)(h:e.op=12):tv env e = !tv env (Ao e):=by
 show ((vl env e).num==1)=_;rw [val_one hS hk h,Mq];rfl
theorem mL (hS:E8 T V env){e:Ex}(hk:KOK T V e)(h:e.op=10):tv env e=(tv env (Ao e)&&tv env (Bi e)):=by
 show ((vl env e).num==1)=_;rw [Pp hS hk (by omega) (by omega),h];exact Mq _
theorem xV (hS:E8 T V env){e:Ex}(hk:KOK T V e)(h:e.op=11):tv env e=(tv env (Ao e)||tv env (Bi e)):=by
 show ((vl env e).num==1)=_;rw [Pp hS hk (by omega) (by omega),h];exact Mq _
theorem Sr (hS:E8 T V env){e:Ex}(hk:KOK T V e)(h:e.op=7):tv env e=decide ((vl env (Ao e)).num<(vl env (Bi e)).num):=by
 show ((vl env e).num==1)=_;rw [Pp hS hk (by omega) (by omega),h];exact Mq _
theorem mP (hS:E8 T V env){e:Ex}(hk:KOK T V e)(h:e.op=8):tv env e=decide ((vl env (Ao e)).num≤(vl env (Bi e)).num):=by
 show ((vl env e).num==1)=_;rw [Pp hS hk (by omega) (by omega),h];exact Mq _
theorem xP (hS:E8 T V env){e:Ex}(hk:KOK T V e)(h:e.op=9):tv env e=eqV (vl env (Ao e)) (vl env (Bi e)):=by
 show ((vl env e).num==1)=_;rw [Pp hS hk (by omega) (by omega),h];exact Mq _
theorem tw_eqB (hS:E8 T V env){e:Ex}(hk:KOK T V e)(h:e.op=9)(h1:Am T V (Ao e)=1):tv env e=(tv env (Ao e)==tv env (Bi e)):=by
 have hl:=iE hk (by omega) (by omega)
 have m0:=A6 (show 0<e.args.length by omega)
 have m1:=Bk (show 1<e.args.length by omega)
 rw [xP hS hk h]
 show eqV (B0 ⟨env,-1,Kn⟩ (Ao e)).1 (B0 ⟨env,-1,Kn⟩ (Bi e)).1=_
 rw [lT hS (A3 hk m0) h1,lT hS (A3 hk m1) (by rw [Im hk h m1];exact h1)]
 exact flag_eq _ _
theorem Ry (hS:E8 T V env){e:Ex}(hk:KOK T V e):(vl env e).kind=Am T V e:=by
 rw [←F4 hk];exact (S1 hS e hk.nodes hk.kind).2
theorem yV (hS:E8 T V env){e:Ex}(hk:KOK T V e)(h:e.op=9)(h1:Am T V (Ao e)=0):tv env e=((vl env (Ao e)).num==(vl env (Bi e)).num):=by
 have hl:=iE hk (by omega) (by omega)
 have m0:=A6 (show 0<e.args.length by omega)
 have m1:=Bk (show 1<e.args.length by omega)
 have k0:=A3 hk m0
 have k1:=A3 hk m1
 rw [xP hS hk h]
 have a0:=(Ry hS k0).trans h1
 have a1:=(Ry hS k1).trans ((Im hk h m1).trans h1)
 have b0:=fN hS k0 a0
 have b1:=fN hS k1 a1
 rw [Bool.eq_iff_iff,nO]
 constructor
 · intro h;rw [h];simp
 ·
  intro h
  have h':(vl env (Ao e)).num=(vl env (Bi e)).num:=by simpa using h
  have c0:(vl env (Ao e)).text = []:=b0
  have c1:(vl env (Bi e)).text = []:=b1
  revert h' a0 a1 c0 c1
  generalize vl env (Ao e)=v
  generalize vl env (Bi e)=w
  intro a0 a1 c0 c1 h'
  cases v;cases w
  simp_all
end

section
variable {T:List Sc} {V:List Va} {env:List (List Ev)}
def On (env:List (List Ev))(y:Lit):Bool:=tv env y.cond != y.neg
def kD (env:List (List Ev))(c:List Lit):Bool:=c.all (On env)
def Py (env:List (List Ev))(l:List (List Lit)):Bool:=l.any (kD env)
theorem cl_app (a b:List Lit):kD env (a++b)=(kD env a&&kD env b):=List.all_append
theorem yQ (x:List Lit):∀b:List (List Lit),Py env (b.map fun y=>x++y)=(kD env x&&Py env b)
  | []=>by simp [Py]
  | y::r=>by
    show (kD env (x++y)||Py env (r.map fun y=>x++y))=(kD env x&&(kD env y||Py env r))
    rw [yQ x r,cl_app]
    cases kD env x <;> cases kD env y <;> rfl
theorem xG (a b:List (List Lit)):Py env (a++b)=(Py env a||Py env b):=List.any_append
theorem oI:∀a b:List (List Lit),Py env (a.flatMap fun x=>b.map fun y=>x++y)=(Py env a&&Py env b)
  | [],b=>rfl
  | x::r,b=>by
    rw [List.flatMap_cons,xG,yQ,oI r b]
    show _=((kD env x||Py env r)&&Py env b)
    cases kD env x <;> cases Py env r <;> cases Py env b <;> rfl
theorem Oi {a b:Cs}(h:(En a b).2=true):a.2=true∧b.2=true∧Py env (En a b).1=(Py env a.1&&Py env b.1):=by
  cases h1:(!a.2 || !b.2) with
  | true=>rw [eX h1] at h;cases h
  | false=>
    rw [aM h1] at h ⊢
    cases h2:decide ((256:Int)<(a.1.length:Int)*(b.1.length:Int)) with
    | true=>rw [oX h2] at h;cases h
    | false=>rw [eV h2];exact ⟨(Wi h1).1,(Wi h1).2,oI _ _⟩
theorem oD {a b:Cs}(h:(Jh a b).2=true):a.2=true∧b.2=true∧Py env (Jh a b).1=(Py env a.1||Py env b.1):=by
  cases h1:((!a.2 || !b.2)||decide ((256:Int)<(a.1.length:Int)+(b.1.length:Int))) with
  | true=>rw [pN h1] at h;cases h
  | false=>
    rw [iX h1]
    rw [Bool.or_eq_false_iff] at h1
    exact ⟨(Wi h1.1).1,(Wi h1.1).2,xG _ _⟩
theorem cs_one (y:Lit):Py env (Eg [y]).1=On env y:=by simp [Py,Eg,kD]
theorem cs_two (y z:Lit):Py env (Eg [y,z]).1=(On env y||On env z):=by simp [Py,Eg,kD]
theorem If {e:Ex}(hk:KOK T V e){a:Ex}(ha:a∈e.args)(ho:e.op=10∨e.op=11∨e.op=12):Am T V a=1:=by
 have h1:=Pa hk ha
 unfold Mo at h1
 rcases ho with h | h | h <;> rw [h] at h1 <;> simpa using h1
theorem Xe {e:Ex}(hk:KOK T V e)(h0:(e.op==0)=true):tv env e=(e.val.num==1):=by
 unfold tv
 rw [Tb (Be hk.nodes).1 (by simpa using h0)]
theorem Q6 (hS:E8 T V env)(e:Ex):KOK T V e→Am T V e=1→∀s,(Dc T V e s).2=true→Py env (Dc T V e s).1=(tv env e==s):=by
  refine Ex.Abb (P:=fun e=>KOK T V e→Am T V e=1→∀s,(Dc T V e s).2=true→Py env (Dc T V e s).1=(tv env e==s)) (fun e ih hk h1 s hs=>?_) e
  rcases Lo s hk with h | ⟨h,hl⟩ | ⟨h,hl⟩ | ⟨h,hl,h2⟩ | ⟨h,hl,h2,h3⟩ | ⟨_,_,_,h,_⟩
  · rw [Xe hk h]
    cases h2:((e.val.num==1)==s) with
    | true=>rw [Gg h h2];rfl
    | false=>rw [Ge h h2];rfl
  · have h12:e.op=12:=by simpa using h
    have m0:=A6 hl
    rw [Gl hl h] at hs ⊢
    rw [ih _ m0 (A3 hk m0) (If hk m0 (by omega)) _ hs,kO hS hk h12]
    cases tv env (Ao e) <;> cases s <;> rfl
  · have m0:=A6 (show 0<e.args.length by omega)
    have m1:=Bk hl
    have ho:e.op=10∨e.op=11:=by simpa using h
    have i0:=ih _ m0 (A3 hk m0) (If hk m0 (by omega)) s
    have i1:=ih _ m1 (A3 hk m1) (If hk m1 (by omega)) s
    have ht:tv env e=if e.op==10 then (tv env (Ao e)&&tv env (Bi e)) else (tv env (Ao e)||tv env (Bi e)):=by
      rcases ho with ho | ho
      · rw [mL hS hk ho,ho];rfl
      · rw [xV hS hk ho,ho];rfl
    rw [ht]
    cases h2:((e.op==10)==s) with
    | true=>
      rw [Gf hl h h2] at hs ⊢
      obtain ⟨a1,a2,a3⟩:=Oi (env:=env) hs
      rw [a3,i0 a1,i1 a2]
      cases h4:(e.op==10) <;> rw [h4] at h2 <;> cases s <;> simp at h2 <;> cases tv env (Ao e) <;> cases tv env (Bi e) <;> rfl
    | false=>
      rw [Gd hl h h2] at hs ⊢
      obtain ⟨a1,a2,a3⟩:=oD (env:=env) hs
      rw [a3,i0 a1,i1 a2]
      cases h4:(e.op==10) <;> rw [h4] at h2 <;> cases s <;> simp at h2 <;> cases tv env (Ao e) <;> cases tv env (Bi e) <;> rfl
  · have m0:=A6 (show 0<e.args.length by omega)
    have m1:=Bk hl
    have h9:e.op=9:=by simpa using h
    have k0:Am T V (Ao e)=1:=by simpa using h2
    have k1:Am T V (Bi e)=1:=by rw [Im hk h9 m1];exact k0
    have i0:=ih _ m0 (A3 hk m0) k0
    have i1:=ih _ m1 (A3 hk m1) k1
    rw [Gc hl h h2] at hs ⊢
    obtain ⟨a1,a2,a3⟩:=oD (env:=env) hs
    obtain ⟨b1,b2,b3⟩:=Oi (env:=env) a1
    obtain ⟨c1,c2,c3⟩:=Oi (env:=env) a2
    rw [a3,b3,c3,i0 _ b1,i1 _ b2,i0 _ c1,i1 _ c2,tw_eqB hS hk h9 k0]
    cases tv env (Ao e) <;> cases tv env (Bi e) <;> cases s <;> rfl
  · have m0:=A6 (show 0<e.args.length by omega)
    have m1:=Bk hl
    have h9:e.op=9:=by simpa using h
    rw [Bool.and_eq_true] at h3
    have k0:Am T V (Ao e)=0:=by simpa using h3.1
    have k1:Am T V (Bi e)=0:=by rw [Im hk h9 m1];exact k0
    have hs0:s=false:=by simpa using h3.2
    have t0:=Pv (A3 hk m0) (A3 hk m1) k0 k1
    have t1:=Pv (A3 hk m1) (A3 hk m0) k1 k0
    rw [Gj h h2 (by rw [Bool.and_eq_true];exact h3),cs_two,yV hS hk h9 k0,hs0]
    unfold On
    rw [Sr hS t0 rfl,Sr hS t1 rfl]
    show ((decide ((vl env (Ao e)).num<(vl env (Bi e)).num) != false)||(decide ((vl env (Bi e)).num<(vl env (Ao e)).num) != false))=(((vl env (Ao e)).num==(vl env (Bi e)).num)==false)
    rw [Bool.eq_iff_iff]
    simp
    omega
  · rw [h,cs_one]
    unfold On
    cases tv env e <;> cases s <;> rfl
end

section
variable {T:List Sc} {V:List Va} {env:List (List Ev)}
theorem sC {op:Int}(a b:Ex)(h:op=7∨op=8∨op=10∨op=11):By (two op a b)=0:=by
 have hf:Bm (two op a b)=0:=by rcases h with h | h | h | h <;> subst h <;> simp [Bm,two,Dp,isV0,v0]
 unfold By
 rw [hf]
 rcases h with h | h | h | h <;> subst h <;> simp [two,D6,Dp]
theorem rO (a:Ex):By (Ow a)=0:=by
 have hf:Bm (Ow a)=0:=by simp [Bm,Ow,Dp,isV0,v0]
 unfold By
 rw [hf]
 simp [Ow,D6,Dp]
theorem oW {op:Int}{a b:Ex}(ha:KOK T V a)(hb:KOK T V b)(h:((op=7∨op=8)∧Am T V a=0∧Am T V b=0)∨((op=10∨op=11)∧Am T V a=1∧Am T V b=1)):KOK T V (two op a b):=by
 refine ⟨ha.ty,?_,?_⟩
 ·
  rw [Lc,sC a b (by omega)]
  show Aq C4 [a,b]=0
  simp [Aq,ha.nodes,hb.nodes]
 ·
  rw [Ei]
  show (if [a,b].isEmpty then _ else _:Int×Int).2=0
  have e1:(Cc T V a).2=0:=ha.kind
  have e2:(Cc T V b).2=0:=hb.kind
  have k1:=F4 ha
  have k2:=F4 hb
  rcases h with ⟨ho,h1,h2⟩ | ⟨ho,h1,h2⟩ <;> rw [h1] at k1 <;> rw [h2] at k2 <;> rcases ho with ho | ho <;> subst ho <;> simp [two,Aq,e1,e2,k1,k2,Dk,Mo]
theorem kok_not {a:Ex}(ha:KOK T V a)(h1:Am T V a=1):KOK T V (Ow a):=by
 refine ⟨ha.ty,?_,?_⟩
 ·
  rw [Lc,rO]
  show Aq C4 [a]=0
  simp [Aq,ha.nodes]
 ·
  rw [Ei]
  show (if [a].isEmpty then _ else _:Int×Int).2=0
  have e1:(Cc T V a).2=0:=ha.kind
  have k1:=F4 ha
  rw [h1] at k1
  simp [Ow,Aq,e1,k1,Dk,Mo]
theorem tL (hty:Jv T V)(b:Bool):KOK T V (Er b)∧Am T V (Er b)=1:=by
 have hk:∀b:Bool,Cc T V (Er b)=(1,0):=fun b=>by rw [Ei];cases b <;> rfl
 have h:KOK T V (Er b):=⟨hty,by cases b <;> decide +kernel,by rw [hk]⟩
 exact ⟨h,by rw [←F4 h,hk]⟩
theorem Qi {op:Int}(a b:Ex)(h:op=7∨op=8∨op=10∨op=11):KOK T V (two op a b)→Am T V (two op a b)=1:=fun hk=>by
 rw [←F4 hk,(O6 hk (by simp [two])).2.2]
 rcases h with h | h | h | h <;> subst h <;> rfl
theorem rJ {a:Ex}(hk:KOK T V (Ow a)):Am T V (Ow a)=1:=by
 rw [←F4 hk,(O6 hk (by simp [Ow])).2.2];rfl
theorem oG (e:Ex):KOK T V e→Am T V e=1→KOK T V (Fk e)∧Am T V (Fk e)=1∧∀env,E8 T V env→tv env (Fk e) = !tv env e:=by
  refine Ex.Abb (P:=fun e=>KOK T V e→Am T V e=1→KOK T V (Fk e)∧Am T V (Fk e)=1∧∀env,E8 T V env→tv env (Fk e) = !tv env e) (fun e ih hk h1=>?_) e
  have hz:=Be hk.nodes
  rw [Kz,Vt]
  have two_case:∀(o p:Int),(o=10∧p=11∨o=11∧p=10)→e.op=o→KOK T V (two p (Qm Wc (e.args.map Fk)) (Yo Wc (e.args.map Fk)))∧Am T V (two p (Qm Wc (e.args.map Fk)) (Yo Wc (e.args.map Fk)))=1∧∀env,E8 T V env→tv env (two p (Qm Wc (e.args.map Fk)) (Yo Wc (e.args.map Fk))) = !tv env e:=by
    intro o p hop ho
    have hl:=iE hk (by omega) (by omega)
    have m0:=A6 (show 0<e.args.length by omega)
    have m1:=Bk (show 1<e.args.length by omega)
    rw [Ik _ _ (by omega),Ix _ _ (by omega)]
    obtain ⟨a1,a2,a3⟩:=ih _ m0 (A3 hk m0) (If hk m0 (by omega))
    obtain ⟨b1,b2,b3⟩:=ih _ m1 (A3 hk m1) (If hk m1 (by omega))
    have k:=oW (op:=p) a1 b1 (.inr ⟨by omega,a2,b2⟩)
    refine ⟨k,Qi _ _ (by omega) k,fun env hS=>?_⟩
    rcases hop with ⟨h3,h4⟩ | ⟨h3,h4⟩ <;> subst h4 <;> rw [h3] at ho
    · rw [xV hS k rfl,mL hS hk ho]
      show (tv env (Fk (Ao e))||tv env (Fk (Bi e)))=_
      rw [a3 env hS,b3 env hS];cases tv env (Ao e) <;> cases tv env (Bi e) <;> rfl
    · rw [mL hS k rfl,xV hS hk ho]
      show (tv env (Fk (Ao e))&&tv env (Fk (Bi e)))=_
      rw [a3 env hS,b3 env hS];cases tv env (Ao e) <;> cases tv env (Bi e) <;> rfl
  have cmp_case:∀(o p:Int),(o=7∧p=8∨o=8∧p=7)→e.op=o→KOK T V (two p (Bi e) (Ao e))∧Am T V (two p (Bi e) (Ao e))=1∧∀env,E8 T V env→tv env (two p (Bi e) (Ao e)) = !tv env e:=by
    intro o p hop ho
    have hl:=iE hk (by omega) (by omega)
    have m0:=A6 (show 0<e.args.length by omega)
    have m1:=Bk (show 1<e.args.length by omega)
    have c:∀{a:Ex},a∈e.args→Am T V a=0:=fun ha=>by
      have h:=Pa hk ha
      unfold Mo at h
      rcases hop with ⟨h3,h4⟩ | ⟨h3,h4⟩ <;> rw [ho,h3] at h <;> simpa using h
    have k:=oW (op:=p) (A3 hk m1) (A3 hk m0) (.inl ⟨by omega,c m1,c m0⟩)
    refine ⟨k,Qi _ _ (by omega) k,fun env hS=>?_⟩
    rcases hop with ⟨h3,h4⟩ | ⟨h3,h4⟩ <;> subst h4 <;> rw [h3] at ho
    · rw [mP hS k rfl,Sr hS hk ho]
      show decide ((vl env (Bi e)).num≤(vl env (Ao e)).num) = !decide ((vl env (Ao e)).num<(vl env (Bi e)).num)
      rw [Bool.eq_iff_iff];simp
    · rw [Sr hS k rfl,mP hS hk ho]
      show decide ((vl env (Bi e)).num<(vl env (Ao e)).num) = !decide ((vl env (Ao e)).num≤(vl env (Bi e)).num)
      rw [Bool.eq_iff_iff];simp
  cases c1:e.op==10 with
  | true=>rw [if_pos rfl];exact two_case 10 11 (.inl ⟨rfl,rfl⟩) (by simpa using c1)
  | false=>
  rw [Ck rfl]
  cases c2:e.op==11 with
  | true=>rw [if_pos rfl];exact two_case 11 10 (.inr ⟨rfl,rfl⟩) (by simpa using c2)
  | false=>
  rw [Ck rfl]
  cases c3:e.op==12 with
  | true=>
    rw [if_pos rfl]
    have h12:e.op=12:=by simpa using c3
    have hl:=len1 hk h12
    have m0:=A6 (show 0<e.args.length by omega)
    exact ⟨A3 hk m0,If hk m0 (by omega),fun env hS=>by rw [kO hS hk h12,Bool.not_not]⟩
  | false=>
  rw [Ck rfl]
  cases c4:e.op==7 with
  | true=>rw [if_pos rfl];exact cmp_case 7 8 (.inl ⟨rfl,rfl⟩) (by simpa using c4)
  | false=>
  rw [Ck rfl]
  cases c5:e.op==8 with
  | true=>rw [if_pos rfl];exact cmp_case 8 7 (.inr ⟨rfl,rfl⟩) (by simpa using c5)
  | false=>
  rw [Ck rfl]
  cases c6:(e.op==0&&e.val.kind==1) with
  | true=>
    rw [if_pos rfl]
    rw [Bool.and_eq_true] at c6
    obtain ⟨k1,k2⟩:=tL hk.ty (e.val.num==0)
    refine ⟨k1,k2,fun env hS=>?_⟩
    rw [Xe k1 rfl,Xe hk c6.1]
    have h2:=Fa (Ia hz.1 (by simpa using c6.1)).1 (by simpa using c6.2)
    have h3:e.val.num=0∨e.val.num=1:=by rw [h2];cases e.val.num==1 <;> simp [D5]
    rcases h3 with h3 | h3 <;> rw [h3] <;> rfl
  | false=>
    rw [Ck rfl]
    have k:=kok_not hk h1
    exact ⟨k,rJ k,fun env hS=>kO hS k rfl⟩
theorem qQ {e:Ex}(h:C4 e=0):Bx e=0∨Bx e=5∨Bx e=12:=by
 unfold Bx
 split
 · exact .inr (.inl rfl)
 split
 · exact .inr (.inr rfl)
 · exact .inl h
/-! ### Depth of literals -/
def litD (n:Nat)(c:Cs):Prop:=∀x∈c.1,∀y∈x,E0 y.cond≤n
/-! ### Kinds of literals -/
def bT (T:List Sc)(V:List Va)(c:Cs):Prop:=∀x∈c.1,∀y∈x,Am T V y.cond=1
theorem Ro {a b:Cs}(ha:bT T V a)(hb:bT T V b):bT T V (En a b):=by
 unfold En
 split
 · intro x hx;cases hx
 ·
  unfold Ma
  split
  · intro x hx;cases hx
  ·
   intro x hx y hy
   obtain ⟨p,hp,hm⟩:=List.mem_flatMap.1 hx
   obtain ⟨q,hq,rfl⟩:=List.mem_map.1 hm
   rcases List.mem_append.1 hy with h | h
   · exact ha p hp y h
   · exact hb q hq y h
theorem aO {a b:Cs}(ha:bT T V a)(hb:bT T V b):bT T V (Jh a b):=by
 unfold Jh
 split
 · intro x hx;cases hx
 ·
  intro x hx y hy
  rcases List.mem_append.1 hx with h | h
  · exact ha x h y hy
  · exact hb x h y hy
theorem Vf {l:List Lit}(h:∀y∈l,Am T V y.cond=1):bT T V (Eg l):=by
 intro x hx y hy
 unfold Eg at hx
 obtain ⟨z,hz,rfl⟩:=List.mem_map.1 hx
 rw [List.mem_singleton.1 hy]
 exact h z hz
theorem mW (e:Ex):KOK T V e→Am T V e=1→∀s,bT T V (Dc T V e s):=by
 refine Ex.Abb (P:=fun e=>KOK T V e→Am T V e=1→∀s,bT T V (Dc T V e s)) (fun e ih hk hr s=>?_) e
 rcases Lo s hk with h | ⟨h,hl⟩ | ⟨h,hl⟩ | ⟨h,hl,h1⟩ | ⟨h,hl,h1,h2⟩ | ⟨_,_,_,h,_⟩
 ·
  cases h1:((e.val.num==1)==s) with
  | true=>rw [Gg h h1];intro x hx y hy;rw [List.mem_singleton.1 hx] at hy;cases hy
  | false=>rw [Ge h h1];intro x hx;cases hx
 ·
  have m0:=A6 hl
  rw [Gl hl h];exact ih _ m0 (A3 hk m0) (If hk m0 (.inr (.inr (by simpa using h)))) _
 ·
  have m0:=A6 (show 0<e.args.length by omega)
  have m1:=Bk hl
  have ho:e.op=10∨e.op=11:=by simpa using h
  have i0:=ih _ m0 (A3 hk m0) (If hk m0 (by omega)) s
  have i1:=ih _ m1 (A3 hk m1) (If hk m1 (by omega)) s
  cases h1:((e.op==10)==s) with
  | true=>rw [Gf hl h h1];exact Ro i0 i1
  | false=>rw [Gd hl h h1];exact aO i0 i1
 ·
  have m0:=A6 (show 0<e.args.length by omega)
  have m1:=Bk hl
  have h9:e.op=9:=by simpa using h
  have k0:Am T V (Ao e)=1:=by simpa using h1
  have k1:Am T V (Bi e)=1:=by rw [Im hk h9 m1];exact k0
  have i0:=ih _ m0 (A3 hk m0) k0
  have i1:=ih _ m1 (A3 hk m1) k1
  rw [Gc hl h h1]
  exact aO (Ro (i0 _) (i1 _)) (Ro (i0 _) (i1 _))
 ·
  have m0:=A6 (show 0<e.args.length by omega)
  have m1:=Bk hl
  have h9:e.op=9:=by simpa using h
  have h3:=h2
  rw [Bool.and_eq_true] at h3
  have k0:Am T V (Ao e)=0:=by simpa using h3.1
  have k1:Am T V (Bi e)=0:=by rw [Im hk h9 m1];exact k0
  rw [Gj h h1 h2]
  refine Vf fun y hy=>?_
  rcases List.mem_cons.1 hy with rfl | hy
  · exact Qi _ _ (.inl rfl) (Pv (A3 hk m0) (A3 hk m1) k0 k1)
  · rw [List.mem_singleton.1 hy];exact Qi _ _ (.inl rfl) (Pv (A3 hk m1) (A3 hk m0) k1 k0)
 ·
  rw [h]
  exact Vf fun y hy=>by rw [List.mem_singleton.1 hy];exact hr
end

def Fl (e:Ev):Int:=
 if decide (e.source<0)||decide (8≤e.source) then 32
 else if decide (e.seq<0)||decide (1099511627776<e.seq)||decide (e.time<0)||decide (1099511627776<e.time) then 2 else 0
def Ua (v:Vl)(f:Fi):Int:=if Ap v != 0 then Ap v else if v.kind != f.kind then 9 else 0
def N4:List Vl→List Fi→Int
 | v::r,f::s=>if Ua v f != 0 then Ua v f else N4 r s
 | _,_=>0
def E1 (types:List Sc)(e:Ev):List Fi:=((types[e.type.toNat]?).getD sc0).fields
def I1 (types:List Sc)(e:Ev):Int:=
 if Fl e != 0 then Fl e
 else if decide (e.type<0)||decide ((types.length:Int)≤e.type) then 6
 else if (e.values.length:Int) != ((E1 types e).length:Int) then 15
 else N4 e.values (E1 types e)
def F7 (types:List Sc)(e:Ev):Int:=if Ed types != 0 then Ed types else I1 types e
def Yq (l:List Vl):Bool:=!((l.take 40).any fun v=>decide (128<v.text.length))&&decide (l.length<40)
def kH (l:List Ev):Bool:=!((l.take 20).any fun e=>!Yq e.values)&&decide (l.length≤20)
theorem cS {α:Type}{l:List α}{k:Nat}(d:α)(h:k<l.length):l[k]? = some ((l[k]?).getD d):=by
 rw [List.getElem?_eq_getElem h];rfl
theorem iL {α:Type}(f:α→Bool){l:List α}{k:Nat}{x:α}(h:l[k]? = some x):(l.take (k+1)).any f=((l.take k).any f||f x):=by rw [Cu h];simp
theorem qI {l:List Vl}{m:List Fi}{k:Nat}{v:Vl}{f:Fi}(hv:l[k]? = some v)(hf:m[k]? = some f):N4 (l.drop k) (m.drop k)=if Ua v f != 0 then Ua v f else N4 (l.drop (k+1)) (m.drop (k+1)):=by
 rw [Ba hv,Ba hf,N4]
theorem sU (l:List Vl):N4 l []=0:=by cases l <;> rfl
theorem ty_in {n:Nat}{t:Int}(h:(decide (t<0)||decide ((n:Int)≤t))=false):0≤t∧t.toNat<n:=by
 simp only [Bool.or_eq_false_iff,decide_eq_false_iff_not] at h
 omega
theorem kF {n m:Nat}(h:((n:Int) != (m:Int))=false):n=m:=by
 have h1:(n:Int)=m:=by simpa using h
 omega
theorem rX {l:List Vl}{k:Nat}{a:Vl}(ha:l[k]? = some a)(h:(l.take k).any (fun v=>decide (128<v.text.length))=false)(h2:decide ((128:Int)<(a.text.length:Int))=false):(l.take (k+1)).any (fun v=>decide (128<v.text.length))=false:=by
 rw [iL _ ha,h,Bool.false_or,decide_eq_false_iff_not]
 have:=of_decide_eq_false h2;omega
theorem uG {l:List Vl}{k:Nat}{a:Vl}(ha:l[k]? = some a)(hk:k<40)(h2:decide ((128:Int)<(a.text.length:Int))=true):Yq l=false:=by
 have h3:(l.take 40).any (fun v=>decide (128<v.text.length))=true:=by
  rw [List.any_eq_true]
  exact ⟨a,List.mem_iff_getElem?.2 ⟨k,by rw [List.getElem?_take,if_pos hk];exact ha⟩,by have:=of_decide_eq_true h2;simp;omega⟩
 unfold Yq;rw [h3];rfl
theorem iQ {α:Type}{l:List α}{k n:Nat}(h:(decide ((k:Int)<(l.length:Int))&&decide ((k:Int)<(n:Int)))=false)(hk:k≤n):l.take k=l.take n:=by
 simp only [Bool.and_eq_false_iff,decide_eq_false_iff_not] at h
 by_cases hn:k=n
 · rw [hn]
 · rw [List.take_of_length_le (by omega),List.take_of_length_le (by omega)]
theorem wO {l:List Vl}{k:Nat}(h:(decide ((k:Int)<(l.length:Int))&&decide ((k:Int)<40))=false)(hk:k≤40)(ha:(l.take k).any (fun v=>decide (128<v.text.length))=false):Yq l=decide ((l.length:Int)<40):=by
 rw [iQ (n:=40) h hk] at ha
 unfold Yq;rw [ha,Bool.not_false,Bool.true_and,decide_eq_decide];omega
theorem zM {l:List Ev}{k:Nat}{a:Ev}(ha:l[k]? = some a)(hk:k<20)(h2:(!Yq a.values)=true):kH l=false:=by
 have h3:(l.take 20).any (fun e=>!Yq e.values)=true:=by
  rw [List.any_eq_true]
  exact ⟨a,List.mem_iff_getElem?.2 ⟨k,by rw [List.getElem?_take,if_pos hk];exact ha⟩,h2⟩
 unfold kH;rw [h3];rfl
theorem vJ {l:List Ev}{k:Nat}(h:(decide ((k:Int)<(l.length:Int))&&decide ((k:Int)<20))=false)(hk:k≤20)(ha:(l.take k).any (fun e=>!Yq e.values)=false):kH l=decide ((l.length:Int)≤20):=by
 rw [iQ (n:=20) h hk] at ha
 unfold kH;rw [ha,Bool.not_false,Bool.true_and,decide_eq_decide];omega
/-! ### E8 -/
def Qh (T:List Sc)(p:Ev×Va):Bool:=F7 T p.1 != 0||p.1.type != p.2.type
def Iz (T:List Sc)(V:List Va)(l:List Ev):Bool:=if (l.zip V).any (Qh T) then false else ((l.length:Int)==(V.length:Int))
def D0 (l:List Ev):List (List Ev):=l.map fun e=>[e]
theorem nQ {α β:Type}{l:List α}{m:List β}{k:Nat}{x:α}{y:β}(hx:l[k]? = some x)(hy:m[k]? = some y):(l.zip m)[k]? = some (x,y):=by
 rw [List.getElem?_zip_eq_some];exact ⟨hx,hy⟩
theorem zip_end {α β:Type}{l:List α}{m:List β}{k:Nat}(h:(decide ((k:Int)<(l.length:Int))&&decide ((k:Int)<(m.length:Int)))=false):(l.zip m).take k=l.zip m:=by
 simp only [Bool.and_eq_false_iff,decide_eq_false_iff_not] at h
 exact List.take_of_length_le (by rw [List.length_zip];omega)
theorem jZ:∀{l:List Vl} {m:List Fi},l.length=m.length→N4 l m=0→∀(k:Nat) (f:Fi),m[k]? = some f→∃w,l[k]? = some w∧mG w f.kind
  | [],[],_,_,k,f,h=>by simp at h
  | [],_::_,h,_,_,_,_=>by simp at h
  | _::_,[],h,_,_,_,_=>by simp at h
  | v::r,g::s,hl,h,k,f,hf=>by
    rw [N4] at h
    cases h1:(Ua v g != 0) with
    | true=>rw [if_pos h1] at h;rw [h] at h1;cases h1
    | false=>
      rw [Ck h1] at h
      cases k with
      | zero=>
        simp only [List.getElem?_cons_zero,Option.some.injEq] at hf
        subst hf
        refine ⟨v,rfl,?_⟩
        unfold Ua at h1
        cases h2:(Ap v != 0) with
        | true=>rw [if_pos h2] at h1;rw [h1] at h2;cases h2
        | false=>
          rw [Ck h2] at h1
          cases h3:(v.kind != g.kind) with
          | true=>rw [if_pos h3] at h1;cases h1
          | false=>exact ⟨by simpa using h3,by simpa using h2⟩
      | succ k=>exact jZ (by simpa using hl) h k f (by simpa using hf)
theorem kV {T:List Sc}{e:Ev}(h:I1 T e=0):∃s,T[e.type.toNat]? = some s∧X6 s e:=by
  unfold I1 at h
  cases h1:(Fl e != 0) with
  | true=>rw [if_pos h1] at h;rw [h] at h1;cases h1
  | false=>
    rw [Ck h1] at h
    cases h2:(decide (e.type<0)||decide ((T.length:Int)≤e.type)) with
    | true=>rw [if_pos h2] at h;cases h
    | false=>
      rw [Ck h2] at h
      cases h3:((e.values.length:Int) != ((E1 T e).length:Int)) with
      | true=>rw [if_pos h3] at h;cases h
      | false=>
        rw [Ck h3] at h
        have hs:=cS sc0 (ty_in h2).2
        exact ⟨_,hs,kF h3,jZ (kF h3) h⟩
theorem Vm {T:List Sc}{e:Ev}(h:F7 T e=0):I1 T e=0:=by
 unfold F7 at h
 cases h1:(Ed T != 0) with
 | true=>rw [if_pos h1] at h;rw [h] at h1;cases h1
 | false=>rwa [Ck h1] at h
theorem Uq {T:List Sc}{V:List Va}{l:List Ev}(h:Iz T V l=true):l.length=V.length∧∀(i:Nat) (v:Va),V[i]? = some v→∃e,l[i]? = some e∧F7 T e=0∧e.type=v.type:=by
  unfold Iz at h
  cases h1:(l.zip V).any (Qh T) with
  | true=>rw [if_pos h1] at h;cases h
  | false=>
    rw [Ck h1] at h
    have hl : l.length = V.length := by have : (l.length : Int) = V.length := by simpa using h
                                        omega
    refine ⟨hl,fun i v hv=>?_⟩
    have hi:=Bb hv
    have hx:l[i]? = some (l[i]'(by omega)):=List.getElem?_eq_getElem (by omega)
    have h2:=Bool.eq_false_iff.2 (List.any_eq_false.1 h1 _ (List.mem_of_getElem? (nQ hx hv)))
    unfold Qh at h2
    rw [Bool.or_eq_false_iff] at h2
    exact ⟨_,hx,by simpa using h2.1,by simpa using h2.2⟩
theorem yU {T:List Sc}{V:List Va}{l:List Ev}(h:Iz T V l=true):E8 T V (D0 l):=by
 obtain ⟨hl,h1⟩:=Uq h
 refine ⟨by simp [D0,hl],fun i v hv=>?_⟩
 obtain ⟨e,he,hc,ht⟩:=h1 i v hv
 obtain ⟨s,hs,hse⟩:=kV (Vm hc)
 exact ⟨s,e,by rw [←ht];exact hs,by simp [D0,he],hse⟩
theorem fX (l:List Ev):∀x∈D0 l,x.length≤1048576:=fun x hx=>by
 obtain ⟨e,_,rfl⟩:=List.mem_map.1 hx
 exact (by decide:1≤1048576)
/-! ### The law's scene -/
def Pk (T:List Sc)(V:List Va)(l:List Ev)(e:Ex):Bool:=(((iR T V [e]&&kH l)&&(Ed T==0))&&Iz T V l)&&(Ec T V e==0)
theorem gS {T:List Sc}{V:List Va}{l:List Ev}{e:Ex}(h:Pk T V l e=true):iR T V [e]=true∧kH l=true∧Ed T=0∧Iz T V l=true∧Ec T V e=0:=by
 unfold Pk at h
 simp only [Bool.and_eq_true,beq_iff_eq] at h
 exact ⟨h.1.1.1.1,h.1.1.1.2,h.1.1.2,h.1.2,h.2⟩

/-- some of what is known, the rest is not -/
structure Half (env kn:List (List Ev)):Prop where
 some:∀v:Int,Bv kn v=Bv env v∨Bv kn v = []
/-- the times of the events are small -/
def mZ (env:List (List Ev)):Prop:=∀l∈env,∀ev∈l,Ap ⟨0,ev.time,[]⟩=0
section
variable {T:List Sc} {V:List Va} {env kn:List (List Ev)}
/-- the event of a variable that is read -/
theorem X3 (hS:E8 T V env)(hT:mZ env){e:Ex}(hk:KOK T V e)(ho:(e.op==1||e.op==2)=true) :
  ∃ev,Bv env e.var = [ev]∧(L2 e ev).2=0∧Ap (L2 e ev).1=0∧B0 ⟨env,-1,Kn⟩ e=((L2 e ev).1,0):=by
 have hz:=(Be hk.nodes).1
 have hvr:=L8 hz
 have hfr:=Jz hz
 have hop:e.op=1∨e.op=2:=by simpa using ho
 have ha:e.args = []:=Wq hz (by omega)
 have hkk:=hk.kind
 rw [Sb hk (by omega)] at hkk
 unfold F0 at hkk
 have h0:¬(e.op==0)=true:=by simp;omega
 rw [if_neg h0] at hkk
 by_cases h1:decide ((V.length:Int)≤e.var)=true
 · rw [if_pos h1] at hkk;cases hkk
 rw [if_neg h1] at hkk
 have hlt:e.var<(V.length:Int):=by simp at h1;omega
 obtain ⟨v,hv⟩:=Hv (l:=V) hvr.1 hlt
 obtain ⟨s,ev,hs,hev,hse⟩:=hS.2 _ v hv
 have hel:e.var<(env.length:Int):=by rw [hS.1];exact hlt
 have hevs:Bv env e.var = [ev]:=sI hvr.1 hev
 have hown:(e.var != -1)=true:=by simp;omega
 refine ⟨ev,hevs,?_⟩
 rw [Mw ha,Ml hevs hown h0 (by omega) (by omega)]
 rcases hop with hop | hop
 ·
  have hfl:Fu T V e.var=s.fields:=cM hv hs
  rw [hfl,if_neg (by simp [hop])] at hkk
  by_cases h4:decide ((s.fields.length:Int)≤e.field)=true
  · rw [if_pos h4] at hkk;cases hkk
  obtain ⟨f,hf⟩:=Hv (l:=s.fields) hfr (by simp at h4;omega)
  obtain ⟨w,hw,hgw⟩:=hse.2 _ f hf
  have hr:L2 e ev=(w,0):=by
   unfold L2
   rw [if_pos (by simp [hop]),if_neg (by rw [hse.1];exact h4),hw]
   simp [hgw.2]
  rw [hr]
  refine ⟨rfl,hgw.2,?_⟩
  have hfs:Dq ev e.field=(w,0):=by
   unfold Dq
   rw [if_neg (by rw [hse.1];exact h4),hw];rfl
  unfold G8
  rw [if_neg (by simp [hop]),hfs,if_pos (by rfl),if_neg (by rw [hgw.2];decide)]
 ·
  have ht:=hT _ (List.mem_of_getElem? hev) ev (List.mem_cons_self ..)
  have hr:L2 e ev=(⟨0,ev.time,[]⟩,0):=by
   unfold L2
   rw [if_neg (by simp [hop]),ht]
  rw [hr]
  refine ⟨rfl,ht,?_⟩
  unfold G8
  rw [if_pos (by simp [hop])]
end
/-! ### pE -/
def readsN:Ex→Nat:=Rs fun e ns=>(if e.op==1||e.op==2 then 1 else 0)+ns.sum
/-! ### What the law leaves out -/
def halfS (l:List (List Ev)):Nat→List (List Ev)
 | 0=>l
 | k+1=>if k % 2=1 then (halfS l k).set k [] else halfS l k

/-- events that suit, with times within the limits -/
structure EnvOK (T:List Sc) (V:List Va) (env:List (List Ev)):Prop where
 suits:E8 T V env
 times:∀l∈env,∀ev∈l,0≤ev.time∧ev.time≤1099511627776
theorem EnvOK.small {T:List Sc}{V:List Va}{env:List (List Ev)}(h:EnvOK T V env):mZ env:=fun l hl ev hev=>by
 have:=h.times l hl ev hev
 unfold Ap Ea
 simp
 omega
section
variable {T:List Sc} {V:List Va} {env:List (List Ev)}
abbrev T2 (env:List (List Ev))(t:Tm):Int:=(vl env (Hq t)).num
theorem Ui {v:Vl}(h:Ap v=0)(hk:v.kind=0∨v.kind=1) : -1099511627776≤v.num∧v.num≤1099511627776:=by
 rcases hk with hk | hk
 · exact (Fz h hk).2
 ·
  have:=Fa h hk
  rw [this];cases v.num==1 <;> simp [D5]
/-- what a term is worth -/
theorem O4 (hE:EnvOK T V env){e:Ex}(hk:KOK T V e)(ho:(e.op==1||e.op==2)=true) :
  ((e.op==2)=true→0≤(vl env e).num∧(vl env e).num≤1099511627776)∧Ap (vl env e)=0∧(vl env e).kind=Am T V e:=by
 obtain ⟨ev,h1,h2,h3,h4⟩:=X3 hE.suits hE.small hk ho
 refine ⟨fun h=>?_,?_,Ry hE.suits hk⟩
 ·
  have hm:Bv env e.var∈env:=eK (by rw [h1];exact Nat.one_pos)
  have ht:=hE.times _ hm ev (by rw [h1];exact List.mem_cons_self ..)
  have:vl env e=⟨0,ev.time,[]⟩:=by
   show (B0 _ e).1=_
   rw [h4]
   unfold L2
   rw [if_neg (by simp at h ⊢;omega)]
  rw [this];exact ht
 ·
  show Ap (B0 _ e).1=0
  rw [h4];exact h3
/-! ### Sums -/
def Xi (τ:Tm→Int)(ts:List (Tm×Int)):Int:=(ts.map fun p=>p.2*τ p.1).sum
theorem gP (τ:Tm→Int)(t:Tm)(b:Int):∀ts:List (Tm×Int),Xi τ (Io t b ts)=Xi τ ts+b*τ t
  | []=>by simp [Io,Xi]
  | p::r=>by
    rw [Io]
    split
    · rename_i h
      subst h
      simp only [Xi,List.map_cons,List.sum_cons,Int.add_mul]
      omega
    · have ih:=gP τ t b r
      simp only [Xi,List.map_cons,List.sum_cons] at ih ⊢
      omega
def tV (τ:Tm→Int)(s:Su):Int:=Xi τ s.ts+s.rest
theorem nU {x:Int}(h : -9223372036854775808≤x∧x≤9223372036854775807):IntKind.i64.wrap x=x:=IntWalk.i64_in x h
theorem S2 {e:Ex}(hk:KOK T V e)(ho:e.op=5∨e.op=6){a:Ex}(ha:a∈e.args):Am T V a=0:=by
 have h:=Pa hk ha
 unfold Mo at h
 rcases ho with ho | ho <;> rw [ho] at h <;> simpa using h
/-- linear sums are worth what is summed -/
theorem oQ (hE:EnvOK T V env)(e:Ex):KOK T V e→Am T V e=0→At e≤64→∀{b:Int} {s:Su},(Bp e b s).2=true→
    tV (T2 env) (Bp e b s).1=tV (T2 env) s+b*(vl env e).num∧-(At e:Int)*1099511627776≤(vl env e).num∧(vl env e).num≤(At e:Int)*1099511627776:=by
  refine Ex.Abb (P:=fun e=>KOK T V e→Am T V e=0→At e≤64→∀{b:Int} {s:Su},(Bp e b s).2=true→
    tV (T2 env) (Bp e b s).1=tV (T2 env) s+b*(vl env e).num∧-(At e:Int)*1099511627776≤(vl env e).num∧(vl env e).num≤(At e:Int)*1099511627776) (fun e ih hk h0 hs b s h=>?_) e
  have hz:=Be hk.nodes
  have hp:1≤At e:=by rw [D7];omega
  rcases Ox hz.1 with c | ⟨c,c1⟩ | ⟨c,hl⟩ | ⟨c,c1,c2,c3⟩
  · have hc:e.op=0:=by simpa using c
    have hv:(vl env e)=e.val:=by show (B0 _ e).1=_;rw [Tb hz.1 hc]
    have hn:=Tx hz.1 hc
    rw [Fy c,hv]
    refine ⟨by simp only [tV];omega,?_,?_⟩
    · have:(1:Int)≤At e:=by omega
      omega
    · have:(1:Int)≤At e:=by omega
      omega
  · obtain ⟨_,h2,h3⟩:=O4 hE hk c1
    have hn:=Ui h2 (.inl (h3.trans h0))
    rw [B8 c c1]
    refine ⟨?_,by omega,by omega⟩
    simp only [tV]
    rw [gP]
    have:T2 env (D3 e)=(vl env e).num:=by unfold T2;rw [K1 hz.1 c1]
    rw [this];omega
  · have ho:e.op=5∨e.op=6:=by simpa using c
    have m0:=A6 (show 0<e.args.length by omega)
    have m1:=Bk hl
    have hsz:=Dy hl
    have k0:=S2 hk ho m0
    have k1:=S2 hk ho m1
    have hv:=Pp hE.suits hk (by omega) (by omega)
    have c9:¬(e.op==9)=true:=by simp;omega
    rw [if_neg c9] at hv
    have key:∀c:Int,(e.op=5∧c=b)∨(e.op=6∧c=0-b)→tV (T2 env) (Bp e b s).1=tV (T2 env) s+b*(vl env (Ao e)).num+c*(vl env (Bi e)).num∧
        (-(At (Ao e):Int)*1099511627776≤(vl env (Ao e)).num∧(vl env (Ao e)).num≤(At (Ao e):Int)*1099511627776)∧(-(At (Bi e):Int)*1099511627776≤(vl env (Bi e)).num∧(vl env (Bi e)).num≤(At (Bi e):Int)*1099511627776):=by
      intro c hc
      rw [J9 hl hc] at h ⊢
      cases h1:(Bp (Ao e) b s).2 with
      | false=>rw [h1] at h;cases h
      | true=>
        rw [h1] at h
        obtain ⟨a1,a2,a3⟩:=ih _ m0 (A3 hk m0) k0 (by omega) (b:=b) (s:=s) h1
        obtain ⟨b1,b2,b3⟩:=ih _ m1 (A3 hk m1) k1 (by omega) (b:=c) (s:=(Bp (Ao e) b s).1) h
        refine ⟨?_,⟨a2,a3⟩,⟨b2,b3⟩⟩
        show tV (T2 env) (Bp (Bi e) c (Bp (Ao e) b s).1).1=_
        rw [b1,a1]
    rcases ho with ho | ho
    · obtain ⟨a1,⟨a2,a3⟩,⟨a4,a5⟩⟩:=key b (.inl ⟨ho,rfl⟩)
      have hw:(vl env e).num=(vl env (Ao e)).num+(vl env (Bi e)).num:=by
        rw [hv,ho]
        show IntKind.i64.wrap _=_
        exact nU (by omega)
      rw [a1,hw,Int.mul_add]
      refine ⟨by omega,by omega,by omega⟩
    · obtain ⟨a1,⟨a2,a3⟩,⟨a4,a5⟩⟩:=key (0-b) (.inr ⟨ho,rfl⟩)
      have hw:(vl env e).num=(vl env (Ao e)).num-(vl env (Bi e)).num:=by
        rw [hv,ho]
        show IntKind.i64.wrap _=_
        exact nU (by omega)
      rw [a1,hw,Int.mul_sub,Int.sub_mul,Int.zero_mul]
      refine ⟨by omega,by omega,by omega⟩
  · rw [Gx c c1 c2 c3] at h;cases h
theorem P9 {τ:Tm→Int}:∀{ts:List (Tm×Int)} {p m p' m':List Tm},Dv ts p m=some (p',m')→Xi τ ts+(p.map τ).sum-(m.map τ).sum=(p'.map τ).sum-(m'.map τ).sum
  | [],p,m,p',m',h=>by
    rw [Dv] at h;cases h;simp [Xi]
  | t::r,p,m,p',m',h=>by
    rw [Dv] at h
    by_cases h0:(t.2==0)=true
    · rw [if_pos h0] at h
      have:=P9 (τ:=τ) h
      have e0:t.2=0:=by simpa using h0
      simp only [Xi,List.map_cons,List.sum_cons,e0,Int.zero_mul] at this ⊢;omega
    · rw [if_neg h0] at h
      by_cases h1:(t.2==1)=true
      · rw [if_pos h1] at h
        have:=P9 (τ:=τ) h
        have e1:t.2=1:=by simpa using h1
        simp only [Xi,List.map_cons,List.sum_cons,e1,Int.one_mul,List.map_append,List.map_nil,List.sum_append,List.sum_nil] at this ⊢;omega
      · rw [if_neg h1] at h
        by_cases h2:(t.2 == -1)=true
        · rw [if_pos h2] at h
          have:=P9 (τ:=τ) h
          have e2:t.2 = -1:=by simpa using h2
          simp only [Xi,List.map_cons,List.sum_cons,e2,List.map_append,List.map_nil,List.sum_append,List.sum_nil] at this ⊢;omega
        · rw [if_neg h2] at h;cases h
def fU (τ:Tm→Int)(l:List Tm):Int:=(l.map τ).sum
/-- a difference is worth what is subtracted -/
theorem jV (hE:EnvOK T V env){a b:Ex}(ha:KOK T V a)(hb:KOK T V b)(ka:Am T V a=0)(kb:Am T V b=0)(hs:At a+At b≤64)(h:(Cj a b).2=true) :
    (vl env a).num-(vl env b).num=fU (T2 env) (Cj a b).1.plus-fU (T2 env) (Cj a b).1.minus+(Cj a b).1.rest∧(Cj a b).1.plus.length≤1∧(Cj a b).1.minus.length≤1:=by
  unfold Cj at h ⊢
  cases h1:(Bp a 1 Kx).2 with
  | false=>rw [h1] at h;cases h
  | true=>
    rw [h1] at h
    cases h2:(Bp b (-1) (Bp a 1 Kx).1).2 with
    | false=>rw [h2] at h;cases h
    | true=>
      rw [h2] at h
      simp only [Bool.not_true,Bool.false_eq_true,if_false] at h ⊢
      obtain ⟨a1,_,_⟩:=oQ hE a ha ka (by omega) (b:=1) (s:=Kx) h1
      obtain ⟨b1,_,_⟩:=oQ hE b hb kb (by omega) (b:=-1) h2
      unfold Rx at h ⊢
      cases hp:Dv (Bp b (-1) (Bp a 1 Kx).1).1.ts [] [] with
      | none=>rw [hp] at h;cases h
      | some q=>
        obtain ⟨p,m⟩:=q
        rw [hp] at h
        simp only [Bool.and_eq_true,decide_eq_true_eq] at h ⊢
        have h3:=P9 (τ:=T2 env) hp
        refine ⟨?_,by omega,by omega⟩
        have h4:tV (T2 env) Kx=0:=rfl
        simp only [tV] at a1 b1
        simp only [tV] at h4
        simp only [fU,List.map_nil,List.sum_nil] at h3 ⊢
        omega
end
end Go.Proofs.YtkddpedfbicbeaaGreatDoor
