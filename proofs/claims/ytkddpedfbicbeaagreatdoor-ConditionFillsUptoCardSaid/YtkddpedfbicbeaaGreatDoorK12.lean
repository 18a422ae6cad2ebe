/-
  Several texts in one: S30, S32, S34, S35, S36, S37, S39, At, S40. No condition.
-/
import Derived.Test.YtkddpedfbicbeaaGreatDoorK11
import Derived.Test.YtkddpedfbicbeaaGreatDoorK02
import Derived.Test.YtkddpedfbicbeaaGreatDoorK08
set_option linter.unusedVariables false
set_option linter.unusedSimpArgs false
namespace Go.Proofs.YtkddpedfbicbeaaGreatDoor
open Go Go.Aw
section
variable {T:List Sc} {V:List Va}
def litOKn (T:List Sc)(V:List Va)(n:Nat)(c:Cs):Prop:=∀x∈c.1,∀y∈x,KOK T V y.cond∧sizeN y.cond≤n
theorem lit_mono {n m:Nat}{c:Cs}(h:litOKn T V n c)(hm:n≤m):litOKn T V m c:=fun x hx y hy=>⟨(h x hx y hy).1,Nat.le_trans (h x hx y hy).2 hm⟩
theorem lit_times {n:Nat}{a b:Cs}(ha:litOKn T V n a)(hb:litOKn T V n b):litOKn T V n (timesS a b):=by
 unfold timesS
 split
 · intro x hx;cases hx
 ·
  unfold prodS
  split
  · intro x hx;cases hx
  ·
   intro x hx y hy
   obtain ⟨p,hp,hm⟩:=List.mem_flatMap.1 hx
   obtain ⟨q,hq,rfl⟩:=List.mem_map.1 hm
   rcases List.mem_append.1 hy with h | h
   · exact ha p hp y h
   · exact hb q hq y h
theorem lit_plus {n:Nat}{a b:Cs}(ha:litOKn T V n a)(hb:litOKn T V n b):litOKn T V n (plusS a b):=by
 unfold plusS
 split
 · intro x hx;cases hx
 ·
  intro x hx y hy
  rcases List.mem_append.1 hx with h | h
  · exact ha x h y hy
  · exact hb x h y hy
theorem lit_single {n:Nat}{l:List Lit}(h:∀y∈l,KOK T V y.cond∧sizeN y.cond≤n):litOKn T V n (singleC l):=by
 intro x hx y hy
 unfold singleC at hx
 obtain ⟨z,hz,rfl⟩:=List.mem_map.1 hx
 rw [List.mem_singleton.1 hy]
 exact h z hz
theorem kok_two {a b:Ex}(ha:KOK T V a)(hb:KOK T V b)(ka:kindR T V a=0)(kb:kindR T V b=0):KOK T V (two 7 a b):=by
 refine ⟨ha.ty,?_,?_⟩
 ·
  rw [nodesS_eq]
  have h1:nodeS (two 7 a b)=0:=by
   have hf:formS (two 7 a b)=0:=by simp [formS,two,usesS,isV0,v0]
   unfold nodeS
   rw [hf]
   simp [two,arityS,usesS]
  rw [h1]
  show firstS nodesS [a,b]=0
  simp [firstS,ha.nodes,hb.nodes]
 ·
  rw [kindS_eq]
  show (if [a,b].isEmpty then _ else _:Int×Int).2=0
  have e1:(kindS T V a).2=0:=ha.kind
  have e2:(kindS T V b).2=0:=hb.kind
  have k1:(kindS T V a).1=0:=by rw [kok_kind ha];exact ka
  have k2:(kindS T V b).1=0:=by rw [kok_kind hb];exact kb
  simp [two,firstS,e1,e2,k1,k2,operandsS,okS]
theorem size_two (a b:Ex):sizeN (two 7 a b)=1+sizeN a+sizeN b:=by
 rw [sizeN_eq];simp [two];omega
theorem norm_lits (e:Ex):KOK T V e→∀s,litOKn T V (sizeN e) (normS T V e s):=by
 refine Ex.ind (P:=fun e=>KOK T V e→∀s,litOKn T V (sizeN e) (normS T V e s)) (fun e ih hk s=>?_) e
 rcases norm_cases s hk with h | ⟨h,hl⟩ | ⟨h,hl⟩ | ⟨h,hl,h1⟩ | ⟨h,hl,h1,h2⟩ | ⟨_,_,_,h,_⟩
 ·
  cases h1:((e.val.num==1)==s) with
  | true=>rw [norm_0t h h1];intro x hx y hy;rw [List.mem_singleton.1 hx] at hy;cases hy
  | false=>rw [norm_0f h h1];intro x hx;cases hx
 ·
  rw [norm_12 hl h]
  exact lit_mono (ih _ (arg0_mem hl) (kok_arg hk (arg0_mem hl)) _) (Nat.le_of_lt (size0 hl))
 ·
  have m0:=arg0_mem (show 0<e.args.length by omega)
  have m1:=arg1_mem hl
  have hs:=arg_sizes hl
  have i0:=lit_mono (ih _ m0 (kok_arg hk m0) s) (show sizeN (arg0 e)≤sizeN e by omega)
  have i1:=lit_mono (ih _ m1 (kok_arg hk m1) s) (show sizeN (arg1 e)≤sizeN e by omega)
  cases h1:((e.op==10)==s) with
  | true=>rw [norm_1t hl h h1];exact lit_times i0 i1
  | false=>rw [norm_1f hl h h1];exact lit_plus i0 i1
 ·
  have m0:=arg0_mem (show 0<e.args.length by omega)
  have m1:=arg1_mem hl
  have hs:=arg_sizes hl
  have i0:=fun t=>lit_mono (ih _ m0 (kok_arg hk m0) t) (show sizeN (arg0 e)≤sizeN e by omega)
  have i1:=fun t=>lit_mono (ih _ m1 (kok_arg hk m1) t) (show sizeN (arg1 e)≤sizeN e by omega)
  rw [norm_9b hl h h1]
  exact lit_plus (lit_times (i0 _) (i1 _)) (lit_times (i0 _) (i1 _))
 ·
  have m0:=arg0_mem (show 0<e.args.length by omega)
  have m1:=arg1_mem hl
  have hs:=arg_sizes hl
  have h9:e.op=9:=by simpa using h
  have k0:kindR T V (arg0 e)=0:=by rw [Bool.and_eq_true] at h2;simpa using h2.1
  have k1:kindR T V (arg1 e)=0:=by rw [kok_same hk h9 m1];exact k0
  rw [norm_9i h h1 h2]
  refine lit_single fun y hy=>?_
  rcases List.mem_cons.1 hy with rfl | hy
  · exact ⟨kok_two (kok_arg hk m0) (kok_arg hk m1) k0 k1,by simp only;rw [size_two];omega⟩
  ·
   rw [List.mem_singleton.1 hy]
   exact ⟨kok_two (kok_arg hk m1) (kok_arg hk m0) k1 k0,by simp only;rw [size_two];omega⟩
 ·
  rw [h]
  exact lit_single fun y hy=>by rw [List.mem_singleton.1 hy];exact ⟨hk,Nat.le_refl _⟩
end
section
variable (T:List Sc) (V:List Va)
def evC (c:List Lit):List Ev:=evModS T V (stringsS T V c).1 c (solV T V c)
def vGo:Int→List (List Lit)→Int×List Ev
 | out,[]=>(out,[])
 | out,c::r=>if !solK T V c&&decide ((c.length:Int)≤256) then vGo out r else if certS T V c then (1,evC T V c) else vGo 0 r
def verdictS (c:Cs):Int×List Ev:=if !c.2 then (0,[]) else vGo T V 2 c.1
def condsE (es:List Ex):Int:=if (KindS T V (truthE true)).2 != 0 then (KindS T V (truthE true)).2 else if decide (256<(es.length:Int)) then 5 else firstS (condE T V) es
def prodL (es:List Ex)(c:Cs):Cs:=es.foldl (fun c e=>timesS c (normS T V e true)) c
/-- Possible: the verdict, the events, the error -/
def PossibleS (es:List Ex):Int×List Ev×Int:=if condsE T V es != 0 then (0,[],condsE T V es) else ((verdictS T V (prodL T V es ([[]],true))).1,(verdictS T V (prodL T V es ([[]],true))).2,0)
def impC (a b:Ex):Cs:=timesS (normS T V a true) (normS T V b false)
def ImpliesS (a b:Ex):Int×Int:=if condsE T V [a,b] != 0 then (0,condsE T V [a,b]) else if (verdictS T V (impC T V a b)).1==1 then (2,0) else if (verdictS T V (impC T V a b)).1==2 then (1,0) else ((verdictS T V (impC T V a b)).1,0)
end
section
variable {T:List Sc} {V:List Va}
theorem vGo_skip {o:Int}{c:List Lit}{r:List (List Lit)}(h:(!solK T V c&&decide ((c.length:Int)≤256))=true):vGo T V o (c::r)=vGo T V o r:=by rw [vGo,if_pos h]
theorem vGo_yes {o:Int}{c:List Lit}{r:List (List Lit)}(h:(!solK T V c&&decide ((c.length:Int)≤256))=false)(h2:certS T V c=true):vGo T V o (c::r)=(1,evC T V c):=by rw [vGo,ifF h,if_pos h2]
theorem vGo_on {o:Int}{c:List Lit}{r:List (List Lit)}(h:(!solK T V c&&decide ((c.length:Int)≤256))=false)(h2:certS T V c=false):vGo T V o (c::r)=vGo T V 0 r:=by rw [vGo,ifF h,ifF h2]
theorem cert_fits {c:List Lit}(h:certS T V c=true):fitsS (zoneS T V c)=true∧decide ((c.length:Int)≤256)=true:=by
 unfold certS at h
 rw [Bool.and_eq_true,Bool.and_eq_true] at h
 exact h.2
theorem vals_len {c:List Lit}(hl:LOK T V c)(h:(!solK T V c&&decide ((c.length:Int)≤256))=false)(h2:certS T V c=true):(sysGo T V c).ts.length+1≤(solV T V c).length:=by
  obtain ⟨h3,h4⟩:=cert_fits h2
  rw [h4,Bool.and_true] at h
  have hf:(!fitsS (zoneS T V c))=false:=by rw [h3];rfl
  have hk:solK T V c=true:=by simpa using h
  rw [solK_2 hf,Bool.and_eq_true] at hk
  rw [solV_2 hf]
  have hok:=hk.2
  rw [zone_is] at hok ⊢
  cases hz:zoneE (zn (zN T V c) (zoneS T V c).bs) != 0 with
  | true=>rw [Solve_1 hz] at hok;cases hok
  | false=>
    cases he:decide ((endS (zn (zN T V c) (zoneS T V c).bs)).2<0) with
    | false=>rw [Solve_3 hz he] at hok;cases hok
    | true=>
      rw [Solve_2 hz he]
      have:=(end_ok (zn_ok hz (zone_most hl))).s
      rw [List.length_map,this]
      exact Nat.le_refl _
theorem conds_1 {es:List Ex}(h:((KindS T V (truthE true)).2 != 0)=true):condsE T V es=(KindS T V (truthE true)).2:=by rw [condsE,if_pos h]
theorem conds_2 {es:List Ex}(h:((KindS T V (truthE true)).2 != 0)=false)(h2:decide ((256:Int)<(es.length:Int))=true):condsE T V es=5:=by rw [condsE,ifF h,if_pos h2]
theorem conds_f {es:List Ex}(h:((KindS T V (truthE true)).2 != 0)=false)(h2:decide ((256:Int)<(es.length:Int))=false):condsE T V es=firstS (condE T V) es:=by rw [condsE,ifF h,ifF h2]
theorem conds_zero {es:List Ex}(h:(condsE T V es != 0)=false):es.length≤256∧∀e∈es,KC T V e∧kindR T V e=1:=by
  have h0:condsE T V es=0:=by simpa using h
  cases h1:((KindS T V (truthE true)).2 != 0) with
  | true=>rw [conds_1 h1] at h0;rw [h0] at h1;cases h1
  | false=>
    cases h2:decide ((256:Int)<(es.length:Int)) with
    | true=>rw [conds_2 h1 h2] at h0;cases h0
    | false=>
      rw [conds_f h1 h2] at h0
      have h2':=of_decide_eq_false h2
      exact ⟨by omega,fun e he=>condE_kc (by rw [firstS_mem h0 e he];rfl)⟩
theorem conds_ty {es:List Ex}(h:(condsE T V es != 0)=false):TyOK8 T V:=by
 have h0:condsE T V es=0:=by simpa using h
 cases h1:((KindS T V (truthE true)).2 != 0) with
 | true=>rw [conds_1 h1] at h0;rw [h0] at h1;cases h1
 | false=>exact (KindS_kc (by simpa using h1)).kok.ty
theorem Poss_1 {es:List Ex}(h:(condsE T V es != 0)=true):PossibleS T V es=(0,[],condsE T V es):=by rw [PossibleS,if_pos h]
theorem Poss_2 {es:List Ex}{c:Cs}(h:(condsE T V es != 0)=false)(h2:prodL T V es ([[]],true)=c):PossibleS T V es=((verdictS T V c).1,(verdictS T V c).2,0):=by rw [PossibleS,ifF h,h2]
theorem verd_1 {c:Cs}(h:(!c.2)=true):verdictS T V c=(0,[]):=if_pos h
theorem verd_2 {c:Cs}(h:(!c.2)=false):verdictS T V c=vGo T V 2 c.1:=ifF h
theorem Imp_1 {a b:Ex}(h:(condsE T V [a,b] != 0)=true):ImpliesS T V a b=(0,condsE T V [a,b]):=by rw [ImpliesS,if_pos h]
theorem Imp_2 {a b:Ex}(h:(condsE T V [a,b] != 0)=false)(h2:((verdictS T V (impC T V a b)).1==1)=true):ImpliesS T V a b=(2,0):=by rw [ImpliesS,ifF h,if_pos h2]
theorem Imp_3 {a b:Ex}(h:(condsE T V [a,b] != 0)=false)(h2:((verdictS T V (impC T V a b)).1==1)=false)(h3:((verdictS T V (impC T V a b)).1==2)=true):ImpliesS T V a b=(1,0):=by rw [ImpliesS,ifF h,ifF h2,if_pos h3]
theorem Imp_4 {a b:Ex}(h:(condsE T V [a,b] != 0)=false)(h2:((verdictS T V (impC T V a b)).1==1)=false)(h3:((verdictS T V (impC T V a b)).1==2)=false):ImpliesS T V a b=((verdictS T V (impC T V a b)).1,0):=by rw [ImpliesS,ifF h,ifF h2,ifF h3]
theorem two_sizes {a b:Ex}{n:Nat}(ha:sizeN a≤n)(hb:sizeN b≤n):∀e∈[a,b],sizeN e≤n:=fun e he=>by
 rcases List.mem_cons.1 he with rfl | he
 · exact ha
 · rw [List.mem_singleton.1 he];exact hb
/-- clauses that can be solved -/
def vOK (T:List Sc)(V:List Va)(c:Cs):Prop:=c.1.length≤256∧∀x∈c.1,LOK T V x∧x.length≤4096
theorem vOK_of {n:Nat}{c:Cs}(h:csOK n c)(hl:litOKn T V 64 c)(hn:n≤4096):vOK T V c:=⟨h.len,fun x hx=>⟨fun y hy=>hl x hx y hy,Nat.le_trans (h.lits x hx) hn⟩⟩
theorem start_cs:csOK 0 ([[]],true):=⟨by simp,fun x hx=>by rw [List.mem_singleton.1 hx];exact Nat.le_refl _⟩
theorem start_lit {n:Nat}:litOKn T V n ([[]],true):=fun x hx y hy=>by rw [List.mem_singleton.1 hx] at hy;cases hy
end
set_option maxRecDepth 100000
/-! ### The chapter's example -/
def exT:List Sc:=[⟨[116,114,97,100,101],[⟨[115,121,109,98,111,108],2⟩,⟨[112,114,105,99,101],0⟩]⟩]
def exV:List Va:=[⟨[97],0⟩,⟨[98],0⟩]
def numE (n:Int):Ex:=constE ⟨0,n,[]⟩
def priE (v:Int):Ex:=⟨1,[],v,1,0,v0⟩
def symE (v:Int):Ex:=⟨1,[],v,0,0,v0⟩
def textE:Ex:=⟨0,[],0,0,0,⟨2,0,[120]⟩⟩
def lessE:Ex:=two 7 (priE 0) (numE 3)
def upE:Ex:=two 7 (priE 0) (priE 1)
def downE (n:Int):Ex:=two 7 (priE 1) (two 5 (priE 0) (numE n))
def countE:Ex:=two 9 ⟨3,[],0,0,0,v0⟩ (numE 2)
def clE:Ex:=notE (two 11 lessE (two 9 (priE 0) (priE 1)))
def clL:List (List Lit):=[[⟨lessE,true⟩,⟨two 7 (priE 0) (priE 1),false⟩],[⟨lessE,true⟩,⟨two 7 (priE 1) (priE 0),false⟩]]
def znE:Zn:=⟨3,[⟨1,0,1099511627776⟩,⟨0,1,1099511627776⟩,⟨2,0,1099511627776⟩,⟨0,2,1099511627776⟩,⟨0,1,-3⟩,⟨1,2,-1⟩]⟩
theorem ex_sc:∀s∈exT,scOK s:=by
 intro s hs
 rw [List.mem_singleton.1 hs]
 exact ⟨by decide,by decide,by decide⟩
theorem ex_cl:ClausesS exT exV clE=(clL,0):=by kernel_rfl
theorem ex_zn:ZoneS exT exV [⟨lessE,true⟩,⟨two 7 (priE 0) (priE 1),false⟩]=⟨znE,[priE 0,priE 1],0⟩:=by kernel_rfl
theorem ex_same:sameCls clL clL=true:=(sameCls_iff _ _).2 rfl
theorem ex_size (e:Ex)(h:decide (sizeN e≤100)=true):sizeN e≤1048576:=Nat.le_trans (of_decide_eq_true h) (by decide)
theorem ex_sizes (l:List Ex)(h:l.all (fun e=>decide (sizeN e≤100))=true):∀e∈l,sizeN e≤1048576:=fun e he=>ex_size e (List.all_eq_true.1 h e he)
theorem ex_sizes2:∀c∈clL,∀x∈c,sizeN x.cond≤1048576:=by
 intro c hc x hx
 have h:clL.all (fun c=>c.all fun x=>decide (sizeN x.cond≤100))=true:=by kernel_rfl
 exact ex_size _ (List.all_eq_true.1 (List.all_eq_true.1 h c hc) x hx)
def verS (want:Int)(es:List Ex):Bool:=(PossibleS exT exV es).2.2==0&&(PossibleS exT exV es).1==want
theorem ver_1:verS 2 [upE,downE 1]=true:=by kernel_rfl
theorem ver_2:verS 1 [upE,downE 2]=true:=by kernel_rfl
theorem ver_3:verS 2 [two 9 (symE 0) textE,two 9 (symE 1) (symE 0),notE (two 9 (symE 1) textE)]=true:=by kernel_rfl
theorem ver_4:verS 0 [countE]=true:=by kernel_rfl
theorem ver_5:verS 2 [countE,two 7 (priE 0) (priE 0)]=true:=by kernel_rfl
theorem imp_1:ImpliesS exT exV lessE (two 7 (priE 0) (numE 4))=(1,0):=by kernel_rfl
theorem imp_2:ImpliesS exT exV (two 7 (priE 0) (numE 4)) lessE=(2,0):=by kernel_rfl
/-! ### Smallness -/
def bigSc (s:Sc):Bool:=decide (20<(s.fields.length:Int))||decide (100<(s.name.length:Int))
def fewT (T:List Sc):Bool:=if T.any bigSc then false else decide ((T.length:Int)≤20)
def fewX (e:Ex):Bool:=decide (sizeN e≤200∧depthN e≤100)
def fewP (T:List Sc)(V:List Va)(es:List Ex):Bool:=
 if es.any (fun e=>!fewX e) then false else (fewT T&&decide ((V.length:Int)≤20))&&decide ((es.length:Int)≤10)
theorem any_hit {α:Type}{f:α→Bool}{l:List α}{k:Nat}{a:α}(h:l[k]? = some a)(hf:f a=true):l.any f=true:=List.any_eq_true.2 ⟨a,List.mem_of_getElem? h,hf⟩
theorem any_snoc {α:Type}{f:α→Bool}{l:List α}{k:Nat}{a:α}(hk:(l.take k).any f=false)(h:l[k]? = some a)(hf:f a=false):(l.take (k+1)).any f=false:=by
 rw [take_get h,List.any_append,hk,List.any_cons,hf];rfl
/-! ### Comparing -/
def sameAll (a b:List Ex):Bool:=decide (a.length=b.length)&&(a.zip b).all fun p=>sameS p.1 p.2
def sameBds:List Bd→List Bd→Bool
 | [],[]=>true
 | a::r,b::q=>(a.x==b.x&&a.y==b.y&&a.most==b.most)&&sameBds r q
 | _,_=>false

def okI (v:Vl):Prop:=v.kind=0→v.text = []
section
variable {T:List Sc} {V:List Va} {env:List (List Ev)}
/-- truth of what is a condition -/
def tv (env:List (List Ev))(e:Ex):Bool:=(evalS ⟨env,-1,ev0⟩ e).1.num==1
def vl (env:List (List Ev))(e:Ex):Vl:=(evalS ⟨env,-1,ev0⟩ e).1
theorem vl_def (env:List (List Ev))(e:Ex):(evalS ⟨env,-1,ev0⟩ e).1=vl env e:=rfl
end

section
variable {T:List Sc} {V:List Va} {env:List (List Ev)}
def litT (env:List (List Ev))(y:Lit):Bool:=tv env y.cond != y.neg
def clT (env:List (List Ev))(c:List Lit):Bool:=c.all (litT env)
def csT (env:List (List Ev))(l:List (List Lit)):Bool:=l.any (clT env)
end

section
variable {T:List Sc} {V:List Va} {env:List (List Ev)}
/-! ### Depth of literals -/
def litD (n:Nat)(c:Cs):Prop:=∀x∈c.1,∀y∈x,depthN y.cond≤n
/-! ### Kinds of literals -/
def litK (T:List Sc)(V:List Va)(c:Cs):Prop:=∀x∈c.1,∀y∈x,kindR T V y.cond=1
end

def numbersE (e:Ev):Int:=
 if decide (e.source<0)||decide (8≤e.source) then 32
 else if decide (e.seq<0)||decide (1099511627776<e.seq)||decide (e.time<0)||decide (1099511627776<e.time) then 2 else 0
def valE (v:Vl)(f:Fi):Int:=if vcheckS v != 0 then vcheckS v else if v.kind != f.kind then 9 else 0
def valsS:List Vl→List Fi→Int
 | v::r,f::s=>if valE v f != 0 then valE v f else valsS r s
 | _,_=>0
def fieldsOf (types:List Sc)(e:Ev):List Fi:=((types[e.type.toNat]?).getD sc0).fields
def validE (types:List Sc)(e:Ev):Int:=
 if numbersE e != 0 then numbersE e
 else if decide (e.type<0)||decide ((types.length:Int)≤e.type) then 6
 else if (e.values.length:Int) != ((fieldsOf types e).length:Int) then 15
 else valsS e.values (fieldsOf types e)
def evCheckE (types:List Sc)(e:Ev):Int:=if allTS types != 0 then allTS types else validE types e
def few1 (l:List Vl):Bool:=!((l.take 40).any fun v=>decide (128<v.text.length))&&decide (l.length<40)
def fewL (l:List Ev):Bool:=!((l.take 20).any fun e=>!few1 e.values)&&decide (l.length≤20)
theorem get_def {α:Type}{l:List α}{k:Nat}(d:α)(h:k<l.length):l[k]? = some ((l[k]?).getD d):=by
 rw [List.getElem?_eq_getElem h];rfl
theorem any_take {α:Type}(f:α→Bool){l:List α}{k:Nat}{x:α}(h:l[k]? = some x):(l.take (k+1)).any f=((l.take k).any f||f x):=by rw [take_get h];simp
theorem vals_drop {l:List Vl}{m:List Fi}{k:Nat}{v:Vl}{f:Fi}(hv:l[k]? = some v)(hf:m[k]? = some f):valsS (l.drop k) (m.drop k)=if valE v f != 0 then valE v f else valsS (l.drop (k+1)) (m.drop (k+1)):=by
 rw [drop_cons hv,drop_cons hf,valsS]
theorem vals_end2 (l:List Vl):valsS l []=0:=by cases l <;> rfl
theorem ty_in {n:Nat}{t:Int}(h:(decide (t<0)||decide ((n:Int)≤t))=false):0≤t∧t.toNat<n:=by
 simp only [Bool.or_eq_false_iff,decide_eq_false_iff_not] at h
 omega
theorem len_eq {n m:Nat}(h:((n:Int) != (m:Int))=false):n=m:=by
 have h1:(n:Int)=m:=by simpa using h
 omega
theorem few1_step {l:List Vl}{k:Nat}{a:Vl}(ha:l[k]? = some a)(h:(l.take k).any (fun v=>decide (128<v.text.length))=false)(h2:decide ((128:Int)<(a.text.length:Int))=false):(l.take (k+1)).any (fun v=>decide (128<v.text.length))=false:=by
 rw [any_take _ ha,h,Bool.false_or,decide_eq_false_iff_not]
 have:=of_decide_eq_false h2;omega
theorem few1_hit {l:List Vl}{k:Nat}{a:Vl}(ha:l[k]? = some a)(hk:k<40)(h2:decide ((128:Int)<(a.text.length:Int))=true):few1 l=false:=by
 have h3:(l.take 40).any (fun v=>decide (128<v.text.length))=true:=by
  rw [List.any_eq_true]
  exact ⟨a,List.mem_iff_getElem?.2 ⟨k,by rw [List.getElem?_take,if_pos hk];exact ha⟩,by have:=of_decide_eq_true h2;simp;omega⟩
 unfold few1;rw [h3];rfl
theorem take_lim {α:Type}{l:List α}{k n:Nat}(h:(decide ((k:Int)<(l.length:Int))&&decide ((k:Int)<(n:Int)))=false)(hk:k≤n):l.take k=l.take n:=by
 simp only [Bool.and_eq_false_iff,decide_eq_false_iff_not] at h
 by_cases hn:k=n
 · rw [hn]
 · rw [List.take_of_length_le (by omega),List.take_of_length_le (by omega)]
theorem few1_end {l:List Vl}{k:Nat}(h:(decide ((k:Int)<(l.length:Int))&&decide ((k:Int)<40))=false)(hk:k≤40)(ha:(l.take k).any (fun v=>decide (128<v.text.length))=false):few1 l=decide ((l.length:Int)<40):=by
 rw [take_lim (n:=40) h hk] at ha
 unfold few1;rw [ha,Bool.not_false,Bool.true_and,decide_eq_decide];omega
theorem fewL_hit {l:List Ev}{k:Nat}{a:Ev}(ha:l[k]? = some a)(hk:k<20)(h2:(!few1 a.values)=true):fewL l=false:=by
 have h3:(l.take 20).any (fun e=>!few1 e.values)=true:=by
  rw [List.any_eq_true]
  exact ⟨a,List.mem_iff_getElem?.2 ⟨k,by rw [List.getElem?_take,if_pos hk];exact ha⟩,h2⟩
 unfold fewL;rw [h3];rfl
theorem fewL_end {l:List Ev}{k:Nat}(h:(decide ((k:Int)<(l.length:Int))&&decide ((k:Int)<20))=false)(hk:k≤20)(ha:(l.take k).any (fun e=>!few1 e.values)=false):fewL l=decide ((l.length:Int)≤20):=by
 rw [take_lim (n:=20) h hk] at ha
 unfold fewL;rw [ha,Bool.not_false,Bool.true_and,decide_eq_decide];omega
/-! ### Suits -/
def unsuitB (T:List Sc)(p:Ev×Va):Bool:=evCheckE T p.1 != 0||p.1.type != p.2.type
def suitsS (T:List Sc)(V:List Va)(l:List Ev):Bool:=if (l.zip V).any (unsuitB T) then false else ((l.length:Int)==(V.length:Int))
def bindS (l:List Ev):List (List Ev):=l.map fun e=>[e]
theorem zip_get {α β:Type}{l:List α}{m:List β}{k:Nat}{x:α}{y:β}(hx:l[k]? = some x)(hy:m[k]? = some y):(l.zip m)[k]? = some (x,y):=by
 rw [List.getElem?_zip_eq_some];exact ⟨hx,hy⟩
theorem zip_end {α β:Type}{l:List α}{m:List β}{k:Nat}(h:(decide ((k:Int)<(l.length:Int))&&decide ((k:Int)<(m.length:Int)))=false):(l.zip m).take k=l.zip m:=by
 simp only [Bool.and_eq_false_iff,decide_eq_false_iff_not] at h
 exact List.take_of_length_le (by rw [List.length_zip];omega)
theorem vals_all:∀{l:List Vl} {m:List Fi},l.length=m.length→valsS l m=0→∀(k:Nat) (f:Fi),m[k]? = some f→∃w,l[k]? = some w∧Good w f.kind
  | [],[],_,_,k,f,h=>by simp at h
  | [],_::_,h,_,_,_,_=>by simp at h
  | _::_,[],h,_,_,_,_=>by simp at h
  | v::r,g::s,hl,h,k,f,hf=>by
    rw [valsS] at h
    cases h1:(valE v g != 0) with
    | true=>rw [if_pos h1] at h;rw [h] at h1;cases h1
    | false=>
      rw [ifF h1] at h
      cases k with
      | zero=>
        simp only [List.getElem?_cons_zero,Option.some.injEq] at hf
        subst hf
        refine ⟨v,rfl,?_⟩
        unfold valE at h1
        cases h2:(vcheckS v != 0) with
        | true=>rw [if_pos h2] at h1;rw [h1] at h2;cases h2
        | false=>
          rw [ifF h2] at h1
          cases h3:(v.kind != g.kind) with
          | true=>rw [if_pos h3] at h1;cases h1
          | false=>exact ⟨by simpa using h3,by simpa using h2⟩
      | succ k=>exact vals_all (by simpa using hl) h k f (by simpa using hf)
theorem valid_suit {T:List Sc}{e:Ev}(h:validE T e=0):∃s,T[e.type.toNat]? = some s∧SuitEv s e:=by
  unfold validE at h
  cases h1:(numbersE e != 0) with
  | true=>rw [if_pos h1] at h;rw [h] at h1;cases h1
  | false=>
    rw [ifF h1] at h
    cases h2:(decide (e.type<0)||decide ((T.length:Int)≤e.type)) with
    | true=>rw [if_pos h2] at h;cases h
    | false=>
      rw [ifF h2] at h
      cases h3:((e.values.length:Int) != ((fieldsOf T e).length:Int)) with
      | true=>rw [if_pos h3] at h;cases h
      | false=>
        rw [ifF h3] at h
        have hs:=get_def sc0 (ty_in h2).2
        exact ⟨_,hs,len_eq h3,vals_all (len_eq h3) h⟩
theorem check_valid {T:List Sc}{e:Ev}(h:evCheckE T e=0):validE T e=0:=by
 unfold evCheckE at h
 cases h1:(allTS T != 0) with
 | true=>rw [if_pos h1] at h;rw [h] at h1;cases h1
 | false=>rwa [ifF h1] at h
theorem suits_parts {T:List Sc}{V:List Va}{l:List Ev}(h:suitsS T V l=true):l.length=V.length∧∀(i:Nat) (v:Va),V[i]? = some v→∃e,l[i]? = some e∧evCheckE T e=0∧e.type=v.type:=by
  unfold suitsS at h
  cases h1:(l.zip V).any (unsuitB T) with
  | true=>rw [if_pos h1] at h;cases h
  | false=>
    rw [ifF h1] at h
    have hl : l.length = V.length := by have : (l.length : Int) = V.length := by simpa using h
                                        omega
    refine ⟨hl,fun i v hv=>?_⟩
    have hi:=get_lt' hv
    have hx:l[i]? = some (l[i]'(by omega)):=List.getElem?_eq_getElem (by omega)
    have h2:=Bool.eq_false_iff.2 (List.any_eq_false.1 h1 _ (List.mem_of_getElem? (zip_get hx hv)))
    unfold unsuitB at h2
    rw [Bool.or_eq_false_iff] at h2
    exact ⟨_,hx,by simpa using h2.1,by simpa using h2.2⟩
theorem suits_of {T:List Sc}{V:List Va}{l:List Ev}(h:suitsS T V l=true):Suits T V (bindS l):=by
 obtain ⟨hl,h1⟩:=suits_parts h
 refine ⟨by simp [bindS,hl],fun i v hv=>?_⟩
 obtain ⟨e,he,hc,ht⟩:=h1 i v hv
 obtain ⟨s,hs,hse⟩:=valid_suit (check_valid hc)
 exact ⟨s,e,by rw [←ht];exact hs,by simp [bindS,he],hse⟩
theorem bind_len (l:List Ev):∀x∈bindS l,x.length≤1048576:=fun x hx=>by
 obtain ⟨e,_,rfl⟩:=List.mem_map.1 hx
 exact (by decide:1≤1048576)
/-! ### The law's scene -/
def sceneS (T:List Sc)(V:List Va)(l:List Ev)(e:Ex):Bool:=(((fewP T V [e]&&fewL l)&&(allTS T==0))&&suitsS T V l)&&(condE T V e==0)

theorem okL_none_of:∀{l:List (Ex×Int)} {q:Ex×Int},q∈l→q.2≠0→∃p,(okL l).2=some p
  | [],_,h,_=>by cases h
  | a::r,q,h,hq=>by
    rw [okL]
    cases ha:(a.2 != 0) with
    | true=>exact ⟨a,by rw [if_pos rfl]⟩
    | false=>
      rw [ifF rfl]
      rcases List.mem_cons.1 h with rfl | h
      · have:q.2=0:=by simpa using ha
        exact absurd this hq
      · exact okL_none_of h hq
theorem okL_sumL:∀(l:List (Ex×Int)),((okL l).1.map sizeN).sum≤(l.map fun p=>sizeN p.1).sum
  | []=>Nat.le_refl _
  | p::r=>by
    rw [okL]
    split
    · simp
    · have:=okL_sumL r;simp only [List.map_cons,List.sum_cons];omega
theorem okL_someL:∀{l:List (Ex×Int)} {p},(okL l).2=some p→p∈l
  | [],_,h=>by cases h
  | q::r,p,h=>by
    rw [okL] at h
    split at h
    · cases h;exact List.mem_cons_self ..
    · exact List.mem_cons_of_mem _ (okL_someL h)
theorem sum_leL {α:Type}{f g:α→Nat}:∀{l:List α},(∀x∈l,f x≤g x)→(l.map f).sum≤(l.map g).sum
  | [],_=>Nat.le_refl _
  | a::r,h=>by
    have h1:=h a (List.mem_cons_self ..)
    have h2:=sum_leL (l:=r) fun x hx=>h x (List.mem_cons_of_mem _ hx)
    simp only [List.map_cons,List.sum_cons];omega
theorem mem_sumL {α:Type}{f:α→Nat}:∀{l:List α} {x:α},x∈l→f x≤(l.map f).sum
  | a::r,x,h=>by
    rcases List.mem_cons.1 h with rfl | h
    · simp only [List.map_cons,List.sum_cons];omega
    · have:=mem_sumL (f:=f) h;simp only [List.map_cons,List.sum_cons];omega
theorem known_sizeL (vars:List (List Ev))(e:Ex):sizeN (knownE vars e).1≤sizeN e:=by
  induction e using Ex.ind with
  | h e ih=>
    have hs:sizeN e=1+(e.args.map sizeN).sum:=by rw [sizeN_eq]
    have hk:((e.args.map (knownE vars)).map fun p=>sizeN p.1).sum≤(e.args.map sizeN).sum:=by rw [List.map_map];exact sum_leL fun x hx=>ih x hx
    rw [knownE_eq,knownN]
    split
    · split
      · exact Nat.le_refl _
      · show sizeN (constE _)≤_
        rw [sizeN_eq];simp [constE];omega
    · cases h:(okL (e.args.map (knownE vars))).2 with
      | some p=>
        obtain ⟨x,hx,rfl⟩:=List.mem_map.1 (okL_someL h)
        have:=ih x hx
        have:=mem_sumL (f:=sizeN) hx
        simp only;omega
      | none=>
        have:=okL_sumL (e.args.map (knownE vars))
        simp only;rw [sizeN_eq];simp only;omega
theorem depth_known (vars:List (List Ev))(e:Ex)(h:(knownE vars e).2=0):depthN (knownE vars e).1≤depthN e:=by
  induction e using Ex.ind with
  | h e ih=>
    have h1:1≤depthN e:=by rw [depthN_eq];omega
    cases ho:(e.op==1||e.op==2) with
    | true=>
      rw [knownE_eq,knownN,if_pos ho]
      split
      · exact Nat.le_refl _
      · show depthN (constE _)≤_
        rw [depthN_eq];simp [constE];omega
    | false=>
      rw [knownE_eq,knownN,ifF ho] at h ⊢
      cases hk:(okL (e.args.map (knownE vars))).2 with
      | some p=>rw [hk] at h;exact absurd h (okL_snd hk)
      | none=>
        have hz:∀a∈e.args,(knownE vars a).2=0:=fun a ha=>by
          by_cases h0:(knownE vars a).2=0
          · exact h0
          · exfalso
            obtain ⟨p,hp⟩:=okL_none_of (l:=e.args.map (knownE vars)) (q:=knownE vars a) (List.mem_map.2 ⟨a,ha,rfl⟩) h0
            rw [hp] at hk;cases hk
        have hl:(okL (e.args.map (knownE vars))).1=e.args.map fun a=>(knownE vars a).1:=by
          rw [okL_all (by intro x hx;obtain ⟨y,hy,rfl⟩:=List.mem_map.1 hx;exact hz y hy)];simp
        simp only
        rw [hl,depthN_eq,depthN_eq e]
        have key:∀l:List Ex,(∀a∈l,depthN (knownE vars a).1≤depthN a)→((l.map fun a=>(knownE vars a).1).map depthN).foldr max 0≤(l.map depthN).foldr max 0:=by
          intro l
          induction l with
          | nil=>intro _;simp
          | cons a r ihr=>
            intro h
            have h1:=h a (List.mem_cons_self ..)
            have h2:=ihr fun x hx=>h x (List.mem_cons_of_mem _ hx)
            simp only [List.map_cons,List.foldr_cons]
            omega
        have:=key e.args fun a ha=>ih a ha (hz a ha)
        simp only
        omega
theorem nodeS_const {v:Vl}(h:vcheckS v=0):nodeS (constE v)=0:=by
 have hf:formS (constE v)=0:=by simp [formS,constE,usesS]
 have hc:constS (constE v)=0:=by simp [constS,constE,h]
 unfold nodeS
 rw [hf,hc]
 simp [constE,arityS,usesS]
/-- some of what is known, the rest is not -/
structure Half (env kn:List (List Ev)):Prop where
 some:∀v:Int,eventsS kn v=eventsS env v∨eventsS kn v = []
/-- the times of the events are small -/
def TimesOK (env:List (List Ev)):Prop:=∀l∈env,∀ev∈l,vcheckS ⟨0,ev.time,[]⟩=0
section
variable {T:List Sc} {V:List Va} {env kn:List (List Ev)}
/-- the event of a variable that is read -/
theorem read_event (hS:Suits T V env)(hT:TimesOK env){e:Ex}(hk:KOK T V e)(ho:(e.op==1||e.op==2)=true) :
  ∃ev,eventsS env e.var = [ev]∧(readE e ev).2=0∧vcheckS (readE e ev).1=0∧evalS ⟨env,-1,ev0⟩ e=((readE e ev).1,0):=by
 have hz:=(nodes_zero hk.nodes).1
 have hvr:=node_var hz
 have hfr:=node_field hz
 have hop:e.op=1∨e.op=2:=by simpa using ho
 have ha:e.args = []:=leaf_nil hz (by omega)
 have hkk:=hk.kind
 rw [kok_leaf hk (by omega)] at hkk
 unfold leafK at hkk
 have h0:¬(e.op==0)=true:=by simp;omega
 rw [if_neg h0] at hkk
 by_cases h1:decide ((V.length:Int)≤e.var)=true
 · rw [if_pos h1] at hkk;cases hkk
 rw [if_neg h1] at hkk
 have hlt:e.var<(V.length:Int):=by simp at h1;omega
 obtain ⟨v,hv⟩:=get_int (l:=V) hvr.1 hlt
 obtain ⟨s,ev,hs,hev,hse⟩:=hS.2 _ v hv
 have hel:e.var<(env.length:Int):=by rw [hS.1];exact hlt
 have hevs:eventsS env e.var = [ev]:=events_at hvr.1 hev
 have hown:(e.var != -1)=true:=by simp;omega
 refine ⟨ev,hevs,?_⟩
 rw [eval_leaf ha,leaf_read hevs hown h0 (by omega) (by omega)]
 rcases hop with hop | hop
 ·
  have hfl:fldsS T V e.var=s.fields:=flds_of hv hs
  rw [hfl,if_neg (by simp [hop])] at hkk
  by_cases h4:decide ((s.fields.length:Int)≤e.field)=true
  · rw [if_pos h4] at hkk;cases hkk
  obtain ⟨f,hf⟩:=get_int (l:=s.fields) hfr (by simp at h4;omega)
  obtain ⟨w,hw,hgw⟩:=hse.2 _ f hf
  have hr:readE e ev=(w,0):=by
   unfold readE
   rw [if_pos (by simp [hop]),if_neg (by rw [hse.1];exact h4),hw]
   simp [hgw.2]
  rw [hr]
  refine ⟨rfl,hgw.2,?_⟩
  have hfs:fieldS ev e.field=(w,0):=by
   unfold fieldS
   rw [if_neg (by rw [hse.1];exact h4),hw];rfl
  unfold readS
  rw [if_neg (by simp [hop]),hfs,if_pos (by rfl),if_neg (by rw [hgw.2];decide)]
 ·
  have ht:=hT _ (List.mem_of_getElem? hev) ev (List.mem_cons_self ..)
  have hr:readE e ev=(⟨0,ev.time,[]⟩,0):=by
   unfold readE
   rw [if_neg (by simp [hop]),ht]
  rw [hr]
  refine ⟨rfl,ht,?_⟩
  unfold readS
  rw [if_pos (by simp [hop])]
theorem eval_args {x:Evr}{e:Ex}{g:Ex→Ex}(h:∀a∈e.args,evalS x (g a)=evalS x a):evalS x ⟨e.op,e.args.map g,e.var,e.field,e.kind,e.val⟩=evalS x e:=by
  by_cases ha:e.args = []
  · cases e;simp only at ha;subst ha;rfl
  · rw [evalS_eq,evalS_eq x e]
    have h1:(e.args.map g).isEmpty=e.args.isEmpty:=by cases e.args <;> rfl
    have key:∀l:List Ex,(∀a∈l,evalS x (g a)=evalS x a)→firstS (fun a=>(evalS x a).2) (l.map g)=firstS (fun a=>(evalS x a).2) l∧((l.map g).map fun a=>(evalS x a).1)=l.map fun a=>(evalS x a).1:=by
      intro l
      induction l with
      | nil=>intro _;exact ⟨rfl,rfl⟩
      | cons a r ih=>
        intro h
        obtain ⟨h2,h3⟩:=ih fun x hx=>h x (List.mem_cons_of_mem _ hx)
        have h4:=h a (List.mem_cons_self ..)
        simp only [List.map_cons,firstS,h4,h2,h3,and_self]
    obtain ⟨h2,h3⟩:=key e.args h
    simp only
    have hi:e.args.isEmpty=false:=by simpa using ha
    rw [h1,h2,h3,hi]
    simp only [Bool.false_eq_true,if_false]
theorem known_all (hS:Suits T V env)(hT:TimesOK env)(hH:Half env kn)(e:Ex):KOK T V e→
    (knownE kn e).2=0∧nodesS (knownE kn e).1=0∧evalS ⟨env,-1,ev0⟩ (knownE kn e).1=evalS ⟨env,-1,ev0⟩ e:=by
  refine Ex.ind (P:=fun e=>KOK T V e→(knownE kn e).2=0∧nodesS (knownE kn e).1=0∧evalS ⟨env,-1,ev0⟩ (knownE kn e).1=evalS ⟨env,-1,ev0⟩ e) (fun e ih hk=>?_) e
  cases ho:(e.op==1||e.op==2) with
  | true=>
    obtain ⟨ev,h1,h2,h3,h4⟩:=read_event hS hT hk ho
    rcases hH.some e.var with h | h
    · rw [knownE_last (v:=ev) ho (h.trans h1) rfl]
      refine ⟨h2,?_,by rw [eval_const,h4]⟩
      rw [nodesS_eq,nodeS_const h3];rfl
    · rw [knownE_none ho (by rw [h];rfl)]
      exact ⟨rfl,hk.nodes,rfl⟩
  | false=>
    have hi:=fun a ha=>ih a ha (kok_arg hk ha)
    rw [knownE_ok ho fun a ha=>(hi a ha).1]
    refine ⟨rfl,?_,eval_args fun a ha=>(hi a ha).2.2⟩
    rw [nodesS_eq]
    have h1:nodeS (⟨e.op,e.args.map (fun a=>(knownE kn a).1),e.var,e.field,e.kind,e.val⟩:Ex)=nodeS e:=by
      unfold nodeS constS formS
      simp only [List.length_map]
    rw [h1,(nodes_zero hk.nodes).1]
    show firstS nodesS (e.args.map fun a=>(knownE kn a).1)=0
    have key:∀l:List Ex,(∀a∈l,nodesS (knownE kn a).1=0)→firstS nodesS (l.map fun a=>(knownE kn a).1)=0:=by
      intro l
      induction l with
      | nil=>intro _;rfl
      | cons a r ihr=>
        intro h
        simp only [List.map_cons,firstS,h a (List.mem_cons_self ..)]
        exact ihr fun x hx=>h x (List.mem_cons_of_mem _ hx)
    exact key _ fun a ha=>(hi a ha).2.1
theorem Known_ok (hS:Suits T V env)(hT:TimesOK env)(hH:Half env kn){e:Ex}(hk:KOK T V e)(hc:checkS e=0) :
  (KnownS kn e).2=0∧(KnownS kn e).1=(knownE kn e).1∧EvalS ⟨env,-1,ev0⟩ (KnownS kn e).1=EvalS ⟨env,-1,ev0⟩ e:=by
 obtain ⟨h1,h2,h3⟩:=known_all hS hT hH e hk
 have h4:KnownS kn e=((knownE kn e).1,0):=by
  unfold KnownS
  rw [if_neg (by rw [hc];decide),if_neg (by rw [h1];decide)]
 have hp:=check_parts hc
 have h5:checkS (knownE kn e).1=0:=check_of (Nat.le_trans (known_sizeL kn e) hp.1) (Nat.le_trans (depth_known kn e h1) hp.2.1) h2
 rw [h4]
 refine ⟨rfl,rfl,?_⟩
 unfold EvalS
 rw [hc,h5,h3]
end
/-! ### Reads -/
def readsN:Ex→Nat:=recE fun e ns=>(if e.op==1||e.op==2 then 1 else 0)+ns.sum
theorem readsN_eq (e:Ex):readsN e=(if e.op==1||e.op==2 then 1 else 0)+(e.args.map readsN).sum:=recE_eq _ e
theorem reads_size (e:Ex):readsN e≤sizeN e:=by
  induction e using Ex.ind with
  | h e ih=>
    rw [readsN_eq,sizeN_eq]
    have:=sum_leL (f:=readsN) (g:=sizeN) ih
    split <;> omega
theorem sum_take_le {e a:Ex}{k n c:Nat}(ha:e.args[k]? = some a)(h:n=c+((e.args.take k).map readsN).sum)(hc:c=if e.op==1||e.op==2 then 1 else 0)(he:readsN e=(if e.op==1||e.op==2 then 1 else 0)+(e.args.map readsN).sum):n+readsN a≤readsN e:=by
 have h1:((e.args.take (k+1)).map readsN).sum≤(e.args.map readsN).sum:=by
  have:=List.take_append_drop (k+1) e.args
  conv=>rhs;rw [←this,List.map_append,List.sum_append]
  omega
 rw [take_get ha,List.map_append,List.sum_append] at h1
 simp only [List.map_cons,List.map_nil,List.sum_cons,List.sum_nil] at h1
 omega
theorem reads_none {T:List Sc}{V:List Va}{env:List (List Ev)}(hS:Suits T V env)(hT:TimesOK env)(e:Ex):KOK T V e→readsN (knownE env e).1=0:=by
  refine Ex.ind (P:=fun e=>KOK T V e→readsN (knownE env e).1=0) (fun e ih hk=>?_) e
  cases ho:(e.op==1||e.op==2) with
  | true=>
    obtain ⟨ev,h1,_⟩:=read_event hS hT hk ho
    rw [knownE_last (v:=ev) ho h1 rfl,readsN_eq];rfl
  | false=>
    have hi:=fun a ha=>ih a ha (kok_arg hk ha)
    rw [knownE_ok ho fun a ha=>(known_all hS hT ⟨fun v=>.inl rfl⟩ a (kok_arg hk ha)).1,readsN_eq]
    simp only [ho,Bool.false_eq_true,if_false,List.map_map]
    have key:∀l:List Ex,(∀a∈l,readsN (knownE env a).1=0)→(l.map (readsN ∘ fun a=>(knownE env a).1)).sum=0:=by
      intro l
      induction l with
      | nil=>intro _;rfl
      | cons a r ihr=>
        intro h
        simp only [List.map_cons,List.sum_cons,Function.comp,h a (List.mem_cons_self ..)]
        have:=ihr fun x hx=>h x (List.mem_cons_of_mem _ hx)
        simpa [Function.comp] using this
    rw [key _ hi]
/-! ### What the law leaves out -/
def halfS (l:List (List Ev)):Nat→List (List Ev)
 | 0=>l
 | k+1=>if k % 2=1 then (halfS l k).set k [] else halfS l k
theorem half_len (l:List (List Ev)):∀k,(halfS l k).length=l.length
  | 0=>rfl
  | k+1=>by
    rw [halfS];split
    · rw [List.length_set,half_len l k]
    · exact half_len l k
theorem half_get (l:List (List Ev)):∀k i,i<l.length→(halfS l k)[i]? = l[i]?∨(halfS l k)[i]? = some []
  | 0,i,_=>.inl rfl
  | k+1,i,hi=>by
    rw [halfS];split
    · rw [List.getElem?_set]
      split
      · rename_i h;subst h;rw [if_pos (by rw [half_len];exact hi)];exact .inr rfl
      · exact half_get l k i hi
    · exact half_get l k i hi
theorem half_half (l:List (List Ev))(k:Nat):Half l (halfS l k):=⟨fun v=>by
 unfold eventsS
 rw [half_len]
 split
 · exact .inl rfl
 ·
  rename_i h
  have hv:v.toNat<l.length:=by simp at h;omega
  rcases half_get l k v.toNat hv with h1 | h1 <;> rw [h1]
  · exact .inl rfl
  · exact .inr rfl⟩
theorem half_mem {P:List Ev→Prop}(h0:P []){l:List (List Ev)}(h:∀x∈l,P x):∀k,∀x∈halfS l k,P x
  | 0=>h
  | k+1=>by
    rw [halfS];split
    · intro x hx
      rcases List.mem_or_eq_of_mem_set hx with hx | rfl
      · exact half_mem h0 h k x hx
      · exact h0
    · exact half_mem h0 h k
theorem times_of {T:List Sc}{V:List Va}{l:List Ev}(h:suitsS T V l=true):TimesOK (bindS l):=by
  obtain ⟨hl,h1⟩:=suits_parts h
  intro x hx ev hev
  obtain ⟨e,he,rfl⟩:=List.mem_map.1 hx
  rw [List.mem_singleton] at hev;subst hev
  obtain ⟨i,hi⟩:=List.mem_iff_getElem?.1 he
  have hlt:=get_lt' hi
  obtain ⟨e',he',hc,_⟩:=h1 i (V[i]'(by omega)) (List.getElem?_eq_getElem (by omega))
  rw [hi] at he';cases he'
  have hv:=check_valid hc
  unfold validE at hv
  cases h2:(numbersE ev != 0) with
  | true=>rw [if_pos h2] at hv;rw [hv] at h2;cases h2
  | false=>
    have h3:numbersE ev=0:=by simpa using h2
    unfold numbersE at h3
    split at h3
    · cases h3
    split at h3
    · cases h3
    · rename_i h4
      simp only [Bool.or_eq_true,decide_eq_true_eq,not_or] at h4
      unfold vcheckS vsizeS
      simp
      omega
end Go.Proofs.YtkddpedfbicbeaaGreatDoor

namespace Go.Aw
open Go

section
variable {P:Program} {T:List (Nat×TD)} {d:Option Nat} {ty:TypeId} {pos:String} {aft:Array Edge} {gd:Option (Nat×Bool)} {ρ:Operand→AV}

/-- a slice literal without elements -/
theorem E_bufLit {t e z:Nat}{td te:TD}{H:List HO}(hT:TOK P T)(ht:tget T t=some td)(hk:td.kind = .slice e)(hte:tget T e=some te)(hz:te.size=z)(hp:Nat.blt 0 z=true) :
  OpE P ⟨d,.buildSlice t 0 #[],ty,pos,aft,gd⟩ ρ H (fun x H'=>∃v,x = .val v∧H' = .buf v [] e z::H):=by
 intro g w a next Q hr hH hnx
 obtain ⟨cells,h1,h2,h3⟩:=run_buildSlice (n:=0) (parts:=#[]) (ρ:=ρ) (g:=g) (w:=w) (a:=a) hT ht hk hte hz rfl (by simp) rfl (fun p hp=>by cases hp)
 unfold Oper.wp
 simp only [execOp,Sem.run_bind,h1,Result.andThen_ok,Sem.run_pure]
 have hx:=Ext.alloc g w (.cells cells e) (some 0)
 refine hnx (g.put w.heap.size (some 0)) _ _ _ _ ⟨_,rfl,rfl⟩ (.val _) ((hH.alloc _ _).cons ?_ ?_) hx
 · exact .inr ⟨w.heap.size,0,cells,rfl,Gh.put_same _ _ _,alloc_new w _,h2,Nat.le_refl _,Nat.zero_le _,(by intro e he;cases he),(by intro i x hi;cases hi)⟩
 ·
  intro b hb x hx' hb'
  simp only [HO.blk,Option.some.injEq] at hb
  have:=(HO.ok_lt (hH.ok x hx') hb').1
  omega
/-- append of elements to a buffer -/
theorem E_appendBufs {x y:Operand}{t e k z:Nat}{td te:TD}{v:Value}{es es2:List (List AV)}{H:List HO}(hT:TOK P T)(hx:ρ x = .val v)(hy:ρ y = .sl z es2)(ht:tget T t=some td)(hk:td.kind = .slice e)
  (hte:tget T e=some te) (hz:te.size=z) (hp:Nat.blt 0 z=true) (hH:H[k]? = some (.buf v es e z)) (hs:∀c∈es2,scalars c=true) (hne:es2≠[]) (hb:(es.length+es2.length)*te.bytes≤140737488355328) (hm:es.length+es2.length≤maxLen) :
  OpE P ⟨d,.call ⟨.builtin .append,#[x,y],#[t,t]⟩,ty,pos,aft,gd⟩ ρ H (fun r H'=>∃v',r = .val v'∧H'=H.set k (.buf v' (es++es2) e z)):=by
 intro g w a next Q hr hHK hn
 have hpos:0<z:=by simpa using hp
 have e1:=(hx▸hr x (by simp [Op.operands,Call.operands]):Rep g w _ _).inv_val
 have r2:=(hy▸hr y (by simp [Op.operands,Call.operands]):Rep g w _ _)
 have hu:=slice_inv (hT t td ht) hk
 obtain ⟨it,hit,his,hib,zv,hzv,hzs,_⟩:=(hT e te hte).info
 have hok:=hHK.ok _ (List.mem_of_getElem? hH)
 obtain ⟨a2,m,c2,h21,h22,h23,h24,_⟩:=r2.inv_sl
 have hm1:m=es2.length:=h22
 subst hm1
 have hpl:0<es2.length:=List.length_pos_iff.2 hne
 have fin:∀v' g' w',(Builtin.append_ #[t,t] ty #[a.eval x,a.eval y]).run P w = .ok v' w'→HOK g' w' (H.set k (.buf v' (es++es2) e z))→Ext g w g' w'→Oper.wp P ⟨d,.call ⟨.builtin .append,#[x,y],#[t,t]⟩,ty,pos,aft,gd⟩ a w next Q:=by
  intro v' g' w' hrun hok' hext
  unfold Oper.wp
  rw [exec_builtin' (v:=v') (w':=w') (by
   have:(#[x,y]:Array Operand).map a.eval = #[a.eval x,a.eval y]:=by simp
   rw [this]
   simp only [builtin,Sem.run_bind,hrun,Result.andThen_ok,Sem.run_pure])]
  exact hn g' w' v' _ _ ⟨v',rfl,rfl⟩ (.val _) hok' hext
 rw [h21] at r2
 obtain ⟨_,hz2,b2,o2,hb2,news,n1,n2,n3,n4⟩:=cells_lists r2 hpos hs hne
 subst hb2
 have hnews:∀j u,news[j]? = some u→w.cell? ((⟨b2,o2,none⟩:Addr).add j)=some u:=fun j u hj=>by rw [add_lit];exact (n4 j u hj).2
 have hsz:it.size=z:=by rw [his,hz]
 have hnl:news.length=es2.length*it.size:=by rw [n1,hsz]
 have hmax:maxLen=9223372036854775807:=rfl
 have hlen:(es++es2).length=es.length+es2.length:=List.length_append
 rcases hok with ⟨rfl,h0⟩ | ⟨b,cap,cur,rfl,hg,hcur,hcsz,hcap,hcmax,hz1,hrep⟩
 ·
  subst h0
  simp only [List.nil_append,List.length_nil,Nat.zero_add] at hb hm fin ⊢
  have hbb:es2.length*it.bytes≤281474976710656:=by rw [hib];omega
  have hrun:=run_append_nil (P:=P) w t ty e it zv hu hit hzv ⟨b2,o2,none⟩ es2.length c2 news hnl hnews (by omega) (by omega) hbb
  have hext:Ext g w (g.put w.heap.size (some 0)) (w.drew.alloc (.cells (news.toArray++Builtin.zeroCells zv.cells (grownCap w es2.length 0 e-es2.length)) e)):=(Ext.drew g w).trans (Ext.alloc g w.drew _ _)
  have hcapm:es2.length≤grownCap w es2.length 0 e:=grownCap_ge w es2.length 0 e
  have hcapM:=grownCap_le_maxLen w es2.length 0 e (by omega)
  refine fin _ (g.put w.heap.size (some 0)) _ (by rw [e1,h21];exact hrun) ?_ hext
  refine hHK.set hext hH (fun b hb=>?_) (.inr ⟨w.heap.size,grownCap w es2.length 0 e,_,rfl,Gh.put_same _ _ _,alloc_new w.drew _,?_,hcapm,hcapM,hz2,fun i x hi=>?_⟩) (fun c hc _ _=>?_)
  · simp only [HO.blk,Option.some.injEq] at hb;exact .inr (by omega)
  ·
   simp only [Array.size_append,List.size_toArray,n1,size_zeroCells,hzs,hz,Nat.sub_mul]
   have:=Nat.mul_le_mul_right z hcapm
   omega
  ·
   have h3:=(n2.mono hext).2 i x hi
   have hlt:i<news.length:=by
    have:=(List.getElem?_eq_some_iff.1 hi).1
    rw [flatten_len hz2] at this
    omega
   have e2:(news.toArray++Builtin.zeroCells zv.cells (grownCap w es2.length 0 e-es2.length)).getD i undef=news.toArray.getD i undef:=by
    rw [Array.getD_eq_getD_getElem?,Array.getD_eq_getD_getElem?,Array.getElem?_append_left (by simpa using hlt)]
   rw [e2];exact h3
  · exact ⟨Gh.put_ne _ _ (by omega),alloc_old w.drew _ hc⟩
 ·
  have hfl:es.flatten.length=es.length*z:=by rw [flatten_len hz1]
  have hle:es.length*z≤cur.size:=by rw [hcsz];exact Nat.mul_le_mul_right z hcap
  have hzall:∀x∈es++es2,x.length=z:=fun x hx=>by
   rcases List.mem_append.1 hx with h | h
   · exact hz1 x h
   · exact hz2 x h
  have rl1:RepL g w (cur.toList.take (es.length*z)).toArray es.flatten:=by
   refine ⟨by simp [hfl];omega,fun i x hi=>?_⟩
   have hlt:=(List.getElem?_eq_some_iff.1 hi).1
   have h3:=hrep i x hi
   have e2:(cur.toList.take (es.length*z)).toArray.getD i undef=cur.getD i undef:=by
    simp only [Array.getD_eq_getD_getElem?,List.getElem?_toArray,List.getElem?_take,Array.getElem?_toList]
    rw [if_pos (by omega)]
   rw [e2];exact h3
  have hrl:RepL g w ((cur.toList.take (es.length*z)).toArray++news.toArray) (es++es2).flatten:=by
   rw [List.flatten_append];exact rl1.append n2
  have htk:(cur.toList.take (es.length*z)).length=es.length*z:=by simp;omega
  have hfl2:(es++es2).flatten.length=es.length*z+es2.length*z:=by rw [flatten_len hzall,hlen,Nat.add_mul]
  by_cases hroom:es.length+es2.length≤cap
  ·
   have hfit:es.length*it.size+news.length≤cur.size:=by
    rw [hsz,n1,hcsz,←Nat.add_mul];exact Nat.mul_le_mul_right z hroom
   have hrun:=run_append_room (P:=P) w t ty e it hu hit b es.length cap cur hcur ⟨b2,o2,none⟩ es2.length c2 news hnl hnews n3 hroom hfit
   rw [hsz] at hrun hfit
   have hnew:=setRow_heap w b cur (cur.toList.take (es.length*z)++news++cur.toList.drop (es.length*z+news.length)).toArray e (0,0) hcur
   have hext:Ext g w g (w.setRow b (cur.toList.take (es.length*z)++news++cur.toList.drop (es.length*z+news.length)).toArray):=Ext.setRow hg
   refine fin _ g _ (by rw [e1,h21];exact hrun) ?_ hext
   refine hHK.set hext hH (fun b' hb'=>.inl hb') (.inr ⟨b,cap,_,by rw [hlen],hg,hnew,?_,by rw [hlen];exact hroom,hcmax,hzall,fun i x hi=>?_⟩) (fun c hc hne _=>?_)
   · simp only [List.size_toArray,List.length_append,List.length_take,List.length_drop,Array.length_toList];omega
   ·
    have h3:=(hrl.mono hext).2 i x hi
    have hlt:=(List.getElem?_eq_some_iff.1 hi).1
    have e2:(cur.toList.take (es.length*z)++news++cur.toList.drop (es.length*z+news.length)).toArray.getD i undef=((cur.toList.take (es.length*z)).toArray++news.toArray).getD i undef:=by
     have e3:(cur.toList.take (es.length*z)++news++cur.toList.drop (es.length*z+news.length)).toArray=((cur.toList.take (es.length*z)).toArray++news.toArray)++(cur.toList.drop (es.length*z+news.length)).toArray:=by
      apply Array.toList_inj.1;simp
     rw [e3,Array.getD_eq_getD_getElem?,Array.getD_eq_getD_getElem?,Array.getElem?_append_left (by simp only [Array.size_append,List.size_toArray];omega)]
    rw [e2];exact h3
   · exact ⟨rfl,setRow_other w b c _ (fun h=>hne (by rw [h];rfl))⟩
  ·
   have hg':cap<es.length+es2.length:=by omega
   have hfit:Builtin.nextslicecap (es.length+es2.length) cap*it.bytes≤281474976710656:=growslice_fits hg' (by rw [hib];exact hb)
   have hol:(cur.toList.take (es.length*z)).length=es.length*it.size:=by rw [htk,hsz]
   have holds:∀j u,(cur.toList.take (es.length*z))[j]? = some u→w.cell? ((⟨b,0,none⟩:Addr).add j)=some u:=fun j u hj=>by
    rw [add_lit,Nat.zero_add,cell_of_heap hcur]
    rw [List.getElem?_take] at hj
    split at hj
    · simpa using hj
    · cases hj
   have hrun:=run_append_grow (P:=P) w t ty e it zv hu hit hzv ⟨b,0,none⟩ es.length cap (cur.toList.take (es.length*z)) hol holds ⟨b2,o2,none⟩ es2.length c2 news hnl hnews hg' (by omega) hfit
   have hext:Ext g w (g.put w.heap.size (some 0)) (w.drew.alloc (.cells ((cur.toList.take (es.length*z)).toArray++news.toArray++Builtin.zeroCells zv.cells (grownCap w (es.length+es2.length) cap e-(es.length+es2.length))) e)):=(Ext.drew g w).trans (Ext.alloc g w.drew _ _)
   have hcapm:=grownCap_ge w (es.length+es2.length) cap e
   have hcapM:=grownCap_le_maxLen w (es.length+es2.length) cap e (by omega)
   refine fin _ (g.put w.heap.size (some 0)) _ (by rw [e1,h21];exact hrun) ?_ hext
   refine hHK.set hext hH (fun b' hb'=>?_) (.inr ⟨w.heap.size,grownCap w (es.length+es2.length) cap e,_,by rw [hlen],Gh.put_same _ _ _,alloc_new w.drew _,?_,by rw [hlen];exact hcapm,hcapM,hzall,fun i x hi=>?_⟩) (fun c hc _ _=>?_)
   · simp only [HO.blk,Option.some.injEq] at hb';exact .inr (by omega)
   ·
    simp only [Array.size_append,List.size_toArray,n1,size_zeroCells,hzs,hz,Nat.sub_mul,hol,hsz]
    have:=Nat.mul_le_mul_right z hcapm
    rw [Nat.add_mul] at this
    rw [Nat.add_mul]
    omega
   ·
    have h3:=(hrl.mono hext).2 i x hi
    have hlt:=(List.getElem?_eq_some_iff.1 hi).1
    have e2:((cur.toList.take (es.length*z)).toArray++news.toArray++Builtin.zeroCells zv.cells (grownCap w (es.length+es2.length) cap e-(es.length+es2.length))).getD i undef=((cur.toList.take (es.length*z)).toArray++news.toArray).getD i undef:=by
     rw [Array.getD_eq_getD_getElem?,Array.getD_eq_getD_getElem?,Array.getElem?_append_left (by simp only [Array.size_append,List.size_toArray];omega)]
    rw [e2];exact h3
   · exact ⟨Gh.put_ne _ _ (by omega),alloc_old w.drew _ hc⟩
end
end Go.Aw

namespace Go.Proofs.YtkddpedfbicbeaaGreatDoor
open Go Go.Aw

section
variable {L:List (List Ev)} {p:Nat} {J:List AV}
theorem ev_flat:∀L:List (List Ev),(L.map cEvs).flatten=L.map fun x=>AV.sl 5 (x.map cEv)
 | []=>rfl
 | x::r=>by rw [List.map_cons,List.flatten_cons,ev_flat r];rfl
theorem fl_le (hp:p<L.length):Nat.ble (0+((p:Int)).toNat*1+1) ((L.map cEvs).flatten++J).length=true:=by
 refine nat_ble ?_
 rw [List.length_append,ev_flat,List.length_map]
 omega
theorem fl_seg (x:AV)(hp:p<L.length):setSeg ((L.map cEvs).flatten++J) (0+((p:Int)).toNat*1) [x]=((L.map cEvs).flatten++J).set p x:=by
 have hl:p<((L.map cEvs).flatten++J).length:=by rw [List.length_append,ev_flat,List.length_map];omega
 rw [show 0+((p:Int)).toNat*1=p by omega]
 unfold setSeg
 rw [List.set_eq_take_append_cons_drop,if_pos hl]
 simp
theorem fl_at (x:AV)(hp:p<L.length):(setSeg ((L.map cEvs).flatten++J) (0+((p:Int)).toNat*1) [x])[p]? = some x:=by
 have hl:p<((L.map cEvs).flatten++J).length:=by rw [List.length_append,ev_flat,List.length_map];omega
 rw [fl_seg x hp,List.getElem?_set_self hl]
theorem fl_set (x:AV)(hp:p<L.length):(setSeg ((L.map cEvs).flatten++J) (0+((p:Int)).toNat*1) [x]).set p (.sl 5 [])=((L.set p []).map cEvs).flatten++J:=by
 have hl:p<(L.map fun x=>AV.sl 5 (x.map cEv)).length:=by rw [List.length_map];exact hp
 rw [fl_seg x hp,List.set_set,ev_flat,ev_flat,List.map_set,List.set_append_left _ _ hl]
 rfl
theorem fl_one (L:List (List Ev)):∀e∈L.map cEvs,e.length=1:=by
 intro e he
 obtain ⟨x,_,rfl⟩:=List.mem_map.1 he
 rfl
theorem half_odd {l:List (List Ev)}{k:Nat}(h:(Int.tmod (k:Int) 2==1)=true):halfS l (k+1)=(halfS l k).set k []:=by
 have h1:Int.tmod (k:Int) 2=1:=by simpa using h
 have h2:k % 2=1:=by rw [Int.tmod_eq_emod_of_nonneg (by omega)] at h1;omega
 rw [halfS,if_pos h2]
theorem half_even {l:List (List Ev)}{k:Nat}(h:(Int.tmod (k:Int) 2==1)=false):halfS l (k+1)=halfS l k:=by
 have h1:Int.tmod (k:Int) 2≠1:=by simpa using h
 have h2:¬k % 2=1:=by rw [Int.tmod_eq_emod_of_nonneg (by omega)] at h1;omega
 rw [halfS,if_neg h2]
end
section
variable {T:List Sc} {V:List Va} {l:List Ev} {e:Ex}
/-- what the law's conditions give -/
structure FillOK (T:List Sc) (V:List Va) (l:List Ev) (e:Ex):Prop where
 kc:KC T V e
 suits:Suits T V (bindS l)
 times:TimesOK (bindS l)
theorem kind_kc (h:(KindS T V e).2=0):KC T V e:=by
  unfold KindS at h
  cases h1:(allTS T != 0) with
  | true=>rw [if_pos h1] at h;simp only at h;rw [h] at h1;cases h1
  | false=>
    rw [ifF h1] at h
    cases h2:(varsE T V != 0) with
    | true=>rw [if_pos h2] at h;simp only at h;rw [h] at h2;cases h2
    | false=>
      rw [ifF h2] at h
      cases h3:(checkS e != 0) with
      | true=>rw [if_pos h3] at h;simp only at h;rw [h] at h3;cases h3
      | false=>
        rw [ifF h3] at h
        have hc:checkS e=0:=by simpa using h3
        exact ⟨⟨tyok_of (varsE_zero (by simpa using h2)),(check_parts hc).2.2,h⟩,by simpa using h1,by simpa using h2,hc⟩
theorem fill_ok (hs:suitsS T V l=true)(hk:(KindS T V e).2=0):FillOK T V l e:=⟨kind_kc hk,suits_of hs,times_of hs⟩
theorem fills_ok {a b:Bool}{c:Int}(h:(((!a || !b)||(c != 0)) || !suitsS T V l)=false)(hk:((KindS T V e).2 != 0)=false):FillOK T V l e:=by
 rw [Bool.or_eq_false_iff] at h
 exact fill_ok (by simpa using h.2) (by simpa using hk)
theorem bind_vals (h:∀v∈l,v.values.length≤1048576):∀x∈bindS l,∀v∈x,v.values.length≤1048576:=by
 intro x hx v hv
 obtain ⟨y,hy,rfl⟩:=List.mem_map.1 hx
 rw [List.mem_singleton.1 hv];exact h y hy
theorem FillOK.val (h:FillOK T V l e):(EvalS ⟨bindS l,-1,ev0⟩ e).2=0:=by
 unfold EvalS
 rw [if_neg (by rw [h.kc.check];decide)]
 exact (progress h.suits e h.kc.kok.nodes h.kc.kok.kind).1
theorem FillOK.half (h:FillOK T V l e)(k:Nat):(KnownS (halfS (bindS l) k) e).2=0∧EvalS ⟨bindS l,-1,ev0⟩ (KnownS (halfS (bindS l) k) e).1=EvalS ⟨bindS l,-1,ev0⟩ e:=by
 have h1:=Known_ok h.suits h.times (half_half (bindS l) k) h.kc.kok h.kc.check
 exact ⟨h1.1,h1.2.2⟩
theorem FillOK.all (h:FillOK T V l e):(KnownS (bindS l) e).2=0∧EvalS ⟨bindS l,-1,ev0⟩ (KnownS (bindS l) e).1=EvalS ⟨bindS l,-1,ev0⟩ e∧readsN (KnownS (bindS l) e).1=0:=by
 have h1:=Known_ok h.suits h.times ⟨fun v=>.inl rfl⟩ h.kc.kok h.kc.check
 exact ⟨h1.1,h1.2.2,by rw [h1.2.1];exact reads_none h.suits h.times e h.kc.kok⟩
end
end Go.Proofs.YtkddpedfbicbeaaGreatDoor
