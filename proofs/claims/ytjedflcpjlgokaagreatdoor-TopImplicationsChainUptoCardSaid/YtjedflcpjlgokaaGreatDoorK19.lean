/-
  Several texts in one: S23, S23b, S23c, S25, As. No condition.
-/
import Derived.Test.YtjedflcpjlgokaaGreatDoorS22
import Derived.Test.YtjedflcpjlgokaaGreatDoorAr
import Derived.Test.YtjedflcpjlgokaaGreatDoorK18
set_option linter.unusedVariables false
set_option linter.unusedSimpArgs false
namespace Go.Aw
open Go
section
variable {P:Program} {T:List (Nat×TD)} {d:Option Nat} {ty:TypeId} {pos:String} {aft:Array Edge} {gd:Option (Nat×Bool)} {ρ:Operand→AV} {K:List HO→Prop}
theorem nZ {x:Operand}{t yt e z:Nat}{td:TD}{es:List (List AV)}(hT:G3 P T)(hx:ρ x = .sl z es)(hne:es≠[])(ht:Bl T t=some td)(hk:td.kind = .slice e) :
  C6 P ⟨d,.binOp .neq t x (.const (.slice none 0 0)) yt,ty,pos,aft,gd⟩ ρ K (.bool true):=
 .of_run fun g w a hr=>by
  obtain ⟨a0,n,cap,h1,h2,_,_,h5⟩:=(hx▸hr x (by simp [Op.operands]):Rep g w _ _).inv_sl
  have hu:=Ef (hT t td ht) hk
  rcases h5 with h5 | ⟨b,o,rfl,_⟩
  · exact absurd h5 hne
  ·
   refine ⟨.bool true,?_,.bool _⟩
   have e2:a.eval (.const (.slice none 0 0)) = .slice none 0 0:=rfl
   simp only [execOp,h1,e2]
   rw [Sem.run_bind,Sem.run_bind,Gi rfl]
   have:=Ys (n:=9999) hu (some ⟨b,o,none⟩) n cap w
   simp only [Result.andThen_ok,binOp,Op.equal,Op.maxDepth,Sem.run_bind,this,Sem.run_pure]
   rfl
theorem pS {x:Operand}{t yt e:Nat}{td:TD}(hT:G3 P T)(hx:ρ x = .val (.slice none 0 0))(ht:Bl T t=some td)(hk:td.kind = .slice e) :
  C6 P ⟨d,.binOp .neq t x (.const (.slice none 0 0)) yt,ty,pos,aft,gd⟩ ρ K (.bool false):=
 .of_run fun g w a hr=>by
  have h1:=(hx▸hr x (by simp [Op.operands]):Rep g w _ _).inv_val
  have hu:=Ef (hT t td ht) hk
  refine ⟨.bool false,?_,.bool _⟩
  have e2:a.eval (.const (.slice none 0 0)) = .slice none 0 0:=rfl
  simp only [execOp,h1,e2]
  rw [Sem.run_bind,Sem.run_bind,Gi rfl]
  have:=Ys (n:=9999) hu none 0 0 w
  simp only [Result.andThen_ok,binOp,Op.equal,Op.maxDepth,Sem.run_bind,this,Sem.run_pure]
  rfl
end
end Go.Aw
namespace Go.Proofs.YtjedflcpjlgokaaGreatDoor
open Go Go.Aw

def bI (l:List Int):List AV:=l.map (AV.int .i64)
def cI (v:Int):List AV:=[.int .i64 v]
theorem Wf (l:List Int):(bI l).length=l.length:=List.length_map ..
theorem bI_sc (l:List Int):Bc (bI l)=true:=by
 induction l with
 | nil=>rfl
 | cons a r ih=>exact ih
theorem uC (l m:List Int):bI (l++m)=bI l++bI m:=List.map_append ..
theorem lC (l:List Int)(k:Nat):(bI l).take k=bI (l.take k):=(List.map_take ..).symm
theorem wB (l:List Int)(k:Nat):(bI l).drop k=bI (l.drop k):=(List.map_drop ..).symm
theorem aF (n:Nat):(List.replicate n [AV.int .i64 0]).flatten=bI (List.replicate n 0):=by
 induction n with
 | zero=>rfl
 | succ n ih=>rw [List.replicate_succ,List.flatten_cons,ih,List.replicate_succ];rfl
theorem wX (l:List Int):(l.map cI).flatten=bI l:=by
 induction l with
 | nil=>rfl
 | cons a r ih=>rw [List.map_cons,List.flatten_cons,ih];rfl
theorem uJ {α:Type}{f:α→List AV}(hf:∀x,(f x).length=1)(l:List α):∀e∈l.map f,e.length=1:=fun e he=>by
 obtain ⟨x,_,rfl⟩:=List.mem_map.1 he
 exact hf x
theorem jU {l:List Int}{k:Int}(h0:0≤k)(h:k<(l.length:Int)):l[k.toNat]? = some (D7 l k):=by
 unfold D7
 have:k.toNat<l.length:=by omega
 rw [List.getElem?_eq_getElem this];rfl
theorem W4 {l:List Int}{k:Int}(h0:0≤k)(h:k<(l.length:Int)):(bI l)[k.toNat]? = some (.int .i64 (D7 l k)):=by
 unfold bI;rw [List.getElem?_map,jU h0 h];rfl
theorem bT:∀{l:List Int} {k:Nat} {v:Int},k<l.length→Fb (bI l) k [AV.int .i64 v]=bI (l.set k v)
  | [],k,v,h=>absurd h (by simp)
  | a::r,0,v,h=>by simp [Fb,bI]
  | a::r,k+1,v,h=>by
    have ih:=bT (l:=r) (k:=k) (v:=v) (by simpa using h)
    show AV.int .i64 a::Fb (bI r) k [AV.int .i64 v]=_
    rw [ih];rfl
theorem bJ (n:Nat):0+n*1=n:=by omega
theorem aB {l:List Int}{k:Nat}(h:k<l.length):Nat.ble (k+1) (bI l).length=true:=Nat.ble_eq_true_of_le (by rw [Wf];omega)

def M0 (n:Nat):List Int:=List.replicate n (-1)
def K5 (n k:Nat):List Int:=List.replicate k (-1)++List.replicate (n-k) 0
theorem Vq {n k:Nat}(h:k≤n):(K5 n k).length=n:=by unfold K5;simp;omega
theorem oD (n:Nat):K5 n n=M0 n:=by unfold K5 M0;simp
theorem oU {n k m:Nat}(hk:k+m≤n)(hm:m≤k):Fb (bI (K5 n k)) k (((bI (K5 n k)).drop 0).take m)=bI (K5 n (k+m)):=by
 rw [List.drop_zero,lC]
 have h1:(K5 n k).take m=List.replicate m (-1):=by
  unfold K5
  rw [List.take_append_of_le_length (by rw [List.length_replicate];exact hm),List.take_replicate,Nat.min_eq_left hm]
 have h2:(K5 n k).take k=List.replicate k (-1):=by
  unfold K5
  rw [List.take_append_of_le_length (by rw [List.length_replicate];omega),List.take_replicate,Nat.min_self]
 have h3:(K5 n k).drop (k+m)=List.replicate (n-(k+m)) 0:=by
  unfold K5
  rw [List.drop_append,List.length_replicate,List.drop_of_length_le (by rw [List.length_replicate];omega),List.nil_append,List.drop_replicate]
  congr 1;omega
 unfold Fb
 rw [h1,Wf,List.length_replicate,lC,wB,h2,h3,←uC,←uC]
 congr 1
 unfold K5
 rw [List.replicate_append_replicate]
theorem gX {n:Nat}(hn:0<n):Fb (bI (K5 n 0)) 0 ((([[AV.int .i64 (-1)]]:List (List AV)).flatten).take 1)=bI (K5 n 1):=by
 unfold K5
 obtain ⟨m,rfl⟩:∃m,n=m+1:=⟨n-1,by omega⟩
 simp [Fb,bI,List.replicate_succ]
theorem kMul1 (n:Nat)(hn:n≤1048576):Ax Tryz.prog 103 [.int .u64 1,.int .u64 (n:Int)] (.tuple [.int .u64 0,.int .u64 (n:Int)]):=by
 have h:=kMul 1 n (by decide) (by omega)
 rw [Nat.one_mul,Nat.div_eq_of_lt (by omega),Nat.mod_eq_of_lt (by omega)] at h
 exact h
theorem u64_in {n:Nat}(h:n≤1048576):IntKind.wrap .u64 (n:Int)=(n:Int):=by
 unfold IntKind.wrap
 simp [IntKind.bits,IntKind.signed]
 omega
theorem i64_in {n:Nat}(h:n≤1048576):IntKind.wrap .i64 (n:Int)=(n:Int):=IntWalk.i64_in _ (by omega)

def I4:Int:=140737488355329
structure znOK (n:Nat) (bs:List Bd):Prop where
 n1:1≤n
 n64:n≤64
 len:bs.length≤256
 bd:∀b∈bs,0≤b.x∧b.x<(n:Int)∧0≤b.y∧b.y<(n:Int)
 most:∀b∈bs,-I4≤b.most∧b.most≤I4
structure dsOK (n:Nat) (C:Int) (d:Ds):Prop where
 s:d.sums.length=n
 l:d.last.length=n
 r:∀v∈d.sums,-C≤v∧v≤0
theorem dsOK.mono {n:Nat}{C C':Int}{d:Ds}(h:dsOK n C d)(hc:C≤C'):dsOK n C' d:=⟨h.s,h.l,fun v hv=>by have:=h.r v hv;omega⟩
theorem ix_mem {l:List Int}{k:Int}(h0:0≤k)(h:k<(l.length:Int)):D7 l k∈l:=List.mem_of_getElem? (jU h0 h)
theorem dsOK.ix {n:Nat}{C:Int}{d:Ds}(h:dsOK n C d){k:Int}(h0:0≤k)(hk:k<(n:Int)) : -C≤D7 d.sums k∧D7 d.sums k≤0:=h.r _ (ix_mem h0 (by rw [h.s];exact hk))
theorem Om {i:Nat}{b:Bd}{s:Ds×Int}(h:decide (D7 s.1.sums b.y+b.most<D7 s.1.sums b.x)=true) :
 Nf i b s=(⟨s.1.sums.set b.x.toNat (D7 s.1.sums b.y+b.most),s.1.last.set b.x.toNat (i:Int)⟩,b.x):=if_pos h
theorem Wh {i:Nat}{b:Bd}{s:Ds×Int}(h:decide (D7 s.1.sums b.y+b.most<D7 s.1.sums b.x)=false):Nf i b s=s:=if_neg (by rw [h];decide)
theorem vM {n:Nat}{C:Int}{i:Nat}{b:Bd}{s:Ds×Int}(hd:dsOK n C s.1)(hb:0≤b.x∧b.x<(n:Int)∧0≤b.y∧b.y<(n:Int))(hm : -I4≤b.most∧b.most≤I4):dsOK n (C+I4) (Nf i b s).1:=by
  have hbig:(0:Int)≤I4:=by decide
  cases h:decide (D7 s.1.sums b.y+b.most<D7 s.1.sums b.x) with
  | false=>rw [Wh h];exact hd.mono (by omega)
  | true=>
    rw [Om h]
    have h1:=hd.ix hb.2.2.1 hb.2.2.2
    have h2:=hd.ix hb.1 hb.2.1
    have h3:=of_decide_eq_true h
    refine ⟨by simp only [List.length_set];exact hd.s,by simp only [List.length_set];exact hd.l,fun v hv=>?_⟩
    rcases List.mem_or_eq_of_mem_set hv with hv | rfl
    · have:=hd.r v hv;omega
    · omega
theorem gN {n:Nat}:∀{bs:List Bd} {i:Nat} {s:Ds×Int} {C:Int},(∀b∈bs,0≤b.x∧b.x<(n:Int)∧0≤b.y∧b.y<(n:Int))→(∀b∈bs,-I4≤b.most∧b.most≤I4)→dsOK n C s.1→dsOK n (C+(bs.length:Int)*I4) (Fo i bs s).1
  | [],i,s,C,_,_,hd=>hd.mono (by simp)
  | b::r,i,s,C,hb,hm,hd=>by
    rw [Fo]
    refine (gN (fun b hb'=>hb b (List.mem_cons_of_mem _ hb')) (fun b hb'=>hm b (List.mem_cons_of_mem _ hb')) (vM hd (hb b (List.mem_cons_self ..)) (hm b (List.mem_cons_self ..)))).mono ?_
    rw [List.length_cons];push_cast;rw [Int.add_mul];omega
theorem aI {n:Nat}{bs:List Bd}{d:Ds}{C:Int}(hz:znOK n bs)(hd:dsOK n C d):dsOK n (C+256*I4) (I7 bs d).1:=by
 refine (gN (s:=(d,-1)) hz.bd hz.most hd).mono ?_
 have:=hz.len
 unfold I4
 omega
theorem Ql {bs:List Bd}{k:Nat}{b:Bd}{s:Ds×Int}(h:bs[k]? = some b):Fo k (bs.drop k) s=Fo (k+1) (bs.drop (k+1)) (Nf k b s):=by rw [A4 h,Fo]
theorem X2 {bs:List Bd}{k:Nat}{s:Ds×Int}(h:bs.drop k = []):Fo k (bs.drop k) s=s:=by rw [h,Fo]
theorem J0 {bs:List Bd}{m:Nat}{s:Ds×Int}(h:decide ((I7 bs s.1).2<0)=true):Dw bs (m+1) s=I7 bs s.1:=by rw [Dw,if_pos h]
theorem L5 {bs:List Bd}{m:Nat}{s:Ds×Int}(h:decide ((I7 bs s.1).2<0)=false):Dw bs (m+1) s=Dw bs m (I7 bs s.1):=by rw [Dw,if_neg (by rw [h];decide)]
def zn (n:Nat)(bs:List Bd):Zn:=⟨(n:Int),bs⟩
theorem Mn (n:Nat)(bs:List Bd):D1 (zn n bs)=Dw bs (n+1) (⟨List.replicate n 0,M0 n⟩,-1):=by unfold D1 start zn M0;simp
theorem gA (n:Nat):dsOK n 0 ⟨List.replicate n 0,M0 n⟩:=⟨by simp,by simp [M0],fun v hv=>by rw [(List.mem_replicate.1 hv).2];omega⟩
def Ve (bs:List Bd)(d:Ds)(a:Int):Bool:=decide (0≤a)&&decide (a<(d.last.length:Int))&&decide (0≤D7 d.last a)&&decide (D7 d.last a<(bs.length:Int))
def Kx (bs:List Bd)(d:Ds):Nat→Int→Bool
 | 0,_=>true
 | k+1,a=>Ve bs d a&&Kx bs d k (H6 bs d a)
def J8 (bs:List Bd)(d:Ds)(f:Int):Nat→Int→Bool
 | 0,_=>false
 | k+1,a=>Ve bs d a&&(H6 bs d a==f||J8 bs d f k (H6 bs d a))
def Mi (n:Nat)(bs:List Bd):Bool:=
 Kx bs (D1 (zn n bs)).1 n (D1 (zn n bs)).2&&J8 bs (D1 (zn n bs)).1 (Js bs (D1 (zn n bs)).1 n (D1 (zn n bs)).2) (n+1) (Js bs (D1 (zn n bs)).1 n (D1 (zn n bs)).2)
structure okA (bs:List Bd) (d:Ds) (a:Int) (b:Bd):Prop where
 a0:0≤a
 al:a<(d.last.length:Int)
 l0:0≤D7 d.last a
 at_:bs[(D7 d.last a).toNat]? = some b
 pred:H6 bs d a=b.y
theorem cN {bs:List Bd}{d:Ds}{a:Int}(h:Ve bs d a=true):∃b,okA bs d a b:=by
 unfold Ve at h
 simp only [Bool.and_eq_true,decide_eq_true_eq] at h
 obtain ⟨⟨⟨h1,h2⟩,h3⟩,h4⟩:=h
 have hlt:(D7 d.last a).toNat<bs.length:=by omega
 have hg:=List.getElem?_eq_getElem hlt
 exact ⟨_,h1,h2,h3,hg,by unfold H6;rw [hg];rfl⟩
theorem wC {bs:List Bd}{d:Ds}{k:Nat}{a:Int}(h:Kx bs d (k+1) a=true):Ve bs d a=true∧Kx bs d k (H6 bs d a)=true:=by
 rw [Kx,Bool.and_eq_true] at h;exact h
theorem aR {bs:List Bd}{d:Ds}{f:Int}{k:Nat}{a:Int}(h:J8 bs d f k a=true):∃m,k=m+1∧Ve bs d a=true∧(H6 bs d a==f||J8 bs d f m (H6 bs d a))=true:=by
 cases k with
 | zero=>cases h
 | succ m=>rw [J8,Bool.and_eq_true] at h;exact ⟨m,rfl,h⟩
theorem Vk {bs:List Bd}{d:Ds}{k:Nat}{a:Int}:Js bs d (k+1) a=Js bs d k (H6 bs d a):=rfl
theorem iH {bs:List Bd}{k:Nat}{b:Bd}(h:bs[k]? = some b):(bs.map Qu)[k]? = some [.int .i64 b.x,.int .i64 b.y,.int .i64 b.most]:=by rw [List.getElem?_map,h];rfl
theorem Qi {α:Type}{f:α→Int}:∀{l:List α},Aq f l=0→∀x∈l,f x=0
  | [],_,x,hx=>by cases hx
  | a::r,h,x,hx=>by
    rw [Aq] at h
    split at h
    · rename_i hn;exact absurd h (by simpa using hn)
    · rename_i hn
      rcases List.mem_cons.1 hx with rfl | hx
      · simpa using hn
      · exact Qi h x hx
theorem bE {n:Int}{bs:List Bd}(h:(He ⟨n,bs⟩ != 0)=false):1≤n∧n≤64∧bs.length≤256∧∀b∈bs,0≤b.x∧b.x<n∧0≤b.y∧b.y<n:=by
 have h0:He ⟨n,bs⟩=0:=by simpa using h
 unfold He at h0
 split at h0
 · cases h0
 rename_i h1
 split at h0
 · cases h0
 rename_i h2
 simp only [Bool.or_eq_true,decide_eq_true_eq] at h1 h2
 refine ⟨by omega,by omega,by omega,fun b hb=>?_⟩
 have h3:=Qi h0 b hb
 unfold bdE at h3
 split at h3
 · cases h3
 ·
  rename_i h4
  simp only [Bool.or_eq_true,decide_eq_true_eq] at h4
  omega
theorem uQ {bs:List Bd}{d:Ds}{f:Int}{k:Nat}{a:Int}(h:J8 bs d f k a=true):Ve bs d a=true:=by
 obtain ⟨m,_,h1,_⟩:=aR h;exact h1
theorem eH {bs:List Bd}{d:Ds}{f:Int}{k:Nat}{a:Int}{b:Bd}(h:J8 bs d f k a=true)(ok:okA bs d a b)(hn:(b.y==f)=false):J8 bs d f (k-1) b.y=true∧2≤k:=by
 obtain ⟨m,rfl,_,h2⟩:=aR h
 rw [ok.pred,hn,Bool.false_or] at h2
 obtain ⟨m',rfl,_,_⟩:=aR h2
 exact ⟨h2,by omega⟩
theorem tL {bs:List Bd}{d:Ds}{f:Int}{k:Nat}{a:Int}{b:Bd}(h:J8 bs d f k a=true)(ok:okA bs d a b):Ka bs d f k a=D7 d.last a::if b.y==f then [] else Ka bs d f (k-1) b.y:=by
 obtain ⟨m,rfl,_,_⟩:=aR h
 rw [Ka,ok.pred];rfl
theorem cyc_on {bs:List Bd}{d:Ds}{f:Int}{n:Nat}{a:Int}{b:Bd}{es W:List Int}(hW:W=es++Ka bs d f (n+1-es.length) a)(h:J8 bs d f (n+1-es.length) a=true)(ok:okA bs d a b)(hn:(b.y==f)=false):W=(es ++ [D7 d.last a])++Ka bs d f (n+1-(es.length+1)) b.y:=by
 rw [hW,tL h ok,hn,if_neg (by decide),List.append_assoc,show n+1-(es.length+1)=n+1-es.length-1 by omega];rfl
theorem wF {bs:List Bd}{d:Ds}{f:Int}{n:Nat}{a:Int}{b:Bd}{es W:List Int}(hW:W=es++Ka bs d f (n+1-es.length) a)(h:J8 bs d f (n+1-es.length) a=true)(ok:okA bs d a b)(hn:(b.y==f)=true):es ++ [D7 d.last a]=W:=by
 rw [hW,tL h ok,hn,if_pos rfl]
theorem cyc_ne {bs:List Bd}{d:Ds}{f:Int}{n:Nat}{a:Int}:(Ka bs d f (n+1) a).map cI≠[]:=by rw [Ka];intro h;cases h
theorem kQ {n:Nat}{bs:List Bd}{s:Ds×Int}{q:Int}(he:D1 (zn n bs)=s)(hn:decide ((D1 (zn n bs)).2<0)=false)(hq:Js bs s.1 n s.2=q):(Sk (zn n bs)).2=Ka bs s.1 q (n+1) q:=by
 subst hq;subst he
 unfold Sk
 rw [C3 hn];rfl
theorem sol_ne {n:Nat}{bs:List Bd}(hn:decide ((D1 (zn n bs)).2<0)=false):(Sk (zn n bs)).2.map cI≠[]:=by rw [kQ rfl hn rfl];exact cyc_ne
theorem kC {tmps:Array Value}{b6 n0:Nat}{x:Int}(hsz:tmps.size=n0)(h53:Nat.blt 53 n0=true)(h6:tmps.getD 6 undef = .pointer (some ⟨b6,0,none⟩)):∀g w vs,Cu g w vs [AV.int .i64 x]→∀j,
    Rep g w ((((#[53]:Array Tmp).zip vs).foldl (fun t (p,v)=>t.setIfInBounds p v) tmps).getD j undef) (get [(53,.int .i64 x),(6,.val (.pointer (some ⟨b6,0,none⟩)))] j):=by
  intro g w vs hr j
  have h0:=hr.2 0 _ rfl
  have hs:vs.size=1:=hr.1
  obtain ⟨u, rfl⟩ : ∃ u, vs = #[u] := ⟨vs[0], by apply Array.ext; simp [hs]; intro i h1 h2; have : i = 0 := by omega
                                                 subst this;rfl⟩
  have hu:u = .int .i64 x:=by have:=h0.inv_int;simpa using this
  subst hu
  have hlt:53<tmps.size:=by have:=Nat.le_of_ble_eq_true h53;omega
  rw [←Array.foldl_toList,Array.toList_zip]
  show Rep g w ((tmps.setIfInBounds 53 (.int .i64 x)).getD j undef) _
  rw [F9]
  by_cases e:53=j
  · subst e
    rw [if_pos rfl]
    simp only [Array.getD_eq_getD_getElem?,Array.getElem?_setIfInBounds]
    simp [hlt]
    exact .int _ _
  · rw [if_neg e,F9]
    by_cases e6:6=j
    · subst e6
      rw [if_pos rfl]
      have:(tmps.setIfInBounds 53 (Value.int .i64 x)).getD 6 undef=tmps.getD 6 undef:=by
        simp only [Array.getD_eq_getD_getElem?,Array.getElem?_setIfInBounds];simp
      rw [this,h6]
      exact .val _
    · rw [if_neg e6];exact .junk _
theorem jV {n:Nat}{bs:List Bd}{s:Ds×Int}(h:Mi n bs=true)(he:D1 (zn n bs)=s):Kx bs s.1 n s.2=true∧J8 bs s.1 (Js bs s.1 n s.2) (n+1) (Js bs s.1 n s.2)=true:=by
 subst he
 unfold Mi at h
 exact (Bool.and_eq_true ..).mp h
theorem rC {n k:Nat}{bs:List Bd}{s:Ds×Int}(h:D1 (zn n bs)=Dw bs (n+1-k) s)(hk:k<n+1)(hs:decide ((I7 bs s.1).2<0)=true):D1 (zn n bs)=I7 bs s.1:=by
 rw [h,show n+1-k=(n-k)+1 by omega,J0 hs]
theorem end_on {n k:Nat}{bs:List Bd}{s:Ds×Int}(h:D1 (zn n bs)=Dw bs (n+1-k) s)(hk:k<n+1)(hs:decide ((I7 bs s.1).2<0)=false):D1 (zn n bs)=Dw bs (n+1-(k+1)) (I7 bs s.1):=by
 rw [h,show n+1-k=(n+1-(k+1))+1 by omega,L5 hs]
theorem xF {n k:Nat}{bs:List Bd}{s:Ds×Int}(h:D1 (zn n bs)=Dw bs (n+1-k) s)(hk:n+1≤k):D1 (zn n bs)=s:=by
 rw [h,show n+1-k=0 by omega];rfl
theorem oM {bs:List Bd}{d:Ds}{n k:Nat}{a f:Int}{c:Bd}(h:f=Js bs d (n-k) a)(hk:k<n)(ok:okA bs d a c):f=Js bs d (n-(k+1)) c.y:=by
 rw [h,show n-k=(n-(k+1))+1 by omega,Vk,ok.pred]
theorem nL {bs:List Bd}{d:Ds}{n k:Nat}{a:Int}(h:Kx bs d (n-k) a=true)(hk:k<n):Ve bs d a=true∧Kx bs d (n-(k+1)) (H6 bs d a)=true:=by
 rw [show n-k=(n-(k+1))+1 by omega] at h
 exact wC h
def Vv (l:List Int)(k:Nat):List Int:=(l.take k).map (fun v=>v-D7 l 0)++l.drop k
theorem Vz {l:List Int}{k:Nat}(h:k≤l.length):(Vv l k).length=l.length:=by unfold Vv;simp;omega
theorem xO {l:List Int}{k:Nat}(h:k<l.length):D7 (Vv l k) (k:Int)=D7 l (k:Int):=by
 unfold D7 Vv
 rw [List.getElem?_append_right (by simp;omega)]
 simp [Nat.min_eq_left (Nat.le_of_lt h)]
theorem sP {l:List Int}{k:Nat}(h:k<l.length):(Vv l k).set k (D7 l (k:Int)-D7 l 0)=Vv l (k+1):=by
 have hg:=List.getElem?_eq_getElem h
 have hd:l.drop k=l[k]::l.drop (k+1):=(List.drop_eq_getElem_cons h)
 have hix:D7 l (k:Int)=l[k]:=by unfold D7;simp [hg]
 unfold Vv
 have hk:k-((l.take k).map (fun v=>v-D7 l 0)).length=0:=by simp;omega
 have ht:l.take (k+1)=l.take k ++ [l[k]]:=by rw [List.take_add_one,hg];rfl
 rw [List.set_append_right _ _ (by simp;omega),hk,hd,List.set_cons_zero,ht,List.map_append,List.append_assoc,hix];rfl
theorem nN {l:List Int}{k:Nat}(h:l.length≤k):Vv l k=l.map (fun v=>v-D7 l 0):=by
 unfold Vv;rw [List.take_of_length_le h,List.drop_eq_nil_of_le h,List.append_nil]
theorem U3 {n:Nat}{bs:List Bd}(h:(He (zn n bs) != 0)=true):Dr (zn n bs)=⟨false,[],[],He (zn n bs)⟩:=if_pos h
theorem Ut {n:Nat}{bs:List Bd}(h:(He (zn n bs) != 0)=false)(h2:decide ((D1 (zn n bs)).2<0)=true):Dr (zn n bs)=⟨true,(D1 (zn n bs)).1.sums.map (fun v=>v-D7 (D1 (zn n bs)).1.sums 0),[],0⟩:=(C3 h).trans (if_pos h2)
theorem cF {n:Nat}{bs:List Bd}(h:(He (zn n bs) != 0)=false)(h2:decide ((D1 (zn n bs)).2<0)=false):Dr (zn n bs)=⟨false,[],(Sk (zn n bs)).2,0⟩:=(C3 h).trans (C3 h2)
theorem mT {n:Nat}{bs:List Bd}(h:(He (zn n bs) != 0)=false)(hm:∀b∈bs,-I4≤b.most∧b.most≤I4):znOK n bs:=by
 have h1:=bE (n:=(n:Int)) (bs:=bs) h
 exact ⟨by omega,by omega,h1.2.2.1,h1.2.2.2,hm⟩
theorem Wa {n:Nat}{bs:List Bd}(hz:znOK n bs):∀(m:Nat) (s:Ds×Int) (C:Int),dsOK n C s.1→dsOK n (C+(m:Int)*(256*I4)) (Dw bs m s).1
  | 0,s,C,h=>h.mono (by simp)
  | m+1,s,C,h=>by
    have hb:(0:Int)≤(m:Int)*(256*I4):=by unfold I4;omega
    have hs:((m+1:Nat):Int)*(256*I4)=(m:Int)*(256*I4)+256*I4:=by push_cast;rw [Int.add_mul];omega
    cases hq:decide ((I7 bs s.1).2<0) with
    | true=>rw [J0 hq];exact (aI hz h).mono (by omega)
    | false=>rw [L5 hq];exact (Wa hz m _ _ (aI hz h)).mono (by omega)
theorem jP {n:Nat}{bs:List Bd}(hz:znOK n bs):dsOK n 2400000000000000000 (D1 (zn n bs)).1:=by
 rw [Mn]
 refine (Wa hz (n+1) _ 0 (gA n)).mono ?_
 have:=hz.n64
 unfold I4
 omega
section
variable {T:List Sc} {V:List Va}
theorem eJ {c:Lit}{x z r:Int}(hr : -140737488355328≤r∧r≤140737488355328):∀b∈Dx c x z r,-I4≤b.most∧b.most≤I4:=by
 have hb:I4=140737488355329:=rfl
 unfold Dx
 repeat' split
 all_goals
  intro b hb'
  simp only [List.mem_cons,List.not_mem_nil,or_false] at hb'
  rcases hb' with rfl | rfl <;> first | omega | skip
 all_goals (try (simp only;omega))
theorem Wc:∀{l:List Lit},Up T V l→∀{s:Sy},(∀b∈s.bs,-I4≤b.most∧b.most≤I4)→∀b∈(l.foldl (C1 T V) s).bs,-I4≤b.most∧b.most≤I4
  | [],_,s,hs=>hs
  | c::r,hl,s,hs=>by
    rw [List.foldl_cons]
    refine Wc (fun x hx=>hl x (List.mem_cons_of_mem _ hx)) ?_
    cases h : !(Aa T V c).2 with
    | true=>rw [Kt h];exact hs
    | false=>
      rw [Ky h]
      intro b hb
      rcases List.mem_append.1 hb with hb | hb
      · exact hs b hb
      · exact eJ (Qm (hl c (List.mem_cons_self ..)).1 (hl c (List.mem_cons_self ..)).2).rest b hb
theorem Wt:∀(ts:List Tm) (i:Nat),∀b∈G2 T V i ts,-I4≤b.most∧b.most≤I4
  | [],i,b,h=>by cases h
  | t::r,i,b,h=>by
    have hb:I4=140737488355329:=rfl
    have hl:=Rs (T:=T) (V:=V) t
    rw [G2] at h
    rcases List.mem_cons.1 h with rfl | h
    · simp only;omega
    · rcases List.mem_cons.1 h with rfl | h
      · simp only;omega
      · exact Wt r (i+1) b h
def zN (T:List Sc)(V:List Va)(l:List Lit):Nat:=(Cp T V l).ts.length+1
theorem mK (l:List Lit):Cy T V l=zn (zN T V l) (Cy T V l).bs:=rfl
theorem O3 {l:List Lit}(hl:Up T V l):∀b∈(Cy T V l).bs,-I4≤b.most∧b.most≤I4:=by
 intro b hb
 rcases List.mem_append.1 hb with hb | hb
 · exact Wt _ _ b hb
 · exact Wc hl (s:=⟨[],[]⟩) (fun b h=>by cases h) b hb
def SOLV (T:List Sc)(V:List Va)(l:List Lit):Prop:=(He (Cy T V l) != 0)=false→decide ((D1 (Cy T V l)).2<0)=false→Mi (zN T V l) (Cy T V l).bs=true
def Ku (T:List Sc)(V:List Va)(l:List Lit):List Int:=if !Ja (Cy T V l) then [] else (Dr (Cy T V l)).values
def Pe (T:List Sc)(V:List Va)(l:List Lit):Bool:=if !Ja (Cy T V l) then true else (D5 T V l).2&&(Dr (Cy T V l)).ok
theorem solV_1 {l:List Lit}(h:(!Ja (Cy T V l))=true):Ku T V l = []:=if_pos h
theorem jH {l:List Lit}(h:(!Ja (Cy T V l))=false):Ku T V l=(Dr (Cy T V l)).values:=C3 h
theorem tU {l:List Lit}(h:(!Ja (Cy T V l))=true):Pe T V l=true:=if_pos h
theorem aP {l:List Lit}(h:(!Ja (Cy T V l))=false):Pe T V l=((D5 T V l).2&&(Dr (Cy T V l)).ok):=C3 h
theorem jM (l:List Lit):Qt (D5 T V l).1:=Zz l [] U0
def K7 (T:List Sc)(V:List Va)(l:List Lit):Bool:=l.all (fun c=>B0 T V c.cond)&&(Ja (Cy T V l)&&decide ((l.length:Int)≤256))
theorem uU {l:List Lit}(h:l.all (fun c=>B0 T V c.cond)=true):K7 T V l=(Ja (Cy T V l)&&decide ((l.length:Int)≤256)):=by unfold K7;rw [h,Bool.true_and]
theorem xG {l:List Lit}{k:Nat}{c:Lit}(hc:l[k]? = some c)(h:B0 T V c.cond=false):K7 T V l=false:=by
 unfold K7
 have:l.all (fun c=>B0 T V c.cond)=false:=by
  rw [List.all_eq_false]
  exact ⟨c,List.mem_of_getElem? hc,by rw [h];decide⟩
 rw [this,Bool.false_and]
end
end Go.Proofs.YtjedflcpjlgokaaGreatDoor

namespace Go.Aw
open Go
theorem AW.ghostPost {P:Program}{c:Code}{Q:Exit→St→Prop}{s:St}(h:AW P c (fun e s=>∃s',GS s s'∧Q e s') s):AW P c Q s:=by
 intro Q' g a w hG hQ
 refine h Q' g a w hG fun e g' s' a' w' h1 h2 ⟨s2,h3,h4⟩=>?_
 obtain ⟨g2,k1,k2⟩:=h3 g' a' w' h1
 exact hQ e g2 s2 a' w' k1 (h2.trans k2) h4
def Ul:List (List UInt8×AV)→List UInt8→Option Nat
 | [],_=>none
 | (k,_)::r,n=>if k=n then some 0 else (Ul r n).map (· + 1)
def yJ (es:List (List UInt8×AV))(n:List UInt8)(x:AV):List (List UInt8×AV):=match Ul es n with | some j=>es.modify j fun _=>(n,x) | none=>es ++ [(n,x)]
theorem Yb {n:List UInt8}:∀{es:List (List UInt8×AV)},Ul es n=none→Ma es n=none
  | [],_=>rfl
  | (k,x)::r,h=>by
    rw [Ul] at h
    split at h
    · cases h
    · rename_i hk
      rw [Ma,if_neg hk]
      exact Yb (Option.map_eq_none_iff.1 h)
theorem kX {n:List UInt8}:∀{es:List (List UInt8×AV)} {j:Nat},Ul es n=some j→∃x,es[j]? = some (n,x)∧Ma es n=some x
  | [],j,h=>by cases h
  | (k,x)::r,j,h=>by
    rw [Ul] at h
    split at h
    · rename_i hk
      cases h;subst hk
      exact ⟨x,rfl,by rw [Ma,if_pos rfl]⟩
    · rename_i hk
      obtain ⟨j',h1,h2⟩:=Option.map_eq_some_iff.1 h
      subst h2
      obtain ⟨y,h3,h4⟩:=kX h1
      exact ⟨y,h3,by rw [Ma,if_neg hk];exact h4⟩
theorem eQ {n:List UInt8}:∀(l:List MapEntry) (es:List (List UInt8×AV)) (i j:Nat),l.length=es.length→(∀(j:Nat) m x,es[j]? = some (m,x)→(l.getD j default).key = .string ⟨m.toArray⟩)→Ul es n=some j→
    Instr.findNow .string (.string ⟨n.toArray⟩) l i=some (some (i+j,(l.getD j default).val))
  | [],[],_,_,_,_,hg=>by cases hg
  | [],_::_,_,_,h,_,_=>by simp at h
  | e::l,[],_,_,h,_,_=>by simp at h
  | e::l,(m,y)::es,i,j,h,hk,hg=>by
    have h1:e.key = .string ⟨m.toArray⟩:=by simpa using hk 0 m y rfl
    rw [Ul] at hg
    by_cases hm:m=n
    · subst hm
      rw [if_pos rfl] at hg
      cases hg
      unfold Instr.findNow
      simp [h1,Instr.sameNow,oV]
    · rw [if_neg hm] at hg
      obtain ⟨j',h3,rfl⟩:=Option.map_eq_some_iff.1 hg
      have:((⟨n.toArray⟩:ByteArray)==⟨m.toArray⟩)=false:=by rw [oV];simp;exact fun e=>hm e.symm
      unfold Instr.findNow
      simp only [h1,Instr.sameNow,this]
      have ih:=eQ l es (i+1) j' (by simpa using h) (fun j m x hj=>by simpa using hk (j+1) m x hj) h3
      rw [show i+(j'+1)=i+1+j' by omega]
      simpa using ih
section
variable {P:Program} {T:List (Nat×TD)} {d:Option Nat} {ty:TypeId} {pos:String} {aft:Array Edge} {gd:Option (Nat×Bool)} {ρ:Operand→AV}
theorem nI {t:TypeId}{m k v:Operand}{kt et b i j:Nat}{td tk:TD}{n:List UInt8}{es:List (List UInt8×AV)}{x:AV}{H H2:List HO}(hT:G3 P T)(ht:Bl T t=some td)(hk:td.kind = .map kt et)(htk:Bl T kt=some tk)(hkk:tk.kind = .str)
  (hm:ρ m = .val (.map (some b))) (hkey:ρ k = .str n) (hv:ρ v=x) (hH:H[i]? = some (.smap b es)) (hold:Ul es n=some j) (hH2:H.set i (.smap b (es.modify j fun _=>(n,x)))=H2) :
  Ks P ⟨d,.mapUpdate t m k v,ty,pos,aft,gd⟩ ρ H (fun y H'=>y = .junk∧H'=H2):=by
 subst hH2
 intro g w a next Q hr hHK hn
 have h1:=(hm▸hr m (by simp [Op.operands]):Rep g w _ _).inv_val
 have h2:=(hkey▸hr k (by simp [Op.operands]):Rep g w _ _).inv_str.1
 have h3:Rep g w (a.eval v) x:=hv▸hr v (by simp [Op.operands])
 obtain ⟨hg,ms,clock,hheap,hl,hks,hvs⟩:=hHK.ok _ (List.mem_of_getElem? hH)
 have hu:=Ic (hT t td ht) hk
 have huk:=Kf (hT kt tk htk) hkk
 have hl':ms.toList.length=es.length:=by simpa using hl
 have hfind:=eQ (n:=n) ms.toList es 0 j hl' (fun j m x hj=>by simpa using hks j m x hj) hold
 rw [Nat.zero_add] at hfind
 have hget:(getObj b).run P w = .ok (.map ms clock) w:=by simp [getObj,Sem.run,hheap]
 obtain ⟨y,hj,_⟩:=kX hold
 have hlt:j<ms.size:=by rw [hl];exact (List.getElem?_eq_some_iff.1 hj).1
 have e1:ms[j]? = some (ms.getD j default):=by simp [Array.getD_eq_getD_getElem?,hlt]
 have hkey0:=hks j n y hj
 have hkj:(((ms[j]?).map (·.key)).getD (.string ⟨n.toArray⟩)) = .string ⟨n.toArray⟩:=by
  rw [e1];simp only [Option.map_some,Option.getD_some,hkey0]
 have hkt:(Instr.keyThatStays (.string ⟨n.toArray⟩) (.string ⟨n.toArray⟩)).run P w = .ok (.string ⟨n.toArray⟩) w:=by
  unfold Instr.keyThatStays
  rw [if_pos (by
   have e:((⟨n.toArray⟩:ByteArray)==⟨n.toArray⟩)=true:=by rw [oV];simp
   simp [Instr.sameBits,e])];rfl
 obtain ⟨hset,hx,hnew,hoth⟩:=K4 (P:=P) (.map (ms.modify j fun e=>{ e with key:=.string ⟨n.toArray⟩,val:=a.eval v }) clock) hg hheap
 have hrun:(Instr.mapUpdate t (a.eval m) (a.eval k) (a.eval v)).run P w = .ok () { w with heap:=w.heap.setIfInBounds b (.map (ms.modify j fun e=>{ e with key:=.string ⟨n.toArray⟩,val:=a.eval v }) clock) }:=by
  have hfk:(Instr.findKey kt (.string ⟨n.toArray⟩) ms.toList).run P w = .ok (some (j,(ms.toList.getD j default).val)) w:=by
   unfold Instr.findKey
   rw [Sem.run_bind,A1 huk]
   simp only [Result.andThen_ok,hfind,Sem.run_pure]
  unfold Instr.mapUpdate
  rw [Sem.run_bind,A1 hu]
  simp only [Result.andThen_ok,h1,Sem.run_bind,hget,h2,Kk (n:=9999) huk,hfk,hkj,hkt,hset]
 unfold Oper.wp
 simp only [execOp,Sem.run_bind,hrun,Result.andThen_ok,Sem.run_pure]
 have hgetm:∀i,i<ms.size→(ms.modify j fun e=>{ e with key:=.string ⟨n.toArray⟩,val:=a.eval v }).getD i default=if j=i then { ms.getD i default with key:=.string ⟨n.toArray⟩,val:=a.eval v } else ms.getD i default:=fun i hi=>by
  simp only [Array.getD_eq_getD_getElem?,Array.getElem?_modify]
  by_cases h:j=i
  · subst h;simp [hi]
  · simp [h]
 have hkp:∀i k z,(es.modify j fun _=>(n,x))[i]? = some (k,z)→i<ms.size∧if j=i then k=n∧z=x else es[i]? = some (k,z):=fun i k z hi=>by
  have h1:=(List.getElem?_eq_some_iff.1 hi).1
  rw [List.length_modify,←hl] at h1
  refine ⟨h1,?_⟩
  simp only [List.getElem?_modify] at hi
  by_cases h:j=i
  · subst h;rw [hj] at hi;simp at hi;simp [hi.1.symm,hi.2.symm]
  · simpa [h] using hi
 refine hn g _ undef .junk _ ⟨rfl,rfl⟩ (.junk _) (hHK.set hx hH (fun c hc=>.inl hc) ⟨hg,_,_,hnew,by simp [hl],fun i k z hi=>?_,fun i k z hi=>?_⟩ (fun c hc hne _=>⟨rfl,hoth c fun e=>hne (by rw [e];rfl)⟩)) hx
 ·
  obtain ⟨q1,q2⟩:=hkp i k z hi
  rw [hgetm i q1]
  by_cases h:j=i
  · rw [if_pos h];rw [if_pos h] at q2;rw [q2.1]
  · rw [if_neg h];rw [if_neg h] at q2;exact hks i k z q2
 ·
  obtain ⟨q1,q2⟩:=hkp i k z hi
  rw [hgetm i q1]
  by_cases h:j=i
  · rw [if_pos h];rw [if_pos h] at q2;rw [q2.2];exact h3.mono hx
  · rw [if_neg h];rw [if_neg h] at q2;exact (hvs i k z q2).mono hx

theorem qH {t:TypeId}{m k v:Operand}{kt et b i:Nat}{td tk:TD}{n:List UInt8}{es:List (List UInt8×AV)}{x:AV}{H H2:List HO}(hT:G3 P T)(ht:Bl T t=some td)(hk:td.kind = .map kt et)(htk:Bl T kt=some tk)(hkk:tk.kind = .str)
  (hm:ρ m = .val (.map (some b))) (hkey:ρ k = .str n) (hv:ρ v=x) (hH:H[i]? = some (.smap b es)) (hH2:H.set i (.smap b (yJ es n x))=H2) :
  Ks P ⟨d,.mapUpdate t m k v,ty,pos,aft,gd⟩ ρ H (fun y H'=>y = .junk∧H'=H2):=by
 unfold yJ at hH2
 cases hs:Ul es n with
 | none=>rw [hs] at hH2;exact Uc hT ht hk htk hkk hm hkey hv hH (Yb hs) hH2
 | some j=>rw [hs] at hH2;exact nI hT ht hk htk hkk hm hkey hv hH hs hH2
end
end Go.Aw
