/-
  Several texts in one: S23, S23b, S23c, S25, As. No condition.
-/
import Derived.Test.YtkddpedfbicbeaaGreatDoorS22
import Derived.Test.YtkddpedfbicbeaaGreatDoorAr
import Derived.Test.YtkddpedfbicbeaaGreatDoorK19
set_option linter.unusedVariables false
set_option linter.unusedSimpArgs false
namespace Go.Aw
open Go
section
variable {P:Program} {T:List (Nat×TD)} {d:Option Nat} {ty:TypeId} {pos:String} {aft:Array Edge} {gd:Option (Nat×Bool)} {ρ:Operand→AV} {K:List HO→Prop}
theorem sX {x:Operand}{t yt e z:Nat}{td:TD}{es:List (List AV)}(hT:Ho P T)(hx:ρ x = .sl z es)(hne:es≠[])(ht:Bs T t=some td)(hk:td.kind = .slice e) :
  Di P ⟨d,.binOp .neq t x (.const (.slice none 0 0)) yt,ty,pos,aft,gd⟩ ρ K (.bool true):=
 .of_run fun g w a hr=>by
  obtain ⟨a0,n,cap,h1,h2,_,_,h5⟩:=(hx▸hr x (by simp [Op.operands]):Rep g w _ _).inv_sl
  have hu:=Eh (hT t td ht) hk
  rcases h5 with h5 | ⟨b,o,rfl,_⟩
  · exact absurd h5 hne
  ·
   refine ⟨.bool true,?_,.bool _⟩
   have e2:a.eval (.const (.slice none 0 0)) = .slice none 0 0:=rfl
   simp only [execOp,h1,e2]
   rw [Sem.run_bind,Sem.run_bind,Gx rfl]
   have:=Zy (n:=9999) hu (some ⟨b,o,none⟩) n cap w
   simp only [Result.andThen_ok,binOp,Op.equal,Op.maxDepth,Sem.run_bind,this,Sem.run_pure]
   rfl
theorem pQ {x:Operand}{t yt e:Nat}{td:TD}(hT:Ho P T)(hx:ρ x = .val (.slice none 0 0))(ht:Bs T t=some td)(hk:td.kind = .slice e) :
  Di P ⟨d,.binOp .neq t x (.const (.slice none 0 0)) yt,ty,pos,aft,gd⟩ ρ K (.bool false):=
 .of_run fun g w a hr=>by
  have h1:=(hx▸hr x (by simp [Op.operands]):Rep g w _ _).inv_val
  have hu:=Eh (hT t td ht) hk
  refine ⟨.bool false,?_,.bool _⟩
  have e2:a.eval (.const (.slice none 0 0)) = .slice none 0 0:=rfl
  simp only [execOp,h1,e2]
  rw [Sem.run_bind,Sem.run_bind,Gx rfl]
  have:=Zy (n:=9999) hu none 0 0 w
  simp only [Result.andThen_ok,binOp,Op.equal,Op.maxDepth,Sem.run_bind,this,Sem.run_pure]
  rfl
end
end Go.Aw
namespace Go.Proofs.YtkddpedfbicbeaaGreatDoor
open Go Go.Aw

def bI (l:List Int):List AV:=l.map (AV.int .i64)
def cI (v:Int):List AV:=[.int .i64 v]
theorem Yo (l:List Int):(bI l).length=l.length:=List.length_map ..
theorem bI_sc (l:List Int):Bf (bI l)=true:=by
 induction l with
 | nil=>rfl
 | cons a r ih=>exact ih
theorem yW (l m:List Int):bI (l++m)=bI l++bI m:=List.map_append ..
theorem oS (l:List Int)(k:Nat):(bI l).take k=bI (l.take k):=(List.map_take ..).symm
theorem bI_drop (l:List Int)(k:Nat):(bI l).drop k=bI (l.drop k):=(List.map_drop ..).symm
theorem dO (n:Nat):(List.replicate n [AV.int .i64 0]).flatten=bI (List.replicate n 0):=by
 induction n with
 | zero=>rfl
 | succ n ih=>rw [List.replicate_succ,List.flatten_cons,ih,List.replicate_succ];rfl
theorem bI_flat (l:List Int):(l.map cI).flatten=bI l:=by
 induction l with
 | nil=>rfl
 | cons a r ih=>rw [List.map_cons,List.flatten_cons,ih];rfl
theorem uG {α:Type}{f:α→List AV}(hf:∀x,(f x).length=1)(l:List α):∀e∈l.map f,e.length=1:=fun e he=>by
 obtain ⟨x,_,rfl⟩:=List.mem_map.1 he
 exact hf x
theorem lF {l:List Int}{k:Int}(h0:0≤k)(h:k<(l.length:Int)):l[k.toNat]? = some (Eu l k):=by
 unfold Eu
 have:k.toNat<l.length:=by omega
 rw [List.getElem?_eq_getElem this];rfl
theorem Yz {l:List Int}{k:Int}(h0:0≤k)(h:k<(l.length:Int)):(bI l)[k.toNat]? = some (.int .i64 (Eu l k)):=by
 unfold bI;rw [List.getElem?_map,lF h0 h];rfl
theorem bG:∀{l:List Int} {k:Nat} {v:Int},k<l.length→Fv (bI l) k [AV.int .i64 v]=bI (l.set k v)
  | [],k,v,h=>absurd h (by simp)
  | a::r,0,v,h=>by simp [Fv,bI]
  | a::r,k+1,v,h=>by
    have ih:=bG (l:=r) (k:=k) (v:=v) (by simpa using h)
    show AV.int .i64 a::Fv (bI r) k [AV.int .i64 v]=_
    rw [ih];rfl
theorem cC (n:Nat):0+n*1=n:=by omega
theorem dV {l:List Int}{k:Nat}(h:k<l.length):Nat.ble (k+1) (bI l).length=true:=Nat.ble_eq_true_of_le (by rw [Yo];omega)

def N8 (n:Nat):List Int:=List.replicate n (-1)
def Lq (n k:Nat):List Int:=List.replicate k (-1)++List.replicate (n-k) 0
theorem Xz {n k:Nat}(h:k≤n):(Lq n k).length=n:=by unfold Lq;simp;omega
theorem sI (n:Nat):Lq n n=N8 n:=by unfold Lq N8;simp
theorem sS {n k m:Nat}(hk:k+m≤n)(hm:m≤k):Fv (bI (Lq n k)) k (((bI (Lq n k)).drop 0).take m)=bI (Lq n (k+m)):=by
 rw [List.drop_zero,oS]
 have h1:(Lq n k).take m=List.replicate m (-1):=by
  unfold Lq
  rw [List.take_append_of_le_length (by rw [List.length_replicate];exact hm),List.take_replicate,Nat.min_eq_left hm]
 have h2:(Lq n k).take k=List.replicate k (-1):=by
  unfold Lq
  rw [List.take_append_of_le_length (by rw [List.length_replicate];omega),List.take_replicate,Nat.min_self]
 have h3:(Lq n k).drop (k+m)=List.replicate (n-(k+m)) 0:=by
  unfold Lq
  rw [List.drop_append,List.length_replicate,List.drop_of_length_le (by rw [List.length_replicate];omega),List.nil_append,List.drop_replicate]
  congr 1;omega
 unfold Fv
 rw [h1,Yo,List.length_replicate,oS,bI_drop,h2,h3,←yW,←yW]
 congr 1
 unfold Lq
 rw [List.replicate_append_replicate]
theorem lK {n:Nat}(hn:0<n):Fv (bI (Lq n 0)) 0 ((([[AV.int .i64 (-1)]]:List (List AV)).flatten).take 1)=bI (Lq n 1):=by
 unfold Lq
 obtain ⟨m,rfl⟩:∃m,n=m+1:=⟨n-1,by omega⟩
 simp [Fv,bI,List.replicate_succ]
theorem kMul1 (n:Nat)(hn:n≤1048576):Ar Tryz.prog 188 [.int .u64 1,.int .u64 (n:Int)] (.tuple [.int .u64 0,.int .u64 (n:Int)]):=by
 have h:=kMul 1 n (by decide) (by omega)
 rw [Nat.one_mul,Nat.div_eq_of_lt (by omega),Nat.mod_eq_of_lt (by omega)] at h
 exact h
theorem u64_in {n:Nat}(h:n≤1048576):IntKind.wrap .u64 (n:Int)=(n:Int):=by
 unfold IntKind.wrap
 simp [IntKind.bits,IntKind.signed]
 omega
theorem i64_in {n:Nat}(h:n≤1048576):IntKind.wrap .i64 (n:Int)=(n:Int):=IntWalk.i64_in _ (by omega)

def Jm:Int:=140737488355329
structure znOK (n:Nat) (bs:List Bd):Prop where
 n1:1≤n
 n64:n≤64
 len:bs.length≤256
 bd:∀b∈bs,0≤b.x∧b.x<(n:Int)∧0≤b.y∧b.y<(n:Int)
 most:∀b∈bs,-Jm≤b.most∧b.most≤Jm
structure dsOK (n:Nat) (C:Int) (d:Ds):Prop where
 s:d.sums.length=n
 l:d.last.length=n
 r:∀v∈d.sums,-C≤v∧v≤0
theorem dsOK.mono {n:Nat}{C C':Int}{d:Ds}(h:dsOK n C d)(hc:C≤C'):dsOK n C' d:=⟨h.s,h.l,fun v hv=>by have:=h.r v hv;omega⟩
theorem ix_mem {l:List Int}{k:Int}(h0:0≤k)(h:k<(l.length:Int)):Eu l k∈l:=List.mem_of_getElem? (lF h0 h)
theorem dsOK.ix {n:Nat}{C:Int}{d:Ds}(h:dsOK n C d){k:Int}(h0:0≤k)(hk:k<(n:Int)) : -C≤Eu d.sums k∧Eu d.sums k≤0:=h.r _ (ix_mem h0 (by rw [h.s];exact hk))
theorem P4 {i:Nat}{b:Bd}{s:Ds×Int}(h:decide (Eu s.1.sums b.y+b.most<Eu s.1.sums b.x)=true) :
 Og i b s=(⟨s.1.sums.set b.x.toNat (Eu s.1.sums b.y+b.most),s.1.last.set b.x.toNat (i:Int)⟩,b.x):=if_pos h
theorem Wq {i:Nat}{b:Bd}{s:Ds×Int}(h:decide (Eu s.1.sums b.y+b.most<Eu s.1.sums b.x)=false):Og i b s=s:=if_neg (by rw [h];decide)
theorem xS {n:Nat}{C:Int}{i:Nat}{b:Bd}{s:Ds×Int}(hd:dsOK n C s.1)(hb:0≤b.x∧b.x<(n:Int)∧0≤b.y∧b.y<(n:Int))(hm : -Jm≤b.most∧b.most≤Jm):dsOK n (C+Jm) (Og i b s).1:=by
  have hbig:(0:Int)≤Jm:=by decide
  cases h:decide (Eu s.1.sums b.y+b.most<Eu s.1.sums b.x) with
  | false=>rw [Wq h];exact hd.mono (by omega)
  | true=>
    rw [P4 h]
    have h1:=hd.ix hb.2.2.1 hb.2.2.2
    have h2:=hd.ix hb.1 hb.2.1
    have h3:=of_decide_eq_true h
    refine ⟨by simp only [List.length_set];exact hd.s,by simp only [List.length_set];exact hd.l,fun v hv=>?_⟩
    rcases List.mem_or_eq_of_mem_set hv with hv | rfl
    · have:=hd.r v hv;omega
    · omega
theorem eP {n:Nat}:∀{bs:List Bd} {i:Nat} {s:Ds×Int} {C:Int},(∀b∈bs,0≤b.x∧b.x<(n:Int)∧0≤b.y∧b.y<(n:Int))→(∀b∈bs,-Jm≤b.most∧b.most≤Jm)→dsOK n C s.1→dsOK n (C+(bs.length:Int)*Jm) (F7 i bs s).1
  | [],i,s,C,_,_,hd=>hd.mono (by simp)
  | b::r,i,s,C,hb,hm,hd=>by
    rw [F7]
    refine (eP (fun b hb'=>hb b (List.mem_cons_of_mem _ hb')) (fun b hb'=>hm b (List.mem_cons_of_mem _ hb')) (xS hd (hb b (List.mem_cons_self ..)) (hm b (List.mem_cons_self ..)))).mono ?_
    rw [List.length_cons];push_cast;rw [Int.add_mul];omega
theorem bM {n:Nat}{bs:List Bd}{d:Ds}{C:Int}(hz:znOK n bs)(hd:dsOK n C d):dsOK n (C+256*Jm) (Jn bs d).1:=by
 refine (eP (s:=(d,-1)) hz.bd hz.most hd).mono ?_
 have:=hz.len
 unfold Jm
 omega
theorem Q7 {bs:List Bd}{k:Nat}{b:Bd}{s:Ds×Int}(h:bs[k]? = some b):F7 k (bs.drop k) s=F7 (k+1) (bs.drop (k+1)) (Og k b s):=by rw [A5 h,F7]
theorem aD {bs:List Bd}{k:Nat}{s:Ds×Int}(h:bs.drop k = []):F7 k (bs.drop k) s=s:=by rw [h,F7]
theorem Ke {bs:List Bd}{m:Nat}{s:Ds×Int}(h:decide ((Jn bs s.1).2<0)=true):D2 bs (m+1) s=Jn bs s.1:=by rw [D2,if_pos h]
theorem Mk {bs:List Bd}{m:Nat}{s:Ds×Int}(h:decide ((Jn bs s.1).2<0)=false):D2 bs (m+1) s=D2 bs m (Jn bs s.1):=by rw [D2,if_neg (by rw [h];decide)]
def zn (n:Nat)(bs:List Bd):Zn:=⟨(n:Int),bs⟩
theorem Nh (n:Nat)(bs:List Bd):Ed (zn n bs)=D2 bs (n+1) (⟨List.replicate n 0,N8 n⟩,-1):=by unfold Ed start zn N8;simp
theorem jF (n:Nat):dsOK n 0 ⟨List.replicate n 0,N8 n⟩:=⟨by simp,by simp [N8],fun v hv=>by rw [(List.mem_replicate.1 hv).2];omega⟩
def Yf (bs:List Bd)(d:Ds)(a:Int):Bool:=decide (0≤a)&&decide (a<(d.last.length:Int))&&decide (0≤Eu d.last a)&&decide (Eu d.last a<(bs.length:Int))
def Ll (bs:List Bd)(d:Ds):Nat→Int→Bool
 | 0,_=>true
 | k+1,a=>Yf bs d a&&Ll bs d k (Jg bs d a)
def Mq (bs:List Bd)(d:Ds)(f:Int):Nat→Int→Bool
 | 0,_=>false
 | k+1,a=>Yf bs d a&&(Jg bs d a==f||Mq bs d f k (Jg bs d a))
def Nx (n:Nat)(bs:List Bd):Bool:=
 Ll bs (Ed (zn n bs)).1 n (Ed (zn n bs)).2&&Mq bs (Ed (zn n bs)).1 (Kv bs (Ed (zn n bs)).1 n (Ed (zn n bs)).2) (n+1) (Kv bs (Ed (zn n bs)).1 n (Ed (zn n bs)).2)
structure okA (bs:List Bd) (d:Ds) (a:Int) (b:Bd):Prop where
 a0:0≤a
 al:a<(d.last.length:Int)
 l0:0≤Eu d.last a
 at_:bs[(Eu d.last a).toNat]? = some b
 pred:Jg bs d a=b.y
theorem jC {bs:List Bd}{d:Ds}{a:Int}(h:Yf bs d a=true):∃b,okA bs d a b:=by
 unfold Yf at h
 simp only [Bool.and_eq_true,decide_eq_true_eq] at h
 obtain ⟨⟨⟨h1,h2⟩,h3⟩,h4⟩:=h
 have hlt:(Eu d.last a).toNat<bs.length:=by omega
 have hg:=List.getElem?_eq_getElem hlt
 exact ⟨_,h1,h2,h3,hg,by unfold Jg;rw [hg];rfl⟩
theorem zM {bs:List Bd}{d:Ds}{k:Nat}{a:Int}(h:Ll bs d (k+1) a=true):Yf bs d a=true∧Ll bs d k (Jg bs d a)=true:=by
 rw [Ll,Bool.and_eq_true] at h;exact h
theorem lU {bs:List Bd}{d:Ds}{f:Int}{k:Nat}{a:Int}(h:Mq bs d f k a=true):∃m,k=m+1∧Yf bs d a=true∧(Jg bs d a==f||Mq bs d f m (Jg bs d a))=true:=by
 cases k with
 | zero=>cases h
 | succ m=>rw [Mq,Bool.and_eq_true] at h;exact ⟨m,rfl,h⟩
theorem X4 {bs:List Bd}{d:Ds}{k:Nat}{a:Int}:Kv bs d (k+1) a=Kv bs d k (Jg bs d a):=rfl
theorem jV {bs:List Bd}{k:Nat}{b:Bd}(h:bs[k]? = some b):(bs.map Rp)[k]? = some [.int .i64 b.x,.int .i64 b.y,.int .i64 b.most]:=by rw [List.getElem?_map,h];rfl
theorem Rk {α:Type}{f:α→Int}:∀{l:List α},Aq f l=0→∀x∈l,f x=0
  | [],_,x,hx=>by cases hx
  | a::r,h,x,hx=>by
    rw [Aq] at h
    split at h
    · rename_i hn;exact absurd h (by simpa using hn)
    · rename_i hn
      rcases List.mem_cons.1 hx with rfl | hx
      · simpa using hn
      · exact Rk h x hx
theorem bQ {n:Int}{bs:List Bd}(h:(I1 ⟨n,bs⟩ != 0)=false):1≤n∧n≤64∧bs.length≤256∧∀b∈bs,0≤b.x∧b.x<n∧0≤b.y∧b.y<n:=by
 have h0:I1 ⟨n,bs⟩=0:=by simpa using h
 unfold I1 at h0
 split at h0
 · cases h0
 rename_i h1
 split at h0
 · cases h0
 rename_i h2
 simp only [Bool.or_eq_true,decide_eq_true_eq] at h1 h2
 refine ⟨by omega,by omega,by omega,fun b hb=>?_⟩
 have h3:=Rk h0 b hb
 unfold bdE at h3
 split at h3
 · cases h3
 ·
  rename_i h4
  simp only [Bool.or_eq_true,decide_eq_true_eq] at h4
  omega
theorem uW {bs:List Bd}{d:Ds}{f:Int}{k:Nat}{a:Int}(h:Mq bs d f k a=true):Yf bs d a=true:=by
 obtain ⟨m,_,h1,_⟩:=lU h;exact h1
theorem gV {bs:List Bd}{d:Ds}{f:Int}{k:Nat}{a:Int}{b:Bd}(h:Mq bs d f k a=true)(ok:okA bs d a b)(hn:(b.y==f)=false):Mq bs d f (k-1) b.y=true∧2≤k:=by
 obtain ⟨m,rfl,_,h2⟩:=lU h
 rw [ok.pred,hn,Bool.false_or] at h2
 obtain ⟨m',rfl,_,_⟩:=lU h2
 exact ⟨h2,by omega⟩
theorem kU {tmps:Array Value}{b6 n0:Nat}{x:Int}(hsz:tmps.size=n0)(h53:Nat.blt 53 n0=true)(h6:tmps.getD 6 undef = .pointer (some ⟨b6,0,none⟩)):∀g w vs,Cy g w vs [AV.int .i64 x]→∀j,
    Rep g w ((((#[53]:Array Tmp).zip vs).foldl (fun t (p,v)=>t.setIfInBounds p v) tmps).getD j undef) (get [(53,.int .i64 x),(6,.val (.pointer (some ⟨b6,0,none⟩)))] j):=by
  intro g w vs hr j
  have h0:=hr.2 0 _ rfl
  have hs:vs.size=1:=hr.1
  obtain ⟨u, rfl⟩ : ∃ u, vs = #[u] := ⟨vs[0], by apply Array.ext; simp [hs]; intro i h1 h2; have : i = 0 := by omega
                                                 subst this;rfl⟩
  have hu:u = .int .i64 x:=by have:=h0.inv_int;simpa using this
  subst hu
  have hlt:53<tmps.size:=by have:=Nat.le_of_ble_eq_true h53;omega
  rw [←Array.foldl_toList,Array.toList_zip]
  show Rep g w ((tmps.setIfInBounds 53 (.int .i64 x)).getD j undef) _
  rw [Gn]
  by_cases e:53=j
  · subst e
    rw [if_pos rfl]
    simp only [Array.getD_eq_getD_getElem?,Array.getElem?_setIfInBounds]
    simp [hlt]
    exact .int _ _
  · rw [if_neg e,Gn]
    by_cases e6:6=j
    · subst e6
      rw [if_pos rfl]
      have:(tmps.setIfInBounds 53 (Value.int .i64 x)).getD 6 undef=tmps.getD 6 undef:=by
        simp only [Array.getD_eq_getD_getElem?,Array.getElem?_setIfInBounds];simp
      rw [this,h6]
      exact .val _
    · rw [if_neg e6];exact .junk _
theorem jX {n:Nat}{bs:List Bd}{s:Ds×Int}(h:Nx n bs=true)(he:Ed (zn n bs)=s):Ll bs s.1 n s.2=true∧Mq bs s.1 (Kv bs s.1 n s.2) (n+1) (Kv bs s.1 n s.2)=true:=by
 subst he
 unfold Nx at h
 exact (Bool.and_eq_true ..).mp h
theorem wT {n k:Nat}{bs:List Bd}{s:Ds×Int}(h:Ed (zn n bs)=D2 bs (n+1-k) s)(hk:k<n+1)(hs:decide ((Jn bs s.1).2<0)=true):Ed (zn n bs)=Jn bs s.1:=by
 rw [h,show n+1-k=(n-k)+1 by omega,Ke hs]
theorem end_on {n k:Nat}{bs:List Bd}{s:Ds×Int}(h:Ed (zn n bs)=D2 bs (n+1-k) s)(hk:k<n+1)(hs:decide ((Jn bs s.1).2<0)=false):Ed (zn n bs)=D2 bs (n+1-(k+1)) (Jn bs s.1):=by
 rw [h,show n+1-k=(n+1-(k+1))+1 by omega,Mk hs]
theorem end_all {n k:Nat}{bs:List Bd}{s:Ds×Int}(h:Ed (zn n bs)=D2 bs (n+1-k) s)(hk:n+1≤k):Ed (zn n bs)=s:=by
 rw [h,show n+1-k=0 by omega];rfl
theorem sF {bs:List Bd}{d:Ds}{n k:Nat}{a f:Int}{c:Bd}(h:f=Kv bs d (n-k) a)(hk:k<n)(ok:okA bs d a c):f=Kv bs d (n-(k+1)) c.y:=by
 rw [h,show n-k=(n-(k+1))+1 by omega,X4,ok.pred]
theorem qP {bs:List Bd}{d:Ds}{n k:Nat}{a:Int}(h:Ll bs d (n-k) a=true)(hk:k<n):Yf bs d a=true∧Ll bs d (n-(k+1)) (Jg bs d a)=true:=by
 rw [show n-k=(n-(k+1))+1 by omega] at h
 exact zM h
def Yu (l:List Int)(k:Nat):List Int:=(l.take k).map (fun v=>v-Eu l 0)++l.drop k
theorem Yt {l:List Int}{k:Nat}(h:k≤l.length):(Yu l k).length=l.length:=by unfold Yu;simp;omega
theorem zQ {l:List Int}{k:Nat}(h:k<l.length):Eu (Yu l k) (k:Int)=Eu l (k:Int):=by
 unfold Eu Yu
 rw [List.getElem?_append_right (by simp;omega)]
 simp [Nat.min_eq_left (Nat.le_of_lt h)]
theorem yI {l:List Int}{k:Nat}(h:k<l.length):(Yu l k).set k (Eu l (k:Int)-Eu l 0)=Yu l (k+1):=by
 have hg:=List.getElem?_eq_getElem h
 have hd:l.drop k=l[k]::l.drop (k+1):=(List.drop_eq_getElem_cons h)
 have hix:Eu l (k:Int)=l[k]:=by unfold Eu;simp [hg]
 unfold Yu
 have hk:k-((l.take k).map (fun v=>v-Eu l 0)).length=0:=by simp;omega
 have ht:l.take (k+1)=l.take k ++ [l[k]]:=by rw [List.take_add_one,hg];rfl
 rw [List.set_append_right _ _ (by simp;omega),hk,hd,List.set_cons_zero,ht,List.map_append,List.append_assoc,hix];rfl
theorem sL {l:List Int}{k:Nat}(h:l.length≤k):Yu l k=l.map (fun v=>v-Eu l 0):=by
 unfold Yu;rw [List.take_of_length_le h,List.drop_eq_nil_of_le h,List.append_nil]
theorem V8 {n:Nat}{bs:List Bd}(h:(I1 (zn n bs) != 0)=true):Er (zn n bs)=⟨false,[],[],I1 (zn n bs)⟩:=if_pos h
theorem V7 {n:Nat}{bs:List Bd}(h:(I1 (zn n bs) != 0)=false)(h2:decide ((Ed (zn n bs)).2<0)=true):Er (zn n bs)=⟨true,(Ed (zn n bs)).1.sums.map (fun v=>v-Eu (Ed (zn n bs)).1.sums 0),[],0⟩:=(Cz h).trans (if_pos h2)
theorem cK {n:Nat}{bs:List Bd}(h:(I1 (zn n bs) != 0)=false)(h2:decide ((Ed (zn n bs)).2<0)=false):Er (zn n bs)=⟨false,[],(wG (zn n bs)).2,0⟩:=(Cz h).trans (Cz h2)
theorem mR {n:Nat}{bs:List Bd}(h:(I1 (zn n bs) != 0)=false)(hm:∀b∈bs,-Jm≤b.most∧b.most≤Jm):znOK n bs:=by
 have h1:=bQ (n:=(n:Int)) (bs:=bs) h
 exact ⟨by omega,by omega,h1.2.2.1,h1.2.2.2,hm⟩
theorem Xq {n:Nat}{bs:List Bd}(hz:znOK n bs):∀(m:Nat) (s:Ds×Int) (C:Int),dsOK n C s.1→dsOK n (C+(m:Int)*(256*Jm)) (D2 bs m s).1
  | 0,s,C,h=>h.mono (by simp)
  | m+1,s,C,h=>by
    have hb:(0:Int)≤(m:Int)*(256*Jm):=by unfold Jm;omega
    have hs:((m+1:Nat):Int)*(256*Jm)=(m:Int)*(256*Jm)+256*Jm:=by push_cast;rw [Int.add_mul];omega
    cases hq:decide ((Jn bs s.1).2<0) with
    | true=>rw [Ke hq];exact (bM hz h).mono (by omega)
    | false=>rw [Mk hq];exact (Xq hz m _ _ (bM hz h)).mono (by omega)
theorem kI {n:Nat}{bs:List Bd}(hz:znOK n bs):dsOK n 2400000000000000000 (Ed (zn n bs)).1:=by
 rw [Nh]
 refine (Xq hz (n+1) _ 0 (jF n)).mono ?_
 have:=hz.n64
 unfold Jm
 omega
section
variable {T:List Sc} {V:List Va}
theorem eS {c:Lit}{x z r:Int}(hr : -140737488355328≤r∧r≤140737488355328):∀b∈D1 c x z r,-Jm≤b.most∧b.most≤Jm:=by
 have hb:Jm=140737488355329:=rfl
 unfold D1
 repeat' split
 all_goals
  intro b hb'
  simp only [List.mem_cons,List.not_mem_nil,or_false] at hb'
  rcases hb' with rfl | rfl <;> first | omega | skip
 all_goals (try (simp only;omega))
theorem X3:∀{l:List Lit},Un T V l→∀{s:Sy},(∀b∈s.bs,-Jm≤b.most∧b.most≤Jm)→∀b∈(l.foldl (Dc T V) s).bs,-Jm≤b.most∧b.most≤Jm
  | [],_,s,hs=>hs
  | c::r,hl,s,hs=>by
    rw [List.foldl_cons]
    refine X3 (fun x hx=>hl x (List.mem_cons_of_mem _ hx)) ?_
    cases h : !(Aa T V c).2 with
    | true=>rw [Lg h];exact hs
    | false=>
      rw [Lj h]
      intro b hb
      rcases List.mem_append.1 hb with hb | hb
      · exact hs b hb
      · exact eS (Q0 (hl c (List.mem_cons_self ..)).1 (hl c (List.mem_cons_self ..)).2).rest b hb
theorem Yb:∀(ts:List Tm) (i:Nat),∀b∈G0 T V i ts,-Jm≤b.most∧b.most≤Jm
  | [],i,b,h=>by cases h
  | t::r,i,b,h=>by
    have hb:Jm=140737488355329:=rfl
    have hl:=Sm (T:=T) (V:=V) t
    rw [G0] at h
    rcases List.mem_cons.1 h with rfl | h
    · simp only;omega
    · rcases List.mem_cons.1 h with rfl | h
      · simp only;omega
      · exact Yb r (i+1) b h
def zN (T:List Sc)(V:List Va)(l:List Lit):Nat:=(B6 T V l).ts.length+1
theorem pJ (l:List Lit):C2 T V l=zn (zN T V l) (C2 T V l).bs:=rfl
theorem Pz {l:List Lit}(hl:Un T V l):∀b∈(C2 T V l).bs,-Jm≤b.most∧b.most≤Jm:=by
 intro b hb
 rcases List.mem_append.1 hb with hb | hb
 · exact Yb _ _ b hb
 · exact X3 hl (s:=⟨[],[]⟩) (fun b h=>by cases h) b hb
def SOLV (T:List Sc)(V:List Va)(l:List Lit):Prop:=(I1 (C2 T V l) != 0)=false→decide ((Ed (C2 T V l)).2<0)=false→Nx (zN T V l) (C2 T V l).bs=true
def Lu (T:List Sc)(V:List Va)(l:List Lit):List Int:=if !In (C2 T V l) then [] else (Er (C2 T V l)).values
def Qb (T:List Sc)(V:List Va)(l:List Lit):Bool:=if !In (C2 T V l) then true else (Eg T V l).2&&(Er (C2 T V l)).ok
theorem solV_1 {l:List Lit}(h:(!In (C2 T V l))=true):Lu T V l = []:=if_pos h
theorem kH {l:List Lit}(h:(!In (C2 T V l))=false):Lu T V l=(Er (C2 T V l)).values:=Cz h
theorem yM {l:List Lit}(h:(!In (C2 T V l))=true):Qb T V l=true:=if_pos h
theorem cN {l:List Lit}(h:(!In (C2 T V l))=false):Qb T V l=((Eg T V l).2&&(Er (C2 T V l)).ok):=Cz h
theorem mL (l:List Lit):Rq (Eg T V l).1:=dG l [] Vz
def Jq (T:List Sc)(V:List Va)(l:List Lit):Bool:=l.all (fun c=>Bt T V c.cond)&&(In (C2 T V l)&&decide ((l.length:Int)≤256))
theorem wL {l:List Lit}(h:l.all (fun c=>Bt T V c.cond)=true):Jq T V l=(In (C2 T V l)&&decide ((l.length:Int)≤256)):=by unfold Jq;rw [h,Bool.true_and]
theorem cert_no {l:List Lit}{k:Nat}{c:Lit}(hc:l[k]? = some c)(h:Bt T V c.cond=false):Jq T V l=false:=by
 unfold Jq
 have:l.all (fun c=>Bt T V c.cond)=false:=by
  rw [List.all_eq_false]
  exact ⟨c,List.mem_of_getElem? hc,by rw [h];decide⟩
 rw [this,Bool.false_and]
end
end Go.Proofs.YtkddpedfbicbeaaGreatDoor

namespace Go.Aw
open Go
theorem AW.ghostPost {P:Program}{c:Code}{Q:Exit→St→Prop}{s:St}(h:AW P c (fun e s=>∃s',GS s s'∧Q e s') s):AW P c Q s:=by
 intro Q' g a w hG hQ
 refine h Q' g a w hG fun e g' s' a' w' h1 h2 ⟨s2,h3,h4⟩=>?_
 obtain ⟨g2,k1,k2⟩:=h3 g' a' w' h1
 exact hQ e g2 s2 a' w' k1 (h2.trans k2) h4
def Vv:List (List UInt8×AV)→List UInt8→Option Nat
 | [],_=>none
 | (k,_)::r,n=>if k=n then some 0 else (Vv r n).map (· + 1)
def zI (es:List (List UInt8×AV))(n:List UInt8)(x:AV):List (List UInt8×AV):=match Vv es n with | some j=>es.modify j fun _=>(n,x) | none=>es ++ [(n,x)]
theorem aU {n:List UInt8}:∀{es:List (List UInt8×AV)},Vv es n=none→Mo es n=none
  | [],_=>rfl
  | (k,x)::r,h=>by
    rw [Vv] at h
    split at h
    · cases h
    · rename_i hk
      rw [Mo,if_neg hk]
      exact aU (Option.map_eq_none_iff.1 h)
theorem oK {n:List UInt8}:∀{es:List (List UInt8×AV)} {j:Nat},Vv es n=some j→∃x,es[j]? = some (n,x)∧Mo es n=some x
  | [],j,h=>by cases h
  | (k,x)::r,j,h=>by
    rw [Vv] at h
    split at h
    · rename_i hk
      cases h;subst hk
      exact ⟨x,rfl,by rw [Mo,if_pos rfl]⟩
    · rename_i hk
      obtain ⟨j',h1,h2⟩:=Option.map_eq_some_iff.1 h
      subst h2
      obtain ⟨y,h3,h4⟩:=oK h1
      exact ⟨y,h3,by rw [Mo,if_neg hk];exact h4⟩
theorem jQ {n:List UInt8}:∀(l:List MapEntry) (es:List (List UInt8×AV)) (i j:Nat),l.length=es.length→(∀(j:Nat) m x,es[j]? = some (m,x)→(l.getD j default).key = .string ⟨m.toArray⟩)→Vv es n=some j→
    Instr.findNow .string (.string ⟨n.toArray⟩) l i=some (some (i+j,(l.getD j default).val))
  | [],[],_,_,_,_,hg=>by cases hg
  | [],_::_,_,_,h,_,_=>by simp at h
  | e::l,[],_,_,h,_,_=>by simp at h
  | e::l,(m,y)::es,i,j,h,hk,hg=>by
    have h1:e.key = .string ⟨m.toArray⟩:=by simpa using hk 0 m y rfl
    rw [Vv] at hg
    by_cases hm:m=n
    · subst hm
      rw [if_pos rfl] at hg
      cases hg
      unfold Instr.findNow
      simp [h1,Instr.sameNow,pX]
    · rw [if_neg hm] at hg
      obtain ⟨j',h3,rfl⟩:=Option.map_eq_some_iff.1 hg
      have:((⟨n.toArray⟩:ByteArray)==⟨m.toArray⟩)=false:=by rw [pX];simp;exact fun e=>hm e.symm
      unfold Instr.findNow
      simp only [h1,Instr.sameNow,this]
      have ih:=jQ l es (i+1) j' (by simpa using h) (fun j m x hj=>by simpa using hk (j+1) m x hj) h3
      rw [show i+(j'+1)=i+1+j' by omega]
      simpa using ih
section
variable {P:Program} {T:List (Nat×TD)} {d:Option Nat} {ty:TypeId} {pos:String} {aft:Array Edge} {gd:Option (Nat×Bool)} {ρ:Operand→AV}
theorem rH {t:TypeId}{m k v:Operand}{kt et b i j:Nat}{td tk:TD}{n:List UInt8}{es:List (List UInt8×AV)}{x:AV}{H H2:List HO}(hT:Ho P T)(ht:Bs T t=some td)(hk:td.kind = .map kt et)(htk:Bs T kt=some tk)(hkk:tk.kind = .str)
  (hm:ρ m = .val (.map (some b))) (hkey:ρ k = .str n) (hv:ρ v=x) (hH:H[i]? = some (.smap b es)) (hold:Vv es n=some j) (hH2:H.set i (.smap b (es.modify j fun _=>(n,x)))=H2) :
  K9 P ⟨d,.mapUpdate t m k v,ty,pos,aft,gd⟩ ρ H (fun y H'=>y = .junk∧H'=H2):=by
 subst hH2
 intro g w a next Q hr hHK hn
 have h1:=(hm▸hr m (by simp [Op.operands]):Rep g w _ _).inv_val
 have h2:=(hkey▸hr k (by simp [Op.operands]):Rep g w _ _).inv_str.1
 have h3:Rep g w (a.eval v) x:=hv▸hr v (by simp [Op.operands])
 obtain ⟨hg,ms,clock,hheap,hl,hks,hvs⟩:=hHK.ok _ (List.mem_of_getElem? hH)
 have hu:=It (hT t td ht) hk
 have huk:=K1 (hT kt tk htk) hkk
 have hl':ms.toList.length=es.length:=by simpa using hl
 have hfind:=jQ (n:=n) ms.toList es 0 j hl' (fun j m x hj=>by simpa using hks j m x hj) hold
 rw [Nat.zero_add] at hfind
 have hget:(getObj b).run P w = .ok (.map ms clock) w:=by simp [getObj,Sem.run,hheap]
 obtain ⟨y,hj,_⟩:=oK hold
 have hlt:j<ms.size:=by rw [hl];exact (List.getElem?_eq_some_iff.1 hj).1
 have e1:ms[j]? = some (ms.getD j default):=by simp [Array.getD_eq_getD_getElem?,hlt]
 have hkey0:=hks j n y hj
 have hkj:(((ms[j]?).map (·.key)).getD (.string ⟨n.toArray⟩)) = .string ⟨n.toArray⟩:=by
  rw [e1];simp only [Option.map_some,Option.getD_some,hkey0]
 have hkt:(Instr.keyThatStays (.string ⟨n.toArray⟩) (.string ⟨n.toArray⟩)).run P w = .ok (.string ⟨n.toArray⟩) w:=by
  unfold Instr.keyThatStays
  rw [if_pos (by
   have e:((⟨n.toArray⟩:ByteArray)==⟨n.toArray⟩)=true:=by rw [pX];simp
   simp [Instr.sameBits,e])];rfl
 obtain ⟨hset,hx,hnew,hoth⟩:=Lh (P:=P) (.map (ms.modify j fun e=>{ e with key:=.string ⟨n.toArray⟩,val:=a.eval v }) clock) hg hheap
 have hrun:(Instr.mapUpdate t (a.eval m) (a.eval k) (a.eval v)).run P w = .ok () { w with heap:=w.heap.setIfInBounds b (.map (ms.modify j fun e=>{ e with key:=.string ⟨n.toArray⟩,val:=a.eval v }) clock) }:=by
  have hfk:(Instr.findKey kt (.string ⟨n.toArray⟩) ms.toList).run P w = .ok (some (j,(ms.toList.getD j default).val)) w:=by
   unfold Instr.findKey
   rw [Sem.run_bind,A7 huk]
   simp only [Result.andThen_ok,hfind,Sem.run_pure]
  unfold Instr.mapUpdate
  rw [Sem.run_bind,A7 hu]
  simp only [Result.andThen_ok,h1,Sem.run_bind,hget,h2,K4 (n:=9999) huk,hfk,hkj,hkt,hset]
 unfold Oper.wp
 simp only [execOp,Sem.run_bind,hrun,Result.andThen_ok,Sem.run_pure]
 have hgetm:∀i,i<ms.size→(ms.modify j fun e=>{ e with key:=.string ⟨n.toArray⟩,val:=a.eval v }).getD i default=if j=i then { ms.getD i default with key:=.string ⟨n.toArray⟩,val:=a.eval v } else ms.getD i default:=fun i hi=>by
  simp only [Array.getD_eq_getD_getElem?,Array.getElem?_modify]
  by_cases h:j=i
  · subst h;simp [hi]
  · simp [h]
 have hkp:∀i k z,(es.modify j fun _=>(n,x))[i]? = some (k,z)→i<ms.size∧if j=i then k=n∧z=x else es[i]? = some (k,z):=fun i k z hi=>by
  have h1:=(List.getElem?_eq_some_iff.1 hi).1
  rw [List.length_modify,←hl] at h1
  refine ⟨h1,?_⟩
  simp only [List.getElem?_modify] at hi
  by_cases h:j=i
  · subst h;rw [hj] at hi;simp at hi;simp [hi.1.symm,hi.2.symm]
  · simpa [h] using hi
 refine hn g _ undef .junk _ ⟨rfl,rfl⟩ (.junk _) (hHK.set hx hH (fun c hc=>.inl hc) ⟨hg,_,_,hnew,by simp [hl],fun i k z hi=>?_,fun i k z hi=>?_⟩ (fun c hc hne _=>⟨rfl,hoth c fun e=>hne (by rw [e];rfl)⟩)) hx
 ·
  obtain ⟨q1,q2⟩:=hkp i k z hi
  rw [hgetm i q1]
  by_cases h:j=i
  · rw [if_pos h];rw [if_pos h] at q2;rw [q2.1]
  · rw [if_neg h];rw [if_neg h] at q2;exact hks i k z q2
 ·
  obtain ⟨q1,q2⟩:=hkp i k z hi
  rw [hgetm i q1]
  by_cases h:j=i
  · rw [if_pos h];rw [if_pos h] at q2;rw [q2.2];exact h3.mono hx
  · rw [if_neg h];rw [if_neg h] at q2;exact (hvs i k z q2).mono hx

theorem pS {t:TypeId}{m k v:Operand}{kt et b i:Nat}{td tk:TD}{n:List UInt8}{es:List (List UInt8×AV)}{x:AV}{H H2:List HO}(hT:Ho P T)(ht:Bs T t=some td)(hk:td.kind = .map kt et)(htk:Bs T kt=some tk)(hkk:tk.kind = .str)
  (hm:ρ m = .val (.map (some b))) (hkey:ρ k = .str n) (hv:ρ v=x) (hH:H[i]? = some (.smap b es)) (hH2:H.set i (.smap b (zI es n x))=H2) :
  K9 P ⟨d,.mapUpdate t m k v,ty,pos,aft,gd⟩ ρ H (fun y H'=>y = .junk∧H'=H2):=by
 unfold zI at hH2
 cases hs:Vv es n with
 | none=>rw [hs] at hH2;exact Ur hT ht hk htk hkk hm hkey hv hH (aU hs) hH2
 | some j=>rw [hs] at hH2;exact rH hT ht hk htk hkk hm hkey hv hH hs hH2
end
end Go.Aw
