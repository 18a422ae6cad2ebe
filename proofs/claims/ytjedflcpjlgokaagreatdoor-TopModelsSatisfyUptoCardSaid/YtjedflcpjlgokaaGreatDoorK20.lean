/-
  Several texts in one: S23, S23b, S23c, S25, As. No condition.
-/
import Derived.Test.YtjedflcpjlgokaaGreatDoorK17
import Derived.Test.YtjedflcpjlgokaaGreatDoorAr
import Derived.Test.YtjedflcpjlgokaaGreatDoorK19
set_option linter.unusedVariables false
set_option linter.unusedSimpArgs false
namespace Go.Aw
open Go
section
variable {P:Program} {T:List (Nat×TD)} {d:Option Nat} {ty:TypeId} {pos:String} {aft:Array Edge} {gd:Option (Nat×Bool)} {ρ:Operand→AV} {K:List HO→Prop}
theorem qA {x:Operand}{t yt e z:Nat}{td:TD}{es:List (List AV)}(hT:Hb P T)(hx:ρ x = .sl z es)(hne:es≠[])(ht:Bv T t=some td)(hk:td.kind = .slice e) :
  Dn P ⟨d,.binOp .neq t x (.const (.slice none 0 0)) yt,ty,pos,aft,gd⟩ ρ K (.bool true):=
 .of_run fun g w a hr=>by
  obtain ⟨a0,n,cap,h1,h2,_,_,h5⟩:=(hx▸hr x (by simp [Op.operands]):Rep g w _ _).inv_sl
  have hu:=D3 (hT t td ht) hk
  rcases h5 with h5 | ⟨b,o,rfl,_⟩
  · exact absurd h5 hne
  ·
   refine ⟨.bool true,?_,.bool _⟩
   have e2:a.eval (.const (.slice none 0 0)) = .slice none 0 0:=rfl
   simp only [execOp,h1,e2]
   rw [Sem.run_bind,Sem.run_bind,Gu rfl]
   have:=Yp (n:=9999) hu (some ⟨b,o,none⟩) n cap w
   simp only [Result.andThen_ok,binOp,Op.equal,Op.maxDepth,Sem.run_bind,this,Sem.run_pure]
   rfl
theorem oV {x:Operand}{t yt e:Nat}{td:TD}(hT:Hb P T)(hx:ρ x = .val (.slice none 0 0))(ht:Bv T t=some td)(hk:td.kind = .slice e) :
  Dn P ⟨d,.binOp .neq t x (.const (.slice none 0 0)) yt,ty,pos,aft,gd⟩ ρ K (.bool false):=
 .of_run fun g w a hr=>by
  have h1:=(hx▸hr x (by simp [Op.operands]):Rep g w _ _).inv_val
  have hu:=D3 (hT t td ht) hk
  refine ⟨.bool false,?_,.bool _⟩
  have e2:a.eval (.const (.slice none 0 0)) = .slice none 0 0:=rfl
  simp only [execOp,h1,e2]
  rw [Sem.run_bind,Sem.run_bind,Gu rfl]
  have:=Yp (n:=9999) hu none 0 0 w
  simp only [Result.andThen_ok,binOp,Op.equal,Op.maxDepth,Sem.run_bind,this,Sem.run_pure]
  rfl
end
end Go.Aw
namespace Go.Proofs.YtjedflcpjlgokaaGreatDoor
open Go Go.Aw

def bI (l:List Int):List AV:=l.map (AV.int .i64)
def cI (v:Int):List AV:=[.int .i64 v]
theorem Vv (l:List Int):(bI l).length=l.length:=List.length_map ..
theorem bI_sc (l:List Int):Be (bI l)=true:=by
 induction l with
 | nil=>rfl
 | cons a r ih=>exact ih
theorem rR (l m:List Int):bI (l++m)=bI l++bI m:=List.map_append ..
theorem lB (l:List Int)(k:Nat):(bI l).take k=bI (l.take k):=(List.map_take ..).symm
theorem wX (l:List Int)(k:Nat):(bI l).drop k=bI (l.drop k):=(List.map_drop ..).symm
theorem bW (n:Nat):(List.replicate n [AV.int .i64 0]).flatten=bI (List.replicate n 0):=by
 induction n with
 | zero=>rfl
 | succ n ih=>rw [List.replicate_succ,List.flatten_cons,ih,List.replicate_succ];rfl
theorem zE (l:List Int):(l.map cI).flatten=bI l:=by
 induction l with
 | nil=>rfl
 | cons a r ih=>rw [List.map_cons,List.flatten_cons,ih];rfl
theorem vC {α:Type}{f:α→List AV}(hf:∀x,(f x).length=1)(l:List α):∀e∈l.map f,e.length=1:=fun e he=>by
 obtain ⟨x,_,rfl⟩:=List.mem_map.1 he
 exact hf x
theorem kF {l:List Int}{k:Int}(h0:0≤k)(h:k<(l.length:Int)):l[k.toNat]? = some (Du l k):=by
 unfold Du
 have:k.toNat<l.length:=by omega
 rw [List.getElem?_eq_getElem this];rfl
theorem Xk {l:List Int}{k:Int}(h0:0≤k)(h:k<(l.length:Int)):(bI l)[k.toNat]? = some (.int .i64 (Du l k)):=by
 unfold bI;rw [List.getElem?_map,kF h0 h];rfl
theorem aN:∀{l:List Int} {k:Nat} {v:Int},k<l.length→D7 (bI l) k [AV.int .i64 v]=bI (l.set k v)
  | [],k,v,h=>absurd h (by simp)
  | a::r,0,v,h=>by simp [D7,bI]
  | a::r,k+1,v,h=>by
    have ih:=aN (l:=r) (k:=k) (v:=v) (by simpa using h)
    show AV.int .i64 a::D7 (bI r) k [AV.int .i64 v]=_
    rw [ih];rfl
theorem bU (n:Nat):0+n*1=n:=by omega
theorem aV {l:List Int}{k:Nat}(h:k<l.length):Nat.ble (k+1) (bI l).length=true:=Nat.ble_eq_true_of_le (by rw [Vv];omega)

def Ks (n:Nat):List Int:=List.replicate n (-1)
def Lj (n k:Nat):List Int:=List.replicate k (-1)++List.replicate (n-k) 0
theorem W4 {n k:Nat}(h:k≤n):(Lj n k).length=n:=by unfold Lj;simp;omega
theorem pY (n:Nat):Lj n n=Ks n:=by unfold Lj Ks;simp
theorem oD {n k m:Nat}(hk:k+m≤n)(hm:m≤k):D7 (bI (Lj n k)) k (((bI (Lj n k)).drop 0).take m)=bI (Lj n (k+m)):=by
 rw [List.drop_zero,lB]
 have h1:(Lj n k).take m=List.replicate m (-1):=by
  unfold Lj
  rw [List.take_append_of_le_length (by rw [List.length_replicate];exact hm),List.take_replicate,Nat.min_eq_left hm]
 have h2:(Lj n k).take k=List.replicate k (-1):=by
  unfold Lj
  rw [List.take_append_of_le_length (by rw [List.length_replicate];omega),List.take_replicate,Nat.min_self]
 have h3:(Lj n k).drop (k+m)=List.replicate (n-(k+m)) 0:=by
  unfold Lj
  rw [List.drop_append,List.length_replicate,List.drop_of_length_le (by rw [List.length_replicate];omega),List.nil_append,List.drop_replicate]
  congr 1;omega
 unfold D7
 rw [h1,Vv,List.length_replicate,lB,wX,h2,h3,←rR,←rR]
 congr 1
 unfold Lj
 rw [List.replicate_append_replicate]
theorem iV {n:Nat}(hn:0<n):D7 (bI (Lj n 0)) 0 ((([[AV.int .i64 (-1)]]:List (List AV)).flatten).take 1)=bI (Lj n 1):=by
 unfold Lj
 obtain ⟨m,rfl⟩:∃m,n=m+1:=⟨n-1,by omega⟩
 simp [D7,bI,List.replicate_succ]
theorem kMul1 (n:Nat)(hn:n≤1048576):Ax Tryz.prog 103 [.int .u64 1,.int .u64 (n:Int)] (.tuple [.int .u64 0,.int .u64 (n:Int)]):=by
 have h:=kMul 1 n (by decide) (by omega)
 rw [Nat.one_mul,Nat.div_eq_of_lt (by omega),Nat.mod_eq_of_lt (by omega)] at h
 exact h
theorem u64_in {n:Nat}(h:n≤1048576):IntKind.wrap .u64 (n:Int)=(n:Int):=by
 unfold IntKind.wrap
 simp [IntKind.bits,IntKind.signed]
 omega
theorem i64_in {n:Nat}(h:n≤1048576):IntKind.wrap .i64 (n:Int)=(n:Int):=IntWalk.i64_in _ (by omega)

def Jk:Int:=140737488355329
structure znOK (n:Nat) (bs:List Bd):Prop where
 n1:1≤n
 n64:n≤64
 len:bs.length≤256
 bd:∀b∈bs,0≤b.x∧b.x<(n:Int)∧0≤b.y∧b.y<(n:Int)
 most:∀b∈bs,-Jk≤b.most∧b.most≤Jk
structure dsOK (n:Nat) (C:Int) (d:Ds):Prop where
 s:d.sums.length=n
 l:d.last.length=n
 r:∀v∈d.sums,-C≤v∧v≤0
theorem dsOK.mono {n:Nat}{C C':Int}{d:Ds}(h:dsOK n C d)(hc:C≤C'):dsOK n C' d:=⟨h.s,h.l,fun v hv=>by have:=h.r v hv;omega⟩
theorem ix_mem {l:List Int}{k:Int}(h0:0≤k)(h:k<(l.length:Int)):Du l k∈l:=List.mem_of_getElem? (kF h0 h)
theorem dsOK.ix {n:Nat}{C:Int}{d:Ds}(h:dsOK n C d){k:Int}(h0:0≤k)(hk:k<(n:Int)) : -C≤Du d.sums k∧Du d.sums k≤0:=h.r _ (ix_mem h0 (by rw [h.s];exact hk))
theorem Mu {i:Nat}{b:Bd}{s:Ds×Int}(h:decide (Du s.1.sums b.y+b.most<Du s.1.sums b.x)=true) :
 Ul i b s=(⟨s.1.sums.set b.x.toNat (Du s.1.sums b.y+b.most),s.1.last.set b.x.toNat (i:Int)⟩,b.x):=if_pos h
theorem Tl {i:Nat}{b:Bd}{s:Ds×Int}(h:decide (Du s.1.sums b.y+b.most<Du s.1.sums b.x)=false):Ul i b s=s:=if_neg (by rw [h];decide)
theorem rX {n:Nat}{C:Int}{i:Nat}{b:Bd}{s:Ds×Int}(hd:dsOK n C s.1)(hb:0≤b.x∧b.x<(n:Int)∧0≤b.y∧b.y<(n:Int))(hm : -Jk≤b.most∧b.most≤Jk):dsOK n (C+Jk) (Ul i b s).1:=by
  have hbig:(0:Int)≤Jk:=by decide
  cases h:decide (Du s.1.sums b.y+b.most<Du s.1.sums b.x) with
  | false=>rw [Tl h];exact hd.mono (by omega)
  | true=>
    rw [Mu h]
    have h1:=hd.ix hb.2.2.1 hb.2.2.2
    have h2:=hd.ix hb.1 hb.2.1
    have h3:=of_decide_eq_true h
    refine ⟨by simp only [List.length_set];exact hd.s,by simp only [List.length_set];exact hd.l,fun v hv=>?_⟩
    rcases List.mem_or_eq_of_mem_set hv with hv | rfl
    · have:=hd.r v hv;omega
    · omega
theorem fZ {n:Nat}:∀{bs:List Bd} {i:Nat} {s:Ds×Int} {C:Int},(∀b∈bs,0≤b.x∧b.x<(n:Int)∧0≤b.y∧b.y<(n:Int))→(∀b∈bs,-Jk≤b.most∧b.most≤Jk)→dsOK n C s.1→dsOK n (C+(bs.length:Int)*Jk) (Hm i bs s).1
  | [],i,s,C,_,_,hd=>hd.mono (by simp)
  | b::r,i,s,C,hb,hm,hd=>by
    rw [Hm]
    refine (fZ (fun b hb'=>hb b (List.mem_cons_of_mem _ hb')) (fun b hb'=>hm b (List.mem_cons_of_mem _ hb')) (rX hd (hb b (List.mem_cons_self ..)) (hm b (List.mem_cons_self ..)))).mono ?_
    rw [List.length_cons];push_cast;rw [Int.add_mul];omega
theorem aY {n:Nat}{bs:List Bd}{d:Ds}{C:Int}(hz:znOK n bs)(hd:dsOK n C d):dsOK n (C+256*Jk) (Ka bs d).1:=by
 refine (fZ (s:=(d,-1)) hz.bd hz.most hd).mono ?_
 have:=hz.len
 unfold Jk
 omega
theorem Mx {bs:List Bd}{k:Nat}{b:Bd}{s:Ds×Int}(h:bs[k]? = some b):Hm k (bs.drop k) s=Hm (k+1) (bs.drop (k+1)) (Ul k b s):=by rw [A8 h,Hm]
theorem Tg {bs:List Bd}{k:Nat}{s:Ds×Int}(h:bs.drop k = []):Hm k (bs.drop k) s=s:=by rw [h,Hm]
theorem Kg {bs:List Bd}{m:Nat}{s:Ds×Int}(h:decide ((Ka bs s.1).2<0)=true):Ea bs (m+1) s=Ka bs s.1:=by rw [Ea,if_pos h]
theorem Mk {bs:List Bd}{m:Nat}{s:Ds×Int}(h:decide ((Ka bs s.1).2<0)=false):Ea bs (m+1) s=Ea bs m (Ka bs s.1):=by rw [Ea,if_neg (by rw [h];decide)]
def zn (n:Nat)(bs:List Bd):Zn:=⟨(n:Int),bs⟩
theorem Na (n:Nat)(bs:List Bd):Di (zn n bs)=Ea bs (n+1) (⟨List.replicate n 0,Ks n⟩,-1):=by unfold Di start zn Ks;simp
theorem fD (n:Nat):dsOK n 0 ⟨List.replicate n 0,Ks n⟩:=⟨by simp,by simp [Ks],fun v hv=>by rw [(List.mem_replicate.1 hv).2];omega⟩
def Vz (bs:List Bd)(d:Ds)(a:Int):Bool:=decide (0≤a)&&decide (a<(d.last.length:Int))&&decide (0≤Du d.last a)&&decide (Du d.last a<(bs.length:Int))
def Ll (bs:List Bd)(d:Ds):Nat→Int→Bool
 | 0,_=>true
 | k+1,a=>Vz bs d a&&Ll bs d k (F3 bs d a)
def I9 (bs:List Bd)(d:Ds)(f:Int):Nat→Int→Bool
 | 0,_=>false
 | k+1,a=>Vz bs d a&&(F3 bs d a==f||I9 bs d f k (F3 bs d a))
def L2 (n:Nat)(bs:List Bd):Bool:=
 Ll bs (Di (zn n bs)).1 n (Di (zn n bs)).2&&I9 bs (Di (zn n bs)).1 (Ii bs (Di (zn n bs)).1 n (Di (zn n bs)).2) (n+1) (Ii bs (Di (zn n bs)).1 n (Di (zn n bs)).2)
structure okA (bs:List Bd) (d:Ds) (a:Int) (b:Bd):Prop where
 a0:0≤a
 al:a<(d.last.length:Int)
 l0:0≤Du d.last a
 at_:bs[(Du d.last a).toNat]? = some b
 pred:F3 bs d a=b.y
theorem V5 {bs:List Bd}{d:Ds}{a:Int}(h:Vz bs d a=true):∃b,okA bs d a b:=by
 unfold Vz at h
 simp only [Bool.and_eq_true,decide_eq_true_eq] at h
 obtain ⟨⟨⟨h1,h2⟩,h3⟩,h4⟩:=h
 have hlt:(Du d.last a).toNat<bs.length:=by omega
 have hg:=List.getElem?_eq_getElem hlt
 exact ⟨_,h1,h2,h3,hg,by unfold F3;rw [hg];rfl⟩
theorem yU {bs:List Bd}{d:Ds}{k:Nat}{a:Int}(h:Ll bs d (k+1) a=true):Vz bs d a=true∧Ll bs d k (F3 bs d a)=true:=by
 rw [Ll,Bool.and_eq_true] at h;exact h
theorem aX {bs:List Bd}{d:Ds}{f:Int}{k:Nat}{a:Int}(h:I9 bs d f k a=true):∃m,k=m+1∧Vz bs d a=true∧(F3 bs d a==f||I9 bs d f m (F3 bs d a))=true:=by
 cases k with
 | zero=>cases h
 | succ m=>rw [I9,Bool.and_eq_true] at h;exact ⟨m,rfl,h⟩
theorem Xc {bs:List Bd}{d:Ds}{k:Nat}{a:Int}:Ii bs d (k+1) a=Ii bs d k (F3 bs d a):=rfl
theorem jH {bs:List Bd}{k:Nat}{b:Bd}(h:bs[k]? = some b):(bs.map Q7)[k]? = some [.int .i64 b.x,.int .i64 b.y,.int .i64 b.most]:=by rw [List.getElem?_map,h];rfl
theorem Qq {α:Type}{f:α→Int}:∀{l:List α},Ao f l=0→∀x∈l,f x=0
  | [],_,x,hx=>by cases hx
  | a::r,h,x,hx=>by
    rw [Ao] at h
    split at h
    · rename_i hn;exact absurd h (by simpa using hn)
    · rename_i hn
      rcases List.mem_cons.1 hx with rfl | hx
      · simpa using hn
      · exact Qq h x hx
theorem Vd {n:Int}{bs:List Bd}(h:(Gt ⟨n,bs⟩ != 0)=false):1≤n∧n≤64∧bs.length≤256∧∀b∈bs,0≤b.x∧b.x<n∧0≤b.y∧b.y<n:=by
 have h0:Gt ⟨n,bs⟩=0:=by simpa using h
 unfold Gt at h0
 split at h0
 · cases h0
 rename_i h1
 split at h0
 · cases h0
 rename_i h2
 simp only [Bool.or_eq_true,decide_eq_true_eq] at h1 h2
 refine ⟨by omega,by omega,by omega,fun b hb=>?_⟩
 have h3:=Qq h0 b hb
 unfold bdE at h3
 split at h3
 · cases h3
 ·
  rename_i h4
  simp only [Bool.or_eq_true,decide_eq_true_eq] at h4
  omega
theorem tL {bs:List Bd}{d:Ds}{f:Int}{k:Nat}{a:Int}(h:I9 bs d f k a=true):Vz bs d a=true:=by
 obtain ⟨m,_,h1,_⟩:=aX h;exact h1
theorem eX {bs:List Bd}{d:Ds}{f:Int}{k:Nat}{a:Int}{b:Bd}(h:I9 bs d f k a=true)(ok:okA bs d a b)(hn:(b.y==f)=false):I9 bs d f (k-1) b.y=true∧2≤k:=by
 obtain ⟨m,rfl,_,h2⟩:=aX h
 rw [ok.pred,hn,Bool.false_or] at h2
 obtain ⟨m',rfl,_,_⟩:=aX h2
 exact ⟨h2,by omega⟩
theorem vD {bs:List Bd}{d:Ds}{f:Int}{k:Nat}{a:Int}{b:Bd}(h:I9 bs d f k a=true)(ok:okA bs d a b):Ib bs d f k a=Du d.last a::if b.y==f then [] else Ib bs d f (k-1) b.y:=by
 obtain ⟨m,rfl,_,_⟩:=aX h
 rw [Ib,ok.pred];rfl
theorem cyc_on {bs:List Bd}{d:Ds}{f:Int}{n:Nat}{a:Int}{b:Bd}{es W:List Int}(hW:W=es++Ib bs d f (n+1-es.length) a)(h:I9 bs d f (n+1-es.length) a=true)(ok:okA bs d a b)(hn:(b.y==f)=false):W=(es ++ [Du d.last a])++Ib bs d f (n+1-(es.length+1)) b.y:=by
 rw [hW,vD h ok,hn,if_neg (by decide),List.append_assoc,show n+1-(es.length+1)=n+1-es.length-1 by omega];rfl
theorem xA {bs:List Bd}{d:Ds}{f:Int}{n:Nat}{a:Int}{b:Bd}{es W:List Int}(hW:W=es++Ib bs d f (n+1-es.length) a)(h:I9 bs d f (n+1-es.length) a=true)(ok:okA bs d a b)(hn:(b.y==f)=true):es ++ [Du d.last a]=W:=by
 rw [hW,vD h ok,hn,if_pos rfl]
theorem cyc_ne {bs:List Bd}{d:Ds}{f:Int}{n:Nat}{a:Int}:(Ib bs d f (n+1) a).map cI≠[]:=by rw [Ib];intro h;cases h
theorem bC {n:Nat}{bs:List Bd}{s:Ds×Int}{q:Int}(he:Di (zn n bs)=s)(hn:decide ((Di (zn n bs)).2<0)=false)(hq:Ii bs s.1 n s.2=q):(Nv (zn n bs)).2=Ib bs s.1 q (n+1) q:=by
 subst hq;subst he
 unfold Nv
 rw [C8 hn];rfl
theorem sol_ne {n:Nat}{bs:List Bd}(hn:decide ((Di (zn n bs)).2<0)=false):(Nv (zn n bs)).2.map cI≠[]:=by rw [bC rfl hn rfl];exact cyc_ne
theorem iH {tmps:Array Value}{b6 n0:Nat}{x:Int}(hsz:tmps.size=n0)(h53:Nat.blt 53 n0=true)(h6:tmps.getD 6 undef = .pointer (some ⟨b6,0,none⟩)):∀g w vs,Cx g w vs [AV.int .i64 x]→∀j,
    Rep g w ((((#[53]:Array Tmp).zip vs).foldl (fun t (p,v)=>t.setIfInBounds p v) tmps).getD j undef) (get [(53,.int .i64 x),(6,.val (.pointer (some ⟨b6,0,none⟩)))] j):=by
  intro g w vs hr j
  have h0:=hr.2 0 _ rfl
  have hs:vs.size=1:=hr.1
  obtain ⟨u, rfl⟩ : ∃ u, vs = #[u] := ⟨vs[0], by apply Array.ext; simp [hs]; intro i h1 h2; have : i = 0 := by omega
                                                 subst this;rfl⟩
  have hu:u = .int .i64 x:=by have:=h0.inv_int;simpa using this
  subst hu
  have hlt:53<tmps.size:=by have:=Nat.le_of_ble_eq_true h53;omega
  rw [←Array.foldl_toList,Array.toList_zip]
  show Rep g w ((tmps.setIfInBounds 53 (.int .i64 x)).getD j undef) _
  rw [Fg]
  by_cases e:53=j
  · subst e
    rw [if_pos rfl]
    simp only [Array.getD_eq_getD_getElem?,Array.getElem?_setIfInBounds]
    simp [hlt]
    exact .int _ _
  · rw [if_neg e,Fg]
    by_cases e6:6=j
    · subst e6
      rw [if_pos rfl]
      have:(tmps.setIfInBounds 53 (Value.int .i64 x)).getD 6 undef=tmps.getD 6 undef:=by
        simp only [Array.getD_eq_getD_getElem?,Array.getElem?_setIfInBounds];simp
      rw [this,h6]
      exact .val _
    · rw [if_neg e6];exact .junk _
theorem hU {n:Nat}{bs:List Bd}{s:Ds×Int}(h:L2 n bs=true)(he:Di (zn n bs)=s):Ll bs s.1 n s.2=true∧I9 bs s.1 (Ii bs s.1 n s.2) (n+1) (Ii bs s.1 n s.2)=true:=by
 subst he
 unfold L2 at h
 exact (Bool.and_eq_true ..).mp h
theorem qS {n k:Nat}{bs:List Bd}{s:Ds×Int}(h:Di (zn n bs)=Ea bs (n+1-k) s)(hk:k<n+1)(hs:decide ((Ka bs s.1).2<0)=true):Di (zn n bs)=Ka bs s.1:=by
 rw [h,show n+1-k=(n-k)+1 by omega,Kg hs]
theorem end_on {n k:Nat}{bs:List Bd}{s:Ds×Int}(h:Di (zn n bs)=Ea bs (n+1-k) s)(hk:k<n+1)(hs:decide ((Ka bs s.1).2<0)=false):Di (zn n bs)=Ea bs (n+1-(k+1)) (Ka bs s.1):=by
 rw [h,show n+1-k=(n+1-(k+1))+1 by omega,Mk hs]
theorem yL {n k:Nat}{bs:List Bd}{s:Ds×Int}(h:Di (zn n bs)=Ea bs (n+1-k) s)(hk:n+1≤k):Di (zn n bs)=s:=by
 rw [h,show n+1-k=0 by omega];rfl
theorem oH {bs:List Bd}{d:Ds}{n k:Nat}{a f:Int}{c:Bd}(h:f=Ii bs d (n-k) a)(hk:k<n)(ok:okA bs d a c):f=Ii bs d (n-(k+1)) c.y:=by
 rw [h,show n-k=(n-(k+1))+1 by omega,Xc,ok.pred]
theorem qB {bs:List Bd}{d:Ds}{n k:Nat}{a:Int}(h:Ll bs d (n-k) a=true)(hk:k<n):Vz bs d a=true∧Ll bs d (n-(k+1)) (F3 bs d a)=true:=by
 rw [show n-k=(n-(k+1))+1 by omega] at h
 exact yU h
def Wv (l:List Int)(k:Nat):List Int:=(l.take k).map (fun v=>v-Du l 0)++l.drop k
theorem V6 {l:List Int}{k:Nat}(h:k≤l.length):(Wv l k).length=l.length:=by unfold Wv;simp;omega
theorem xM {l:List Int}{k:Nat}(h:k<l.length):Du (Wv l k) (k:Int)=Du l (k:Int):=by
 unfold Du Wv
 rw [List.getElem?_append_right (by simp;omega)]
 simp [Nat.min_eq_left (Nat.le_of_lt h)]
theorem tP {l:List Int}{k:Nat}(h:k<l.length):(Wv l k).set k (Du l (k:Int)-Du l 0)=Wv l (k+1):=by
 have hg:=List.getElem?_eq_getElem h
 have hd:l.drop k=l[k]::l.drop (k+1):=(List.drop_eq_getElem_cons h)
 have hix:Du l (k:Int)=l[k]:=by unfold Du;simp [hg]
 unfold Wv
 have hk:k-((l.take k).map (fun v=>v-Du l 0)).length=0:=by simp;omega
 have ht:l.take (k+1)=l.take k ++ [l[k]]:=by rw [List.take_add_one,hg];rfl
 rw [List.set_append_right _ _ (by simp;omega),hk,hd,List.set_cons_zero,ht,List.map_append,List.append_assoc,hix];rfl
theorem oX {l:List Int}{k:Nat}(h:l.length≤k):Wv l k=l.map (fun v=>v-Du l 0):=by
 unfold Wv;rw [List.take_of_length_le h,List.drop_eq_nil_of_le h,List.append_nil]
theorem Vc {n:Nat}{bs:List Bd}(h:(Gt (zn n bs) != 0)=true):Bs (zn n bs)=⟨false,[],[],Gt (zn n bs)⟩:=if_pos h
theorem Nj {n:Nat}{bs:List Bd}(h:(Gt (zn n bs) != 0)=false)(h2:decide ((Di (zn n bs)).2<0)=true):Bs (zn n bs)=⟨true,(Di (zn n bs)).1.sums.map (fun v=>v-Du (Di (zn n bs)).1.sums 0),[],0⟩:=(C8 h).trans (if_pos h2)
theorem Nf {n:Nat}{bs:List Bd}(h:(Gt (zn n bs) != 0)=false)(h2:decide ((Di (zn n bs)).2<0)=false):Bs (zn n bs)=⟨false,[],(Nv (zn n bs)).2,0⟩:=(C8 h).trans (C8 h2)
theorem fA {n:Nat}{bs:List Bd}(h:(Gt (zn n bs) != 0)=false)(hm:∀b∈bs,-Jk≤b.most∧b.most≤Jk):znOK n bs:=by
 have h1:=Vd (n:=(n:Int)) (bs:=bs) h
 exact ⟨by omega,by omega,h1.2.2.1,h1.2.2.2,hm⟩
theorem Xo {n:Nat}{bs:List Bd}(hz:znOK n bs):∀(m:Nat) (s:Ds×Int) (C:Int),dsOK n C s.1→dsOK n (C+(m:Int)*(256*Jk)) (Ea bs m s).1
  | 0,s,C,h=>h.mono (by simp)
  | m+1,s,C,h=>by
    have hb:(0:Int)≤(m:Int)*(256*Jk):=by unfold Jk;omega
    have hs:((m+1:Nat):Int)*(256*Jk)=(m:Int)*(256*Jk)+256*Jk:=by push_cast;rw [Int.add_mul];omega
    cases hq:decide ((Ka bs s.1).2<0) with
    | true=>rw [Kg hq];exact (aY hz h).mono (by omega)
    | false=>rw [Mk hq];exact (Xo hz m _ _ (aY hz h)).mono (by omega)
theorem bL {n:Nat}{bs:List Bd}(hz:znOK n bs):dsOK n 2400000000000000000 (Di (zn n bs)).1:=by
 rw [Na]
 refine (Xo hz (n+1) _ 0 (fD n)).mono ?_
 have:=hz.n64
 unfold Jk
 omega
section
variable {T:List Sc} {V:List Va}
theorem eL {c:Lit}{x z r:Int}(hr : -140737488355328≤r∧r≤140737488355328):∀b∈D5 c x z r,-Jk≤b.most∧b.most≤Jk:=by
 have hb:Jk=140737488355329:=rfl
 unfold D5
 repeat' split
 all_goals
  intro b hb'
  simp only [List.mem_cons,List.not_mem_nil,or_false] at hb'
  rcases hb' with rfl | rfl <;> first | omega | skip
 all_goals (try (simp only;omega))
theorem Wr:∀{l:List Lit},Sq T V l→∀{s:Sy},(∀b∈s.bs,-Jk≤b.most∧b.most≤Jk)→∀b∈(l.foldl (C7 T V) s).bs,-Jk≤b.most∧b.most≤Jk
  | [],_,s,hs=>hs
  | c::r,hl,s,hs=>by
    rw [List.foldl_cons]
    refine Wr (fun x hx=>hl x (List.mem_cons_of_mem _ hx)) ?_
    cases h : !(Aa T V c).2 with
    | true=>rw [Kf h];exact hs
    | false=>
      rw [J7 h]
      intro b hb
      rcases List.mem_append.1 hb with hb | hb
      · exact hs b hb
      · exact eL (Q4 (hl c (List.mem_cons_self ..)).1 (hl c (List.mem_cons_self ..)).2).rest b hb
theorem Xp:∀(ts:List Tm) (i:Nat),∀b∈Ho T V i ts,-Jk≤b.most∧b.most≤Jk
  | [],i,b,h=>by cases h
  | t::r,i,b,h=>by
    have hb:Jk=140737488355329:=rfl
    have hl:=Nx (T:=T) (V:=V) t
    rw [Ho] at h
    rcases List.mem_cons.1 h with rfl | h
    · simp only;omega
    · rcases List.mem_cons.1 h with rfl | h
      · simp only;omega
      · exact Xp r (i+1) b h
def zN (T:List Sc)(V:List Va)(l:List Lit):Nat:=(B1 T V l).ts.length+1
theorem N2 (l:List Lit):Bf T V l=zn (zN T V l) (Bf T V l).bs:=rfl
theorem Mh {l:List Lit}(hl:Sq T V l):∀b∈(Bf T V l).bs,-Jk≤b.most∧b.most≤Jk:=by
 intro b hb
 rcases List.mem_append.1 hb with hb | hb
 · exact Xp _ _ b hb
 · exact Wr hl (s:=⟨[],[]⟩) (fun b h=>by cases h) b hb
def SOLV (T:List Sc)(V:List Va)(l:List Lit):Prop:=(Gt (Bf T V l) != 0)=false→decide ((Di (Bf T V l)).2<0)=false→L2 (zN T V l) (Bf T V l).bs=true
def cO (T:List Sc)(V:List Va)(l:List Lit):List Int:=if !Ic (Bf T V l) then [] else (Bs (Bf T V l)).values
def Vx (T:List Sc)(V:List Va)(l:List Lit):Bool:=if !Ic (Bf T V l) then true else (Le T V l).2&&(Bs (Bf T V l)).ok
theorem solV_1 {l:List Lit}(h:(!Ic (Bf T V l))=true):cO T V l = []:=if_pos h
theorem sL {l:List Lit}(h:(!Ic (Bf T V l))=false):cO T V l=(Bs (Bf T V l)).values:=C8 h
theorem solK_1 {l:List Lit}(h:(!Ic (Bf T V l))=true):Vx T V l=true:=if_pos h
theorem qR {l:List Lit}(h:(!Ic (Bf T V l))=false):Vx T V l=((Le T V l).2&&(Bs (Bf T V l)).ok):=C8 h
theorem gZ (l:List Lit):X4 (Le T V l).1:=aM l [] bJ
def Oz (T:List Sc)(V:List Va)(l:List Lit):Bool:=l.all (fun c=>Ck T V c.cond)&&(Ic (Bf T V l)&&decide ((l.length:Int)≤256))
theorem tB {l:List Lit}(h:l.all (fun c=>Ck T V c.cond)=true):Oz T V l=(Ic (Bf T V l)&&decide ((l.length:Int)≤256)):=by unfold Oz;rw [h,Bool.true_and]
theorem xG {l:List Lit}{k:Nat}{c:Lit}(hc:l[k]? = some c)(h:Ck T V c.cond=false):Oz T V l=false:=by
 unfold Oz
 have:l.all (fun c=>Ck T V c.cond)=false:=by
  rw [List.all_eq_false]
  exact ⟨c,List.mem_of_getElem? hc,by rw [h];decide⟩
 rw [this,Bool.false_and]
end
end Go.Proofs.YtjedflcpjlgokaaGreatDoor

namespace Go.Aw
open Go
theorem AW.ghostPost {P:Program}{c:Code}{Q:Exit→St→Prop}{s:St}(h:AW P c (fun e s=>∃s',GS s s'∧Q e s') s):AW P c Q s:=by
 intro Q' g a w hG hQ
 refine h Q' g a w hG fun e g' s' a' w' h1 h2 ⟨s2,h3,h4⟩=>?_
 obtain ⟨g2,k1,k2⟩:=h3 g' a' w' h1
 exact hQ e g2 s2 a' w' k1 (h2.trans k2) h4
def Un:List (List UInt8×AV)→List UInt8→Option Nat
 | [],_=>none
 | (k,_)::r,n=>if k=n then some 0 else (Un r n).map (· + 1)
def wZ (es:List (List UInt8×AV))(n:List UInt8)(x:AV):List (List UInt8×AV):=match Un es n with | some j=>es.modify j fun _=>(n,x) | none=>es ++ [(n,x)]
theorem Zk {n:List UInt8}:∀{es:List (List UInt8×AV)},Un es n=none→Mo es n=none
  | [],_=>rfl
  | (k,x)::r,h=>by
    rw [Un] at h
    split at h
    · cases h
    · rename_i hk
      rw [Mo,if_neg hk]
      exact Zk (Option.map_eq_none_iff.1 h)
theorem mY {n:List UInt8}:∀{es:List (List UInt8×AV)} {j:Nat},Un es n=some j→∃x,es[j]? = some (n,x)∧Mo es n=some x
  | [],j,h=>by cases h
  | (k,x)::r,j,h=>by
    rw [Un] at h
    split at h
    · rename_i hk
      cases h;subst hk
      exact ⟨x,rfl,by rw [Mo,if_pos rfl]⟩
    · rename_i hk
      obtain ⟨j',h1,h2⟩:=Option.map_eq_some_iff.1 h
      subst h2
      obtain ⟨y,h3,h4⟩:=mY h1
      exact ⟨y,h3,by rw [Mo,if_neg hk];exact h4⟩
theorem gS {n:List UInt8}:∀(l:List MapEntry) (es:List (List UInt8×AV)) (i j:Nat),l.length=es.length→(∀(j:Nat) m x,es[j]? = some (m,x)→(l.getD j default).key = .string ⟨m.toArray⟩)→Un es n=some j→
    Instr.findNow .string (.string ⟨n.toArray⟩) l i=some (some (i+j,(l.getD j default).val))
  | [],[],_,_,_,_,hg=>by cases hg
  | [],_::_,_,_,h,_,_=>by simp at h
  | e::l,[],_,_,h,_,_=>by simp at h
  | e::l,(m,y)::es,i,j,h,hk,hg=>by
    have h1:e.key = .string ⟨m.toArray⟩:=by simpa using hk 0 m y rfl
    rw [Un] at hg
    by_cases hm:m=n
    · subst hm
      rw [if_pos rfl] at hg
      cases hg
      unfold Instr.findNow
      simp [h1,Instr.sameNow,oC]
    · rw [if_neg hm] at hg
      obtain ⟨j',h3,rfl⟩:=Option.map_eq_some_iff.1 hg
      have:((⟨n.toArray⟩:ByteArray)==⟨m.toArray⟩)=false:=by rw [oC];simp;exact fun e=>hm e.symm
      unfold Instr.findNow
      simp only [h1,Instr.sameNow,this]
      have ih:=gS l es (i+1) j' (by simpa using h) (fun j m x hj=>by simpa using hk (j+1) m x hj) h3
      rw [show i+(j'+1)=i+1+j' by omega]
      simpa using ih
section
variable {P:Program} {T:List (Nat×TD)} {d:Option Nat} {ty:TypeId} {pos:String} {aft:Array Edge} {gd:Option (Nat×Bool)} {ρ:Operand→AV}
theorem qE {t:TypeId}{m k v:Operand}{kt et b i j:Nat}{td tk:TD}{n:List UInt8}{es:List (List UInt8×AV)}{x:AV}{H H2:List HO}(hT:Hb P T)(ht:Bv T t=some td)(hk:td.kind = .map kt et)(htk:Bv T kt=some tk)(hkk:tk.kind = .str)
  (hm:ρ m = .val (.map (some b))) (hkey:ρ k = .str n) (hv:ρ v=x) (hH:H[i]? = some (.smap b es)) (hold:Un es n=some j) (hH2:H.set i (.smap b (es.modify j fun _=>(n,x)))=H2) :
  Km P ⟨d,.mapUpdate t m k v,ty,pos,aft,gd⟩ ρ H (fun y H'=>y = .junk∧H'=H2):=by
 subst hH2
 intro g w a next Q hr hHK hn
 have h1:=(hm▸hr m (by simp [Op.operands]):Rep g w _ _).inv_val
 have h2:=(hkey▸hr k (by simp [Op.operands]):Rep g w _ _).inv_str.1
 have h3:Rep g w (a.eval v) x:=hv▸hr v (by simp [Op.operands])
 obtain ⟨hg,ms,clock,hheap,hl,hks,hvs⟩:=hHK.ok _ (List.mem_of_getElem? hH)
 have hu:=Il (hT t td ht) hk
 have huk:=Kz (hT kt tk htk) hkk
 have hl':ms.toList.length=es.length:=by simpa using hl
 have hfind:=gS (n:=n) ms.toList es 0 j hl' (fun j m x hj=>by simpa using hks j m x hj) hold
 rw [Nat.zero_add] at hfind
 have hget:(getObj b).run P w = .ok (.map ms clock) w:=by simp [getObj,Sem.run,hheap]
 obtain ⟨y,hj,_⟩:=mY hold
 have hlt:j<ms.size:=by rw [hl];exact (List.getElem?_eq_some_iff.1 hj).1
 have e1:ms[j]? = some (ms.getD j default):=by simp [Array.getD_eq_getD_getElem?,hlt]
 have hkey0:=hks j n y hj
 have hkj:(((ms[j]?).map (·.key)).getD (.string ⟨n.toArray⟩)) = .string ⟨n.toArray⟩:=by
  rw [e1];simp only [Option.map_some,Option.getD_some,hkey0]
 have hkt:(Instr.keyThatStays (.string ⟨n.toArray⟩) (.string ⟨n.toArray⟩)).run P w = .ok (.string ⟨n.toArray⟩) w:=by
  unfold Instr.keyThatStays
  rw [if_pos (by
   have e:((⟨n.toArray⟩:ByteArray)==⟨n.toArray⟩)=true:=by rw [oC];simp
   simp [Instr.sameBits,e])];rfl
 obtain ⟨hset,hx,hnew,hoth⟩:=Lb (P:=P) (.map (ms.modify j fun e=>{ e with key:=.string ⟨n.toArray⟩,val:=a.eval v }) clock) hg hheap
 have hrun:(Instr.mapUpdate t (a.eval m) (a.eval k) (a.eval v)).run P w = .ok () { w with heap:=w.heap.setIfInBounds b (.map (ms.modify j fun e=>{ e with key:=.string ⟨n.toArray⟩,val:=a.eval v }) clock) }:=by
  have hfk:(Instr.findKey kt (.string ⟨n.toArray⟩) ms.toList).run P w = .ok (some (j,(ms.toList.getD j default).val)) w:=by
   unfold Instr.findKey
   rw [Sem.run_bind,Ba huk]
   simp only [Result.andThen_ok,hfind,Sem.run_pure]
  unfold Instr.mapUpdate
  rw [Sem.run_bind,Ba hu]
  simp only [Result.andThen_ok,h1,Sem.run_bind,hget,h2,K2 (n:=9999) huk,hfk,hkj,hkt,hset]
 unfold Oper.wp
 simp only [execOp,Sem.run_bind,hrun,Result.andThen_ok,Sem.run_pure]
 have hgetm:∀i,i<ms.size→(ms.modify j fun e=>{ e with key:=.string ⟨n.toArray⟩,val:=a.eval v }).getD i default=if j=i then { ms.getD i default with key:=.string ⟨n.toArray⟩,val:=a.eval v } else ms.getD i default:=fun i hi=>by
  simp only [Array.getD_eq_getD_getElem?,Array.getElem?_modify]
  by_cases h:j=i
  · subst h;simp [hi]
  · simp [h]
 have hkp:∀i k z,(es.modify j fun _=>(n,x))[i]? = some (k,z)→i<ms.size∧if j=i then k=n∧z=x else es[i]? = some (k,z):=fun i k z hi=>by
  have h1:=(List.getElem?_eq_some_iff.1 hi).1
  rw [List.length_modify,←hl] at h1
  refine ⟨h1,?_⟩
  simp only [List.getElem?_modify] at hi
  by_cases h:j=i
  · subst h;rw [hj] at hi;simp at hi;simp [hi.1.symm,hi.2.symm]
  · simpa [h] using hi
 refine hn g _ undef .junk _ ⟨rfl,rfl⟩ (.junk _) (hHK.set hx hH (fun c hc=>.inl hc) ⟨hg,_,_,hnew,by simp [hl],fun i k z hi=>?_,fun i k z hi=>?_⟩ (fun c hc hne _=>⟨rfl,hoth c fun e=>hne (by rw [e];rfl)⟩)) hx
 ·
  obtain ⟨q1,q2⟩:=hkp i k z hi
  rw [hgetm i q1]
  by_cases h:j=i
  · rw [if_pos h];rw [if_pos h] at q2;rw [q2.1]
  · rw [if_neg h];rw [if_neg h] at q2;exact hks i k z q2
 ·
  obtain ⟨q1,q2⟩:=hkp i k z hi
  rw [hgetm i q1]
  by_cases h:j=i
  · rw [if_pos h];rw [if_pos h] at q2;rw [q2.2];exact h3.mono hx
  · rw [if_neg h];rw [if_neg h] at q2;exact (hvs i k z q2).mono hx

theorem oI {t:TypeId}{m k v:Operand}{kt et b i:Nat}{td tk:TD}{n:List UInt8}{es:List (List UInt8×AV)}{x:AV}{H H2:List HO}(hT:Hb P T)(ht:Bv T t=some td)(hk:td.kind = .map kt et)(htk:Bv T kt=some tk)(hkk:tk.kind = .str)
  (hm:ρ m = .val (.map (some b))) (hkey:ρ k = .str n) (hv:ρ v=x) (hH:H[i]? = some (.smap b es)) (hH2:H.set i (.smap b (wZ es n x))=H2) :
  Km P ⟨d,.mapUpdate t m k v,ty,pos,aft,gd⟩ ρ H (fun y H'=>y = .junk∧H'=H2):=by
 unfold wZ at hH2
 cases hs:Un es n with
 | none=>rw [hs] at hH2;exact Tx hT ht hk htk hkk hm hkey hv hH (Zk hs) hH2
 | some j=>rw [hs] at hH2;exact qE hT ht hk htk hkk hm hkey hv hH hs hH2
end
end Go.Aw
