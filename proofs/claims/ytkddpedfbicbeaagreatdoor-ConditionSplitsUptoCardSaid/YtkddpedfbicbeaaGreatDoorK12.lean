/-
  Several texts in one: S23, S23b, S23c, S25, As, S26. No condition.
-/
import Derived.Test.YtkddpedfbicbeaaGreatDoorK10
import Derived.Test.YtkddpedfbicbeaaGreatDoorK11
set_option linter.unusedVariables false
set_option linter.unusedSimpArgs false
namespace Go.Aw
open Go
section
variable {P:Program} {T:List (Nat×TD)} {d:Option Nat} {ty:TypeId} {pos:String} {aft:Array Edge} {gd:Option (Nat×Bool)} {ρ:Operand→AV} {K:List HO→Prop}
/-- A slice that is no nil is compared with nil. -/
theorem P_neqNil1 {x:Operand}{t yt e z:Nat}{td:TD}{es:List (List AV)}(hT:TOK P T)(hx:ρ x = .sl z es)(hne:es≠[])(ht:tget T t=some td)(hk:td.kind = .slice e) :
  OpP P ⟨d,.binOp .neq t x (.const (.slice none 0 0)) yt,ty,pos,aft,gd⟩ ρ K (.bool true):=
 .of_run fun g w a hr=>by
  obtain ⟨a0,n,cap,h1,h2,_,_,h5⟩:=(hx▸hr x (by simp [Op.operands]):Rep g w _ _).inv_sl
  have hu:=slice_inv (hT t td ht) hk
  rcases h5 with h5 | ⟨b,o,rfl,_⟩
  · exact absurd h5 hne
  ·
   refine ⟨.bool true,?_,.bool _⟩
   have e2:a.eval (.const (.slice none 0 0)) = .slice none 0 0:=rfl
   simp only [execOp,h1,e2]
   rw [Sem.run_bind,Sem.run_bind,eqGuard_run rfl]
   have:=equal_nil (n:=9999) hu (some ⟨b,o,none⟩) n cap w
   simp only [Result.andThen_ok,binOp,Op.equal,Op.maxDepth,Sem.run_bind,this,Sem.run_pure]
   rfl
theorem P_neqNil0 {x:Operand}{t yt e:Nat}{td:TD}(hT:TOK P T)(hx:ρ x = .val (.slice none 0 0))(ht:tget T t=some td)(hk:td.kind = .slice e) :
  OpP P ⟨d,.binOp .neq t x (.const (.slice none 0 0)) yt,ty,pos,aft,gd⟩ ρ K (.bool false):=
 .of_run fun g w a hr=>by
  have h1:=(hx▸hr x (by simp [Op.operands]):Rep g w _ _).inv_val
  have hu:=slice_inv (hT t td ht) hk
  refine ⟨.bool false,?_,.bool _⟩
  have e2:a.eval (.const (.slice none 0 0)) = .slice none 0 0:=rfl
  simp only [execOp,h1,e2]
  rw [Sem.run_bind,Sem.run_bind,eqGuard_run rfl]
  have:=equal_nil (n:=9999) hu none 0 0 w
  simp only [Result.andThen_ok,binOp,Op.equal,Op.maxDepth,Sem.run_bind,this,Sem.run_pure]
  rfl
end
end Go.Aw
namespace Go.Proofs.YtkddpedfbicbeaaGreatDoor
open Go Go.Aw

/-! ### lists of numbers in memory -/
def bI (l:List Int):List AV:=l.map (AV.int .i64)
def cI (v:Int):List AV:=[.int .i64 v]
theorem bI_len (l:List Int):(bI l).length=l.length:=List.length_map ..
theorem bI_sc (l:List Int):scalars (bI l)=true:=by
 induction l with
 | nil=>rfl
 | cons a r ih=>exact ih
theorem bI_app (l m:List Int):bI (l++m)=bI l++bI m:=List.map_append ..
theorem bI_take (l:List Int)(k:Nat):(bI l).take k=bI (l.take k):=(List.map_take ..).symm
theorem bI_drop (l:List Int)(k:Nat):(bI l).drop k=bI (l.drop k):=(List.map_drop ..).symm
theorem bI_zero (n:Nat):(List.replicate n [AV.int .i64 0]).flatten=bI (List.replicate n 0):=by
 induction n with
 | zero=>rfl
 | succ n ih=>rw [List.replicate_succ,List.flatten_cons,ih,List.replicate_succ];rfl
theorem bI_flat (l:List Int):(l.map cI).flatten=bI l:=by
 induction l with
 | nil=>rfl
 | cons a r ih=>rw [List.map_cons,List.flatten_cons,ih];rfl
theorem one_each {α:Type}{f:α→List AV}(hf:∀x,(f x).length=1)(l:List α):∀e∈l.map f,e.length=1:=fun e he=>by
 obtain ⟨x,_,rfl⟩:=List.mem_map.1 he
 exact hf x
theorem ixI_at {l:List Int}{k:Int}(h0:0≤k)(h:k<(l.length:Int)):l[k.toNat]? = some (ixI l k):=by
 unfold ixI
 have:k.toNat<l.length:=by omega
 rw [List.getElem?_eq_getElem this];rfl
theorem bI_at {l:List Int}{k:Int}(h0:0≤k)(h:k<(l.length:Int)):(bI l)[k.toNat]? = some (.int .i64 (ixI l k)):=by
 unfold bI;rw [List.getElem?_map,ixI_at h0 h];rfl
theorem bI_set:∀{l:List Int} {k:Nat} {v:Int},k<l.length→setSeg (bI l) k [AV.int .i64 v]=bI (l.set k v)
  | [],k,v,h=>absurd h (by simp)
  | a::r,0,v,h=>by simp [setSeg,bI]
  | a::r,k+1,v,h=>by
    have ih:=bI_set (l:=r) (k:=k) (v:=v) (by simpa using h)
    show AV.int .i64 a::setSeg (bI r) k [AV.int .i64 v]=_
    rw [ih];rfl
theorem off0 (n:Nat):0+n*1=n:=by omega
theorem bI_fits {l:List Int}{k:Nat}(h:k<l.length):Nat.ble (k+1) (bI l).length=true:=Nat.ble_eq_true_of_le (by rw [bI_len];omega)

def none1 (n:Nat):List Int:=List.replicate n (-1)
def repL (n k:Nat):List Int:=List.replicate k (-1)++List.replicate (n-k) 0
theorem repL_len {n k:Nat}(h:k≤n):(repL n k).length=n:=by unfold repL;simp;omega
theorem repL_full (n:Nat):repL n n=none1 n:=by unfold repL none1;simp
theorem repL_copy {n k m:Nat}(hk:k+m≤n)(hm:m≤k):setSeg (bI (repL n k)) k (((bI (repL n k)).drop 0).take m)=bI (repL n (k+m)):=by
 rw [List.drop_zero,bI_take]
 have h1:(repL n k).take m=List.replicate m (-1):=by
  unfold repL
  rw [List.take_append_of_le_length (by rw [List.length_replicate];exact hm),List.take_replicate,Nat.min_eq_left hm]
 have h2:(repL n k).take k=List.replicate k (-1):=by
  unfold repL
  rw [List.take_append_of_le_length (by rw [List.length_replicate];omega),List.take_replicate,Nat.min_self]
 have h3:(repL n k).drop (k+m)=List.replicate (n-(k+m)) 0:=by
  unfold repL
  rw [List.drop_append,List.length_replicate,List.drop_of_length_le (by rw [List.length_replicate];omega),List.nil_append,List.drop_replicate]
  congr 1;omega
 unfold setSeg
 rw [h1,bI_len,List.length_replicate,bI_take,bI_drop,h2,h3,←bI_app,←bI_app]
 congr 1
 unfold repL
 rw [List.replicate_append_replicate]
theorem repL_first {n:Nat}(hn:0<n):setSeg (bI (repL n 0)) 0 ((([[AV.int .i64 (-1)]]:List (List AV)).flatten).take 1)=bI (repL n 1):=by
 unfold repL
 obtain ⟨m,rfl⟩:∃m,n=m+1:=⟨n-1,by omega⟩
 simp [setSeg,bI,List.replicate_succ]
theorem kMul1 (n:Nat)(hn:n≤1048576):APure Tryz.prog 188 [.int .u64 1,.int .u64 (n:Int)] (.tuple [.int .u64 0,.int .u64 (n:Int)]):=by
 have h:=kMul 1 n (by decide) (by omega)
 rw [Nat.one_mul,Nat.div_eq_of_lt (by omega),Nat.mod_eq_of_lt (by omega)] at h
 exact h
theorem u64_in {n:Nat}(h:n≤1048576):IntKind.wrap .u64 (n:Int)=(n:Int):=by
 unfold IntKind.wrap
 simp [IntKind.bits,IntKind.signed]
 omega
theorem i64_in {n:Nat}(h:n≤1048576):IntKind.wrap .i64 (n:Int)=(n:Int):=IntWalk.i64_in _ (by omega)

/-! ### zones -/
def big:Int:=140737488355329
structure znOK (n:Nat) (bs:List Bd):Prop where
 n1:1≤n
 n64:n≤64
 len:bs.length≤256
 bd:∀b∈bs,0≤b.x∧b.x<(n:Int)∧0≤b.y∧b.y<(n:Int)
 most:∀b∈bs,-big≤b.most∧b.most≤big
structure dsOK (n:Nat) (C:Int) (d:Ds):Prop where
 s:d.sums.length=n
 l:d.last.length=n
 r:∀v∈d.sums,-C≤v∧v≤0
theorem dsOK.mono {n:Nat}{C C':Int}{d:Ds}(h:dsOK n C d)(hc:C≤C'):dsOK n C' d:=⟨h.s,h.l,fun v hv=>by have:=h.r v hv;omega⟩
theorem ix_mem {l:List Int}{k:Int}(h0:0≤k)(h:k<(l.length:Int)):ixI l k∈l:=List.mem_of_getElem? (ixI_at h0 h)
theorem dsOK.ix {n:Nat}{C:Int}{d:Ds}(h:dsOK n C d){k:Int}(h0:0≤k)(hk:k<(n:Int)) : -C≤ixI d.sums k∧ixI d.sums k≤0:=h.r _ (ix_mem h0 (by rw [h.s];exact hk))
theorem rlx_yes {i:Nat}{b:Bd}{s:Ds×Int}(h:decide (ixI s.1.sums b.y+b.most<ixI s.1.sums b.x)=true) :
 rlx1 i b s=(⟨s.1.sums.set b.x.toNat (ixI s.1.sums b.y+b.most),s.1.last.set b.x.toNat (i:Int)⟩,b.x):=if_pos h
theorem rlx_no {i:Nat}{b:Bd}{s:Ds×Int}(h:decide (ixI s.1.sums b.y+b.most<ixI s.1.sums b.x)=false):rlx1 i b s=s:=if_neg (by rw [h];decide)
theorem rlx_ok {n:Nat}{C:Int}{i:Nat}{b:Bd}{s:Ds×Int}(hd:dsOK n C s.1)(hb:0≤b.x∧b.x<(n:Int)∧0≤b.y∧b.y<(n:Int))(hm : -big≤b.most∧b.most≤big):dsOK n (C+big) (rlx1 i b s).1:=by
  have hbig:(0:Int)≤big:=by decide
  cases h:decide (ixI s.1.sums b.y+b.most<ixI s.1.sums b.x) with
  | false=>rw [rlx_no h];exact hd.mono (by omega)
  | true=>
    rw [rlx_yes h]
    have h1:=hd.ix hb.2.2.1 hb.2.2.2
    have h2:=hd.ix hb.1 hb.2.1
    have h3:=of_decide_eq_true h
    refine ⟨by simp only [List.length_set];exact hd.s,by simp only [List.length_set];exact hd.l,fun v hv=>?_⟩
    rcases List.mem_or_eq_of_mem_set hv with hv | rfl
    · have:=hd.r v hv;omega
    · omega
theorem rlxGo_ok {n:Nat}:∀{bs:List Bd} {i:Nat} {s:Ds×Int} {C:Int},(∀b∈bs,0≤b.x∧b.x<(n:Int)∧0≤b.y∧b.y<(n:Int))→(∀b∈bs,-big≤b.most∧b.most≤big)→dsOK n C s.1→dsOK n (C+(bs.length:Int)*big) (rlxGo i bs s).1
  | [],i,s,C,_,_,hd=>hd.mono (by simp)
  | b::r,i,s,C,hb,hm,hd=>by
    rw [rlxGo]
    refine (rlxGo_ok (fun b hb'=>hb b (List.mem_cons_of_mem _ hb')) (fun b hb'=>hm b (List.mem_cons_of_mem _ hb')) (rlx_ok hd (hb b (List.mem_cons_self ..)) (hm b (List.mem_cons_self ..)))).mono ?_
    rw [List.length_cons];push_cast;rw [Int.add_mul];omega
theorem rlxS_ok {n:Nat}{bs:List Bd}{d:Ds}{C:Int}(hz:znOK n bs)(hd:dsOK n C d):dsOK n (C+256*big) (rlxS bs d).1:=by
 refine (rlxGo_ok (s:=(d,-1)) hz.bd hz.most hd).mono ?_
 have:=hz.len
 unfold big
 omega
theorem rlxGo_step {bs:List Bd}{k:Nat}{b:Bd}{s:Ds×Int}(h:bs[k]? = some b):rlxGo k (bs.drop k) s=rlxGo (k+1) (bs.drop (k+1)) (rlx1 k b s):=by rw [drop_cons h,rlxGo]
theorem rlxGo_end {bs:List Bd}{k:Nat}{s:Ds×Int}(h:bs.drop k = []):rlxGo k (bs.drop k) s=s:=by rw [h,rlxGo]
/-! ### rounds -/
theorem rounds_stop {bs:List Bd}{m:Nat}{s:Ds×Int}(h:decide ((rlxS bs s.1).2<0)=true):roundsS bs (m+1) s=rlxS bs s.1:=by rw [roundsS,if_pos h]
theorem rounds_on {bs:List Bd}{m:Nat}{s:Ds×Int}(h:decide ((rlxS bs s.1).2<0)=false):roundsS bs (m+1) s=roundsS bs m (rlxS bs s.1):=by rw [roundsS,if_neg (by rw [h];decide)]
def zn (n:Nat)(bs:List Bd):Zn:=⟨(n:Int),bs⟩
theorem endS_eq (n:Nat)(bs:List Bd):endS (zn n bs)=roundsS bs (n+1) (⟨List.replicate n 0,none1 n⟩,-1):=by unfold endS start zn none1;simp
theorem start_ok (n:Nat):dsOK n 0 ⟨List.replicate n 0,none1 n⟩:=⟨by simp,by simp [none1],fun v hv=>by rw [(List.mem_replicate.1 hv).2];omega⟩
/-! ### the walk back -/
def okAt (bs:List Bd)(d:Ds)(a:Int):Bool:=decide (0≤a)&&decide (a<(d.last.length:Int))&&decide (0≤ixI d.last a)&&decide (ixI d.last a<(bs.length:Int))
def backOK (bs:List Bd)(d:Ds):Nat→Int→Bool
 | 0,_=>true
 | k+1,a=>okAt bs d a&&backOK bs d k (predS bs d a)
def cycOK (bs:List Bd)(d:Ds)(f:Int):Nat→Int→Bool
 | 0,_=>false
 | k+1,a=>okAt bs d a&&(predS bs d a==f||cycOK bs d f k (predS bs d a))
def walkOK (n:Nat)(bs:List Bd):Bool:=
 backOK bs (endS (zn n bs)).1 n (endS (zn n bs)).2&&cycOK bs (endS (zn n bs)).1 (backN bs (endS (zn n bs)).1 n (endS (zn n bs)).2) (n+1) (backN bs (endS (zn n bs)).1 n (endS (zn n bs)).2)
structure okA (bs:List Bd) (d:Ds) (a:Int) (b:Bd):Prop where
 a0:0≤a
 al:a<(d.last.length:Int)
 l0:0≤ixI d.last a
 at_:bs[(ixI d.last a).toNat]? = some b
 pred:predS bs d a=b.y
theorem okAt_iff {bs:List Bd}{d:Ds}{a:Int}(h:okAt bs d a=true):∃b,okA bs d a b:=by
 unfold okAt at h
 simp only [Bool.and_eq_true,decide_eq_true_eq] at h
 obtain ⟨⟨⟨h1,h2⟩,h3⟩,h4⟩:=h
 have hlt:(ixI d.last a).toNat<bs.length:=by omega
 have hg:=List.getElem?_eq_getElem hlt
 exact ⟨_,h1,h2,h3,hg,by unfold predS;rw [hg];rfl⟩
theorem back_ok {bs:List Bd}{d:Ds}{k:Nat}{a:Int}(h:backOK bs d (k+1) a=true):okAt bs d a=true∧backOK bs d k (predS bs d a)=true:=by
 rw [backOK,Bool.and_eq_true] at h;exact h
theorem cyc_ok {bs:List Bd}{d:Ds}{f:Int}{k:Nat}{a:Int}(h:cycOK bs d f k a=true):∃m,k=m+1∧okAt bs d a=true∧(predS bs d a==f||cycOK bs d f m (predS bs d a))=true:=by
 cases k with
 | zero=>cases h
 | succ m=>rw [cycOK,Bool.and_eq_true] at h;exact ⟨m,rfl,h⟩
theorem backN_step {bs:List Bd}{d:Ds}{k:Nat}{a:Int}:backN bs d (k+1) a=backN bs d k (predS bs d a):=rfl
theorem cBd_at {bs:List Bd}{k:Nat}{b:Bd}(h:bs[k]? = some b):(bs.map cBd)[k]? = some [.int .i64 b.x,.int .i64 b.y,.int .i64 b.most]:=by rw [List.getElem?_map,h];rfl
/-! ### what is returned -/
theorem firstS_mem {α:Type}{f:α→Int}:∀{l:List α},firstS f l=0→∀x∈l,f x=0
  | [],_,x,hx=>by cases hx
  | a::r,h,x,hx=>by
    rw [firstS] at h
    split at h
    · rename_i hn;exact absurd h (by simpa using hn)
    · rename_i hn
      rcases List.mem_cons.1 hx with rfl | hx
      · simpa using hn
      · exact firstS_mem h x hx
theorem zone_ok {n:Int}{bs:List Bd}(h:(zoneE ⟨n,bs⟩ != 0)=false):1≤n∧n≤64∧bs.length≤256∧∀b∈bs,0≤b.x∧b.x<n∧0≤b.y∧b.y<n:=by
 have h0:zoneE ⟨n,bs⟩=0:=by simpa using h
 unfold zoneE at h0
 split at h0
 · cases h0
 rename_i h1
 split at h0
 · cases h0
 rename_i h2
 simp only [Bool.or_eq_true,decide_eq_true_eq] at h1 h2
 refine ⟨by omega,by omega,by omega,fun b hb=>?_⟩
 have h3:=firstS_mem h0 b hb
 unfold bdE at h3
 split at h3
 · cases h3
 ·
  rename_i h4
  simp only [Bool.or_eq_true,decide_eq_true_eq] at h4
  omega
theorem cyc_head {bs:List Bd}{d:Ds}{f:Int}{k:Nat}{a:Int}(h:cycOK bs d f k a=true):okAt bs d a=true:=by
 obtain ⟨m,_,h1,_⟩:=cyc_ok h;exact h1
theorem cyc_next {bs:List Bd}{d:Ds}{f:Int}{k:Nat}{a:Int}{b:Bd}(h:cycOK bs d f k a=true)(ok:okA bs d a b)(hn:(b.y==f)=false):cycOK bs d f (k-1) b.y=true∧2≤k:=by
 obtain ⟨m,rfl,_,h2⟩:=cyc_ok h
 rw [ok.pred,hn,Bool.false_or] at h2
 obtain ⟨m',rfl,_,_⟩:=cyc_ok h2
 exact ⟨h2,by omega⟩
theorem one_params {tmps:Array Value}{b6 n0:Nat}{x:Int}(hsz:tmps.size=n0)(h53:Nat.blt 53 n0=true)(h6:tmps.getD 6 undef = .pointer (some ⟨b6,0,none⟩)):∀g w vs,RepL g w vs [AV.int .i64 x]→∀j,
    Rep g w ((((#[53]:Array Tmp).zip vs).foldl (fun t (p,v)=>t.setIfInBounds p v) tmps).getD j undef) (get [(53,.int .i64 x),(6,.val (.pointer (some ⟨b6,0,none⟩)))] j):=by
  intro g w vs hr j
  have h0:=hr.2 0 _ rfl
  have hs:vs.size=1:=hr.1
  obtain ⟨u, rfl⟩ : ∃ u, vs = #[u] := ⟨vs[0], by apply Array.ext; simp [hs]; intro i h1 h2; have : i = 0 := by omega
                                                 subst this;rfl⟩
  have hu:u = .int .i64 x:=by have:=h0.inv_int;simpa using this
  subst hu
  have hlt:53<tmps.size:=by have:=Nat.le_of_ble_eq_true h53;omega
  rw [←Array.foldl_toList,Array.toList_zip]
  show Rep g w ((tmps.setIfInBounds 53 (.int .i64 x)).getD j undef) _
  rw [get_cons]
  by_cases e:53=j
  · subst e
    rw [if_pos rfl]
    simp only [Array.getD_eq_getD_getElem?,Array.getElem?_setIfInBounds]
    simp [hlt]
    exact .int _ _
  · rw [if_neg e,get_cons]
    by_cases e6:6=j
    · subst e6
      rw [if_pos rfl]
      have:(tmps.setIfInBounds 53 (Value.int .i64 x)).getD 6 undef=tmps.getD 6 undef:=by
        simp only [Array.getD_eq_getD_getElem?,Array.getElem?_setIfInBounds];simp
      rw [this,h6]
      exact .val _
    · rw [if_neg e6];exact .junk _
theorem walk_split {n:Nat}{bs:List Bd}{s:Ds×Int}(h:walkOK n bs=true)(he:endS (zn n bs)=s):backOK bs s.1 n s.2=true∧cycOK bs s.1 (backN bs s.1 n s.2) (n+1) (backN bs s.1 n s.2)=true:=by
 subst he
 unfold walkOK at h
 exact (Bool.and_eq_true ..).mp h
theorem end_stop {n k:Nat}{bs:List Bd}{s:Ds×Int}(h:endS (zn n bs)=roundsS bs (n+1-k) s)(hk:k<n+1)(hs:decide ((rlxS bs s.1).2<0)=true):endS (zn n bs)=rlxS bs s.1:=by
 rw [h,show n+1-k=(n-k)+1 by omega,rounds_stop hs]
theorem end_on {n k:Nat}{bs:List Bd}{s:Ds×Int}(h:endS (zn n bs)=roundsS bs (n+1-k) s)(hk:k<n+1)(hs:decide ((rlxS bs s.1).2<0)=false):endS (zn n bs)=roundsS bs (n+1-(k+1)) (rlxS bs s.1):=by
 rw [h,show n+1-k=(n+1-(k+1))+1 by omega,rounds_on hs]
theorem end_all {n k:Nat}{bs:List Bd}{s:Ds×Int}(h:endS (zn n bs)=roundsS bs (n+1-k) s)(hk:n+1≤k):endS (zn n bs)=s:=by
 rw [h,show n+1-k=0 by omega];rfl
theorem back_next {bs:List Bd}{d:Ds}{n k:Nat}{a f:Int}{c:Bd}(h:f=backN bs d (n-k) a)(hk:k<n)(ok:okA bs d a c):f=backN bs d (n-(k+1)) c.y:=by
 rw [h,show n-k=(n-(k+1))+1 by omega,backN_step,ok.pred]
theorem back_head {bs:List Bd}{d:Ds}{n k:Nat}{a:Int}(h:backOK bs d (n-k) a=true)(hk:k<n):okAt bs d a=true∧backOK bs d (n-(k+1)) (predS bs d a)=true:=by
 rw [show n-k=(n-(k+1))+1 by omega] at h
 exact back_ok h
/-! ### values counted from the first -/
def subL (l:List Int)(k:Nat):List Int:=(l.take k).map (fun v=>v-ixI l 0)++l.drop k
theorem subL_len {l:List Int}{k:Nat}(h:k≤l.length):(subL l k).length=l.length:=by unfold subL;simp;omega
theorem subL_at {l:List Int}{k:Nat}(h:k<l.length):ixI (subL l k) (k:Int)=ixI l (k:Int):=by
 unfold ixI subL
 rw [List.getElem?_append_right (by simp;omega)]
 simp [Nat.min_eq_left (Nat.le_of_lt h)]
theorem subL_set {l:List Int}{k:Nat}(h:k<l.length):(subL l k).set k (ixI l (k:Int)-ixI l 0)=subL l (k+1):=by
 have hg:=List.getElem?_eq_getElem h
 have hd:l.drop k=l[k]::l.drop (k+1):=(List.drop_eq_getElem_cons h)
 have hix:ixI l (k:Int)=l[k]:=by unfold ixI;simp [hg]
 unfold subL
 have hk:k-((l.take k).map (fun v=>v-ixI l 0)).length=0:=by simp;omega
 have ht:l.take (k+1)=l.take k ++ [l[k]]:=by rw [List.take_add_one,hg];rfl
 rw [List.set_append_right _ _ (by simp;omega),hk,hd,List.set_cons_zero,ht,List.map_append,List.append_assoc,hix];rfl
theorem subL_full {l:List Int}{k:Nat}(h:l.length≤k):subL l k=l.map (fun v=>v-ixI l 0):=by
 unfold subL;rw [List.take_of_length_le h,List.drop_eq_nil_of_le h,List.append_nil]
theorem Solve_1 {n:Nat}{bs:List Bd}(h:(zoneE (zn n bs) != 0)=true):SolveD (zn n bs)=⟨false,[],[],zoneE (zn n bs)⟩:=if_pos h
theorem Solve_2 {n:Nat}{bs:List Bd}(h:(zoneE (zn n bs) != 0)=false)(h2:decide ((endS (zn n bs)).2<0)=true):SolveD (zn n bs)=⟨true,(endS (zn n bs)).1.sums.map (fun v=>v-ixI (endS (zn n bs)).1.sums 0),[],0⟩:=(ifF h).trans (if_pos h2)
theorem Solve_3 {n:Nat}{bs:List Bd}(h:(zoneE (zn n bs) != 0)=false)(h2:decide ((endS (zn n bs)).2<0)=false):SolveD (zn n bs)=⟨false,[],(solveD (zn n bs)).2,0⟩:=(ifF h).trans (ifF h2)
theorem zn_ok {n:Nat}{bs:List Bd}(h:(zoneE (zn n bs) != 0)=false)(hm:∀b∈bs,-big≤b.most∧b.most≤big):znOK n bs:=by
 have h1:=zone_ok (n:=(n:Int)) (bs:=bs) h
 exact ⟨by omega,by omega,h1.2.2.1,h1.2.2.2,hm⟩
theorem roundsS_ok {n:Nat}{bs:List Bd}(hz:znOK n bs):∀(m:Nat) (s:Ds×Int) (C:Int),dsOK n C s.1→dsOK n (C+(m:Int)*(256*big)) (roundsS bs m s).1
  | 0,s,C,h=>h.mono (by simp)
  | m+1,s,C,h=>by
    have hb:(0:Int)≤(m:Int)*(256*big):=by unfold big;omega
    have hs:((m+1:Nat):Int)*(256*big)=(m:Int)*(256*big)+256*big:=by push_cast;rw [Int.add_mul];omega
    cases hq:decide ((rlxS bs s.1).2<0) with
    | true=>rw [rounds_stop hq];exact (rlxS_ok hz h).mono (by omega)
    | false=>rw [rounds_on hq];exact (roundsS_ok hz m _ _ (rlxS_ok hz h)).mono (by omega)
theorem end_ok {n:Nat}{bs:List Bd}(hz:znOK n bs):dsOK n 2400000000000000000 (endS (zn n bs)).1:=by
 rw [endS_eq]
 refine (roundsS_ok hz (n+1) _ 0 (start_ok n)).mono ?_
 have:=hz.n64
 unfold big
 omega
section
variable {T:List Sc} {V:List Va}
theorem bounds_most {c:Lit}{x z r:Int}(hr : -140737488355328≤r∧r≤140737488355328):∀b∈boundsS c x z r,-big≤b.most∧b.most≤big:=by
 have hb:big=140737488355329:=rfl
 unfold boundsS
 repeat' split
 all_goals
  intro b hb'
  simp only [List.mem_cons,List.not_mem_nil,or_false] at hb'
  rcases hb' with rfl | rfl <;> first | omega | skip
 all_goals (try (simp only;omega))
theorem sysGo_most:∀{l:List Lit},LOK T V l→∀{s:Sy},(∀b∈s.bs,-big≤b.most∧b.most≤big)→∀b∈(l.foldl (sysStep T V) s).bs,-big≤b.most∧b.most≤big
  | [],_,s,hs=>hs
  | c::r,hl,s,hs=>by
    rw [List.foldl_cons]
    refine sysGo_most (fun x hx=>hl x (List.mem_cons_of_mem _ hx)) ?_
    cases h : !(numericS T V c).2 with
    | true=>rw [sys_skip h];exact hs
    | false=>
      rw [sys_step h]
      intro b hb
      rcases List.mem_append.1 hb with hb | hb
      · exact hs b hb
      · exact bounds_most (numeric_ok (hl c (List.mem_cons_self ..)).1 (hl c (List.mem_cons_self ..)).2).rest b hb
theorem limGo_most:∀(ts:List Tm) (i:Nat),∀b∈limGo T V i ts,-big≤b.most∧b.most≤big
  | [],i,b,h=>by cases h
  | t::r,i,b,h=>by
    have hb:big=140737488355329:=rfl
    have hl:=limits_range (T:=T) (V:=V) t
    rw [limGo] at h
    rcases List.mem_cons.1 h with rfl | h
    · simp only;omega
    · rcases List.mem_cons.1 h with rfl | h
      · simp only;omega
      · exact limGo_most r (i+1) b h
def zN (T:List Sc)(V:List Va)(l:List Lit):Nat:=(sysGo T V l).ts.length+1
theorem zone_is (l:List Lit):zoneS T V l=zn (zN T V l) (zoneS T V l).bs:=rfl
theorem zone_most {l:List Lit}(hl:LOK T V l):∀b∈(zoneS T V l).bs,-big≤b.most∧b.most≤big:=by
 intro b hb
 rcases List.mem_append.1 hb with hb | hb
 · exact limGo_most _ _ b hb
 · exact sysGo_most hl (s:=⟨[],[]⟩) (fun b h=>by cases h) b hb
/-- the walk back along the last bounds of the zone of a clause comes round, where there is no model -/
def SOLV (T:List Sc)(V:List Va)(l:List Lit):Prop:=(zoneE (zoneS T V l) != 0)=false→decide ((endS (zoneS T V l)).2<0)=false→walkOK (zN T V l) (zoneS T V l).bs=true
/-- solve: the values, and whether there is something -/
def solV (T:List Sc)(V:List Va)(l:List Lit):List Int:=if !fitsS (zoneS T V l) then [] else (SolveD (zoneS T V l)).values
def solK (T:List Sc)(V:List Va)(l:List Lit):Bool:=if !fitsS (zoneS T V l) then true else (stringsS T V l).2&&(SolveD (zoneS T V l)).ok
theorem solV_1 {l:List Lit}(h:(!fitsS (zoneS T V l))=true):solV T V l = []:=if_pos h
theorem solV_2 {l:List Lit}(h:(!fitsS (zoneS T V l))=false):solV T V l=(SolveD (zoneS T V l)).values:=ifF h
theorem solK_1 {l:List Lit}(h:(!fitsS (zoneS T V l))=true):solK T V l=true:=if_pos h
theorem solK_2 {l:List Lit}(h:(!fitsS (zoneS T V l))=false):solK T V l=((stringsS T V l).2&&(SolveD (zoneS T V l)).ok):=ifF h
theorem strings_ok (l:List Lit):wOK (stringsS T V l).1:=eqGo_ok l [] wOK_nil
def certS (T:List Sc)(V:List Va)(l:List Lit):Bool:=l.all (fun c=>simpleS T V c.cond)&&(fitsS (zoneS T V l)&&decide ((l.length:Int)≤256))
theorem cert_all {l:List Lit}(h:l.all (fun c=>simpleS T V c.cond)=true):certS T V l=(fitsS (zoneS T V l)&&decide ((l.length:Int)≤256)):=by unfold certS;rw [h,Bool.true_and]
theorem cert_no {l:List Lit}{k:Nat}{c:Lit}(hc:l[k]? = some c)(h:simpleS T V c.cond=false):certS T V l=false:=by
 unfold certS
 have:l.all (fun c=>simpleS T V c.cond)=false:=by
  rw [List.all_eq_false]
  exact ⟨c,List.mem_of_getElem? hc,by rw [h];decide⟩
 rw [this,Bool.false_and]
end
end Go.Proofs.YtkddpedfbicbeaaGreatDoor

namespace Go.Aw
open Go
theorem AW.ghostPost {P:Program}{c:Code}{Q:Exit→St→Prop}{s:St}(h:AW P c (fun e s=>∃s',GS s s'∧Q e s') s):AW P c Q s:=by
 intro Q' g a w hG hQ
 refine h Q' g a w hG fun e g' s' a' w' h1 h2 ⟨s2,h3,h4⟩=>?_
 obtain ⟨g2,k1,k2⟩:=h3 g' a' w' h1
 exact hQ e g2 s2 a' w' k1 (h2.trans k2) h4
def sidx:List (List UInt8×AV)→List UInt8→Option Nat
 | [],_=>none
 | (k,_)::r,n=>if k=n then some 0 else (sidx r n).map (· + 1)
def sput (es:List (List UInt8×AV))(n:List UInt8)(x:AV):List (List UInt8×AV):=match sidx es n with | some j=>es.modify j fun _=>(n,x) | none=>es ++ [(n,x)]
theorem sidx_none {n:List UInt8}:∀{es:List (List UInt8×AV)},sidx es n=none→sget es n=none
  | [],_=>rfl
  | (k,x)::r,h=>by
    rw [sidx] at h
    split at h
    · cases h
    · rename_i hk
      rw [sget,if_neg hk]
      exact sidx_none (Option.map_eq_none_iff.1 h)
theorem sidx_at {n:List UInt8}:∀{es:List (List UInt8×AV)} {j:Nat},sidx es n=some j→∃x,es[j]? = some (n,x)∧sget es n=some x
  | [],j,h=>by cases h
  | (k,x)::r,j,h=>by
    rw [sidx] at h
    split at h
    · rename_i hk
      cases h;subst hk
      exact ⟨x,rfl,by rw [sget,if_pos rfl]⟩
    · rename_i hk
      obtain ⟨j',h1,h2⟩:=Option.map_eq_some_iff.1 h
      subst h2
      obtain ⟨y,h3,h4⟩:=sidx_at h1
      exact ⟨y,h3,by rw [sget,if_neg hk];exact h4⟩
theorem sfind_at {n:List UInt8}:∀(l:List MapEntry) (es:List (List UInt8×AV)) (i j:Nat),l.length=es.length→(∀(j:Nat) m x,es[j]? = some (m,x)→(l.getD j default).key = .string ⟨m.toArray⟩)→sidx es n=some j→
    Instr.findNow .string (.string ⟨n.toArray⟩) l i=some (some (i+j,(l.getD j default).val))
  | [],[],_,_,_,_,hg=>by cases hg
  | [],_::_,_,_,h,_,_=>by simp at h
  | e::l,[],_,_,h,_,_=>by simp at h
  | e::l,(m,y)::es,i,j,h,hk,hg=>by
    have h1:e.key = .string ⟨m.toArray⟩:=by simpa using hk 0 m y rfl
    rw [sidx] at hg
    by_cases hm:m=n
    · subst hm
      rw [if_pos rfl] at hg
      cases hg
      unfold Instr.findNow
      simp [h1,Instr.sameNow,baEq]
    · rw [if_neg hm] at hg
      obtain ⟨j',h3,rfl⟩:=Option.map_eq_some_iff.1 hg
      have:((⟨n.toArray⟩:ByteArray)==⟨m.toArray⟩)=false:=by rw [baEq];simp;exact fun e=>hm e.symm
      unfold Instr.findNow
      simp only [h1,Instr.sameNow,this]
      have ih:=sfind_at l es (i+1) j' (by simpa using h) (fun j m x hj=>by simpa using hk (j+1) m x hj) h3
      rw [show i+(j'+1)=i+1+j' by omega]
      simpa using ih
section
variable {P:Program} {T:List (Nat×TD)} {d:Option Nat} {ty:TypeId} {pos:String} {aft:Array Edge} {gd:Option (Nat×Bool)} {ρ:Operand→AV}
theorem E_smapSet {t:TypeId}{m k v:Operand}{kt et b i j:Nat}{td tk:TD}{n:List UInt8}{es:List (List UInt8×AV)}{x:AV}{H H2:List HO}(hT:TOK P T)(ht:tget T t=some td)(hk:td.kind = .map kt et)(htk:tget T kt=some tk)(hkk:tk.kind = .str)
  (hm:ρ m = .val (.map (some b))) (hkey:ρ k = .str n) (hv:ρ v=x) (hH:H[i]? = some (.smap b es)) (hold:sidx es n=some j) (hH2:H.set i (.smap b (es.modify j fun _=>(n,x)))=H2) :
  OpE P ⟨d,.mapUpdate t m k v,ty,pos,aft,gd⟩ ρ H (fun y H'=>y = .junk∧H'=H2):=by
 subst hH2
 intro g w a next Q hr hHK hn
 have h1:=(hm▸hr m (by simp [Op.operands]):Rep g w _ _).inv_val
 have h2:=(hkey▸hr k (by simp [Op.operands]):Rep g w _ _).inv_str.1
 have h3:Rep g w (a.eval v) x:=hv▸hr v (by simp [Op.operands])
 obtain ⟨hg,ms,clock,hheap,hl,hks,hvs⟩:=hHK.ok _ (List.mem_of_getElem? hH)
 have hu:=map_inv (hT t td ht) hk
 have huk:=str_inv (hT kt tk htk) hkk
 have hl':ms.toList.length=es.length:=by simpa using hl
 have hfind:=sfind_at (n:=n) ms.toList es 0 j hl' (fun j m x hj=>by simpa using hks j m x hj) hold
 rw [Nat.zero_add] at hfind
 have hget:(getObj b).run P w = .ok (.map ms clock) w:=by simp [getObj,Sem.run,hheap]
 obtain ⟨y,hj,_⟩:=sidx_at hold
 have hlt:j<ms.size:=by rw [hl];exact (List.getElem?_eq_some_iff.1 hj).1
 have e1:ms[j]? = some (ms.getD j default):=by simp [Array.getD_eq_getD_getElem?,hlt]
 have hkey0:=hks j n y hj
 have hkj:(((ms[j]?).map (·.key)).getD (.string ⟨n.toArray⟩)) = .string ⟨n.toArray⟩:=by
  rw [e1];simp only [Option.map_some,Option.getD_some,hkey0]
 have hkt:(Instr.keyThatStays (.string ⟨n.toArray⟩) (.string ⟨n.toArray⟩)).run P w = .ok (.string ⟨n.toArray⟩) w:=by
  unfold Instr.keyThatStays
  rw [if_pos (by
   have e:((⟨n.toArray⟩:ByteArray)==⟨n.toArray⟩)=true:=by rw [baEq];simp
   simp [Instr.sameBits,e])];rfl
 obtain ⟨hset,hx,hnew,hoth⟩:=setObj_ext (P:=P) (.map (ms.modify j fun e=>{ e with key:=.string ⟨n.toArray⟩,val:=a.eval v }) clock) hg hheap
 have hrun:(Instr.mapUpdate t (a.eval m) (a.eval k) (a.eval v)).run P w = .ok () { w with heap:=w.heap.setIfInBounds b (.map (ms.modify j fun e=>{ e with key:=.string ⟨n.toArray⟩,val:=a.eval v }) clock) }:=by
  have hfk:(Instr.findKey kt (.string ⟨n.toArray⟩) ms.toList).run P w = .ok (some (j,(ms.toList.getD j default).val)) w:=by
   unfold Instr.findKey
   rw [Sem.run_bind,under_run huk]
   simp only [Result.andThen_ok,hfind,Sem.run_pure]
  unfold Instr.mapUpdate
  rw [Sem.run_bind,under_run hu]
  simp only [Result.andThen_ok,h1,Sem.run_bind,hget,h2,checkKey_str (n:=9999) huk,hfk,hkj,hkt,hset]
 unfold Oper.wp
 simp only [execOp,Sem.run_bind,hrun,Result.andThen_ok,Sem.run_pure]
 have hgetm:∀i,i<ms.size→(ms.modify j fun e=>{ e with key:=.string ⟨n.toArray⟩,val:=a.eval v }).getD i default=if j=i then { ms.getD i default with key:=.string ⟨n.toArray⟩,val:=a.eval v } else ms.getD i default:=fun i hi=>by
  simp only [Array.getD_eq_getD_getElem?,Array.getElem?_modify]
  by_cases h:j=i
  · subst h;simp [hi]
  · simp [h]
 have hkp:∀i k z,(es.modify j fun _=>(n,x))[i]? = some (k,z)→i<ms.size∧if j=i then k=n∧z=x else es[i]? = some (k,z):=fun i k z hi=>by
  have h1:=(List.getElem?_eq_some_iff.1 hi).1
  rw [List.length_modify,←hl] at h1
  refine ⟨h1,?_⟩
  simp only [List.getElem?_modify] at hi
  by_cases h:j=i
  · subst h;rw [hj] at hi;simp at hi;simp [hi.1.symm,hi.2.symm]
  · simpa [h] using hi
 refine hn g _ undef .junk _ ⟨rfl,rfl⟩ (.junk _) (hHK.set hx hH (fun c hc=>.inl hc) ⟨hg,_,_,hnew,by simp [hl],fun i k z hi=>?_,fun i k z hi=>?_⟩ (fun c hc hne _=>⟨rfl,hoth c fun e=>hne (by rw [e];rfl)⟩)) hx
 ·
  obtain ⟨q1,q2⟩:=hkp i k z hi
  rw [hgetm i q1]
  by_cases h:j=i
  · rw [if_pos h];rw [if_pos h] at q2;rw [q2.1]
  · rw [if_neg h];rw [if_neg h] at q2;exact hks i k z q2
 ·
  obtain ⟨q1,q2⟩:=hkp i k z hi
  rw [hgetm i q1]
  by_cases h:j=i
  · rw [if_pos h];rw [if_pos h] at q2;rw [q2.2];exact h3.mono hx
  · rw [if_neg h];rw [if_neg h] at q2;exact (hvs i k z q2).mono hx

/-- A key gets a value, whether it was there or not. -/
theorem E_smapPut {t:TypeId}{m k v:Operand}{kt et b i:Nat}{td tk:TD}{n:List UInt8}{es:List (List UInt8×AV)}{x:AV}{H H2:List HO}(hT:TOK P T)(ht:tget T t=some td)(hk:td.kind = .map kt et)(htk:tget T kt=some tk)(hkk:tk.kind = .str)
  (hm:ρ m = .val (.map (some b))) (hkey:ρ k = .str n) (hv:ρ v=x) (hH:H[i]? = some (.smap b es)) (hH2:H.set i (.smap b (sput es n x))=H2) :
  OpE P ⟨d,.mapUpdate t m k v,ty,pos,aft,gd⟩ ρ H (fun y H'=>y = .junk∧H'=H2):=by
 unfold sput at hH2
 cases hs:sidx es n with
 | none=>rw [hs] at hH2;exact E_mapUpdate hT ht hk htk hkk hm hkey hv hH (sidx_none hs) hH2
 | some j=>rw [hs] at hH2;exact E_smapSet hT ht hk htk hkk hm hkey hv hH hs hH2
end
end Go.Aw

namespace Go.Proofs.YtkddpedfbicbeaaGreatDoor
open Go Go.Aw
abbrev Str1:=List UInt8
/-! ### what is used -/
abbrev Um:=List (Str1×Bool)
def sE (U:Um):List (List UInt8×AV):=U.map fun p=>(p.1,AV.bool p.2)
def uget:Um→Str1→Bool
 | [],_=>false
 | (k,b)::r,n=>if k=n then b else uget r n
def uidx:Um→Str1→Option Nat
 | [],_=>none
 | (k,_)::r,n=>if k=n then some 0 else (uidx r n).map (· + 1)
def uput (U:Um)(n:Str1)(b:Bool):Um:=match uidx U n with | some j=>U.modify j fun _=>(n,b) | none=>U ++ [(n,b)]
theorem look_u (n:Str1):∀U:Um,match sget (sE U) n with | some y=>y = .bool (uget U n) | none=>[AV.bool false] = [.bool (uget U n)]
  | []=>rfl
  | (k,b)::r=>by
    have ih:=look_u n r
    show match (if k=n then some (AV.bool b) else sget (sE r) n) with | some y=>y = .bool (if k=n then b else uget r n) | none=>[AV.bool false] = [.bool (if k=n then b else uget r n)]
    by_cases h:k=n
    · rw [if_pos h,if_pos h]
    · rw [if_neg h,if_neg h];exact ih
theorem sidx_u (n:Str1):∀U:Um,sidx (sE U) n=uidx U n
  | []=>rfl
  | (k,b)::r=>by
    show (if k=n then some 0 else (sidx (sE r) n).map (· + 1))=if k=n then some 0 else (uidx r n).map (· + 1)
    rw [sidx_u n r]
theorem map_modify' {α β:Type}(f:α→β)(g:α→α)(h:β→β)(hc:∀x,f (g x)=h (f x)):∀(l:List α) (j:Nat),(l.modify j g).map f=(l.map f).modify j h
 | [],j=>by simp
 | a::r,0=>by simp [hc]
 | a::r,j+1=>by simp [map_modify' f g h hc r j]
theorem sput_u (U:Um)(n:Str1)(b:Bool):sput (sE U) n (.bool b)=sE (uput U n b):=by
 unfold sput uput
 rw [sidx_u]
 cases uidx U n with
 | none=>simp [sE]
 | some j=>exact (map_modify' (fun p:Str1×Bool=>(p.1,AV.bool p.2)) (fun _=>(n,b)) (fun _=>(n,AV.bool b)) (fun _=>rfl) U j).symm
theorem uget_mem {n:Str1}:∀{U:Um},uget U n=true→n∈U.map Prod.fst
  | [],h=>by cases h
  | (k,b)::r,h=>by
    rw [uget] at h
    by_cases hk:k=n
    · simp [hk]
    · rw [if_neg hk] at h;simp [uget_mem h]
/-! ### fresh names -/
theorem ofNat_inj {a b:Nat}(ha:a<256)(hb:b<256)(h:UInt8.ofNat a=UInt8.ofNat b):a=b:=by
 have:=congrArg UInt8.toNat h
 simp at this
 omega
theorem dec_ne {u:Nat}:Go.Lib.decDigits u≠[]:=by rw [Go.Lib.decDigits];split <;> simp
theorem dec_ge {u:Nat}(h:¬u<10):Go.Lib.decDigits u=Go.Lib.decDigits (u / 10) ++ [UInt8.ofNat (48+u % 10)]:=by rw [Go.Lib.decDigits,dif_neg h]
theorem dec_inj:∀(u v:Nat),Go.Lib.decDigits u=Go.Lib.decDigits v→u=v:=by
  intro u
  induction u using Nat.strongRecOn with
  | _ u ih=>
    intro v h
    by_cases h1:u<10
    · rw [Go.Lib.decDigits_one h1] at h
      by_cases h2:v<10
      · rw [Go.Lib.decDigits_one h2] at h
        have:=ofNat_inj (by omega) (by omega) (List.cons.inj h).1
        omega
      · rw [dec_ge h2] at h
        have:=congrArg List.length h
        simp at this
        exact absurd this dec_ne
    · rw [dec_ge h1] at h
      by_cases h2:v<10
      · rw [Go.Lib.decDigits_one h2] at h
        have:=congrArg List.length h
        simp at this
        exact absurd this dec_ne
      · rw [dec_ge h2] at h
        obtain ⟨e1,e2⟩:=List.append_inj' h rfl
        have h3:=ih (u / 10) (by omega) _ e1
        have h4:=ofNat_inj (by omega) (by omega) (List.cons.inj e2).1
        omega
theorem nodup_len {α:Type}[DecidableEq α]:∀{l m:List α},l.Nodup→l ⊆ m→l.length≤m.length
  | [],m,_,_=>Nat.zero_le _
  | a::r,m,hn,hs=>by
    have h1:=List.nodup_cons.1 hn
    have ha:a∈m:=hs (List.mem_cons_self ..)
    have h2:r ⊆ m.erase a:=fun x hx=>(List.mem_erase_of_ne (fun e:x=a=>h1.1 (by rw [←e];exact hx))).2 (hs (List.mem_cons_of_mem _ hx))
    have h3:=nodup_len h1.2 h2
    have h4:=List.length_erase_of_mem ha
    have h5:=List.length_pos_of_mem ha
    rw [List.length_cons];omega
def wN (k:Nat):Str1:=119::Go.Lib.itoa (k:Int)
theorem wN_inj {a b:Nat}(h:wN a=wN b):a=b:=by
 have h1:=(List.cons.inj h).2
 unfold Go.Lib.itoa at h1
 rw [if_neg (by omega),if_neg (by omega)] at h1
 have:=dec_inj _ _ h1
 omega
theorem few_used {U:Um}:∀{j:Nat},(∀i,i<j→uget U (wN i)=true)→j≤U.length:=by
 intro j h
 have hn:((List.range j).map wN).Nodup:=List.Pairwise.map _ (fun a b hab e=>hab (wN_inj e)) List.nodup_range
 have hs:(List.range j).map wN ⊆ U.map Prod.fst:=fun x hx=>by
  obtain ⟨i,hi,rfl⟩:=List.mem_map.1 hx
  exact uget_mem (h i (List.mem_range.1 hi))
 have:=nodup_len hn hs
 simpa using this
def frGo (U:Um):Nat→Nat→Nat
 | 0,k=>k
 | f+1,k=>if uget U (wN k) then frGo U f (k+1) else k
def freshT (U:Um):Str1:=wN (frGo U U.length 0)
theorem fr_stop {U:Um}{f k:Nat}(h:uget U (wN k)=false):frGo U f k=k:=by
 cases f with
 | zero=>rfl
 | succ f=>rw [frGo,if_neg (by rw [h];decide)]
theorem fr_next {U:Um}{f k:Nat}(h:uget U (wN k)=true):frGo U (f+1) k=frGo U f (k+1):=by rw [frGo,if_pos h]
/-- how far the naming has come: the next number and the text so far -/
def nmI (U:Um)(r:Wd)(n:Nat)(s:Str1):Prop:=(n=0∧s=r.text)∨(r.const=false∧∃j,n=j+1∧s=wN j∧(∀i,i<j→uget U (wN i)=true)∧frGo U U.length 0=frGo U (U.length-j) j)
theorem nm_next {U:Um}{r:Wd}{n:Nat}{s:Str1}(h:nmI U r n s)(hc:r.const=false)(hu:n=0∨uget U s=true):nmI U r (n+1) (wN n):=by
 rcases h with ⟨rfl,_⟩ | ⟨_,j,rfl,rfl,h1,h2⟩
 · exact .inr ⟨hc,0,rfl,rfl,fun i hi=>absurd hi (by omega),rfl⟩
 ·
  have hu':uget U (wN j)=true:=hu.resolve_left (by omega)
  have h3:∀i,i<j+1→uget U (wN i)=true:=fun i hi=>by
   rcases Nat.lt_or_ge i j with h | h
   · exact h1 i h
   · rw [show i=j by omega];exact hu'
  have h4:=few_used h3
  exact .inr ⟨hc,j+1,rfl,rfl,h3,by rw [h2,show U.length-j=(U.length-(j+1))+1 by omega,fr_next hu']⟩
theorem nm_len {U:Um}{r:Wd}{n:Nat}{s:Str1}(h:nmI U r n s):n≤U.length+1:=by
 rcases h with ⟨rfl,_⟩ | ⟨_,j,rfl,rfl,h1,_⟩
 · omega
 · have:=few_used h1;omega
def nameOf (U:Um)(r:Wd):Str1:=if r.const then r.text else freshT U
theorem nm_done {U:Um}{r:Wd}{n:Nat}{s:Str1}(h:nmI U r n s)(hx:(!r.const&&(n==0||uget U s))=false):s=nameOf U r:=by
  unfold nameOf
  cases hc:r.const with
  | true=>
    rcases h with ⟨_,h⟩ | ⟨h,_⟩
    · rw [if_pos rfl];exact h
    · rw [hc] at h;cases h
  | false=>
    rw [hc] at hx
    rcases h with ⟨rfl,_⟩ | ⟨_,j,rfl,rfl,_,h2⟩
    · simp at hx
    · rw [if_neg (by decide)]
      unfold freshT
      rw [h2,fr_stop (by simpa using hx)]
/-! ### names of classes -/
abbrev Nm:=List (Wd×Str1)
def nE (N:Nm):List (List AV×AV):=N.map fun p=>(cWd p.1,.str p.2)
def nget (N:Nm)(r:Wd):Option Str1:=(N.find? fun p=>decide (p.1=r)).map (·.2)
theorem nE_eq (x:Wd)(N:Nm):∀p∈nE N,aeqs TL [(0,1,true,4),(1,1,true,9),(2,3,true,143)] (cWd x) p.1=some (eqWd x p.1):=by
 intro p hp
 obtain ⟨q,_,rfl⟩:=List.mem_map.1 hp
 show aeqs TL _ (cWd x) (cWd q.1)=some (eqWd x (cWd q.1))
 rw [eqWd_is,eqWd_wd]
theorem kget_n (x:Wd):∀N:Nm,kget (eqWd x) (nE N)=(nget N x).map fun y=>.str y
  | []=>rfl
  | q::r=>by
    have ih:=kget_n x r
    unfold nE nget at ih ⊢
    rw [List.map_cons,kget,eqWd_wd,eqW_dec,ih,List.find?_cons]
    by_cases h:q.1=x
    · rw [decide_eq_true h.symm,decide_eq_true h];rfl
    · rw [decide_eq_false (fun e=>h e.symm),decide_eq_false h];rfl
theorem look_n (x:Wd)(N:Nm):match kget (eqWd x) (nE N) with | some y=>y = .str ((nget N x).getD []) | none=>[AV.str []] = [.str ((nget N x).getD [])]:=by
 rw [kget_n];cases nget N x <;> rfl
theorem has_n (x:Wd)(N:Nm):(kget (eqWd x) (nE N)).isSome=(nget N x).isSome:=by rw [kget_n];cases nget N x <;> rfl
theorem new_n {x:Wd}{N:Nm}(h:nget N x=none):kget (eqWd x) (nE N)=none:=by rw [kget_n,h];rfl
theorem nE_snoc (N:Nm)(r:Wd)(s:Str1):nE N ++ [(cWd r,AV.str s)]=nE (N ++ [(r,s)]):=by unfold nE;rw [List.map_append];rfl
theorem nget_snoc {N:Nm}{r:Wd}{s:Str1}(h:nget N r=none):nget (N ++ [(r,s)]) r=some s:=by
 unfold nget at h ⊢
 rw [Option.map_eq_none_iff] at h
 rw [List.find?_append,h]
 simp
theorem kidx_n {N:Nm}{r:Wd}{s:Str1}(h:nget N r=none):kidx (eqWd r) (nE (N ++ [(r,s)]))=some N.length:=by
  induction N with
  | nil=>
    show (if eqWd r (cWd r) then some 0 else none)=_
    rw [eqWd_wd,eqW_dec];simp
  | cons q t ih=>
    unfold nget at h ih
    rw [Option.map_eq_none_iff,List.find?_cons] at h
    by_cases hq:q.1=r
    · rw [decide_eq_true hq] at h;cases h
    · rw [decide_eq_false hq] at h
      show (if eqWd r (cWd q.1) then some 0 else (kidx (eqWd r) (nE (t ++ [(r,s)]))).map (· + 1))=_
      rw [eqWd_wd,eqW_dec,decide_eq_false (fun e=>hq e.symm),ih (by rw [Option.map_eq_none_iff];exact h)]
      rfl
theorem kput_n (N:Nm)(r:Wd)(s s':Str1):kput (nE (N ++ [(r,s)])) N.length (.str s')=nE (N ++ [(r,s')]):=by
 unfold kput
 rw [←nE_snoc,←nE_snoc]
 have hl:(nE N).length=N.length:=List.length_map ..
 rw [←hl]
 generalize nE N=E
 induction E with
 | nil=>rfl
 | cons a t ih=>simp [ih]
theorem nE_self (x:Wd)(N:Nm):∀p∈nE N,eqWd x p.1=true→p.1=cWd x:=by
 intro p hp h
 obtain ⟨q,_,rfl⟩:=List.mem_map.1 hp
 rw [eqWd_wd] at h
 simp only
 rw [eqW_iff.1 h]
end Go.Proofs.YtkddpedfbicbeaaGreatDoor
