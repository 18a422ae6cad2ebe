/-
  Several texts in one: Rar, R9, R10, R11, R12, R13. No condition.
-/
import Derived.Test.YtckhoadldibflaaGreatDoorK07
import Derived.ControlIn
set_option linter.unusedVariables false
set_option linter.unusedSimpArgs false
namespace Go.Aw
open Go

section
variable {l:Nat} {P:Program} {Q:Exit→St→Prop} {s:St}
theorem oF.ret (h:Q .ret s):oF l P .ret Q s:=fun n Q' g a w hG hQ=>wpIn_ret (hQ _ g s a w hG (Ext.refl g w) h)
theorem oF.skip (h:Q .normal s):oF l P .skip Q s:=fun n Q' g a w hG hQ=>wpIn_skip (hQ _ g s a w hG (Ext.refl g w) h)
theorem oF.seq {x y:Code}(h:oF l P x (Ff (oF l P y Q) Q) s):oF l P (.seq x y) Q s:=by
 intro n Q' g a w hG hQ;refine wpIn_seq (h n _ g a w hG fun e g' s' a' w' hG' hx hq=>?_);cases e with
 | normal=>exact hq n Q' g' a' w' hG' fun e g'' s'' a'' w'' h1 h2 h3=>hQ e g'' s'' a'' w'' h1 (hx.trans h2) h3
 | _=>exact hQ _ g' s' a' w' hG' hx hq
theorem oF.cond {c:Operand}{x y:Code}{b:Bool}(hb:Fx s.sl c = .bool b)(ht:b=true→oF l P x Q s)(hf:b=false→oF l P y Q s):oF l P (.cond c x y) Q s:=by
 intro n Q' g a w hG hQ;have hv:=(hb▸hG.eval c:Rep g w _ _).inv_bool;exact wpIn_cond_split hv (fun h=>ht h n Q' g a w hG hQ) (fun h=>hf h n Q' g a w hG hQ)
end

theorem On.ofE {P:Program}{l:Nat}{rec:Loop}{H:List HO}{args:List AV}{R:AV→List HO→Prop}{sl:List (Nat×AV)}{n0:Nat}(hst:rec.state = .ready)(hpe:rec.pending=none)
  (hsz:rec.tmps.size=n0) (hsl:∀g w vs,Cx g w vs args→∀j,Rep g w (((rec.params.zip vs).foldl (fun t (p,v)=>t.setIfInBounds p v) rec.tmps).getD j undef) (get sl j))
  (h:oF l P rec.assign (fun e s1=>e = .normal∧∃i:Nat,s1.H[i]? = some (HO.obj l (Obj.loop rec))∧oF l P rec.body (fun e s2=>∃j:Nat,s2.H[j]? = some (HO.obj l (Obj.loop { rec with state:=.busy }))∧
   ((e = .normal∧R (.bool true) (s2.H.set j (.obj l (.loop rec))))∨(e = .ret∧R (.bool false) (s2.H.set j (.obj l (.loop { rec with state:=.done,pending:=some .ret })))))) ⟨s1.sl,s1.H.set i (.obj l (.loop { rec with state:=.busy })),s1.n⟩) ⟨sl,H,n0⟩):On P l rec H args R:=by
 intro n g w vs hH hr;refine roundIn_of_wpIn trivial ?_
 have hfs:∀(L:List (Tmp×Value)) (t:Array Value),(L.foldl (fun t (p,v)=>t.setIfInBounds p v) t).size=t.size:=by
  intro L;induction L with
  | nil=>intro t;rfl
  | cons p r ih=>intro t;rw [List.foldl_cons,ih];simp
 have hG:Gm g ⟨sl,H,n0⟩ { tmps:=(rec.params.zip vs).foldl (fun t (p,v)=>t.setIfInBounds p v) rec.tmps,defers:=[] } w:=
  ⟨by rw [←Array.foldl_toList];exact (hfs _ _).trans hsz,rfl,fun j=>hsl g w vs hr j,hH⟩
 refine h n _ g _ w hG ?_;rintro e g1 s1 a1 w1 hG1 hx1 ⟨rfl,i,hi,hb⟩;have hob:(HO.obj l (.loop rec)).ok g1 w1:=hG1.heap.ok _ (B6 hi);refine ⟨_,run_beginRound hob.2 hst,?_⟩;obtain ⟨hG2,hx2⟩:=hG1.putObj (.loop { rec with state:=.busy }) hi;refine hb n _ g1 a1 _ hG2 ?_;rintro e g3 s3 a3 w3 hG3 hx3 ⟨j,hj,hR⟩;have hob3:(HO.obj l (.loop { rec with state:=.busy })).ok g3 w3:=hG3.heap.ok _ (B6 hj);rcases hR with ⟨rfl,hR⟩ | ⟨rfl,hR⟩
 ·
  obtain ⟨hG4,hx4⟩:=hG3.putObj (.loop rec) hj;refine ⟨_,_,run_endRound none hob3.2,_,g3,.bool true,_,rfl,.bool _,?_,?_,hR⟩
  ·
   have:({ ({ rec with state:=.busy }:Loop) with state:=if (none:Option Code).isNone then .ready else .done,pending:=none }:Loop)=rec:=by
    cases rec;simp only at hst hpe;subst hst;subst hpe;rfl
   rw [this];exact hG4.heap
  have:({ ({ rec with state:=.busy }:Loop) with state:=if (none:Option Code).isNone then .ready else .done,pending:=none }:Loop)=rec:=by
   cases rec;simp only at hst hpe;subst hst;subst hpe;rfl
  rw [this];exact ((hx1.trans hx2).trans hx3).trans hx4
 obtain ⟨hG4,hx4⟩:=hG3.putObj (.loop { rec with state:=.done,pending:=some .ret }) hj;exact ⟨_,_,run_endRound (some .ret) hob3.2,_,g3,.bool false,_,rfl,.bool _,hG4.heap,((hx1.trans hx2).trans hx3).trans hx4,hR⟩
theorem AW.regionY2 {P:Program}{Q:Exit→St→Prop}{s:St}{id:Nat}{ops:Array Oper}{pre post:List Oper}{d:Nat}{cal:Operand}{args:Array Operand}{ats:Array TypeId}{ty:TypeId}{pos:String}{aft:Array Edge}
  (hops:ops.toList=pre++⟨some d,.call ⟨.value cal,args,ats⟩,ty,pos,aft,none⟩::post) (hnd:Sh pre=true) (hnd2:Sh post=true)
  (h:AOL P ops (fun s'=>∃l rec R,(∃i:Nat,s'.H[i]? = some (HO.obj l (Obj.loop rec)))∧Fx s'.sl cal = .val (.func (.yield l) #[] #[])∧args.size=rec.params.size∧Nc (some d) s'.n=true∧
   On P l rec s'.H (args.toList.map (Fx s'.sl)) R∧∀x H',R x H'→AOL P ops (Q .normal) post ⟨Ey (some d) x s'.sl,H',s'.n⟩) pre s):AW P (.region id ops false) Q s:=by
 intro Q' g a w hG hQ;refine (wpIn_wide (n:=1)).1 ?_;rw [←wideN];refine wpIn_region_list ?_;rw [hops];refine G6 pre _ a w (Qu hnd) ?_;refine h.run _ g a w hG ?_;rintro g' s' a' w' hG' hx ⟨l,rec,R,⟨i,hi⟩,hcal,hlen,hd,hr,hk⟩;show wpListIn _ 1 P ops Q' (_::post) a' w';unfold wpListIn;rw [if_pos (Er rfl)];refine ⟨fun _ _=>trivial,?_⟩;have hobj:(HO.obj l (.loop rec)).ok g' w':=hG'.heap.ok _ (B6 hi);have hv:a'.eval cal = .func (.yield l) #[] #[]:=(hcal▸hG'.eval cal:Rep g' w' _ _).inv_val;have hargs:Cx g' w' (args.map a'.eval) (args.toList.map (Fx s'.sl)):=Uw (ρ:=Fx s'.sl) (a:=a') (g:=g') (w:=w') (args:=args) (fun y _=>hG'.eval y) rfl
 have hrun:(execOp a'.eval ⟨some d,.call ⟨.value cal,args,ats⟩,ty,pos,aft,none⟩).run P w' = .ok (.round l rec.fn ((rec.params.zip (args.map a'.eval)).foldl (fun t (p,v)=>t.setIfInBounds p v) rec.tmps) rec.assign rec.body) w':=by
  have hy:=run_yield (P:=P) (args:=args.map a'.eval) hobj.2 (by simpa using hlen);simp only [execOp,resolve,Sem.run_bind,hv,Deferred.ofValue,Sem.run_pure,Result.andThen_ok,invoke];simpa using hy
 rw [Oper.semAt_eq _ _ _ (fun c e=>by cases e),hrun];refine ⟨fun e=>(by cases e),(hr _ g' w' _ hG'.heap hargs).mono ?_⟩;rintro e w'' ⟨v,g'',r,H',rfl,k1,k2,k3,k4⟩;have hpost:=hk r H' k4;have:=G6 (ro:=none) (n:=1) (Q:=Q') post [] _ w'' (Qu hnd2) (hpost.run _ g'' _ w'' (hG'.put k3 hd k1 k2) fun g3 s3 a3 w3 h1 h2 h3=>hQ _ g3 s3 a3 w3 h1 ((hx.trans k3).trans h2) h3);simpa using this

theorem AW.regionYk {P:Program}{Q:Exit→St→Prop}{s:St}{id:Nat}{ops:Array Oper}(k:Nat){d:Nat}{cal:Operand}{args:Array Operand}{ats:Array TypeId}{ty:TypeId}{pos:String}{aft:Array Edge}
  (hops:ops.toList[k]? = some ⟨some d,.call ⟨.value cal,args,ats⟩,ty,pos,aft,none⟩) (hnd:Sh (ops.toList.take k)=true) (hnd2:Sh (ops.toList.drop (k+1))=true)
  (h:AOL P ops (fun s'=>∃l rec R,(∃i:Nat,s'.H[i]? = some (HO.obj l (Obj.loop rec)))∧Fx s'.sl cal = .val (.func (.yield l) #[] #[])∧args.size=rec.params.size∧Nc (some d) s'.n=true∧
   On P l rec s'.H (args.toList.map (Fx s'.sl)) R∧∀x H',R x H'→AOL P ops (Q .normal) (ops.toList.drop (k+1)) ⟨Ey (some d) x s'.sl,H',s'.n⟩) (ops.toList.take k) s):AW P (.region id ops false) Q s:=by
 refine AW.regionY2 (pre:=ops.toList.take k) (post:=ops.toList.drop (k+1)) (ats:=ats) (ty:=ty) (pos:=pos) (aft:=aft) ?_ hnd hnd2 h;obtain ⟨hlt,he⟩:=List.getElem?_eq_some_iff.1 hops;rw [←he,List.getElem_cons_drop,List.take_append_drop]

def Tail (P:Program)(z:Code)(Qs:St→Prop)(s:St):Prop:=
 ∀(Q':Exit→Act→World→Prop) (g:Gh) (a:Act) (w:World) (ds:List Deferred),Gm g s a w→(∀g' s' a' w',Gm g' s' a' w'→Ext g w g' w'→Qs s'→Q' .ret (Act.more a' ds) w')→z.wp P Q' (Act.more a ds) w
theorem Y6 {P:Program}{ops:Array Oper}{Q:Exit→Act→World→Prop}{ds:List Deferred}:∀(l:List Nat) (a:Act) (w:World),wpOps P ops Q l a w→wpOps P ops (jH ds Q) l (Act.more a ds) w
  | [],a,w,h=>⟨a,rfl,h⟩
  | i::rest,a,w,h=>by
    have h':wpOp P ops Q i (wpOps P ops Q rest) a w:=by
      unfold wpOp;unfold wpOps at h;exact h
    have:=dR (ds:=ds) (K':=wpOps P ops (jH ds Q) rest) (fun a w h=>Y6 rest a w h) h';unfold wpOp at this;unfold wpOps;exact this
theorem Tail.region {P:Program}{id:Nat}{ops:Array Oper}{Qs:St→Prop}{s:St}(h:AOL P ops Qs ops.toList s):Tail P ((Code.region id ops false).seq .ret) Qs s:=by
 intro Q' g a w ds hG hQ;have key:=Lf (P:=P) (ops:=ops) ops.toList 0 a w (by simp) (h.run (fun e a' w'=>match e with | .normal=>Q' .ret (Act.more a' ds) w' | _=>False) g a w hG fun g' s' a' w' h1 h2 h3=>hQ g' s' a' w' h1 h2 h3);rw [←List.range_eq_range'] at key;have key2:=Y6 (ds:=ds) _ _ _ key;refine wp_seq (wp_mono (wp_region (by simpa using key2)) ?_);rintro e a' w' ⟨a0,rfl,hq⟩;cases e with
 | normal=>exact wp_ret hq
 | _=>exact hq.elim
theorem Tail.drawn {P:Program}{id:Nat}{ops:Array Oper}{Qs:St→Prop}{s:St}(h:AWD P (.region id ops true) Qs s):Tail P ((Code.region id ops true).seq .ret) Qs s:=by
 intro Q' g a w ds hG hQ;cases h with
 | draw hm K hK hdd hC=>exact uD hm K hK hdd hC hG ds hQ

theorem AWX.rangeE {P:Program}{T:List (Nat×TD)}(hT:H5 P T){fn:Func}{R:AV→List HO→Prop}{Q:Exit→St→Prop}{s:St}{go:Operand}{ps:Array Tmp}{assign body z:Code}{bid gf:Nat}{lb:List AV}(Z Y:List HO→Prop)
  (hg:Fx s.sl go = .fn (.func gf) [] lb) (hf:Tm P gf=true)
  (hit:∀(rec:Loop) (D l:Nat),rec.state = .ready→rec.pending=none→rec.params=ps→rec.assign=assign→rec.body=body→rec.tmps.size=s.n→(∀t v,get s.sl t = .val v→rec.tmps.getD t undef=v)→
   B5 P gf (.obj l (.loop rec) :: .obj D (.deferred (some []))::s.H) (.val (.func (.yield l) #[] #[])::lb)
    (fun r H'=>∃rec' H2,H' = .obj l (.loop rec') :: .obj D (.deferred (some []))::H2∧rec'.state≠.busy∧((rec'.pending=none∧Z H2)∨(rec'.pending=some .ret∧Y H2))))
  (ht:∀D H2,Z H2→Tail P z (endX P T fn R D) ⟨s.sl,.obj D (.deferred (some []))::H2,s.n⟩)
  (hy:∀D H2,Y H2→∃s2,GS ⟨s.sl,.obj D (.deferred (some []))::H2,s.n⟩ s2∧endX P T fn R D s2) :
  AWX2 P (Code.block bid (.rangeFunc go ps assign body)) z Q (lA P fn R) s:=by
 intro Q' g0 a w hG hQ hX;refine wp_block ((wpIn_wide (n:=1)).1 (wpIn_rangeFunc ?_));intro f0 _;obtain ⟨vs0,us,hv,h1,h2⟩:=(hg▸hG.eval go:Rep g0 w _ _).inv_fn;have hvs0:vs0 = #[]:=Array.size_eq_zero_iff.1 (by simpa using h1.1);subst hvs0;obtain ⟨rec,hrec⟩:∃rec:Loop,rec=⟨.ready,none,f0,a.tmps,ps,assign,body,w.heap.size⟩:=⟨_,rfl⟩;obtain ⟨W1,hW1⟩:∃W1,(w.alloc (.deferred (some []))).alloc (.loop rec)=W1:=⟨_,rfl⟩;have hs1:(w.alloc (.deferred (some []))).heap.size=w.heap.size+1:=World.size_alloc ..;have hx1:=Ext.alloc g0 w (.deferred (some [])) (some 0)
 have hH1:HOK (g0.put w.heap.size (some 0)) (w.alloc (.deferred (some []))) (.obj w.heap.size (.deferred (some []))::s.H):=
  (hG.heap.alloc (.deferred (some [])) (some 0)).cons ⟨Gh.Aao ..,Co ..⟩ fun b hb x hx e=>by
   cases hb
   exact absurd (HO.ok_lt (hG.heap.ok x hx) e).1 (Nat.lt_irrefl _)
 have hx2:=Ext.alloc (g0.put w.heap.size (some 0)) (w.alloc (.deferred (some []))) (.loop rec) (some 0)
 have hH2:=(hH1.alloc (.loop rec) (some 0)).cons (o:=.obj (w.alloc (.deferred (some []))).heap.size (.loop rec)) ⟨Gh.Aao ..,Co ..⟩ fun b hb x hx e=>by
   cases hb
   exact absurd (HO.ok_lt (hH1.ok x hx) e).1 (Nat.lt_irrefl _)
 rw [hs1] at hH2 hx2;rw [hW1] at hH2 hx2;refine ⟨w.heap.size+1,[Vc w.heap.size],W1,{ target:=.fn (.func gf) us,args:=#[.func (.yield (w.heap.size+1)) #[] #[]] },W1,gf,#[.func (.yield (w.heap.size+1)) #[] #[]]++us,W1,?_,?_,fun _ _=>trivial,?_,fun e=>(by cases e),?_⟩
 · rw [←hW1,hrec];exact run_enterLoop_outer _ _ _ _ _
 ·
  simp only [resolve,hv];simp [go_sem]
 · simp [invoke,go_sem,T1 hf]
 have hx12:=hx1.trans hx2;refine callsIn_wide.2 ((hit rec w.heap.size (w.heap.size+1) (by rw [hrec]) (by rw [hrec]) (by rw [hrec]) (by rw [hrec]) (by rw [hrec]) (by rw [hrec];exact hG.size) (by rw [hrec];exact fun t v hv=>(hv▸hG.sl t:Rep g0 w _ _).inv_val) _ W1 _ hH2 ?_).mono ?_)
 ·
  have h2':=h2.mono hx12
  exact Cx.append (xs:=[.val (.func (.yield (w.heap.size+1)) #[] #[])]) ⟨rfl,fun i x hi=>by
   cases i with
   | zero=>simp at hi;subst hi;exact .val _
   | succ i=>simp at hi⟩ h2'
 rintro e w3 ⟨v,g3,r,H',rfl,hr3,hH3,hx3,rec',H2,rfl,hnb,hz⟩;have hob:(HO.obj (w.heap.size+1) (.loop rec')).ok g3 w3:=hH3.ok _ (So ..);obtain ⟨hH4,hx4⟩:=Xf hH3 (i:=0) (.loop { rec' with state:=.exhausted }) rfl;refine ⟨rec'.pending,_,run_endLoop hob.2 hnb,?_⟩;obtain ⟨st',pe',f',t',p',as',bo',de'⟩:=rec'
 have ha:({ a with defers:=[Vc w.heap.size]++a.defers }:Act)=Act.more a [Vc w.heap.size]:=by
  unfold Act.more;rw [hG.defers];rfl
 rw [ha];have hxa:=(hx12.trans hx3).trans hx4
 have fin:∀g5 s5 a5 w5,Gm g5 s5 a5 w5→Ext g0 w g5 w5→endX P T fn R w.heap.size s5→Q' .ret (Act.more a5 [Vc w.heap.size]) w5:=fun g5 s5 a5 w5 hG5 hx5 hq=>by
  obtain ⟨i,hi,xs,hr,H3,hsub,hR⟩:=hq;obtain ⟨hG6,hx6⟩:=hG5.putObj (.deferred none) hi;have hob5:(HO.obj w.heap.size (.deferred (some []))).ok g5 w5:=hG5.heap.ok _ (B6 hi);obtain ⟨v6,k1,k2⟩:=Rn hT hr hG6;refine hX _ _ _ ⟨rfl,w.heap.size,by show a5.defers++_=_;rw [hG5.defers];rfl,hob5.2,v6,g5,_,H3,k1,k2,hG6.heap.sub hsub,hx5.trans hx6,hR⟩
 have hG4:Gm g3 ⟨s.sl,.obj w.heap.size (.deferred (some []))::H2,s.n⟩ a (w3.putObj (w.heap.size+1) (.loop ⟨.exhausted,pe',f',t',p',as',bo',de'⟩)):=⟨hG.size,hG.defers,fun i=>(hG.sl i).mono hxa,hH4.sub (List.sublist_cons_self ..)⟩;rcases hz with ⟨hp,hz⟩ | ⟨hp,hz⟩
 ·
  obtain rfl:pe'=none:=hp;exact ht w.heap.size H2 hz Q' g3 a _ [Vc w.heap.size] hG4 fun g5 s5 a5 w5 hG5 hx5 hq=>fin g5 s5 a5 w5 hG5 (hxa.trans hx5) hq
 obtain rfl:pe'=some .ret:=hp;obtain ⟨s2,hgs,he⟩:=hy w.heap.size H2 hz;obtain ⟨g4,hG5,hx7⟩:=hgs _ _ _ hG4;exact wpIn_ret (fin g4 s2 a _ hG5 (hxa.trans hx7) he)
end Go.Aw

namespace Go.Proofs.YtckhoadldibflaaGreatDoor
open Go Go.Aw

def AllK (tmps:Array Value):List (Nat×Value)→Prop
 | []=>True
 | p::r=>tmps.getD p.1 undef=p.2∧AllK tmps r
theorem par1 {tmps:Array Value}{n0 k:Nat}{x:AV}{kn:List (Nat×Value)}(hsz:tmps.size=n0)(hk:Nat.blt k n0=true)(hkn:AllK tmps kn):∀g w vs,Cx g w vs [x]→∀j,
    Rep g w ((((#[k]:Array Tmp).zip vs).foldl (fun t (p,v)=>t.setIfInBounds p v) tmps).getD j undef) (get ((k,x)::kn.map fun p=>(p.1,.val p.2)) j):=by
  intro g w vs hr j;have h0:=hr.2 0 _ rfl;have hs:vs.size=1:=hr.1
  obtain ⟨u, rfl⟩ : ∃ u, vs = #[u] := ⟨vs[0], by apply Array.ext; simp [hs]; intro i h1 h2; have : i = 0 := by omega
                                                 subst this;rfl⟩
  have hlt:k<tmps.size:=by have:=Fr hk;omega
  rw [←Array.foldl_toList,Array.toList_zip];show Rep g w ((tmps.setIfInBounds k u).getD j undef) _;rw [G3];by_cases e:k=j
  · subst e
    rw [if_pos rfl];simp only [Jg,Array.getElem?_setIfInBounds];simp [hlt];simpa using h0
  · rw [if_neg e]
    have:(tmps.setIfInBounds k u).getD j undef=tmps.getD j undef:=by
      simp only [Jg,Array.getElem?_setIfInBounds];simp [e]
    rw [this];clear this
    induction kn with
    | nil=>exact .junk _
    | cons p r ih=>
      rw [E7,G3];by_cases e2:p.1=j
      · rw [if_pos e2,←hkn.1,e2];exact .val _
      rw [if_neg e2];exact ih hkn.2
theorem On.ofE2 {P:Program}{l:Nat}{rec:Loop}{H:List HO}{args:List AV}{R:AV→List HO→Prop}{A B:Code}(sl:List (Nat×AV)){n0:Nat}(hst:rec.state = .ready)(hpe:rec.pending=none)
  (hsz:rec.tmps.size=n0) (hsl:∀g w vs,Cx g w vs args→∀j,Rep g w (((rec.params.zip vs).foldl (fun t (p,v)=>t.setIfInBounds p v) rec.tmps).getD j undef) (get sl j)) (has:rec.assign=A) (hbo:rec.body=B)
  (h:oF l P A (fun e s1=>e = .normal∧∃i:Nat,s1.H[i]? = some (HO.obj l (Obj.loop rec))∧oF l P B (fun e s2=>∃j:Nat,s2.H[j]? = some (HO.obj l (Obj.loop { rec with state:=.busy }))∧
   ((e = .normal∧R (.bool true) (s2.H.set j (.obj l (.loop rec))))∨(e = .ret∧R (.bool false) (s2.H.set j (.obj l (.loop { rec with state:=.done,pending:=some .ret })))))) ⟨s1.sl,s1.H.set i (.obj l (.loop { rec with state:=.busy })),s1.n⟩) ⟨sl,H,n0⟩):On P l rec H args R:=by
 subst has hbo;exact On.ofE hst hpe hsz hsl h

theorem Wb (f:Pt→Int):∀l:List Pt,Qv (fun e:Int=>e==0) (fun _ q=>f q) 0 l=B3 f l
  | []=>rfl
  | a::r=>by
    rw [Qv,if_pos (show ((0:Int)==0)=true from rfl),B3];by_cases h:f a=0
    · rw [h,Wb f r];rfl
    rw [Ut _ _ (by simpa using h),if_pos (by simpa using h)]
theorem dD (b:Pt→Bool):∀l:List Pt,B3 (fun q=>if b q then 1 else 0) l=if l.any b then 1 else 0
  | []=>rfl
  | a::r=>by
    rw [B3,dD b r,bR];cases b a <;> simp
theorem xA:∀p q:Pt,q∈F2 p→Gr q≤Gr p:=by
  intro p
  induction p using Pt.ind with
  | h p ih=>
    intro q hq;rw [Rm,Hp] at hq;rcases hq with rfl | hq
    · exact C6 _
    · obtain ⟨a,ha,hq⟩:=List.mem_flatMap.1 hq
      have:=ih a ha q hq;have:=P6 ha;omega
structure medP (p:Pt):Prop where
 n:Gr p≤1048576
 cond:∀q∈F2 p,Cg q.cond≤1048576
theorem medP.len {p:Pt}(h:medP p):∀q∈F2 p,Cg q.cond≤1048576∧q.args.length≤1048576:=fun q hq=>⟨h.cond q hq,by have:=xA p q hq;have:=Mw q;have:=h.n;omega⟩
theorem rst_1 {p:Pt}(h:decide ((64:Int)<(Gr p:Int))=true):J7 p=5:=if_pos h
theorem rst_2 {p:Pt}(h:decide ((64:Int)<(Gr p:Int))=false)(h2:decide ((12:Int)<(Z8 p:Int))=true):J7 p=12:=(Bi h).trans (if_pos h2)
theorem zA {p:Pt}(h:decide ((64:Int)<(Gr p:Int))=false)(h2:decide ((12:Int)<(Z8 p:Int))=false):J7 p=B3 X5 (F2 p):=(Bi h).trans (Bi h2)
theorem rst_0 {p:Pt}(h:(J7 p != 0)=false):Gr p≤64∧Z8 p≤12∧B3 X5 (F2 p)=0:=by
 have h0:J7 p=0:=by simpa using h
 have a:¬(64:Int)<(Gr p:Int):=fun h=>by rw [rst_1 (decide_eq_true h)] at h0;exact absurd h0 (by decide)
 have b:¬(12:Int)<(Z8 p:Int):=fun h=>by rw [rst_2 (decide_eq_false a) (decide_eq_true h)] at h0;exact absurd h0 (by decide)
 refine ⟨by omega,by omega,?_⟩;rw [←zA (decide_eq_false a) (decide_eq_false b)];exact h0
theorem pR {α:Type}{f:α→Int}:∀{l:List α},B3 f l=0→∀q∈l,f q=0
  | [],_,q,hq=>(aM hq).elim
  | a::r,h,q,hq=>by
    rw [B3] at h;by_cases ha:f a=0
    · rw [ha,if_neg (by decide)] at h
      rcases Hp.1 hq with rfl | hq
      · exact ha
      exact pR h q hq
    rw [if_pos (by simpa using ha)] at h;exact absurd h ha
def sY (q:Pt):Prop:=0≤q.op∧q.op<11
theorem ck_op {q:Pt}(h:X5 q=0):sY q:=by
 have:(decide (q.op<0)||decide (11≤q.op))=false:=by
  cases hc:(decide (q.op<0)||decide (11≤q.op)) with
  | false=>rfl
  | true=>rw [ck_1 hc] at h;exact absurd h (by decide)
 rw [Ke] at this;have h1:=If this.1;have h2:=If this.2;exact ⟨by omega,by omega⟩
theorem pX {p:Pt}(h:(J7 p != 0)=false):∀q∈F2 p,sY q:=fun q hq=>ck_op (pR (rst_0 h).2.2 q hq)
def mA (q:Pt):Int:=if decide (8≤q.op) then 1 else 0
theorem whl_1 {p:Pt}(h:(J7 p != 0)=true):Ph p=J7 p:=if_pos h
theorem whl_2 {p:Pt}(h:(J7 p != 0)=false):Ph p=B3 mA (F2 p):=by
 rw [show B3 mA (F2 p)=_ from dD _ _];exact Bi h
theorem whl_0 {p:Pt}(h:(Ph p != 0)=false):(J7 p != 0)=false:=by
 cases hr:J7 p != 0 with
 | false=>rfl
 | true=>rw [whl_1 hr,hr] at h;exact absurd h (by decide)
theorem chk_1 {p:Pt}(h:(Ph p != 0)=true):Pc p=Ph p:=if_pos h
theorem chk_2 {p:Pt}(h:(Ph p != 0)=false)(h2:(!(Nj p).ok)=true):Pc p=14:=(Bi h).trans (if_pos h2)
theorem chk_3 {p:Pt}(h:(Ph p != 0)=false)(h2:(!(Nj p).ok)=false):Pc p=0:=(Bi h).trans (Bi h2)
def cC (c:Cnt)(n:Nat):Prop:=0≤c.vars∧0≤c.scopes∧c.vars+n≤3000000∧c.scopes+n≤3000000
theorem cnt_mono (c:Cnt)(n m:Nat)(h:cC c n)(hm:m≤n):cC c m:=⟨h.1,h.2.1,by have:=h.2.2.1;omega,by have:=h.2.2.2;omega⟩
theorem wP (c:Cnt)(q:Pt)(n:Nat)(h:cC c (n+1)):cC (Il c q) n:=by
 obtain ⟨h1,h2,h3,h4⟩:=h;unfold Il cC;refine ⟨?_,?_,?_,?_⟩ <;> simp only <;> split <;> omega
theorem qU:∀(l:List Pt) (c:Cnt),Qv (fun _=>true) Il c l=l.foldl Il c
 | [],c=>rfl
 | a::r,c=>by rw [Qv,if_pos rfl,qU r,List.foldl_cons]
section
variable {c:Cnt} {q:Pt}
theorem stp_yy (h1:(M1 q.op).typed=true)(h2:(M1 q.op).scope=true):(⟨c.vars+1,c.scopes+1,(c.ok&&(q.var==c.vars))&&(q.scope==c.scopes)⟩:Cnt)=Il c q:=by unfold Il;rw [h1,h2];simp
theorem stp_yn (h1:(M1 q.op).typed=true)(h2:(M1 q.op).scope=false):(⟨c.vars+1,c.scopes,c.ok&&(q.var==c.vars)⟩:Cnt)=Il c q:=by unfold Il;rw [h1,h2];simp
theorem stp_ny (h1:(M1 q.op).typed=false)(h2:(M1 q.op).scope=true):(⟨c.vars,c.scopes+1,c.ok&&(q.scope==c.scopes)⟩:Cnt)=Il c q:=by unfold Il;rw [h1,h2];simp
theorem stp_nn (h1:(M1 q.op).typed=false)(h2:(M1 q.op).scope=false):(⟨c.vars,c.scopes,c.ok⟩:Cnt)=Il c q:=by unfold Il;rw [h1,h2];simp
end

structure Qy where
 name:A1
 vars:List Va
 key:List Int
 pattern:Pt
 returns:List Ex
def aV:Qy:=⟨[],[],[],pt0,[]⟩
@[reducible] def cQyW (q : Qy) (rs : AV) : List AV := [.str q.name, .sl 2 (q.vars.map Ls), .sl 1 (q.key.map cI), .int .i64 q.pattern.op, .sl 14 (q.pattern.args.map K8), .int .i64 q.pattern.type, .int .i64 q.pattern.var, .int .i64 q.pattern.scope, .int .i64 q.pattern.span, .int .i64 q.pattern.cond.op, .sl 8 (q.pattern.cond.args.map M2), .int .i64 q.pattern.cond.var, .int .i64 q.pattern.cond.field, .int .i64 q.pattern.cond.kind, .int .i64 q.pattern.cond.val.kind, .int .i64 q.pattern.cond.val.num, .str q.pattern.cond.val.text, rs]
@[reducible] def cQy (q : Qy) : List AV := cQyW q (.sl 8 (q.returns.map M2))

section
variable {T:List e8Sc} {V:List Va}
theorem sW (t:Syn)(xs:List Ex):Cg (Ng T V t xs)≤1+(xs.map Cg).sum:=by
 unfold Ng;split
 · rw [G5];simp
 split
 · split <;> · rw [G5];simp
 split
 · rw [G5];simp
 split
 · rw [G5];simp
 split <;> · rw [G5];exact C6 _
theorem N7:∀t:Syn,Cg (Ds T V t)≤Fk t:=by
  intro t
  induction t using Syn.ind with
  | h t ih=>
    rw [Fe,E1];refine Lq (sW t _) ?_
    have:∀l:List Syn,(∀a∈l,Cg (Ds T V a)≤Fk a)→((l.map (Ds T V)).map Cg).sum≤E8 l:=by
      intro l
      induction l with
      | nil=>intro _;exact Dh _
      | cons x r ih2=>intro h;rw [E7,E7,J3,Gn];have:=h x (by simp);have:=ih2 fun a ha=>h a (by simp [ha]);omega
    have:=this _ ih;omega
theorem cF (t:Syn):Cg (H7 T V t)≤Fk t:=by
 unfold H7;split
 ·
  rename_i h;have h0:0<t.kids.length:=by have:=Gv h;omega
  have:=eL (B6 (Cp h0));have h2:=N7 (T:=T) (V:=V) (Bb t 0);rw [E1];omega
 rw [show Cg P9=1 from rfl,E1];omega
theorem vP {t:Syn}{s:Nx}(xs:List Pt)(hc:Ba t .pats=0):Cg (Nf T V t s xs).cond≤Fk t:=by
 have h1:1≤Fk t:=by rw [E1];omega
 have hk:∀j,j<t.kids.length→Fk (Bb t j)≤Fk t:=fun j h=>by
  have:=eL (B6 (Cp h));have h9:=E1 t;omega
 unfold Nf;split
 · exact cF t
 split
 ·
  rename_i hq;have h2:=Hz hc (.inl (by simpa using hq));exact Lq (cF (Bb t 1)) (hk 1 (by omega))
 split
 · exact h1
 split
 ·
  rename_i hq;have h2:=Hz hc (.inr (by simpa using hq));exact Lq (N7 (Bb t 1)) (hk 1 (by omega))
 exact h1
theorem yR:∀t:Syn,Ba t .pats=0→∀s:Nx,Gr (Ih T V t s).1≤Fk t∧∀q∈F2 (Ih T V t s).1,Cg q.cond≤Fk t:=by
  intro t
  induction t using Syn.ind with
  | h t ih=>
    intro hc s
    have key:∀l:List Syn,(∀a∈l,a∈C1 t)→∀s:Nx,((F0 T V l s).1.map Gr).sum≤E8 l∧∀q∈(F0 T V l s).1.flatMap F2,Cg q.cond≤E8 l:=by
      intro l
      induction l with
      | nil=>intro _ s;rw [F0];exact ⟨Dh _,fun q h=>by simp at h⟩
      | cons x r ih2=>
        intro hl s;have hx:=ih x (Mx (hl x (by simp))) (Ue hc (hl x (by simp))) s;have hr:=ih2 (fun a ha=>hl a (by simp [ha])) (Ih T V x s).2;rw [F0,Gn];refine ⟨by simp only [E7,J3];have:=hx.1;have:=hr.1;omega,fun q hq=>?_⟩;simp only [bL] at hq;rcases Wq.1 hq with hq | hq
        · have:=hx.2 q hq;omega
        have:=hr.2 q hq;omega
    have hk:=key (C1 t) (fun a ha=>ha) (Wd t s);have hp:=T3 t;rw [Z3];refine ⟨by rw [Ix,E1];simp only;have:=hk.1;omega,fun q hq=>?_⟩;rw [Rm] at hq;rcases Hp.1 hq with rfl | hq
    · simp only;exact vP [] hc
    have:=hk.2 q hq;rw [E1];omega
theorem fD {t:Syn}(ht:Es t)(hc:Ba t .pats=0)(s:Nx):medP (Ih T V t s).1:=by
 have h:=yR (T:=T) (V:=V) t hc s;have hm:=He ht;exact ⟨by have:=h.1;omega,fun q hq=>by have:=h.2 q hq;omega⟩
end

structure TsOK (T:List e8Sc):Prop where
 tl:T.length≤1048576
 fl:∀s∈T,s.fields.length≤1048576
 nd:(G8 T).Nodup
theorem decV_ok {T:List e8Sc}{t:Syn}(h:(G8 T).contains t.text=true):0≤(Ki T t).type∧(Ki T t).type<(T.length:Int):=by
 have:=Ka h;rw [D9] at this;exact this
theorem Ws {T:List e8Sc}{V:List Va}{t:Syn}(h:(Hy T V t != 0)=false):(G8 T).contains t.text=true∧(Fq V).contains t.name=false∧V.length≠16:=by
 have h0:Hy T V t=0:=by simpa using h
 unfold Hy at h0;split at h0
 · cases h0
 rename_i h1;split at h0
 · cases h0
 rename_i h2;split at h0
 · cases h0
 rename_i h3;exact ⟨by simpa using h2,by simpa using h3,fun e=>h1 (by simp [e])⟩
theorem jX {T:List e8Sc}:∀(l:List Syn) (V:List Va),V.length≤16→(∀v∈V,0≤v.type∧v.type<(T.length:Int))→(K1 T V l).1.length≤16∧∀v∈(K1 T V l).1,0≤v.type∧v.type<(T.length:Int)
  | [],V,h1,h2=>⟨h1,h2⟩
  | t::r,V,h1,h2=>by
    rw [Kg];cases hq:Hy T V t != 0 with
    | true=>rw [if_pos rfl];exact ⟨h1,h2⟩
    | false=>
      rw [Bi rfl];have hd:=Ws hq;refine jX r _ (by rw [Cb,K9];have:=hd.2.2;omega) fun v hv=>?_
      rcases Wq.1 hv with hv | hv
      · exact h2 v hv
      rw [N6.1 hv];exact decV_ok hd.1
theorem mP {T:List e8Sc}(hT:TsOK T)(l:List Syn):RvOK T (K1 T [] l).1:=by
 have h:=jX (T:=T) l [] (by simp) (fun v hv=>(aM hv).elim);exact ⟨hT.tl,hT.fl,by have:=h.1;omega,h.2⟩
theorem uE {t:Syn}(h:Ba t .pats=0)(h5:t.kind≠5):0<t.kids.length:=by
 have hs:=(Gg (Gk h).1).2.1;have hr:=Lu h;unfold En at hs;have:t.kind=6∨t.kind=7∨t.kind=8∨t.kind=9∨t.kind=10∨t.kind=11∨t.kind=12:=by omega
 rcases this with hk | hk | hk | hk | hk | hk | hk <;> · rw [hk] at hs;simp at hs;omega
theorem oW:∀t:Syn,Ba t .pats=0→Hj t≠[]:=by
  intro t
  induction t using Syn.ind with
  | h t ih=>
    intro hc;rw [M5];split
    · simp
    · rename_i h5
      have h5':t.kind≠5:=by simpa using h5
      have hl:=uE hc h5';have hk:=Cp hl;have hm:=B6 hk;have h0:=ih _ hm (Mq hc h5' hk fun _=>rfl);split
      · simp
      · split
        · rw [eN hl];exact h0
        · intro he
          rw [List.flatMap_eq_nil_iff] at he;exact h0 (he _ hm)
theorem qN {T:List e8Sc}{l:List Syn}(hl:l≠[])(h:((K1 T [] l).2.err != 0)=false):0<T.length:=by
  cases l with
  | nil=>exact (hl rfl).elim
  | cons t r=>
    rw [Kg] at h;cases hq:Hy T [] t != 0 with
    | true=>rw [if_pos hq] at h;simp only at h;rw [hq] at h;cases h
    | false=>
      have:=Ka (Ws hq).1;rw [D9] at this;omega

section
variable (T:List e8Sc) (t:Syn)
def Gq:List Va:=(K1 T [] (Hj (Bb t 1))).1
def gW:Fa:=(K1 T [] (Hj (Bb t 1))).2
def eZ (V:List Va):List Int×Bool:=if ((Bb t 0).text != []) then X1 T V (Bb t 0).text else ([],true)
def rtF (V:List Va)(x:Syn):Fa:=if (De (Ds T V x) != 0) then ⟨x.pos,De (Ds T V x)⟩ else Mt
def ptR (V:List Va):Pt:=(Ih T V (Bb t 1) ⟨0,0⟩).1
def qyR (V:List Va):Qy:=⟨t.text,V,(eZ T t V).1,ptR T t V,(t.kids.drop 2).map (Ds T V)⟩
def QR4 (V:List Va):Qy×Fa:=if ((La (rtF T V) (t.kids.drop 2)).err != 0) then (aV,La (rtF T V) (t.kids.drop 2)) else (qyR T t V,Mt)
def QR3 (V:List Va):Qy×Fa:=if (Pc (ptR T t V) != 0) then (aV,⟨(Bb t 1).pos,Pc (ptR T t V)⟩) else QR4 T t V
def QR2 (V:List Va):Qy×Fa:=if ((D0 T V t).err != 0) then (aV,D0 T V t) else QR3 T t V
def QR1 (V:List Va):Qy×Fa:=if (!(eZ T t V).2) then (aV,⟨(Bb t 0).pos,16⟩) else QR2 T t V
def C0:Qy×Fa:=if ((gW T t).err != 0) then (aV,gW T t) else QR1 T t (Gq T t)
end
section
variable {T:List e8Sc} {t:Syn} {V:List Va}
theorem qr_1 (h:((gW T t).err != 0)=true):C0 T t=(aV,gW T t):=if_pos h
theorem bF (h:((gW T t).err != 0)=false):C0 T t=QR1 T t (Gq T t):=Bi h
theorem Wx (h:((Bb t 0).text != [])=true):eZ T t V=X1 T V (Bb t 0).text:=if_pos h
theorem qP (h:((Bb t 0).text != [])=false):eZ T t V=([],true):=Bi h
theorem qr_2 (h:(!(eZ T t V).2)=true):QR1 T t V=(aV,⟨(Bb t 0).pos,16⟩):=if_pos h
theorem jD (h:(!(eZ T t V).2)=false):QR1 T t V=QR2 T t V:=Bi h
theorem qr_3 (h:((D0 T V t).err != 0)=true):QR2 T t V=(aV,D0 T V t):=if_pos h
theorem sE (h:((D0 T V t).err != 0)=false):QR2 T t V=QR3 T t V:=Bi h
theorem qr_4 (h:(Pc (ptR T t V) != 0)=true):QR3 T t V=(aV,⟨(Bb t 1).pos,Pc (ptR T t V)⟩):=if_pos h
theorem qr_e (h:(Pc (ptR T t V) != 0)=false):QR3 T t V=QR4 T t V:=Bi h
theorem vN {x:Syn}(h:(De (Ds T V x) != 0)=true):rtF T V x=⟨x.pos,De (Ds T V x)⟩:=if_pos h
theorem rt_no {x:Syn}(h:(De (Ds T V x) != 0)=false):rtF T V x=Mt:=Bi h
theorem qr_5 {k:Nat}{x:Syn}(ha:(t.kids.drop 2)[k]? = some x)(hn:((t.kids.drop 2).take k).any (fun x=>(rtF T V x).err != 0)=false)(h:(De (Ds T V x) != 0)=true):QR4 T t V=(aV,⟨x.pos,De (Ds T V x)⟩):=by
 have h1:=Rh ha hn (by rw [vN h];exact h);unfold QR4;rw [h1,vN h];exact if_pos h
theorem qr_6 (hn:(t.kids.drop 2).any (fun x=>(rtF T V x).err != 0)=false):QR4 T t V=(qyR T t V,Mt):=by
 unfold QR4;rw [Nz hn];rfl
structure QryOK (t:Syn):Prop where
 m:Es t
 c:Ba t (.only 3)=0
theorem QryOK.kind (h:QryOK t):t.kind=3:=E5 (Gg (Gk h.c).1).1
theorem QryOK.len (h:QryOK t):3≤t.kids.length:=by
 have hs:=(Gg (Gk h.c).1).2.1;unfold En at hs;rw [h.kind] at hs;simp at hs;omega
theorem QryOK.pat (h:QryOK t):Ba (Bb t 1) .pats=0:=by
 have hk:=(Fj h.c (Cp (k:=1) (by have:=h.len;omega))).1;unfold Eh at hk;rw [h.kind] at hk;exact hk
theorem QryOK.med1 (h:QryOK t):Es (Bb t 1):=Le h.m (by have:=h.len;omega)
theorem QryOK.evl (h:QryOK t):(Hj (Bb t 1)).length≤1048576:=by
 have:=Yp (Bb t 1);have:=He h.med1;omega
end

section
variable (T:List e8Sc) (t:Syn)
def Pu:Qy×Int×Int:=if (Fv T != 0) then (aV,0,Fv T) else if ((Bh t (.only 3)).2 != 0) then (aV,0,3) else ((C0 T t).1,(C0 T t).2.pos,(C0 T t).2.err)
theorem qp_1 (h:(Fv T != 0)=true):Pu T t=(aV,0,Fv T):=if_pos h
theorem qp_2 (h:(Fv T != 0)=false)(h2:((Bh t (.only 3)).2 != 0)=true):Pu T t=(aV,0,3):=(Bi h).trans (if_pos h2)
theorem tR (h:(Fv T != 0)=false)(h2:((Bh t (.only 3)).2 != 0)=false):Pu T t=((C0 T t).1,(C0 T t).2.pos,(C0 T t).2.err):=(Bi h).trans (Bi h2)
end
theorem G4 {t:Syn}{p:Pl}(h:((Bh t p).2 != 0)=false):Ba t p=0:=by
  cases hc:Ba t p != 0 with
  | false=>simpa using hc
  | true=>
    have:(Bh t p).2=Ba t p:=by unfold Bh;rw [if_pos hc]
    rw [this,hc] at h;cases h
theorem Uf:∀(l:List e8Sc) (seen:List (List UInt8)),Km seen l=0→seen.Nodup→(seen++l.map (·.name)).Nodup∧∀s∈l,Hm s=0
  | [],seen,h,hn=>⟨by simpa using hn,fun s hs=>(aM hs).elim⟩
  | s::r,seen,h,hn=>by
    rw [Km] at h;split at h
    · rename_i h1;rw [h] at h1;cases h1
    · rename_i h1
      have h0:Hg seen s=0:=by simpa using h1
      have hc:s.name∉seen:=by
        intro hm;unfold Hg at h0;split at h0
        · rename_i h2;rw [h0] at h2;cases h2
        · rename_i h2
          rw [if_pos (by simpa using hm)] at h0;cases h0
      have hz:Hm s=0:=by
        unfold Hg at h0;split at h0
        · rename_i h2;rw [h0] at h2;cases h2
        rename_i h2;simpa using h2
      have ih:=Uf r (seen ++ [s.name]) h (List.nodup_append.2 ⟨hn,by simp,fun a ha b hb=>by rw [N6.1 hb];exact fun e=>hc (e▸ha)⟩);refine ⟨by simpa using ih.1,fun x hx=>?_⟩;rcases Hp.1 hx with rfl | hx
      · exact hz
      exact ih.2 x hx
theorem all_ok {T:List e8Sc}(h:(Fv T != 0)=false):T.length≤16∧(G8 T).Nodup∧∀s∈T,Hm s=0:=by
 have h0:Fv T=0:=by simpa using h
 unfold Fv at h0;split at h0
 · cases h0
 rename_i h1;have:=Uf T [] h0 List.nodup_nil;exact ⟨by have:=h1;simp at this;omega,by simpa using this.1,this.2⟩
theorem sch_len {s:e8Sc}(h:Hm s=0):s.fields.length≤8:=by
 unfold Hm at h;split at h
 · cases h
 split at h
 · cases h
 rename_i h2;simp at h2;omega
theorem nT {T:List e8Sc}(h:(Fv T != 0)=false):TsOK T:=by
 obtain ⟨h1,h2,h3⟩:=all_ok h;exact ⟨by omega,fun s hs=>by have:=sch_len (h3 s hs);omega,h2⟩

def Em:List Fi→List Syn→List Fi×Fa
 | fs,[]=>(fs,Mt)
 | fs,x::r=>if ((fs.length:Int)==8) then (fs,⟨x.pos,5⟩) else if (fs.map (·.name)).contains x.text then (fs,⟨x.pos,7⟩) else Em (fs ++ [⟨x.text,x.num⟩]) r
def Gd:List e8Sc→List Syn→List e8Sc×Fa
  | out,[]=>(out,Mt)
  | out,k::r=>
    if (k.kind != 1) then Gd out r
    else if ((out.length:Int)==16) then ([],⟨k.pos,5⟩)
    else if (G8 out).contains k.text then ([],⟨k.pos,7⟩)
    else if ((Em [] k.kids).2.err != 0) then ([],(Em [] k.kids).2)
    else Gd (out ++ [⟨k.text,(Em [] k.kids).1⟩]) r
def C8 (t:Syn):List e8Sc×Fa:=Gd [] t.kids
section
variable {out:List e8Sc} {l:List Syn} {k:Nat} {a:Syn}
theorem jU (ha:l[k]? = some a)(h:(a.kind != 1)=true):Gd out (l.drop k)=Gd out (l.drop (k+1)):=by rw [Ax ha,Gd,if_pos h]
theorem typ_5 (ha:l[k]? = some a)(h:(a.kind != 1)=false)(h2:((out.length:Int)==16)=true):Gd out (l.drop k)=([],⟨a.pos,5⟩):=by rw [Ax ha,Gd,Bi h,if_pos h2]
theorem typ_7 (ha:l[k]? = some a)(h:(a.kind != 1)=false)(h2:((out.length:Int)==16)=false)(h3:(G8 out).contains a.text=true):Gd out (l.drop k)=([],⟨a.pos,7⟩):=by rw [Ax ha,Gd,Bi h,Bi h2,if_pos h3]
theorem typ_n (ha:l[k]? = some a)(h:(a.kind != 1)=false)(h2:((out.length:Int)==16)=false)(h3:(G8 out).contains a.text=false):Gd out (l.drop k)=if ((Em [] a.kids).2.err != 0) then ([],(Em [] a.kids).2) else Gd (out ++ [⟨a.text,(Em [] a.kids).1⟩]) (l.drop (k+1)):=by rw [Ax ha,Gd,Bi h,Bi h2,Bi h3]
theorem typ_f (ha:l[k]? = some a)(h:(a.kind != 1)=false)(h2:((out.length:Int)==16)=false)(h3:(G8 out).contains a.text=false){fs:List Fi}{f:Fa}(hf:Em [] a.kids=(fs,f))(he:f.err≠0):Gd out (l.drop k)=([],f):=by
 rw [typ_n ha h h2 h3,hf];exact if_pos (by simpa using he)
theorem typ_on (ha:l[k]? = some a)(h:(a.kind != 1)=false)(h2:((out.length:Int)==16)=false)(h3:(G8 out).contains a.text=false){fs:List Fi}(hf:Em [] a.kids=(fs,Mt)):Gd out (l.drop k)=Gd (out ++ [⟨a.text,fs⟩]) (l.drop (k+1)):=by
 rw [typ_n ha h h2 h3,hf];rfl
variable {fs:List Fi}
theorem fld_5 (ha:l[k]? = some a)(h:((fs.length:Int)==8)=true):Em fs (l.drop k)=(fs,⟨a.pos,5⟩):=by rw [Ax ha,Em,if_pos h]
theorem fld_7 (ha:l[k]? = some a)(h:((fs.length:Int)==8)=false)(h2:(fs.map (·.name)).contains a.text=true):Em fs (l.drop k)=(fs,⟨a.pos,7⟩):=by rw [Ax ha,Em,Bi h,if_pos h2]
theorem zC (ha:l[k]? = some a)(h:((fs.length:Int)==8)=false)(h2:(fs.map (·.name)).contains a.text=false):Em fs (l.drop k)=Em (fs ++ [⟨a.text,a.num⟩]) (l.drop (k+1)):=by rw [Ax ha,Em,Bi h,Bi h2]
end
theorem scFi (l:List Fi):∀c∈l.map lY,Bc c=true:=fun c hc=>by
 obtain ⟨x,_,rfl⟩:=M9.1 hc;rfl
theorem scSc (l:List e8Sc):∀c∈l.map F1,Bc c=true:=fun c hc=>by
 obtain ⟨x,_,rfl⟩:=M9.1 hc;rfl
theorem Yu {n:Nat}(h:n≤16)(h2:((n:Int)==16)=false):n+1≤16:=by
 have:n≠16:=fun e=>by subst e;exact absurd h2 (by decide)
 omega
theorem len8 {n:Nat}(h:n≤8)(h2:((n:Int)==8)=false):n+1≤8:=by
 have:n≠8:=fun e=>by subst e;exact absurd h2 (by decide)
 omega

def X6 (t:Syn):List e8Sc×Int×Int:=if ((Bh t (.only 0)).2 != 0) then ([],0,3) else ((C8 t).1,(C8 t).2.pos,(C8 t).2.err)
theorem tp_1 {t:Syn}(h:((Bh t (.only 0)).2 != 0)=true):X6 t=([],0,3):=if_pos h
theorem tp_2 {t:Syn}(h:((Bh t (.only 0)).2 != 0)=false):X6 t=((C8 t).1,(C8 t).2.pos,(C8 t).2.err):=Bi h

theorem dP:∀(l:List Syn) (fs:List Fi),fs.length≤8→(Em fs l).1.length≤8
  | [],fs,h=>h
  | x::r,fs,h=>by
    rw [Em];split
    · exact h
    · rename_i h1
      split
      · exact h
      exact dP r _ (by rw [Cb,K9];exact len8 h (by simpa using h1))
theorem Zk:∀(l:List Syn) (out:List e8Sc),(out.length≤16∧(∀s∈out,s.fields.length≤8)∧(G8 out).Nodup)→((Gd out l).1.length≤16∧(∀s∈(Gd out l).1,s.fields.length≤8)∧(G8 (Gd out l).1).Nodup)
  | [],out,h=>h
  | k::r,out,h=>by
    have hz:(([]:List e8Sc).length≤16∧(∀s∈([]:List e8Sc),s.fields.length≤8)∧(G8 []).Nodup):=⟨Dh _,fun s hs=>(aM hs).elim,List.nodup_nil⟩;rw [Gd];split
    · exact Zk r out h
    · split
      · exact hz
      · rename_i h2
        split
        · exact hz
        · rename_i h3
          split
          · exact hz
          · refine Zk r _ ⟨by rw [Cb,K9];exact Yu h.1 (by simpa using h2),fun s hs=>?_,?_⟩
            · rcases Wq.1 hs with hs | hs
              · exact h.2.1 s hs
              rw [N6.1 hs];exact dP _ _ (Dh _)
            · have h3':k.text∉G8 out:=by simpa using h3
              show (List.map (·.name) (out ++ [_])).Nodup;rw [Tq];exact List.nodup_append.2 ⟨h.2.2,by simp,fun a ha b hb=>by rw [N6.1 hb];exact fun e=>h3' ((show a=k.text from e)▸ha)⟩
theorem aR (t:Syn):(C8 t).1.length≤16∧(∀s∈(C8 t).1,s.fields.length≤8)∧(G8 (C8 t).1).Nodup:=Zk t.kids [] ⟨Dh _,fun s hs=>(aM hs).elim,List.nodup_nil⟩
theorem nX (t:Syn):TsOK (C8 t).1:=⟨by have:=(aR t).1;omega,fun s hs=>by have:=(aR t).2.1 s hs;omega,(aR t).2.2⟩
theorem Wv {t a:Syn}(hc:Ba t (.only 0)=0){k:Nat}(ha:t.kids[k]? = some a)(h3:a.kind=3):Ba a (.only 3)=0:=by
 have hk:=E5 (Gg (Gk hc).1).1;have h:=Fj hc ha;unfold Eh at h;rw [hk] at h;rw [if_pos (by decide)] at h;split at h
 · have:=E5 h.2;omega
 exact h.1
structure Pg where
 types:List e8Sc
 queries:List Qy
def pg0:Pg:=⟨[],[]⟩
@[reducible] def cPg (p : Pg) : List AV := [.sl 2 (p.types.map F1), .sl 18 (p.queries.map cQy)]
def Fm (T:List e8Sc):List Qy→List Syn→List Qy×Fa
  | qs,[]=>(qs,Mt)
  | qs,k::r=>
    if (k.kind != 3) then Fm T qs r
    else if ((qs.length:Int)==16) then ([],⟨k.pos,5⟩)
    else if (qs.map (·.name)).contains k.text then ([],⟨k.pos,7⟩)
    else if ((C0 T k).2.err != 0) then ([],(C0 T k).2)
    else Fm T (qs ++ [(C0 T k).1]) r
section
variable {T:List e8Sc} {qs:List Qy} {l:List Syn} {k:Nat} {a:Syn}
theorem kO (ha:l[k]? = some a)(h:(a.kind != 3)=true):Fm T qs (l.drop k)=Fm T qs (l.drop (k+1)):=by rw [Ax ha,Fm,if_pos h]
theorem prg_5 (ha:l[k]? = some a)(h:(a.kind != 3)=false)(h2:((qs.length:Int)==16)=true):Fm T qs (l.drop k)=([],⟨a.pos,5⟩):=by rw [Ax ha,Fm,Bi h,if_pos h2]
theorem prg_7 (ha:l[k]? = some a)(h:(a.kind != 3)=false)(h2:((qs.length:Int)==16)=false)(h3:(qs.map (·.name)).contains a.text=true):Fm T qs (l.drop k)=([],⟨a.pos,7⟩):=by rw [Ax ha,Fm,Bi h,Bi h2,if_pos h3]
theorem prg_f (ha:l[k]? = some a)(h:(a.kind != 3)=false)(h2:((qs.length:Int)==16)=false)(h3:(qs.map (·.name)).contains a.text=false)(h4:((C0 T a).2.err != 0)=true):Fm T qs (l.drop k)=([],(C0 T a).2):=by rw [Ax ha,Fm,Bi h,Bi h2,Bi h3,if_pos h4]
theorem prg_on (ha:l[k]? = some a)(h:(a.kind != 3)=false)(h2:((qs.length:Int)==16)=false)(h3:(qs.map (·.name)).contains a.text=false)(h4:((C0 T a).2.err != 0)=false):Fm T qs (l.drop k)=Fm T (qs ++ [(C0 T a).1]) (l.drop (k+1)):=by rw [Ax ha,Fm,Bi h,Bi h2,Bi h3,Bi h4]
end
theorem jI {T:List e8Sc}{t:Syn}(h:((C0 T t).2.err != 0)=false):(C0 T t).1.name=t.text∧(C0 T t).2=Mt:=by
 have key:∀{c:Bool} {f:Fa} {x:Qy×Fa},((if c then (aV,f) else x).2.err != 0)=false→(c=true→(f.err != 0)=true)→(if c then (aV,f) else x)=x:=fun {c f x} h1 h2=>by
  cases c with
  | false=>rfl
  | true=>rw [if_pos rfl] at h1;rw [h2 rfl] at h1;cases h1
 have h1:=key h (fun h=>h);unfold C0 at h ⊢;rw [h1] at h ⊢;have h2:=key (c:=!(eZ T t (Gq T t)).2) h (fun _=>rfl);unfold QR1 at h ⊢;rw [h2] at h ⊢;have h3:=key h (fun h=>h);unfold QR2 at h ⊢;rw [h3] at h ⊢;have h4:=key (f:=⟨(Bb t 1).pos,Pc (ptR T t (Gq T t))⟩) h (fun h=>h);unfold QR3 at h ⊢;rw [h4] at h ⊢;have h5:=key h (fun h=>h);unfold QR4 at h ⊢;rw [h5] at h ⊢;exact ⟨rfl,rfl⟩
def wU (t:Syn)(T:List e8Sc):Pg×Int×Int:=if ((Fm T [] t.kids).2.err != 0) then (pg0,(Fm T [] t.kids).2.pos,(Fm T [] t.kids).2.err) else (⟨T,(Fm T [] t.kids).1⟩,0,0)
def Tf (t:Syn):Pg×Int×Int:=if ((Bh t (.only 0)).2 != 0) then (pg0,0,3) else if ((C8 t).2.err != 0) then (pg0,(C8 t).2.pos,(C8 t).2.err) else wU t (C8 t).1
section
variable {t:Syn}
theorem pp_1 (h:((Bh t (.only 0)).2 != 0)=true):Tf t=(pg0,0,3):=if_pos h
theorem pp_2 (h:((Bh t (.only 0)).2 != 0)=false)(h2:((C8 t).2.err != 0)=true):Tf t=(pg0,(C8 t).2.pos,(C8 t).2.err):=(Bi h).trans (if_pos h2)
theorem pp_n (h:((Bh t (.only 0)).2 != 0)=false)(h2:((C8 t).2.err != 0)=false):Tf t=wU t (C8 t).1:=(Bi h).trans (Bi h2)
theorem sZ (h:((Bh t (.only 0)).2 != 0)=false)(h2:((C8 t).2.err != 0)=false){f:Fa}(h3:Fm (C8 t).1 [] t.kids=([],f))(hf:(f.err != 0)=true):Tf t=(pg0,f.pos,f.err):=by
 rw [pp_n h h2];unfold wU;rw [h3];exact if_pos hf
theorem pp_y (h:((Bh t (.only 0)).2 != 0)=false)(h2:((C8 t).2.err != 0)=false){qs:List Qy}(h3:Fm (C8 t).1 [] t.kids=(qs,Mt)):Tf t=(⟨(C8 t).1,qs⟩,0,0):=by
 rw [pp_n h h2];unfold wU;rw [h3];rfl
end
theorem scQy (l:List Qy):∀c∈l.map cQy,Bc c=true:=fun c hc=>by
 obtain ⟨x,_,rfl⟩:=M9.1 hc;rfl

mutual
def Mj (L:Nat):Pt→Nat
 | ⟨_,xs,_,_,_,_,_⟩=>K3 L xs 1
def K3 (L:Nat):List Pt→Nat→Nat
 | [],n=>n
 | a::r,n=>if n≤L then K3 L r (n+Mj L a) else n
end
theorem qF (L:Nat)(p:Pt):Mj L p=K3 L p.args 1:=by cases p;rw [Mj]
theorem iP (L:Nat):∀(l:List Pt) (m:Nat),m≤K3 L l m
  | [],m=>by rw [K3];exact C6 _
  | a::r,m=>by
    rw [K3];split
    · exact Lq (Nat.le_add_right _ _) (iP L r _)
    exact C6 _
theorem mK {L:Nat}{l:List Pt}{n:Nat}(h:L<n):K3 L l n=n:=by
 cases l with
 | nil=>rw [K3]
 | cons a r=>rw [K3,if_neg (by omega)]
theorem jO (L:Nat)(p:Pt):Mj L p=Gr p∨(L<Mj L p∧Mj L p≤Gr p):=by
  induction p using Pt.ind with
  | h p ih=>
    rw [qF,Ix]
    have:∀(l:List Pt) (n:Nat),(∀a∈l,Mj L a=Gr a∨(L<Mj L a∧Mj L a≤Gr a))→K3 L l n=n+(l.map Gr).sum∨(L<K3 L l n∧K3 L l n≤n+(l.map Gr).sum):=by
      intro l
      induction l with
      | nil=>intro n _;simp [K3]
      | cons x r ihr=>
        intro n h;simp only [K3,E7,J3];have h1:=h x (by simp);have h2:=ihr (n+Mj L x) fun a ha=>h a (by simp [ha])
        split
        · have hm:=iP L r (n+Mj L x)
          omega
        omega
    have:=this p.args 1 ih;omega
theorem tot_gt (L:Nat)(p:Pt):L<Mj L p↔L<Gr p:=by
 rcases jO L p with h | h
 · rw [h]
 omega
theorem kG {l:List Pt}{k:Nat}{a:Pt}(n:Nat)(h:l[k]? = some a):n+((l.drop k).map Gr).sum=(n+Gr a)+((l.drop (k+1)).map Gr).sum:=by
 rw [Ax h,E7,J3];omega

def M0 (p:Pt):Bool:=(p.op==5)||(p.op==9)
def Lx (p:Pt):Bool:=(p.op==6)||(p.op==10)
def Qm (p:Pt):Bool:=(p.op==0)||M0 p
def nG (p:Pt):Bool:=Qm p||(p.op==7)
def Uy (p:Pt):Bool:=
 if (p.op==0) then ((p.args.length:Int)==0)
 else if ((p.op==1)||(p.op==2))||(p.op==3) then decide (2≤(p.args.length:Int))
 else if (p.op==8) then ((p.args.length:Int)==2) else ((p.args.length:Int)==1)
def mZ (u:Bool)(n m:Int):Bool:=u&&(decide (n<0)||decide (m<n))
def nbB (p:Pt):Bool:=((mZ (Qm p) p.type 15||mZ (Qm p) p.var 15)||mZ (M0 p||Lx p) p.scope 63)||mZ (Lx p) p.span 1099511627776
def nuB (p:Pt):Bool:=(((!Qm p&&((p.type != 0)||(p.var != 0)))||(!(M0 p||Lx p)&&(p.scope != 0)))||(!Lx p&&(p.span != 0)))||(!nG p && !Gs p.cond Ps)
def yJ (p:Pt):Int:=
 if decide (p.op<0)||decide (10<p.op) then 1
 else if !Uy p then 15
 else if nbB p then 2
 else if nG p&&(De p.cond != 0) then De p.cond
 else if nuB p then 3 else 0
section
variable {p:Pt}
theorem nd_1 (h:(decide (p.op<0)||decide (10<p.op))=true):yJ p=1:=if_pos h
theorem nd_2 (h:(decide (p.op<0)||decide (10<p.op))=false)(h2:(!Uy p)=true):yJ p=15:=(Bi h).trans (if_pos h2)
theorem nd_3 (h:(decide (p.op<0)||decide (10<p.op))=false)(h2:(!Uy p)=false)(h3:nbB p=true):yJ p=2:=(Bi h).trans ((Bi h2).trans (if_pos h3))
theorem nd_4 (h:(decide (p.op<0)||decide (10<p.op))=false)(h2:(!Uy p)=false)(h3:nbB p=false)(h4:nG p=true)(h5:(De p.cond != 0)=true):yJ p=De p.cond:=by
 refine (Bi h).trans ((Bi h2).trans ((Bi h3).trans (if_pos ?_)));rw [h4,h5];rfl
theorem nd_n (h:(decide (p.op<0)||decide (10<p.op))=false)(h2:(!Uy p)=false)(h3:nbB p=false)(h4:(nG p&&(De p.cond != 0))=false):yJ p=if nuB p then 3 else 0:=(Bi h).trans ((Bi h2).trans ((Bi h3).trans (Bi h4)))
end
theorem Yn (u:Bool)(n m:Int):mZ u n m = !wth u n m:=by
 unfold mZ wth;cases u with
 | false=>rfl
 | true=>rw [Bool.eq_iff_iff];simp <;> omega
theorem Yl (u:Bool)(n:Int):(!unu u n)=(!u&&(n != 0)):=by
 unfold unu;cases u <;> rfl
theorem nu_bool:∀a b c d s x y z w:Bool,((((!a&&(x||y))||(!b&&z))||(!c&&w))||(!d && !s))=(((((!d && !s)||(!a&&x))||(!a&&y))||(!b&&z))||(!c&&w)):=by decide
theorem jE {p:Pt}(h:(decide (p.op<0)||decide (11≤p.op))=false):Qm p=(M1 p.op).typed∧(M0 p||Lx p)=(M1 p.op).scope∧Lx p=(M1 p.op).span∧nG p=(M1 p.op).cond:=by
 have hr:p.op=0∨p.op=1∨p.op=2∨p.op=3∨p.op=4∨p.op=5∨p.op=6∨p.op=7∨p.op=8∨p.op=9∨p.op=10:=by simp at h;omega
 unfold nG Qm M0 Lx;rcases hr with h | h | h | h | h | h | h | h | h | h | h <;> rw [h] <;> exact ⟨rfl,rfl,rfl,rfl⟩
theorem nd_ck {p:Pt}(hl:p.args.length≤64):yJ p=X5 p:=by
 unfold yJ X5;by_cases h:(decide (p.op<0)||decide (11≤p.op))=true
 · rw [if_pos h,if_pos (by simp at h ⊢;omega)]
 rw [if_neg h,if_neg (by simp at h ⊢;omega)];have hf:(decide (p.op<0)||decide (11≤p.op))=false:=by simpa using h
 have hr:p.op=0∨p.op=1∨p.op=2∨p.op=3∨p.op=4∨p.op=5∨p.op=6∨p.op=7∨p.op=8∨p.op=9∨p.op=10:=by simp at h;omega
 obtain ⟨f1,f2,f3,f4⟩:=jE hf;unfold ckR
 have e1:(!Uy p)=(decide ((p.args.length:Int)<(M1 p.op).least)||decide ((M1 p.op).most<(p.args.length:Int))):=by
  unfold Uy;rcases hr with h | h | h | h | h | h | h | h | h | h | h <;> rw [h] <;> simp [M1,shpL] <;> (try (rw [Bool.eq_iff_iff];simp)) <;> (try omega)
 have e2:nbB p=ckB p (M1 p.op):=by unfold nbB ckB;rw [f1,f2,f3,Yn,Yn,Yn,Yn]
 have e3:nuB p=ckU p (M1 p.op):=by
  unfold nuB ckU;rw [f1,f2,f3,f4,Yl,Yl,Yl,Yl];exact nu_bool _ _ _ _ _ _ _ _ _
 rw [e1,e2,e3,f4]
def Xz (p:Pt):Int:=if decide ((64:Int)<(Mj 64 p:Int)) then 5 else if decide ((12:Int)<(Z8 p:Int)) then 12 else B3 yJ (F2 p)
theorem lG {α:Type}{f g:α→Int}:∀{l:List α},(∀q∈l,f q=g q)→B3 f l=B3 g l
 | [],_=>rfl
 | a::r,h=>by rw [B3,B3,h a (by simp),lG fun q hq=>h q (by simp [hq])]
theorem rst_eq (p:Pt):Xz p=J7 p:=by
 unfold Xz J7;have e:decide ((64:Int)<(Mj 64 p:Int))=decide ((64:Int)<(Gr p:Int)):=by rw [decide_eq_decide];have:=tot_gt 64 p;omega
 rw [e];by_cases h:decide ((64:Int)<(Gr p:Int))=true
 · rw [if_pos h,if_pos h]
 rw [if_neg h,if_neg h,lG fun q hq=>nd_ck (by have:=xA p q hq;have:=Mw q;simp at h;omega)]
theorem rr_1 {p:Pt}(h:decide ((64:Int)<(Mj 64 p:Int))=true):Xz p=5:=if_pos h
theorem rr_2 {p:Pt}(h:decide ((64:Int)<(Mj 64 p:Int))=false)(h2:decide ((12:Int)<(Z8 p:Int))=true):Xz p=12:=(Bi h).trans (if_pos h2)
theorem rr_3 {p:Pt}(h:decide ((64:Int)<(Mj 64 p:Int))=false)(h2:decide ((12:Int)<(Z8 p:Int))=false):Xz p=B3 yJ (F2 p):=(Bi h).trans (Bi h2)
theorem bV {α:Type}{f:α→Int}:∀{l:List α} {k:Nat} {a:α},l[k]? = some a→(l.take k).any (fun x=>f x != 0)=false→(f a != 0)=true→B3 f l=f a
  | [],k,a,h,_,_=>by simp at h
  | b::r,0,a,h,_,hp=>by simp at h;subst h;rw [B3,if_pos hp]
  | b::r,k+1,a,h,hn,hp=>by
    rw [lE,bR,Ke] at hn;rw [B3,if_neg (by rw [hn.1];decide)];exact bV (by simpa using h) hn.2 hp
theorem Za {α:Type}{f:α→Int}:∀{l:List α},l.any (fun x=>f x != 0)=false→B3 f l=0
  | [],_=>rfl
  | b::r,h=>by
    rw [bR,Ke] at h;rw [B3,if_neg (by rw [h.1];decide)];exact Za h.2

def Yg:Int→Int→List Pt→Int
  | _,_,[]=>0
  | v,s,q::r=>
    if Qm q&&(q.var != v) then 14
    else if (M0 q||Lx q)&&(q.scope != s) then 14
    else Yg (if Qm q then v+1 else v) (if M0 q||Lx q then s+1 else s) r
def jA (l:List Pt):Bool:=!l.any (fun q=>decide (8≤q.op))
def sM (p:Pt):Int:=if (Xz p != 0) then Xz p else if !jA (F2 p) then 1 else Yg 0 0 (F2 p)
theorem cr_1 {p:Pt}(h:(Xz p != 0)=true):sM p=Xz p:=if_pos h
theorem cr_2 {p:Pt}(h:(Xz p != 0)=false)(h2:(!jA (F2 p))=true):sM p=1:=(Bi h).trans (if_pos h2)
theorem cr_3 {p:Pt}(h:(Xz p != 0)=false)(h2:(!jA (F2 p))=false):sM p=Yg 0 0 (F2 p):=(Bi h).trans (Bi h2)
theorem Zu:∀(l:List Pt) (c:Cnt),c.ok=false→(l.foldl Il c).ok=false
 | [],c,h=>h
 | q::r,c,h=>by rw [List.foldl_cons];exact Zu r _ (by unfold Il;simp [h])
theorem rV:∀(l:List Pt) (c:Cnt),(∀q∈l,sY q)→c.ok=true→Yg c.vars c.scopes l=if !(l.foldl Il c).ok then 14 else 0
  | [],c,_,h=>by rw [Yg,List.foldl_nil,h];rfl
  | q::r,c,hl,h=>by
    have hq:=hl q (by simp);obtain ⟨f1,f2,f3,f4⟩:=jE (p:=q) (by have:=hq.1;have:=hq.2;simp;omega);have ih:=rV r (Il c q) fun x hx=>hl x (by simp [hx])
    rw [Yg,List.foldl_cons,f1,f2];by_cases h1:((M1 q.op).typed&&(q.var != c.vars))=true
    · rw [if_pos h1,Zu r _ (by unfold Il;simp at h1 ⊢;simp [h1])];rfl
    · rw [if_neg h1]
      by_cases h2:((M1 q.op).scope&&(q.scope != c.scopes))=true
      · rw [if_pos h2,Zu r _ (by unfold Il;simp at h2 ⊢;simp [h2])];rfl
      · rw [if_neg h2]
        exact ih (by unfold Il;simp at h1 h2 ⊢;exact ⟨⟨h,by cases hs:(M1 q.op).typed with | false=>exact .inl rfl | true=>exact .inr (h1 hs)⟩,by cases hs:(M1 q.op).scope with | false=>exact .inl rfl | true=>exact .inr (h2 hs)⟩)
theorem eU (p:Pt):sM p=Pc p:=by
  unfold sM Pc;rw [rst_eq];cases h:J7 p != 0 with
  | true=>rw [if_pos rfl,whl_1 h,h,if_pos rfl]
  | false=>
    rw [Bi rfl];have hw:Ph p=if (F2 p).any (fun q=>decide (8≤q.op)) then 1 else 0:=Bi h
    unfold jA;rw [hw];cases (F2 p).any (fun q=>decide (8≤q.op)) with
    | true=>rfl
    | false=>exact rV (F2 p) ⟨0,0,true⟩ (pX h) rfl
section
variable {v s:Int} {l:List Pt} {k:Nat} {a:Pt}
theorem goC_1 (ha:l[k]? = some a)(h:Qm a=true)(h2:(a.var != v)=true):Yg v s (l.drop k)=14:=by rw [Ax ha,Yg,if_pos (by rw [h,h2];rfl)]
theorem goC_2 (ha:l[k]? = some a)(h:(Qm a&&(a.var != v))=false)(h3:(M0 a||Lx a)=true)(h4:(a.scope != s)=true):Yg v s (l.drop k)=14:=by rw [Ax ha,Yg,Bi h,if_pos (by rw [h3,h4];rfl)]
theorem oT (ha:l[k]? = some a)(h:(Qm a&&(a.var != v))=false)(h3:((M0 a||Lx a)&&(a.scope != s))=false):Yg v s (l.drop k)=Yg (if Qm a then v+1 else v) (if M0 a||Lx a then s+1 else s) (l.drop (k+1)):=by rw [Ax ha,Yg,Bi h,Bi h3]
theorem goC_yy (ha:l[k]? = some a)(h:Qm a=true)(h2:(a.var != v)=false)(h3:(M0 a||Lx a)=true)(h4:(a.scope != s)=false):Yg v s (l.drop k)=Yg (v+1) (s+1) (l.drop (k+1)):=by rw [oT ha (by rw [h2,N5]) (by rw [h4,N5]),if_pos h,if_pos h3]
theorem goC_yn (ha:l[k]? = some a)(h:Qm a=true)(h2:(a.var != v)=false)(h3:(M0 a||Lx a)=false):Yg v s (l.drop k)=Yg (v+1) s (l.drop (k+1)):=by rw [oT ha (by rw [h2,N5]) (by rw [h3];rfl),if_pos h,Bi h3]
theorem goC_ny (ha:l[k]? = some a)(h:Qm a=false)(h3:(M0 a||Lx a)=true)(h4:(a.scope != s)=false):Yg v s (l.drop k)=Yg v (s+1) (l.drop (k+1)):=by rw [oT ha (by rw [h];rfl) (by rw [h4,N5]),Bi h,if_pos h3]
theorem goC_nn (ha:l[k]? = some a)(h:Qm a=false)(h3:(M0 a||Lx a)=false):Yg v s (l.drop k)=Yg v s (l.drop (k+1)):=by rw [oT ha (by rw [h];rfl) (by rw [h3];rfl),Bi h,Bi h3]
end

def hdP (a b:Pt):Bool:=((((((a.op != b.op)||(a.type != b.type))||(a.var != b.var))||(a.scope != b.scope))||(a.span != b.span)) || !Gs a.cond b.cond)||((a.args.length:Int) != (b.args.length:Int))
mutual
def smP:Pt→Pt→Bool
 | ⟨o,xs,t,v,s,n,c⟩,b=>if hdP ⟨o,xs,t,v,s,n,c⟩ b then false else T6 xs b.args
def T6:List Pt→List Pt→Bool
 | [],_=>true
 | a::r,l=>if !smP a (l.headD pt0) then false else T6 r l.tail
end
theorem gD (a b:Pt):smP a b=if hdP a b then false else T6 a.args b.args:=by cases a;rw [smP]
theorem hdP_len {a b:Pt}(h:hdP a b=false):a.args.length=b.args.length:=by
 unfold hdP at h;rw [Ke] at h;have:=h.2;simp at this;omega
theorem wR (a:Pt):smP a a=true:=by
  induction a using Pt.ind with
  | h a ih=>
    have hh:hdP a a=false:=by unfold hdP;simp [Oj]
    rw [gD,Bi hh]
    have:∀l:List Pt,(∀x∈l,smP x x=true)→T6 l l=true:=by
      intro l
      induction l with
      | nil=>intro _;rw [T6]
      | cons x r ih2=>intro h;rw [T6];exact Eq.trans (if_neg (show ¬(!smP x x)=true by rw [h x (by simp)];decide)) (ih2 fun y hy=>h y (by simp [hy]))
    exact this _ ih
def yP:List Int→List Int→Bool
 | [],_=>true
 | a::r,l=>if a != l.headD 0 then false else yP r l.tail
def siB (a b:List Int):Bool:=if ((a.length:Int) != (b.length:Int)) then false else yP a b
theorem wK (a:List Int):siB a a=true:=by
 unfold siB;rw [if_neg (by simp)]
 induction a with
 | nil=>rfl
 | cons x r ih=>rw [yP];exact Eq.trans (if_neg (show ¬(x != x)=true by simp)) ih
theorem xK {l:List Int}{k:Nat}{a:Int}(h:l[k]? = some a):(l.map cI)[k]? = some [.int .i64 a]:=by rw [List.getElem?_map,h];rfl
def fewX (e:Ex):Bool:=decide (Cg e≤200∧Fw e≤100)
def fewP (p:Pt):Bool:=if decide ((150:Int)<(Mj 150 p:Int))||decide ((60:Int)<(Z8 p:Int)) then false else (F2 p).all fun q=>fewX q.cond
theorem Ub {p q:Pt}{k:Nat}(h:(F2 p)[k]? = some q):((F2 p).map K8)[k]? = some (cPt q):=by rw [List.getElem?_map,h];exact congrArg some (Ok q)
end Go.Proofs.YtckhoadldibflaaGreatDoor
