/-
  Several texts in one: S55, S56, S57, S58, S59, Y3. No condition.
-/
import Derived.Test.YtjedflcpjlgokaaGreatDoorK26
import Derived.Test.YtjedflcpjlgokaaGreatDoorK22
import Derived.Test.YtjedflcpjlgokaaGreatDoorK25
import Derived.Test.YtjedflcpjlgokaaGreatDoorAz
import Derived.Test.YtjedflcpjlgokaaGreatDoorK14
import Derived.KernelRfl
set_option linter.unusedVariables false
set_option linter.unusedSimpArgs false
namespace Go.Proofs.YtjedflcpjlgokaaGreatDoor
open Go Go.Aw
set_option maxRecDepth 100000

def fld0 (v:Int):Ex:=⟨1,[],v,0,0,v0⟩
def R1 (op a b n:Int):Ex:=two op (fld0 a) (two 5 (fld0 b) (Ny ⟨0,n,[]⟩))
def plT:List Sc:=[⟨[116],[⟨[120],0⟩]⟩]
def plV:List Va:=[⟨[97],0⟩,⟨[98],0⟩]
def plW (k:Nat):Int:=if k<2 then 2 else 1
def plB (k:Nat):Bool:=(Eb plT plV [R1 7 0 1 0,R1 7 1 0 (k:Int)]).2.2==0&&(Eb plT plV [R1 7 0 1 0,R1 7 1 0 (k:Int)]).1==plW k
theorem pl_0:plB 0=true:=by kernel_rfl
theorem pl_1:plB 1=true:=by kernel_rfl
theorem pl_2:plB 2=true:=by kernel_rfl
theorem pl_k {k:Nat}(h:k<3):(Eb plT plV [R1 7 0 1 0,R1 7 1 0 (k:Int)]).2.2=0∧(Eb plT plV [R1 7 0 1 0,R1 7 1 0 (k:Int)]).1=plW k:=by
 have h1:plB k=true:=by
  have:k=0∨k=1∨k=2:=by omega
  rcases this with rfl | rfl | rfl
  · exact pl_0
  · exact pl_1
  · exact pl_2
 unfold plB at h1
 rw [Bool.and_eq_true] at h1
 exact ⟨by simpa using h1.1,by simpa using h1.2⟩
theorem pl_sc:∀s∈plT,Ig s:=by
 intro s hs
 rw [List.mem_singleton.1 hs]
 exact ⟨by decide,by decide,by decide⟩
theorem mS (op a b n:Int):Ar (R1 op a b n)≤1048576:=by
 have:Ar (R1 op a b n)=5:=by simp [R1,two,fld0,Ny,Dp]
 omega
def Ls (T:List Sc)(V:List Va)(es:List Ex):Bool:=
 if es.any (fun e=>!xY e) then false
 else if !dB T||decide (8<(V.length:Int)) then false
 else !(es.any fun e=>D1 T V e != 0)
theorem jW {T:List Sc}{V:List Va}{es:List Ex}(h:Ls T V es=true):∀e∈es,CondOK T V e:=fun e he=>by
  unfold Ls at h
  cases h1:es.any (fun e=>!xY e) with
  | true=>rw [if_pos h1] at h;cases h
  | false=>
    rw [C8 h1] at h
    cases h2:(!dB T||decide (8<(V.length:Int))) with
    | true=>rw [if_pos h2] at h;cases h
    | false=>
      rw [C8 h2,Bool.not_eq_true'] at h
      have:=List.any_eq_false.1 h e he
      exact zT (by simpa using this)
def pA (x:Ev)(t:Tm)(n:Int):Ev:=if t.op==2 then { x with time:=n } else Uo x t.field.toNat fun y=>{ y with num:=n }
theorem rZ {evs:List Ev}{t:Tm}{e:Ev}{x:Int}(h:evs[t.v.toNat]? = some e):L1 evs t x=evs.set t.v.toNat (pA e t x):=by
 unfold L1 pA
 split
 · exact Iu h
 · exact Iu h
section
variable {T:List Sc} {V:List Va}
def decGo (T:List Sc)(V:List Va)(l:List (List Lit)):Bool:=l.any fun c=>(Bs (Bf T V c)).ok
theorem Vi {e:Ex}(h:CondOK T V e):Ce T V e=if !(Cl T V e true).2 then ([],17) else ((Cl T V e true).1,0):=by
 unfold Ce
 rw [if_neg (by rw [h.zero];decide)]
end

def idxS {α:Type}(p:α→Bool):List α→Int
 | []=>-1
 | a::r=>if p a then 0 else if idxS p r<0 then -1 else idxS p r+1
section
variable {T:List Sc} {V:List Va} {y:Lit}
theorem Tf:Qt T V y=(!((y.cond.op != 9)||((y.cond.args.length:Int)==0))&&((Cn T V (Av y.cond)).2 != 0||(Cn T V (Av y.cond)).1==2)):=by
 unfold Qt
 cases h:y.cond.op==9 <;> simp [bne,h]
theorem Aaf (h:((y.cond.op != 9)||((y.cond.args.length:Int)==0))=false):0<y.cond.args.length:=by
 rw [Bool.or_eq_false_iff] at h
 have:=h.2
 simp at this
 exact List.length_pos_iff.2 this
theorem xF (h:((y.cond.op != 9)||((y.cond.args.length:Int)==0))=true):Qt T V y=false:=by rw [Tf,h];rfl
theorem zU (h:((y.cond.op != 9)||((y.cond.args.length:Int)==0))=false)(h2:((Cn T V (Av y.cond)).2 != 0||(Cn T V (Av y.cond)).1==2)=false):Qt T V y=false:=by rw [Tf,h,h2];rfl
theorem xJ (h:((y.cond.op != 9)||((y.cond.args.length:Int)==0))=false)(h2:((Cn T V (Av y.cond)).2 != 0||(Cn T V (Av y.cond)).1==2)=true):Qt T V y=true:=by rw [Tf,h,h2];rfl
end
section
variable {z:Zn} {l:List Int}
end
section
variable {z:Zn} {c:List Int}
end
theorem Sa (T:List Sc)(V:List Va)(e:Ex):(Ce T V e).1.length≤1048576∧(∀c∈(Ce T V e).1,c.length≤1048576)∧∀c∈(Ce T V e).1,∀x∈c,Ar x.cond≤1048576:=by
  have h0:∀n:Int,(([]:List (List Lit)),n).1.length≤1048576∧(∀c∈(([]:List (List Lit)),n).1,c.length≤1048576)∧∀c∈(([]:List (List Lit)),n).1,∀x∈c,Ar x.cond≤1048576:=fun n=>⟨by simp,by simp,by simp⟩
  cases h1:(D1 T V e != 0) with
  | true=>rw [Yq h1];exact h0 _
  | false=>
    cases h2:(!(Cl T V e true).2) with
    | true=>rw [aC h1 h2];exact h0 _
    | false=>
      rw [aE h1 h2]
      have hk:=(O3 h1).1
      have hn:=H5 e hk.kok true
      have hl:=Pf e hk.kok true
      have hz:=Jy hk
      exact ⟨Nat.le_trans hn.len (by omega),fun c hc=>Nat.le_trans (hn.lits c hc) (by omega),fun c hc x hx=>Nat.le_trans (hl c hc x hx).2 (by omega)⟩
section
variable {T:List Sc} {V:List Va} {e:Ex}
theorem Ub (h:CondOK T V e):∀c∈(Ce T V e).1,c∈(Cl T V e true).1:=fun c hc=>by
 rw [Vi h] at hc
 cases hn : !(Cl T V e true).2 with
 | true=>rw [hn,if_pos rfl] at hc;cases hc
 | false=>rw [hn,if_neg (by decide)] at hc;exact hc
theorem fX (h:CondOK T V e):(((Ce T V e).2==0)||((Ce T V e).2==17))=true:=by
 rw [Vi h]
 cases !(Cl T V e true).2 <;> rfl
theorem mE (bs:List Bd)(d:Ds)(f:Int):∀(k:Nat) (a:Int),(Ib bs d f k a).length≤k
  | 0,a=>by rw [Ib];exact Nat.le_refl _
  | k+1,a=>by
    rw [Ib,List.length_cons]
    split
    · simp
    · have:=mE bs d f k (F3 bs d a);omega
structure ClOK (T:List Sc) (V:List Va) (c:List Lit):Prop where
 lok:Sq T V c
 zone:N3 T V c=⟨Bf T V c,(B1 T V c).ts.map Fx,0⟩
 err:(Bs (Bf T V c)).err=0
 zl:(Bf T V c).bs.length≤1048576
 cl:c.length≤1048576
 cs:∀y∈c,Ar y.cond≤1048576
 vl:(Bs (Bf T V c)).values.length≤1048576
 cyl:(Bs (Bf T V c)).cycle.length≤1048576
 holds:(Bs (Bf T V c)).ok=true→gY (Bf T V c) (Bs (Bf T V c)).values=(true,0)
 verify:(Bs (Bf T V c)).ok=false→Uz (Bf T V c) (Bs (Bf T V c)).cycle=0
theorem oS (h:CondOK T V e){c:List Lit}(hc:c∈(Ce T V e).1):ClOK T V c:=by
  have hm:=Ub h c hc
  have hF:=h.lits true c hm
  have hl:=Rp hF
  have hf:=(Zu h true c hm).1
  have hz:=Pj hl hf
  have hz':(Gt (zn (zN T V c) (Bf T V c).bs) != 0)=false:=by rw [←N2,hz];rfl
  have hzo:=fA hz' (Mh hl)
  have h64:=hzo.n64
  have hb:=(Vd (n:=(zN T V c:Int)) (bs:=(Bf T V c).bs) hz').2.2.1
  have hcz:=Sa T V e
  refine ⟨hl,nH h true c hm,qJ hl hf,by omega,hcz.2.1 c hc,hcz.2.2 c hc,?_,?_,aO h.kc.types h.kc.kok.ty hF hf,Xy hl hf⟩
  · rw [N2]
    cases he:decide ((Di (zn (zN T V c) (Bf T V c).bs)).2<0) with
    | true=>
      rw [Nj hz' he]
      simp only [List.length_map]
      rw [(bL hzo).s];omega
    | false=>rw [Nf hz' he];simp
  · rw [N2]
    cases he:decide ((Di (zn (zN T V c) (Bf T V c).bs)).2<0) with
    | true=>rw [Nj hz' he];simp
    | false=>
      rw [Nf hz' he]
      simp only
      rw [bC rfl he rfl]
      exact Nat.le_trans (mE _ _ _ _ _) (by omega)
theorem tU (h:(!Ls T V [e])=false):CondOK T V e:=jW (show Ls T V [e]=true by simpa using h) e (by simp)
end

theorem Tc {es:List (List AV)}{z j o:Nat}{e:List AV}{x:AV}(hz:∀e∈es,e.length=z)(hj:es[j]? = some e)(ho:e[o]? = some x):es.flatten[j*z+o]? = some x:=by
 have:=R3 (J:=[]) hz hj ho
 rwa [List.append_nil] at this
theorem Ms {es:List (List AV)}{z j o:Nat}{e:List AV}(hz:∀e∈es,e.length=z)(hj:es[j]? = some e)(ho:o<z):Nat.ble (j*z+o+1) es.flatten.length=true:=by
 have:=Mf (J:=[]) hz hj ho
 rwa [List.append_nil] at this
theorem Pe {es:List (List AV)}{z j o:Nat}{e:List AV}{x:AV}(hz:∀e∈es,e.length=z)(hj:es[j]? = some e)(ho:o<z):D7 es.flatten (j*z+o) [x]=(es.set j (e.set o x)).flatten:=by
 have:=Mq (J:=[]) (x:=x) hz hj ho
 rwa [List.append_nil,List.append_nil] at this
theorem wI {cs:List AV}{k:Nat}(x:AV)(h:k<cs.length):D7 cs k [x]=cs.set k x:=by
 unfold D7
 rw [List.set_eq_take_append_cons_drop,if_pos h]
 simp
theorem Yb {es:List (List AV)}{z j o:Nat}{e:List AV}{x:AV}(hz:∀e∈es,e.length=z)(hj:es[j]? = some e)(ho:o<z):es.flatten.set (j*z+o) x=(es.set j (e.set o x)).flatten:=by
 rw [←Pe hz hj ho,wI x (by have:=Nat.le_of_ble_eq_true (Ms hz hj ho);omega)]
theorem Ya:∀{es:List (List AV)} {z j:Nat} {e:List AV},(∀e∈es,e.length=z)→es[j]? = some e→(es.flatten.drop (j*z)).take z=e
  | [],z,j,e,hz,hj=>by simp at hj
  | a::r,z,0,e,hz,hj=>by
    simp at hj;subst hj
    rw [List.flatten_cons,Nat.zero_mul,List.drop_zero,List.take_append_of_le_length (by rw [hz a (List.mem_cons_self ..)];exact Nat.le_refl _),List.take_of_length_le (by rw [hz a (List.mem_cons_self ..)];exact Nat.le_refl _)]
  | a::r,z,j+1,e,hz,hj=>by
    have ha:=hz a (List.mem_cons_self ..)
    have ih:=Ya (es:=r) (j:=j) (fun x hx=>hz x (List.mem_cons_of_mem _ hx)) (show r[j]? = some e by simpa using hj)
    have hq:(j+1)*z=a.length+j*z:=by rw [ha,Nat.add_mul];omega
    rw [List.flatten_cons,hq,List.drop_length_add_append,ih]
theorem sZ {es:List (List AV)}{z:Nat}(hz:∀e∈es,e.length=z):es.flatten.length=es.length*z:=by
 induction es with
 | nil=>simp
 | cons a r ih=>rw [List.flatten_cons,List.length_append,ih (fun x hx=>hz x (List.mem_cons_of_mem _ hx)),hz a (List.mem_cons_self ..),List.length_cons,Nat.add_mul];omega
theorem iR {es:List (List AV)}{z j:Nat}{e:List AV}(hz:∀e∈es,e.length=z)(hj:es[j]? = some e):Nat.ble (j*z+z) es.flatten.length=true:=by
 have hlt:=A4 hj
 rw [sZ hz]
 refine Nat.ble_eq_true_of_le ?_
 have:(j+1)*z≤es.length*z:=Nat.mul_le_mul_right z hlt
 rw [Nat.add_mul] at this;omega
theorem Zl:∀{es:List (List AV)} {z j:Nat} {e e':List AV},(∀e∈es,e.length=z)→es[j]? = some e→e'.length=z→D7 es.flatten (j*z) e'=(es.set j e').flatten
  | [],z,j,e,e',hz,hj,he=>by simp at hj
  | a::r,z,0,e,e',hz,hj,he=>by
    have ha:=hz a (List.mem_cons_self ..)
    unfold D7
    rw [List.flatten_cons,Nat.zero_mul,List.take_zero,List.nil_append,Nat.zero_add,he,←ha,List.drop_left,List.set_cons_zero,List.flatten_cons]
  | a::r,z,j+1,e,e',hz,hj,he=>by
    have ha:=hz a (List.mem_cons_self ..)
    have ih:=Zl (es:=r) (j:=j) (fun x hx=>hz x (List.mem_cons_of_mem _ hx)) (show r[j]? = some e by simpa using hj) he
    have hq:(j+1)*z=a.length+j*z:=by rw [ha,Nat.add_mul];omega
    unfold D7 at ih ⊢
    rw [List.flatten_cons,hq,List.take_length_add_append,Nat.add_assoc,List.drop_length_add_append,List.set_cons_succ,List.flatten_cons,←ih]
    simp only [List.append_assoc]

def zcE:List AV:=[.int .i64 0,.int .i64 0,.int .i64 0,.int .i64 0,.val (.slice none 0 0)]
section
variable {T:List Sc} {V:List Va} {k:Nat}
def Kq (T:List Sc)(V:List Va)(k:Nat)(cur:List AV):List (List AV):=(Fh T 0 (V.take k)).map Lo++cur::List.replicate (V.length-k-1) zcE
def vZ (T:List Sc)(V:List Va)(k:Nat):List (List AV):=(Fh T 0 (V.take k)).map Lo++List.replicate (V.length-k) zcE
theorem zH (T:List Sc)(V:List Va):List.replicate V.length zcE=vZ T V 0:=by unfold vZ;simp [Fh]
theorem xS (h:k<V.length):vZ T V k=Kq T V k zcE:=by
 unfold vZ Kq
 rw [show V.length-k=(V.length-k-1)+1 by omega,List.replicate_succ];simp
theorem mk_all (h:V.length≤k):vZ T V k=(Fh T 0 V).map Lo:=by
 unfold vZ
 rw [List.take_of_length_le h,show V.length-k=0 by omega];simp
theorem pB {va:Va}(hva:V[k]? = some va):Kq T V k (Lo (Uq T k va))=vZ T V (k+1):=by
 have hlt:=A4 hva
 unfold vZ Kq
 rw [C4 hva,Vs,List.length_take,Nat.min_eq_left (by omega),Nat.zero_add,List.map_append,List.append_assoc,show V.length-(k+1)=V.length-k-1 by omega];rfl
theorem Gn {cur:List AV}(h:cur.length=5):∀e∈Kq T V k cur,e.length=5:=fun e he=>by
 unfold Kq at he
 rcases List.mem_append.1 he with he | he
 · obtain ⟨x,_,rfl⟩:=List.mem_map.1 he;rfl
 ·
  rcases List.mem_cons.1 he with rfl | he
  · exact h
  · rw [(List.mem_replicate.1 he).2];rfl
theorem R8 (h:k<V.length):((Fh T 0 (V.take k)).map Lo).length=k:=by rw [List.length_map,Nq,List.length_take];omega
theorem I5 (h:k<V.length){cur:List AV}:(Kq T V k cur)[k]? = some cur:=by
 unfold Kq
 rw [List.getElem?_append_right (by rw [R8 h];exact Nat.le_refl _),R8 h,Nat.sub_self];rfl
theorem O9 (h:k<V.length){cur x:List AV}:(Kq T V k cur).set k x=Kq T V k x:=by
 unfold Kq
 rw [List.set_append_right _ _ (by rw [R8 h];exact Nat.le_refl _),R8 h,Nat.sub_self];rfl
theorem Sn (l:List Ev):∀e∈l.map Lo,e.length=5:=fun e he=>by obtain ⟨x,_,rfl⟩:=List.mem_map.1 he;rfl
theorem ev_at {l:List Ev}(h:evOK T V l){t:Tm}(ht:tmOK T V t):∃e,l[t.v.toNat]? = some e∧e.values.length=(Ez T V t.v).length:=by
 have hlt:t.v.toNat<l.length:=by have:=ht.v0;have:=ht.v1;have:=h.len;omega
 have hg:=List.getElem?_eq_getElem hlt
 refine ⟨_,hg,?_⟩
 have:=h.vals _ _ hg
 rwa [show ((t.v.toNat:Nat):Int)=t.v by have:=ht.v0;omega] at this
theorem pZ (hst:∀s∈T,Ig s)(v:Int):(Ez T V v).length≤1048576:=by
 unfold Ez
 cases h:T[((V[v.toNat]?).getD va0).type.toNat]? with
 | none=>simp [sc0]
 | some s=>exact (hst s (List.mem_of_getElem? h)).2.1
theorem te_at {ts:List Tm}{t:Tm}{k:Nat}(h:ts[k]? = some t):((ts.map Fx).map G8)[k]? = some (cE (Fx t)):=by
 rw [List.getElem?_map,List.getElem?_map,h];exact congrArg some (Lr _)
theorem cv_set {l:List Ev}{t:Tm}{x:Ev}{n:Int}(hx:l[t.v.toNat]? = some x):((l.map Lo).set t.v.toNat (Lo (pA x t n))).flatten=((L1 l t n).map Lo).flatten:=by
 rw [rZ hx,List.map_set]

def P0 (T:List Sc)(V:List Va)(c:List Lit):List Ev:=Gv (Bs (Bf T V c)).values 0 (B1 T V c).ts (Fh T 0 V)
structure ModOK (T:List Sc) (V:List Va) (c:List Lit):Prop where
 vlen:(Bs (Bf T V c)).values.length=(B1 T V c).ts.length+1
 evl:(P0 T V c).length≤1048576
 kc:∀y∈c,KC T V y.cond
 lit:∀y∈c,((Ck T V y.cond && !Qt T V y)&&(Nh ⟨Gq (P0 T V c),-1,L3⟩ y.cond==y.neg))=false
 valid:∀a∈P0 T V c,Ja T a=0
theorem tC {e:Ex}(h:CondOK T V e){c:List Lit}(hc:c∈(Ce T V e).1)(hok:(Bs (Bf T V c)).ok=true):ModOK T V c:=by
  have hm:=Ub h c hc
  have hF:=h.lits true c hm
  obtain ⟨hev,h1,_,_,_⟩:=Tj h.kc.types h.kc.kok.ty hF hok
  have hvl:=uL h.kc.vars
  refine ⟨h1,?_,fun y hy=>?_,fun y hy=>?_,qF h.kc.types h.kc.kok.ty (by omega) hev⟩
  · unfold P0;rw [aH,Nq];omega
  · obtain ⟨k1,k2⟩:=Ql h.kc true c hm y hy
    exact ⟨k1,h.kc.types,h.kc.vars,k2⟩
  · cases h2:Ck T V y.cond && !Qt T V y with
    | false=>rfl
    | true=>
      rw [Bool.and_eq_true] at h2
      have h3:=nD h hm hok hy h2.1 (by simpa using h2.2)
      rw [Bool.true_and]
      exact beq_eq_false_iff_ne.2 h3
theorem gP {e:Ex}(h:CondOK T V e)(h3:((Ce T V e).2 != 0)=true):((Ce T V e).2==17)=true:=by
 have:=fX h
 rw [Bool.or_eq_true] at this
 refine this.resolve_left fun h4=>?_
 simp at h3 h4
 exact h3 h4
end
set_option maxHeartbeats 1600000
set_option maxRecDepth 20000

theorem Wu (T:List Sc)(V:List Va)(e:Ex)(hk:KOK T V e):Ax Tryz.prog 60 [.agg (Cf T V),.agg (cE e)] (.int .i64 (An T V e)):=by
 refine Ax.body (n:=37) Ah Tryz.func60 rfl rfl rfl fun H=>?_
 refine Ai (Qp (Gd [_,_]) (Qp Kx (Qp Ap (Ag (AW.seq (Ai (Qp Jl (Qp Bp (Ag ?_)))))))))
 refine AW.block (AW.seq (Ai (Qp A9 (Qp Bl (Ag (A6 (fun hc1=>?_) fun hc1=>?_))))))
 ·
  refine By (A6 (fun hc2=>?_) fun hc2=>?_)
  ·
   refine Ai (Qp Jq (Qp Jq (Qp Bp (Qp Ap (Ag (AW.ret (Bb (Aj ?_))))))))
   refine Qr (Iq _) ?_
   first
    | exact Eq.trans rfl (congrArg (fun q:Int=>AV.int .i64 q) hfk).symm
    | (exfalso;simp_all;done)
    | (simp_all [Ae,An];done)
  ·
   refine Ai (Qp A9 (Qp Bl (Ag (A6 (fun hc3=>?_) fun hc3=>?_))))
   ·
    refine AW.seq ?_
    refine (iE hk (eq_of_beq ‹(e.op==1)=true›)).elim fun v hv=>?_
    refine hv.elim fun s hv=>?_
    refine hv.elim fun f hv=>?_
    have hv0:=hv.1
    have hv1:=hv.2.1
    have ht0:=hv.2.2.1
    have ht1:=hv.2.2.2.1
    have hf0:=hv.2.2.2.2.1
    have hf1:=hv.2.2.2.2.2.1
    have hfk:=hv.2.2.2.2.2.2
    refine AW.draw mixed (fun _=>True) trivial (by kernel_rfl) ?_
    refine Qn 0 rfl (Qf [_,_]) (Qn 1 rfl Dy (Qn 2 rfl (Qf [_]) (Qn 3 rfl Dy (Qn 4 rfl Te (Qn 5 rfl Bp ?_)))))
    refine Qn 6 rfl (Af (c:=[.str _,Iq _]) Ah rfl rfl rfl rfl rfl rfl (hv0) (Bi hv1)) ?_
    refine Qn 7 rfl (Qf [Iq _]) (Qn 8 rfl Bp ?_)
    refine Qn 9 rfl (Af (c:=[.str _,_]) Ah rfl rfl rfl rfl rfl rfl (ht0) (Bi ht1)) ?_
    refine Qn 10 rfl (Qf [_]) (Qn 11 rfl Dy (Qn 12 rfl Oq (Qn 13 rfl Bp ?_)))
    refine Qn 14 rfl (Af (c:=[.str _,Iq _]) Ah rfl rfl rfl rfl rfl rfl (hf0) (Bi hf1)) ?_
    refine Qn 15 rfl (Qf [Iq _]) (Qn 16 rfl Bp (Qn 17 rfl Ap ?_))
    refine Jn.done _ _ (by kernel_rfl) ?_
    refine Ad (AW.ret (Bb (Aj ?_)))
    refine Qr (Iq _) ?_
    first
     | exact Eq.trans rfl (congrArg (fun q:Int=>AV.int .i64 q) hfk).symm
     | (exfalso;simp_all;done)
     | (simp_all [Ae,An];done)
   ·
    refine AW.seq (Ai (Qp A9 (Qp Bl (Ag (A6 (fun hc4=>?_) fun hc4=>?_)))))
    ·
     refine By (A6 (fun hc5=>?_) fun hc5=>?_)
     ·
      refine Ai (Qp Ap (Ag (AW.ret (Bb (Aj ?_)))))
      refine Qr (Iq _) ?_
      first
       | exact Eq.trans rfl (congrArg (fun q:Int=>AV.int .i64 q) hfk).symm
       | (exfalso;simp_all;done)
       | (simp_all [Ae,An];done)
     ·
      refine AW.skip (Bu (Ad (Ai (Qp Ap (Ag (AW.ret ?_))))))
      refine Qr (Iq _) ?_
      first
       | exact Eq.trans rfl (congrArg (fun q:Int=>AV.int .i64 q) hfk).symm
       | (exfalso;simp_all;done)
       | (simp_all [Ae,An];done)
    ·
     refine Ai (Qp A9 (Qp Bl (Ag (A6 (fun hc6=>?_) fun hc6=>?_))))
     ·
      refine By (A6 (fun hc7=>?_) fun hc7=>?_)
      ·
       refine Ai (Qp Ap (Ag (AW.ret (Bb (Aj ?_)))))
       refine Qr (Iq _) ?_
       first
        | exact Eq.trans rfl (congrArg (fun q:Int=>AV.int .i64 q) hfk).symm
        | (exfalso;simp_all;done)
        | (simp_all [Ae,An];done)
      ·
       refine AW.skip (Bu (Ad (Ai (Qp Ap (Ag (AW.ret ?_))))))
       refine Qr (Iq _) ?_
       first
        | exact Eq.trans rfl (congrArg (fun q:Int=>AV.int .i64 q) hfk).symm
        | (exfalso;simp_all;done)
        | (simp_all [Ae,An];done)
     ·
      refine Ai (Qp A9 (Qp Bl (Ag (A6 (fun hc8=>?_) fun hc8=>?_))))
      ·
       refine By (A6 (fun hc9=>?_) fun hc9=>?_)
       ·
        refine Ai (Qp Ap (Ag (AW.ret (Bb (Aj ?_)))))
        refine Qr (Iq _) ?_
        first
         | exact Eq.trans rfl (congrArg (fun q:Int=>AV.int .i64 q) hfk).symm
         | (exfalso;simp_all;done)
         | (simp_all [Ae,An];done)
       ·
        refine AW.skip (Bu (Ad (Ai (Qp Ap (Ag (AW.ret ?_))))))
        refine Qr (Iq _) ?_
        first
         | exact Eq.trans rfl (congrArg (fun q:Int=>AV.int .i64 q) hfk).symm
         | (exfalso;simp_all;done)
         | (simp_all [Ae,An];done)
      ·
       refine AW.region (Qp A9 (Qp Bl (Ag (A6 (fun hc10=>?_) fun hc10=>?_))))
       ·
        refine Ai (Qp Ap (Ag (AW.ret (Bb (Aj ?_)))))
        refine Qr (Iq _) ?_
        first
         | exact Eq.trans rfl (congrArg (fun q:Int=>AV.int .i64 q) hfk).symm
         | (exfalso;simp_all;done)
         | (simp_all [Ae,An];done)
       ·
        refine AW.skip (Bu (Ad (Ai (Qp Ap (Ag (AW.ret ?_))))))
        refine Qr (Iq _) ?_
        first
         | exact Eq.trans rfl (congrArg (fun q:Int=>AV.int .i64 q) hfk).symm
         | (exfalso;simp_all;done)
         | (simp_all [Ae,An];done)
 ·
  refine AW.region (Qp A9 (Qp Bl (Ag (A6 (fun hc11=>?_) fun hc11=>?_))))
  ·
   refine Ai (Qp Jq (Qp Jq (Qp Bp (Qp Ap (Ag (AW.ret (Bb (Aj ?_))))))))
   refine Qr (Iq _) ?_
   first
    | exact Eq.trans rfl (congrArg (fun q:Int=>AV.int .i64 q) hfk).symm
    | (exfalso;simp_all;done)
    | (simp_all [Ae,An];done)
  ·
   refine Ai (Qp A9 (Qp Bl (Ag (A6 (fun hc12=>?_) fun hc12=>?_))))
   ·
    refine AW.seq ?_
    refine (iE hk (eq_of_beq ‹(e.op==1)=true›)).elim fun v hv=>?_
    refine hv.elim fun s hv=>?_
    refine hv.elim fun f hv=>?_
    have hv0:=hv.1
    have hv1:=hv.2.1
    have ht0:=hv.2.2.1
    have ht1:=hv.2.2.2.1
    have hf0:=hv.2.2.2.2.1
    have hf1:=hv.2.2.2.2.2.1
    have hfk:=hv.2.2.2.2.2.2
    refine AW.draw mixed (fun _=>True) trivial (by kernel_rfl) ?_
    refine Qn 0 rfl (Qf [_,_]) (Qn 1 rfl Dy (Qn 2 rfl (Qf [_]) (Qn 3 rfl Dy (Qn 4 rfl Te (Qn 5 rfl Bp ?_)))))
    refine Qn 6 rfl (Af (c:=[.str _,Iq _]) Ah rfl rfl rfl rfl rfl rfl (hv0) (Bi hv1)) ?_
    refine Qn 7 rfl (Qf [Iq _]) (Qn 8 rfl Bp ?_)
    refine Qn 9 rfl (Af (c:=[.str _,_]) Ah rfl rfl rfl rfl rfl rfl (ht0) (Bi ht1)) ?_
    refine Qn 10 rfl (Qf [_]) (Qn 11 rfl Dy (Qn 12 rfl Oq (Qn 13 rfl Bp ?_)))
    refine Qn 14 rfl (Af (c:=[.str _,Iq _]) Ah rfl rfl rfl rfl rfl rfl (hf0) (Bi hf1)) ?_
    refine Qn 15 rfl (Qf [Iq _]) (Qn 16 rfl Bp (Qn 17 rfl Ap ?_))
    refine Jn.done _ _ (by kernel_rfl) ?_
    refine Ad (AW.ret (Bb (Aj ?_)))
    refine Qr (Iq _) ?_
    first
     | exact Eq.trans rfl (congrArg (fun q:Int=>AV.int .i64 q) hfk).symm
     | (exfalso;simp_all;done)
     | (simp_all [Ae,An];done)
   ·
    refine AW.seq (Ai (Qp A9 (Qp Bl (Ag (A6 (fun hc13=>?_) fun hc13=>?_)))))
    ·
     refine By (A6 (fun hc14=>?_) fun hc14=>?_)
     ·
      refine Ai (Qp Ap (Ag (AW.ret (Bb (Aj ?_)))))
      refine Qr (Iq _) ?_
      first
       | exact Eq.trans rfl (congrArg (fun q:Int=>AV.int .i64 q) hfk).symm
       | (exfalso;simp_all;done)
       | (simp_all [Ae,An];done)
     ·
      refine AW.skip (Bu (Ad (Ai (Qp Ap (Ag (AW.ret ?_))))))
      refine Qr (Iq _) ?_
      first
       | exact Eq.trans rfl (congrArg (fun q:Int=>AV.int .i64 q) hfk).symm
       | (exfalso;simp_all;done)
       | (simp_all [Ae,An];done)
    ·
     refine Ai (Qp A9 (Qp Bl (Ag (A6 (fun hc15=>?_) fun hc15=>?_))))
     ·
      refine By (A6 (fun hc16=>?_) fun hc16=>?_)
      ·
       refine Ai (Qp Ap (Ag (AW.ret (Bb (Aj ?_)))))
       refine Qr (Iq _) ?_
       first
        | exact Eq.trans rfl (congrArg (fun q:Int=>AV.int .i64 q) hfk).symm
        | (exfalso;simp_all;done)
        | (simp_all [Ae,An];done)
      ·
       refine AW.skip (Bu (Ad (Ai (Qp Ap (Ag (AW.ret ?_))))))
       refine Qr (Iq _) ?_
       first
        | exact Eq.trans rfl (congrArg (fun q:Int=>AV.int .i64 q) hfk).symm
        | (exfalso;simp_all;done)
        | (simp_all [Ae,An];done)
     ·
      refine Ai (Qp A9 (Qp Bl (Ag (A6 (fun hc17=>?_) fun hc17=>?_))))
      ·
       refine By (A6 (fun hc18=>?_) fun hc18=>?_)
       ·
        refine Ai (Qp Ap (Ag (AW.ret (Bb (Aj ?_)))))
        refine Qr (Iq _) ?_
        first
         | exact Eq.trans rfl (congrArg (fun q:Int=>AV.int .i64 q) hfk).symm
         | (exfalso;simp_all;done)
         | (simp_all [Ae,An];done)
       ·
        refine AW.skip (Bu (Ad (Ai (Qp Ap (Ag (AW.ret ?_))))))
        refine Qr (Iq _) ?_
        first
         | exact Eq.trans rfl (congrArg (fun q:Int=>AV.int .i64 q) hfk).symm
         | (exfalso;simp_all;done)
         | (simp_all [Ae,An];done)
      ·
       refine AW.region (Qp A9 (Qp Bl (Ag (A6 (fun hc19=>?_) fun hc19=>?_))))
       ·
        refine Ai (Qp Ap (Ag (AW.ret (Bb (Aj ?_)))))
        refine Qr (Iq _) ?_
        first
         | exact Eq.trans rfl (congrArg (fun q:Int=>AV.int .i64 q) hfk).symm
         | (exfalso;simp_all;done)
         | (simp_all [Ae,An];done)
       ·
        refine AW.skip (Bu (Ad (Ai (Qp Ap (Ag (AW.ret ?_))))))
        refine Qr (Iq _) ?_
        first
         | exact Eq.trans rfl (congrArg (fun q:Int=>AV.int .i64 q) hfk).symm
         | (exfalso;simp_all;done)
         | (simp_all [Ae,An];done)
theorem V2 (e:Ex):Ax Tryz.prog 90 [.agg (cE e)] (.bool (Cb e)):=by
 refine Ax.body (n:=16) Ah Tryz.func90 rfl rfl rfl fun H=>?_
 refine Ai (Qp Kx (Qp Bl (Dm (Qp Jl (Qp Bp (Qp A9 (Qp B0 (Qg [] Qw Jl (Qg [(7,_)] Qw Bp ?_)))))))))
 refine Qg [(8,_)] Qw A9 (Qp E1 (Qp B0 (Qg [] Qw Jl (Qg [(12,_)] Qw Bp (Qg [(13,_)] Qw A9 (Qp E1 (Qp Bl (Ag (AW.ret ?_)))))))))
 refine Qr (.bool _) ?_
 rfl
theorem uK (t:Tm):Ax Tryz.prog 37 [.agg (Hw t)] (.agg (cE (Fx t))):=by
 refine Ax.body (n:=10) Ah Tryz.func37 rfl rfl rfl fun H=>?_
 refine Ai (Qp (Gd [Iq _,Iq _,Iq _]) ?_)
 refine Qe (Ak (l:=[.int .i64 0,.sl 8 [],.int .i64 0,.int .i64 0,.int .i64 0,.int .i64 0,.int .i64 0,.str []]) (by kernel_rfl)) ?_
 rintro _ _ ⟨b2,rfl,rfl⟩
 refine Dm (Qp (Qf [Iq _,Iq _,Iq _]) (Qp Bp (Qp (Qf [Iq _,Iq _]) (Qp Bp (Qp (Qf [Iq _]) (Qp Bp (Qp (Fz [Iq _,_,Iq _,Iq _,Iq _,Iq _,Iq _,.str _]) ?_)))))))
 refine Cv 0 [Iq _,_,Iq _,Iq _,Iq _,Iq _,Iq _,.str _] (_::_) ?_
 refine Ag (AW.ret ?_)
 refine ⟨.inr rfl,[.agg [Iq _,_,Iq _,Iq _,Iq _,Iq _,Iq _,.str _]],.cons (.box _ _ _ 0 _ _ _ _ rfl rfl rfl rfl rfl rfl) <| .nil,.cons _ (.refl _),?_⟩
 rfl
theorem fY (e:Ex):Ax Tryz.prog 89 [.agg (cE e)] (.bool (Lq e)):=by
 refine Ax.body (n:=11) Ah Tryz.func89 rfl rfl rfl fun H=>?_
 refine Ai (Qp Kx (Qp Bl (Dm (Qp Jl (Qp Bp (Qp A9 (Qp B0 (Qg [] Qw Jl (Qg [(7,_)] Qw Bp ?_)))))))))
 refine Qg [(8,_)] Qw A9 (Qp E1 (Qp Bl (Ag (AW.ret ?_))))
 refine Qr (.bool _) ?_
 rfl
theorem Yx (e:Ex):Ax Tryz.prog 50 [.agg (cE e)] (.bool (Lq e)):=by
 refine Ax.body (n:=11) Ah Tryz.func50 rfl rfl rfl fun H=>?_
 refine Ai (Qp Kx (Qp Bl (Dm (Qp Jl (Qp Bp (Qp A9 (Qp B0 (Qg [] Qw Jl (Qg [(7,_)] Qw Bp ?_)))))))))
 refine Qg [(8,_)] Qw A9 (Qp E1 (Qp Bl (Ag (AW.ret ?_))))
 refine Qr (.bool _) ?_
 rfl
theorem r_kind (T:List Sc)(hl:T.length≤1048576)(hst:∀s∈T,Ig s)(V:List Va)(hvl:V.length≤1048576)(e:Ex)(hse:Ar e≤1048576):Ax Tryz.prog 49 [.sl 2 (T.map Ob),.sl 2 (V.map S4),.agg (cE e)] (.int .i64 (Cn T V e).1):=by
 refine Ax.body (n:=17) Ah Tryz.func49 rfl rfl rfl fun H=>?_
 refine Ai (Qp Kx (Qp Ap (Dm (Qp Dx (Qp Dx (Qp El ?_))))))
 refine Qp (Qc rfl (c32 T hl hst V hvl e hse)) ?_
 refine Qp N6 (Qp Ke (Qp Ke (Qp Ap (Qp Ap (Dm (Qp Az (Qp Ap (Ag (AW.ret ?_)))))))))
 refine Qr (Iq _) ?_
 rfl
theorem cU (T:List Sc)(hl:T.length≤1048576)(hst:∀s∈T,Ig s)(V:List Va)(hvl:V.length≤1048576)(e:Ex)(hse:Ar e≤1048576):Ax Tryz.prog 26 [.sl 2 (T.map Ob),.sl 2 (V.map S4),.agg (cE e)] (.int .i64 (D1 T V e)):=by
 refine Ax.body (n:=21) Ah Tryz.func26 rfl rfl rfl fun H=>?_
 refine Ai (Qp Kx (Qp Ap (Dm (Qp Dx (Qp Dx (Qp El ?_))))))
 refine Qp (Qc rfl (c32 T hl hst V hvl e hse)) ?_
 refine Qp N6 (Qp Ke (Qp Ke (Qp Ap (Qp Ap (Ag (AW.seq (Ai (Qp Az (Qp Cr ?_)))))))))
 refine Ag (A6 (fun hc1=>?_) fun hc1=>?_)
 ·
  refine Ai (Qp Az (Qp Ap (Ag (Dw ?_))))
  refine Qr (Iq _) ?_
  exact Eq.trans rfl (congrArg (fun q:Int=>AV.int .i64 q) (kU hc1)).symm
 ·
  refine By (AW.seq (Ai (Qp Az (Qp Cr (Ag (A6 (fun hc2=>?_) fun hc2=>?_))))))
  ·
   refine Ai (Qp Ap (Ag (Dw ?_)))
   refine Qr (Iq _) ?_
   exact Eq.trans rfl (congrArg (fun q:Int=>AV.int .i64 q) (lJ hc1 hc2)).symm
  ·
   refine By (Ai (Qp Ap (Ag (AW.ret ?_))))
   refine Qr (Iq _) ?_
   exact Eq.trans rfl (congrArg (fun q:Int=>AV.int .i64 q) (lK hc1 hc2)).symm
theorem Oo (T:List Sc)(hl:T.length≤1048576)(hst:∀s∈T,Ig s)(V:List Va)(hvl:V.length≤1048576)(e:Ex)(hse:Ar e≤1048576):Ax Tryz.prog 27 [.agg (Cf T V),.agg (cE e)] (.int .i64 (D1 T V e)):=by
 refine Ax.body (n:=21) Ah Tryz.func27 rfl rfl rfl fun H=>?_
 refine Ai (Qp (Gd [_,_]) (Qp Kx (Qp Ap (Dm (Qp (Qf [_,_]) (Qp Dy (Qp (Qf [_]) (Qp Dy (Qp El ?_)))))))))
 refine Qp (Qc rfl (c31 T hl hst V hvl e hse)) ?_
 refine Qp N6 (Qp Ke (Qp Ke (Qp Ap (Qp Ap (Ag (AW.seq (Ai (Qp Az (Qp Cr ?_)))))))))
 refine Ag (A6 (fun hc1=>?_) fun hc1=>?_)
 ·
  refine Ai (Qp Az (Qp Ap (Ag (Dw ?_))))
  refine Qr (Iq _) ?_
  exact Eq.trans rfl (congrArg (fun q:Int=>AV.int .i64 q) (kU hc1)).symm
 ·
  refine By (AW.seq (Ai (Qp Az (Qp Cr (Ag (A6 (fun hc2=>?_) fun hc2=>?_))))))
  ·
   refine Ai (Qp Ap (Ag (Dw ?_)))
   refine Qr (Iq _) ?_
   exact Eq.trans rfl (congrArg (fun q:Int=>AV.int .i64 q) (lJ hc1 hc2)).symm
  ·
   refine By (Ai (Qp Ap (Ag (AW.ret ?_))))
   refine Qr (Iq _) ?_
   exact Eq.trans rfl (congrArg (fun q:Int=>AV.int .i64 q) (lK hc1 hc2)).symm
theorem R4 (T:List Sc)(V:List Va)(e:Ex)(hk:KOK T V e):Ax Tryz.prog 91 [.agg (Cf T V),.agg (cE e)] (.bool (Dl T V e)):=by
 refine Ax.body (n:=17) Ah Tryz.func91 rfl rfl rfl fun H=>?_
 refine Ai (Qp (Gd [_,_]) (Qp Kx (Qp Bl (Ag (AW.seq ?_)))))
 refine AW.draw mixed (fun _=>True) trivial (by kernel_rfl) ?_
 refine Qn 0 rfl Jl (Qn 1 rfl Bp (Qn 2 rfl A9 (Qn 3 rfl B0 (Qo 4 rfl [] Qw (Cq [_,_]) (Qo 5 rfl [] Qw Lp (Qo 6 rfl [(10,_)] Qw Dy ?_))))))
 refine Jn.pure _ _ 7 _ _ rfl (by kernel_rfl) (by kernel_rfl) rfl (.opt _ (.ptr _) [(11,_)] rfl (nC.all ⟨Ent.Aam _ _,trivial⟩) (fun hG=>Af (c:=[Iq _,_,Iq _,Iq _,Iq _,Iq _,Iq _,.str _]) Ah rfl rfl rfl rfl rfl rfl (by decide) (E4 (Nat.lt_of_succ_lt (g9 hk hG)))) rfl) ?_
 refine Qo 8 rfl [(12,_)] Qw El ?_
 refine Jn.pure _ _ 9 _ _ rfl (by kernel_rfl) (by kernel_rfl) rfl (.opt _ (Iq _) [(9,_),(13,_)] rfl (nC.all ⟨Ent.Aam _ _,Ent.Aam _ _,trivial⟩) (fun hG=>E3 (by kernel_rfl) rfl rfl (Wu T V _ (A2 hk (A0 (Nat.lt_of_succ_lt (g9 hk hG)))))) rfl) ?_
 refine Qo 10 rfl [(14,_)] Qw A9 (Qn 11 rfl F7 (Qn 12 rfl Bl ?_))
 refine Jn.done _ _ (by kernel_rfl) ?_
 refine Ad (AW.ret ?_)
 refine Qr (.bool _) ?_
 rfl
theorem iM (T:List Sc)(V:List Va)(e:Ex)(hk:KOK T V e):Ax Tryz.prog 56 [.agg (Cf T V),.agg (cE e)] (.bool (C6 T V e)):=by
 refine Ax.body (n:=21) Ah Tryz.func56 rfl rfl rfl fun H=>?_
 refine Ai (Qp (Gd [_,_]) (Qp Kx (Qp Bl (Ag (AW.seq (Ai (Qp Jl (Qp Bp (Ag ?_)))))))))
 refine AW.block (Ai (Qp A9 (Qp Bl (Ag (A6 (fun hc1=>?_) fun hc1=>?_)))))
 ·
  refine AW.seq ?_
  have h2:=l9 hk ‹(e.op==9)=true›
  have h00:0<e.args.length:=by omega
  refine AW.draw mixed (fun _=>True) trivial (by kernel_rfl) ?_
  refine Qn 0 rfl (Cq [_,_]) (Qn 1 rfl Lp (Qn 2 rfl Dy ?_))
  refine Qn 3 rfl (Af (c:=[Iq _,_,Iq _,Iq _,Iq _,Iq _,Iq _,.str _]) Ah rfl rfl rfl rfl rfl rfl (by decide) (E4 h00)) ?_
  refine Qn 4 rfl El ?_
  refine Qn 5 rfl (Qc rfl (Wu T V _ (A2 hk (A0 h00)))) ?_
  refine Qn 6 rfl A9 (Qn 7 rfl Bl ?_)
  refine Jn.done _ _ (by kernel_rfl) ?_
  refine Ad (AW.ret (Bb (Aj ?_)))
  refine Qr (.bool _) ?_
  first
   | (exfalso;simp_all;done)
   | (simp_all [Ae,C6];done)
 ·
  refine AW.seq (Ai (Qp A9 (Qp Bl (Ag (A6 (fun hc2=>?_) fun hc2=>?_)))))
  ·
   refine By (A6 (fun hc3=>?_) fun hc3=>?_)
   ·
    refine Ai (Qp Bl (Ag (AW.ret (Bb (Aj ?_)))))
    refine Qr (.bool _) ?_
    first
     | (exfalso;simp_all;done)
     | (simp_all [Ae,C6];done)
   ·
    refine AW.skip (Bu (Ad (Ai (Qp Bl (Ag (AW.ret ?_))))))
    refine Qr (.bool _) ?_
    first
     | (exfalso;simp_all;done)
     | (simp_all [Ae,C6];done)
  ·
   refine Ai (Qp A9 (Qp Bl (Ag (A6 (fun hc4=>?_) fun hc4=>?_))))
   ·
    refine By (A6 (fun hc5=>?_) fun hc5=>?_)
    ·
     refine Ai (Qp Bl (Ag (AW.ret (Bb (Aj ?_)))))
     refine Qr (.bool _) ?_
     first
      | (exfalso;simp_all;done)
      | (simp_all [Ae,C6];done)
    ·
     refine AW.skip (Bu (Ad (Ai (Qp Bl (Ag (AW.ret ?_))))))
     refine Qr (.bool _) ?_
     first
      | (exfalso;simp_all;done)
      | (simp_all [Ae,C6];done)
   ·
    refine Ai (Qp A9 (Qp Bl (Ag (A6 (fun hc6=>?_) fun hc6=>?_))))
    ·
     refine By (A6 (fun hc7=>?_) fun hc7=>?_)
     ·
      refine Ai (Qp Bl (Ag (AW.ret (Bb (Aj ?_)))))
      refine Qr (.bool _) ?_
      first
       | (exfalso;simp_all;done)
       | (simp_all [Ae,C6];done)
     ·
      refine AW.skip (Bu (Ad (Ai (Qp Bl (Ag (AW.ret ?_))))))
      refine Qr (.bool _) ?_
      first
       | (exfalso;simp_all;done)
       | (simp_all [Ae,C6];done)
    ·
     refine AW.region (Qp A9 (Qp Bl (Ag (A6 (fun hc8=>?_) fun hc8=>?_))))
     ·
      refine Ai (Qp Bl (Ag (AW.ret (Bb (Aj ?_)))))
      refine Qr (.bool _) ?_
      first
       | (exfalso;simp_all;done)
       | (simp_all [Ae,C6];done)
     ·
      refine AW.skip (Bu (Ad (Ai (Qp Bl (Ag (AW.ret ?_))))))
      refine Qr (.bool _) ?_
      first
       | (exfalso;simp_all;done)
       | (simp_all [Ae,C6];done)

end Go.Proofs.YtjedflcpjlgokaaGreatDoor
