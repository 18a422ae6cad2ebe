/-
  Several texts in one: S55, S56, Y3. No condition.
-/
import Derived.Test.YtjedflcpjlgokaaGreatDoorK26
import Derived.Test.YtjedflcpjlgokaaGreatDoorK21
import Derived.Test.YtjedflcpjlgokaaGreatDoorAz
import Derived.Test.YtjedflcpjlgokaaGreatDoorK14
import Derived.KernelRfl
set_option linter.unusedVariables false
set_option linter.unusedSimpArgs false
namespace Go.Proofs.YtjedflcpjlgokaaGreatDoor
open Go Go.Aw
set_option maxRecDepth 100000

def fld0 (v:Int):Ex:=⟨1,[],v,0,0,v0⟩
def Rt (op a b n:Int):Ex:=two op (fld0 a) (two 5 (fld0 b) (My ⟨0,n,[]⟩))
def plT:List Sc:=[⟨[116],[⟨[120],0⟩]⟩]
def plV:List Va:=[⟨[97],0⟩,⟨[98],0⟩]
def plW (k:Nat):Int:=if k<2 then 2 else 1
def plB (k:Nat):Bool:=(Bz plT plV [Rt 7 0 1 0,Rt 7 1 0 (k:Int)]).2.2==0&&(Bz plT plV [Rt 7 0 1 0,Rt 7 1 0 (k:Int)]).1==plW k
theorem pl_0:plB 0=true:=by kernel_rfl
theorem pl_1:plB 1=true:=by kernel_rfl
theorem pl_2:plB 2=true:=by kernel_rfl
theorem pl_k {k:Nat}(h:k<3):(Bz plT plV [Rt 7 0 1 0,Rt 7 1 0 (k:Int)]).2.2=0∧(Bz plT plV [Rt 7 0 1 0,Rt 7 1 0 (k:Int)]).1=plW k:=by
 have h1:plB k=true:=by
  have:k=0∨k=1∨k=2:=by omega
  rcases this with rfl | rfl | rfl
  · exact pl_0
  · exact pl_1
  · exact pl_2
 unfold plB at h1
 rw [Bool.and_eq_true] at h1
 exact ⟨by simpa using h1.1,by simpa using h1.2⟩
theorem pl_sc:∀s∈plT,J4 s:=by
 intro s hs
 rw [List.mem_singleton.1 hs]
 exact ⟨by decide,by decide,by decide⟩
theorem lP (op a b n:Int):At (Rt op a b n)≤1048576:=by
 have:At (Rt op a b n)=5:=by simp [Rt,two,fld0,My,Ek]
 omega
def Ly (T:List Sc)(V:List Va)(es:List Ex):Bool:=
 if es.any (fun e=>!xB e) then false
 else if !fR T||decide (8<(V.length:Int)) then false
 else !(es.any fun e=>Fg T V e != 0)
theorem iR {T:List Sc}{V:List Va}{es:List Ex}(h:Ly T V es=true):∀e∈es,CondOK T V e:=fun e he=>by
  unfold Ly at h
  cases h1:es.any (fun e=>!xB e) with
  | true=>rw [if_pos h1] at h;cases h
  | false=>
    rw [C3 h1] at h
    cases h2:(!fR T||decide (8<(V.length:Int))) with
    | true=>rw [if_pos h2] at h;cases h
    | false=>
      rw [C3 h2,Bool.not_eq_true'] at h
      have:=List.any_eq_false.1 h e he
      exact xZ (by simpa using this)
def setE (x:Ev)(t:Tm)(n:Int):Ev:=if t.op==2 then { x with time:=n } else Uh x t.field.toNat fun y=>{ y with num:=n }
section
variable {T:List Sc} {V:List Va}
def decGo (T:List Sc)(V:List Va)(l:List (List Lit)):Bool:=l.any fun c=>(Dr (Cy T V c)).ok
end

def idxS {α:Type}(p:α→Bool):List α→Int
 | []=>-1
 | a::r=>if p a then 0 else if idxS p r<0 then -1 else idxS p r+1
section
variable {T:List Sc} {V:List Va} {y:Lit}
end
section
variable {z:Zn} {l:List Int}
end
set_option maxHeartbeats 1600000
set_option maxRecDepth 20000

theorem gV (T:List Sc)(V:List Va)(e:Ex)(hk:KOK T V e):Ax Tryz.prog 60 [.agg (Cw T V),.agg (cE e)] (.int .i64 (Ak T V e)):=by
 refine Ax.body (n:=37) Ai Tryz.func60 rfl rfl rfl fun H=>?_
 refine Ah (Qp (Gd [_,_]) (Qp Nc (Qp Ar (Ag (AW.seq (Ah (Qp K9 (Qp Bp (Ag ?_)))))))))
 refine AW.block (AW.seq (Ah (Qp A6 (Qp Bm (Ag (A3 (fun hc1=>?_) fun hc1=>?_))))))
 ·
  refine By (A3 (fun hc2=>?_) fun hc2=>?_)
  ·
   refine Ah (Qp J2 (Qp J2 (Qp Bp (Qp Ar (Ag (AW.ret (A7 (Aj ?_))))))))
   refine Qr (Iq _) ?_
   first
    | exact Eq.trans rfl (congrArg (fun q:Int=>AV.int .i64 q) hfk).symm
    | (exfalso;simp_all;done)
    | (simp_all [Ad,Ak];done)
  ·
   refine Ah (Qp A6 (Qp Bm (Ag (A3 (fun hc3=>?_) fun hc3=>?_))))
   ·
    refine AW.seq ?_
    refine (jQ hk (eq_of_beq ‹(e.op==1)=true›)).elim fun v hv=>?_
    refine hv.elim fun s hv=>?_
    refine hv.elim fun f hv=>?_
    have hv0:=hv.1
    have hv1:=hv.2.1
    have ht0:=hv.2.2.1
    have ht1:=hv.2.2.2.1
    have hf0:=hv.2.2.2.2.1
    have hf1:=hv.2.2.2.2.2.1
    have hfk:=hv.2.2.2.2.2.2
    refine AW.draw mixed (fun _=>True) trivial (by kernel_rfl) ?_
    refine Qn 0 rfl (Qf [_,_]) (Qn 1 rfl Ee (Qn 2 rfl (Qf [_]) (Qn 3 rfl Ee (Qn 4 rfl Xs (Qn 5 rfl Bp ?_)))))
    refine Qn 6 rfl (Af (c:=[.str _,Iq _]) Ai rfl rfl rfl rfl rfl rfl (hv0) (Bo hv1)) ?_
    refine Qn 7 rfl (Qf [Iq _]) (Qn 8 rfl Bp ?_)
    refine Qn 9 rfl (Af (c:=[.str _,_]) Ai rfl rfl rfl rfl rfl rfl (ht0) (Bo ht1)) ?_
    refine Qn 10 rfl (Qf [_]) (Qn 11 rfl Ee (Qn 12 rfl Qv (Qn 13 rfl Bp ?_)))
    refine Qn 14 rfl (Af (c:=[.str _,Iq _]) Ai rfl rfl rfl rfl rfl rfl (hf0) (Bo hf1)) ?_
    refine Qn 15 rfl (Qf [Iq _]) (Qn 16 rfl Bp (Qn 17 rfl Ar ?_))
    refine Jb.done _ _ (by kernel_rfl) ?_
    refine Ae (AW.ret (A7 (Aj ?_)))
    refine Qr (Iq _) ?_
    first
     | exact Eq.trans rfl (congrArg (fun q:Int=>AV.int .i64 q) hfk).symm
     | (exfalso;simp_all;done)
     | (simp_all [Ad,Ak];done)
   ·
    refine AW.seq (Ah (Qp A6 (Qp Bm (Ag (A3 (fun hc4=>?_) fun hc4=>?_)))))
    ·
     refine By (A3 (fun hc5=>?_) fun hc5=>?_)
     ·
      refine Ah (Qp Ar (Ag (AW.ret (A7 (Aj ?_)))))
      refine Qr (Iq _) ?_
      first
       | exact Eq.trans rfl (congrArg (fun q:Int=>AV.int .i64 q) hfk).symm
       | (exfalso;simp_all;done)
       | (simp_all [Ad,Ak];done)
     ·
      refine AW.skip (Bv (Ae (Ah (Qp Ar (Ag (AW.ret ?_))))))
      refine Qr (Iq _) ?_
      first
       | exact Eq.trans rfl (congrArg (fun q:Int=>AV.int .i64 q) hfk).symm
       | (exfalso;simp_all;done)
       | (simp_all [Ad,Ak];done)
    ·
     refine Ah (Qp A6 (Qp Bm (Ag (A3 (fun hc6=>?_) fun hc6=>?_))))
     ·
      refine By (A3 (fun hc7=>?_) fun hc7=>?_)
      ·
       refine Ah (Qp Ar (Ag (AW.ret (A7 (Aj ?_)))))
       refine Qr (Iq _) ?_
       first
        | exact Eq.trans rfl (congrArg (fun q:Int=>AV.int .i64 q) hfk).symm
        | (exfalso;simp_all;done)
        | (simp_all [Ad,Ak];done)
      ·
       refine AW.skip (Bv (Ae (Ah (Qp Ar (Ag (AW.ret ?_))))))
       refine Qr (Iq _) ?_
       first
        | exact Eq.trans rfl (congrArg (fun q:Int=>AV.int .i64 q) hfk).symm
        | (exfalso;simp_all;done)
        | (simp_all [Ad,Ak];done)
     ·
      refine Ah (Qp A6 (Qp Bm (Ag (A3 (fun hc8=>?_) fun hc8=>?_))))
      ·
       refine By (A3 (fun hc9=>?_) fun hc9=>?_)
       ·
        refine Ah (Qp Ar (Ag (AW.ret (A7 (Aj ?_)))))
        refine Qr (Iq _) ?_
        first
         | exact Eq.trans rfl (congrArg (fun q:Int=>AV.int .i64 q) hfk).symm
         | (exfalso;simp_all;done)
         | (simp_all [Ad,Ak];done)
       ·
        refine AW.skip (Bv (Ae (Ah (Qp Ar (Ag (AW.ret ?_))))))
        refine Qr (Iq _) ?_
        first
         | exact Eq.trans rfl (congrArg (fun q:Int=>AV.int .i64 q) hfk).symm
         | (exfalso;simp_all;done)
         | (simp_all [Ad,Ak];done)
      ·
       refine AW.region (Qp A6 (Qp Bm (Ag (A3 (fun hc10=>?_) fun hc10=>?_))))
       ·
        refine Ah (Qp Ar (Ag (AW.ret (A7 (Aj ?_)))))
        refine Qr (Iq _) ?_
        first
         | exact Eq.trans rfl (congrArg (fun q:Int=>AV.int .i64 q) hfk).symm
         | (exfalso;simp_all;done)
         | (simp_all [Ad,Ak];done)
       ·
        refine AW.skip (Bv (Ae (Ah (Qp Ar (Ag (AW.ret ?_))))))
        refine Qr (Iq _) ?_
        first
         | exact Eq.trans rfl (congrArg (fun q:Int=>AV.int .i64 q) hfk).symm
         | (exfalso;simp_all;done)
         | (simp_all [Ad,Ak];done)
 ·
  refine AW.region (Qp A6 (Qp Bm (Ag (A3 (fun hc11=>?_) fun hc11=>?_))))
  ·
   refine Ah (Qp J2 (Qp J2 (Qp Bp (Qp Ar (Ag (AW.ret (A7 (Aj ?_))))))))
   refine Qr (Iq _) ?_
   first
    | exact Eq.trans rfl (congrArg (fun q:Int=>AV.int .i64 q) hfk).symm
    | (exfalso;simp_all;done)
    | (simp_all [Ad,Ak];done)
  ·
   refine Ah (Qp A6 (Qp Bm (Ag (A3 (fun hc12=>?_) fun hc12=>?_))))
   ·
    refine AW.seq ?_
    refine (jQ hk (eq_of_beq ‹(e.op==1)=true›)).elim fun v hv=>?_
    refine hv.elim fun s hv=>?_
    refine hv.elim fun f hv=>?_
    have hv0:=hv.1
    have hv1:=hv.2.1
    have ht0:=hv.2.2.1
    have ht1:=hv.2.2.2.1
    have hf0:=hv.2.2.2.2.1
    have hf1:=hv.2.2.2.2.2.1
    have hfk:=hv.2.2.2.2.2.2
    refine AW.draw mixed (fun _=>True) trivial (by kernel_rfl) ?_
    refine Qn 0 rfl (Qf [_,_]) (Qn 1 rfl Ee (Qn 2 rfl (Qf [_]) (Qn 3 rfl Ee (Qn 4 rfl Xs (Qn 5 rfl Bp ?_)))))
    refine Qn 6 rfl (Af (c:=[.str _,Iq _]) Ai rfl rfl rfl rfl rfl rfl (hv0) (Bo hv1)) ?_
    refine Qn 7 rfl (Qf [Iq _]) (Qn 8 rfl Bp ?_)
    refine Qn 9 rfl (Af (c:=[.str _,_]) Ai rfl rfl rfl rfl rfl rfl (ht0) (Bo ht1)) ?_
    refine Qn 10 rfl (Qf [_]) (Qn 11 rfl Ee (Qn 12 rfl Qv (Qn 13 rfl Bp ?_)))
    refine Qn 14 rfl (Af (c:=[.str _,Iq _]) Ai rfl rfl rfl rfl rfl rfl (hf0) (Bo hf1)) ?_
    refine Qn 15 rfl (Qf [Iq _]) (Qn 16 rfl Bp (Qn 17 rfl Ar ?_))
    refine Jb.done _ _ (by kernel_rfl) ?_
    refine Ae (AW.ret (A7 (Aj ?_)))
    refine Qr (Iq _) ?_
    first
     | exact Eq.trans rfl (congrArg (fun q:Int=>AV.int .i64 q) hfk).symm
     | (exfalso;simp_all;done)
     | (simp_all [Ad,Ak];done)
   ·
    refine AW.seq (Ah (Qp A6 (Qp Bm (Ag (A3 (fun hc13=>?_) fun hc13=>?_)))))
    ·
     refine By (A3 (fun hc14=>?_) fun hc14=>?_)
     ·
      refine Ah (Qp Ar (Ag (AW.ret (A7 (Aj ?_)))))
      refine Qr (Iq _) ?_
      first
       | exact Eq.trans rfl (congrArg (fun q:Int=>AV.int .i64 q) hfk).symm
       | (exfalso;simp_all;done)
       | (simp_all [Ad,Ak];done)
     ·
      refine AW.skip (Bv (Ae (Ah (Qp Ar (Ag (AW.ret ?_))))))
      refine Qr (Iq _) ?_
      first
       | exact Eq.trans rfl (congrArg (fun q:Int=>AV.int .i64 q) hfk).symm
       | (exfalso;simp_all;done)
       | (simp_all [Ad,Ak];done)
    ·
     refine Ah (Qp A6 (Qp Bm (Ag (A3 (fun hc15=>?_) fun hc15=>?_))))
     ·
      refine By (A3 (fun hc16=>?_) fun hc16=>?_)
      ·
       refine Ah (Qp Ar (Ag (AW.ret (A7 (Aj ?_)))))
       refine Qr (Iq _) ?_
       first
        | exact Eq.trans rfl (congrArg (fun q:Int=>AV.int .i64 q) hfk).symm
        | (exfalso;simp_all;done)
        | (simp_all [Ad,Ak];done)
      ·
       refine AW.skip (Bv (Ae (Ah (Qp Ar (Ag (AW.ret ?_))))))
       refine Qr (Iq _) ?_
       first
        | exact Eq.trans rfl (congrArg (fun q:Int=>AV.int .i64 q) hfk).symm
        | (exfalso;simp_all;done)
        | (simp_all [Ad,Ak];done)
     ·
      refine Ah (Qp A6 (Qp Bm (Ag (A3 (fun hc17=>?_) fun hc17=>?_))))
      ·
       refine By (A3 (fun hc18=>?_) fun hc18=>?_)
       ·
        refine Ah (Qp Ar (Ag (AW.ret (A7 (Aj ?_)))))
        refine Qr (Iq _) ?_
        first
         | exact Eq.trans rfl (congrArg (fun q:Int=>AV.int .i64 q) hfk).symm
         | (exfalso;simp_all;done)
         | (simp_all [Ad,Ak];done)
       ·
        refine AW.skip (Bv (Ae (Ah (Qp Ar (Ag (AW.ret ?_))))))
        refine Qr (Iq _) ?_
        first
         | exact Eq.trans rfl (congrArg (fun q:Int=>AV.int .i64 q) hfk).symm
         | (exfalso;simp_all;done)
         | (simp_all [Ad,Ak];done)
      ·
       refine AW.region (Qp A6 (Qp Bm (Ag (A3 (fun hc19=>?_) fun hc19=>?_))))
       ·
        refine Ah (Qp Ar (Ag (AW.ret (A7 (Aj ?_)))))
        refine Qr (Iq _) ?_
        first
         | exact Eq.trans rfl (congrArg (fun q:Int=>AV.int .i64 q) hfk).symm
         | (exfalso;simp_all;done)
         | (simp_all [Ad,Ak];done)
       ·
        refine AW.skip (Bv (Ae (Ah (Qp Ar (Ag (AW.ret ?_))))))
        refine Qr (Iq _) ?_
        first
         | exact Eq.trans rfl (congrArg (fun q:Int=>AV.int .i64 q) hfk).symm
         | (exfalso;simp_all;done)
         | (simp_all [Ad,Ak];done)
theorem Vx (e:Ex):Ax Tryz.prog 90 [.agg (cE e)] (.bool (Cm e)):=by
 refine Ax.body (n:=16) Ai Tryz.func90 rfl rfl rfl fun H=>?_
 refine Ah (Qp Nc (Qp Bm (Do (Qp K9 (Qp Bp (Qp A6 (Qp Bu (Qg [] Qw K9 (Qg [(7,_)] Qw Bp ?_)))))))))
 refine Qg [(8,_)] Qw A6 (Qp E2 (Qp Bu (Qg [] Qw K9 (Qg [(12,_)] Qw Bp (Qg [(13,_)] Qw A6 (Qp E2 (Qp Bm (Ag (AW.ret ?_)))))))))
 refine Qr (.bool _) ?_
 rfl
theorem d_expr (t:Tm):Ax Tryz.prog 37 [.agg (Hz t)] (.agg (cE (Hr t))):=by
 refine Ax.body (n:=10) Ai Tryz.func37 rfl rfl rfl fun H=>?_
 refine Ah (Qp (Gd [Iq _,Iq _,Iq _]) ?_)
 refine Qe (Am (l:=[.int .i64 0,.sl 8 [],.int .i64 0,.int .i64 0,.int .i64 0,.int .i64 0,.int .i64 0,.str []]) (by kernel_rfl)) ?_
 rintro _ _ ⟨b2,rfl,rfl⟩
 refine Do (Qp (Qf [Iq _,Iq _,Iq _]) (Qp Bp (Qp (Qf [Iq _,Iq _]) (Qp Bp (Qp (Qf [Iq _]) (Qp Bp (Qp (Fr [Iq _,_,Iq _,Iq _,Iq _,Iq _,Iq _,.str _]) ?_)))))))
 refine Cz 0 [Iq _,_,Iq _,Iq _,Iq _,Iq _,Iq _,.str _] (_::_) ?_
 refine Ag (AW.ret ?_)
 refine ⟨.inr rfl,[.agg [Iq _,_,Iq _,Iq _,Iq _,Iq _,Iq _,.str _]],.cons (.box _ _ _ 0 _ _ _ _ rfl rfl rfl rfl rfl rfl) <| .nil,.cons _ (.refl _),?_⟩
 rfl
theorem cS (e:Ex):Ax Tryz.prog 89 [.agg (cE e)] (.bool (Ru e)):=by
 refine Ax.body (n:=11) Ai Tryz.func89 rfl rfl rfl fun H=>?_
 refine Ah (Qp Nc (Qp Bm (Do (Qp K9 (Qp Bp (Qp A6 (Qp Bu (Qg [] Qw K9 (Qg [(7,_)] Qw Bp ?_)))))))))
 refine Qg [(8,_)] Qw A6 (Qp E2 (Qp Bm (Ag (AW.ret ?_))))
 refine Qr (.bool _) ?_
 rfl
theorem fQ (T:List Sc)(hl:T.length≤1048576)(hst:∀s∈T,J4 s)(V:List Va)(hvl:V.length≤1048576)(e:Ex)(hse:At e≤1048576):Ax Tryz.prog 26 [.sl 2 (T.map O2),.sl 2 (V.map Xr),.agg (cE e)] (.int .i64 (Fg T V e)):=by
 refine Ax.body (n:=21) Ai Tryz.func26 rfl rfl rfl fun H=>?_
 refine Ah (Qp Nc (Qp Ar (Do (Qp Dt (Qp Dt (Qp E7 ?_))))))
 refine Qp (Qc rfl (c32 T hl hst V hvl e hse)) ?_
 refine Qp Nb (Qp I6 (Qp I6 (Qp Ar (Qp Ar (Ag (AW.seq (Ah (Qp A0 (Qp Cr ?_)))))))))
 refine Ag (A3 (fun hc1=>?_) fun hc1=>?_)
 ·
  refine Ah (Qp A0 (Qp Ar (Ag (Du ?_))))
  refine Qr (Iq _) ?_
  exact Eq.trans rfl (congrArg (fun q:Int=>AV.int .i64 q) (kG hc1)).symm
 ·
  refine By (AW.seq (Ah (Qp A0 (Qp Cr (Ag (A3 (fun hc2=>?_) fun hc2=>?_))))))
  ·
   refine Ah (Qp Ar (Ag (Du ?_)))
   refine Qr (Iq _) ?_
   exact Eq.trans rfl (congrArg (fun q:Int=>AV.int .i64 q) (lE hc1 hc2)).symm
  ·
   refine By (Ah (Qp Ar (Ag (AW.ret ?_))))
   refine Qr (Iq _) ?_
   exact Eq.trans rfl (congrArg (fun q:Int=>AV.int .i64 q) (lD hc1 hc2)).symm
theorem gJ (T:List Sc)(hl:T.length≤1048576)(hst:∀s∈T,J4 s)(V:List Va)(hvl:V.length≤1048576)(e:Ex)(hse:At e≤1048576):Ax Tryz.prog 27 [.agg (Cw T V),.agg (cE e)] (.int .i64 (Fg T V e)):=by
 refine Ax.body (n:=21) Ai Tryz.func27 rfl rfl rfl fun H=>?_
 refine Ah (Qp (Gd [_,_]) (Qp Nc (Qp Ar (Do (Qp (Qf [_,_]) (Qp Ee (Qp (Qf [_]) (Qp Ee (Qp E7 ?_)))))))))
 refine Qp (Qc rfl (c31 T hl hst V hvl e hse)) ?_
 refine Qp Nb (Qp I6 (Qp I6 (Qp Ar (Qp Ar (Ag (AW.seq (Ah (Qp A0 (Qp Cr ?_)))))))))
 refine Ag (A3 (fun hc1=>?_) fun hc1=>?_)
 ·
  refine Ah (Qp A0 (Qp Ar (Ag (Du ?_))))
  refine Qr (Iq _) ?_
  exact Eq.trans rfl (congrArg (fun q:Int=>AV.int .i64 q) (kG hc1)).symm
 ·
  refine By (AW.seq (Ah (Qp A0 (Qp Cr (Ag (A3 (fun hc2=>?_) fun hc2=>?_))))))
  ·
   refine Ah (Qp Ar (Ag (Du ?_)))
   refine Qr (Iq _) ?_
   exact Eq.trans rfl (congrArg (fun q:Int=>AV.int .i64 q) (lE hc1 hc2)).symm
  ·
   refine By (Ah (Qp Ar (Ag (AW.ret ?_))))
   refine Qr (Iq _) ?_
   exact Eq.trans rfl (congrArg (fun q:Int=>AV.int .i64 q) (lD hc1 hc2)).symm
theorem Q9 (T:List Sc)(V:List Va)(e:Ex)(hk:KOK T V e):Ax Tryz.prog 91 [.agg (Cw T V),.agg (cE e)] (.bool (Ch T V e)):=by
 refine Ax.body (n:=17) Ai Tryz.func91 rfl rfl rfl fun H=>?_
 refine Ah (Qp (Gd [_,_]) (Qp Nc (Qp Bm (Ag (AW.seq ?_)))))
 refine AW.draw mixed (fun _=>True) trivial (by kernel_rfl) ?_
 refine Qn 0 rfl K9 (Qn 1 rfl Bp (Qn 2 rfl A6 (Qn 3 rfl Bu (Qo 4 rfl [] Qw (Cv [_,_]) (Qo 5 rfl [] Qw Oy (Qo 6 rfl [(10,_)] Qw Ee ?_))))))
 refine Jb.pure _ _ 7 _ _ rfl (by kernel_rfl) (by kernel_rfl) rfl (.opt _ (.ptr _) [(11,_)] rfl (oE.all ⟨Ent.Aab _ _,trivial⟩) (fun hG=>Af (c:=[Iq _,_,Iq _,Iq _,Iq _,Iq _,Iq _,.str _]) Ai rfl rfl rfl rfl rfl rfl (by decide) (I3 (Nat.lt_of_succ_lt (g9 hk hG)))) rfl) ?_
 refine Qo 8 rfl [(12,_)] Qw E7 ?_
 refine Jb.pure _ _ 9 _ _ rfl (by kernel_rfl) (by kernel_rfl) rfl (.opt _ (Iq _) [(9,_),(13,_)] rfl (oE.all ⟨Ent.Aab _ _,Ent.Aab _ _,trivial⟩) (fun hG=>E6 (by kernel_rfl) rfl rfl (gV T V _ (Az hk (Ba (Nat.lt_of_succ_lt (g9 hk hG)))))) rfl) ?_
 refine Qo 10 rfl [(14,_)] Qw A6 (Qn 11 rfl Gg (Qn 12 rfl Bm ?_))
 refine Jb.done _ _ (by kernel_rfl) ?_
 refine Ae (AW.ret ?_)
 refine Qr (.bool _) ?_
 rfl
end Go.Proofs.YtjedflcpjlgokaaGreatDoor
