/-
  Several texts in one: S57, S58, Y3. No condition.
-/
import Derived.Test.YtjedflcpjlgokaaGreatDoorK22
import Derived.Test.YtjedflcpjlgokaaGreatDoorAz
import Derived.Test.YtjedflcpjlgokaaGreatDoorK10
import Derived.KernelRfl
set_option linter.unusedVariables false
set_option linter.unusedSimpArgs false
namespace Go.Proofs.YtjedflcpjlgokaaGreatDoor
open Go Go.Aw
section
variable {z:Zn} {c:List Int}
theorem Wg (h:(De z != 0)=true):Hp z c=De z:=if_pos h
theorem Uu (h:(De z != 0)=false)(h2:(((c.length:Int)==0)||decide (256<(c.length:Int)))=true):Hp z c=15:=(Cu h).trans (if_pos h2)
theorem Vb (h:(De z != 0)=false)(h2:(((c.length:Int)==0)||decide (256<(c.length:Int)))=false)(h3:c.any (Mz z.bs)=true):Hp z c=2:=(Cu h).trans ((Cu h2).trans (if_pos h3))
theorem qG (h:(De z != 0)=false)(h2:(((c.length:Int)==0)||decide (256<(c.length:Int)))=false)(h3:c.any (Mz z.bs)=false):Hp z c=if (List.range c.length).any (K9 z.bs c) then 18 else if decide (0≤Na z.bs c) then 18 else 0:=(Cu h).trans ((Cu h2).trans (Cu h3))
theorem oM (h3:c.any (Mz z.bs)=false){j:Nat}{i:Int}(hj:c[j]? = some i):0≤i∧i<(z.bs.length:Int)∧z.bs[i.toNat]? = some (Re z.bs i):=by
 have h:=List.any_eq_false.1 h3 i (List.mem_of_getElem? hj)
 unfold Mz at h
 simp only [Bool.or_eq_true,decide_eq_true_eq,not_or] at h
 have hlt:i.toNat<z.bs.length:=by omega
 refine ⟨by omega,by omega,?_⟩
 unfold Re
 rw [List.getElem?_eq_getElem hlt];rfl
theorem Ua (h:(De z != 0)=false)(h2:(((c.length:Int)==0)||decide (256<(c.length:Int)))=false)(h3:c.any (Mz z.bs)=false)(h4:(List.range c.length).any (K9 z.bs c)=true):Hp z c=18:=(qG h h2 h3).trans (if_pos h4)
theorem Vk (h:(De z != 0)=false)(h2:(((c.length:Int)==0)||decide (256<(c.length:Int)))=false)(h3:c.any (Mz z.bs)=false)(h4:(List.range c.length).any (K9 z.bs c)=false)(h5:decide (0≤Na z.bs c)=true):Hp z c=18:=(qG h h2 h3).trans ((Cu h4).trans (if_pos h5))
theorem Uo (h:(De z != 0)=false)(h2:(((c.length:Int)==0)||decide (256<(c.length:Int)))=false)(h3:c.any (Mz z.bs)=false)(h4:(List.range c.length).any (K9 z.bs c)=false)(h5:decide (0≤Na z.bs c)=false):Hp z c=0:=(qG h h2 h3).trans ((Cu h4).trans (Cu h5))
theorem tS (h2:(((c.length:Int)==0)||decide (256<(c.length:Int)))=false):c.length≤256:=by
 rw [Bool.or_eq_false_iff] at h2
 have:=of_decide_eq_false h2.2
 omega
theorem xU {k:Nat}(h:decide ((k:Int)<(c.length:Int))=false)(ha:((List.range c.length).take k).any (K9 z.bs c)=false):(List.range c.length).any (K9 z.bs c)=false:=by
 have:=of_decide_eq_false h
 rwa [List.take_of_length_le (by rw [List.length_range];omega)] at ha
theorem pU {k:Nat}(hk:k<c.length):∃i,c[(k+1) % c.length]? = some i∧0≤Int.tmod ((k:Int)+1) (c.length:Int)∧(c.map cI)[(Int.tmod ((k:Int)+1) (c.length:Int)).toNat]? = some [.int .i64 i]:=by
 have hlt:(k+1) % c.length<c.length:=Nat.mod_lt _ (by omega)
 have ht:Int.tmod ((k:Int)+1) (c.length:Int)=(((k+1) % c.length:Nat):Int):=by
  rw [Int.tmod_eq_emod_of_nonneg (by omega)]
  push_cast;rfl
 have hg:=List.getElem?_eq_getElem hlt
 refine ⟨_,hg,by rw [ht];omega,?_⟩
 rw [ht,Int.toNat_natCast,List.getElem?_map,hg];rfl
theorem Jx {k:Nat}{i i2:Int}(hi:c[k]? = some i)(hi2:c[(k+1) % c.length]? = some i2):K9 z.bs c k=((Re z.bs i).y != (Re z.bs i2).x):=by unfold K9;rw [hi,hi2];rfl
theorem Xb {n k:Nat}(h:k<n):(List.range n)[k]? = some k:=by rw [List.getElem?_range h]
theorem jR {k:Nat}{i:Int}(hi:c[k]? = some i):Na z.bs (c.take (k+1))=Na z.bs (c.take k)+(Re z.bs i).most:=by
 unfold Na
 rw [Cx hi]
 simp
theorem Mc {k:Nat}(hk:k<c.length)(h:K9 z.bs c k=true):(List.range c.length).any (K9 z.bs c)=true:=List.any_eq_true.2 ⟨k,List.mem_range.2 hk,h⟩
end
theorem Q6 (T:List Sc)(V:List Va)(e:Ex):(Cp T V e).1.length≤1048576∧(∀c∈(Cp T V e).1,c.length≤1048576)∧∀c∈(Cp T V e).1,∀x∈c,Av x.cond≤1048576:=by
  have h0:∀n:Int,(([]:List (List Lit)),n).1.length≤1048576∧(∀c∈(([]:List (List Lit)),n).1,c.length≤1048576)∧∀c∈(([]:List (List Lit)),n).1,∀x∈c,Av x.cond≤1048576:=fun n=>⟨by simp,by simp,by simp⟩
  cases h1:(C4 T V e != 0) with
  | true=>rw [Yu h1];exact h0 _
  | false=>
    cases h2:(!(Bw T V e true).2) with
    | true=>rw [Xv h1 h2];exact h0 _
    | false=>
      rw [Wz h1 h2]
      have hk:=(Nh h1).1
      have hn:=Ge e hk.kok true
      have hl:=Oo e hk.kok true
      have hz:=Kv hk
      exact ⟨Nat.le_trans hn.len (by omega),fun c hc=>Nat.le_trans (hn.lits c hc) (by omega),fun c hc x hx=>Nat.le_trans (hl c hc x hx).2 (by omega)⟩
section
variable {T:List Sc} {V:List Va} {e:Ex}
theorem eO (h:CondOK T V e):∀c∈(Cp T V e).1,c∈(Bw T V e true).1:=fun c hc=>by
 rw [Pg h] at hc
 cases hn : !(Bw T V e true).2 with
 | true=>rw [hn,if_pos rfl] at hc;cases hc
 | false=>rw [hn,if_neg (by decide)] at hc;exact hc
theorem eA (h:CondOK T V e):(((Cp T V e).2==0)||((Cp T V e).2==17))=true:=by
 rw [Pg h]
 cases !(Bw T V e true).2 <;> rfl
theorem dI (h:CondOK T V e):L8 T V e=(Fx T V e,0):=by
 unfold L8
 rw [if_neg (by rw [h.zero];decide)]
theorem kO (bs:List Bd)(d:Ds)(f:Int):∀(k:Nat) (a:Int),(Hb bs d f k a).length≤k
  | 0,a=>by rw [Hb];exact Nat.le_refl _
  | k+1,a=>by
    rw [Hb,List.length_cons]
    split
    · simp
    · have:=kO bs d f k (E7 bs d a);omega
structure ClOK (T:List Sc) (V:List Va) (c:List Lit):Prop where
 lok:Q9 T V c
 zone:Mm T V c=⟨A7 T V c,(Bz T V c).ts.map Hs,0⟩
 err:(Bl (A7 T V c)).err=0
 zl:(A7 T V c).bs.length≤1048576
 cl:c.length≤1048576
 cs:∀y∈c,Av y.cond≤1048576
 vl:(Bl (A7 T V c)).values.length≤1048576
 cyl:(Bl (A7 T V c)).cycle.length≤1048576
 holds:(Bl (A7 T V c)).ok=true→Kf (A7 T V c) (Bl (A7 T V c)).values=(true,0)
 verify:(Bl (A7 T V c)).ok=false→Hp (A7 T V c) (Bl (A7 T V c)).cycle=0
theorem lY (h:CondOK T V e){c:List Lit}(hc:c∈(Cp T V e).1):ClOK T V c:=by
  have hm:=eO h c hc
  have hF:=h.lits true c hm
  have hl:=Q4 hF
  have hf:=(Of h true c hm).1
  have hz:=N9 hl hf
  have hz':(De (zn (zN T V c) (A7 T V c).bs) != 0)=false:=by rw [←L1,hz];rfl
  have hzo:=cY hz' (J5 hl)
  have h64:=hzo.n64
  have hb:=(Qv (n:=(zN T V c:Int)) (bs:=(A7 T V c).bs) hz').2.2.1
  have hcz:=Q6 T V e
  refine ⟨hl,nC h true c hm,lQ hl hf,by omega,hcz.2.1 c hc,hcz.2.2 c hc,?_,?_,aM h.kc.types h.kc.kok.ty hF hf,Wv hl hf⟩
  · rw [L1]
    cases he:decide ((Cy (zn (zN T V c) (A7 T V c).bs)).2<0) with
    | true=>
      rw [L9 hz' he]
      simp only [List.length_map]
      rw [(aO hzo).s];omega
    | false=>rw [L3 hz' he];simp
  · rw [L1]
    cases he:decide ((Cy (zn (zN T V c) (A7 T V c).bs)).2<0) with
    | true=>rw [L9 hz' he];simp
    | false=>
      rw [L3 hz' he]
      simp only
      rw [aR rfl he rfl]
      exact Nat.le_trans (kO _ _ _ _ _) (by omega)
theorem tG (h:(!Ks T V [e])=false):CondOK T V e:=fT (show Ks T V [e]=true by simpa using h) e (by simp)
theorem cC {c:List Lit}{l:List (List Lit)}{k:Nat}(hc:l[k]? = some c):Sh T V (l.take (k+1))=(Sh T V (l.take k)||(Bl (A7 T V c)).ok):=by
 unfold Sh
 rw [mB _ hc]
theorem bJ {c:List Lit}{l:List (List Lit)}{k:Nat}(hc:l[k]? = some c)(h:∀x∈l.take k,x.any (Ow T V)=false)(hs:c.any (Ow T V)=false):∀x∈l.take (k+1),x.any (Ow T V)=false:=fun x hx=>by
 rw [Cx hc] at hx
 rcases List.mem_append.1 hx with hx | hx
 · exact h x hx
 · rw [List.mem_singleton.1 hx];exact hs
theorem uA (h:CondOK T V e)(h4:(((Cp T V e).2 != 0) || !(L8 T V e).1)=false){b:Bool}(hb:b=Sh T V (Cp T V e).1)(hs:∀c∈(Cp T V e).1,c.any (Ow T V)=false) :
    ((b==((B6 T V [e]).1==1))&&(((B6 T V [e]).1==1)||((B6 T V [e]).1==2)))=true:=by
  rw [dI h,Bool.or_eq_false_iff] at h4
  have hp:Fx T V e=true:=by simpa using h4.2
  have h1:=h4.1
  rw [Pg h] at h1 hb hs
  cases hn:(Bw T V e true).2 with
  | false=>rw [hn] at h1;simp at h1
  | true=>
    rw [hn,if_neg (by decide)] at hb hs
    rw [hb]
    exact tO h hp hn hs
end
set_option maxHeartbeats 1600000
set_option maxRecDepth 20000

theorem Us (T:List Sc)(V:List Va)(e:Ex)(hk:KOK T V e):A1 Tryz.prog 60 [.agg (B9 T V),.agg (cE e)] (.int .i64 (Ak T V e)):=by
 refine A1.body (n:=37) Aj Tryz.func60 rfl rfl rfl fun H=>?_
 refine Ah (Qp (It [_,_]) (Qp Mt (Qp Aq (Ag (AW.seq (Ah (Qp Lm (Qp B2 (Ag ?_)))))))))
 refine AW.block (AW.seq (Ah (Qp Ba (Qp Bb (Ag (A4 (fun hc1=>?_) fun hc1=>?_))))))
 ·
  refine Bx (A4 (fun hc2=>?_) fun hc2=>?_)
  ·
   refine Ah (Qp Mv (Qp Mv (Qp B2 (Qp Aq (Ag (AW.ret (A6 (Ai ?_))))))))
   refine Qr (Iq _) ?_
   first
    | exact Eq.trans rfl (congrArg (fun q:Int=>AV.int .i64 q) hfk).symm
    | (exfalso;simp_all;done)
    | (simp_all [Ae,Ak];done)
  ·
   refine Ah (Qp Ba (Qp Bb (Ag (A4 (fun hc3=>?_) fun hc3=>?_))))
   ·
    refine AW.seq ?_
    refine (gP hk (eq_of_beq ‹(e.op==1)=true›)).elim fun v hv=>?_
    refine hv.elim fun s hv=>?_
    refine hv.elim fun f hv=>?_
    have hv0:=hv.1
    have hv1:=hv.2.1
    have ht0:=hv.2.2.1
    have ht1:=hv.2.2.2.1
    have hf0:=hv.2.2.2.2.1
    have hf1:=hv.2.2.2.2.2.1
    have hfk:=hv.2.2.2.2.2.2
    refine AW.draw mixed (fun _=>True) trivial (by kernel_rfl) ?_
    refine Qn 0 rfl (Qf [_,_]) (Qn 1 rfl D1 (Qn 2 rfl (Qf [_]) (Qn 3 rfl D1 (Qn 4 rfl aW (Qn 5 rfl B2 ?_)))))
    refine Qn 6 rfl (Af (c:=[.str _,Iq _]) Aj rfl rfl rfl rfl rfl rfl (hv0) (B1 hv1)) ?_
    refine Qn 7 rfl (Qf [Iq _]) (Qn 8 rfl B2 ?_)
    refine Qn 9 rfl (Af (c:=[.str _,_]) Aj rfl rfl rfl rfl rfl rfl (ht0) (B1 ht1)) ?_
    refine Qn 10 rfl (Qf [_]) (Qn 11 rfl D1 (Qn 12 rfl aV (Qn 13 rfl B2 ?_)))
    refine Qn 14 rfl (Af (c:=[.str _,Iq _]) Aj rfl rfl rfl rfl rfl rfl (hf0) (B1 hf1)) ?_
    refine Qn 15 rfl (Qf [Iq _]) (Qn 16 rfl B2 (Qn 17 rfl Aq ?_))
    refine Iu.done _ _ (by kernel_rfl) ?_
    refine Ad (AW.ret (A6 (Ai ?_)))
    refine Qr (Iq _) ?_
    first
     | exact Eq.trans rfl (congrArg (fun q:Int=>AV.int .i64 q) hfk).symm
     | (exfalso;simp_all;done)
     | (simp_all [Ae,Ak];done)
   ·
    refine AW.seq (Ah (Qp Ba (Qp Bb (Ag (A4 (fun hc4=>?_) fun hc4=>?_)))))
    ·
     refine Bx (A4 (fun hc5=>?_) fun hc5=>?_)
     ·
      refine Ah (Qp Aq (Ag (AW.ret (A6 (Ai ?_)))))
      refine Qr (Iq _) ?_
      first
       | exact Eq.trans rfl (congrArg (fun q:Int=>AV.int .i64 q) hfk).symm
       | (exfalso;simp_all;done)
       | (simp_all [Ae,Ak];done)
     ·
      refine AW.skip (Bn (Ad (Ah (Qp Aq (Ag (AW.ret ?_))))))
      refine Qr (Iq _) ?_
      first
       | exact Eq.trans rfl (congrArg (fun q:Int=>AV.int .i64 q) hfk).symm
       | (exfalso;simp_all;done)
       | (simp_all [Ae,Ak];done)
    ·
     refine Ah (Qp Ba (Qp Bb (Ag (A4 (fun hc6=>?_) fun hc6=>?_))))
     ·
      refine Bx (A4 (fun hc7=>?_) fun hc7=>?_)
      ·
       refine Ah (Qp Aq (Ag (AW.ret (A6 (Ai ?_)))))
       refine Qr (Iq _) ?_
       first
        | exact Eq.trans rfl (congrArg (fun q:Int=>AV.int .i64 q) hfk).symm
        | (exfalso;simp_all;done)
        | (simp_all [Ae,Ak];done)
      ·
       refine AW.skip (Bn (Ad (Ah (Qp Aq (Ag (AW.ret ?_))))))
       refine Qr (Iq _) ?_
       first
        | exact Eq.trans rfl (congrArg (fun q:Int=>AV.int .i64 q) hfk).symm
        | (exfalso;simp_all;done)
        | (simp_all [Ae,Ak];done)
     ·
      refine Ah (Qp Ba (Qp Bb (Ag (A4 (fun hc8=>?_) fun hc8=>?_))))
      ·
       refine Bx (A4 (fun hc9=>?_) fun hc9=>?_)
       ·
        refine Ah (Qp Aq (Ag (AW.ret (A6 (Ai ?_)))))
        refine Qr (Iq _) ?_
        first
         | exact Eq.trans rfl (congrArg (fun q:Int=>AV.int .i64 q) hfk).symm
         | (exfalso;simp_all;done)
         | (simp_all [Ae,Ak];done)
       ·
        refine AW.skip (Bn (Ad (Ah (Qp Aq (Ag (AW.ret ?_))))))
        refine Qr (Iq _) ?_
        first
         | exact Eq.trans rfl (congrArg (fun q:Int=>AV.int .i64 q) hfk).symm
         | (exfalso;simp_all;done)
         | (simp_all [Ae,Ak];done)
      ·
       refine AW.region (Qp Ba (Qp Bb (Ag (A4 (fun hc10=>?_) fun hc10=>?_))))
       ·
        refine Ah (Qp Aq (Ag (AW.ret (A6 (Ai ?_)))))
        refine Qr (Iq _) ?_
        first
         | exact Eq.trans rfl (congrArg (fun q:Int=>AV.int .i64 q) hfk).symm
         | (exfalso;simp_all;done)
         | (simp_all [Ae,Ak];done)
       ·
        refine AW.skip (Bn (Ad (Ah (Qp Aq (Ag (AW.ret ?_))))))
        refine Qr (Iq _) ?_
        first
         | exact Eq.trans rfl (congrArg (fun q:Int=>AV.int .i64 q) hfk).symm
         | (exfalso;simp_all;done)
         | (simp_all [Ae,Ak];done)
 ·
  refine AW.region (Qp Ba (Qp Bb (Ag (A4 (fun hc11=>?_) fun hc11=>?_))))
  ·
   refine Ah (Qp Mv (Qp Mv (Qp B2 (Qp Aq (Ag (AW.ret (A6 (Ai ?_))))))))
   refine Qr (Iq _) ?_
   first
    | exact Eq.trans rfl (congrArg (fun q:Int=>AV.int .i64 q) hfk).symm
    | (exfalso;simp_all;done)
    | (simp_all [Ae,Ak];done)
  ·
   refine Ah (Qp Ba (Qp Bb (Ag (A4 (fun hc12=>?_) fun hc12=>?_))))
   ·
    refine AW.seq ?_
    refine (gP hk (eq_of_beq ‹(e.op==1)=true›)).elim fun v hv=>?_
    refine hv.elim fun s hv=>?_
    refine hv.elim fun f hv=>?_
    have hv0:=hv.1
    have hv1:=hv.2.1
    have ht0:=hv.2.2.1
    have ht1:=hv.2.2.2.1
    have hf0:=hv.2.2.2.2.1
    have hf1:=hv.2.2.2.2.2.1
    have hfk:=hv.2.2.2.2.2.2
    refine AW.draw mixed (fun _=>True) trivial (by kernel_rfl) ?_
    refine Qn 0 rfl (Qf [_,_]) (Qn 1 rfl D1 (Qn 2 rfl (Qf [_]) (Qn 3 rfl D1 (Qn 4 rfl aW (Qn 5 rfl B2 ?_)))))
    refine Qn 6 rfl (Af (c:=[.str _,Iq _]) Aj rfl rfl rfl rfl rfl rfl (hv0) (B1 hv1)) ?_
    refine Qn 7 rfl (Qf [Iq _]) (Qn 8 rfl B2 ?_)
    refine Qn 9 rfl (Af (c:=[.str _,_]) Aj rfl rfl rfl rfl rfl rfl (ht0) (B1 ht1)) ?_
    refine Qn 10 rfl (Qf [_]) (Qn 11 rfl D1 (Qn 12 rfl aV (Qn 13 rfl B2 ?_)))
    refine Qn 14 rfl (Af (c:=[.str _,Iq _]) Aj rfl rfl rfl rfl rfl rfl (hf0) (B1 hf1)) ?_
    refine Qn 15 rfl (Qf [Iq _]) (Qn 16 rfl B2 (Qn 17 rfl Aq ?_))
    refine Iu.done _ _ (by kernel_rfl) ?_
    refine Ad (AW.ret (A6 (Ai ?_)))
    refine Qr (Iq _) ?_
    first
     | exact Eq.trans rfl (congrArg (fun q:Int=>AV.int .i64 q) hfk).symm
     | (exfalso;simp_all;done)
     | (simp_all [Ae,Ak];done)
   ·
    refine AW.seq (Ah (Qp Ba (Qp Bb (Ag (A4 (fun hc13=>?_) fun hc13=>?_)))))
    ·
     refine Bx (A4 (fun hc14=>?_) fun hc14=>?_)
     ·
      refine Ah (Qp Aq (Ag (AW.ret (A6 (Ai ?_)))))
      refine Qr (Iq _) ?_
      first
       | exact Eq.trans rfl (congrArg (fun q:Int=>AV.int .i64 q) hfk).symm
       | (exfalso;simp_all;done)
       | (simp_all [Ae,Ak];done)
     ·
      refine AW.skip (Bn (Ad (Ah (Qp Aq (Ag (AW.ret ?_))))))
      refine Qr (Iq _) ?_
      first
       | exact Eq.trans rfl (congrArg (fun q:Int=>AV.int .i64 q) hfk).symm
       | (exfalso;simp_all;done)
       | (simp_all [Ae,Ak];done)
    ·
     refine Ah (Qp Ba (Qp Bb (Ag (A4 (fun hc15=>?_) fun hc15=>?_))))
     ·
      refine Bx (A4 (fun hc16=>?_) fun hc16=>?_)
      ·
       refine Ah (Qp Aq (Ag (AW.ret (A6 (Ai ?_)))))
       refine Qr (Iq _) ?_
       first
        | exact Eq.trans rfl (congrArg (fun q:Int=>AV.int .i64 q) hfk).symm
        | (exfalso;simp_all;done)
        | (simp_all [Ae,Ak];done)
      ·
       refine AW.skip (Bn (Ad (Ah (Qp Aq (Ag (AW.ret ?_))))))
       refine Qr (Iq _) ?_
       first
        | exact Eq.trans rfl (congrArg (fun q:Int=>AV.int .i64 q) hfk).symm
        | (exfalso;simp_all;done)
        | (simp_all [Ae,Ak];done)
     ·
      refine Ah (Qp Ba (Qp Bb (Ag (A4 (fun hc17=>?_) fun hc17=>?_))))
      ·
       refine Bx (A4 (fun hc18=>?_) fun hc18=>?_)
       ·
        refine Ah (Qp Aq (Ag (AW.ret (A6 (Ai ?_)))))
        refine Qr (Iq _) ?_
        first
         | exact Eq.trans rfl (congrArg (fun q:Int=>AV.int .i64 q) hfk).symm
         | (exfalso;simp_all;done)
         | (simp_all [Ae,Ak];done)
       ·
        refine AW.skip (Bn (Ad (Ah (Qp Aq (Ag (AW.ret ?_))))))
        refine Qr (Iq _) ?_
        first
         | exact Eq.trans rfl (congrArg (fun q:Int=>AV.int .i64 q) hfk).symm
         | (exfalso;simp_all;done)
         | (simp_all [Ae,Ak];done)
      ·
       refine AW.region (Qp Ba (Qp Bb (Ag (A4 (fun hc19=>?_) fun hc19=>?_))))
       ·
        refine Ah (Qp Aq (Ag (AW.ret (A6 (Ai ?_)))))
        refine Qr (Iq _) ?_
        first
         | exact Eq.trans rfl (congrArg (fun q:Int=>AV.int .i64 q) hfk).symm
         | (exfalso;simp_all;done)
         | (simp_all [Ae,Ak];done)
       ·
        refine AW.skip (Bn (Ad (Ah (Qp Aq (Ag (AW.ret ?_))))))
        refine Qr (Iq _) ?_
        first
         | exact Eq.trans rfl (congrArg (fun q:Int=>AV.int .i64 q) hfk).symm
         | (exfalso;simp_all;done)
         | (simp_all [Ae,Ak];done)
theorem Wi (e:Ex):A1 Tryz.prog 90 [.agg (cE e)] (.bool (Cc e)):=by
 refine A1.body (n:=16) Aj Tryz.func90 rfl rfl rfl fun H=>?_
 refine Ah (Qp Mt (Qp Bb (Dv (Qp Lm (Qp B2 (Qp Ba (Qp Bt (Qg [] Qw Lm (Qg [(7,_)] Qw B2 ?_)))))))))
 refine Qg [(8,_)] Qw Ba (Qp Ew (Qp Bt (Qg [] Qw Lm (Qg [(12,_)] Qw B2 (Qg [(13,_)] Qw Ba (Qp Ew (Qp Bb (Ag (AW.ret ?_)))))))))
 refine Qr (.bool _) ?_
 rfl
theorem sA (t:Tm):A1 Tryz.prog 37 [.agg (G2 t)] (.agg (cE (Hs t))):=by
 refine A1.body (n:=10) Aj Tryz.func37 rfl rfl rfl fun H=>?_
 refine Ah (Qp (It [Iq _,Iq _,Iq _]) ?_)
 refine Qe (A0 (l:=[.int .i64 0,.sl 8 [],.int .i64 0,.int .i64 0,.int .i64 0,.int .i64 0,.int .i64 0,.str []]) (by kernel_rfl)) ?_
 rintro _ _ ⟨b2,rfl,rfl⟩
 refine Dv (Qp (Qf [Iq _,Iq _,Iq _]) (Qp B2 (Qp (Qf [Iq _,Iq _]) (Qp B2 (Qp (Qf [Iq _]) (Qp B2 (Qp (Ij [Iq _,_,Iq _,Iq _,Iq _,Iq _,Iq _,.str _]) ?_)))))))
 refine Eu 0 [Iq _,_,Iq _,Iq _,Iq _,Iq _,Iq _,.str _] (_::_) ?_
 refine Ag (AW.ret ?_)
 refine ⟨.inr rfl,[.agg [Iq _,_,Iq _,Iq _,Iq _,Iq _,Iq _,.str _]],.cons (.box _ _ _ 0 _ _ _ _ rfl rfl rfl rfl rfl rfl) <| .nil,.cons _ (.refl _),?_⟩
 rfl
theorem eC (e:Ex):A1 Tryz.prog 89 [.agg (cE e)] (.bool (Pz e)):=by
 refine A1.body (n:=11) Aj Tryz.func89 rfl rfl rfl fun H=>?_
 refine Ah (Qp Mt (Qp Bb (Dv (Qp Lm (Qp B2 (Qp Ba (Qp Bt (Qg [] Qw Lm (Qg [(7,_)] Qw B2 ?_)))))))))
 refine Qg [(8,_)] Qw Ba (Qp Ew (Qp Bb (Ag (AW.ret ?_))))
 refine Qr (.bool _) ?_
 rfl
theorem cM (T:List Sc)(hl:T.length≤1048576)(hst:∀s∈T,Is s)(V:List Va)(hvl:V.length≤1048576)(e:Ex)(hse:Av e≤1048576):A1 Tryz.prog 26 [.sl 2 (T.map N5),.sl 2 (V.map Tp),.agg (cE e)] (.int .i64 (C4 T V e)):=by
 refine A1.body (n:=21) Aj Tryz.func26 rfl rfl rfl fun H=>?_
 refine Ah (Qp Mt (Qp Aq (Dv (Qp Dm (Qp Dm (Qp E2 ?_))))))
 refine Qp (Qc rfl (c32 T hl hst V hvl e hse)) ?_
 refine Qp Om (Qp Kn (Qp Kn (Qp Aq (Qp Aq (Ag (AW.seq (Ah (Qp Az (Qp C1 ?_)))))))))
 refine Ag (A4 (fun hc1=>?_) fun hc1=>?_)
 ·
  refine Ah (Qp Az (Qp Aq (Ag (D4 ?_))))
  refine Qr (Iq _) ?_
  exact Eq.trans rfl (congrArg (fun q:Int=>AV.int .i64 q) (jH hc1)).symm
 ·
  refine Bx (AW.seq (Ah (Qp Az (Qp C1 (Ag (A4 (fun hc2=>?_) fun hc2=>?_))))))
  ·
   refine Ah (Qp Aq (Ag (D4 ?_)))
   refine Qr (Iq _) ?_
   exact Eq.trans rfl (congrArg (fun q:Int=>AV.int .i64 q) (lD hc1 hc2)).symm
  ·
   refine Bx (Ah (Qp Aq (Ag (AW.ret ?_))))
   refine Qr (Iq _) ?_
   exact Eq.trans rfl (congrArg (fun q:Int=>AV.int .i64 q) (iU hc1 hc2)).symm
theorem Kq (T:List Sc)(hl:T.length≤1048576)(hst:∀s∈T,Is s)(V:List Va)(hvl:V.length≤1048576)(e:Ex)(hse:Av e≤1048576):A1 Tryz.prog 27 [.agg (B9 T V),.agg (cE e)] (.int .i64 (C4 T V e)):=by
 refine A1.body (n:=21) Aj Tryz.func27 rfl rfl rfl fun H=>?_
 refine Ah (Qp (It [_,_]) (Qp Mt (Qp Aq (Dv (Qp (Qf [_,_]) (Qp D1 (Qp (Qf [_]) (Qp D1 (Qp E2 ?_)))))))))
 refine Qp (Qc rfl (c31 T hl hst V hvl e hse)) ?_
 refine Qp Om (Qp Kn (Qp Kn (Qp Aq (Qp Aq (Ag (AW.seq (Ah (Qp Az (Qp C1 ?_)))))))))
 refine Ag (A4 (fun hc1=>?_) fun hc1=>?_)
 ·
  refine Ah (Qp Az (Qp Aq (Ag (D4 ?_))))
  refine Qr (Iq _) ?_
  exact Eq.trans rfl (congrArg (fun q:Int=>AV.int .i64 q) (jH hc1)).symm
 ·
  refine Bx (AW.seq (Ah (Qp Az (Qp C1 (Ag (A4 (fun hc2=>?_) fun hc2=>?_))))))
  ·
   refine Ah (Qp Aq (Ag (D4 ?_)))
   refine Qr (Iq _) ?_
   exact Eq.trans rfl (congrArg (fun q:Int=>AV.int .i64 q) (lD hc1 hc2)).symm
  ·
   refine Bx (Ah (Qp Aq (Ag (AW.ret ?_))))
   refine Qr (Iq _) ?_
   exact Eq.trans rfl (congrArg (fun q:Int=>AV.int .i64 q) (iU hc1 hc2)).symm
theorem P2 (T:List Sc)(V:List Va)(e:Ex)(hk:KOK T V e):A1 Tryz.prog 91 [.agg (B9 T V),.agg (cE e)] (.bool (C0 T V e)):=by
 refine A1.body (n:=17) Aj Tryz.func91 rfl rfl rfl fun H=>?_
 refine Ah (Qp (It [_,_]) (Qp Mt (Qp Bb (Ag (AW.seq ?_)))))
 refine AW.draw mixed (fun _=>True) trivial (by kernel_rfl) ?_
 refine Qn 0 rfl Lm (Qn 1 rfl B2 (Qn 2 rfl Ba (Qn 3 rfl Bt (Qo 4 rfl [] Qw (C8 [_,_]) (Qo 5 rfl [] Qw Oi (Qo 6 rfl [(10,_)] Qw D1 ?_))))))
 refine Iu.pure _ _ 7 _ _ rfl (by kernel_rfl) (by kernel_rfl) rfl (.opt _ (.ptr _) [(11,_)] rfl (nI.all ⟨Ent.Aa1 _ _,trivial⟩) (fun hG=>Af (c:=[Iq _,_,Iq _,Iq _,Iq _,Iq _,Iq _,.str _]) Aj rfl rfl rfl rfl rfl rfl (by decide) (Gf (Nat.lt_of_succ_lt (g9 hk hG)))) rfl) ?_
 refine Qo 8 rfl [(12,_)] Qw E2 ?_
 refine Iu.pure _ _ 9 _ _ rfl (by kernel_rfl) (by kernel_rfl) rfl (.opt _ (Iq _) [(9,_),(13,_)] rfl (nI.all ⟨Ent.Aa1 _ _,Ent.Aa1 _ _,trivial⟩) (fun hG=>Fk (by kernel_rfl) rfl rfl (Us T V _ (An hk (Ax (Nat.lt_of_succ_lt (g9 hk hG)))))) rfl) ?_
 refine Qo 10 rfl [(14,_)] Qw Ba (Qn 11 rfl G1 (Qn 12 rfl Bb ?_))
 refine Iu.done _ _ (by kernel_rfl) ?_
 refine Ad (AW.ret ?_)
 refine Qr (.bool _) ?_
 rfl
theorem Vi (T:List Sc)(V:List Va)(e:Ex)(hk:KOK T V e):A1 Tryz.prog 56 [.agg (B9 T V),.agg (cE e)] (.bool (By T V e)):=by
 refine A1.body (n:=21) Aj Tryz.func56 rfl rfl rfl fun H=>?_
 refine Ah (Qp (It [_,_]) (Qp Mt (Qp Bb (Ag (AW.seq (Ah (Qp Lm (Qp B2 (Ag ?_)))))))))
 refine AW.block (Ah (Qp Ba (Qp Bb (Ag (A4 (fun hc1=>?_) fun hc1=>?_)))))
 ·
  refine AW.seq ?_
  have h2:=l9 hk ‹(e.op==9)=true›
  have h00:0<e.args.length:=by omega
  refine AW.draw mixed (fun _=>True) trivial (by kernel_rfl) ?_
  refine Qn 0 rfl (C8 [_,_]) (Qn 1 rfl Oi (Qn 2 rfl D1 ?_))
  refine Qn 3 rfl (Af (c:=[Iq _,_,Iq _,Iq _,Iq _,Iq _,Iq _,.str _]) Aj rfl rfl rfl rfl rfl rfl (by decide) (Gf h00)) ?_
  refine Qn 4 rfl E2 ?_
  refine Qn 5 rfl (Qc rfl (Us T V _ (An hk (Ax h00)))) ?_
  refine Qn 6 rfl Ba (Qn 7 rfl Bb ?_)
  refine Iu.done _ _ (by kernel_rfl) ?_
  refine Ad (AW.ret (A6 (Ai ?_)))
  refine Qr (.bool _) ?_
  first
   | (exfalso;simp_all;done)
   | (simp_all [Ae,By];done)
 ·
  refine AW.seq (Ah (Qp Ba (Qp Bb (Ag (A4 (fun hc2=>?_) fun hc2=>?_)))))
  ·
   refine Bx (A4 (fun hc3=>?_) fun hc3=>?_)
   ·
    refine Ah (Qp Bb (Ag (AW.ret (A6 (Ai ?_)))))
    refine Qr (.bool _) ?_
    first
     | (exfalso;simp_all;done)
     | (simp_all [Ae,By];done)
   ·
    refine AW.skip (Bn (Ad (Ah (Qp Bb (Ag (AW.ret ?_))))))
    refine Qr (.bool _) ?_
    first
     | (exfalso;simp_all;done)
     | (simp_all [Ae,By];done)
  ·
   refine Ah (Qp Ba (Qp Bb (Ag (A4 (fun hc4=>?_) fun hc4=>?_))))
   ·
    refine Bx (A4 (fun hc5=>?_) fun hc5=>?_)
    ·
     refine Ah (Qp Bb (Ag (AW.ret (A6 (Ai ?_)))))
     refine Qr (.bool _) ?_
     first
      | (exfalso;simp_all;done)
      | (simp_all [Ae,By];done)
    ·
     refine AW.skip (Bn (Ad (Ah (Qp Bb (Ag (AW.ret ?_))))))
     refine Qr (.bool _) ?_
     first
      | (exfalso;simp_all;done)
      | (simp_all [Ae,By];done)
   ·
    refine Ah (Qp Ba (Qp Bb (Ag (A4 (fun hc6=>?_) fun hc6=>?_))))
    ·
     refine Bx (A4 (fun hc7=>?_) fun hc7=>?_)
     ·
      refine Ah (Qp Bb (Ag (AW.ret (A6 (Ai ?_)))))
      refine Qr (.bool _) ?_
      first
       | (exfalso;simp_all;done)
       | (simp_all [Ae,By];done)
     ·
      refine AW.skip (Bn (Ad (Ah (Qp Bb (Ag (AW.ret ?_))))))
      refine Qr (.bool _) ?_
      first
       | (exfalso;simp_all;done)
       | (simp_all [Ae,By];done)
    ·
     refine AW.region (Qp Ba (Qp Bb (Ag (A4 (fun hc8=>?_) fun hc8=>?_))))
     ·
      refine Ah (Qp Bb (Ag (AW.ret (A6 (Ai ?_)))))
      refine Qr (.bool _) ?_
      first
       | (exfalso;simp_all;done)
       | (simp_all [Ae,By];done)
     ·
      refine AW.skip (Bn (Ad (Ah (Qp Bb (Ag (AW.ret ?_))))))
      refine Qr (.bool _) ?_
      first
       | (exfalso;simp_all;done)
       | (simp_all [Ae,By];done)

end Go.Proofs.YtjedflcpjlgokaaGreatDoor
