/-
  Several texts in one: R37w, R38w, R39w, R40w, R41w, R50, R51, R14w, R15w, R16w, W13r, W13s, W13t, W13u, R17w, R18w, R42w, R43w, R44w. No condition.
-/
import Derived.Test.YtckhoadldibflaaGreatDoorK01
import Derived.Test.YtckhoadldibflaaGreatDoorK19
import Derived.KernelRfl
import Derived.Test.YtckhoadldibflaaGreatDoorK16
import Derived.Test.YtckhoadldibflaaGreatDoorK14
import Derived.Test.YtckhoadldibflaaGreatDoorK13
import Derived.Test.YtckhoadldibflaaGreatDoorK15
import Derived.Test.YtckhoadldibflaaGreatDoorK11
import Derived.Test.YtckhoadldibflaaGreatDoorK17
import Derived.Test.YtckhoadldibflaaGreatDoorK10
import Derived.Test.YtckhoadldibflaaGreatDoorK07
import Derived.Test.YtckhoadldibflaaGreatDoorK18
set_option linter.unusedVariables false
set_option linter.unusedSimpArgs false
set_option maxHeartbeats 12800000
set_option maxRecDepth 20000
namespace Go.Proofs.YtckhoadldibflaaGreatDoor
open Go Go.Aw
section
variable {P:Program} {T:List (Nat×TD)} {ρ:Operand->AV} {K:List HO->Prop} {d:Option Nat} {ty:TypeId} {pos:String} {aft:Array Edge} {gd:Option (Nat×Bool)}
theorem wZ {x:Operand}{t kt et n:Nat}{td:TD}{es:List (Int×AV)}(hT:Jw P T)(h:ρ x = .mapv es)(ht:Bs T t=some td)(hk:td.kind = .map kt et)(hn:es.length=n) :
    Dp P ⟨d,.call ⟨.builtin .len,#[x],#[t]⟩,ty,pos,aft,gd⟩ ρ K (.int .i64 n):=
  .of_run fun g w a hr=>by
    have h1:=(h▸hr x (by simp [Op.operands,Call.operands]):Rep g w _ _);have hu:=Ru (hT t td ht) hk;generalize he:a.eval x=vm at h1;cases h1 with
    | mapv b ms clock _ hg hb hheap hl hks hvs=>
      refine ⟨.int .i64 n,Kj ?_,.int _ _⟩;have hget:(getObj b).run P w = .ok (.map ms clock) w:=by simp [getObj,Sem.run,hheap]
      simp only [builtin,Builtin.len_,List.map_toArray,Ao,A5,he,Sem.run_bind];simp [Be hu,goInt,hget,hl,hn]
end
theorem wG {L es:List (Int×Int)}(hL:KN L)(h:TyM L es):es.length=L.length:=by
 have h1:es.Nodup:=(List.pairwise_map.1 h.1).imp fun hne he=>hne (by rw [he])
 have h2:L.Nodup:=(List.pairwise_map.1 hL).imp fun hne he=>hne (by rw [he])
 exact ((List.perm_ext_iff_of_nodup h1 h2).2 h.2).length_eq
theorem ty_look {L es:List (Int×Int)}{k:Nat}{x:Int×Int}(h:TyM L es)(hx:L[k]? = some x)(hk:x.1=(k:Int)):Zh (imA es) (k:Int)=some (.int .i64 (((L.map (·.2))[k]?).getD 0)):=by
 rw [pN,<-hk];have:(x.1,x.2)∈es:=(h.2 x).2 (Aj hx);rw [nE h.1 this,List.getElem?_map,hx];rfl
section
variable {T:List e8Sc} {L:List Int} {ks:List Ag} {k:Nat} {a:Va} {V:List Va} {e:Int}
theorem vr_no (ha:V[k]? = some a)(h:vrE T L ks k a=e)(he:e≠0):vrG T L ks k (V.drop k)=e:=by
 rw [A2 ha,vrG,if_pos (by rw [h];simpa using he),h]
theorem vr_on (ha:V[k]? = some a)(h:vrE T L ks k a=0):vrG T L ks k (V.drop k)=vrG T L (ks ++ [a.name]) (k+1) (V.drop (k+1)):=by
 rw [A2 ha,vrG,if_neg (by rw [h];decide)]
theorem aO {s:Ag}{b:Bool}(h:(Hf s != 0)=b):(!(X7 s))=b:=h
theorem ve8 (h:(Hf a.name != 0)=true):vrE T L ks k a=8:=if_pos (aO h)
theorem ve7 (h:(Hf a.name != 0)=false)(h1:ks.contains a.name=true):vrE T L ks k a=7:=(Bo (aO h)).trans (if_pos h1)
theorem ve6 (h:(Hf a.name != 0)=false)(h1:ks.contains a.name=false)(h2:(decide (a.type<0)||decide ((T.length:Int)<=a.type))=true):vrE T L ks k a=6:=(Bo (aO h)).trans ((Bo h1).trans (if_pos h2))
theorem ve9 (h:(Hf a.name != 0)=false)(h1:ks.contains a.name=false)(h2:(decide (a.type<0)||decide ((T.length:Int)<=a.type))=false)(h3:((L[k]?).getD 0 != a.type)=true):vrE T L ks k a=9:=(Bo (aO h)).trans ((Bo h1).trans ((Bo h2).trans (if_pos h3)))
theorem ve0 (h:(Hf a.name != 0)=false)(h1:ks.contains a.name=false)(h2:(decide (a.type<0)||decide ((T.length:Int)<=a.type))=false)(h3:((L[k]?).getD 0 != a.type)=false):vrE T L ks k a=0:=(Bo (aO h)).trans ((Bo h1).trans ((Bo h2).trans (Bo h3)))
end
theorem vE_15 {T:List e8Sc}{q:Qy}(h:(((Ls q.pattern).length:Int) != (q.vars.length:Int))=true):VrE T q=15:=if_pos h
theorem vE_n {T:List e8Sc}{q:Qy}(h:(((Ls q.pattern).length:Int) != (q.vars.length:Int))=false):VrE T q=vrG T ((Ls q.pattern).map (·.2)) [] 0 q.vars:=Bo h
theorem rz_vars (T:List e8Sc)(htl:T.length<=1048576)(q:Qy)(hnd:KN (Ls q.pattern))(hnu:∀(i:Nat) (x:Int×Int),(Ls q.pattern)[i]? = some x->x.1=(i:Int))(hpn:Iw q.pattern<=1048576)(hv:q.vars.length<=1048576)(hvn:∀v∈q.vars,v.name.length<=1048576):An Tryz.prog 123 [.sl 2 (T.map Lz),.agg (cQy q)] (.int .i64 (VrE T q)):=by
 refine Fb 59 Tryz.func123 rfl fun H=>?_
 refine Aa (Qp (Hu J5) (Qp Aq (B7 (Qp (Qf gjz) (Qp (Cm Fq) (Qe (Dq rfl (rz_typed q.pattern hnd hpn _)) ?_))))));rintro _ _ ⟨b11,es,rfl,rfl,hes⟩;refine Qp Sa (Ax (B5 ?_));refine AOL.ghost (GS.imAbs 0 rfl rfl) ?_;refine AOL.ghost (GS.freezeMap (t:=5) 0 rfl rfl) ?_;refine Qp (A1 (v:=.mapv _) rfl) (Qp (wZ (n:=(Ls q.pattern).length) tok rfl rfl rfl ((Bt _).trans (wG hnd hes))) (Qp (Qf ggy) (Qp Dd ?_)));refine Qp (E6 q.vars.length rfl rfl (by simp)) ?_;refine Qp Cb (Bh (fun hc1=>Aa (Qp Aq (Rc (Qr (Iq _) ?_)))) fun hc1=>?_)
 . exact Ye (AV.int .i64) (vE_15 hc1)
 have hlv:(Ls q.pattern).length=q.vars.length:=by have:=hc1;simp at this;omega
 refine B2 (Aa (Qe (Iz) ?_));rintro _ _ ⟨b18,rfl,rfl⟩;refine Qp Sa (Ax (B5 (Qp (Qf ggy) (Qp Dd ?_))));refine Qp (E6 q.vars.length rfl rfl (by simp)) ?_;refine Qp Ap (Ax (AW.block ?_));refine AW.Aad (fun (z:Nat×List Ag)=>(⟨[(0,.sl 2 (T.map Lz)),(3,.ptr (cQy q)),(5,.mapv (imA es)),(6,.val (.map (some b18))),(20,.sl 2 (q.vars.map Tn)),(21,.int .i64 q.vars.length),(22,.int .i64 (z.1:Int))],.smap b18 (U3 z.2)::H,59⟩:St)) (fun z=>z.1<=q.vars.length/\vrG T ((Ls q.pattern).map (·.2)) [] 0 q.vars=vrG T ((Ls q.pattern).map (·.2)) z.2 z.1 (q.vars.drop z.1)) (fun z=>q.vars.length-z.1) ((0,[])) ?_ C2 ?_
 . exact ⟨A9 _,rfl⟩
 rintro z hR;refine Aa (Qp Cn (Re (Hb (fun hc2=>?_) fun hc2=>?_)))
 .
  obtain ⟨a,ha⟩:=Cj hc2;have hlt:=Bz ha;have hm:=Aj ha;have hlk:Zh (imA es) ((z.1:Nat):Int)=some (.int .i64 ((((Ls q.pattern).map (·.2))[z.1]?).getD 0)):=ty_look hes (List.getElem?_eq_getElem (show z.1<(Ls q.pattern).length by omega)) (hnu _ _ (List.getElem?_eq_getElem _));refine B2 (AW.seq (AW.block (Aa (Qp Ap ?_))));refine Qp (Eh Iv rfl rfl (by omega) (Cp ha)) ?_;refine Qp (Cm Iv) (D5 gkx fun b8=>Qp Aq ?_);refine By 0 Iv (_::_::_) ?_;refine Kc 8 0 rfl ?_;refine Re (AW.block (Aa (Qp (Qf Iv) (Qp Gr (Qp (Qc rfl (c20 a.name (hvn a hm))) (Qp Cb (Qp Bc (Bh (fun hc3=>Aa (Qp Aq (Ra (Rj (A7 ?_))))) fun hc3=>Aa (Qp Bx (Qp (Qf Iv) (Qp Gr ?_)))))))))))
  .
   refine Yx [Iq _] Ze S1 ?_;exact Ye (AV.int .i64) ((vE_n hc1).trans (hR.2.trans (vr_no ha (ve8 hc3) (by decide))))
  refine AOL.Aag (Mn (i:=0) (ks:=z.2) tok rfl rfl rfl rfl rfl (by kernel_rfl) rfl rfl rfl) rfl rfl ?_;refine Qp Bc (Bh (fun hc4=>Aa (Qp Aq (Ra (Rj (A7 ?_))))) fun hc4=>Aa (Qp (Qf [Iq _]) (Qp B6 (Qp Cn (Qp Cc (Qg [] Qw (Qf [Iq _]) (Qg [(42,_)] Qw B6 (Qg [] Qw K7 ?_))))))))
  .
   refine Yx [Iq _] Ze S1 ?_;exact Ye (AV.int .i64) ((vE_n hc1).trans (hR.2.trans (vr_no ha (ve7 hc3 hc4) (by decide))))
  refine Yh [(44,_)] Qw (fun hG=>E6 T.length rfl rfl (by simp)) ?_;refine Qg [(43,_),(45,_)] Yw Kv (Qp E5 (Qp Bc (Bh (fun hc5=>Aa (Qp Aq (Ra (Rj (A7 ?_))))) fun hc5=>?_)))
  .
   refine Yx [Iq _] Ze S1 ?_;exact Ye (AV.int .i64) ((vE_n hc1).trans (hR.2.trans (vr_no ha (ve6 hc3 hc4 hc5) (by decide))))
  refine Aa (Qp (A1 (v:=.mapv _) rfl) (Qp Ap (Qp (Zz tok rfl rfl rfl rfl rfl rfl (hlk)) (Qp (Qf [Iq _]) (Qp B6 (Qp Cb (Qp Bc (Bh (fun hc6=>Aa (Qp Aq (Ra (Rj (A7 ?_))))) fun hc6=>Rf (AW.region (Qp Bx (Qp (Qf Iv) (Qp Gr (Rt (O7 (i:=0) (H2:=_::_) tok rfl rfl rfl rfl rfl rfl rfl rfl (hc4) rfl) (Rk (AW.region (Qp Gw (Qp Ap (Ax ?_))))))))))))))))))
  .
   refine Yx [Iq _] Ze S1 ?_;exact Ye (AV.int .i64) ((vE_n hc1).trans (hR.2.trans (vr_no ha (ve9 hc3 hc4 hc5 hc6) (by decide))))
  refine ⟨(z.1+1,z.2 ++ [a.name]),?_,?_,C2⟩
  . exact ⟨hlt,hR.2.trans (vr_on ha (ve0 hc3 hc4 hc5 hc6))⟩
  simp only;omega
 have hde:=Fw hc2;have hall:=hR.2;rw [hde,vrG] at hall;refine AW.exit ?_;refine B1 (Ri (Aa (Qp Aq (Rb ?_))));refine Yx [Iq _] Ze S1 ?_;exact Ye (AV.int .i64) ((vE_n hc1).trans hall)
def cRvX (T:List e8Sc)(V:List Va)(m1 m2 n1 n2:AV):List AV:=[.sl 2 (T.map Lz),m1,.sl 2 (V.map Tn),m2,n1,n2]
theorem eq_no {l m:List Int}(h:((l.length:Int) != (m.length:Int))=true):(l==m)=false:=by
 rw [Hm];rintro rfl;simp at h
theorem eq_ne {l m:List Int}{k:Nat}{a c:Int}(ha:l[k]? = some a)(hc:m[k]? = some c)(h:(a != c)=true):(l==m)=false:=by
 rw [Hm];rintro rfl;rw [ha] at hc;cases hc;simp at h
theorem eq_on {l m:List Int}{k:Nat}{a c:Int}(ha:l[k]? = some a)(hc:m[k]? = some c)(h:(a != c)=false)(hk:l.take k=m.take k):l.take (k+1)=m.take (k+1):=by
 rw [C9 ha,C9 hc,hk];have:a=c:=by simpa using h
 rw [this]
theorem eq_all {l m:List Int}(hl:l.length=m.length)(h:l.take l.length=m.take l.length):(l==m)=true:=by
 rw [Qm,hl,Qm] at h;rw [h];simp
abbrev lY (q:List Int×Bool):AV:=AV.tuple [.sl 1 (q.1.map cI),.bool q.2]
abbrev Xd (q:Ag×Bool):AV:=AV.tuple [.str q.1,.bool q.2]
theorem rz_key (T:List e8Sc)(V:List Va)(s:Nx)(bp:Nat)(m1 m2 n1 n2:AV)(hrv:RvOK T V)(n:Ag)(hT:0<T.length):Bk Tryz.prog 97 bp 159 (cRvX T V m1 m2 n1 n2) (cRvX T V m1 m2 n1 n2) [.val (.pointer (some ⟨bp,0,none⟩)),.str n] (.tuple [.sl 1 ((Uy T V n).1.map cI),.bool (Uy T V n).2]):=by
 intro H;have htl:=hrv.tl;have hvl:=hrv.vl;refine Jg 47 Tryz.func97 rfl ?_;refine Aa (Qp (B8 (z:=1) rfl) (Qp Bc (B7 (Qp (Jh ([[Iq _]]) rfl) (Qp Bx (Qp (Ad rfl) (Qp Cw (Sw 0 (.sl _ _) rfl ?_))))))));refine Qp (E6 T.length rfl rfl (by simp)) ?_;refine Qe (Dq rfl (vR _ T.length hT hrv.tl)) ?_;rintro _ _ ⟨b15,rfl,rfl⟩;refine Qp Sa (Ax (B5 (Qp Bx (Qp (Ad rfl) (Qp Cw (Sw 1 (.sl _ _) rfl ?_))))));refine Qp (E6 V.length rfl rfl (by simp)) ?_;refine Qp Ap (Ax (AW.block ?_));refine AW.Aad (fun (q:Nat×List Int)=>(⟨[(0,.val (.pointer (some ⟨bp,0,none⟩))),(1,.str n),(6,.val (.slice (some ⟨b15,0,none⟩) T.length T.length)),(19,.sl 2 (V.map Tn)),(20,.int .i64 V.length),(21,.int .i64 (q.1:Int))],.box b15 3 (bI q.2) :: .box bp 159 (cRvX T V m1 m2 n1 n2)::H,47⟩:St)) (fun q=>q.1<=V.length/\q.2.length=T.length/\Uy T V n=Vj T n (V.drop q.1) q.2) (fun q=>V.length-q.1) ((0,jT T.length)) ?_ C2 ?_
 . exact ⟨A9 _,by simp [jT],rfl⟩
 rintro q hR;refine Aa (Qp Cn (Re (Hb (fun hc1=>?_) fun hc1=>?_)))
 .
  obtain ⟨a,ha⟩:=Cj hc1;have hlt:=Bz ha;have hm:=Aj ha;have hvt:=hrv.ty a hm;refine (dN hrv hm).elim fun sc hsc=>?_
  have hfl:=hrv.fl sc (Aj hsc);have hb:a.type.toNat<q.2.length:=by have:=hR.2.1;omega
  refine B2 (AW.seq (AW.block (Aa ?_)));refine Qp (Eh Iv rfl rfl (by omega) (Cp ha)) ?_;refine Qp (Cm Iv) (D5 gkx fun b8=>?_);refine By 0 Iv (_::_::_::_) ?_;refine Kc 8 0 rfl ?_;refine Re (Rm 1 rfl (Qn 0 rfl Bx (Qn 1 rfl (Qf [Iq _]) (Qn 2 rfl B6 (Qn 3 rfl Bx (Qn 4 rfl (Ad rfl) (Qn 5 rfl Cw (Qn 6 rfl (Lw (.sl _ _) rfl) ?_))))))));refine Qn 7 rfl (Qf [Iq _]) (Qn 8 rfl B6 (Qn 9 rfl (Eh Nd rfl rfl (hvt.1) (Cp hsc)) (Qn 10 rfl (Cm Nd) (Qn 11 rfl H7 (Qn 12 rfl (Qc rfl (Nr sc hfl n)) (Qn 13 rfl (Fm (o':=a.type.toNat) tok rfl rfl rfl rfl rfl (hvt.1) (hvt.2) (off0 _)) ?_))))));refine fY 14 rfl (Tq (k:=0) (v:=Iq _) (cs':=bI (q.2.set a.type.toNat (Js sc n))) (H2:=_::_::_) tok rfl rfl rfl rfl rfl rfl (bI_fits hb) (xG hb) rfl) ?_;rintro _ _ ⟨rfl,rfl⟩;refine Av (Aa (Qp Bx (Qp (Qf [Iq _]) (Qp B6 (Qp (Fm (o':=a.type.toNat) tok rfl rfl rfl rfl rfl (hvt.1) (hvt.2) (off0 _)) (AOL.Aag (Cr (k:=0) (c:=.int .i64 (Js sc n)) tok rfl rfl rfl (mA hb)) rfl rfl (Qp Cn (Bh (fun hc2=>Aa (Qp (B8 (z:=1) rfl) (Qp Bc (Ra (A7 (Dz (A7 ?_))))))) fun hc2=>Rf (AW.region (Qp Gw (Qp Ap (Ax ?_))))))))))))
  .
   refine ⟨.inr rfl,[.sl _ _,.bool _],Zf,_,S1,?_⟩;exact ⟨Ye lY (hR.2.2.trans (key_hit ha hsc hc2)),rfl⟩
  refine ⟨(q.1+1,q.2.set a.type.toNat (Js sc n)),?_,?_,C2⟩
  . exact ⟨hlt,by simp only [List.length_set];exact hR.2.1,hR.2.2.trans (key_on ha hsc hc2)⟩
  simp only;omega
 have hde:=Fw hc1;have hall:=hR.2.2;rw [hde] at hall;refine AW.exit ?_;refine B1 (Ri (Aa ?_));refine AOL.ghost (GS.freezeSl (t:=6) (z:=1) (es:=q.2.map cI) 0 rfl rfl (bI_flat _) (by rw [Bt];exact hR.2.1.symm) (Br _) (by unfold maxLen;omega) (uN (fun _=>rfl) _) slot_is) ?_;refine Qp K7 (Qp lK (Qp Bc (Rb ?_)));refine ⟨.inr rfl,[.sl _ _,.bool _],Zf,_,S0,?_⟩;exact ⟨Ye lY ((hall.trans (by rw [Vj]):Uy T V n=(q.2,true))),rfl⟩
theorem rz_eq (l m:List Int)(hl:l.length<=1048576)(hm:m.length<=1048576):An Tryz.prog 192 [.sl 1 (l.map cI),.sl 1 (m.map cI)] (.bool (l==m)):=by
 refine Fb 26 Tryz.func192 rfl fun H=>?_
 refine Aa (Qp Bc (Ax (B5 (Qp K7 ?_))));refine Qp (E6 l.length rfl rfl (by simp)) ?_;refine Qp K7 ?_;refine Qp (E6 m.length rfl rfl (by simp)) ?_;refine Qp Cb (Bh (fun hc1=>Aa (Qp Bc (Rc (Qr (.bool _) ?_)))) fun hc1=>?_)
 . exact Ye AV.bool (eq_no hc1)
 have hlm:l.length=m.length:=by have:=hc1;simp at this;omega
 refine B2 (B5 (Qp K7 ?_));refine Qp (E6 l.length rfl rfl (by simp)) ?_;refine Qp Ap (Ax (AW.block ?_));refine AW.Aad (fun (k:Nat)=>(⟨[(0,.sl 1 (l.map cI)),(1,.sl 1 (m.map cI)),(12,.int .i64 l.length),(13,.int .i64 (k:Int))],H,26⟩:St)) (fun k=>k<=l.length/\l.take k=m.take k) (fun k=>l.length-k) (0) ?_ C2 ?_
 . exact ⟨A9 _,rfl⟩
 rintro k hR;refine Aa (Qp Cn (Re (Hb (fun hc2=>?_) fun hc2=>?_)))
 .
  obtain ⟨a,ha⟩:=Cj hc2;have hlt:=Bz ha;have hm:=Aj ha;obtain ⟨c,hc⟩:∃c,m[k]? = some c:=⟨_,List.getElem?_eq_getElem (show k<m.length by omega)⟩;refine B2 (AW.seq (AW.block (Aa (Qp Ap (Qp Aq (Re ?_))))));refine Mo ?_;refine Qn 0 rfl K7 (Qn 1 rfl Ap ?_);refine Qn 2 rfl (Eh [Iq _] rfl rfl (by omega) (Cp ha)) ?_;refine Qn 3 rfl B6 (Qn 4 rfl K7 (Qn 5 rfl Ap ?_));refine Qn 6 rfl (Eh [Iq _] rfl rfl (by omega) (Cp hc)) ?_;refine Qn 7 rfl B6 (Qn 8 rfl Cb ?_);refine Ig ?_;refine Av (Hb (fun hc3=>Aa (Qp Bc (Ra (A7 (Dz (A7 (Qr (.bool _) ?_))))))) fun hc3=>Rf (AW.region (Qp Gw (Qp Ap (Ax ?_)))))
  . exact Ye AV.bool (eq_ne ha hc hc3)
  refine ⟨k+1,?_,?_,C2⟩
  . exact ⟨hlt,eq_on ha hc hc3 hR.2⟩
  omega
 have hke:k=l.length:=by have:=G3 hc2;have:=hR.1;omega
 subst hke;refine AW.exit ?_;refine B1 (Ri (Aa (Qp Bc (Rb ?_))));refine Qr (.bool _) ?_;exact Ye AV.bool (eq_all hlm hR.2)
theorem rz_index (l:List Va)(hl:l.length<=1048576)(K:FuncId)(hK:Xq Tryz.prog K=true)(cs:List AV)(p:Va->Bool)(hf:∀a∈l,An Tryz.prog K (.agg (Tn a)::cs) (.bool (p a))):An Tryz.prog 193 [.sl 2 (l.map Tn),.fn (.func K) [] cs] (.int .i64 (Y7 p l)):=by
 refine Fb 19 Tryz.func193 rfl fun H=>?_
 refine Aa (Qp Aq (Ax (B5 (Qp K7 ?_))));refine Qp (E6 l.length rfl rfl (by simp)) ?_;refine Qp Ap (Ax (AW.block ?_));refine AW.Aad (fun (k:Nat)=>(⟨[(0,.sl 2 (l.map Tn)),(1,.fn (.func K) [] cs),(6,.sl 2 (l.map Tn)),(7,.int .i64 l.length),(8,.int .i64 (k:Int))],H,19⟩:St)) (fun k=>k<=l.length/\(l.take k).any p=false) (fun k=>l.length-k) (0) ?_ C2 ?_
 . exact ⟨A9 _,by simp⟩
 rintro k hR;refine Aa (Qp Cn (Re (Hb (fun hc1=>?_) fun hc1=>?_)))
 .
  obtain ⟨a,ha⟩:=Cj hc1;have hlt:=Bz ha;have hm:=Aj ha;refine B2 (AW.seq (AW.block (Aa (Qp Ap (Qp Aq (B7 (Qp (A1 (v:=.fn _ _ _) rfl) (Qp K7 (Qp Ap ?_)))))))));refine Qp (Eh Iv rfl rfl (by omega) (Cp ha)) ?_;refine Qp (Cm Iv) (Qp (R0 hK rfl rfl rfl (hf a (Aj ha))) (Bh (fun hc2=>Aa (Qp Ap (Qp Aq (Ra (A7 (Dz (A7 (Qr (Iq _) ?_)))))))) fun hc2=>Rf (AW.region (Qp Gw (Qp Ap (Ax ?_))))))
  . exact Ye (AV.int .i64) (jE ha hR.2 hc2)
  refine ⟨k+1,?_,?_,C2⟩
  . exact ⟨hlt,M2 hR.2 ha hc2⟩
  omega
 have hte:=Ds hc1;have hall:=hR.2;rw [hte] at hall;refine AW.exit ?_;refine B1 (Ri (Aa (Qp Aq (Rb ?_))));refine Qr (Iq _) ?_;exact Ye (AV.int .i64) (cK hall)
theorem KeyR_len (T:List e8Sc)(V:List Va)(n:Ag):(Uy T V n).1.length<=T.length:=by
 have h:=tI (T:=T) (n:=n) V (List.replicate T.length (-1));rw [Wv] at h;exact h
section
variable {T:List e8Sc} {q:Qy}
theorem ky_1 (h:((q.key.length:Int)==0)=true):eV T q=([],true):=if_pos h
theorem ky_2 (h:((q.key.length:Int)==0)=false)(h2:((q.key.length:Int) != (T.length:Int))=true):eV T q=([],false):=(Bo h).trans (if_pos h2)
theorem ky_3 (h:((q.key.length:Int)==0)=false)(h2:((q.key.length:Int) != (T.length:Int))=false)(h3:(decide (tP q<0)||decide (((kyF T q).length:Int)<=tP q))=true):eV T q=([],false):=(Bo h).trans ((Bo h2).trans (if_pos h3))
theorem ky_4 (h:((q.key.length:Int)==0)=false)(h2:((q.key.length:Int) != (T.length:Int))=false)(h3:(decide (tP q<0)||decide (((kyF T q).length:Int)<=tP q))=false):eV T q=(cQ T q,kyO T q):=(Bo h).trans ((Bo h2).trans (Bo h3))
theorem kv0 (h:0<q.vars.length):q.vars[0]? = some ((q.vars[0]?).getD va0):=by rw [List.getElem?_eq_getElem h];rfl
theorem ks0 (h:0<=cN q/\cN q<(T.length:Int)):T[(cN q).toNat]? = some ((T[(cN q).toNat]?).getD lQ):=by rw [List.getElem?_eq_getElem (show (cN q).toNat<T.length by omega)];rfl
theorem kk0 (h:0<=cN q/\cN q<(T.length:Int))(h2:((q.key.length:Int) != (T.length:Int))=false):q.key[(cN q).toNat]? = some (tP q):=by
 have h3:q.key.length=T.length:=by simp at h2;omega
 unfold tP ixI;rw [List.getElem?_eq_getElem (show (cN q).toNat<q.key.length by omega)];rfl
theorem kf0 (h:(decide (tP q<0)||decide (((kyF T q).length:Int)<=tP q))=false):0<=tP q/\(kyF T q)[(tP q).toNat]? = some (((kyF T q)[(tP q).toNat]?).getD fi0):=by
 simp only [Eb,It] at h;refine ⟨by omega,?_⟩;rw [List.getElem?_eq_getElem (show (tP q).toNat<(kyF T q).length by omega)];rfl
end
theorem rz_keyed (T:List e8Sc)(hT:TsOK T)(hsn:∀s∈T,Th s)(q:Qy)(hrv:RvOK T q.vars)(hvp:0<q.vars.length)(hkl:q.key.length<=1048576):An Tryz.prog 124 [.sl 2 (T.map Lz),.agg (cQy q)] (.tuple [.str (eV T q).1,.bool (eV T q).2]):=by
 have htl:=hT.tl;have hv0:=kv0 hvp;have hk0:0<=cN q/\cN q<(T.length:Int):=hrv.ty _ (Aj hv0);have hs0:=ks0 hk0;have hTp:0<T.length:=by omega
 refine Fb 83 Tryz.func124 rfl fun H=>?_
 refine Aa (Qp (Hu J5) (Qp Lu (Qp Bc (Ax (B5 (Qp (Qf giz) (Qp Dd ?_)))))));refine Qp (E6 q.key.length rfl rfl (by simp)) ?_;refine Qp Bl (Bh (fun hc1=>?_) fun hc1=>?_)
 .
  refine Aa (Qp Lu (Qp Bc (Rc ?_)));refine O0 (.str _) (.bool _) ?_;exact Ye Xd (ky_1 hc1)
 refine B2 (B5 (Qp (Qf giz) (Qp Dd ?_)));refine Qp (E6 q.key.length rfl rfl (by simp)) ?_;refine Qp K7 ?_;refine Qp (E6 T.length rfl rfl (by simp)) ?_;refine Qp Cb (Bh (fun hc2=>?_) fun hc2=>?_)
 .
  refine Aa (Qp Lu (Qp Bc (Rc ?_)));refine O0 (.str _) (.bool _) ?_;exact Ye Xd (ky_2 hc1 hc2)
 have hky:=kk0 hk0 hc2;refine B2 (Aa (Qp K7 ?_));refine Qe (Dq rfl (Wb T hT.tl hT.nd _)) ?_;rintro _ _ ⟨b23,s23,rfl,rfl⟩;refine Qp Sa (B7 (Qp Bx (Qp (Qf ggy) (Qp Dd ?_))));refine Qp (Ad rfl) ?_;refine Qp Cw ?_;refine By 0 [_,_,_,_,Iq _,Iq _] (_::_::_) ?_;refine B7 (Qp (Qf ggy) (Qp Dd ?_));refine Qp (Eh Iv rfl rfl (by decide) (Cp hv0)) ?_;refine Qp (Qf [Iq _]) (Qp B6 (Qp Aq (Ax (B5 (Qp (Qf giz) (Qp Dd (Qp Ap ?_)))))));refine Qp (Eh [Iq _] rfl rfl (hk0.1) (Cp hky)) ?_;refine Qp B6 (Qp Aq (B7 (Qp Ap (Qp Cn (Qp Cc (Qg [] Qw Ap (Qg [] Qw K7 (Qg [] Qw Ap ?_))))))));refine Qg [(43,_),(44,_)] (Yv rfl Es Es) (Eh Nd rfl rfl (hk0.1) (Cp hs0)) ?_;refine Qg [(45,_)] Qw (Qf [_]) (Qg [(46,_)] Qw Dd ?_);refine Yh [(47,_)] Qw (fun hG=>E6 ((kyF T q).length) rfl rfl (by rw [Bt];rfl)) ?_;refine Qg [(42,_),(48,_)] Yw Kv ?_;refine Qp E5 (Bh (fun hc3=>?_) fun hc3=>?_)
 .
  refine Aa (Qp Lu (Qp Bc (Rc ?_)));refine Yx [.str _,.bool _] Zf S2 ?_;exact Ye Xd (ky_3 hc1 hc2 hc3)
 have hfi:=kf0 hc3;have hnl:(cQ T q).length<=1048576:=(hsn _ (Aj hs0)).2.2 _ (Aj hfi.2);refine B2 (AW.seq ?_);refine Mo ?_;refine Qn 0 rfl K7 (Qn 1 rfl Ap ?_);refine Qn 2 rfl (Eh Nd rfl rfl (hk0.1) (Cp hs0)) ?_;refine Qn 3 rfl (Qf [_]) (Qn 4 rfl Dd (Qn 5 rfl (Qf giz) (Qn 6 rfl Dd (Qn 7 rfl Ap ?_))));refine Qn 8 rfl (Eh [Iq _] rfl rfl (hk0.1) (Cp hky)) ?_;refine Qn 9 rfl B6 ?_;refine Qn 10 rfl (Eh Iv rfl rfl (hfi.1) (Cp hfi.2)) ?_;refine Qn 11 rfl (Qf Iv) (Qn 12 rfl Gr (Qn 13 rfl Lu ?_));refine Ig ?_;refine Av (Aa (Qp Bx (Qp H7 ?_)));refine AOL.Aag (Cu (k:=0) (by kernel_rfl) rfl rfl (rz_key T q.vars ⟨0,0⟩ b23 _ _ _ _ hrv (cQ T q) hTp)) rfl rfl ?_;refine Qp Oz (Qp Qxs (Qp lL (Qp lK (Qp Bc (B7 (Qp H7 (Qp Cc (Qp Cc (Qg [] Qw K7 ?_)))))))));refine Qg [] Qw (Qf giz) (Qg [(74,_)] Qw Dd ?_);refine Yh [(73,_),(75,_)] Yw (fun hG=>Qc rfl (rz_eq (Uy T q.vars (cQ T q)).1 q.key (by have:=KeyR_len T q.vars (cQ T q);omega) hkl)) ?_;refine Qp Ju (Qp Cc (Qg [] Qw H7 ?_));refine Qg [(79,_)] Qw (Qc rfl (c20 (cQ T q) hnl)) ?_;refine Qg [(80,_)] Qw Bl (Qp Ju (Qp Lu (Qp Bc (Rb ?_))));refine Yx [.str _,.bool _] Zf S2 ?_;exact Ye Xd (ky_4 hc1 hc2 hc3)
theorem rz_conds (p:Pt)(hp:Iw p<=1048576)(H:List HO):Cf Tryz.prog 127 H [.agg (cPt p)] (fun r H'=>∃v,r = .row v 8 ((Tv p).map H8)/\H' = .row v ((Tv p).map H8).length 36 8::H):=by
 have hal:=N4 p;refine Jg 37 Tryz.func127 rfl ?_;refine Aa (Qp (Hu Fq) (Qp (B8 (z:=8) rfl) (B7 (Qp Sa ?_))));refine AOL.ghost (GS.row (t:=3) 36 8 rfl) ?_;refine Ax ?_;refine AW.Aai (fun (z:List (List AV)×Value)=>(⟨[(1,.ptr (cPt p)),(2,.sl 8 []),(3,.row z.2 8 z.1)],.row z.2 z.1.length 36 8::H,37⟩:St)) (fun z=>z.1=(coH p).map H8) ?_ ?_
 .
  refine Aa (Qp (Qf Fq) (Qp B6 (Qp Bl (Qp Cc (Qg [] Qw (Qf Fq) (Qg [(10,_)] Qw B6 (Qg [(11,_)] Qw Bl (Qp E5 (Qp Cc ?_)))))))));refine Qg [] Qw (Qf Fq) (Qg [(15,_)] Qw B6 (Qg [(16,_)] Qw Bl (Qp E5 (Bh (fun hc1=>AW.region (Qp (A1 (v:=.row _ _ _) rfl) (Qp fM (Qp Rl (Qp (Jh [Ko] rfl) ?_))))) fun hc1=>B2 ?_))))
  .
   refine Qe (W0 0 rfl (Et rfl) (by simp) (by simp) (by simp [maxLen])) ?_;rintro _ _ ⟨v23,rfl,rfl⟩;refine Qp (Ba (v:=.row _ _ _) rfl) (Ax ?_);refine ⟨([cE p.cond],v23),?_,C2⟩;show [cE p.cond]=_;unfold coH;rw [show Tu p=true from hc1];exact congrArg (fun c=>[c]) (Nb _).symm
  refine ⟨([],.slice none 0 0),?_,C2⟩;show []=_;unfold coH;rw [show Tu p=false from hc1];rfl
 rintro z hz;refine B5 (Qp (Qf pG) (Qp Dd ?_));refine Qp (E6 p.args.length rfl rfl (by simp)) ?_;refine Qp Ap (Ax (AW.block ?_));refine AW.Aad (fun (q:Nat×List (List AV)×Value)=>(⟨[(1,.ptr (cPt p)),(2,.sl 8 []),(3,.row q.2.2 8 q.2.1),(25,.sl 14 (p.args.map Oq)),(26,.int .i64 p.args.length),(27,.int .i64 (q.1:Int))],.row q.2.2 q.2.1.length 36 8::H,37⟩:St)) (fun q=>q.1<=p.args.length/\q.2.1=(coH p++(p.args.take q.1).flatMap Tv).map H8) (fun q=>p.args.length-q.1) ((0,z.1,z.2)) ?_ C2 ?_
 . exact ⟨A9 _,by rw [hz];simp⟩
 rintro q hR;refine Aa (Qp Cn (Re (Hb (fun hc2=>?_) fun hc2=>?_)))
 .
  obtain ⟨a,ha⟩:=Cj hc2;have hlt:=Bz ha;have hm:=Aj ha;have hsc:∀c∈q.2.1,A0 c=true:=by rw [hR.2];exact scEx _
  have hb1:q.2.1.length<=1048577:=by have h:=co_part (p:=p) q.1;have h2:=coH_len p;rw [hR.2,Bt,Au];omega
  have hb2:((Tv a).map H8).length<=1048576:=by have:=oN a;have:=Mb hm;rw [Bt];omega
  refine B2 (AW.seq (AW.block (Aa ?_)));refine Qp (Eh Fq rfl rfl (by omega) (Vw ha)) ?_;refine Qp (Cm Fq) (D5 ghx fun b5=>?_);refine By 0 Fq (_::_::_) ?_;refine Kc 5 0 rfl ?_;refine Ax (AW.region (Qp (A1 (v:=.row _ _ _) rfl) (Qp (Cm Fq) ?_)));refine Qp (Qc rfl (rf_conds a (by have:=Mb hm;omega))) ?_;refine Qe (W0 0 rfl (scEx _) (hsc) (by simp at hb2 ⊢;omega) (by simp [maxLen] at hb2 ⊢;omega)) ?_;rintro _ _ ⟨v34,rfl,rfl⟩;refine Qp (Ba (v:=.row _ _ _) rfl) (Rk (AW.region (Qp Gw (Qp Ap (Ax ?_)))));refine ⟨(q.1+1,q.2.1++(Tv a).map H8,v34),?_,?_,C2⟩
  . exact ⟨hlt,by simp only;rw [C9 ha,hR.2];simp⟩
  simp only;omega
 have hte:=Ds hc2;have hall:=hR.2;rw [hte] at hall;refine AW.exit ?_;refine B1 (Ri (Aa ?_));refine Qp (A1 (v:=.row _ _ _) rfl) (Qp (Ba (v:=.row _ _ _) rfl) (Rb ?_));refine ⟨.inr rfl,[.row _ _ _],Ze,_,S0,?_⟩;have hq:q.2.1=(Tv p).map H8:=hall.trans (congrArg (List.map H8) (coP_H p)).symm;exact ⟨q.2.2,congrArg (fun l:List (List AV)=>AV.row q.2.2 8 l) hq,congrArg (fun l:List (List AV)=>(HO.row q.2.2 l.length 36 8::H:List HO)) hq⟩
theorem tnB_any (T:List e8Sc)(q:Qy):(!(q.vars.any fun v=>Hf ((T[v.type.toNat]?).getD lQ).name != 0))=tnB T q:=by
 unfold tnB;rw [List.not_any_eq_all_not]
 congr 1
 funext v
 unfold X7;simp [bne]
theorem rz_sh1 (T:List e8Sc)(hsn:∀s∈T,Th s)(a:Va)(ht:0<=a.type/\a.type<(T.length:Int)):An Tryz.prog 126 [.agg (Tn a),.ptr [.sl 2 (T.map Lz)]] (.bool (Hf ((T[a.type.toNat]?).getD lQ).name != 0)):=by
 refine Fb 12 Tryz.func126 rfl fun H=>?_
 refine Aa (Qp (Hu Iv) (Qp Bc (B7 (Qp Dd (Qp (Qf [Iq _]) (Qp B6 ?_))))));refine Qp (Eh Nd rfl rfl (ht.1) (Cp (ty_in ht))) (Qp (Qf Nd) (Qp Gr (Qp (Qc rfl (c20 ((T[a.type.toNat]?).getD lQ).name (hsn _ (Aj (ty_in ht))).1)) (Qp Cb (Qp Bc (Rb (Qr (.bool _) ?_)))))));rfl
theorem vQ (l:List Va)(hl:l.length<=1048576)(K:FuncId)(hK:Xq Tryz.prog K=true)(cs:List AV)(p:Va->Bool)(hf:∀a∈l,An Tryz.prog K (.agg (Tn a)::cs) (.bool (p a))):An Tryz.prog 125 [.sl 2 (l.map Tn),.fn (.func K) [] cs] (.bool (l.any p)):=by
 refine Fb 9 Tryz.func125 rfl fun H=>?_
 refine Aa (Qp Bc (B7 (Qp K7 (Qp (A1 (v:=.fn _ _ _) rfl) (Qp (Qc rfl (rz_index l hl K hK cs p hf)) (Qp Kv (Qp Bc (Rb (Qr (.bool _) ?_)))))))));exact Eq.trans rfl (congrArg (fun q:Bool=>AV.bool q) (jD p l).2)
theorem rv_of {T:List e8Sc}{q:Qy}(hT:TsOK T)(hc:(Jr q.pattern != 0)=false)(h:VrE T q=0):RvOK T q.vars/\(Ls q.pattern).length=q.vars.length:=by
 have hvl:(Ls q.pattern).length=q.vars.length/\vrG T ((Ls q.pattern).map (·.2)) [] 0 q.vars=0:=by
  unfold VrE at h;split at h
  . cases h
  rename_i h1;exact ⟨by have h2:=h1;simp at h2;omega,h⟩
 have h1:=vrG_ok q.vars [] 0 hvl.2 Uo;refine ⟨⟨hT.tl,hT.fl,by have:=zW hc;have:=hvl.1;omega,fun v hv=>?_⟩,hvl.1⟩;obtain ⟨k,hk⟩:=Gp.1 hv;obtain ⟨_,b,c,_⟩:=h1.2 k v hk;exact ⟨b,c⟩
theorem ty_pos:∀p:Pt,(∀x∈F2 p,NdOK x)->0<(Ls p).length:=by
  intro p
  induction p using Pt.ind with
  | h p ih=>
    intro hp;have hme:=hp p (Rv p);by_cases ho:p.op=0
    . rw [qU,Au]
      have:Zk p = [(p.var,p.type)]:=if_pos (by unfold M5;rw [ho];rfl);rw [this];simp;omega
    . have hl:0<p.args.length:=by
        have h1:=hme.parts.1.1;rcases hme.cases with h | h | h | h | h | h | h | h <;> first | exact absurd h ho | (rw [h] at h1;simp [Ku,shpL] at h1;omega)
      obtain ⟨a,ha⟩:∃a,p.args[0]? = some a:=⟨_,List.getElem?_eq_getElem hl⟩;have hm:=Aj ha;have h2:=ih a hm fun x hx=>hp x (yL hm hx)
      rw [tN ha,Au,Au];omega
section
variable {T:List e8Sc} {q:Qy}
theorem sn_1 (h:(Hf q.name != 0)=true):Yk T q=([],8):=if_pos (aO h)
theorem sn_2 (h:(Hf q.name != 0)=false)(h2:(Jr q.pattern != 0)=true):Yk T q=([],Jr q.pattern):=(Bo (aO h)).trans (if_pos h2)
theorem sn_3 (h:(Hf q.name != 0)=false)(h2:(Jr q.pattern != 0)=false)(h3:(VrE T q != 0)=true):Yk T q=([],VrE T q):=(Bo (aO h)).trans ((Bo h2).trans (if_pos h3))
theorem zP (h:(Hf q.name != 0)=false)(h2:(Jr q.pattern != 0)=false)(h3:(VrE T q != 0)=false):Yk T q=sh1 T q:=(Bo (aO h)).trans ((Bo h2).trans (Bo h3))
theorem sn_4 (h:(!(eV T q).2)=true):sh1 T q=([],16):=if_pos h
theorem sn_5 (h:(!(eV T q).2)=false)(h2:((q.returns.length:Int)==0)=true):sh1 T q=([],15):=(Bo h).trans (if_pos h2)
theorem sn_c (h:(!(eV T q).2)=false)(h2:((q.returns.length:Int)==0)=false):sh1 T q=sh2 T q:=(Bo h).trans (Bo h2)
theorem sn_6 {e:Int}(h:rtE q=e)(he:(e != 0)=true):sh2 T q=([],e):=by unfold sh2;rw [h,if_pos he]
theorem sn_d (h:rtE q=0):sh2 T q=sh3 T q:=by unfold sh2;rw [h];rfl
theorem sn_7 {u:Int×Bool}(h:usR T q=u)(hu:(u.1 != 0)=true):sh3 T q=([],u.1):=by unfold sh3;rw [h,if_pos hu]
theorem sn_8 {b:Bool}(h:usR T q=(0,b))(hb:(!b)=true):sh3 T q=([],8):=by unfold sh3;rw [h];exact (Bo (rfl:((0:Int) != 0)=false)).trans (if_pos hb)
theorem sn_9 {b:Bool}(h:usR T q=(0,b))(hb:(!b)=false):sh3 T q=((eV T q).1,0):=by unfold sh3;rw [h];exact (Bo (rfl:((0:Int) != 0)=false)).trans (Bo hb)
theorem ex_at2 {l m:List Ex}{k:Nat}{a:Ex}(h:(l++m)[k]? = some a):(l.map H8++m.map H8)[k]? = some (cE a):=by rw [<-Dt];exact mR h
theorem co_size {p:Pt}(hp:medP p):∀e∈Tv p,B3 e<=1048576:=fun e he=>by
 obtain ⟨x,hx,rfl⟩:=Cl.1 he;exact hp.cond x (Ka.1 hx).1
end
abbrev Kg (q:Ag×Int):AV:=AV.tuple [.str q.1,.int .i64 q.2]
theorem rz_shown (T:List e8Sc)(hT:TsOK T)(hsn:∀s∈T,Th s)(q:Qy)(hq:medQ q)(hql:q.name.length<=1048576)(hvn:∀v∈q.vars,v.name.length<=1048576):An Tryz.prog 72 [.sl 2 (T.map Lz),.agg (cQy q)] (.tuple [.str (Yk T q).1,.int .i64 (Yk T q).2]):=by
 have hll:(Tv q.pattern++q.returns).length=(Tv q.pattern).length+q.returns.length:=Au;have hcl:=oN q.pattern;have hpn:=hq.p.n;have hrl:=hq.r;refine Fb 97 Tryz.func72 rfl fun H=>?_
 refine Aa (Qp (X9 (v:=.sl _ _) (cs:=[_]) rfl rfl rfl) (Qp (Hu J5) (Qp Lu (Qp Aq (Ax (B5 (Qp (Qf J5) (Qp Gr (Qp (Qc rfl (c20 q.name hql)) (Qp Cb (Bh (fun hc1=>Aa (Qp Lu (Qp Aq (Rc (O0 (.str _) (Iq _) ?_))))) fun hc1=>?_)))))))))))
 . exact Ye Kg (sn_1 hc1)
 refine B2 (B5 (Qp (Qf gjz) (Qp (Cm Fq) (Qp (Qc rfl (vO q.pattern hq.p)) (Qp Aq (B7 (Qp Ap (Qp Cb (Bh (fun hc2=>Aa (Qp Ap (Qp Lu (Qp Aq (Rc (O0 (.str _) (Iq _) ?_)))))) fun hc2=>B2 (B5 (Qp Dd (Qp (Cm J5) (Qp (Qc rfl (rz_vars T hT.tl q (ty_nodup hc2) (fun i x hx=>dO hc2 hx) hq.p.n hq.v hvn)) ?_)))))))))))))
 . exact Ye Kg (sn_2 hc1 hc2)
 refine Qp Aq (B7 (Qp Ap (Qp Cb (Bh (fun hc3=>Aa (Qp Ap (Qp Lu (Qp Aq (Rc (O0 (.str _) (Iq _) ?_)))))) fun hc3=>?_))))
 . exact Ye Kg (sn_3 hc1 hc2 hc3)
 have hrv:=rv_of hT hc2 (by simpa using hc3);have hvp:0<q.vars.length:=by have:=ty_pos q.pattern (Xi hc2);have:=hrv.2;omega
 refine B2 (Aa (Qp Dd (Qp (Cm J5) (Qp (Qc rfl (rz_keyed T hT hsn q hrv.1 hvp hq.k)) (Qp Oz (Qp xE (Qp lL (Qp Lu (Qp Bc (Ax (B5 (Qp Cc (Qp Ix (Bh (fun hc4=>Aa (Qp Lu (Qp Aq (Rc (O0 (.str _) (Iq _) ?_))))) fun hc4=>B2 (B5 (Qp (Qf [_]) (Qp Dd ?_)))))))))))))))))
 . exact Ye Kg ((zP hc1 hc2 hc3).trans (sn_4 hc4))
 refine Qp (E6 q.returns.length rfl rfl (by simp)) ?_;refine Qp Bl (Bh (fun hc5=>Aa (Qp Lu (Qp Aq (Rc (O0 (.str _) (Iq _) ?_))))) fun hc5=>B2 (B5 (Qp (Qf [_]) (Qp Dd ?_))))
 . exact Ye Kg ((zP hc1 hc2 hc3).trans (sn_5 hc4 hc5))
 refine Qp (E6 q.returns.length rfl rfl (by simp)) ?_;refine Qp Ap (Ax (AW.block ?_));refine AW.Aad (fun (k:Nat)=>(⟨[(2,.ptr [.sl 2 (T.map Lz)]),(3,.ptr (cQy q)),(8,.str (eV T q).1),(48,.sl 8 (q.returns.map H8)),(49,.int .i64 q.returns.length),(50,.int .i64 (k:Int))],H,97⟩:St)) (fun k=>k<=q.returns.length/\(q.returns.take k).any (fun x=>Gk x != 0)=false) (fun k=>q.returns.length-k) (0) ?_ C2 ?_
 . exact ⟨A9 _,by simp⟩
 rintro k hR;refine Aa (Qp Cn (Re (Hb (fun hc6=>?_) fun hc6=>?_)))
 .
  obtain ⟨a,ha⟩:=Cj hc6;have hlt:=Bz ha;have hm:=Aj ha;refine B2 (AW.seq (AW.block (Aa ?_)));refine Qp (Eh Ko rfl rfl (by omega) (mR ha)) ?_;refine Qp Rl (D5 ggz fun b11=>?_);refine By 0 Ko (_::_) ?_;refine Kc 11 0 rfl ?_;refine B7 (Qp Rl (Qp (Qc rfl (e8c21 a (hq.e a hm))) (Qp Aq (B7 (Qp Ap (Qp Cb (Bh (fun hc7=>Aa (Qp Ap (Qp Lu (Qp Aq (Ra (A7 (Dz (A7 (O0 (.str _) (Iq _) ?_))))))))) fun hc7=>Rf (AW.region (Qp Gw (Qp Ap (Ax ?_)))))))))))
  . exact Ye Kg (((zP hc1 hc2 hc3).trans (sn_c hc4 hc5)).trans (sn_6 (mW ha hR.2 hc7) hc7))
  refine ⟨k+1,?_,?_,C2⟩
  . exact ⟨hlt,M2 hR.2 ha hc7⟩
  omega
 have hte:=Ds hc6;have hrt:=hR.2;rw [hte] at hrt;refine AW.exit ?_;refine B1 (Ri (Aa (Qp Dd (Qp (Qf ggy) (Qp Dd (Qp (Fj [_,_]) ?_))))));refine D5 [.sl 2 [],.sl 2 []] fun b13=>?_
 refine By 0 [_,_] (_::_) ?_;refine Kc 13 0 rfl ?_;refine B7 (Qp (Qf ggy) (Qp Dd (Qp (B9 (l:=[]) (l':=[.ptr _]) rfl rfl) ?_)));refine Qp (Qc rfl (vQ q.vars hq.v 126 (by kernel_rfl) [.ptr [.sl 2 (T.map Lz)]] (fun v=>Hf ((T[v.type.toNat]?).getD lQ).name != 0) (fun a ha=>rz_sh1 T hsn a (hrv.1.ty a ha)))) ?_;refine Qp Ix (Qp Bc (Re (AW.seq ?_)));refine Mo ?_;refine Qn 0 rfl (Qf gjz) (Qn 1 rfl (Cm Fq) (Qn 3 rfl (Qf [_]) (Qn 4 rfl Dd (Qn 7 rfl Ap ?_))));refine rT 2 rfl (Dq rfl (rz_conds q.pattern hq.p.n _)) ?_;rintro _ _ ⟨v71,rfl,rfl⟩;refine rT 5 rfl (W0 0 rfl (scEx _) (scEx _) (by simp;omega) (by simp [maxLen];omega)) ?_;rintro _ _ ⟨v74,rfl,rfl⟩;refine Qn 6 rfl (G6 (n:=(Tv q.pattern++q.returns).length) tok rfl rfl rfl (by simp)) ?_;refine Ig ?_;refine Av (AW.block ?_);refine AW.ghost (GS.unrow 74 rfl) ?_;refine AW.Aad (fun (z:Nat×Bool)=>(⟨[(8,.str (eV T q).1),(13,.ptr (cNm T q.vars)),(14,.bool z.2),(74,.sl 8 ((Tv q.pattern).map H8++q.returns.map H8)),(75,.int .i64 (Tv q.pattern++q.returns).length),(76,.int .i64 (z.1:Int))],H,97⟩:St)) (fun z=>z.1<=(Tv q.pattern++q.returns).length/\usR T q=Sm T q.vars ((Tv q.pattern++q.returns).drop z.1) z.2) (fun z=>(Tv q.pattern++q.returns).length-z.1) ((0,!(q.vars.any fun v=>Hf ((T[v.type.toNat]?).getD lQ).name != 0))) ?_ (GS.weaken ⟨rfl,rfl,rfl,rfl,rfl,rfl,trivial⟩ (.cons _ (.refl _))) ?_
 . exact ⟨A9 _,by simp only;rw [tnB_any];rfl⟩
 rintro z hz;refine Aa (Qp Cn (Re (Hb (fun hc8=>?_) fun hc8=>?_)))
 .
  obtain ⟨a,ha⟩:=Cj hc8;have hlt:=Bz ha;have hm:=Aj ha;have hsa:B3 a<=1048576:=(Is.1 hm).elim (co_size hq.p a) (hq.e a);refine B2 (AW.seq (AW.block (Aa ?_)));refine Qp (Eh Ko rfl rfl (by omega) (ex_at2 ha)) ?_;refine Qp Rl (D5 ggz fun b16=>?_);refine By 0 Ko (_::_) ?_;refine Kc 16 0 rfl ?_;refine B7 (Qp (Cm [_,_]) (Qp Rl (Qp (Qc rfl (rf_uses T q.vars hrv.1 hsn a hsa)) (Qp Oz (Qp Lv (Qp lL (Qp Aq (Qp Bc (Ax (B5 (Qp Ap (Qp Cb ?_))))))))))));refine Bh (fun hc9=>Aa (Qp Ap (Qp Lu (Qp Aq (Rc (Rj (A7 (O0 (.str _) (Iq _) ?_)))))))) fun hc9=>B2 (AW.region (Qp Cc (Qp Cc (Qg [] Qw Cc (Qp Ju (Qp Bc (Rk (AW.region (Qp Gw (Qp Ap (Ax ?_)))))))))))
  . exact Ye Kg ((((zP hc1 hc2 hc3).trans (sn_c hc4 hc5)).trans (sn_d (Pi hrt))).trans (sn_7 (hz.2.trans (useL_no ha hc9)) hc9))
  refine ⟨(z.1+1,z.2&&(U4 T q.vars a).2),?_,?_,C2⟩
  . exact ⟨hlt,hz.2.trans (useL_on ha hc9)⟩
  simp only;omega
 have hde:=Fw hc8;have hall:=hz.2;rw [hde,Sm] at hall;refine AW.exit ?_;refine B1 (Ri (B5 (Qp Cc (Qp Ix (Bh (fun hc10=>?_) fun hc10=>?_)))))
 .
  refine Aa (Qp Lu (Qp Aq (Rc (O0 (.str _) (Iq _) ?_))));exact Ye Kg ((((zP hc1 hc2 hc3).trans (sn_c hc4 hc5)).trans (sn_d (Pi hrt))).trans (sn_8 hall hc10))
 refine B2 (Aa (Qp H7 (Qp Lu (Qp Aq (Rb (O0 (.str _) (Iq _) ?_))))));exact Ye Kg ((((zP hc1 hc2 hc3).trans (sn_c hc4 hc5)).trans (sn_d (Pi hrt))).trans (sn_9 hall hc10))
theorem ShOK.shn {T:List e8Sc}{q:Qy}(h:ShOK T q)(hq:medQ q):∀x∈F2 q.pattern,ShN T q.vars x:=fun x hx=>by
 have hp:=h.pt x hx;refine ⟨hp.n.op,fun ht=>?_,fun hc=>⟨hq.p.cond x hx,(hp.c hc).n,(hp.c hc).k⟩⟩;have hr:=hp.n.rng (by rw [<-hp.n.flags.1];exact ht);obtain ⟨i,hi⟩:=Gp.1 (show (x.var,x.type)∈Ls q.pattern from Cl.2 ⟨x,Ka.2 ⟨hx,ht⟩,rfl⟩);have h1:=dO h.p hi;have h2:=(List.getElem?_eq_some_iff.1 hi).1;have h3:=h.vl.1;simp only at h1;exact ⟨⟨hr.1.1,hp.t ht⟩,hr.2.1,by omega⟩
section
variable {T:List e8Sc} {q:Qy}
theorem sw_1 (h:(Ef T != 0)=true):Li T q=(Gz,Ef T):=if_pos h
theorem sw_2 (h:(Ef T != 0)=false)(h2:((Yk T q).2 != 0)=true):Li T q=(Gz,(Yk T q).2):=(Bo h).trans (if_pos h2)
theorem sw_3 (h:(Ef T != 0)=false)(h2:((Yk T q).2 != 0)=false)(h3:((Bg (qT T q) (.only 3)).2 != 0)=true):Li T q=(Gz,(Bg (qT T q) (.only 3)).2):=(Bo h).trans ((Bo h2).trans (if_pos h3))
theorem sw_4 (h:(Ef T != 0)=false)(h2:((Yk T q).2 != 0)=false)(h3:((Bg (qT T q) (.only 3)).2 != 0)=false):Li T q=(qT T q,0):=(Bo h).trans ((Bo h2).trans (Bo h3))
def Yj (T:List e8Sc)(q:Qy)(k:Nat):List (List AV):=((⟨4,(Yk T q).1,[],0,[],0⟩:Syn)::Nf T q.vars q.pattern::(q.returns.take k).map (Ny T q.vars)).map C6
theorem qk_0:([[.int .i64 4,.str (Yk T q).1,.str [],.int .i64 0,.sl 6 [],.int .i64 0],cSyn (Nf T q.vars q.pattern)]:List (List AV))=Yj T q 0:=by
 unfold Yj;rw [Wu,A5,Ao,Ao,A5,Bf,Bf];rfl
theorem qk_on {k:Nat}{a:Ex}(ha:q.returns[k]? = some a):Yj T q k ++ [cSyn (Ny T q.vars a)]=Yj T q (k+1):=by
 unfold Yj;rw [C9 ha,Dt,Wy,Ao,Ao,Ao,Ao,Dt,Wy,Bf (Ny T q.vars a)];rfl
theorem qk_len {k:Nat}(h:k<=q.returns.length):(Yj T q k).length=k+2:=by
 unfold Yj;simp;omega
theorem qk_sc (k:Nat):∀c∈Yj T q k,A0 c=true:=scLe _
end
abbrev Xe (q:Syn×Int):AV:=AV.tuple [.agg (cSyn q.1),.int .i64 q.2]
theorem rz_Show (T:List e8Sc)(hl:T.length<=1048576)(hsn:∀s∈T,Th s)(q:Qy)(hq:medQ q)(hql:q.name.length<=1048576)(hvn:∀v∈q.vars,v.name.length<=1048576)(hmed:ShOK T q->Jv (qT T q)):An Tryz.prog 29 [.sl 2 (T.map Lz),.agg (cQy q)] (.tuple [.agg (cSyn (Li T q).1),.int .i64 (Li T q).2]):=by
 have hrl:=hq.r;refine Fb 71 Tryz.func29 rfl fun H=>?_
 refine Aa (Qp (Hu J5) ?_);refine D5 I6 fun b4=>?_
 refine Qp Aq (Ax (B5 (Qp K7 (Qp (Qc rfl (e8c57 T hl hsn)) (Qp Aq (B7 (Qp Ap (Qp Cb (Bh (fun hc1=>Aa (Qp (Fj Ai) (Qp Ap ?_))) fun hc1=>?_)))))))))
 .
  refine By 0 Ai (_::_) (Qp Aq (Rc ?_));refine Yx [.agg Ai,Iq _] (Zc 0) S1 ?_;exact Ye Xe (sw_1 hc1)
 refine B2 (Aa (Qp K7 (Qp (Cm J5) (Qp (Qc rfl (rz_shown T (xF hc1) hsn q hq hql hvn)) (Qp Oz (Qp xE (Qp Lv (Qp Lu (Qp Aq (Ax (B5 (Qp Ap (Qp Cb (Bh (fun hc2=>Aa (Qp (Fj Ai) (Qp Ap ?_))) fun hc2=>?_))))))))))))))
 .
  refine By 0 Ai (_::_) (Qp Aq (Rc ?_));refine Yx [.agg Ai,Iq _] (Zc 0) S1 ?_;exact Ye Xe (sw_2 hc1 hc2)
 have hok:ShOK T q:=(sh_ok hc1 hc2).1;refine B2 (Aa (Qp K7 (Qp (Qf ggy) (Qp Dd (Qp (Fj [_,_]) (D5 [.sl 2 [],.sl 2 []] fun b9=>?_))))));refine By 0 [_,_] (_::_::_) ?_;refine Kc 9 0 rfl ?_;refine Ax ?_;refine AW.Aai (fun (w:Nat×Value)=>(⟨[(3,.ptr (cQy q)),(4,.val (.pointer (some ⟨b4,0,none⟩))),(9,.ptr (cNm T q.vars)),(10,.val (.pointer (some ⟨w.1,0,none⟩)))],.row w.2 2 25 6 :: .box w.1 25 [.int .i64 3,.str q.name,.str [],.int .i64 0,.row w.2 6 [[.int .i64 4,.str (Yk T q).1,.str [],.int .i64 0,.sl 6 [],.int .i64 0],cSyn (Nf T q.vars q.pattern)],.int .i64 0] :: .box b4 25 I6::H,71⟩:St)) (fun w=>True) ?_ ?_
 .
  refine Mo ?_;refine Qn 0 rfl (Qf J5) (Qn 1 rfl Gr (Qn 2 rfl H7 (Qn 3 rfl (Fj Ai) (Qn 4 rfl (Cm [_,_]) (Qn 5 rfl (Qf gjz) (Qn 6 rfl (Cm Fq) (Qn 7 rfl (Qc rfl (zI T q.vars hok.rv hsn q.pattern (hok.shn hq) hq.p.n)) ?_)))))));refine Hq.two _ _ 8 10 _ _ _ _ rfl rfl (by kernel_rfl) rfl rfl rfl rfl (Hv (es:=[Ai,Ai]) tok rfl rfl rfl rfl rfl rfl rfl rfl rfl) (Ke (l:=I6) (by kernel_rfl)) (by rintro _ _ ⟨v43,rfl,rfl⟩;trivial) (by rintro _ _ ⟨b10,rfl,rfl⟩;trivial) ?_ ?_
  .
   rintro _ _ ⟨v43,rfl,rfl⟩;refine Qn 9 rfl (Fj Ai) ?_;refine rT 10 rfl (Ke (l:=I6) (by kernel_rfl)) ?_;rintro _ _ ⟨b10,rfl,rfl⟩;refine Oj 11 rfl (Kt 0 (.agg _) Ai (_::_::_::_) rfl) ?_;refine Ig ?_;refine Av ?_;refine ⟨(b10,v43),?_,GS.trans (GS.perm (List.Perm.swap _ _ _)) C2⟩
   trivial
  rintro _ _ ⟨b10,rfl,rfl⟩;refine rT 8 rfl (Hv (es:=[Ai,Ai]) tok rfl rfl rfl rfl rfl rfl rfl rfl rfl) ?_;rintro _ _ ⟨v43,rfl,rfl⟩;refine Qn 9 rfl (Fj Ai) ?_;refine Oj 11 rfl (Kt 1 (.agg _) Ai (_::_::_::_) rfl) ?_;refine Ig ?_;refine Av ?_;refine ⟨(b10,v43),?_,GS.trans (GS.perm (List.Perm.refl _)) C2⟩
  trivial
 rintro ⟨b10,v⟩ _;refine B5 (Qp (Qf [_]) (Qp Dd ?_));refine Qp (E6 q.returns.length rfl rfl (by simp)) ?_;refine Qp Ap (Ax (AW.block ?_));refine AW.Aad (fun (z:Nat×List (List AV)×Value)=>(⟨[(3,.ptr (cQy q)),(4,.val (.pointer (some ⟨b4,0,none⟩))),(9,.ptr (cNm T q.vars)),(10,.val (.pointer (some ⟨b10,0,none⟩))),(46,.sl 8 (q.returns.map H8)),(47,.int .i64 q.returns.length),(48,.int .i64 (z.1:Int))],.row z.2.2 z.2.1.length 25 6 :: .box b10 25 [.int .i64 3,.str q.name,.str [],.int .i64 0,.row z.2.2 6 z.2.1,.int .i64 0] :: .box b4 25 I6::H,71⟩:St)) (fun z=>z.1<=q.returns.length/\z.2.1=Yj T q z.1) (fun z=>q.returns.length-z.1) ((0,[[.int .i64 4,.str (Yk T q).1,.str [],.int .i64 0,.sl 6 [],.int .i64 0],cSyn (Nf T q.vars q.pattern)],v)) ?_ C2 ?_
 . exact ⟨A9 _,qk_0⟩
 rintro z hR;refine Aa (Qp Cn (Re (Hb (fun hc3=>?_) fun hc3=>?_)))
 .
  obtain ⟨a,ha⟩:=Cj hc3;have hlt:=Bz ha;have hm:=Aj ha;have hsc:∀c∈z.2.1,A0 c=true:=by rw [hR.2];exact qk_sc _
  have hzl:z.2.1.length=z.1+2:=by rw [hR.2];exact qk_len hR.1
  refine B2 (AW.seq (AW.block (Aa ?_)));refine Qp (Eh Ko rfl rfl (by omega) (mR ha)) ?_;refine Qp Rl (D5 ggz fun b12=>?_);refine By 0 Ko (_::_::_::_::_) ?_;refine Kc 12 0 rfl ?_;refine Ax (Rm 1 rfl (Qn 0 rfl Cw (Qn 1 rfl (Lw (.row _ _ _) rfl) (Qn 2 rfl (Cm [_,_]) (Qn 3 rfl Rl (Qn 4 rfl (Qc rfl (zG T q.vars hok.rv hsn a (hq.e a hm) (hok.conds a (Up _ hm)).n (hok.conds a (Up _ hm)).k)) (Qn 5 rfl (Jh [Ai] rfl) ?_)))))));refine Xa 6 rfl (W0 0 rfl (Et rfl) (hsc) (by simp;omega) (by simp [maxLen];omega)) (by rintro _ _ ⟨v58,rfl,rfl⟩;simp) ?_;rintro _ _ ⟨v58,rfl,rfl⟩;refine Qn 7 rfl Cw ?_;refine fY 8 rfl (Kt 1 (.row _ _ _) Ai (_::_::_::_) rfl) ?_;rintro _ _ ⟨rfl,rfl⟩;refine J1 (Av (AW.region (Qp Gw (Qp Ap (Ax ?_)))));refine ⟨(z.1+1,z.2.1 ++ [cSyn (Ny T q.vars a)],v58),?_,?_,C2⟩
  . exact ⟨hlt,(congrArg (· ++ [cSyn (Ny T q.vars a)]) hR.2).trans (qk_on ha)⟩
  simp only;omega
 obtain ⟨z1,z2,z3⟩:=z;have hz1:z1=q.returns.length:=by have:=G3 hc3;have:=hR.1;simp only at this;omega
 have hz2:z2=((⟨4,(Yk T q).1,[],0,[],0⟩:Syn)::Nf T q.vars q.pattern::q.returns.map (Ny T q.vars)).map C6:=by have h:=hR.2;simp only [hz1,Yj,Qm] at h;exact h
 subst hz2;refine AW.exit ?_;refine B1 (Ri (B5 ?_));refine AOL.ghost (GS.cell (H2:=_::_::_::_) 1 4 rfl rfl rfl rfl Eu) ?_;refine Sb 1 Ai rfl (Qp (Qc rfl (m_Query (qT T q) (hmed hok))) (Qp Oz (Qp xE (Qp Lv (Qp Lu (Qp Aq (B7 (Qp Ap (Qp Cb (Bh (fun hc4=>Aa (Qp (Fj Ai) (Qp Ap ?_))) fun hc4=>B2 (Aa (Sb 1 Ai rfl ?_))))))))))))
 .
  refine By 2 Ai (_::_::_::_) (Qp Aq (Rc ?_));refine Yx [.agg Ai,Iq _] (Zc 2) S3 ?_;exact Ye Xe (sw_3 hc1 hc2 hc4)
 refine By 2 Ai (_::_::_::_) (Qp Aq (Rb ?_));refine Yx [.agg Ai,Iq _] (Zc 2) S3 ?_;exact Ye Xe (sw_4 hc1 hc2 hc4)
theorem Zj {s:Ag}(h:X7 s=true):s.length<=24:=(gJ h).2.1
theorem vtext_len {v:Vl}(h:F5 v=0):v.text.length<=64:=by
 have key:∀w:Vl,Uk w=0->w.text.length<=64:=fun w hw=>by
  unfold Uk at hw;split at hw
  . cases hw
  split at hw
  . cases hw
  split at hw
  . cases hw
  rename_i h1;simp only [Ck] at h1;omega
 unfold F5 at h;split at h
 .
  split at h
  . cases h
  exact key v h
 split at h
 .
  split at h
  . cases h
  exact key v h
 cases h
theorem wcon (v:Vl)(h:F5 v=0):wC (fQ v)<=71:=by
 have h1:=vtext_len h
 have h2:(knm v.kind).length<=6:=by
  unfold knm;split
  . decide
  split <;> decide
 rw [Md];show 1+v.text.length+(knm v.kind).length+wL []<=71;rw [wL];omega
theorem qW {α:Type}(f:α->Syn)(g:α->Nat)(c:Nat):∀l:List α,(∀a∈l,wC (f a)<=c*g a)->wL (l.map f)<=c*(l.map g).sum
  | [],_=>by rw [A5,wL];exact A9 _
  | a::r,h=>by
    have h1:=h a (by simp);have h2:=qW f g c r fun b hb=>h b (by simp [hb])
    rw [Ao,wL,Ao,Ew,Nat.mul_add];omega
theorem wL_app (a b:List Syn):wL (a++b)=wL a+wL b:=by
 induction a with
 | nil=>rw [C5,wL,D2]
 | cons x r ih=>rw [Co,wL,wL,ih,Qq]
section
variable {T:List e8Sc} {V:List Va}
theorem wE (hV:∀v,(Ym V v).length<=24):∀e:Ex,Hg e=0->Zi T V e=true->wC (Ny T V e)<=120*B3 e:=by
  intro e
  induction e using Ex.ind with
  | h e ih=>
    intro hn hm;rw [pW,Cd] at hm;have hna:=(Gl hn).2;have hf:=(cY (Gl hn).1).2.1;have hk:=qW (Ny T V) B3 120 e.args fun a ha=>ih a ha (hna a ha) (Fu.1 hm.2 a ha)
    have hvn:=hV e.var
    have hfl:((e.op==1)||(e.op==4))=true->(pD T V e.var e.field).length<=24:=fun h=>by
      have h1:=hm.1;unfold aM at h1;rw [if_pos h] at h1;exact Zj h1
    rw [Ui,Hi,Nat.mul_add];unfold shN;split
    . rename_i h0
      have:=wcon e.val (hf (.inl (by simpa using h0)));omega
    . split
      . rename_i h0 h1
        have h2:=hfl (by rw [h1];rfl);rw [Md];show 1+(Ym V e.var).length+(pD T V e.var e.field).length+wL []<=_;rw [wL];omega
      . split
        . rw [Md]
          show 1+(Ym V e.var).length+4+wL []<=_;rw [wL];omega
        . split
          . rw [Md]
            show 1+(Ym V e.var).length+0+wL []<=_;rw [wL];omega
          . split
            . rename_i h4
              have h2:=hfl (by rw [h4];exact M7 _);have h3:=wcon e.val (hf (.inr (by simpa using h4)));rw [Md];show 1+(Ym V e.var).length+(pD T V e.var e.field).length+wL (if (e.kind != 1) then [fQ e.val] else [])<=_;split
              . rw [wL,wL];omega
              rw [wL];omega
            . split
              . rw [Md]
                show 1+0+0+wL (e.args.map (Ny T V))<=_;omega
              . rw [Md]
                show 1+0+0+wL (e.args.map (Ny T V))<=_;omega
theorem wEv (hV:∀v,(Ym V v).length<=24){p:Pt}(ht:((T[p.type.toNat]?).getD lQ).name.length<=24)(hn:Hg p.cond=0)(hm:Zi T V p.cond=true)(hs:B3 p.cond<=64):wC (Uv T V p)<=7729:=by
 have h1:=wE hV p.cond hn hm;have h2:=hV p.var;unfold Uv;rw [Md];show 1+((T[p.type.toNat]?).getD lQ).name.length+(Ym V p.var).length+wL (if (!(Ge p.cond Mc)) then [Ny T V p.cond] else [])<=_;split
 . rw [wL,wL];omega
 rw [wL];omega
theorem wP (hV:∀v,(Ym V v).length<=24):∀p:Pt,(∀x∈F2 p,(M5 x=true->((T[x.type.toNat]?).getD lQ).name.length<=24)/\(Tu x=true->Hg x.cond=0/\Zi T V x.cond=true/\B3 x.cond<=64))->wC (Nf T V p)<=7730*Iw p:=by
  intro p
  induction p using Pt.ind with
  | h p ih=>
    intro hp;have hme:=hp p (Rv p);have hk:=qW (Nf T V) Iw 7730 p.args fun a ha=>ih a ha fun x hx=>hp x (yL ha hx)
    have ev:M5 p=true->wC (Uv T V p)<=7729:=fun ht=>by
      have hc:=hme.2 (by unfold Tu;unfold M5 at ht;rw [ht];rfl);exact wEv hV (hme.1 ht) hc.1 hc.2.1 hc.2.2
    rw [N6,Lc,Nat.mul_add];unfold lR;split
    . rename_i h0
      have:=ev (by unfold M5;rw [h0];rfl);omega
    . rw [Md]
      show 1+0+0+wL (p.args.map (Nf T V)++(if (p.op==5) then [Uv T V p] else if (p.op==7) then [Ny T V p.cond] else []))<=_;rw [wL_app];split
      . rename_i h5
        have:=ev (by unfold M5;rw [h5];exact M7 _);rw [wL,wL];omega
      . split
        . rename_i h7
          have hc:=hme.2 (by unfold Tu;rw [h7];exact M7 _);have:=wE hV p.cond hc.1 hc.2.1;rw [wL,wL];omega
        rw [wL];omega
end
theorem sh_w {T:List e8Sc}{q:Qy}(h:ShOK T q)(hss:(Yk T q).1=(eV T q).1)(hr:q.returns.length<=20):wC (qT T q)<=1000000:=by
  have hV:∀v,(Ym q.vars v).length<=24:=fun v=>by
    unfold Ym;cases hv:q.vars[v.toNat]? with
    | none=>exact A9 _
    | some a=>
      obtain ⟨k,hk⟩:=Gp.1 (Aj hv);exact Zj (h.va.2 k a hk).1
  have hsz:=(rst_0 (whl_0 (chk_0 h.p))).1
  have hp:=wP (T:=T) hV q.pattern fun x hx=>by
    have hx2:=h.pt x hx;refine ⟨fun ht=>?_,fun hc=>?_⟩
    . obtain ⟨i,hi⟩:=Gp.1 (show (x.var,x.type)∈Ls q.pattern from Cl.2 ⟨x,Ka.2 ⟨hx,ht⟩,rfl⟩)
      have hl:i<q.vars.length:=by rw [<-h.vl.1];exact (List.getElem?_eq_some_iff.1 hi).1
      obtain ⟨v,hv⟩:∃v,q.vars[i]? = some v:=⟨_,List.getElem?_eq_getElem hl⟩;obtain ⟨_,_,_,y,hy,_,h4⟩:=h.va.2 i v hv;rw [hi] at hy;have h5:=Option.some.inj hy;have h6:x.type=v.type:=by rw [<-h4,<-h5]
      have h7:=h.tn;unfold tnB at h7;have h8:=Fu.1 h7 v (Aj hv);rw [h6];exact Zj h8
    . have hc2:=hx2.c hc
      have hk:=hx2.n.parts.2.2.1 (by rw [<-hx2.n.flags.2];exact hc);exact ⟨hc2.n,hc2.m,(Rp hk).1⟩
  have hret:=qW (Ny T q.vars) (fun _=>64) 120 q.returns fun e he=>by
    have hc:=h.conds e (Up _ he);have h1:=wE hV e hc.n hc.m;have h2:=(Rp (h.e e he)).1;omega
  have hsum:∀l:List Ex,(l.map (fun _=>64)).sum=64*l.length:=fun l=>by
    induction l with
    | nil=>rfl
    | cons a r ih=>rw [Ao,Ew,ih,Bb];omega
  rw [hsum] at hret;have hq:q.name.length<=24:=Zj h.n
  have hky:(eV T q).1.length<=24:=by
    have hk:=h.k;unfold eV at hk ⊢;split
    . exact A9 _
    . split
      . exact A9 _
      . split
        . exact A9 _
        . rename_i h1 h2 h3
          rw [if_neg h1,if_neg h2,if_neg h3] at hk;unfold kyO at hk;rw [Cd] at hk;exact Zj hk.2
  have hsk:(Yk T q).1.length<=24:=by rw [hss];exact hky
  unfold qT;rw [Md];show 1+q.name.length+0+wL ((⟨4,(Yk T q).1,[],0,[],0⟩:Syn)::Nf T q.vars q.pattern::q.returns.map (Ny T q.vars))<=1000000;rw [wL,wL,Md ⟨4,(Yk T q).1,[],0,[],0⟩];show 1+q.name.length+0+(1+(Yk T q).1.length+0+wL []+(wC (Nf T q.vars q.pattern)+_))<=_;rw [wL];have h9:7730*Iw q.pattern<=7730*64:=Nat.mul_le_mul_left _ hsz;have h10:120*(64*q.returns.length)<=120*(64*20):=by omega
  omega
theorem sh_med {T:List e8Sc}{q:Qy}(h:ShOK T q)(hss:(Yk T q).1=(eV T q).1)(hr:q.returns.length<=20):Jv (qT T q):=yI (sh_w h hss hr)
theorem wL_le {c:Nat}:∀{l:List Syn},(∀a∈l,wC a<=c)->wL l<=c*l.length
  | [],_=>by rw [wL];exact A9 _
  | x::r,h=>by
    have h1:=h x (by simp);have h2:=wL_le (l:=r) fun a ha=>h a (by simp [ha])
    rw [wL,Bb,Nat.mul_add];omega
theorem ty_w {s:e8Sc}(h:N5 s=0)(hb:Mm s=true):wC (tyT s)<=300:=by
 unfold Mm at hb;rw [Cd] at hb;have h1:=Zj hb.1;have h2:=qL h
 have h3:wL (s.fields.map fiT)<=25*(s.fields.map fiT).length:=wL_le fun a ha=>by
  obtain ⟨f,hf,rfl⟩:=Cl.1 ha;have h4:=Zj (Fu.1 hb.2 f hf);rw [Md];show 1+f.name.length+0+wL []<=25;rw [wL];omega
 rw [Bt] at h3;rw [Md];show 1+s.name.length+0+wL (s.fields.map fiT)<=300;omega
theorem src_med {p:Pg}(h1:(Ef p.types != 0)=false)(h2:p.types.all Mm=true)(h3:p.queries.length<=16)(h4:P4 p.types [] p.queries=0)(hr:∀q∈p.queries,q.returns.length<=20):Jv (Iy p):=by
 obtain ⟨g1,g2,g3⟩:=oG h1;obtain ⟨_,k2⟩:=qR p.queries [] h4 Uo
 have ht:∀a∈p.types.map tyT,wC a<=300:=fun a ha=>by
  obtain ⟨s,hs,rfl⟩:=Cl.1 ha;exact ty_w (g3 s hs) (Fu.1 h2 s hs)
 have hq:∀a∈p.queries.map (qT p.types),wC a<=1000000:=fun a ha=>by
  obtain ⟨q,hq,rfl⟩:=Cl.1 ha;obtain ⟨s1,s2,_,_⟩:=qO (k2 q hq);exact sh_w s1 s2 (hr q hq)
 have w1:=wL_le ht;have w2:=wL_le hq;rw [Bt] at w1 w2;have hl:p.types.length<=16:=by simpa using g1
 refine ⟨⟨⟨A9 _,A9 _⟩,?_,?_⟩,fun a ha=>?_⟩
 .
  show (p.types.map tyT++p.queries.map (qT p.types)).length<=1000000;rw [Au,Bt,Bt];omega
 .
  rw [Md];show 1+0+0+wL (p.types.map tyT++p.queries.map (qT p.types))<=20000000;rw [wL_app];have e1:300*p.types.length<=300*16:=Nat.mul_le_mul_left _ hl;have e2:1000000*p.queries.length<=1000000*16:=Nat.mul_le_mul_left _ h3;omega
 rcases Is.1 ha with ha | ha
 . exact Ga (ht a ha) (by decide)
 exact hq a ha
section
variable {T:List e8Sc} {V:List Va} {e:Ex}
theorem all_on {p:Ex->Bool}{l:List Ex}{k:Nat}{a:Ex}(h:(l.take k).all p=true)(ha:l[k]? = some a)(h2:(!(p a))=false):(l.take (k+1)).all p=true:=by
 rw [C9 ha,List.all_append,h,Jp,List.all_nil];simpa using h2
end
end Go.Proofs.YtckhoadldibflaaGreatDoor
