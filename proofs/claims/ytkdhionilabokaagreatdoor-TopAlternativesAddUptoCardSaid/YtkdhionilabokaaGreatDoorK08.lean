/-
  Several texts in one: U26, U27, EM7, EM9, U28, U37, U38. No condition.
-/
import Derived.Test.YtkdhionilabokaaGreatDoorK07
import Derived.KernelRfl
import Derived.Test.YtkdhionilabokaaGreatDoorK03
import Derived.Test.YtkdhionilabokaaGreatDoorK05
import Derived.Test.YtkdhionilabokaaGreatDoorK04
import Derived.Test.YtkdhionilabokaaGreatDoorK01
import Derived.Test.YtkdhionilabokaaGreatDoorK02
set_option linter.unusedVariables false
set_option linter.unusedSimpArgs false
set_option maxHeartbeats 6400000
set_option maxRecDepth 20000
namespace Go.Proofs.YtkdhionilabokaaGreatDoor
open Go Go.Aw
def O4 (to:List Int)(q:Pt):Int:=
 if (D6 q.op).typed&&decide ((to.length:Int)<=q.var) then 6
 else if (D6 q.op).typed&&(decide (J8 to q.var<0)||decide (16<=J8 to q.var)) then 2
 else if (D6 q.op).cond then (Fg q.cond to).2 else 0
def V2 (to:List Int)(p:Pt):Int:=if (Gl p != 0) then Gl p else Ax (O4 to) (Cw p)
section
variable {to:List Int} {q:Pt}
theorem rn_1 (h:((D6 q.op).typed&&decide ((to.length:Int)<=q.var))=true):O4 to q=6:=if_pos h
theorem rn_2 (h:((D6 q.op).typed&&decide ((to.length:Int)<=q.var))=false)(h2:((D6 q.op).typed&&(decide (J8 to q.var<0)||decide (16<=J8 to q.var)))=true):O4 to q=2:=(Ep h).trans (if_pos h2)
theorem rn_3 (h:((D6 q.op).typed&&decide ((to.length:Int)<=q.var))=false)(h2:((D6 q.op).typed&&(decide (J8 to q.var<0)||decide (16<=J8 to q.var)))=false)(h3:(D6 q.op).cond=true):O4 to q=(Fg q.cond to).2:=(Ep h).trans ((Ep h2).trans (if_pos h3))
theorem rn_4 (h:((D6 q.op).typed&&decide ((to.length:Int)<=q.var))=false)(h2:((D6 q.op).typed&&(decide (J8 to q.var<0)||decide (16<=J8 to q.var)))=false)(h3:(D6 q.op).cond=false):O4 to q=0:=(Ep h).trans ((Ep h2).trans (Ep h3))
theorem gX {b:Bool}{r:List (Bool×Bool)}(h:H9 ((b,true)::r)):b=true:=h _ (Fs ..)
theorem wU (h:Nt q=0):Py q/\((D6 q.op).typed=true->0<=q.var/\q.var<16):=by
 unfold Nt at h;split at h
 . cases h
 rename_i h1;simp only [Ek,Di,not_or,Int.not_lt,Int.not_le] at h1;refine ⟨h1,fun ht=>?_⟩;unfold ckR at h;split at h
 . cases h
 split at h
 . cases h
 rename_i h3;unfold wA at h3;simp only [Ek,not_or,Bu,Bool.not_eq_false] at h3;have h4:=h3.1.1.2;unfold vR at h4;rw [ht,Bz,Bl,Cq,Di,Di] at h4;omega
theorem Kt {f:Pt->Int}:∀{l:List Pt},Ax f l=0->∀q∈l,f q=0
  | [],_,q,hq=>by cases hq
  | a::r,h,q,hq=>by
    rw [Ax] at h;by_cases ha:f a=0
    . rcases Cz.1 hq with rfl | hq
      . exact ha
      exact Kt (by simpa [ha] using h) q hq
    exfalso;apply ha;simp [ha] at h
theorem qE {p:Pt}(h:Gl p=0):∀q∈Cw p,Py q/\((D6 q.op).typed=true->0<=q.var/\q.var<16):=by
 unfold Gl at h;split at h
 . cases h
 split at h
 . cases h
 exact fun q hq=>wU (Kt h q hq)
theorem rn_var (h:((D6 q.op).typed&&decide ((to.length:Int)<=q.var))=false)(h0:(D6 q.op).typed=true->0<=q.var/\q.var<16)(ht:(D6 q.op).typed=true):0<=q.var/\to[q.var.toNat]? = some (J8 to q.var):=by
 rw [ht,Bo,Jh] at h;exact ⟨(h0 ht).1,Q7 (h0 ht).1 (by omega)⟩
end
theorem rn_lt {to:List Int}{p:Pt}(h:Ax (O4 to) (Cw p)=0)(hnd:∀q∈Cw p,Py q/\((D6 q.op).typed=true->0<=q.var/\q.var<16)):∀q∈Cw p,(D6 q.op).typed=true->0<=q.var/\q.var<(to.length:Int):=by
 intro q hq ht;have h1:=Kt h q hq;refine ⟨((hnd q hq).2 ht).1,?_⟩;by_cases h2:((D6 q.op).typed&&decide ((to.length:Int)<=q.var))=true
 . rw [rn_1 h2] at h1;cases h1
 rw [ht,Bo,Di] at h2;omega
theorem ofS3 {P:Program}{l:Nat}{rec:Loop}{H:List HO}{args:List AV}{R:AV->List HO->Prop}{sl:List (Nat×AV)}{n0:Nat}{A B:Code}(has:rec.assign=A)(hbo:rec.body=B)(hst:rec.state = .ready)(hpe:rec.pending=none)
  (hsz:rec.tmps.size=n0) (hsl:∀g w vs,HOK g w H->Cv g w vs args->∀j,Rep g w (((rec.params.zip vs).foldl (fun t (p,v)=>t.setIfInBounds p v) rec.tmps).getD j undef) (get sl j))
  (h:Qi l P A (fun e s1=>e = .normal/\∃i:Nat,s1.H[i]? = some (HO.obj l (Obj.loop rec))/\Qi l P B (fun e s2=>∃j:Nat,s2.H[j]? = some (HO.obj l (Obj.loop { rec with state:=.busy }))/\
   ((e = .normal/\R (.bool true) (s2.H.set j (.obj l (.loop rec))))\/(e = .ret/\R (.bool false) (s2.H.set j (.obj l (.loop { rec with state:=.done,pending:=some .ret })))))) ⟨s1.sl,s1.H.set i (.obj l (.loop { rec with state:=.busy })),s1.n⟩) ⟨sl,H,n0⟩):Dp P l rec H args R:=by
 subst has hbo;refine Dp.ofS hst hpe hsz hsl ?_;intro n Q' g a w hG hQ;refine h n Q' g a w hG fun e g' s' a' w' k1 k2 ⟨e1,i,hi,k3⟩=>hQ e g' s' a' w' k1 k2 ⟨e1,i,hi,?_⟩
 intro n Q' g a w hG hQ;refine k3 n Q' g a w hG fun e g' s' a' w' k1 k2 ⟨j,hj,k4⟩=>hQ e g' s' a' w' k1 k2 ⟨j,hj,?_⟩
 rcases k4 with k4 | k4
 . exact .inl k4
 exact .inr (.inl k4)
def QRn (q:Pt):Prop:=Py q/\B3 q.cond<=1048576/\((D6 q.op).typed=true->0<=q.var/\q.var<16)
theorem fL (to:List Int)(ht:to.length<=1048576)(p:Pt)(hp:medP p)(H:List HO):Cb Tryz.prog 16 H [.agg (cPt p),.sl 1 (Gx to)] (fun r H'=>r=(if (V2 to p != 0) then .tuple [.agg (cPt I4),.int .i64 (V2 to p)] else .tuple [.agg (cPt (D0 to p)),.int .i64 0])/\H'=H):=by
 refine Cb.bodyM (n:=69) Ai Tryz.func16 rfl rfl rfl fun N0=>?_
 refine Qh.seq ?_;refine Qh.region ?_;refine AOL.Aag (Bt (v:=.agg _) (cs:=[.int .i64 _,_,.int .i64 _,.int .i64 _,.int .i64 _,.int .i64 _,.int .i64 _,_,.int .i64 _,.int .i64 _,.int .i64 _,.int .i64 _,.int .i64 _,.str _]) rfl rfl rfl) rfl (AOL.Aag (Bt (v:=.sl _ _) (cs:=[_]) rfl rfl rfl) rfl ?_);refine AOL.e (Bh (l:=[.int .i64 0,.sl 14 [],.int .i64 0,.int .i64 0,.int .i64 0,.int .i64 0,.int .i64 0,.sl 8 [],.int .i64 0,.int .i64 0,.int .i64 0,.int .i64 0,.int .i64 0,.str []]) (by kernel_rfl)) rfl ?_;rintro _ _ ⟨b4,rfl,rfl⟩;refine AOL.e (Bh (l:=[.int .i64 0]) (by kernel_rfl)) rfl ?_;rintro _ _ ⟨b5,rfl,rfl⟩;refine AOL.nil (Aa ?_);refine Qh.seq ?_;refine Qh.seq ?_;refine Qh.region ?_;refine AOL.Aag (Ah (l:=[.int .i64 _,_,.int .i64 _,.int .i64 _,.int .i64 _,.int .i64 _,.int .i64 _,_,.int .i64 _,.int .i64 _,.int .i64 _,.int .i64 _,.int .i64 _,.str _]) Ai rfl rfl rfl rfl rfl) rfl ?_;refine AOL.Aag (Ak (by kernel_rfl) rfl rfl (iU p hp)) rfl ?_;refine AOL.Aag (Ag (v:=.int .i64 _) rfl) rfl (AOL.nil (Aa ?_));refine Qh.seq ?_;refine Qh.region ?_;refine AOL.Aag (Ae (v:=.int .i64 _) rfl) rfl (AOL.Aag (Fk rfl rfl) rfl (AOL.nil (Aa ?_)));refine Qh.cond (b:=_) rfl (fun hc1=>?_) (fun hc1=>?_)
 .
  refine Qh.seq ?_;refine Qh.region ?_;refine AOL.Aag (C3 (l:=[.int .i64 _,_,.int .i64 _,.int .i64 _,.int .i64 _,.int .i64 _,.int .i64 _,_,.int .i64 _,.int .i64 _,.int .i64 _,.int .i64 _,.int .i64 _,.str _]) Ai rfl rfl rfl) rfl (AOL.Aag (Ae (v:=.int .i64 _) rfl) rfl (AOL.e (Ao (k:=1) (v:=.agg _) (cs':=[.int .i64 _,_,.int .i64 _,.int .i64 _,.int .i64 _,.int .i64 _,.int .i64 _,_,.int .i64 _,.int .i64 _,.int .i64 _,.int .i64 _,.int .i64 _,.str _]) (H2:=_::_::_) Ai rfl rfl rfl rfl (rfl) rfl rfl rfl rfl) rfl ?_));rintro _ _ ⟨rfl,rfl⟩;refine AOL.e (Ao (k:=0) (v:=.int .i64 _) (cs':=[.int .i64 _]) (H2:=_::_::_) Ai rfl rfl rfl rfl (rfl) rfl rfl rfl rfl) rfl ?_;rintro _ _ ⟨rfl,rfl⟩;refine AOL.nil (Aa ?_);refine Qh.ret ?_;refine Ap ?_;refine ⟨.inr rfl,[.agg [.int .i64 _,_,.int .i64 _,.int .i64 _,.int .i64 _,.int .i64 _,.int .i64 _,_,.int .i64 _,.int .i64 _,.int .i64 _,.int .i64 _,.int .i64 _,.str _],.int .i64 _],.cons (.box _ _ _ 1 _ _ _ _ rfl rfl rfl rfl rfl rfl) <| .cons (.boxs _ _ _ 0 _ _ _ rfl _ rfl rfl rfl) <| .nil,_,.cons _ (.cons _ (.refl _)),?_⟩;have e:V2 to p=Gl p:=if_pos hc1;exact ⟨by rw [e,if_pos hc1];rfl,rfl⟩
 have hrs:Gl p=0:=by simpa using hc1
 have hnd:=qE hrs;refine Qh.skip ?_;refine Aa ?_;refine Qh.seq ?_;refine Qh.seq ?_;refine Qh.region ?_;refine AOL.Aag (Ah (l:=[.int .i64 _,_,.int .i64 _,.int .i64 _,.int .i64 _,.int .i64 _,.int .i64 _,_,.int .i64 _,.int .i64 _,.int .i64 _,.int .i64 _,.int .i64 _,.str _]) Ai rfl rfl rfl rfl rfl) rfl ?_;refine AOL.Aag (Ak (by kernel_rfl) rfl rfl (S8 p)) rfl ?_;refine AOL.nil (Aa ?_);refine Qh.block ?_;refine Qh.range (fun H2=>Ax (O4 to) (Cw p)=0/\H2=(.box b5 36 [.int .i64 (0)] :: .box b4 29 (cPt I4)::H:List HO)) (fun c H2=>c = .ret/\Ax (O4 to) (Cw p)≠0/\H2=(.box b5 36 [.int .i64 (Ax (O4 to) (Cw p))] :: .box b4 29 (cPt I4)::H:List HO)) rfl (by kernel_rfl) (fun rec l g1 w1 hst hpe hps has hbo hsz htm=>?_) (fun H2 hZ=>?_) (fun c H2 hY=>?_)
 .
  refine Cb.post (Rs Int (fun e=>e==0) (fun _ q=>O4 to q) (fun _ _=>True) (fun _ _ _ _ _=>trivial) (fun _ _ _ _=>trivial) QRn (fun e:Int=>(.obj l (.loop (if (e==0)=true then rec else { rec with state:=.done,pending:=some .ret })) :: .since g1 w1 :: .box b5 36 [.int .i64 (e)] :: .box b4 29 (cPt I4)::H:List HO)) l rec (by rw [hps];rfl) (fun e he=>⟨0,by show some (HO.obj l (.loop (if (e==0)=true then rec else { rec with state:=.done,pending:=some .ret })))=_;rw [if_pos he]⟩) (fun e q n he hq _=>?_) p hp.n (fun q hq=>⟨(hnd q hq).1,hp.cond q hq,(hnd q hq).2⟩) 0 0 rfl trivial) ?_
  .
   obtain rfl:e=0:=by simpa using he
   refine (P7 hq.1.1 hq.1.2).elim fun rest hrest=>?_
   show Dp _ l rec (.obj l (.loop rec) :: .since g1 w1 :: .box b5 36 [.int .i64 (0)] :: .box b4 29 (cPt I4)::H:List HO) _ _;refine ofS3 has hbo hst hpe hsz (R0 hps hsz rfl ⟨1,rfl⟩ htm) ?_;clear hsz htm;refine Qi.region (by kernel_rfl) ?_;refine AOL.e (Bh (l:=[.int .i64 0,.sl 14 [],.int .i64 0,.int .i64 0,.int .i64 0,.int .i64 0,.int .i64 0,.sl 8 [],.int .i64 0,.int .i64 0,.int .i64 0,.int .i64 0,.int .i64 0,.str []]) (by kernel_rfl)) rfl ?_;rintro _ _ ⟨b7,rfl,rfl⟩;refine AOL.e (Ao (k:=0) (v:=.agg _) (cs':=[.int .i64 _,_,.int .i64 _,.int .i64 _,.int .i64 _,.int .i64 _,.int .i64 _,_,.int .i64 _,.int .i64 _,.int .i64 _,.int .i64 _,.int .i64 _,.str _]) (H2:=_::_::_::_::_::_) Ai rfl rfl rfl rfl (rfl) rfl rfl rfl rfl) rfl ?_;rintro _ _ ⟨rfl,rfl⟩;refine AOL.ghost (GS.Aaj (t:=7) 0 rfl rfl) ?_;refine AOL.nil ?_;refine ⟨rfl,0,rfl,?_⟩;refine Qi.block ?_;refine Qi.seq ?_;refine Qi.region (by kernel_rfl) ?_;refine AOL.Aag (Ad (cs':=[.int .i64 _,_,.int .i64 _,.int .i64 _,.int .i64 _,.int .i64 _,.int .i64 _,_,.int .i64 _,.int .i64 _,.int .i64 _,.int .i64 _,.int .i64 _,.str _]) Ai rfl rfl rfl rfl rfl rfl) rfl (AOL.Aag (Af (c:=.int .i64 _) Ai rfl rfl rfl) rfl ?_);refine AOL.Aag (Et (cs':=X0 (D6 q.op)++rest) Ai ⟨_,by simp [globals],fun _ h=>h⟩ rfl rfl rfl rfl (hq.1.1) (hq.1.2) hrest rfl) rfl ?_;refine AOL.Aag (Ah (l:=[.int .i64 _,.int .i64 _,.bool _,.bool _,.bool _,.bool _]) Ai rfl rfl rfl rfl rfl) rfl ?_;refine AOL.e (Bh (l:=[.int .i64 0,.int .i64 0,.bool false,.bool false,.bool false,.bool false]) (by kernel_rfl)) rfl ?_;rintro _ _ ⟨b8,rfl,rfl⟩;refine AOL.e (Ao (k:=0) (v:=.agg _) (cs':=[.int .i64 _,.int .i64 _,.bool _,.bool _,.bool _,.bool _]) (H2:=_::_::_::_::_::_) Ai rfl rfl rfl rfl (rfl) rfl rfl rfl rfl) rfl ?_;rintro _ _ ⟨rfl,rfl⟩;refine AOL.ghost (GS.Aaj (t:=8) 0 rfl rfl) ?_;refine AOL.nil (Aa ?_);refine Qi.seq ?_;refine Qi.seq ?_;refine Qi.region (by kernel_rfl) ?_;refine AOL.Aag (Ad (cs':=[.bool _,.bool _,.bool _,.bool _]) Ai rfl rfl rfl rfl rfl rfl) rfl (AOL.Aag (Af (c:=.bool _) Ai rfl rfl rfl) rfl (AOL.Aag (Ae (v:=.bool _) rfl) rfl (AOL.Aah (y:=.ptr _) _ [] rfl (Un.all trivial) (fun hG=>Ad (cs':=[.int .i64 _,.int .i64 _,.int .i64 _,.int .i64 _,_,.int .i64 _,.int .i64 _,.int .i64 _,.int .i64 _,.int .i64 _,.str _]) Ai rfl rfl rfl rfl rfl rfl) rfl ?_)));refine AOL.Aah (y:=.int .i64 _) _ [(27,_)] rfl (Un.all ⟨Zs.self _ _,trivial⟩) (fun hG=>Af (c:=.int .i64 _) Ai rfl rfl rfl) rfl ?_;refine AOL.Aah (y:=.sl _ _) _ [] rfl (Un.all trivial) (fun hG=>Af (c:=.sl _ _) Ai rfl rfl rfl) rfl ?_;refine AOL.Aah (y:=.int .i64 _) _ [(29,_)] rfl (Un.all ⟨Zs.self _ _,trivial⟩) (fun hG=>Av (n:=to.length) Ai rfl rfl rfl (by simp [Gx])) rfl ?_;refine AOL.Aah (y:=.bool _) _ [(28,_),(30,_)] rfl (Un.all ⟨Zs.self _ _,Zs.self _ _,trivial⟩) (fun hG=>I7 rfl rfl) rfl ?_;refine AOL.Aag (Bc rfl rfl rfl) rfl (AOL.nil (Aa ?_))
   refine Qi.cond (b:=_) rfl (fun hc2=>?_) (fun hc2=>?_)
   .
    refine Qi.seq ?_;refine Qi.region (by kernel_rfl) ?_;refine AOL.Aag (C3 (l:=[.int .i64 _,_,.int .i64 _,.int .i64 _,.int .i64 _,.int .i64 _,.int .i64 _,_,.int .i64 _,.int .i64 _,.int .i64 _,.int .i64 _,.int .i64 _,.str _]) Ai rfl rfl rfl) rfl (AOL.e (Ao (k:=3) (v:=.agg _) (cs':=[.int .i64 _,_,.int .i64 _,.int .i64 _,.int .i64 _,.int .i64 _,.int .i64 _,_,.int .i64 _,.int .i64 _,.int .i64 _,.int .i64 _,.int .i64 _,.str _]) (H2:=_::_::_::_::_) Ai rfl rfl rfl rfl (rfl) rfl rfl rfl rfl) rfl ?_);rintro _ _ ⟨rfl,rfl⟩;refine AOL.e (Ao (k:=2) (v:=.int .i64 _) (cs':=[.int .i64 _]) (H2:=_::_::_::_::_) Ai rfl rfl rfl rfl (rfl) rfl rfl rfl rfl) rfl ?_;rintro _ _ ⟨rfl,rfl⟩;refine AOL.nil (Aa ?_);refine Qi.ret ?_;refine Ap (Cn ?_);have hv:O4 to q=6:=rn_1 hc2;have h0:(O4 to q==0)=false:=by rw [hv];rfl
    have hH:(fun e:Int=>(.obj l (.loop (if (e==0)=true then rec else { rec with state:=.done,pending:=some .ret })) :: .since g1 w1 :: .box b5 36 [.int .i64 (e)] :: .box b4 29 (cPt I4)::H:List HO)) (O4 to q)=(.obj l (.loop { rec with state:=.done,pending:=some .ret }) :: .since g1 w1 :: .box b5 36 [.int .i64 (6)] :: .box b4 29 (cPt I4)::H:List HO):=Eq.trans (congrArg (fun r:Loop=>(.obj l (.loop r) :: .since g1 w1 :: .box b5 36 [.int .i64 (O4 to q)] :: .box b4 29 (cPt I4)::H:List HO)) (if_neg (by rw [h0];decide))) (congrArg (fun v:Int=>(.obj l (.loop { rec with state:=.done,pending:=some .ret }) :: .since g1 w1 :: .box b5 36 [.int .i64 (v)] :: .box b4 29 (cPt I4)::H:List HO)) hv);exact ⟨0,rfl,Or.inr ⟨rfl,congrArg AV.bool h0.symm,hH.symm⟩⟩
   have hvr:=fun h=>rn_var hc2 hq.2.2 h
   refine Qi.skip ?_;refine Aa ?_;refine Qi.seq ?_;refine Qi.seq ?_;refine Qi.region (by kernel_rfl) ?_;refine AOL.Aag (Ad (cs':=[.bool _,.bool _,.bool _,.bool _]) Ai rfl rfl rfl rfl rfl rfl) rfl (AOL.Aag (Af (c:=.bool _) Ai rfl rfl rfl) rfl (AOL.Aag (Ae (v:=.bool _) rfl) rfl (AOL.Aah (y:=.sl _ _) _ [] rfl (Un.all trivial) (fun hG=>Af (c:=.sl _ _) Ai rfl rfl rfl) rfl ?_)));refine AOL.Aah (y:=.ptr _) _ [] rfl (Un.all trivial) (fun hG=>Ad (cs':=[.int .i64 _,.int .i64 _,.int .i64 _,.int .i64 _,_,.int .i64 _,.int .i64 _,.int .i64 _,.int .i64 _,.int .i64 _,.str _]) Ai rfl rfl rfl rfl rfl rfl) rfl ?_;refine AOL.Aah (y:=.int .i64 _) _ [(38,_)] rfl (Un.all ⟨Zs.self _ _,trivial⟩) (fun hG=>Af (c:=.int .i64 _) Ai rfl rfl rfl) rfl ?_;refine AOL.Aah (y:=.ptr _) _ [(37,_),(39,_)] rfl (Un.all ⟨Zs.self _ _,Zs.self _ _,trivial⟩) (fun hG=>Am (c:=[.int .i64 (J8 to q.var)]) Ai rfl rfl rfl rfl rfl rfl ((hvr (gX hG)).1) (Co (hvr (gX hG)).2)) rfl ?_;refine AOL.Aah (y:=.int .i64 _) _ [(40,_)] rfl (Un.all ⟨Zs.self _ _,trivial⟩) (fun hG=>Af (c:=.int .i64 _) Ai rfl rfl rfl) rfl ?_;refine AOL.Aah (y:=.bool _) _ [(41,_)] rfl (Un.all ⟨Zs.self _ _,trivial⟩) (fun hG=>B9 rfl rfl) rfl ?_;refine AOL.Aah (y:=.bool _) _ [(42,_)] rfl (Un.all ⟨Zs.self _ _,trivial⟩) (fun hG=>Ae (v:=.bool _) rfl) rfl ?_;refine AOL.Aah (y:=.sl _ _) _ [] rfl (Un.all trivial) (fun hG=>Af (c:=.sl _ _) Ai rfl rfl rfl) rfl ?_;refine AOL.Aah (y:=.ptr _) _ [] rfl (Un.all trivial) (fun hG=>Ad (cs':=[.int .i64 _,.int .i64 _,.int .i64 _,.int .i64 _,_,.int .i64 _,.int .i64 _,.int .i64 _,.int .i64 _,.int .i64 _,.str _]) Ai rfl rfl rfl rfl rfl rfl) rfl ?_;refine AOL.Aah (y:=.int .i64 _) _ [(45,_)] rfl (Un.all ⟨Zs.self _ _,trivial⟩) (fun hG=>Af (c:=.int .i64 _) Ai rfl rfl rfl) rfl ?_;refine AOL.Aah (y:=.ptr _) _ [(44,_),(46,_)] rfl (Un.all ⟨Zs.self _ _,Zs.self _ _,trivial⟩) (fun hG=>Am (c:=[.int .i64 (J8 to q.var)]) Ai rfl rfl rfl rfl rfl rfl ((hvr (gX hG)).1) (Co (hvr (gX hG)).2)) rfl ?_;refine AOL.Aah (y:=.int .i64 _) _ [(47,_)] rfl (Un.all ⟨Zs.self _ _,trivial⟩) (fun hG=>Af (c:=.int .i64 _) Ai rfl rfl rfl) rfl ?_;refine AOL.Aah (y:=.bool _) _ [(48,_)] rfl (Un.all ⟨Zs.self _ _,trivial⟩) (fun hG=>I7 rfl rfl) rfl ?_;refine AOL.Aah (y:=.bool _) _ [(43,_),(49,_)] rfl (Un.all ⟨Zs.self _ _,Zs.suf _ _ _,trivial⟩) (fun hG=>E7 rfl rfl rfl) rfl ?_;refine AOL.Aag (Bc rfl rfl rfl) rfl (AOL.nil (Aa ?_));refine Qi.cond (b:=_) rfl (fun hc3=>?_) (fun hc3=>?_)
   .
    refine Qi.seq ?_;refine Qi.region (by kernel_rfl) ?_;refine AOL.Aag (C3 (l:=[.int .i64 _,_,.int .i64 _,.int .i64 _,.int .i64 _,.int .i64 _,.int .i64 _,_,.int .i64 _,.int .i64 _,.int .i64 _,.int .i64 _,.int .i64 _,.str _]) Ai rfl rfl rfl) rfl (AOL.e (Ao (k:=3) (v:=.agg _) (cs':=[.int .i64 _,_,.int .i64 _,.int .i64 _,.int .i64 _,.int .i64 _,.int .i64 _,_,.int .i64 _,.int .i64 _,.int .i64 _,.int .i64 _,.int .i64 _,.str _]) (H2:=_::_::_::_::_) Ai rfl rfl rfl rfl (rfl) rfl rfl rfl rfl) rfl ?_);rintro _ _ ⟨rfl,rfl⟩;refine AOL.e (Ao (k:=2) (v:=.int .i64 _) (cs':=[.int .i64 _]) (H2:=_::_::_::_::_) Ai rfl rfl rfl rfl (rfl) rfl rfl rfl rfl) rfl ?_;rintro _ _ ⟨rfl,rfl⟩;refine AOL.nil (Aa ?_);refine Qi.ret ?_;refine Ap (Cn ?_);have hv:O4 to q=2:=rn_2 hc2 hc3;have h0:(O4 to q==0)=false:=by rw [hv];rfl
    have hH:(fun e:Int=>(.obj l (.loop (if (e==0)=true then rec else { rec with state:=.done,pending:=some .ret })) :: .since g1 w1 :: .box b5 36 [.int .i64 (e)] :: .box b4 29 (cPt I4)::H:List HO)) (O4 to q)=(.obj l (.loop { rec with state:=.done,pending:=some .ret }) :: .since g1 w1 :: .box b5 36 [.int .i64 (2)] :: .box b4 29 (cPt I4)::H:List HO):=Eq.trans (congrArg (fun r:Loop=>(.obj l (.loop r) :: .since g1 w1 :: .box b5 36 [.int .i64 (O4 to q)] :: .box b4 29 (cPt I4)::H:List HO)) (if_neg (by rw [h0];decide))) (congrArg (fun v:Int=>(.obj l (.loop { rec with state:=.done,pending:=some .ret }) :: .since g1 w1 :: .box b5 36 [.int .i64 (v)] :: .box b4 29 (cPt I4)::H:List HO)) hv);exact ⟨0,rfl,Or.inr ⟨rfl,congrArg AV.bool h0.symm,hH.symm⟩⟩
   refine Qi.skip ?_;refine Aa ?_;refine Qi.seq ?_;refine Qi.region (by kernel_rfl) ?_;refine AOL.Aag (Ad (cs':=[.bool _,.bool _,.bool _]) Ai rfl rfl rfl rfl rfl rfl) rfl (AOL.Aag (Af (c:=.bool _) Ai rfl rfl rfl) rfl (AOL.nil (Aa ?_)));refine Qi.cond (b:=_) rfl (fun hc4=>?_) (fun hc4=>?_)
   .
    refine Qi.seq ?_;refine Qi.region (by kernel_rfl) ?_;refine AOL.Aag (Ad (cs':=[.int .i64 _,_,.int .i64 _,.int .i64 _,.int .i64 _,.int .i64 _,.int .i64 _,.str _]) Ai rfl rfl rfl rfl rfl rfl) rfl (AOL.Aag (Ah (l:=[.int .i64 _,_,.int .i64 _,.int .i64 _,.int .i64 _,.int .i64 _,.int .i64 _,.str _]) Ai rfl rfl rfl rfl rfl) rfl (AOL.Aag (Af (c:=.sl _ _) Ai rfl rfl rfl) rfl ?_));refine AOL.Aag (Ak (by kernel_rfl) rfl rfl (c28 to ht q.cond hq.2.1)) rfl ?_;refine AOL.Aag (Ae (v:=.tuple _) rfl) rfl (AOL.Aag (A4 (v:=.agg [.int .i64 _,_,.int .i64 _,.int .i64 _,.int .i64 _,.int .i64 _,.int .i64 _,.str _]) rfl rfl) rfl (AOL.Aag (A4 (v:=.int .i64 _) rfl rfl) rfl ?_));refine AOL.e (Bh (l:=[.int .i64 0,.sl 8 [],.int .i64 0,.int .i64 0,.int .i64 0,.int .i64 0,.int .i64 0,.str []]) (by kernel_rfl)) rfl ?_;rintro _ _ ⟨b9,rfl,rfl⟩;refine AOL.e (Ao (k:=0) (v:=.agg _) (cs':=[.int .i64 _,_,.int .i64 _,.int .i64 _,.int .i64 _,.int .i64 _,.int .i64 _,.str _]) (H2:=_::_::_::_::_::_) Ai rfl rfl rfl rfl (rfl) rfl rfl rfl rfl) rfl ?_;rintro _ _ ⟨rfl,rfl⟩;refine AOL.Aag (Ag (v:=.int .i64 _) rfl) rfl ?_;refine AOL.ghost (GS.Aaj (t:=9) 0 rfl rfl) ?_;refine AOL.nil (Aa ?_);refine Qi.seq ?_;refine Qi.region (by kernel_rfl) ?_;refine AOL.Aag (Ae (v:=.int .i64 _) rfl) rfl (AOL.Aag (Fk rfl rfl) rfl (AOL.nil (Aa ?_)));refine Qi.cond (b:=_) rfl (fun hc5=>?_) (fun hc5=>?_)
    .
     refine Qi.seq ?_;refine Qi.region (by kernel_rfl) ?_;refine AOL.Aag (C3 (l:=[.int .i64 _,_,.int .i64 _,.int .i64 _,.int .i64 _,.int .i64 _,.int .i64 _,_,.int .i64 _,.int .i64 _,.int .i64 _,.int .i64 _,.int .i64 _,.str _]) Ai rfl rfl rfl) rfl (AOL.Aag (Ae (v:=.int .i64 _) rfl) rfl (AOL.e (Ao (k:=3) (v:=.agg _) (cs':=[.int .i64 _,_,.int .i64 _,.int .i64 _,.int .i64 _,.int .i64 _,.int .i64 _,_,.int .i64 _,.int .i64 _,.int .i64 _,.int .i64 _,.int .i64 _,.str _]) (H2:=_::_::_::_::_) Ai rfl rfl rfl rfl (rfl) rfl rfl rfl rfl) rfl ?_));rintro _ _ ⟨rfl,rfl⟩;refine AOL.e (Ao (k:=2) (v:=.int .i64 _) (cs':=[.int .i64 _]) (H2:=_::_::_::_::_) Ai rfl rfl rfl rfl (rfl) rfl rfl rfl rfl) rfl ?_;rintro _ _ ⟨rfl,rfl⟩;refine AOL.nil (Aa ?_);refine Qi.ret ?_;refine Cn ?_;have hv : O4 to q = (Fg q.cond to).2 := rn_3 hc2 hc3 hc4 -- hc5
     have h0:(O4 to q==0)=false:=by rw [hv];simpa using hc5
     have hH:(fun e:Int=>(.obj l (.loop (if (e==0)=true then rec else { rec with state:=.done,pending:=some .ret })) :: .since g1 w1 :: .box b5 36 [.int .i64 (e)] :: .box b4 29 (cPt I4)::H:List HO)) (O4 to q)=(.obj l (.loop { rec with state:=.done,pending:=some .ret }) :: .since g1 w1 :: .box b5 36 [.int .i64 ((Fg q.cond to).2)] :: .box b4 29 (cPt I4)::H:List HO):=Eq.trans (congrArg (fun r:Loop=>(.obj l (.loop r) :: .since g1 w1 :: .box b5 36 [.int .i64 (O4 to q)] :: .box b4 29 (cPt I4)::H:List HO)) (if_neg (by rw [h0];decide))) (congrArg (fun v:Int=>(.obj l (.loop { rec with state:=.done,pending:=some .ret }) :: .since g1 w1 :: .box b5 36 [.int .i64 (v)] :: .box b4 29 (cPt I4)::H:List HO)) hv);exact ⟨0,rfl,Or.inr ⟨rfl,congrArg AV.bool h0.symm,hH.symm⟩⟩
    refine Qi.skip ?_;refine C9 ?_;have h0:O4 to q=0:=(rn_3 hc2 hc3 hc4).trans (by simpa using hc5);exact ⟨0,rfl,Or.inl ⟨rfl,congrArg AV.bool (by rw [h0];rfl),congrArg (fun e:Int=>(.obj l (.loop (if (e==0)=true then rec else { rec with state:=.done,pending:=some .ret })) :: .since g1 w1 :: .box b5 36 [.int .i64 (e)] :: .box b4 29 (cPt I4)::H:List HO)) h0.symm⟩⟩
   refine Qi.skip ?_;refine C9 ?_;have h0:O4 to q=0:=rn_4 hc2 hc3 hc4;exact ⟨0,rfl,Or.inl ⟨rfl,congrArg AV.bool (by rw [h0];rfl),congrArg (fun e:Int=>(.obj l (.loop (if (e==0)=true then rec else { rec with state:=.done,pending:=some .ret })) :: .since g1 w1 :: .box b5 36 [.int .i64 (e)] :: .box b4 29 (cPt I4)::H:List HO)) h0.symm⟩⟩
  rintro r K ⟨rfl,rfl⟩;have hfin:=L8 (O4 to) (Cw p);by_cases h0:Ax (O4 to) (Cw p)=0
  . exact ⟨_,List.Perm.refl _,rec,_,congrArg (fun e:Int=>(.obj l (.loop (if (e==0)=true then rec else { rec with state:=.done,pending:=some .ret })) :: .since g1 w1 :: .box b5 36 [.int .i64 (e)] :: .box b4 29 (cPt I4)::H:List HO)) (hfin.trans h0),by rw [hst];decide,Or.inl ⟨hpe,h0,rfl⟩⟩
  exact ⟨_,List.Perm.refl _,{ rec with state:=.done,pending:=some .ret },(.box b5 36 [.int .i64 (Ax (O4 to) (Cw p))] :: .box b4 29 (cPt I4)::H:List HO),(congrArg (fun e:Int=>(.obj l (.loop (if (e==0)=true then rec else { rec with state:=.done,pending:=some .ret })) :: .since g1 w1 :: .box b5 36 [.int .i64 (e)] :: .box b4 29 (cPt I4)::H:List HO)) hfin).trans (congrArg (fun r:Loop=>(.obj l (.loop r) :: .since g1 w1 :: .box b5 36 [.int .i64 (Ax (O4 to) (Cw p))] :: .box b4 29 (cPt I4)::H:List HO)) (if_neg (by simpa using h0))),(fun h=>LoopState.noConfusion h),Or.inr ⟨.ret,rfl,rfl,h0,rfl⟩⟩
 .
  obtain ⟨h0,rfl⟩:=hZ;refine C9 (Aa ?_);refine Qh.seq ?_;refine Qh.region ?_;refine AOL.Aag (Ah (l:=[.int .i64 _,_,.int .i64 _,.int .i64 _,.int .i64 _,.int .i64 _,.int .i64 _,_,.int .i64 _,.int .i64 _,.int .i64 _,.int .i64 _,.int .i64 _,.str _]) Ai rfl rfl rfl rfl rfl) rfl (AOL.Aag (Af (c:=.sl _ _) Ai rfl rfl rfl) rfl ?_);refine AOL.Aag (Ak (by kernel_rfl) rfl rfl (V4 to ht p fun q hq=>⟨(hnd q hq).1,hp.cond q hq,(hp.len q hq).2,rn_lt h0 hnd q hq⟩)) rfl ?_;refine AOL.e (Ao (k:=1) (v:=.agg _) (cs':=[.int .i64 _,_,.int .i64 _,.int .i64 _,.int .i64 _,.int .i64 _,.int .i64 _,_,.int .i64 _,.int .i64 _,.int .i64 _,.int .i64 _,.int .i64 _,.str _]) (H2:=_::_::_) Ai rfl rfl rfl rfl (rfl) rfl rfl rfl rfl) rfl ?_;rintro _ _ ⟨rfl,rfl⟩;refine AOL.e (Ao (k:=0) (v:=.int .i64 _) (cs':=[.int .i64 _]) (H2:=_::_::_) Ai rfl rfl rfl rfl (rfl) rfl rfl rfl rfl) rfl ?_;rintro _ _ ⟨rfl,rfl⟩;refine AOL.nil (Aa ?_);refine Qh.ret ?_;refine ⟨.inr rfl,[.agg [.int .i64 _,_,.int .i64 _,.int .i64 _,.int .i64 _,.int .i64 _,.int .i64 _,_,.int .i64 _,.int .i64 _,.int .i64 _,.int .i64 _,.int .i64 _,.str _],.int .i64 _],.cons (.box _ _ _ 1 _ _ _ _ rfl rfl rfl rfl rfl rfl) <| .cons (.boxs _ _ _ 0 _ _ _ rfl _ rfl rfl rfl) <| .nil,_,.cons _ (.cons _ (.refl _)),?_⟩;have e:V2 to p=0:=(Ep hc1).trans h0;exact ⟨by rw [e];rfl,rfl⟩
 obtain ⟨rfl,h0,rfl⟩:=hY;refine Qh.ret ?_;refine Cn (Ap ?_);refine ⟨.inr rfl,[.agg [.int .i64 _,_,.int .i64 _,.int .i64 _,.int .i64 _,.int .i64 _,.int .i64 _,_,.int .i64 _,.int .i64 _,.int .i64 _,.int .i64 _,.int .i64 _,.str _],.int .i64 _],.cons (.box _ _ _ 1 _ _ _ _ rfl rfl rfl rfl rfl rfl) <| .cons (.boxs _ _ _ 0 _ _ _ rfl _ rfl rfl rfl) <| .nil,_,.cons _ (.cons _ (.refl _)),?_⟩;have e:V2 to p=Ax (O4 to) (Cw p):=Ep hc1;exact ⟨by rw [e,if_pos (by simpa using h0)];rfl,rfl⟩
theorem uH {l:List Pt}{k:Nat}{a:Pt}(h:l[k]? = some a):(l.take (k+1)).flatMap Cw=(l.take k).flatMap Cw++Cw a:=by rw [Cr h];simp
theorem oR {l:List Pt}{k:Nat}{a:Pt}(h:l[k]? = some a):l.flatMap Cw=(l.take k).flatMap Cw++(Cw a++(l.drop (k+1)).flatMap Cw):=by
 have h1:l=l.take k++a::l.drop (k+1):=by
  rw [<-Bf h,Iv]
 conv=>lhs;rw [h1]
 rw [Nc,G8]
theorem qB (HK:List Pt->List HO->Prop)(l:Nat)(rec:Loop)(hrec:rec.params.size=1)(hobj:∀pre H,HK pre H->∃i:Nat,H[i]? = some (HO.obj l (Obj.loop rec)))(N:List Pt)(hY:∀pre q post H,N=pre++q::post->HK pre H->Dp Tryz.prog l rec H [.agg (cPt q)] (fun r H'=>r = .bool true/\HK (pre ++ [q]) H'))(p:Pt)(hp:Fm p<=1048576)(pre post:List Pt)(hN:N=pre++(Cw p++post))(H:List HO)(h0:HK pre H):Cb Tryz.prog 77 H [.agg (cPt p),.val (.func (.yield l) #[] #[])] (fun r H'=>r = .bool true/\HK (pre++Cw p) H'):=by
 induction p using Pt.ind generalizing pre post H
 rename_i p ih;have hal:=Jx p;have hnd:=In p;refine Cb.body (n:=23) Ai Tryz.func77 rfl rfl rfl ?_;refine AW.seq (AW.region (AOL.Aag (Bt (v:=.agg _) (cs:=[.int .i64 _,_,.int .i64 _,.int .i64 _,.int .i64 _,.int .i64 _,.int .i64 _,_,.int .i64 _,.int .i64 _,.int .i64 _,.int .i64 _,.int .i64 _,.str _]) rfl rfl rfl) rfl (AOL.Aag (Ag (v:=.bool _) rfl) rfl (AOL.nil (Aa (AW.seq (AW.seq ?_)))))));refine AW.regionYk 2 rfl (by kernel_rfl) (by kernel_rfl) ?_;refine AOL.Aag (Ae (v:=.val _) rfl) rfl (AOL.Aag (Ah (l:=[.int .i64 _,_,.int .i64 _,.int .i64 _,.int .i64 _,.int .i64 _,.int .i64 _,_,.int .i64 _,.int .i64 _,.int .i64 _,.int .i64 _,.int .i64 _,.str _]) Ai rfl rfl rfl rfl rfl) rfl (AOL.nil ?_));refine ⟨l,rec,_,hobj pre H h0,rfl,hrec.symm,rfl,hY pre p (p.args.flatMap Cw++post) H (by rw [hN,hnd];simp) h0,?_⟩;rintro _ HX ⟨rfl,hHX⟩;refine AOL.Aag (F6 rfl) rfl (AOL.nil (Aa (AW.cond (b:=_) rfl (fun hc1=>?_) (fun hc1=>AW.skip (Aa (AW.seq (AW.seq (AW.region (AOL.Aag (Ad (cs':=[_,.int .i64 _,.int .i64 _,.int .i64 _,.int .i64 _,.int .i64 _,_,.int .i64 _,.int .i64 _,.int .i64 _,.int .i64 _,.int .i64 _,.str _]) Ai rfl rfl rfl rfl rfl rfl) rfl (AOL.Aag (Af (c:=.sl _ _) Ai rfl rfl rfl) rfl ?_))))))))))
 . cases hc1
 refine AOL.Aag (Av (n:=p.args.length) Ai rfl rfl rfl (by simp)) rfl ?_;refine AOL.Aag (Ae (v:=.int .i64 _) rfl) rfl (AOL.nil (Aa (AW.block ?_)));refine AW.loopS (fun (q:Nat×List HO)=>(⟨[(1,.val (.func (.yield l) #[] #[])),(12,.sl 14 (p.args.map Ew)),(13,.int .i64 p.args.length),(14,.int .i64 (q.1:Int))],q.2,23⟩:St)) (fun q=>q.1<=p.args.length/\HK (pre++(p::(p.args.take q.1).flatMap Cw)) q.2) (fun q=>p.args.length-q.1) ((0,HX)) ?_ (GS.weaken ⟨rfl,rfl,rfl,rfl,trivial⟩ (.refl _)) ?_
 . exact ⟨Bn _,by simpa using hHX⟩
 rintro q hR;refine AW.seq (AW.region (AOL.Aag (B9 rfl rfl) rfl (AOL.nil (Aa (AW.seq (AW.cond (b:=_) rfl (fun hc2=>?_) (fun hc2=>?_)))))))
 .
  refine (Fa (l:=p.args) (k:=q.1) (by have:=B2 hc2;omega)).elim fun a ha=>?_
  have hlt:=Bj ha;have hm:=A0 ha;refine AW.skip (Aa (AW.seq (AW.block (AW.seq (AW.region ?_)))));refine AOL.Aag (Am (c:=cPt a) Ai rfl rfl rfl rfl rfl rfl (by omega) (Jo ha)) rfl ?_;refine AOL.Aag (Ah (l:=[.int .i64 _,_,.int .i64 _,.int .i64 _,.int .i64 _,.int .i64 _,.int .i64 _,_,.int .i64 _,.int .i64 _,.int .i64 _,.int .i64 _,.int .i64 _,.str _]) Ai rfl rfl rfl rfl rfl) rfl ?_;refine AOL.e (Bh (l:=[.int .i64 0,.sl 14 [],.int .i64 0,.int .i64 0,.int .i64 0,.int .i64 0,.int .i64 0,.sl 8 [],.int .i64 0,.int .i64 0,.int .i64 0,.int .i64 0,.int .i64 0,.str []]) (by kernel_rfl)) rfl ?_;rintro _ _ ⟨b6,rfl,rfl⟩;refine AOL.e (Ao (k:=0) (v:=.agg _) (cs':=[.int .i64 _,_,.int .i64 _,.int .i64 _,.int .i64 _,.int .i64 _,.int .i64 _,_,.int .i64 _,.int .i64 _,.int .i64 _,.int .i64 _,.int .i64 _,.str _]) (H2:=_::_) Ai rfl rfl rfl rfl (rfl) rfl rfl rfl rfl) rfl ?_;rintro _ _ ⟨rfl,rfl⟩;refine AOL.ghost (GS.Aaj (t:=6) 0 rfl rfl) ?_;refine AOL.nil (Aa (AW.seq (AW.region (AOL.Aag (Ah (l:=[.int .i64 _,_,.int .i64 _,.int .i64 _,.int .i64 _,.int .i64 _,.int .i64 _,_,.int .i64 _,.int .i64 _,.int .i64 _,.int .i64 _,.int .i64 _,.str _]) Ai rfl rfl rfl rfl rfl) rfl (AOL.Aag (Ae (v:=.val _) rfl) rfl ?_)))));refine AOL.e (C2 (by kernel_rfl) rfl rfl (ih a hm (by have:=Kh hm;omega) (pre++(p::(p.args.take q.1).flatMap Cw)) ((p.args.drop (q.1+1)).flatMap Cw++post) (by rw [hN,hnd,oR ha];simp [Cs]) _ hR.2)) rfl ?_;rintro _ HZ ⟨rfl,hH2⟩;refine AOL.Aag (F6 rfl) rfl (AOL.nil (Aa (AW.cond (b:=_) rfl (fun hc3=>?_) (fun hc3=>AW.skip (C9 (Aa (AW.region ?_)))))))
  . cases hc3
  refine AOL.Aag (Cc rfl rfl rfl (by constructor <;> omega)) rfl ?_;refine AOL.Aag (Ae (v:=.int .i64 _) rfl) rfl (AOL.nil (Aa ?_));refine ⟨(q.1+1,HZ),?_,?_,GS.weaken ⟨rfl,rfl,rfl,rfl,trivial⟩ (.refl _)⟩
  . exact ⟨hlt,by simp only;rw [uH ha];simpa [Cs] using hH2⟩
  simp only;omega
 have hte:p.args.take q.1=p.args:=It (by have:=C7 hc2;omega);refine AW.exit ?_;refine A1 (A1 (Cd (Aa ?_)));refine AW.seq (AW.region (AOL.Aag (Ag (v:=.bool _) rfl) rfl (AOL.nil (Aa (AW.ret ?_)))));refine ⟨.inr rfl,[.bool _],.cons (.tmp _ _ rfl) <| .nil,_,.refl _,?_⟩;exact ⟨rfl,by rw [hnd];have h9:=hR.2;rwa [hte] at h9⟩
theorem uV (HK:List Pt->List HO->Prop)(l:Nat)(rec:Loop)(hrec:rec.params.size=1)(hobj:∀pre H,HK pre H->∃i:Nat,H[i]? = some (HO.obj l (Obj.loop rec)))(N:List Pt)(hY:∀pre q post H,N=pre++q::post->HK pre H->Dp Tryz.prog l rec H [.agg (cPt q)] (fun r H'=>r = .bool true/\HK (pre ++ [q]) H'))(p:Pt)(hp:Fm p<=1048576)(hN:N=Cw p)(H:List HO)(h0:HK [] H):Cb Tryz.prog 76 H [.val (.func (.yield l) #[] #[]),.ptr (cPt p)] (fun r H'=>r = .tuple []/\HK (Cw p) H'):=by
 refine Cb.body (n:=6) Ai Tryz.func76 rfl rfl rfl ?_;refine AW.region (AOL.Aag (Ah (l:=[.int .i64 _,_,.int .i64 _,.int .i64 _,.int .i64 _,.int .i64 _,.int .i64 _,_,.int .i64 _,.int .i64 _,.int .i64 _,.int .i64 _,.int .i64 _,.str _]) Ai rfl rfl rfl rfl rfl) rfl (AOL.Aag (Ae (v:=.val _) rfl) rfl ?_));refine AOL.e (C2 (by kernel_rfl) rfl rfl (qB HK l rec hrec hobj N hY p hp [] [] (by rw [hN];simp) H h0)) rfl ?_;rintro _ _ ⟨rfl,hH2⟩;refine AOL.nil ?_;refine ⟨.inl rfl,[],.nil,_,.refl _,?_⟩;exact ⟨rfl,hH2⟩
theorem k_ixI (l:List Int)(v:Int):Al Tryz.prog 85 [.sl 1 (Gx l),.int .i64 v] (.int .i64 (Pf (fun x=>v==x) l)):=by
 refine Al.body (n:=19) Ai Tryz.func85 rfl rfl rfl fun H=>?_
 refine AW.seq (AW.region (AOL.Aag (Ag (v:=.int .i64 _) rfl) rfl (AOL.nil (Aa (AW.seq (AW.seq (AW.region (AOL.Aag (Ae (v:=.sl _ _) rfl) rfl ?_))))))));refine AOL.Aag (Av (n:=l.length) Ai rfl rfl rfl (by simp [Gx])) rfl ?_;refine AOL.Aag (Ae (v:=.int .i64 _) rfl) rfl (AOL.nil (Aa (AW.block (AW.sllen 0 rfl fun hlen=>?_))));simp only [Gx,B1,maxLen] at hlen;refine AW.loopS (fun (k:Nat)=>(⟨[(0,.sl 1 (Gx l)),(1,.int .i64 v),(7,.int .i64 l.length),(8,.int .i64 (k:Int))],H,19⟩:St)) (fun k=>k<=l.length/\(l.take k).any (fun x=>v==x)=false) (fun k=>l.length-k) (0) ?_ (GS.weaken ⟨rfl,rfl,rfl,rfl,trivial⟩ (.refl _)) ?_
 . exact ⟨Bn _,rfl⟩
 rintro k hR;refine AW.seq (AW.region (AOL.Aag (B9 rfl rfl) rfl (AOL.nil (Aa (AW.seq (AW.cond (b:=_) rfl (fun hc1=>?_) (fun hc1=>?_)))))))
 .
  obtain ⟨x,hx⟩:=Fa (l:=l) (k:=k) (by have:=B2 hc1;omega);have hlt:=Bj hx;have hxm:=A0 hx;refine AW.skip (Aa (AW.seq (AW.block (AW.seq (AW.region (AOL.Aag (Ae (v:=.int .i64 _) rfl) rfl (AOL.Aag (Ag (v:=.int .i64 _) rfl) rfl (AOL.nil (Aa (AW.seq (AW.region (AOL.Aag (Ae (v:=.int .i64 _) rfl) rfl (AOL.Aag (Ae (v:=.sl _ _) rfl) rfl (AOL.Aag (Ae (v:=.int .i64 _) rfl) rfl ?_))))))))))))));refine AOL.Aag (Am (c:=[.int .i64 x]) Ai rfl rfl rfl rfl rfl rfl (by omega) (Co hx)) rfl ?_;refine AOL.Aag (Af (c:=.int .i64 _) Ai rfl rfl rfl) rfl (AOL.Aag (Ez rfl rfl) rfl (AOL.nil (Aa (AW.cond (b:=_) rfl (fun hc2=>AW.seq (AW.region (AOL.Aag (Ae (v:=.int .i64 _) rfl) rfl (AOL.Aag (Ag (v:=.int .i64 _) rfl) rfl (AOL.nil (Aa (AW.ret (Cn (Ap (Ap (Cn (Ap ?_)))))))))))) (fun hc2=>AW.skip (C9 (Aa (AW.region ?_))))))))
  .
   refine ⟨.inr rfl,[.int .i64 _],.cons (.tmp _ _ rfl) <| .nil,.refl _,?_⟩;exact congrArg (AV.int .i64) (Rn hR.2 hx hc2).symm
  refine AOL.Aag (Cc rfl rfl rfl (by constructor <;> omega)) rfl ?_;refine AOL.Aag (Ae (v:=.int .i64 _) rfl) rfl (AOL.nil (Aa ?_));refine ⟨k+1,?_,?_,GS.weaken ⟨rfl,rfl,rfl,rfl,trivial⟩ (.refl _)⟩
  . exact ⟨hlt,by rw [Ky _ hx,hR.2,hc2];rfl⟩
  omega
 have hk:l.length<=k:=by have:=C7 hc1;omega
 refine AW.exit ?_;refine A1 (A1 (Cd (Aa ?_)));refine AW.seq (AW.region (AOL.Aag (Ag (v:=.int .i64 _) rfl) rfl (AOL.nil (Aa (AW.ret ?_)))));refine ⟨.inr rfl,[.int .i64 _],.cons (.tmp _ _ rfl) <| .nil,.refl _,?_⟩;rw [It hk] at hR;exact congrArg (AV.int .i64) (Oy hR.2).symm
theorem zF (l:List Int)(v:Int):Al Tryz.prog 47 [.sl 1 (Gx l),.int .i64 v] (.bool (l.any fun x=>v==x)):=by
 refine Al.body (n:=9) Ai Tryz.func47 rfl rfl rfl fun H=>?_
 refine AW.seq (AW.region (AOL.Aag (Ag (v:=.bool _) rfl) rfl (AOL.nil (Aa (AW.seq (AW.region (AOL.Aag (Ae (v:=.sl _ _) rfl) rfl (AOL.Aag (Ae (v:=.int .i64 _) rfl) rfl ?_))))))));refine AOL.Aag (Ak (by kernel_rfl) rfl rfl (k_ixI l v)) rfl ?_;refine AOL.Aag (I7 rfl rfl) rfl (AOL.Aag (Ag (v:=.bool _) rfl) rfl (AOL.nil (Aa (AW.ret ?_))));refine ⟨.inr rfl,[.bool _],.cons (.tmp _ _ rfl) <| .nil,.refl _,?_⟩;exact congrArg AV.bool (Rm _ l)
theorem zG (F:Nat)(hfn:Pe Tryz.prog F=true)(cap:List AV)(f:Int->Bool)(l:List Int)(hf:∀x∈l,Al Tryz.prog F (.int .i64 x::cap) (.bool (f x))):Al Tryz.prog 86 [.sl 1 (Gx l),.fn (.func F) [] cap] (.int .i64 (Pf f l)):=by
 refine Al.body (n:=19) Ai Tryz.func86 rfl rfl rfl fun H=>?_
 refine AW.seq (AW.region (AOL.Aag (Ag (v:=.int .i64 _) rfl) rfl (AOL.nil (Aa (AW.seq (AW.seq (AW.region (AOL.Aag (Ae (v:=.sl _ _) rfl) rfl ?_))))))));refine AOL.Aag (Av (n:=l.length) Ai rfl rfl rfl (by simp [Gx])) rfl ?_;refine AOL.Aag (Ae (v:=.int .i64 _) rfl) rfl (AOL.nil (Aa (AW.block (AW.sllen 0 rfl fun hlen=>?_))));simp only [Gx,B1,maxLen] at hlen;refine AW.loopS (fun (k:Nat)=>(⟨[(0,.sl 1 (Gx l)),(1,.fn (.func F) [] cap),(7,.int .i64 l.length),(8,.int .i64 (k:Int))],H,19⟩:St)) (fun k=>k<=l.length/\(l.take k).any f=false) (fun k=>l.length-k) (0) ?_ (GS.weaken ⟨rfl,rfl,rfl,rfl,trivial⟩ (.refl _)) ?_
 . exact ⟨Bn _,rfl⟩
 rintro k hR;refine AW.seq (AW.region (AOL.Aag (B9 rfl rfl) rfl (AOL.nil (Aa (AW.seq (AW.cond (b:=_) rfl (fun hc1=>?_) (fun hc1=>?_)))))))
 .
  obtain ⟨x,hx⟩:=Fa (l:=l) (k:=k) (by have:=B2 hc1;omega);have hlt:=Bj hx;have hxm:=A0 hx;refine AW.skip (Aa (AW.seq (AW.block (AW.seq (AW.region (AOL.Aag (Ae (v:=.int .i64 _) rfl) rfl (AOL.Aag (Ag (v:=.int .i64 _) rfl) rfl (AOL.nil (Aa (AW.seq (AW.region (AOL.Aag (Ae (v:=.fn _ _ _) rfl) rfl (AOL.Aag (Ae (v:=.sl _ _) rfl) rfl (AOL.Aag (Ae (v:=.int .i64 _) rfl) rfl ?_))))))))))))));refine AOL.Aag (Am (c:=[.int .i64 x]) Ai rfl rfl rfl rfl rfl rfl (by omega) (Co hx)) rfl ?_;refine AOL.Aag (Af (c:=.int .i64 _) Ai rfl rfl rfl) rfl (AOL.Aag (Fy hfn rfl rfl rfl (hf x hxm)) rfl (AOL.nil (Aa (AW.cond (b:=_) rfl (fun hc2=>AW.seq (AW.region (AOL.Aag (Ae (v:=.int .i64 _) rfl) rfl (AOL.Aag (Ag (v:=.int .i64 _) rfl) rfl (AOL.nil (Aa (AW.ret (Cn (Ap (Ap (Cn (Ap ?_)))))))))))) (fun hc2=>AW.skip (C9 (Aa (AW.region ?_))))))))
  .
   refine ⟨.inr rfl,[.int .i64 _],.cons (.tmp _ _ rfl) <| .nil,.refl _,?_⟩;exact congrArg (AV.int .i64) (Rn hR.2 hx hc2).symm
  refine AOL.Aag (Cc rfl rfl rfl (by constructor <;> omega)) rfl ?_;refine AOL.Aag (Ae (v:=.int .i64 _) rfl) rfl (AOL.nil (Aa ?_));refine ⟨k+1,?_,?_,GS.weaken ⟨rfl,rfl,rfl,rfl,trivial⟩ (.refl _)⟩
  . exact ⟨hlt,by rw [Ky _ hx,hR.2,hc2];rfl⟩
  omega
 have hk:l.length<=k:=by have:=C7 hc1;omega
 refine AW.exit ?_;refine A1 (A1 (Cd (Aa ?_)));refine AW.seq (AW.region (AOL.Aag (Ag (v:=.int .i64 _) rfl) rfl (AOL.nil (Aa (AW.ret ?_)))));refine ⟨.inr rfl,[.int .i64 _],.cons (.tmp _ _ rfl) <| .nil,.refl _,?_⟩;rw [It hk] at hR;exact congrArg (AV.int .i64) (Oy hR.2).symm
theorem zD (F:Nat)(hfn:Pe Tryz.prog F=true)(cap:List AV)(f:Int->Bool)(l:List Int)(hf:∀x∈l,Al Tryz.prog F (.int .i64 x::cap) (.bool (f x))):Al Tryz.prog 48 [.sl 1 (Gx l),.fn (.func F) [] cap] (.bool (l.any f)):=by
 refine Al.body (n:=9) Ai Tryz.func48 rfl rfl rfl fun H=>?_
 refine AW.seq (AW.region (AOL.Aag (Ag (v:=.bool _) rfl) rfl (AOL.nil (Aa (AW.seq (AW.region (AOL.Aag (Ae (v:=.sl _ _) rfl) rfl (AOL.Aag (Ae (v:=.fn _ _ _) rfl) rfl ?_))))))));refine AOL.Aag (Ak (by kernel_rfl) rfl rfl (zG F hfn cap f l hf)) rfl ?_;refine AOL.Aag (I7 rfl rfl) rfl (AOL.Aag (Ag (v:=.bool _) rfl) rfl (AOL.nil (Aa (AW.ret ?_))));refine ⟨.inr rfl,[.bool _],.cons (.tmp _ _ rfl) <| .nil,.refl _,?_⟩;exact congrArg AV.bool (Rm f l)
theorem zW (to:List Int)(v:Int)(h0:0<=v)(h1:v<(to.length:Int)):Al Tryz.prog 50 [.int .i64 v,.ptr [.sl 1 (Gx to)]] (.bool (decide (J8 to v<0))):=by
 have hat:=Q7 h0 h1;refine Al.body (n:=9) Ai Tryz.func50 rfl rfl rfl fun H=>?_
 refine AW.seq (AW.region (AOL.Aag (Ag (v:=.bool _) rfl) rfl (AOL.nil (Aa (AW.seq (AW.region (AOL.Aag (Af (c:=.sl _ _) Ai rfl rfl rfl) rfl (AOL.Aag (Ae (v:=.int .i64 _) rfl) rfl (AOL.Aag (Am (c:=[.int .i64 (J8 to v)]) Ai rfl rfl rfl rfl rfl rfl (h0) (Co hat)) rfl (AOL.Aag (Af (c:=.int .i64 _) Ai rfl rfl rfl) rfl (AOL.Aag (B9 rfl rfl) rfl (AOL.Aag (Ag (v:=.bool _) rfl) rfl (AOL.nil (Aa (AW.ret ?_)))))))))))))));refine ⟨.inr rfl,[.bool _],.cons (.tmp _ _ rfl) <| .nil,.refl _,?_⟩;rfl
inductive Fd (f:Ex->Ex):Ex->Prop where
 | mk (e:Ex) (ha:∀a∈e.args,Fd f a) (h:f e=e):Fd f e
theorem zZ {f:Ex->Ex}{e:Ex}(h:e.args.map (Ig f)=e.args):Lv f e=e:=by
 cases e with | mk op args var field kind val=>
 unfold Lv;simp only at h ⊢;rw [h]
theorem aA {e:Ex}(h:B8 e=0):B3 e<=64/\Du e<=12/\Ej e=0:=by
 unfold B8 at h;split at h
 . cases h
 rename_i h1;split at h
 . cases h
 rename_i h2;simp at h1 h2;exact ⟨by omega,by omega,h⟩
theorem mB {e:Ex}(h1:B3 e<=64)(h2:Du e<=12)(h3:Ej e=0):B8 e=0:=by
 unfold B8;rw [if_neg (by simp;omega),if_neg (by simp;omega)];exact h3
theorem Sk {x:Evr}{e:Ex}(h:e.args = []):Dh x e=Hh x e:=by rw [J9,if_pos (by simp [h])]
theorem mW {x y:Evr}{f:Ex->Ex}{e:Ex}(hne:e.args≠[])(hf:∀a∈e.args,Dh y (Ig f a)=Dh x a):Dh y (Lv f e)=Dh x e:=by
  have h0:¬e.args.isEmpty=true:=by simpa using hne
  have h1:¬(Lv f e).args.isEmpty=true:=by simpa [Lv] using hne
  rw [J9 y,J9 x,if_neg h0,if_neg h1]
  have e1:Ax (fun a=>(Dh y a).2) (Lv f e).args=Ax (fun a=>(Dh x a).2) e.args:=by
    show Ax _ (e.args.map (Ig f))=_
    have:∀l:List Ex,(∀a∈l,Dh y (Ig f a)=Dh x a)->Ax (fun a=>(Dh y a).2) (l.map (Ig f))=Ax (fun a=>(Dh x a).2) l:=by
      intro l
      induction l with
      | nil=>intro _;rfl
      | cons a r ih=>
        intro h;rw [Ba,Ax,Ax,h a (by simp),ih fun b hb=>h b (by simp [hb])]
    exact this _ hf
  have e2:(Lv f e).args.map (fun a=>(Dh y a).1)=e.args.map (fun a=>(Dh x a).1):=by
    show (e.args.map (Ig f)).map _=_;rw [Lw];exact List.map_congr_left fun a ha=>by simp [hf a ha]
  rw [e1,e2];rfl
theorem kK {e:Ex}(h:Cu e=0)(ha:e.args = []):e.op=0\/(D4 e.op).1=true:=by
 obtain ⟨h1,h2,h3⟩:=Vv h;rw [ha] at h3;unfold Hc at h3
 have h4:e.op=0\/e.op=1\/e.op=2\/e.op=3\/e.op=4:=by
  simp only [K9] at h3;split at h3
  . omega
  split at h3
  . omega
  split at h3
  . simp at h3
  simp at h3
 rcases h4 with h | h | h | h | h
 . exact .inl h
 all_goals right;rw [h];decide
theorem eN {e:Ex}(h:Cu e=0)(ha:e.args≠[]):(D4 e.op).1=false:=by
 have hl:((e.args.length:Int)==0)=false:=by
  simp;exact ha
 rcases Xj h hl with ⟨_,h⟩ | ⟨_,h,h'⟩
 . rw [h];decide
 unfold D4;rw [if_neg (by omega),if_neg (by omega)]
theorem dM {e:Ex}(h:Cu e=0)(hu:(D4 e.op).1=true):e.var.toNat∈Gn e:=by
 have hv:=Me h;rw [Of];refine La _ ?_;unfold T0;rw [if_pos (by simp [hu];omega)];simp
theorem dL {e a:Ex}(h:a∈e.args){v:Nat}(hv:v∈Gn a):v∈Gn e:=by
 rw [Of];exact Qb _ (K8.2 ⟨a,h,hv⟩)
theorem vM {to:List Int}(e:Ex)(hr:D1 (D7 to) e=0):∀v∈Gn e,(v:Int)<(to.length:Int):=by
  induction e using Ex.ind with
  | h e ih=>
    have hvz:=K6 hr;intro v hv;rw [Of] at hv;rcases Da.1 hv with hv | hv
    . unfold T0 at hv
      split at hv
      . rename_i hc
        simp only [Cq,Di] at hc;simp only [F3] at hv;have:=P3 hvz.1 hc.1.1;omega
      cases hv
    . obtain ⟨a,ha,hva⟩:=K8.1 hv
      exact ih a ha (hvz.2 a ha) v hva
theorem lI {e:Ex}{v:Int}(h:v∈Oh e):0<=v/\v.toNat∈Gn e:=by
 unfold Oh Mj at h;obtain ⟨n,hn,rfl⟩:=B7.1 h;have:=(F1.1 hn).2;exact ⟨by omega,by simpa using this⟩
theorem lH {e:Ex}{v:Nat}(h:v∈Gn e)(hl:v<16):(v:Int)∈Oh e:=by
 unfold Oh Mj;exact B7.2 ⟨v,F1.2 ⟨by simpa using hl,by simpa using h⟩,rfl⟩
theorem Wm {e:Ex}{v:Int}(hu:(D4 e.op).1=true)(hv:0<=v/\v<16)(hw:0<=e.var/\e.var<16):Cu ⟨e.op,e.args,v,e.field,e.kind,e.val⟩=Cu e:=by
 have d1:decide (v<0)=false:=by simp;omega
 have d2:decide (16<=v)=false:=by simp;omega
 have d3:decide (e.var<0)=false:=by simp;omega
 have d4:decide (16<=e.var)=false:=by simp;omega
 unfold Cu By G3;simp only [hu,d1,d2,d3,d4,Bz,Be,A7,A9,Bl]
theorem Sy {to:List Int}{e:Ex}(h:B8 e=0)(hr:D1 (D7 to) e=0):B8 (Ig (B0 to) e)=0:=by
  obtain ⟨h1,h2,h3⟩:=aA h
  have hd:∀e:Ex,Du (Ig (B0 to) e)=Du e:=by
    intro e
    induction e using Ex.ind with
    | h e ih=>
      have:∀x:Ex,Du (B0 to x)=Du x:=by
        intro x;unfold B0;split
        . rw [Jt,Jt x]
        rfl
      rw [O3,this,Jt,Jt e]
      have key:∀l:List Ex,(∀a∈l,Du (Ig (B0 to) a)=Du a)->((l.map (Ig (B0 to))).map Du).foldr max 0=(l.map Du).foldr max 0:=by
        intro l
        induction l with
        | nil=>intro _;rfl
        | cons x r ihr=>
          intro h;simp only [Ba,List.foldr_cons];rw [h x (by simp),ihr fun a ha=>h a (by simp [ha])]
      show ((e.args.map (Ig (B0 to))).map Du).foldr max 0+1=_;rw [key e.args ih]
  refine mB (by rw [pT];exact h1) (by rw [hd];exact h2) ?_
  have:∀e:Ex,Ej e=0->D1 (D7 to) e=0->Ej (Ig (B0 to) e)=0:=by
    intro e
    induction e using Ex.ind with
    | h e ih=>
      intro hn hr;have hz:=Hi hn;have hvz:=K6 hr
      have ha:∀a∈(Lv (B0 to) e).args,Ej a=0:=by
        intro a hm;obtain ⟨b,hb,rfl⟩:=B7.1 hm;exact ih b hb (hz.2 b hb) (hvz.2 b hb)
      have ho:Cu (Lv (B0 to) e)=0:=by rw [kN (e:=e)] <;> first | exact hz.1 | rfl | simp [Lv]
      rw [O3];by_cases hu:(D4 e.op).1=true
      . have hv:=P3 hvz.1 hu
        have e1:B0 to (Lv (B0 to) e)=⟨e.op,e.args.map (Ig (B0 to)),J8 to e.var,e.field,e.kind,e.val⟩:=by unfold B0;exact if_pos hu
        rw [e1];refine dN ?_ ha;have hv0:=Me hz.1;rw [<-ho];exact Wm (e:=Lv (B0 to) e) hu (by omega) hv0
      . have e1:B0 to (Lv (B0 to) e)=Lv (B0 to) e:=by unfold B0;exact if_neg hu
        rw [e1];exact dN ho ha
  exact this e h3 hr
def Pg (l:List Pt):Nat:=(l.filter fun q=>(D6 q.op).typed).length
def Er (j:Nat):List Int:=(List.range j).map fun i:Nat=>(i:Int)
def Ni (j:Nat):List Int:=Er j++List.replicate (16-j) (-1)
theorem Hj (j:Nat):(Er j).length=j:=by unfold Er;simp
theorem iL (j:Nat):Er (j+1)=Er j ++ [(j:Int)]:=by unfold Er;rw [List.range_succ,Cy];rfl
theorem O6 {j:Nat}(h:j<=16):(Ni j).length=16:=by unfold Ni;rw [Do,Hj,Jg];omega
theorem toT_on {j:Nat}(h:j<16):(Ni j).set j (j:Int)=Ni (j+1):=by
 unfold Ni;rw [List.set_append_right _ _ (by rw [Hj];exact Bi _),Hj,Nat.sub_self,iL,show 16-j=(16-(j+1))+1 by omega,Tf,List.set_cons_zero,Cs];rfl
theorem kO (j:Nat):((Er j).any fun x=>(j:Int)==x)=false:=by
 rw [List.any_eq_false];intro x hx;unfold Er at hx;obtain ⟨i,hi,rfl⟩:=B7.1 hx;rw [Hq] at hi;simp;omega
theorem cnt_T {pre:List Pt}{q:Pt}(h:(D6 q.op).typed=true):Pg (pre ++ [q])=Pg pre+1:=by unfold Pg;rw [Gi];simp [h]
theorem cnt_F {pre:List Pt}{q:Pt}(h:(D6 q.op).typed=false):Pg (pre ++ [q])=Pg pre:=by unfold Pg;rw [Gi];simp [h]
def Np (m:Nat)(p:Pt):Prop:=((Cw p).filter fun q=>(D6 q.op).typed).map (fun q=>q.var)=Er m
theorem oY {m:Nat}{p q:Pt}{pre post:List Pt}(h:Np m p)(hN:Cw p=pre++q::post)(ht:(D6 q.op).typed=true):q.var=(Pg pre:Int)/\Pg pre<m:=by
 unfold Np at h;rw [hN,Gi,Fq,if_pos ht,Cy,Ba] at h;have h1:(List.map (fun q=>q.var) (List.filter (fun q=>(D6 q.op).typed) pre)++q.var::List.map (fun q=>q.var) (List.filter (fun q=>(D6 q.op).typed) post))[Pg pre]? = (Er m)[Pg pre]? :=congrArg (fun l=>l[Pg pre]?) h;rw [List.getElem?_append_right (by rw [B1];exact Bi _),B1] at h1;have e:Pg pre-(List.filter (fun q=>(D6 q.op).typed) pre).length=0:=by unfold Pg;omega
 rw [e,List.getElem?_cons_zero] at h1;unfold Er at h1;rw [List.getElem?_map] at h1;by_cases hj:Pg pre<m
 .
  rw [List.getElem?_range hj] at h1;simp only [E4,Option.some.injEq] at h1;exact ⟨h1,hj⟩
 rw [List.getElem?_eq_none (by rw [List.length_range];omega)] at h1;cases h1
theorem oX {m:Nat}{p:Pt}(h:Np m p):Pg (Cw p)=m:=by
 have:=congrArg List.length h;rw [B1,Hj] at this;exact this
def Y6 (m:Nat)(q:Pt):Int:=if (D6 q.op).cond&&((Oh q.cond).any fun v=>decide (J8 (Ni m) v<0)) then 6 else 0
def N7 (m:Nat)(p:Pt):Int:=if (Hw p != 0) then Hw p else Ax (Y6 m) (Cw p)
theorem sO (j:Nat):Gx (Er j) ++ [[AV.int .i64 (j:Int)]]=Gx (Er (j+1)):=by rw [iL];unfold Gx;rw [Cy];rfl
theorem mA (l:List Int):∀c∈Gx l,Bm c=true:=fun c hc=>by unfold Gx at hc;obtain ⟨x,_,rfl⟩:=B7.1 hc;rfl
theorem lZ (l:List Int):(Gx l).flatten=bI l:=by
 induction l with
 | nil=>rfl
 | cons a r ih=>show [AV.int .i64 a]++(Gx r).flatten=_;rw [ih];rfl
theorem Qv (l:List Int):(Gx l).length=l.length:=B1 ..
theorem nm_on {pre:List Pt}{q:Pt}(h:(D6 q.op).typed=true)(hq:q.var=(Pg pre:Int)):((Gx (Er (Pg pre)) ++ [[.int .i64 q.var]],bI (Ni (Pg pre+1))):List (List AV)×List AV)=(Gx (Er (Pg (pre ++ [q]))),bI (Ni (Pg (pre ++ [q])))):=by
 rw [cnt_T h,hq,sO]
theorem sI {l:List Int}{k:Nat}{x:Int}(h:k<l.length):E3 (bI l) k [.int .i64 x]=bI (l.set k x):=by
 unfold E3 bI;rw [List.map_set,List.set_eq_take_append_cons_drop,if_pos (by rw [B1];exact h)];simp
theorem jC {p:Pt}(h:Hw p=0):Gl p=0:=by
 unfold Hw at h;split at h
 . exact h
 rename_i h1;simpa using h1
theorem My (to:List Int)(p:Pt):Cw (D0 to p)=(Cw p).map (D0 to):=by
  induction p using Pt.ind with
  | h p ih=>
    rw [In,In p,Dx,Ba]
    congr 1
    . rw [Dx]
    . simp only
      have:∀l:List Pt,(∀a∈l,Cw (D0 to a)=(Cw a).map (D0 to))->(l.map (D0 to)).flatMap Cw=(l.flatMap Cw).map (D0 to):=by
        intro l
        induction l with
        | nil=>intro _;rfl
        | cons a r ih2=>intro h;rw [Ba,G8,G8,Cy,h a (by simp),ih2 fun b hb=>h b (by simp [hb])]
      exact this _ ih
theorem pQ (to:List Int)(p:Pt):Fm (D0 to p)=Fm p:=by rw [<-Jw,My,B1,Jw]
theorem ren_hw {to:List Int}{p:Pt}(h:∀q∈Cw p,Py q/\q.args.length<=1048576):∀q∈Cw (D0 to p),Py q/\q.args.length<=1048576:=by
 intro q hq;rw [My] at hq;obtain ⟨x,hx,rfl⟩:=B7.1 hq;rw [Dx];have:=h x hx;exact ⟨this.1,by simp only [B1];exact this.2⟩
theorem vr_lo {e:Ex}{v:Int}(h:v∈Oh e):0<=v:=(lI h).1
theorem vr_hi {e:Ex}{v:Int}(h:v∈Oh e):v<((16:Nat):Int):=by
 unfold Oh Mj at h;obtain ⟨n,hn,rfl⟩:=B7.1 h;have:=Hq.1 (F1.1 hn).1;omega
def QNv (q:Pt):Prop:=Py q/\B3 q.cond<=1048576
theorem pH {b m c z:Nat}{es:List (List AV)}:∀g w u,Rep g w (.slice (some ⟨b,0,none⟩) m c) (.sl z es)->Rep g w u (.ptr [.val (.slice (some ⟨b,0,none⟩) m c)])->Rep g w u (.ptr [.sl z es]):=by
  intro g w u h h';obtain ⟨b',o,rfl,f,h1,h2⟩:=h'.inv_ptr;refine .ptr b' o _ f (fun j x hj=>?_) (fun j x hj=>?_)
  . match j,hj with
    | 0,hj=>exact h1 0 _ rfl
  . match j,hj with
    | 0,hj=>
      have:=(h2 0 _ rfl).inv_val;rw [this];simp at hj;subst hj;exact h
theorem fK (p:Pt)(hp:medP p)(m:Nat)(hm:m<=16)(hv:Np m p)(H:List HO):Cb Tryz.prog 17 H [.agg (cPt p)] (fun r H'=>(∃x,r=(if (N7 m p != 0) then .tuple [.agg (cPt I4),x,.int .i64 (N7 m p)] else .tuple [.agg (cPt (Io (D0 (Ni m) p) 0).1),x,.int .i64 0]))/\H'=H):=by
 refine Cb.bodyM (n:=69) Ai Tryz.func17 rfl rfl rfl fun N0=>?_
 refine Qh.seq ?_;refine Qh.region ?_;refine AOL.Aag (Bt (v:=.agg _) (cs:=[.int .i64 _,_,.int .i64 _,.int .i64 _,.int .i64 _,.int .i64 _,.int .i64 _,_,.int .i64 _,.int .i64 _,.int .i64 _,.int .i64 _,.int .i64 _,.str _]) rfl rfl rfl) rfl ?_;refine AOL.e (Bh (l:=[.int .i64 0,.sl 14 [],.int .i64 0,.int .i64 0,.int .i64 0,.int .i64 0,.int .i64 0,.sl 8 [],.int .i64 0,.int .i64 0,.int .i64 0,.int .i64 0,.int .i64 0,.str []]) (by kernel_rfl)) rfl ?_;rintro _ _ ⟨b2,rfl,rfl⟩;refine AOL.e (Bh (l:=[.val (.slice none 0 0)]) (by kernel_rfl)) rfl ?_;rintro _ _ ⟨b3,rfl,rfl⟩;refine AOL.e (Bh (l:=[.int .i64 0]) (by kernel_rfl)) rfl ?_;rintro _ _ ⟨b4,rfl,rfl⟩;refine AOL.nil (Aa ?_);refine Qh.seq ?_;refine Qh.seq ?_;refine Qh.region ?_;refine AOL.Aag (Ah (l:=[.int .i64 _,_,.int .i64 _,.int .i64 _,.int .i64 _,.int .i64 _,.int .i64 _,_,.int .i64 _,.int .i64 _,.int .i64 _,.int .i64 _,.int .i64 _,.str _]) Ai rfl rfl rfl rfl rfl) rfl ?_;refine AOL.Aag (Ak (by kernel_rfl) rfl rfl (cR p hp)) rfl ?_;refine AOL.Aag (Ag (v:=.int .i64 _) rfl) rfl (AOL.nil (Aa ?_));refine Qh.seq ?_;refine Qh.region ?_;refine AOL.Aag (Ae (v:=.int .i64 _) rfl) rfl (AOL.Aag (Fk rfl rfl) rfl (AOL.nil (Aa ?_)));refine Qh.cond (b:=_) rfl (fun hc1=>?_) (fun hc1=>?_)
 .
  refine Qh.seq ?_;refine Qh.region ?_;refine AOL.Aag (C3 (l:=[.int .i64 _,_,.int .i64 _,.int .i64 _,.int .i64 _,.int .i64 _,.int .i64 _,_,.int .i64 _,.int .i64 _,.int .i64 _,.int .i64 _,.int .i64 _,.str _]) Ai rfl rfl rfl) rfl (AOL.Aag (Ae (v:=.int .i64 _) rfl) rfl (AOL.e (Ao (k:=2) (v:=.agg _) (cs':=[.int .i64 _,_,.int .i64 _,.int .i64 _,.int .i64 _,.int .i64 _,.int .i64 _,_,.int .i64 _,.int .i64 _,.int .i64 _,.int .i64 _,.int .i64 _,.str _]) (H2:=_::_::_::_) Ai rfl rfl rfl rfl (rfl) rfl rfl rfl rfl) rfl ?_));rintro _ _ ⟨rfl,rfl⟩;refine AOL.e (Ao (k:=1) (v:=.val _) (cs':=[_]) (H2:=_::_::_::_) Ai rfl rfl rfl rfl (rfl) rfl rfl rfl rfl) rfl ?_;rintro _ _ ⟨rfl,rfl⟩;refine AOL.e (Ao (k:=0) (v:=.int .i64 _) (cs':=[.int .i64 _]) (H2:=_::_::_::_) Ai rfl rfl rfl rfl (rfl) rfl rfl rfl rfl) rfl ?_;rintro _ _ ⟨rfl,rfl⟩;refine AOL.nil (Aa ?_);refine Qh.ret ?_;refine Ap ?_;refine ⟨.inr rfl,[.agg [.int .i64 _,_,.int .i64 _,.int .i64 _,.int .i64 _,.int .i64 _,.int .i64 _,_,.int .i64 _,.int .i64 _,.int .i64 _,.int .i64 _,.int .i64 _,.str _],_,.int .i64 _],.cons (.box _ _ _ 2 _ _ _ _ rfl rfl rfl rfl rfl rfl) <| .cons (.boxs _ _ _ 1 _ _ _ rfl _ rfl rfl rfl) <| .cons (.boxs _ _ _ 0 _ _ _ rfl _ rfl rfl rfl) <| .nil,_,.cons _ (.cons _ (.cons _ (.refl _))),?_⟩;have e:N7 m p=Hw p:=if_pos hc1;exact ⟨⟨_,by rw [e,if_pos hc1];rfl⟩,rfl⟩
 have hwl:Hw p=0:=by simpa using hc1
 have hnd:=qE (jC hwl);have hpl:=hp.len;refine Qh.skip ?_;refine Aa ?_;refine Qh.seq ?_;refine Qh.region ?_;refine AOL.Aag (Bw (es:=[[.int .i64 _]]) Ai rfl rfl rfl rfl rfl rfl rfl rfl rfl) rfl ?_;refine AOL.e (C2 (by kernel_rfl) rfl rfl (qI _ 16 (by omega) (by omega))) rfl ?_;rintro _ _ ⟨b19,rfl,rfl⟩;refine AOL.e (Bh (l:=[.sl 1 []]) (by kernel_rfl)) rfl ?_;rintro _ _ ⟨b6,rfl,rfl⟩;refine AOL.e (Ao (k:=0) (v:=.val _) (cs':=[_]) (H2:=_::_::_::_::_::_) Ai rfl rfl rfl rfl (rfl) rfl rfl rfl rfl) rfl ?_;rintro _ _ ⟨rfl,rfl⟩;refine AOL.ghost (GS.Aaj (t:=6) 0 rfl rfl) ?_;refine AOL.nil (Aa ?_);refine Qh.seq ?_;refine Qh.region ?_;refine AOL.e (Bh (l:=[.val (.slice none 0 0)]) (by kernel_rfl)) rfl ?_;rintro _ _ ⟨b7,rfl,rfl⟩;refine AOL.ghost (GS.cellRow (H2:=_::_::_::_::_::_) 0 0 3 1 rfl rfl rfl rfl) ?_;refine AOL.nil (Aa ?_);refine Qh.seq ?_;refine Qh.seq ?_;refine Qh.region ?_;refine AOL.Aag (Ah (l:=[.int .i64 _,_,.int .i64 _,.int .i64 _,.int .i64 _,.int .i64 _,.int .i64 _,_,.int .i64 _,.int .i64 _,.int .i64 _,.int .i64 _,.int .i64 _,.str _]) Ai rfl rfl rfl rfl rfl) rfl ?_;refine AOL.Aag (Ak (by kernel_rfl) rfl rfl (S8 p)) rfl ?_;refine AOL.nil (Aa ?_);refine Qh.block ?_;refine Qh.range (fun H2=>∃v:Value,H2=(.row v (Gx (Er (m))).length 3 1 :: .box b7 57 [.row v 1 (Gx (Er (m)))] :: .box b19 3 (bI (Ni (m))) :: .box b4 36 [.int .i64 (0)] :: .box b3 57 [.val (.slice none 0 0)] :: .box b2 29 (cPt I4)::H:List HO)) (fun _ _=>False) rfl (by kernel_rfl) (fun rec l g1 w1 hst hpe hps has hbo hsz htm=>?_) (fun H2 hZ=>?_) (fun _ _ h=>h.elim)
 .
  refine Cb.post (uV (fun pre Hx=>∃v:Value,Hx=(.obj l (.loop rec) :: .since g1 w1 :: .row v (Gx (Er (Pg pre))).length 3 1 :: .box b7 57 [.row v 1 (Gx (Er (Pg pre)))] :: .box b19 3 (bI (Ni (Pg pre))) :: .box b4 36 [.int .i64 (0)] :: .box b3 57 [.val (.slice none 0 0)] :: .box b2 29 (cPt I4)::H:List HO)) l rec (by rw [hps];rfl) (by rintro pre _ ⟨v,rfl⟩;exact ⟨0,rfl⟩) (Cw p) ?_ p hp.n rfl _ ⟨_,rfl⟩) ?_
  .
   rintro pre q post _ hN ⟨v,rfl⟩;have hqo:=hnd q (Yz hN);have hqv:=fun h=>oY hv hN h
   refine (P7 hqo.1.1 hqo.1.2).elim fun rest hrest=>?_
   refine eZ has hbo hst hpe hsz (R0 hps hsz rfl ⟨1,rfl⟩ htm) ?_;clear hsz htm;refine Qi.region (by kernel_rfl) ?_;refine AOL.e (Bh (l:=[.int .i64 0,.sl 14 [],.int .i64 0,.int .i64 0,.int .i64 0,.int .i64 0,.int .i64 0,.sl 8 [],.int .i64 0,.int .i64 0,.int .i64 0,.int .i64 0,.int .i64 0,.str []]) (by kernel_rfl)) rfl ?_;rintro _ _ ⟨b8,rfl,rfl⟩;refine AOL.e (Ao (k:=0) (v:=.agg _) (cs':=[.int .i64 _,_,.int .i64 _,.int .i64 _,.int .i64 _,.int .i64 _,.int .i64 _,_,.int .i64 _,.int .i64 _,.int .i64 _,.int .i64 _,.int .i64 _,.str _]) (H2:=_::_::_::_::_::_::_::_::_::_) Ai rfl rfl rfl rfl (rfl) rfl rfl rfl rfl) rfl ?_;rintro _ _ ⟨rfl,rfl⟩;refine AOL.ghost (GS.Aaj (t:=8) 0 rfl rfl) ?_;refine AOL.nil ?_;refine ⟨rfl,0,rfl,?_⟩;refine Qi.block ?_;refine Qi.seq ?_;refine Qi.region (by kernel_rfl) ?_;refine AOL.Aag (Ad (cs':=[.int .i64 _,_,.int .i64 _,.int .i64 _,.int .i64 _,.int .i64 _,.int .i64 _,_,.int .i64 _,.int .i64 _,.int .i64 _,.int .i64 _,.int .i64 _,.str _]) Ai rfl rfl rfl rfl rfl rfl) rfl (AOL.Aag (Af (c:=.int .i64 _) Ai rfl rfl rfl) rfl ?_);refine AOL.Aag (Et (cs':=X0 (D6 q.op)++rest) Ai ⟨_,by simp [globals],fun _ h=>h⟩ rfl rfl rfl rfl (hqo.1.1) (hqo.1.2) hrest rfl) rfl ?_;refine AOL.Aag (Ad (cs':=_) Ai rfl rfl rfl rfl rfl rfl) rfl (AOL.Aag (Af (c:=.bool _) Ai rfl rfl rfl) rfl (AOL.nil (Aa ?_)));refine Qi.cond (b:=_) rfl (fun hc2=>?_) (fun hc2=>?_)
   .
    have hqw:=(hqv hc2).1;have hqm:=(hqv hc2).2;have h16:Pg pre<16:=by omega
    have hcl:(Ni (Pg pre)).length=16:=O6 (by omega);have hol:=Hj (Pg pre);refine Qi.seq ?_;refine Qi.seq ?_;refine Qi.region (by kernel_rfl) ?_;refine AOL.Aam (Br (k:=3) (c:=.row _ _ _) Ai rfl rfl rfl rfl) rfl rfl (AOL.Aag (Ad (cs':=[.int .i64 _,.int .i64 _,.int .i64 _,.int .i64 _,_,.int .i64 _,.int .i64 _,.int .i64 _,.int .i64 _,.int .i64 _,.str _]) Ai rfl rfl rfl rfl rfl rfl) rfl (AOL.Aag (Af (c:=.int .i64 _) Ai rfl rfl rfl) rfl ?_));refine AOL.ghost (GS.unrow 28 rfl) ?_;refine AOL.Aag (Ak (by kernel_rfl) rfl rfl (zF (Er (Pg pre)) q.var)) rfl ?_;refine AOL.nil (Aa ?_);refine Qi.cond (b:=_) rfl (fun hc3=>?_) (fun hc3=>?_)
    .
     rw [hqw] at hc3;exact absurd (hc3.symm.trans (kO _)) (by decide)
    refine Qi.skip ?_;refine Aa ?_;refine Qi.seq ?_;refine Qi.region (by kernel_rfl) ?_;refine AOL.Aag (Af (c:=.val _) Ai rfl rfl rfl) rfl (AOL.Aag (Ad (cs':=[.int .i64 _,.int .i64 _,.int .i64 _,.int .i64 _,_,.int .i64 _,.int .i64 _,.int .i64 _,.int .i64 _,.int .i64 _,.str _]) Ai rfl rfl rfl rfl rfl rfl) rfl (AOL.Aag (Af (c:=.int .i64 _) Ai rfl rfl rfl) rfl (AOL.Aam (Br (k:=3) (c:=.row _ _ _) Ai rfl rfl rfl rfl) rfl rfl ?_)));refine AOL.Aag (jK (n:=Pg pre) Ai rfl rfl rfl (by rw [Qv,Hj])) rfl ?_;refine AOL.Aag (A8 (o':=Pg pre) Ai rfl rfl rfl rfl rfl (by rw [hqw];omega) (by rw [hqw];omega) (by show 0+q.var.toNat*1=_;rw [hqw,Jy];omega)) rfl ?_;refine AOL.e (Ao (k:=4) (v:=.int .i64 _) (cs':=(bI (Ni (Pg pre+1)))) (H2:=_::_::_::_::_::_::_::_::_) Ai rfl rfl rfl rfl rfl rfl (by show Nat.ble (Pg pre+1) _=true;rw [Nat.ble_eq,Ut,hcl];omega) ((sI (by omega)).trans (congrArg bI (toT_on h16))) rfl) rfl ?_;rintro _ _ ⟨rfl,rfl⟩;refine AOL.nil (Aa ?_);refine Qi.region (by kernel_rfl) ?_;refine AOL.Aam (Br (k:=3) (c:=.row _ _ _) Ai rfl rfl rfl rfl) rfl rfl (AOL.Aag (Ad (cs':=[.int .i64 _,.int .i64 _,.int .i64 _,.int .i64 _,_,.int .i64 _,.int .i64 _,.int .i64 _,.int .i64 _,.int .i64 _,.str _]) Ai rfl rfl rfl rfl rfl rfl) rfl (AOL.Aag (Af (c:=.int .i64 _) Ai rfl rfl rfl) rfl (AOL.Aag (Bw (es:=[[.int .i64 _]]) Ai rfl rfl rfl rfl rfl rfl rfl rfl rfl) rfl ?_)));refine AOL.e (I5 (k:=2) Ai rfl rfl rfl rfl rfl rfl rfl rfl (Hn rfl) (mA _) (by rw [Qv,Hj];show (Pg pre+1)*8<=_;omega) (by rw [Qv,Hj];simp [maxLen];omega)) rfl ?_;rintro _ _ ⟨v43,rfl,rfl⟩;refine AOL.e (Ao (k:=3) (v:=.row _ _ _) (cs':=[_]) (H2:=_::_::_::_::_::_::_::_::_) Ai rfl rfl rfl rfl (rfl) rfl rfl rfl rfl) rfl ?_;rintro _ _ ⟨rfl,rfl⟩;refine AOL.nil (C9 ?_);exact ⟨0,rfl,rfl,rfl,v43,congrArg (fun x:List (List AV)×List AV=>(.obj l (.loop rec) :: .since g1 w1 :: .row v43 x.1.length 3 1 :: .box b7 57 [.row v43 1 x.1] :: .box b19 3 x.2 :: .box b4 36 [.int .i64 0] :: .box b3 57 [.val (.slice none 0 0)] :: .box b2 29 (cPt I4)::H:List HO)) (nm_on hc2 hqw)⟩
   refine Qi.skip ?_;refine C9 ?_;exact ⟨0,rfl,rfl,rfl,v,congrArg (fun j:Nat=>(.obj l (.loop rec) :: .since g1 w1 :: .row v (Gx (Er (j))).length 3 1 :: .box b7 57 [.row v 1 (Gx (Er (j)))] :: .box b19 3 (bI (Ni (j))) :: .box b4 36 [.int .i64 (0)] :: .box b3 57 [.val (.slice none 0 0)] :: .box b2 29 (cPt I4)::H:List HO)) (cnt_F hc2).symm⟩
  rintro r K ⟨rfl,v,rfl⟩;rw [oX hv];exact ⟨_,.refl _,rec,_,rfl,by rw [hst];decide,Or.inl ⟨hpe,v,rfl⟩⟩
 obtain ⟨v,rfl⟩:=hZ;refine C9 (Aa ?_);refine Qh.seq ?_;refine Qh.seq ?_;refine Qh.ghost (GS.freezeSl (t:=6) (z:=1) (m:=16) (c:=16) (es:=Gx (Ni m)) (y:=.ptr [.sl 1 (Gx (Ni m))]) 2 rfl rfl (lZ _) (by rw [Qv];exact (O6 hm).symm) (Bi _) (by decide) (fun e he=>by unfold Gx at he;obtain ⟨x,_,rfl⟩:=B7.1 he;rfl) pH) ?_;refine Qh.region ?_;refine AOL.Aag (Ah (l:=[.int .i64 _,_,.int .i64 _,.int .i64 _,.int .i64 _,.int .i64 _,.int .i64 _,_,.int .i64 _,.int .i64 _,.int .i64 _,.int .i64 _,.int .i64 _,.str _]) Ai rfl rfl rfl rfl rfl) rfl ?_;refine AOL.Aag (Ak (by kernel_rfl) rfl rfl (S8 p)) rfl ?_;refine AOL.nil (Aa ?_);refine Qh.block ?_;refine Qh.range (fun H2=>Ax (Y6 m) (Cw p)=0/\H2=(.row v (Gx (Er m)).length 3 1 :: .box b7 57 [.row v 1 (Gx (Er m))] :: .box b4 36 [.int .i64 (0)] :: .box b3 57 [.val (.slice none 0 0)] :: .box b2 29 (cPt I4)::H:List HO)) (fun c H2=>c = .ret/\Ax (Y6 m) (Cw p)≠0/\H2=(.row v (Gx (Er m)).length 3 1 :: .box b7 57 [.row v 1 (Gx (Er m))] :: .box b4 36 [.int .i64 (Ax (Y6 m) (Cw p))] :: .box b3 57 [.val (.slice none 0 0)] :: .box b2 29 (cPt I4)::H:List HO)) rfl (by kernel_rfl) (fun rec l g1 w1 hst hpe hps has hbo hsz htm=>?_) (fun H2 hZ=>?_) (fun c H2 hY=>?_)
 .
  refine Cb.post (Rs Int (fun e=>e==0) (fun _ q=>Y6 m q) (fun _ _=>True) (fun _ _ _ _ _=>trivial) (fun _ _ _ _=>trivial) QNv (fun e:Int=>(.obj l (.loop (if (e==0)=true then rec else { rec with state:=.done,pending:=some .ret })) :: .since g1 w1 :: .row v (Gx (Er m)).length 3 1 :: .box b7 57 [.row v 1 (Gx (Er m))] :: .box b4 36 [.int .i64 (e)] :: .box b3 57 [.val (.slice none 0 0)] :: .box b2 29 (cPt I4)::H:List HO)) l rec (by rw [hps];rfl) (fun e he=>⟨0,by show some (HO.obj l (.loop (if (e==0)=true then rec else { rec with state:=.done,pending:=some .ret })))=_;rw [if_pos he]⟩) (fun e q n he hq _=>?_) p hp.n (fun q hq=>⟨(hnd q hq).1,hp.cond q hq⟩) 0 0 rfl trivial) ?_
  .
   obtain rfl:e=0:=by simpa using he
   refine (P7 hq.1.1 hq.1.2).elim fun rest hrest=>?_
   show Dp _ l rec (.obj l (.loop rec) :: .since g1 w1 :: .row v (Gx (Er m)).length 3 1 :: .box b7 57 [.row v 1 (Gx (Er m))] :: .box b4 36 [.int .i64 (0)] :: .box b3 57 [.val (.slice none 0 0)] :: .box b2 29 (cPt I4)::H:List HO) _ _;refine ofS3 has hbo hst hpe hsz (R0 hps hsz rfl ⟨1,rfl⟩ htm) ?_;clear hsz htm;refine Qi.region (by kernel_rfl) ?_;refine AOL.e (Bh (l:=[.int .i64 0,.sl 14 [],.int .i64 0,.int .i64 0,.int .i64 0,.int .i64 0,.int .i64 0,.sl 8 [],.int .i64 0,.int .i64 0,.int .i64 0,.int .i64 0,.int .i64 0,.str []]) (by kernel_rfl)) rfl ?_;rintro _ _ ⟨b9,rfl,rfl⟩;refine AOL.e (Ao (k:=0) (v:=.agg _) (cs':=[.int .i64 _,_,.int .i64 _,.int .i64 _,.int .i64 _,.int .i64 _,.int .i64 _,_,.int .i64 _,.int .i64 _,.int .i64 _,.int .i64 _,.int .i64 _,.str _]) (H2:=_::_::_::_::_::_::_::_::_) Ai rfl rfl rfl rfl (rfl) rfl rfl rfl rfl) rfl ?_;rintro _ _ ⟨rfl,rfl⟩;refine AOL.ghost (GS.Aaj (t:=9) 0 rfl rfl) ?_;refine AOL.nil ?_;refine ⟨rfl,0,rfl,?_⟩;refine Qi.block ?_;refine Qi.seq ?_;refine Qi.region (by kernel_rfl) ?_;refine AOL.Aag (Ad (cs':=[.int .i64 _,_,.int .i64 _,.int .i64 _,.int .i64 _,.int .i64 _,.int .i64 _,_,.int .i64 _,.int .i64 _,.int .i64 _,.int .i64 _,.int .i64 _,.str _]) Ai rfl rfl rfl rfl rfl rfl) rfl (AOL.Aag (Af (c:=.int .i64 _) Ai rfl rfl rfl) rfl ?_);refine AOL.Aag (Et (cs':=X0 (D6 q.op)++rest) Ai ⟨_,by simp [globals],fun _ h=>h⟩ rfl rfl rfl rfl (hq.1.1) (hq.1.2) hrest rfl) rfl ?_;refine AOL.Aag (Ad (cs':=_) Ai rfl rfl rfl rfl rfl rfl) rfl (AOL.Aag (Af (c:=.bool _) Ai rfl rfl rfl) rfl (AOL.Aag (Ae (v:=.bool _) rfl) rfl (AOL.Aah (y:=.ptr _) _ [] rfl (Un.all trivial) (fun hG=>Ad (cs':=[.int .i64 _,_,.int .i64 _,.int .i64 _,.int .i64 _,.int .i64 _,.int .i64 _,.str _]) Ai rfl rfl rfl rfl rfl rfl) rfl ?_)));refine AOL.Aah (y:=.agg _) _ [(53,_)] rfl (Un.all ⟨Zs.self _ _,trivial⟩) (fun hG=>Ah (l:=[.int .i64 _,_,.int .i64 _,.int .i64 _,.int .i64 _,.int .i64 _,.int .i64 _,.str _]) Ai rfl rfl rfl rfl rfl) rfl ?_;refine AOL.Aah (y:=.sl _ _) _ [(54,_)] rfl (Un.all ⟨Zs.self _ _,trivial⟩) (fun hG=>Ak (by kernel_rfl) rfl rfl (c26 q.cond hq.2)) rfl ?_;refine AOL.Aah (y:=.fn _ _ _) _ [] rfl (Un.all trivial) (fun hG=>A3 (l:=[]) (l':=[.ptr _]) rfl rfl) rfl ?_;refine AOL.Aah (y:=.bool _) _ [(55,_),(56,_)] rfl (Un.all ⟨Zs.self _ _,Zs.self _ _,trivial⟩) (fun hG=>Ak (by kernel_rfl) rfl rfl (zD 50 (by kernel_rfl) [.ptr [.sl 1 (Gx (Ni m))]] (fun v=>decide (J8 (Ni m) v<0)) (Oh q.cond) (fun v hv=>zW (Ni m) v (vr_lo hv) (by rw [O6 hm];exact vr_hi hv)))) rfl ?_;refine AOL.Aag (Bc rfl rfl rfl) rfl (AOL.nil (Aa ?_));refine Qi.cond (b:=_) rfl (fun hc4=>?_) (fun hc4=>?_)
   .
    refine Qi.seq ?_;refine Qi.region (by kernel_rfl) ?_;refine AOL.Aag (C3 (l:=[.int .i64 _,_,.int .i64 _,.int .i64 _,.int .i64 _,.int .i64 _,.int .i64 _,_,.int .i64 _,.int .i64 _,.int .i64 _,.int .i64 _,.int .i64 _,.str _]) Ai rfl rfl rfl) rfl (AOL.e (Ao (k:=6) (v:=.agg _) (cs':=[.int .i64 _,_,.int .i64 _,.int .i64 _,.int .i64 _,.int .i64 _,.int .i64 _,_,.int .i64 _,.int .i64 _,.int .i64 _,.int .i64 _,.int .i64 _,.str _]) (H2:=_::_::_::_::_::_::_::_) Ai rfl rfl rfl rfl (rfl) rfl rfl rfl rfl) rfl ?_);rintro _ _ ⟨rfl,rfl⟩;refine AOL.e (Ao (k:=5) (v:=.val _) (cs':=[_]) (H2:=_::_::_::_::_::_::_::_) Ai rfl rfl rfl rfl (rfl) rfl rfl rfl rfl) rfl ?_;rintro _ _ ⟨rfl,rfl⟩;refine AOL.e (Ao (k:=4) (v:=.int .i64 _) (cs':=[.int .i64 _]) (H2:=_::_::_::_::_::_::_::_) Ai rfl rfl rfl rfl (rfl) rfl rfl rfl rfl) rfl ?_;rintro _ _ ⟨rfl,rfl⟩;refine AOL.nil (Aa ?_);refine Qi.ret ?_;refine Cn ?_;have hv:Y6 m q=6:=if_pos hc4;have h0:(Y6 m q==0)=false:=by rw [hv];rfl
    have hH:(fun e:Int=>(.obj l (.loop (if (e==0)=true then rec else { rec with state:=.done,pending:=some .ret })) :: .since g1 w1 :: .row v (Gx (Er m)).length 3 1 :: .box b7 57 [.row v 1 (Gx (Er m))] :: .box b4 36 [.int .i64 (e)] :: .box b3 57 [.val (.slice none 0 0)] :: .box b2 29 (cPt I4)::H:List HO)) (Y6 m q)=(.obj l (.loop { rec with state:=.done,pending:=some .ret }) :: .since g1 w1 :: .row v (Gx (Er m)).length 3 1 :: .box b7 57 [.row v 1 (Gx (Er m))] :: .box b4 36 [.int .i64 (6)] :: .box b3 57 [.val (.slice none 0 0)] :: .box b2 29 (cPt I4)::H:List HO):=Eq.trans (congrArg (fun r:Loop=>(.obj l (.loop r) :: .since g1 w1 :: .row v (Gx (Er m)).length 3 1 :: .box b7 57 [.row v 1 (Gx (Er m))] :: .box b4 36 [.int .i64 (Y6 m q)] :: .box b3 57 [.val (.slice none 0 0)] :: .box b2 29 (cPt I4)::H:List HO)) (if_neg (by rw [h0];decide))) (congrArg (fun v9:Int=>(.obj l (.loop { rec with state:=.done,pending:=some .ret }) :: .since g1 w1 :: .row v (Gx (Er m)).length 3 1 :: .box b7 57 [.row v 1 (Gx (Er m))] :: .box b4 36 [.int .i64 (v9)] :: .box b3 57 [.val (.slice none 0 0)] :: .box b2 29 (cPt I4)::H:List HO)) hv);exact ⟨0,rfl,Or.inr ⟨rfl,congrArg AV.bool h0.symm,hH.symm⟩⟩
   refine Qi.skip ?_;refine C9 ?_;have h0:Y6 m q=0:=Ep hc4;exact ⟨0,rfl,Or.inl ⟨rfl,congrArg AV.bool (by rw [h0];rfl),congrArg (fun e:Int=>(.obj l (.loop (if (e==0)=true then rec else { rec with state:=.done,pending:=some .ret })) :: .since g1 w1 :: .row v (Gx (Er m)).length 3 1 :: .box b7 57 [.row v 1 (Gx (Er m))] :: .box b4 36 [.int .i64 (e)] :: .box b3 57 [.val (.slice none 0 0)] :: .box b2 29 (cPt I4)::H:List HO)) h0.symm⟩⟩
  rintro r K ⟨rfl,rfl⟩;have hfin:=L8 (Y6 m) (Cw p);by_cases h0:Ax (Y6 m) (Cw p)=0
  . exact ⟨_,List.Perm.refl _,rec,_,congrArg (fun e:Int=>(.obj l (.loop (if (e==0)=true then rec else { rec with state:=.done,pending:=some .ret })) :: .since g1 w1 :: .row v (Gx (Er m)).length 3 1 :: .box b7 57 [.row v 1 (Gx (Er m))] :: .box b4 36 [.int .i64 (e)] :: .box b3 57 [.val (.slice none 0 0)] :: .box b2 29 (cPt I4)::H:List HO)) (hfin.trans h0),by rw [hst];decide,Or.inl ⟨hpe,h0,rfl⟩⟩
  exact ⟨_,List.Perm.refl _,{ rec with state:=.done,pending:=some .ret },(.row v (Gx (Er m)).length 3 1 :: .box b7 57 [.row v 1 (Gx (Er m))] :: .box b4 36 [.int .i64 (Ax (Y6 m) (Cw p))] :: .box b3 57 [.val (.slice none 0 0)] :: .box b2 29 (cPt I4)::H:List HO),(congrArg (fun e:Int=>(.obj l (.loop (if (e==0)=true then rec else { rec with state:=.done,pending:=some .ret })) :: .since g1 w1 :: .row v (Gx (Er m)).length 3 1 :: .box b7 57 [.row v 1 (Gx (Er m))] :: .box b4 36 [.int .i64 (e)] :: .box b3 57 [.val (.slice none 0 0)] :: .box b2 29 (cPt I4)::H:List HO)) hfin).trans (congrArg (fun r:Loop=>(.obj l (.loop r) :: .since g1 w1 :: .row v (Gx (Er m)).length 3 1 :: .box b7 57 [.row v 1 (Gx (Er m))] :: .box b4 36 [.int .i64 (Ax (Y6 m) (Cw p))] :: .box b3 57 [.val (.slice none 0 0)] :: .box b2 29 (cPt I4)::H:List HO)) (if_neg (by simpa using h0))),(fun h=>LoopState.noConfusion h),Or.inr ⟨.ret,rfl,rfl,h0,rfl⟩⟩
 .
  obtain ⟨h0,rfl⟩:=hZ;refine C9 (Aa ?_);refine Qh.seq ?_;refine Qh.region ?_;refine AOL.Aag (Ah (l:=[.int .i64 _,_,.int .i64 _,.int .i64 _,.int .i64 _,.int .i64 _,.int .i64 _,_,.int .i64 _,.int .i64 _,.int .i64 _,.int .i64 _,.int .i64 _,.str _]) Ai rfl rfl rfl rfl rfl) rfl (AOL.Aag (Af (c:=.sl _ _) Ai rfl rfl rfl) rfl ?_);refine AOL.Aag (Ak (by kernel_rfl) rfl rfl (V4 (Ni m) (by rw [O6 hm];omega) p fun q hq=>⟨(hnd q hq).1,hp.cond q hq,(hpl q hq).2,fun h=>by rw [O6 hm];exact (hnd q hq).2 h⟩)) rfl ?_;refine AOL.Aag (Ak (by kernel_rfl) rfl rfl (cQ (D0 (Ni m) p) (ren_hw fun q hq=>⟨(hnd q hq).1,(hpl q hq).2⟩) 0 (Lx _) (by rw [pQ];have:=hp.n;omega))) rfl ?_;refine AOL.Aag (Ae (v:=.tuple _) rfl) rfl (AOL.Aag (A4 (v:=.agg [.int .i64 _,_,.int .i64 _,.int .i64 _,.int .i64 _,.int .i64 _,.int .i64 _,_,.int .i64 _,.int .i64 _,.int .i64 _,.int .i64 _,.int .i64 _,.str _]) rfl rfl) rfl (AOL.Aag (A4 (v:=.int .i64 _) rfl rfl) rfl ?_));refine AOL.e (Bh (l:=[.int .i64 0,.sl 14 [],.int .i64 0,.int .i64 0,.int .i64 0,.int .i64 0,.int .i64 0,.sl 8 [],.int .i64 0,.int .i64 0,.int .i64 0,.int .i64 0,.int .i64 0,.str []]) (by kernel_rfl)) rfl ?_;rintro _ _ ⟨b10,rfl,rfl⟩;refine AOL.e (Ao (k:=0) (v:=.agg _) (cs':=[.int .i64 _,_,.int .i64 _,.int .i64 _,.int .i64 _,.int .i64 _,.int .i64 _,_,.int .i64 _,.int .i64 _,.int .i64 _,.int .i64 _,.int .i64 _,.str _]) (H2:=_::_::_::_::_::_::_) Ai rfl rfl rfl rfl (rfl) rfl rfl rfl rfl) rfl ?_;rintro _ _ ⟨rfl,rfl⟩;refine AOL.Aag (Ag (v:=.int .i64 _) rfl) rfl ?_;refine AOL.ghost (GS.Aaj (t:=10) 0 rfl rfl) ?_;refine AOL.nil (Aa ?_);refine Qh.seq ?_;refine Qh.draw mixed (fun H'=>_∈H') (A0 (i:=1) rfl) (by kernel_rfl) ?_;refine E5.pure _ _ 0 _ _ rfl (by kernel_rfl) (by kernel_rfl) rfl (.run rfl (Ah (l:=[.int .i64 _,_,.int .i64 _,.int .i64 _,.int .i64 _,.int .i64 _,.int .i64 _,_,.int .i64 _,.int .i64 _,.int .i64 _,.int .i64 _,.int .i64 _,.str _]) Ai rfl rfl rfl rfl rfl)) ?_;refine E5.pure _ _ 1 _ _ rfl (by kernel_rfl) (by kernel_rfl) rfl (.run rfl (OpP.Aan (fun k=>Br (k:=k) (c:=.row _ _ _) Ai rfl rfl rfl rfl) (fun _ h=>h))) ?_;refine E5.eff _ _ 2 _ _ rfl (by kernel_rfl) rfl rfl (Ao (k:=4) (v:=.agg _) (cs':=[.int .i64 _,_,.int .i64 _,.int .i64 _,.int .i64 _,.int .i64 _,.int .i64 _,_,.int .i64 _,.int .i64 _,.int .i64 _,.int .i64 _,.int .i64 _,.str _]) (H2:=_::_::_::_::_::_) Ai rfl rfl rfl rfl (rfl) rfl rfl rfl rfl) (by rintro _ _ ⟨rfl,rfl⟩;simp) ?_;rintro _ _ ⟨rfl,rfl⟩;refine E5.eff _ _ 3 _ _ rfl (by kernel_rfl) rfl rfl (Ao (k:=3) (v:=.row _ _ _) (cs':=[_]) (H2:=_::_::_::_::_::_) Ai rfl rfl rfl rfl (rfl) rfl rfl rfl rfl) (by rintro _ _ ⟨rfl,rfl⟩;simp) ?_;rintro _ _ ⟨rfl,rfl⟩;refine E5.last _ _ 4 _ _ rfl (by kernel_rfl) rfl rfl (Ao (k:=2) (v:=.int .i64 _) (cs':=[.int .i64 _]) (H2:=_::_::_::_::_::_) Ai rfl rfl rfl rfl (rfl) rfl rfl rfl rfl) (by kernel_rfl) ?_;rintro _ _ ⟨rfl,rfl⟩
  refine Aa ?_;refine Qh.ret ?_;refine ⟨.inr rfl,[.agg [.int .i64 _,_,.int .i64 _,.int .i64 _,.int .i64 _,.int .i64 _,.int .i64 _,_,.int .i64 _,.int .i64 _,.int .i64 _,.int .i64 _,.int .i64 _,.str _],_,.int .i64 _],.cons (.box _ _ _ 4 _ _ _ _ rfl rfl rfl rfl rfl rfl) <| .cons (.boxs _ _ _ 3 _ _ _ rfl _ rfl rfl rfl) <| .cons (.boxs _ _ _ 2 _ _ _ rfl _ rfl rfl rfl) <| .nil,_,.cons _ (.cons _ (.cons _ (.cons _ (.cons _ (.refl _))))),?_⟩;have e:N7 m p=0:=(Ep hc1).trans h0;exact ⟨⟨_,by rw [e];rfl⟩,rfl⟩
 obtain ⟨rfl,h0,rfl⟩:=hY;refine Qh.ret ?_;refine Cn (Ap ?_);refine ⟨.inr rfl,[.agg [.int .i64 _,_,.int .i64 _,.int .i64 _,.int .i64 _,.int .i64 _,.int .i64 _,_,.int .i64 _,.int .i64 _,.int .i64 _,.int .i64 _,.int .i64 _,.str _],_,.int .i64 _],.cons (.box _ _ _ 4 _ _ _ _ rfl rfl rfl rfl rfl rfl) <| .cons (.boxs _ _ _ 3 _ _ _ rfl _ rfl rfl rfl) <| .cons (.boxs _ _ _ 2 _ _ _ rfl _ rfl rfl rfl) <| .nil,_,.cons _ (.cons _ (.cons _ (.cons _ (.cons _ (.refl _))))),?_⟩;have e:N7 m p=Ax (Y6 m) (Cw p):=Ep hc1;exact ⟨⟨_,by rw [e,if_pos (by simpa using h0)];rfl⟩,rfl⟩
theorem oF {v v' own own':Int}{ev:Ev}{vars vars':List (List Ev)}{e:Ex}(h:Db vars' v'=Db vars v)(h1:v'=own'↔v=own)(e':Ex)
  (he':e'=⟨e.op,e.args,v',e.field,e.kind,e.val⟩) (hv:e.var=v):Hh ⟨vars',own',ev⟩ e'=Hh ⟨vars,own,ev⟩ e:=by
 subst he';subst hv
 have e1:(v' != own')=(e.var != own):=by
  rw [Bool.eq_iff_iff,bne_iff_ne,bne_iff_ne];exact not_congr h1
 unfold Hh Tb Kb;simp only [h,e1]
theorem kA {vars M:List (List Ev)}{to:List Int}{own own':Int}{ev:Ev}(e:Ex)(hn:Ej e=0)(hr:D1 (D7 to) e=0)
    (h:∀v:Nat,v∈Gn e->Db M (J8 to (v:Int))=Db vars (v:Int)/\(J8 to (v:Int)=own'↔(v:Int)=own)) :
    Dh ⟨M,own',ev⟩ (Ig (B0 to) e)=Dh ⟨vars,own,ev⟩ e:=by
  induction e using Ex.ind with
  | h e ih=>
    have hz:=Hi hn;have hvz:=K6 hr;by_cases ha:e.args = []
    . have ho:Lv (B0 to) e=e:=zZ (by rw [ha];rfl)
      rw [O3,ho];rw [Sk (e:=e) ha];rcases kK hz.1 ha with h0 | hu
      . have hu:(D4 e.op).1=false:=by rw [h0];decide
        have:B0 to e=e:=by unfold B0;rw [if_neg (by simp [hu])]
        rw [this,Sk ha];unfold Hh;rw [if_pos (by simp [h0]),if_pos (by simp [h0])]
      . have hv0:=Me hz.1
        have h1:=h _ (dM hz.1 hu);have e1:((e.var.toNat:Nat):Int)=e.var:=by omega
        rw [e1] at h1;have:B0 to e=⟨e.op,e.args,J8 to e.var,e.field,e.kind,e.val⟩:=by unfold B0;exact if_pos hu
        rw [this,Sk (x:=⟨M,own',ev⟩) (e:=⟨e.op,e.args,J8 to e.var,e.field,e.kind,e.val⟩) ha];exact oF (v:=e.var) h1.1 h1.2 _ rfl rfl
    . have hu:=eN hz.1 ha
      rw [O3]
      have:B0 to (Lv (B0 to) e)=Lv (B0 to) e:=by
        unfold B0;exact if_neg (by show ¬(D4 e.op).1=true;simp [hu])
      rw [this];exact mW ha fun a hm=>ih a hm (hz.2 a hm) (hvz.2 a hm) fun v hv=>h v (dL hm hv)
theorem rJ {f:Ex->Int}{P:Ex->Prop}(hP:∀e,P e->f e=0/\∀a∈e.args,P a):∀e,P e->D1 f e=0:=by
  intro e
  induction e using Ex.ind with
  | h e ih=>
    intro he;obtain ⟨h1,h2⟩:=hP e he;rw [Mk,if_neg (by simp [h1])]
    have:∀l:List Ex,(∀a∈l,D1 f a=0)->Ax (D1 f) l=0:=by
      intro l
      induction l with
      | nil=>intro _;rfl
      | cons a r ih2=>intro h;rw [Ax,h a (by simp),ih2 fun b hb=>h b (by simp [hb])];rfl
    exact this _ fun a ha=>ih a ha (h2 a ha)
theorem pS {to:List Int}{e:Ex}(hn:Ej e=0)(h:∀v:Nat,v∈Gn e->(v:Int)<(to.length:Int)/\0<=J8 to (v:Int)/\J8 to (v:Int)<16):D1 (D7 to) e=0:=by
  refine rJ (P:=fun e=>Ej e=0/\∀v:Nat,v∈Gn e->(v:Int)<(to.length:Int)/\0<=J8 to (v:Int)/\J8 to (v:Int)<16) (fun e he=>?_) e ⟨hn,h⟩;have hz:=Hi he.1;refine ⟨?_,fun a ha=>⟨hz.2 a ha,fun v hv=>he.2 v (dL ha hv)⟩⟩;unfold D7;cases hu:(D4 e.op).1 with
  | false=>rfl
  | true=>
    have hv0:=Me hz.1;have h1:=he.2 _ (dM hz.1 hu);have e1:((e.var.toNat:Nat):Int)=e.var:=by omega
    rw [e1] at h1;rw [if_neg (by simp),if_neg (by simp;omega),if_neg (by simp;omega)]
theorem Zk {to:List Int}{e:Ex}(h:(Fg e to).2=0):B8 e=0/\D1 (D7 to) e=0/\(Fg e to).1=Ig (B0 to) e:=by
 have h1:B8 e=0:=by
  by_cases hc:(B8 e != 0)=true
  . unfold Fg at h;rw [if_pos hc] at h;exact h
  simpa using hc
 have e1:Fg e to=Zj to e:=by unfold Fg;rw [if_neg (by simp [h1])]
 rw [e1] at h ⊢
 have h2:D1 (D7 to) e=0:=by
  by_cases hc:(D1 (D7 to) e != 0)=true
  . unfold Zj at h;rw [if_pos hc] at h;exact h
  simpa using hc
 have e2:Zj to e=(Ig (B0 to) e,0):=by unfold Zj;rw [if_neg (by simp [h2])]
 exact ⟨h1,h2,by rw [e2]⟩
theorem ren_on {to:List Int}{e:Ex}(hc:B8 e=0)(h2:D1 (D7 to) e=0):Fg e to=(Ig (B0 to) e,0):=by
 unfold Fg Zj;rw [if_neg (by simp [hc]),if_neg (by simp [h2])]
inductive L2 {α β:Type} (R:α->β->Prop):List α->List β->Prop
 | nil:L2 R [] []
 | cons {a:α} {b:β} {r:List α} {s:List β}:R a b->L2 R r s->L2 R (a::r) (b::s)
section
variable {α β γ δ:Type} {R:α->β->Prop} {S:γ->δ->Prop}
theorem L2.append {l l':List α}{m m':List β}(h:L2 R l m)(h':L2 R l' m'):L2 R (l++l') (m++m'):=by
 induction h with
 | nil=>exact h'
 | cons h1 _ ih=>exact .cons h1 ih
theorem L2.map {f:α->γ}{g:β->δ}{l:List α}{m:List β}(h:L2 R l m)(hf:∀a b,R a b->S (f a) (g b)):L2 S (l.map f) (m.map g):=by
 induction h with
 | nil=>exact .nil
 | cons h1 _ ih=>exact .cons (hf _ _ h1) ih
theorem L2.diag {f:α->γ}{g:α->δ}:∀{l:List α},(∀a∈l,S (f a) (g a))->L2 S (l.map f) (l.map g)
 | [],_=>.nil
 | a::r,h=>.cons (h a (by simp)) (L2.diag fun b hb=>h b (by simp [hb]))
theorem L2.filter {p:α->Bool}{q:β->Bool}{l:List α}{m:List β}(h:L2 R l m)(hf:∀a b,R a b->q b=p a):L2 R (l.filter p) (m.filter q):=by
  induction h with
  | nil=>exact .nil
  | cons h1 _ ih=>
    rw [Fq,Fq,hf _ _ h1];split
    . exact .cons h1 ih
    exact ih
theorem L2.flatMap {f:α->List γ}{g:β->List δ}{l:List α}{m:List β}(h:L2 R l m)(hf:∀a b,R a b->L2 S (f a) (g b)):L2 S (l.flatMap f) (m.flatMap g):=by
 induction h with
 | nil=>exact .nil
 | cons h1 _ ih=>rw [G8,G8];exact (hf _ _ h1).append ih
theorem L2.len {l:List α}{m:List β}(h:L2 R l m):m.length=l.length:=by
 induction h with
 | nil=>rfl
 | cons _ _ ih=>rw [Eb,Eb,ih]
theorem L2.get {l:List α}{m:List β}(h:L2 R l m):∀(k:Nat) (a0:α) (b0:β),R a0 b0->R ((l[k]?).getD a0) ((m[k]?).getD b0):=by
  induction h with
  | nil=>intro k a0 b0 h0;exact h0
  | cons h1 _ ih=>
    intro k a0 b0 h0;cases k with
    | zero=>exact h1
    | succ k=>simpa using ih k a0 b0 h0
theorem L2.eqs {f:α->γ}{g:β->γ}{l:List α}{m:List β}(h:L2 R l m)(hf:∀a b,R a b->g b=f a):m.map g=l.map f:=by
 induction h with
 | nil=>rfl
 | cons h1 _ ih=>rw [Ba,Ba,hf _ _ h1,ih]
end
def rp (ρ:Int->Int)(x:Pr):Pr:=⟨ρ x.v,x.a⟩
section
variable {ρ:Int->Int}
theorem rp_lt (x y:Pr):tX (rp ρ x) (rp ρ y)=tX x y:=rfl
theorem pZ (x:Pr):∀r:List Pr,Jv tX (rp ρ x) (r.map (rp ρ))=(Jv tX x r).map (rp ρ)
  | []=>rfl
  | y::r=>by
    rw [Ba,Jv,Jv,rp_lt];split
    . rw [pZ x r];rfl
    rfl
theorem iT:∀(l r:List Pr),(l.map (rp ρ)).foldl (fun r x=>Jv tX x r) (r.map (rp ρ))=(l.foldl (fun r x=>Jv tX x r) r).map (rp ρ)
 | [],r=>rfl
 | x::l,r=>by rw [Ba,Jf,Jf,pZ,iT l]
theorem Uh (s t:List Pr):Ch (s.map (rp ρ)) (t.map (rp ρ))=(Ch s t).map (rp ρ):=by
 unfold Ch;rw [<-Cy,Mi,Mi,List.map_reverse];have:=iT (ρ:=ρ) (s++t) [];rw [Gv] at this;rw [this]
theorem wZ (s:List Pr)(k:Nat):(((s.map (rp ρ))[k]?).getD Jn).a=((s[k]?).getD Jn).a:=by
 rw [List.getElem?_map];cases s[k]? with
 | none=>rfl
 | some x=>rfl
theorem fM (s:List Pr):lasP (s.map (rp ρ))=lasP s:=by unfold lasP;rw [wZ,B1]
theorem pY (s:List Pr):L6 (s.map (rp ρ))=L6 s:=by unfold L6;rw [wZ]
theorem rp_has (s:List Pr)(a:Nat):nS (s.map (rp ρ)) a=nS s a:=by unfold nS;rw [List.any_map];rfl
theorem rp_dis (s t:List Pr):Hz (s.map (rp ρ)) (t.map (rp ρ))=Hz s t:=by
 unfold Hz;rw [List.any_map]
 congr 1
 have:(fun y=>Yf y (t.map (rp ρ))) ∘ rp ρ=fun y=>Yf y t:=by
  funext y
  show Yf (rp ρ y) (t.map (rp ρ))=Yf y t;unfold Yf;rw [List.any_map];rfl
 rw [this]
end
structure VarM (D:Int->Prop) (ρ:Int->Int):Prop where
 lo:∀v,D v->0<=v/\v<16
 hi:∀v,D v->0<=ρ v/\ρ v<16
 inj:∀u v,D u->D v->ρ u=ρ v->u=v
section
variable {D:Int->Prop} {ρ:Int->Int}
theorem mQ {L:List Ev}{s:List Pr}{n:Nat}{v:Int}(h0:0<=v)(h1:v<16):Db (Ie L s n) v=(s.filter fun x=>x.v==v&&decide (x.a<n)).map fun x=>Fx L x.a:=by
 have hl:(Ie L s n).length=16:=by unfold Ie;rw [B1,List.length_range]
 unfold Db;rw [hl,if_neg (by simp;omega)];unfold Ie;rw [List.getElem?_map,List.getElem?_range (by omega)];simp only [E4,K7,Int.toNat_of_nonneg h0]
theorem rp_env {L:List Ev}{s:List Pr}{n:Nat}{v:Int}(hm:VarM D ρ)(hs:∀x∈s,D x.v)(hv:D v):Db (Ie L (s.map (rp ρ)) n) (ρ v)=Db (Ie L s n) v:=by
  rw [mQ (hm.hi v hv).1 (hm.hi v hv).2,mQ (hm.lo v hv).1 (hm.lo v hv).2]
  induction s with
  | nil=>rfl
  | cons x s ih=>
    have ih:=ih fun y hy=>hs y (by simp [hy])
    have hx:=hs x (by simp);rw [Ba,Fq,Fq]
    have e:((rp ρ x).v==ρ v&&decide ((rp ρ x).a<n))=(x.v==v&&decide (x.a<n)):=by
      have:(ρ x.v==ρ v)=(x.v==v):=by
        rw [Bool.eq_iff_iff,beq_iff_eq,beq_iff_eq];exact ⟨hm.inj _ _ hx hv,fun h=>by rw [h]⟩
      show (ρ x.v==ρ v&&decide (x.a<n))=_;rw [this]
    rw [e];split
    . rw [Ba,Ba,ih];rfl
    exact ih
structure CndR (D:Int->Prop) (ρ:Int->Int) (e e':Ex):Prop where
 chk:B8 e=0
 used:∀v:Nat,v∈Gn e->D (v:Int)
 is:∃to:List Int,(∀v,D v->J8 to v=ρ v)/\D1 (D7 to) e=0/\e'=Ig (B0 to) e
theorem CndR.truth {L:List Ev}{e e':Ex}(hm:VarM D ρ)(h:CndR D ρ e e'){s:List Pr}(hs:∀x∈s,D x.v)(n:Nat){own own':Int}(ho:(D own/\own'=ρ own)\/(own = -1/\own' = -1))(ev:Ev) :
    Mn ⟨Ie L (s.map (rp ρ)) n,own',ev⟩ e'=Mn ⟨Ie L s n,own,ev⟩ e:=by
  obtain ⟨to,h1,h2,rfl⟩:=h.is;have hc:=Sy h.chk h2;unfold Mn Uo;rw [if_neg (by simp [hc]),if_neg (by simp [h.chk])]
  rw [kA e (Lj h.chk) h2 fun v hv=>by
    have hD:=h.used v hv;rw [h1 _ hD];refine ⟨rp_env hm hs hD,?_⟩;rcases ho with ⟨ho,rfl⟩ | ⟨rfl,rfl⟩
    . exact ⟨fun e=>hm.inj _ _ hD ho e,fun e=>by rw [e]⟩
    . have:=hm.hi _ hD
      constructor <;> intro e <;> omega]
structure NodR (D:Int->Prop) (ρ:Int->Int) (p p':Pt):Prop where
 op:p'.op=p.op
 type:p'.type=p.type
 span:p'.span=p.span
 var:(p.op=0\/p.op=5)->D p.var/\p'.var=ρ p.var
 cond:(p.op=0\/p.op=5\/p.op=7)->CndR D ρ p.cond p'.cond
theorem NodR.takes {L:List Ev}{p p':Pt}(hm:VarM D ρ)(h:NodR D ρ p p')(h0:p.op=0\/p.op=5){o:List Pr}(ho:∀x∈o,D x.v)(a:Nat):Fi L p' (o.map (rp ρ)) a=Fi L p o a:=by
 unfold Fi;rw [h.type,(h.cond (by omega)).truth hm ho a (.inl (h.var h0)) (Fx L a)]
theorem NodR.allows {L:List Ev}{p p':Pt}(hm:VarM D ρ)(h:NodR D ρ p p')(h5:p.op=5\/p.op=6\/p.op=7){o s:List Pr}(ho:∀x∈o,D x.v)(hs:∀x∈s,D x.v):He L p' (o.map (rp ρ)) (s.map (rp ρ))=He L p o s:=by
 have hj:∀x∈Ch o s,D x.v:=fun x hx=>(F5.1 hx).elim (ho x) (hs x)
 unfold He;rw [h.op];by_cases h6:(p.op==6)=true
 . rw [if_pos h6,if_pos h6,fM,pY,h.span]
 rw [if_neg h6,if_neg h6];by_cases h7:(p.op==7)=true
 .
  rw [if_pos h7,if_pos h7,Uh];exact (h.cond (.inr (.inr (by simpa using h7)))).truth hm hj _ (.inr ⟨rfl,rfl⟩) _
 rw [if_neg h7,if_neg h7,Uh,fM,pY];have h5:p.op=5:=by simp only [beq_iff_eq] at h6 h7;omega
 have:Tn L p' ((Ch o s).map (rp ρ)) (s.map (rp ρ))=Tn L p (Ch o s) s:=by
  funext a
  unfold Tn;rw [rp_has,h.takes hm (.inr h5) hj]
 rw [this]
def FR (D:Int->Prop)(ρ:Int->Int)(f f':Fnd):Prop:=f'.d=f.d/\f'.s=f.s.map (rp ρ)/\∀x∈f.s,D x.v
def jI (D:Int->Prop)(ρ:Int->Int)(e e':En):Prop:=∀(o:List Pr) (n:Nat),(∀x∈o,D x.v)->L2 (FR D ρ) (e o n) (e' (o.map (rp ρ)) n)
theorem yO {L:List Ev}{p p':Pt}(hm:VarM D ρ)(h:NodR D ρ p p')(h0:p.op=0):jI D ρ (evE L p) (evE L p'):=by
 intro o n ho;unfold evE;have:Fi L p' (o.map (rp ρ))=Fi L p o:=by funext a;exact h.takes hm (.inl h0) ho a
 rw [this];refine L2.diag fun a _=>⟨rfl,?_,fun x hx=>?_⟩
 .
  show [(⟨p'.var,a⟩:Pr)] = [rp ρ ⟨p.var,a⟩];rw [(h.var (.inl h0)).2];rfl
 rw [show x=⟨p.var,a⟩ by simpa [wJ] using hx];exact (h.var (.inl h0)).1
theorem sG {es es':List En}(h:L2 (jI D ρ) es es'):∀i,jI D ρ (Ia es i) (Ia es' i):=by
  induction h with
  | nil=>intro i o n ho;exact .nil
  | cons h1 _ ih=>
    intro i o n ho;rw [Ia,Ia];exact ((h1 o n ho).map fun f f' hf=>⟨by show (⟨fJ,(i:Int),[f'.d]⟩:Dv)=⟨fJ,(i:Int),[f.d]⟩;rw [hf.1],hf.2.1,hf.2.2⟩).append (ih (i+1) o n ho)
theorem nQ {es es':List En}(hes:L2 (jI D ρ) es es')(pl sq:Bool){o:List Pr}(ho:∀x∈o,D x.v)(fl fl':Bool):∀(n a:Nat) (kids:List Dv) (s:List Pr) (w w':List Lt),(∀x∈s,D x.v)->
    L2 (FR D ρ) (Ps pl sq fl es o n a kids s w) (Ps pl sq fl' es' (o.map (rp ρ)) n a kids (s.map (rp ρ)) w')
  | 0,a,kids,s,w,w',hs=>.nil
  | n+1,a,kids,s,w,w',hs=>by
    rw [Ps,Ps,hes.len];refine L2.append ?_ ?_
    . have hk:∀b:Bool,L2 (FR D ρ) (if b then [gU kids s w] else []) (if b then [gU kids (s.map (rp ρ)) w'] else []):=by
        intro b;cases b with
        | false=>exact .nil
        | true=>exact .cons ⟨rfl,rfl,hs⟩ .nil
      exact hk _
    . split
      . exact .nil
      . have hg:jI D ρ ((es[kids.length % es.length]?).getD fun _ _=>[]) ((es'[kids.length % es.length]?).getD fun _ _=>[]):=hes.get _ _ _ fun o n ho=>.nil
        have hj:∀x∈(if sq then Ch o s else o),D x.v:=by
          intro x hx;split at hx
          . exact (F5.1 hx).elim (ho x) (hs x)
          exact ho x hx
        have e1:(if sq then Ch (o.map (rp ρ)) (s.map (rp ρ)) else o.map (rp ρ))=(if sq then Ch o s else o).map (rp ρ):=by
          split
          . rw [Uh]
          rfl
        rw [e1];refine (hg _ a hj).flatMap fun f f' hf=>?_
        obtain ⟨hd,hfs,hfD⟩:=hf;rw [hfs,rp_dis,hd,fM,Uh];split
        . exact nQ hes pl sq ho fl fl' n _ _ (Ch s f.s) _ _ fun x hx=>(F5.1 hx).elim (hs x) (hfD x)
        exact .nil
theorem iK {L:List Ev}{p p':Pt}(hm:VarM D ρ)(h:NodR D ρ p p')(hw:Wf p){es es':List En}(hes:L2 (jI D ρ) es es'):jI D ρ (N8 L p es) (N8 L p' es'):=by
 have hlo:=hw.lo;have hhi:=hw.hi;unfold N8;rw [h.op];by_cases h0:(p.op==0)=true
 . rw [if_pos h0,if_pos h0];exact yO hm h (by simpa using h0)
 rw [if_neg h0,if_neg h0];by_cases h2:(p.op==2)=true
 . rw [if_pos h2,if_pos h2];exact sG hes 0
 rw [if_neg h2,if_neg h2];by_cases h3:(p.op==1||p.op==3||p.op==4)=true
 .
  rw [if_pos h3,if_pos h3];intro o n ho;show L2 _ _ (Ps _ _ _ es' _ (L.length+es'.length+1) n [] (([]:List Pr).map (rp ρ)) []);rw [hes.len];exact nQ hes _ _ ho _ _ _ _ _ _ _ _ (fun x hx=>by cases hx)
 rw [if_neg h3,if_neg h3]
 have h5:p.op=5\/p.op=6\/p.op=7:=by
  simp only [Ek,beq_iff_eq,not_or] at h0 h2 h3;omega
 have hg:jI D ρ ((es[0]?).getD fun _ _=>[]) ((es'[0]?).getD fun _ _=>[]):=hes.get _ _ _ fun o n ho=>.nil
 intro o n ho;unfold scE;exact ((hg o n ho).filter fun f f' hf=>by rw [hf.2.1];exact h.allows hm h5 ho hf.2.2).map fun f f' hf=>⟨by show (⟨fJ,0,[f'.d]⟩:Dv)=⟨fJ,0,[f.d]⟩;rw [hf.1],hf.2.1,hf.2.2⟩
end
theorem gE {q:Pt}(h:Nt q=0)(hc:(D6 q.op).cond=true):B8 q.cond=0:=by
 unfold Nt at h;split at h
 . cases h
 unfold ckR at h;split at h
 . cases h
 split at h
 . cases h
 split at h
 . exact h
 rename_i h4;rw [hc,Bo] at h4;simpa using h4
theorem X1 {p:Pt}(h:Gk p=0):Gl p=0:=by
 unfold Gk at h;split at h
 . rename_i h1;rw [h] at h1;cases h1
 rename_i h1;exact jC (by simpa using h1)
theorem Sc {p:Pt}(h:Gk p=0):Fm p<=64/\∀q∈Cw p,Nt q=0:=by
 have h1:=qC (p:=p) (by rw [X1 h];rfl);exact ⟨h1.1,Ya h1.2.2⟩
theorem aT:∀(l:List Pt) (c:Cnt),(l.foldl Ff c).ok=true->c.ok=true
  | [],c,h=>h
  | q::l,c,h=>by
    rw [Jf] at h;have h1:=aT l _ h;unfold Ff at h1;simp only [Cq] at h1;exact h1.1.1
theorem Vb:∀(l:List Pt) (c:Cnt) (j:Nat),c.vars=(j:Int)->(l.foldl Ff c).ok=true->∃k:Nat,(l.foldl Ff c).vars=((j+k:Nat):Int)/\(l.filter fun q=>(D6 q.op).typed).map (fun q=>q.var)=(List.range' j k).map fun i:Nat=>(i:Int)
  | [],c,j,hj,_=>⟨0,hj,rfl⟩
  | q::l,c,j,hj,h=>by
    rw [Jf] at h ⊢;have h1:=aT l _ h;by_cases ht:(D6 q.op).typed=true
    . have hv:q.var=c.vars:=by
        unfold Ff at h1;simp only [Cq,ht,Bz,Bl,beq_iff_eq] at h1;exact h1.1.2
      have hc:(Ff c q).vars=((j+1:Nat):Int):=by unfold Ff;rw [if_pos ht];simp only;omega
      obtain ⟨k,h2,h3⟩:=Vb l _ (j+1) hc h;refine ⟨k+1,by rw [h2];omega,?_⟩;rw [Fq,if_pos ht,Ba,h3,List.range'_succ,Ba,hv,hj]
    . have hc:(Ff c q).vars=(j:Int):=by unfold Ff;rw [if_neg ht];exact hj
      obtain ⟨k,h2,h3⟩:=Vb l _ j hc h;refine ⟨k,h2,?_⟩;rw [Fq,if_neg ht,h3]
theorem aB {p:Pt}(h:Gk p=0):∃n:Nat,(Hf p).vars=(n:Int)/\Np n p:=by
 have hok:(Hf p).ok=true:=by
  unfold Gk at h;split at h
  . rename_i h1;rw [h] at h1;cases h1
  split at h
  . cases h
  rename_i h2;simpa using h2
 obtain ⟨k,h1,h2⟩:=Vb (Cw p) ⟨0,0,true⟩ 0 rfl hok;refine ⟨k,by unfold Hf;rw [h1];simp,?_⟩;unfold Np Er;rw [h2,List.range_eq_range']
theorem bX {n:Nat}{p:Pt}(h:Np n p){i:Nat}(hi:i<n):∃q∈Cw p,(D6 q.op).typed=true/\q.var=(i:Int):=by
 have h1:(i:Int)∈Er n:=B7.2 ⟨i,Hq.2 hi,rfl⟩;rw [<-h] at h1;obtain ⟨q,hq,e⟩:=B7.1 h1;rw [F1] at hq;exact ⟨q,hq.1,hq.2,e⟩
theorem Rq {n:Nat}{p q:Pt}(h:Np n p)(hq:q∈Cw p)(ht:(D6 q.op).typed=true):0<=q.var/\q.var<(n:Int):=by
 have h1:q.var∈Er n:=by rw [<-h];exact B7.2 ⟨q,F1.2 ⟨hq,ht⟩,rfl⟩
 unfold Er at h1;obtain ⟨i,hi,e⟩:=B7.1 h1;rw [Hq] at hi;omega
theorem Y5 {n:Nat}{p:Pt}(hc:Gk p=0)(h:Np n p):n<=16:=by
  cases n with
  | zero=>omega
  | succ n=>
    obtain ⟨q,hq,ht,hv⟩:=bX h (i:=n) (by omega);have:=(wU ((Sc hc).2 q hq)).2 ht;omega
structure OkR (to:List Int) (D:Int->Prop) (x:Pt):Prop where
 var:(D6 x.op).typed=true->D x.var
 ren:(D6 x.op).cond=true->(Fg x.cond to).2=0
 used:(D6 x.op).cond=true->∀v:Nat,v∈Gn x.cond->D (v:Int)
section
variable {L:List Ev} {to:List Int} {D:Int->Prop}
theorem OkR.nod {p p':Pt}(h:OkR to D p)(h1:p'.op=p.op)(h2:p'.type=p.type)(h3:p'.span=p.span)(h4:p'.var=dW to p)(h5:p'.cond=Sw to p):NodR D (J8 to) p p' where
 op:=h1
 type:=h2
 span:=h3
 var:=fun h0=>by
  have ht:(D6 p.op).typed=true:=by rcases h0 with e | e <;> rw [e] <;> rfl
  refine ⟨h.var ht,?_⟩;rw [h4];unfold dW;rw [if_pos ht]
 cond:=fun h0=>by
  have hc:(D6 p.op).cond=true:=by rcases h0 with e | e | e <;> rw [e] <;> rfl
  obtain ⟨k1,k2,k3⟩:=Zk (h.ren hc);refine ⟨k1,h.used hc,to,fun _ _=>rfl,k2,?_⟩;rw [h5];unfold Sw;rw [if_pos hc,k3]
theorem uT (hm:VarM D (J8 to))(p:Pt):dR p->(∀x∈Cw p,OkR to D x)->jI D (J8 to) (B6 L p) (B6 L (D0 to p)):=by
  induction p using Pt.ind with
  | h p ih=>
    intro hw hx;rw [Id L p,Id L (D0 to p)];refine iK hm ((hx p (Gr p)).nod (by rw [Dx]) (by rw [Dx]) (by rw [Dx]) (by rw [Dx]) (by rw [Dx])) hw.self ?_;rw [Dx];show L2 _ (p.args.map (B6 L)) ((p.args.map (D0 to)).map (B6 L));rw [Lw];exact L2.diag fun a ha=>ih a ha (hw.arg ha) fun x hxa=>hx x (Lu ha hxa)
theorem iR (hm:VarM D (J8 to))(p:Pt):dR p->(∀x∈Cw p,OkR to D x)->∀k:Int,jI D (J8 to) (B6 L p) (B6 L (Io (D0 to p) k).1):=by
  induction p using Pt.ind with
  | h p ih=>
    intro hw hx k;rw [Id L p,Id L (Io (D0 to p) k).1];refine iK hm ((hx p (Gr p)).nod (by rw [Jb,Dx]) (by rw [Jb,Dx]) (by rw [Jb,Dx]) (by rw [Jb,Dx]) (by rw [Jb,Dx])) hw.self ?_
    have key:∀l:List Pt,(∀a∈l,∀k:Int,jI D (J8 to) (B6 L a) (B6 L (Io (D0 to a) k).1))->∀k:Int,L2 (jI D (J8 to)) (l.map (B6 L)) ((D2 (l.map (D0 to)) k).1.map (B6 L)):=by
      intro l
      induction l with
      | nil=>intro _ k;rw [Gv,Gv,D2];exact .nil
      | cons a r ih2=>
        intro h k;rw [Ba,Ba,D2,Ba];exact .cons (h a (by simp) k) (ih2 (fun b hb=>h b (by simp [hb])) _)
    have e:(Io (D0 to p) k).1.args=(D2 (p.args.map (D0 to)) (Wn (D0 to p) k)).1:=by rw [Jb,Dx]
    rw [e];exact key _ (fun a ha=>ih a ha (hw.arg ha) fun x hxa=>hx x (Lu ha hxa)) _
end
theorem yH {D:Int->Prop}{ρ:Int->Int}{e e':En}(h:jI D ρ e e')(n:Nat):(e' [] n).map (fun f=>f.d)=(e [] n).map fun f=>f.d:=(h [] n fun x hx=>by cases hx).eqs fun f f' hf=>hf.1
def Lc (n k:Nat):List Int:=(List.range k).map fun i:Nat=>((n+i:Nat):Int)
def Js (p q:Pt):Pt:=⟨2,[p,q],0,0,0,0,kB⟩
def eS (i:Int)(d:Dv):Dv:=⟨fJ,i,[d]⟩
theorem Uk (n k:Nat):(Lc n k).length=k:=by unfold Lc;simp
theorem Ta {n k:Nat}{v:Int}(h0:0<=v)(h1:v<(k:Int)):J8 (Lc n k) v=(n:Int)+v:=by
 unfold J8 Lc;rw [List.getElem?_map,List.getElem?_range (by omega)];simp only [E4,K7];omega
theorem Zq {m:Nat}{v:Int}(h0:0<=v)(h1:v<(m:Int)):J8 (Ni m) v=v:=by
 unfold J8 Ni;rw [List.getElem?_append_left (by rw [Hj];omega)];unfold Er;rw [List.getElem?_map,List.getElem?_range (by omega)];simp only [E4,K7];omega
theorem toT_no {m:Nat}(hm:m<=16){v:Int}(h0:(m:Int)<=v)(h1:v<16):J8 (Ni m) v = -1:=by
 unfold J8 Ni;rw [List.getElem?_append_right (by rw [Hj];omega),Hj,List.getElem?_replicate,if_pos (by omega)];rfl
theorem jA (e:Ex):∀v∈Gn e,v<16:=by
  induction e using Ex.ind with
  | h e ih=>
    intro v hv;rw [Of] at hv;rcases Da.1 hv with hv | hv
    . unfold T0 at hv
      split at hv
      . rename_i h
        simp only [Cq,Di] at h;simp only [F3] at hv;omega
      cases hv
    . obtain ⟨a,ha,hv⟩:=K8.1 hv
      exact ih a ha v hv
section
variable {p q:Pt} {n k:Nat}
structure Pair (p q:Pt) (n k:Nat):Prop where
 cp:Gk p=0
 cq:Gk q=0
 np:Np n p
 nq:Np k q
 ren:V2 (Lc n k) q=0
theorem Pair.rn (h:Pair p q n k):∀x∈Cw q,O4 (Lc n k) x=0:=by
 have h1:=h.ren;unfold V2 at h1;rw [X1 h.cq,if_neg (by decide)] at h1;exact Kt h1
theorem cN {to:List Int}{x:Pt}(h:O4 to x=0)(ht:(D6 x.op).typed=true):0<=J8 to x.var/\J8 to x.var<16:=by
 unfold O4 at h;split at h
 . cases h
 split at h
 . cases h
 rename_i h2;rw [ht,Bo,Ek,not_or,Di,Di] at h2;omega
theorem Zl {to:List Int}{x:Pt}(h:O4 to x=0)(hc:(D6 x.op).cond=true):(Fg x.cond to).2=0:=by
 unfold O4 at h;split at h
 . cases h
 split at h
 . cases h
 first | exact h | (rw [if_pos hc] at h;exact h)
theorem Pair.le (h:Pair p q n k):n+k<=16:=by
  cases k with
  | zero=>have:=Y5 h.cp h.np;omega
  | succ k=>
    obtain ⟨x,hx,ht,hv⟩:=bX h.nq (i:=k) (by omega);have h1:=(cN (h.rn x hx) ht).2;rw [hv,Ta (by omega) (by omega)] at h1;omega
theorem Pair.vm (h:Pair p q n k):VarM (fun v=>0<=v/\v<(k:Int)) (J8 (Lc n k)):=by
 have hle:=h.le;refine ⟨fun v hv=>by omega,fun v hv=>?_,fun u v hu hv e=>?_⟩
 . rw [Ta hv.1 hv.2];omega
 rw [Ta hu.1 hu.2,Ta hv.1 hv.2] at e;omega
theorem Pair.okq (h:Pair p q n k):∀x∈Cw q,OkR (Lc n k) (fun v=>0<=v/\v<(k:Int)) x:=fun x hx=>
 ⟨fun ht=>Rq h.nq hx ht,fun hc=>Zl (h.rn x hx) hc,fun hc v hv=>by
  have h1:=vM x.cond (Zk (Zl (h.rn x hx) hc)).2.1 v hv;rw [Uk] at h1;omega⟩
theorem Pair.wfo (h:Pair p q n k):dR (D0 (Lc n k) q):=by
 intro y hy;rw [My] at hy;obtain ⟨x,hx,rfl⟩:=B7.1 hy;have hw:=(Mr h.cq).1 x hx;rw [Dx];refine ⟨hw.lo,hw.hi,fun e=>by simp only;rw [hw.leaf e];rfl,fun e=>by simp only [B1];exact hw.some e,fun e=>by simp only [B1];exact hw.one e,fun e=>?_⟩;have ht:(D6 x.op).typed=true:=by rw [show x.op=0 from e];rfl
 show 0<=dW (Lc n k) x/\_;unfold dW;rw [if_pos ht];exact cN (h.rn x hx) ht
theorem Sr (a b:Pt):Cw (Js a b)=Js a b::(Cw a++Cw b):=by rw [In];simp [Js]
theorem Pair.numd (h:Pair p q n k):Np (n+k) (Js p (D0 (Lc n k) q)):=by
 unfold Np;rw [Sr,Fq,if_neg (show ¬(D6 (Js p (D0 (Lc n k) q)).op).typed=true from (by decide:¬(D6 2).typed=true)),Gi,Cy,show _=Er n from h.np,My]
 have e1:((Cw q).map (D0 (Lc n k))).filter (fun x=>(D6 x.op).typed)=((Cw q).filter fun x=>(D6 x.op).typed).map (D0 (Lc n k)):=by
  rw [List.filter_map]
  congr 1
  exact List.filter_congr fun x _=>by show (D6 (D0 (Lc n k) x).op).typed=_;rw [Dx]
 rw [e1,Lw]
 have e2:(((Cw q).filter fun x=>(D6 x.op).typed).map ((fun x=>x.var) ∘ D0 (Lc n k)))=(((Cw q).filter fun x=>(D6 x.op).typed).map fun x=>x.var).map (fun v=>(n:Int)+v):=by
  rw [Lw];refine List.map_congr_left fun x hx=>?_
  rw [F1] at hx;have hv:=Rq h.nq hx.1 hx.2;show (D0 (Lc n k) x).var=(n:Int)+x.var;rw [Dx];show dW _ _=_;unfold dW;rw [if_pos hx.2,Ta hv.1 hv.2]
 rw [e2,show _=Er k from h.nq];unfold Er;rw [Lw,List.range_add,Cy,Lw]
 congr 1
theorem Pair.cond_o (h:Pair p q n k):∀x∈Cw q,(D6 x.op).cond=true->B8 (Sw (Lc n k) x)=0:=fun x hx hc=>by
 obtain ⟨k1,k2,k3⟩:=Zk (Zl (h.rn x hx) hc);unfold Sw;rw [if_pos hc,k3];exact Sy k1 k2
theorem Pair.med (h:Pair p q n k)(hp:medP p)(hq:medP q):medP (Js p (D0 (Lc n k) q)):=by
 have h1:=(Sc h.cp).1;have h2:=(Sc h.cq).1;refine ⟨?_,fun y hy=>?_⟩
 . rw [<-Jw,Sr,Eb,Do,Jw,Jw,pQ];omega
 rw [Sr,Cz,Da] at hy;rcases hy with rfl | hy | hy
 . show B3 kB<=_;decide
 . exact hp.cond y hy
 rw [My] at hy;obtain ⟨x,hx,rfl⟩:=B7.1 hy;rw [Dx];show B3 (Sw _ x)<=_;by_cases hc:(D6 x.op).cond=true
 .
  have h3:=h.cond_o x hx hc;unfold B8 at h3;split at h3
  . cases h3
  rename_i h4;rw [Di] at h4;omega
 unfold Sw;rw [if_neg hc];exact hq.cond x hx
theorem xF {m:Nat}(hm:m<=16):VarM (fun v=>0<=v/\v<(m:Int)) (J8 (Ni m)):=
 ⟨fun v hv=>by omega,fun v hv=>by rw [Zq hv.1 hv.2];omega,fun u v hu hv e=>by rw [Zq hu.1 hu.2,Zq hv.1 hv.2] at e;exact e⟩
theorem nT {m:Nat}(hm:m<=16){x:Pt}(ht:(D6 x.op).typed=true->0<=x.var/\x.var<(m:Int))(hc:(D6 x.op).cond=true->B8 x.cond=0)(hn:Y6 m x=0):OkR (Ni m) (fun v=>0<=v/\v<(m:Int)) x:=by
 have hu:(D6 x.op).cond=true->∀v:Nat,v∈Gn x.cond->(v:Int)<(m:Int):=by
  intro hco v hv;have h16:=jA _ v hv;by_cases hlt:(v:Int)<(m:Int)
  . exact hlt
  exfalso;have h1:((Oh x.cond).any fun v=>decide (J8 (Ni m) v<0))=true:=Oi.2 ⟨_,lH hv h16,by rw [toT_no hm (by omega) (by omega)];decide⟩;unfold Y6 at hn;rw [hco,h1] at hn;cases hn
 refine ⟨ht,fun hco=>?_,fun hco v hv=>⟨by omega,hu hco v hv⟩⟩
 have hv2:D1 (D7 (Ni m)) x.cond=0:=pS (Lj (hc hco)) fun v hv=>by
  have:=hu hco v hv;rw [O6 hm,Zq (by omega) this];have:=jA _ v hv;omega
 rw [ren_on (hc hco) hv2]
def aH (p q:Pt)(n k:Nat):Pt:=(Io (D0 (Ni (n+k)) (Js p (D0 (Lc n k) q))) 0).1
theorem sV {L:List Ev}(h:Pair p q n k)(hn:N7 (n+k) (Js p (D0 (Lc n k) q))=0) :
  (B6 L (aH p q n k) [] 0).map (fun f=>f.d)=((B6 L p [] 0).map fun f=>f.d).map (eS 0)++((B6 L q [] 0).map fun f=>f.d).map (eS 1):=by
 have hle:=h.le
 have hnv:∀x∈Cw (Js p (D0 (Lc n k) q)),Y6 (n+k) x=0:=by
  unfold N7 at hn;split at hn
  . rename_i h1;rw [hn] at h1;cases h1
  exact Kt hn
 have hokp:∀x∈Cw p,OkR (Ni (n+k)) (fun v=>0<=v/\v<((n+k:Nat):Int)) x:=fun x hx=>
  nT hle (fun ht=>by have:=Rq h.np hx ht;omega) (fun hc=>gE ((Sc h.cp).2 x hx) hc) (hnv x (by rw [Sr];simp [hx]))
 have hoko:∀y∈Cw (D0 (Lc n k) q),OkR (Ni (n+k)) (fun v=>0<=v/\v<((n+k:Nat):Int)) y:=fun y hy=>by
  refine nT hle ?_ ?_ (hnv y (by rw [Sr];simp [hy]))
  .
   rw [My] at hy;obtain ⟨x,hx,rfl⟩:=B7.1 hy;rw [Dx];intro ht;have hv:=Rq h.nq hx ht;show 0<=dW _ x/\dW _ x<_;unfold dW;rw [if_pos ht,Ta hv.1 hv.2];omega
  rw [My] at hy;obtain ⟨x,hx,rfl⟩:=B7.1 hy;rw [Dx];intro hc;exact h.cond_o x hx hc
 have e1:∃k0 k1:Int,(aH p q n k).args = [(Io (D0 (Ni (n+k)) p) k0).1,(Io (D0 (Ni (n+k)) (D0 (Lc n k) q)) k1).1]:=by
  unfold aH;rw [Jb,Dx];simp only [Js,Ba,Gv,D2];exact ⟨_,_,rfl⟩
 have e2:(aH p q n k).op=2:=by unfold aH;rw [Jb,Dx];rfl
 obtain ⟨k0,k1,e1⟩:=e1;have hmk:∀(i:Nat) (l:List Fnd),(l.map (eK i)).map (fun f=>f.d)=(l.map fun f=>f.d).map (eS (i:Int)):=fun i l=>by rw [Lw,Lw];rfl
 rw [Id,e1];unfold N8;rw [if_neg (by rw [e2];decide),if_pos (by rw [e2];decide)];simp only [Ba,Gv,Ia,H1];rw [Cy,hmk,hmk,yH (iR (xF hle) p (Mr h.cp).1 hokp k0) 0,yH (iR (xF hle) _ h.wfo hoko k1) 0,yH (uT h.vm q (Mr h.cq).1 h.okq) 0];rfl
end
end Go.Proofs.YtkdhionilabokaaGreatDoor
