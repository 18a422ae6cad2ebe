/-
  Several texts in one: Y5, Y5b, Y5c, Y5d, Y6, Y1. No condition.
-/
import Derived.Test.YtkddpedfbicbeaaGreatDoorAz
import Derived.Test.YtkddpedfbicbeaaGreatDoorK15
import Derived.Test.YtkddpedfbicbeaaGreatDoorY4
import Derived.KernelRfl
import Derived.Test.YtkddpedfbicbeaaGreatDoorK16
import Derived.Test.YtkddpedfbicbeaaGreatDoorK04
import Derived.Test.YtkddpedfbicbeaaGreatDoorK08
import Derived.Test.YtkddpedfbicbeaaGreatDoorK12
import Derived.Test.YtkddpedfbicbeaaGreatDoorW25
set_option linter.unusedVariables false
set_option linter.unusedSimpArgs false
namespace Go.Proofs.YtkddpedfbicbeaaGreatDoor
open Go Go.Aw
set_option maxHeartbeats 3200000
set_option maxRecDepth 20000

theorem aM (a b:Ex)(hna:C0 a=0)(hnb:C0 b=0)(hs:Av a+Av b≤1048576):Ar Tryz.prog 137 [.agg (cE a),.agg (cE b)] (.tuple [.agg (cGp (B2 a b).1),.bool (B2 a b).2]):=by
 have hok:=Z2 hna hnb
 have hnd:=dW hna hnb
 have htl:=hok.len
 refine Ar.body (n:=75) Ai Tryz.func137 rfl rfl rfl fun H=>?_
 refine Ah (Qp K3 (Qp K3 ?_))
 refine Qe (Aj (l:=[.sl 3 [],.sl 3 [],.int .i64 0]) (by kernel_rfl)) ?_
 rintro _ _ ⟨b4,rfl,rfl⟩
 refine Qp Bc (Db ?_)
 refine Qe (Nr) ?_
 rintro _ _ ⟨b10,rfl,rfl⟩
 refine Qp (Pa (l0:=[.val (.map none),.val (.slice none 0 0),.int .i64 0]) (l:=[_,_,_]) Ai rfl rfl (by kernel_rfl) rfl) ?_
 refine Qe (Uw (v:=.agg _) (cs:=[_,_,Iq _]) rfl rfl (rfl)) ?_
 rintro _ _ ⟨b12,rfl,rfl⟩
 refine Qp Oc ?_
 refine AOL.ghost (GS.cellRow 0 1 143 3 rfl rfl rfl rfl) ?_
 refine Ag (AW.seq (Ah (Qp Hw (Qp Dh ?_))))
 refine Qe (Fp (by kernel_rfl) rfl rfl (d_add b10 b12 _ a hna 0 1 (.inl rfl) Jc mK (by omega) _)) ?_
 rintro _ _ ⟨rfl,u0,rfl⟩
 refine Qp Ge (Qp Bm (Qg [] Qw Hw (Qg [] Qw Dh ?_)))
 refine AOL.geX (F:=fun u=>Oh b10 b12 u (C7 a b) (.box b4 178 [.sl 3 [],.sl 3 [],.int .i64 0]::H)) _ [(18,_),(19,_)] rfl (sB.all ⟨tO.self _ _,tO.self _ _,trivial⟩) (fun hG=>Fp (by kernel_rfl) rfl rfl (yP hG (d_add b10 b12 _ b hnb (0+Av a) (-1) (.inr rfl) _ (Yp a hna (.inl rfl) mK) (by omega) u0))) (fun hG=>btw_f (m:=b10) (bs:=b12) (v:=u0) (b:=b) (R:=(.box b4 178 [.sl 3 [],.sl 3 [],.int .i64 0]::H)) hG) rfl fun u1=>?_
 refine Qg [(20,_)] Qw Ge (Qp Ek (Ag (A2 (fun hc1=>?_) fun hc1=>?_)))
 ·
  refine Ah (Qp (El [_,_,Iq _]) ?_)
  refine Cq 3 [_,_,Iq _] (_::_::_::_::_) ?_
  refine Qp Bc (Ag (Dq ?_))
  refine ⟨.inr rfl,[.agg [_,_,Iq _],.bool _],.cons (.box _ _ _ 3 _ _ _ _ rfl rfl rfl rfl rfl rfl) <| .cons (.tmp _ _ rfl) <| .nil,.cons _ (.cons _ (.cons _ (.cons _ (.refl _)))),?_⟩
  exact Eq.trans rfl (congrArg (fun q:Gp×Bool=>AV.tuple [.agg (cGp q.1),.bool q.2]) (btw_no hc1)).symm
 ·
  refine Bv (Ah (Qp Hw ?_))
  refine Qp (Bh rfl) ?_
  refine Qp Iu ?_
  refine AOL.Aay (At (k:=1) (c:=Iq _) Ai rfl rfl rfl rfl) rfl rfl ?_
  refine Qp (Pa (l0:=[.val (.slice none 0 0),.val (.slice none 0 0),.int .i64 0]) (l:=[_,_,_]) Ai rfl rfl (by kernel_rfl) rfl) ?_
  refine Qe (Aj (l:=[.sl 3 [],.sl 3 [],.int .i64 0]) (by kernel_rfl)) ?_
  rintro _ _ ⟨b7,rfl,rfl⟩
  refine Cq 0 [_,_,Iq _] (_::_::_::_::_::_) ?_
  refine AOL.ghost (GS.cellRow 0 0 143 3 rfl rfl rfl rfl) ?_
  refine AOL.ghost (GS.cellRow 1 1 143 3 rfl rfl rfl rfl) ?_
  refine Ag (AW.seq (Ah (Qp Hw ?_)))
  refine Qp (Bh rfl) ?_
  refine Qp Iu ?_
  refine AOL.Aay (At (k:=4) (c:=.row _ _ _) Ai rfl rfl rfl rfl) rfl rfl ?_
  refine Qp (Nb (n:=(C7 a b).ts.length) Ai rfl rfl rfl (by simp)) ?_
  refine Qp Az (Ag (AW.block ?_))
  refine AW.Aau (fun (p:Nat×List Tm×List Tm×Value×Value×List (List AV)×List (List AV))=>(⟨[(2,.ptr (cE a)),(3,.ptr (cE b)),(4,.val (.pointer (some ⟨b4,0,none⟩))),(5,.bool false),(6,.val (.pointer (some ⟨b12,0,none⟩))),(7,.val (.pointer (some ⟨b7,0,none⟩))),(32,.row u1 3 ((C7 a b).ts.map fun p=>Hz p.1)),(33,.int .i64 (C7 a b).ts.length),(34,.int .i64 (p.1:Int))],.row p.2.2.2.2.1 p.2.2.2.2.2.2.length 143 3 :: .row p.2.2.2.1 p.2.2.2.2.2.1.length 143 3 :: .box b7 178 [.row p.2.2.2.1 3 p.2.2.2.2.2.1,.row p.2.2.2.2.1 3 p.2.2.2.2.2.2,.int .i64 (C7 a b).rest]::Oh b10 b12 u1 (C7 a b) (.box b4 178 [.sl 3 [],.sl 3 [],.int .i64 0]::H),75⟩:St)) (fun (p:Nat×List Tm×List Tm×Value×Value×List (List AV)×List (List AV))=>p.1≤(C7 a b).ts.length∧Dl (C7 a b).ts [] []=Dl ((C7 a b).ts.drop p.1) p.2.1 p.2.2.1∧p.2.1.length≤p.1∧p.2.2.1.length≤p.1∧p.2.2.2.2.2.1=p.2.1.map Hz∧p.2.2.2.2.2.2=p.2.2.1.map Hz) (fun (p:Nat×List Tm×List Tm×Value×Value×List (List AV)×List (List AV))=>(C7 a b).ts.length-p.1) ((0,[],[],.slice none 0 0,.slice none 0 0,[],[])) ?_ (GS.weaken ⟨rfl,rfl,rfl,rfl,rfl,rfl,rfl,rfl,rfl,trivial⟩ (.refl _)) ?_
  · exact ⟨Nat.zero_le _,rfl,Nat.le_refl _,Nat.le_refl _,rfl,rfl⟩
  ·
   rintro p hR
   have hpl:=hR.2.2.1
   have hml:=hR.2.2.2.1
   have hpe:=hR.2.2.2.2.1
   have hme:=hR.2.2.2.2.2
   have hpel:p.2.2.2.2.2.1.length=p.2.1.length:=by rw [hpe];simp
   have hmel:p.2.2.2.2.2.2.length=p.2.2.1.length:=by rw [hme];simp
   refine Ah (Qp Cf (Ag (AW.seq (A2 (fun hc2=>?_) fun hc2=>?_))))
   ·
    obtain ⟨q,hq⟩:=B1 hc2
    have hlt:=A8 hq
    have hdc:=A5 hq
    have hR2:=hR.2.1
    rw [hdc] at hR2
    refine Bv (AW.seq (AW.block (Ah ?_)))
    refine Qp (Kr (c:=[Iq _,Iq _,Iq _]) Ai rfl rfl rfl rfl rfl rfl (by omega) (Bg hq)) ?_
    refine Qp (Cd [Iq _,Iq _,Iq _]) ?_
    refine Qe (Aj (l:=[.int .i64 0,.int .i64 0,.int .i64 0]) (by kernel_rfl)) ?_
    rintro _ _ ⟨b9,rfl,rfl⟩
    refine Cq 0 [Iq _,Iq _,Iq _] (_::_::_::_::_::_::_::_::_) ?_
    refine AOL.ghost (GS.Aat (t:=9) 0 rfl rfl) ?_
    refine Ag (AW.seq ?_)
    refine AW.draw mixed (fun H'=>_∈H'∧_∈H') ⟨(List.mem_of_getElem? (i:=4) rfl),(List.mem_of_getElem? (i:=5) rfl)⟩ (by kernel_rfl) ?_
    refine Qn 0 rfl Hw ?_
    refine Qn 1 rfl (Bh rfl) ?_
    refine Qn 2 rfl Iu ?_
    refine Qn 3 rfl (OpP.Aax (fun k=>At (k:=k) (c:=.val _) Ai rfl rfl rfl rfl) (fun _ h=>h.1)) ?_
    refine Qn 4 rfl (Cd [Iq _,Iq _,Iq _]) ?_
    refine Qn 5 rfl (OpP.Aax (fun k=>Jk (i:=k) (eq:=Hi q.1) Ai rfl rfl rfl rfl rfl (by kernel_rfl) rfl rfl (rfl) (Ir q.1 (C7 a b).ts) (Aai hnd hq)) (fun _ h=>h.2)) ?_
    refine Js.done _ _ (by kernel_rfl) ?_
    refine Ae (AW.block (Ah (Qp A6 (Qp Bc (Ag (A2 (fun hc3=>?_) fun hc3=>?_))))))
    ·
     refine AW.skip (Bp (Bp (Ae (AW.region (Qp Fu (Qp Az (Ag ?_)))))))
     refine ⟨(p.1+1,p.2.1,p.2.2.1,p.2.2.2.1,p.2.2.2.2.1,p.2.2.2.2.2.1,p.2.2.2.2.2.2),?_,?_,GS.weaken ⟨rfl,rfl,rfl,rfl,rfl,rfl,rfl,rfl,rfl,trivial⟩ (.refl _)⟩
     · exact ⟨hlt,by simp only;rw [hR2,oT hc3],by simp only;omega,by simp only;omega,hpe,hme⟩
     · simp only;omega
    ·
     refine Ah (Qp A6 (Qp Bc (Ag (A2 (fun hc4=>?_) fun hc4=>?_))))
     ·
      have hsc:∀c∈p.2.2.2.2.2.1,Bf c=true:=by rw [hpe];exact Ff fun _=>rfl
      refine AW.region (Qp Iu ?_)
      refine AOL.Aay (At (k:=2) (c:=.row _ _ _) Ai rfl rfl rfl rfl) rfl rfl ?_
      refine Qp (Cd [Iq _,Iq _,Iq _]) ?_
      refine Qp (A0 (es:=[[Iq _,Iq _,Iq _]]) Ai rfl rfl rfl rfl rfl rfl rfl rfl rfl) ?_
      refine Qe (Dj (k:=1) Ai rfl rfl rfl rfl rfl rfl rfl rfl (G2 rfl) (hsc) (by simp;omega) (by simp [maxLen];omega)) ?_
      rintro _ _ ⟨v53,rfl,rfl⟩
      refine Qp Iu ?_
      refine Cq 2 [_,_,Iq _] (_::_::_::_::_::_::_::_) ?_
      refine AOL.nil (Bp (Bp (Ae (AW.region (Qp Fu (Qp Az (Ag ?_)))))))
      refine ⟨(p.1+1,p.2.1 ++ [q.1],p.2.2.1,v53,p.2.2.2.2.1,p.2.2.2.2.2.1 ++ [Hz q.1],p.2.2.2.2.2.2),?_,?_,GS.weaken ⟨rfl,rfl,rfl,rfl,rfl,rfl,rfl,rfl,rfl,trivial⟩ (.refl _)⟩
      · exact ⟨hlt,by simp only;rw [hR2,nC hc3 hc4],by simp only [List.length_append,List.length_singleton];omega,by simp only [List.length_append,List.length_singleton];omega,by simp [hpe],by simp [hme]⟩
      · simp only;omega
     ·
      refine Ah (Qp A6 (Qp Bc (Ag (A2 (fun hc5=>?_) fun hc5=>?_))))
      ·
       have hsc:∀c∈p.2.2.2.2.2.2,Bf c=true:=by rw [hme];exact Ff fun _=>rfl
       refine AW.region (Qp Iu ?_)
       refine AOL.Aay (At (k:=2) (c:=.row _ _ _) Ai rfl rfl rfl rfl) rfl rfl ?_
       refine Qp (Cd [Iq _,Iq _,Iq _]) ?_
       refine Qp (A0 (es:=[[Iq _,Iq _,Iq _]]) Ai rfl rfl rfl rfl rfl rfl rfl rfl rfl) ?_
       refine Qe (Dj (k:=0) Ai rfl rfl rfl rfl rfl rfl rfl rfl (G2 rfl) (hsc) (by simp;omega) (by simp [maxLen];omega)) ?_
       rintro _ _ ⟨v61,rfl,rfl⟩
       refine Qp Iu ?_
       refine Cq 2 [_,_,Iq _] (_::_::_::_::_::_::_::_) ?_
       refine AOL.nil (Bp (Bp (Ae (AW.region (Qp Fu (Qp Az (Ag ?_)))))))
       refine ⟨(p.1+1,p.2.1,p.2.2.1 ++ [q.1],p.2.2.2.1,v61,p.2.2.2.2.2.1,p.2.2.2.2.2.2 ++ [Hz q.1]),?_,?_,GS.weaken ⟨rfl,rfl,rfl,rfl,rfl,rfl,rfl,rfl,rfl,trivial⟩ (.refl _)⟩
       · exact ⟨hlt,by simp only;rw [hR2,oN hc3 hc4 hc5],by simp only [List.length_append,List.length_singleton];omega,by simp only [List.length_append,List.length_singleton];omega,by simp [hpe],by simp [hme]⟩
       · simp only;omega
      ·
       refine Ah (Qp (El [_,_,Iq _]) ?_)
       refine Cq 6 [_,_,Iq _] (_::_::_::_::_::_::_::_) ?_
       refine Qp Bc (Ag (AW.ret (A9 (A9 (Al (Al (A9 (Al ?_))))))))
       refine ⟨.inr rfl,[.agg [_,_,Iq _],.bool _],.cons (.box _ _ _ 6 _ _ _ _ rfl rfl rfl rfl rfl rfl) <| .cons (.tmp _ _ rfl) <| .nil,.cons _ (.cons _ (.cons _ (.cons _ (.cons _ (.cons _ (.cons _ (.refl _))))))),?_⟩
       exact Eq.trans rfl (congrArg (fun q:Gp×Bool=>AV.tuple [.agg (cGp q.1),.bool q.2]) (gR hc1 (hR2.trans (mS hc3 hc4 hc5)))).symm
   ·
    have hde:=Df hc2
    have hR2:=hR.2.1
    rw [hde] at hR2
    refine AW.exit ?_
    refine A3 (A3 (Bq (Ae (AW.seq ?_))))
    refine AW.ghost (GS.cell 2 0 rfl rfl rfl rfl G1) ?_
    refine AW.ghost (GS.cell 2 1 rfl rfl rfl rfl G1) ?_
    refine AW.draw mixed (fun H'=>_∈H') (List.mem_of_getElem? (i:=2) rfl) (by kernel_rfl) ?_
    refine Qn 0 rfl (OpP.Aax (fun k=>By (k:=k) (l:=[_,_,Iq _]) Ai rfl rfl rfl rfl rfl) (fun _ h=>h)) ?_
    refine Qn 1 rfl Iu ?_
    refine Qn 2 rfl (OpP.Aax (fun k=>At (k:=k) (c:=.sl _ _) Ai rfl rfl rfl rfl) (fun _ h=>h)) ?_
    refine Qn 3 rfl (Ak (n:=p.2.1.length) Ai rfl rfl rfl (hpel)) ?_
    refine Qn 4 rfl Mt (Qn 5 rfl Bm (Qo 6 rfl [] Qw Iu ?_))
    refine Js.pure _ _ 7 _ _ rfl (by kernel_rfl) (by kernel_rfl) rfl (.opt _ (.sl _ _) [(70,_)] rfl (sB.all ⟨tO.self _ _,trivial⟩) (fun hG=>OpP.Aax (fun k=>At (k:=k) (c:=.sl _ _) Ai rfl rfl rfl rfl) (fun _ h=>h)) rfl) ?_
    refine Js.pure _ _ 8 _ _ rfl (by kernel_rfl) (by kernel_rfl) rfl (.opt _ (Iq _) [(71,_)] rfl (sB.all ⟨tO.self _ _,trivial⟩) (fun hG=>Ak (n:=p.2.2.1.length) Ai rfl rfl rfl (hmel)) rfl) ?_
    refine Qo 9 rfl [(72,_)] Qw Mt (Qn 10 rfl Em ?_)
    refine Js.eff _ _ 11 _ _ rfl (by kernel_rfl) rfl rfl (C6 (k:=6) (v:=.agg _) (cs':=[_,_,Iq _]) (H2:=_::_::_::_::_::_::_::_) Ai rfl rfl rfl rfl (rfl) rfl rfl rfl rfl) (by rintro _ _ ⟨rfl,rfl⟩;simp) ?_
    rintro _ _ ⟨rfl,rfl⟩
    refine Qn 12 rfl Bc ?_
    refine Js.done _ _ (by kernel_rfl) ?_
    refine Ae (AW.ret ?_)
    refine ⟨.inr rfl,[.agg [_,_,Iq _],.bool _],.cons (.box _ _ _ 6 _ _ _ _ rfl rfl rfl rfl rfl rfl) <| .cons (.tmp _ _ rfl) <| .nil,.cons _ (.cons _ (.cons _ (.cons _ (.cons _ (.cons _ (.cons _ (.refl _))))))),?_⟩
    rw [hpe,hme]
    exact Eq.trans rfl (congrArg (fun q:Gp×Bool=>AV.tuple [.agg (cGp q.1),.bool q.2]) (yF hc1 hR2)).symm

set_option maxHeartbeats 1600000
set_option maxRecDepth 20000

theorem Ph (T:List Sc)(V:List Va)(e:Ex)(hk:KOK T V e)(hse:Av e≤1048576):Ar Tryz.prog 84 [.agg (Cj T V),.agg (cE e)] (.bool (Bt T V e)):=by
 refine Ar.body (n:=47) Ai Tryz.func84 rfl rfl rfl fun H=>?_
 refine Ah (Qp (Fx [_,_]) (Qp K3 (Qp Bc (Db ?_))))
 refine Qp (C8 (v:=.fn _ _ _) rfl) ?_
 refine Ag (AW.seq (AW.block (Ah (Qp Kw (Qp Br (Qp A6 (Qp Bc (Ag (A2 (fun hc1=>?_) fun hc1=>?_)))))))))
 ·
  refine Ah (Qp Bc (Ag (AW.ret (A9 (Al ?_)))))
  refine Qr (.bool _) ?_
  exact Eq.trans rfl (congrArg (fun q:Bool=>AV.bool q) (zE hc1)).symm
 ·
  refine Ah (Qp Dh ?_)
  refine Qp (Qc rfl (Yx e)) ?_
  refine Qp Ge (Qp Bc (Ag (A2 (fun hc2=>?_) fun hc2=>?_)))
  ·
   refine Ah (Qp Bc (Ag (AW.ret (A9 (Al ?_)))))
   refine Qr (.bool _) ?_
   exact Eq.trans rfl (congrArg (fun q:Bool=>AV.bool q) (gJ hc1 hc2)).symm
  ·
   refine Ah (Qp (Cd [_,_]) (Qp Dh ?_))
   refine Qp (Qc rfl (S8 T V e hk)) ?_
   refine Qp Bc (Ag (A2 (fun hc3=>?_) fun hc3=>?_))
   ·
    refine AW.seq ?_
    have hcmp:Cr e=true:=by simpa using ‹(!Cr e)=false›
    have h2:=K6 hk hcmp
    have h00:0<e.args.length:=by omega
    have hsz:=Dd h2
    have hk0:=Ax hk (A4 h00)
    have hk1:=Ax hk (Bn h2)
    refine AW.region ?_
    refine Qp (Bk (v:=.fn _ _ _) rfl) ?_
    refine Qp Mr (Qp Dg ?_)
    refine Qp (Af (c:=[Iq _,_,Iq _,Iq _,Iq _,Iq _,Iq _,.str _]) Ai rfl rfl rfl rfl rfl rfl (by decide) (Id h00)) ?_
    refine Qp Dh ?_
    refine Qp (D4 (by kernel_rfl) rfl rfl rfl (jN (Ao e))) ?_
    refine Qp Bm ?_
    refine AOL.Aav (y:=.fn _ _ _) _ [] rfl (sB.all trivial) (fun hG=>Bk (v:=.fn _ _ _) rfl) rfl ?_
    refine Qg [] Qw Mr (Qg [(28,_)] Qw Dg ?_)
    refine AOL.Aav (y:=.ptr _) _ [(29,_)] rfl (sB.all ⟨tO.self _ _,trivial⟩) (fun hG=>Af (c:=[Iq _,_,Iq _,Iq _,Iq _,Iq _,Iq _,.str _]) Ai rfl rfl rfl rfl rfl rfl (by decide) (Ky h2)) rfl ?_
    refine Qg [(30,_)] Qw Dh ?_
    refine AOL.Aav (y:=.bool _) _ [(31,_),(27,_)] rfl (sB.all ⟨tO.self _ _,tO.self _ _,trivial⟩) (fun hG=>D4 (by kernel_rfl) rfl rfl rfl (jN (Bj e))) rfl ?_
    refine Qp Em (Qp Bc (Ag (AW.ret (A9 (Al ?_)))))
    refine Qr (.bool _) ?_
    exact Eq.trans rfl (congrArg (fun q:Bool=>AV.bool q) (uD hc1 hc2 hc3)).symm
   ·
    refine AW.skip (Bp (Ae (AW.seq ?_)))
    have hcmp:Cr e=true:=by simpa using ‹(!Cr e)=false›
    have h2:=K6 hk hcmp
    have h00:0<e.args.length:=by omega
    have hsz:=Dd h2
    have hk0:=Ax hk (A4 h00)
    have hk1:=Ax hk (Bn h2)
    refine AW.draw mixed (fun _=>True) trivial (by kernel_rfl) ?_
    refine Qn 0 rfl Mr (Qn 1 rfl Dg ?_)
    refine Qn 2 rfl (Af (c:=[Iq _,_,Iq _,Iq _,Iq _,Iq _,Iq _,.str _]) Ai rfl rfl rfl rfl rfl rfl (by decide) (Id h00)) ?_
    refine Qn 3 rfl Dh (Qn 4 rfl Mr (Qn 5 rfl Dg ?_))
    refine Qn 6 rfl (Af (c:=[Iq _,_,Iq _,Iq _,Iq _,Iq _,Iq _,.str _]) Ai rfl rfl rfl rfl rfl rfl (by decide) (Ky h2)) ?_
    refine Qn 7 rfl Dh ?_
    refine Qn 8 rfl (Qc rfl (aM _ _ hk0.nodes hk1.nodes (by omega))) ?_
    refine Qn 9 rfl Lv ?_
    refine Qn 10 rfl (Ch (v:=.agg [_,_,Iq _]) rfl rfl) ?_
    refine Qn 11 rfl dK ?_
    refine Js.eff _ _ 12 _ _ rfl (by kernel_rfl) rfl rfl (Aj (l:=[.sl 3 [],.sl 3 [],.int .i64 0]) (by kernel_rfl)) (fun _ _ _=>trivial) ?_
    rintro _ _ ⟨b6,rfl,rfl⟩
    refine Js.eff _ _ 13 _ _ rfl (by kernel_rfl) rfl rfl (C6 (k:=0) (v:=.agg _) (cs':=[_,_,Iq _]) (H2:=_::_) Ai rfl rfl rfl rfl (rfl) rfl rfl rfl rfl) (fun _ _ _=>trivial) ?_
    rintro _ _ ⟨rfl,rfl⟩
    refine Qn 14 rfl Bc ?_
    refine Js.done _ _ (by kernel_rfl) ?_
    refine Ae ?_
    refine AW.ghost (GS.Aat (t:=6) 0 rfl rfl) ?_
    refine Ah (Qp Bm (Qp Bc (Ag (AW.ret ?_))))
    refine Qr (.bool _) ?_
    exact Eq.trans rfl (congrArg (fun q:Bool=>AV.bool q) (W2 hc1 hc2 hc3)).symm
theorem d_plain (T:List Sc)(V:List Va)(e:Ex)(hk:KOK T V e)(hse:Av e≤1048576):Ar Tryz.prog 50 [.agg (Cj T V),.agg (cE e)] (.bool (Hk T V e)):=by
 induction e using Ex.Aa0
 rename_i e ih
 have hal:=L5 e hse
 refine Ar.body (n:=26) Ai Tryz.func50 rfl rfl rfl fun H=>?_
 refine Ah (Qp (Fx [_,_]) (Qp K3 (Qp Bc (Ag (AW.seq (Ah (Qp (Cd [_,_]) (Qp Dh ?_))))))))
 refine Qp (Qc rfl (Xh T V e hk)) ?_
 refine Qp Ge (Ag (A2 (fun hc1=>?_) fun hc1=>?_))
 ·
  refine Ah (Qp (Cd [_,_]) (Qp Dh ?_))
  refine Qp (Qc rfl (Ph T V e hk hse)) ?_
  refine Qp Bc (Ag (Dq ?_))
  refine Qr (.bool _) ?_
  exact Eq.trans rfl (congrArg (fun q:Bool=>AV.bool q) (tQ hc1)).symm
 ·
  refine Bv (AW.seq (Ah (Qp Mr (Qp Dg ?_))))
  refine Qp (Ak (n:=e.args.length) Ai rfl rfl rfl (by simp)) ?_
  refine Qp Az (Ag (AW.block ?_))
  refine AW.Aau (fun (k:Nat)=>(⟨[(2,.ptr (Cj T V)),(3,.ptr (cE e)),(4,.bool false),(15,.sl 8 (e.args.map Gs)),(16,.int .i64 e.args.length),(17,.int .i64 (k:Int))],H,26⟩:St)) (fun (k:Nat)=>k≤e.args.length∧(e.args.take k).all (Hk T V)=true) (fun (k:Nat)=>e.args.length-k) (0) ?_ (GS.weaken ⟨rfl,rfl,rfl,rfl,rfl,rfl,trivial⟩ (.refl _)) ?_
  · simp
  ·
   rintro k hR
   refine Ah (Qp Cf (Ag (AW.seq (A2 (fun hc2=>?_) fun hc2=>?_))))
   ·
    obtain ⟨a,ha⟩:=B1 hc2
    have hlt:=A8 ha
    have hm:=List.mem_of_getElem? ha
    refine Bv (AW.seq (AW.block (Ah ?_)))
    refine Qp (Af (c:=[Iq _,_,Iq _,Iq _,Iq _,Iq _,Iq _,.str _]) Ai rfl rfl rfl rfl rfl rfl (by omega) (E0 ha)) ?_
    refine Qp Dh ?_
    refine Qe (Aj (l:=[.int .i64 0,.sl 8 [],.int .i64 0,.int .i64 0,.int .i64 0,.int .i64 0,.int .i64 0,.str []]) (by kernel_rfl)) ?_
    rintro _ _ ⟨b6,rfl,rfl⟩
    refine Cq 0 [Iq _,_,Iq _,Iq _,Iq _,Iq _,Iq _,.str _] (_::_) ?_
    refine AOL.ghost (GS.Aat (t:=6) 0 rfl rfl) ?_
    refine Db (Qp (Cd [_,_]) (Qp Dh ?_))
    refine Qp (Qc rfl (ih a hm (Ax hk hm) (Nat.le_trans (Nat.le_of_lt (F0 hm)) hse))) ?_
    refine Qp Ge (Ag (A2 (fun hc3=>?_) fun hc3=>?_))
    ·
     refine Ah (Qp Bc (Ag (AW.ret (A9 (Al (Al (A9 (Al ?_))))))))
     refine Qr (.bool _) ?_
     exact Eq.trans rfl (congrArg (fun q:Bool=>AV.bool q) (uT hc1 hm hc3)).symm
    ·
     refine AW.skip (Bp (Ae (AW.region (Qp Fu (Qp Az (Ag ?_))))))
     refine ⟨k+1,?_,?_,GS.weaken ⟨rfl,rfl,rfl,rfl,rfl,rfl,trivial⟩ (.refl _)⟩
     · exact ⟨hlt,by rw [Cm ha,List.all_append,hR.2];simpa using hc3⟩
     · omega
   ·
    have hte:=Cv hc2
    have hall:=hR.2
    rw [hte] at hall
    refine AW.exit ?_
    refine A3 (A3 (Bq (Ae (Ah (Qp Bc (Ag (AW.ret ?_)))))))
    refine Qr (.bool _) ?_
    exact Eq.trans rfl (congrArg (fun q:Bool=>AV.bool q) (xF hc1 hall)).symm
theorem nV (T:List Sc)(hl:T.length≤1048576)(hst:∀s∈T,I9 s)(V:List Va)(hvl:V.length≤1048576)(e:Ex)(hse:Av e≤1048576):Ar Tryz.prog 11 [.sl 2 (T.map Nf),.sl 2 (V.map Ub),.agg (cE e)] (.tuple [.bool (Nw T V e).1,.int .i64 (Nw T V e).2]):=by
 refine Ar.body (n:=22) Ai Tryz.func11 rfl rfl rfl fun H=>?_
 refine Ah (Qp K3 (Qp Bc (Qp Ap (Db (Qp C5 (Qp C5 (Qp (El [_,_]) ?_)))))))
 refine Qe (Aj (l:=[.sl 2 [],.sl 2 []]) (by kernel_rfl)) ?_
 rintro _ _ ⟨b8,rfl,rfl⟩
 refine Cq 0 [_,_] (_::_) ?_
 refine AOL.ghost (GS.Aat (t:=8) 0 rfl rfl) ?_
 refine Ag (AW.seq (Ah (Qp (Cd [_,_]) (Qp Dh ?_))))
 refine Qp (Qc rfl (Lz T hl hst V hvl e hse)) ?_
 refine Qp Ap (Db (Qp Az (Qp Ci (Ag (A2 (fun hc1=>?_) fun hc1=>?_)))))
 ·
  refine Ah (Qp Az (Qp Bc (Qp Ap (Ag (Dq ?_)))))
  refine J3 (.bool _) (Iq _) ?_
  exact Eq.trans rfl (congrArg (fun q:Bool×Int=>AV.tuple [.bool q.1,.int .i64 q.2]) (yT hc1)).symm
 ·
  have hk:=Mh hc1
  refine Bv (Ah (Qp (Cd [_,_]) (Qp Dh ?_)))
  refine Qp (Qc rfl (d_plain T V e hk hse)) ?_
  refine Qp Bc (Qp Ap (Ag (AW.ret ?_)))
  refine J3 (.bool _) (Iq _) ?_
  exact Eq.trans rfl (congrArg (fun q:Bool×Int=>AV.tuple [.bool q.1,.int .i64 q.2]) (iA hc1)).symm



set_option maxHeartbeats 3200000
set_option maxRecDepth 20000

theorem tI (a b:List (List Lit))(hla:a.length≤512)(hlb:b.length≤512)(ha:∀x∈a,x.length≤1048576)(hb:∀x∈b,x.length≤1048576):Ar Tryz.prog 106 [.sl 1 (a.map P2),.sl 1 (b.map P2)] (.tuple [.sl 1 ((Na a b).1.map P2),.bool (Na a b).2]):=by
 refine Ar.body (n:=40) Ai Tryz.func106 rfl rfl rfl fun H=>?_
 refine Ah ?_
 refine Qp (Bz (z:=1) rfl) ?_
 refine Qp Bc (Ag (AW.seq (Ah (Qp C5 ?_))))
 refine Qp (Ak (n:=a.length) Ai rfl rfl rfl (by simp)) ?_
 refine Qp C5 ?_
 refine Qp (Ak (n:=b.length) Ai rfl rfl rfl (by simp)) ?_
 refine Qp (tU rfl rfl rfl (by constructor <;> (have h1:(0:Int)≤(a.length:Int)*(b.length:Int):=Int.mul_nonneg (by omega) (by omega);have h2:(a.length:Int)*(b.length:Int)≤512*512:=Int.mul_le_mul (by omega) (by omega) (by omega) (by omega);omega))) ?_
 refine Qp Hb (Ag (A2 (fun hc1=>?_) fun hc1=>?_))
 ·
  refine Ah ?_
  refine Qp (Bz (z:=1) rfl) ?_
  refine Qp Bc (Ag (Dq ?_))
  refine J3 (.sl _ _) (.bool _) ?_
  exact Eq.trans rfl (congrArg (fun q:Cs=>AV.tuple [.sl 1 (q.1.map P2),.bool q.2]) (nW hc1)).symm
 ·
  refine Bv (Ah (Qp Oc ?_))
  refine AOL.ghost (GS.row (t:=6) 71 1 rfl) ?_
  refine Ag (AW.seq (Ah (Qp C5 ?_)))
  refine Qp (Ak (n:=a.length) Ai rfl rfl rfl (by simp)) ?_
  refine Qp Az (Ag (AW.block ?_))
  refine AW.Aau (fun (p:Nat×List (List AV)×Value)=>(⟨[(0,.sl 1 (a.map P2)),(1,.sl 1 (b.map P2)),(5,.bool false),(6,.row p.2.2 1 p.2.1),(17,.sl 1 (a.map P2)),(18,.int .i64 a.length),(19,.int .i64 (p.1:Int))],.row p.2.2 p.2.1.length 71 1::H,40⟩:St)) (fun (p:Nat×List (List AV)×Value)=>p.1≤a.length∧p.2.1=((a.take p.1).flatMap fun x=>b.map fun y=>x++y).map P2) (fun (p:Nat×List (List AV)×Value)=>a.length-p.1) ((0,[],.slice none 0 0)) ?_ (GS.weaken ⟨rfl,rfl,rfl,rfl,rfl,rfl,rfl,trivial⟩ (.refl _)) ?_
  · exact ⟨Nat.zero_le _,rfl⟩
  ·
   rintro p hR
   refine Ah (Qp Cf (Ag (AW.seq (A2 (fun hc2=>?_) fun hc2=>?_))))
   ·
    obtain ⟨x,hx⟩:=B1 hc2
    have hlx:=A8 hx
    have hxl:=ha x (List.mem_of_getElem? hx)
    refine Bv (AW.seq (AW.block (Ah ?_)))
    refine Qp (Af (c:=[_]) Ai rfl rfl rfl rfl rfl rfl (by omega) (Bg hx)) ?_
    refine Qp Dg (Qp Xa (Db (Qp C5 ?_)))
    refine Qp (Ak (n:=b.length) Ai rfl rfl rfl (by simp)) ?_
    refine Qp Az (Ag (AW.block ?_))
    refine AW.Aau (fun (q:Nat×List (List AV)×Value)=>(⟨[(0,.sl 1 (a.map P2)),(1,.sl 1 (b.map P2)),(5,.bool false),(6,.row q.2.2 1 q.2.1),(8,.sl 9 (x.map Gw)),(17,.sl 1 (a.map P2)),(18,.int .i64 a.length),(19,.int .i64 (p.1:Int)),(23,.sl 1 (b.map P2)),(24,.int .i64 b.length),(25,.int .i64 (q.1:Int))],.row q.2.2 q.2.1.length 71 1::H,40⟩:St)) (fun (q:Nat×List (List AV)×Value)=>q.1≤b.length∧q.2.1=(((a.take p.1).flatMap fun x=>b.map fun y=>x++y)++(b.take q.1).map fun y=>x++y).map P2∧True) (fun (q:Nat×List (List AV)×Value)=>b.length-q.1) ((0,p.2.1,p.2.2)) ?_ (GS.weaken ⟨rfl,rfl,rfl,rfl,rfl,rfl,rfl,rfl,rfl,rfl,rfl,trivial⟩ (.refl _)) ?_
    · exact ⟨Nat.zero_le _,by simp only [List.take_zero,List.map_nil,List.append_nil];exact hR.2,trivial⟩
    ·
     rintro q hQ
     refine Ah (Qp Cf (Ag (AW.seq (A2 (fun hc3=>?_) fun hc3=>?_))))
     ·
      obtain ⟨y,hy⟩:=B1 hc3
      have hly:=A8 hy
      have hyl:=hb y (List.mem_of_getElem? hy)
      have hple:=prod_le hlx hly hc1
      refine Bv (AW.seq (AW.block (Ah ?_)))
      refine Qp (Af (c:=[_]) Ai rfl rfl rfl rfl rfl rfl (by omega) (Bg hy)) ?_
      refine Qp Dg (Qp Xa (Ag ?_))
      have hsx:∀c∈(x.map Gw),Bf c=true:=Ff fun _=>rfl
      have hsy:∀c∈(y.map Gw),Bf c=true:=Ff fun _=>rfl
      have hscx:∀c∈(x.map Gw++y.map Gw),Bf c=true:=fun c hc=>(List.mem_append.1 hc).elim (hsx c) (hsy c)
      have hso:∀c∈q.2.1,Bf c=true:=by rw [hQ.2.1];exact Ff fun _=>rfl
      have hql:q.2.1.length<256:=by rw [hQ.2.1,List.length_map,List.length_append,gZ,List.length_map,List.length_take,List.length_take,Nat.min_eq_left (Nat.le_of_lt hlx),Nat.min_eq_left (Nat.le_of_lt hly)];exact hple
      refine AW.region ?_
      refine Qp (Bk (v:=.row _ _ _) rfl) ?_
      refine Qe (R0 (es:=[]) Ai rfl rfl rfl rfl rfl rfl rfl rfl rfl) ?_
      rintro _ _ ⟨v30,rfl,rfl⟩
      refine Qp C5 ?_
      refine Qe (Dj (k:=0) Ai rfl rfl rfl rfl rfl rfl rfl rfl (hsx) (zA) (by simp;omega) (by simp [maxLen];omega)) ?_
      rintro _ _ ⟨v32,rfl,rfl⟩
      refine Qp C5 ?_
      refine Qe (Dj (k:=0) Ai rfl rfl rfl rfl rfl rfl rfl rfl (hsy) (hsx) (by simp;omega) (by simp [maxLen];omega)) ?_
      rintro _ _ ⟨v34,rfl,rfl⟩
      refine AOL.ghost (GS.unrow 34 rfl) ?_
      refine Qp (A0 (es:=[[_]]) Ai rfl rfl rfl rfl rfl rfl rfl rfl rfl) ?_
      refine Qe (Dj (k:=1) Ai rfl rfl rfl rfl rfl rfl rfl rfl (G2 rfl) (hso) (by simp;omega) (by simp [maxLen];omega)) ?_
      rintro _ _ ⟨v36,rfl,rfl⟩
      refine Qp (C8 (v:=.row _ _ _) rfl) ?_
      refine AOL.nil (Bp (Ae (AW.region (Qp Fu (Qp Az (Ag ?_))))))
      refine ⟨(q.1+1,q.2.1 ++ [[.sl 9 (x.map Gw++y.map Gw)]],v36),?_,?_,GS.weaken ⟨rfl,rfl,rfl,rfl,rfl,rfl,rfl,rfl,rfl,rfl,rfl,trivial⟩ (.cons _ (.refl _))⟩
      · exact ⟨hly,by simp only;rw [Cm hy,hQ.2.1];simp [P2],trivial⟩
      · simp only;omega
     ·
      have hte:=Cv hc3
      have hall:=hQ.2.1
      rw [hte] at hall
      refine AW.exit ?_
      refine A3 (A3 (Bq (Bp (Ae (AW.region (Qp Fu (Qp Az (Ag ?_))))))))
      refine ⟨(p.1+1,q.2.1,q.2.2),?_,?_,GS.weaken ⟨rfl,rfl,rfl,rfl,rfl,rfl,rfl,trivial⟩ (.refl _)⟩
      · exact ⟨hlx,by simp only;rw [sT hx];exact hall⟩
      · simp only;omega
   ·
    have hte:=Cv hc2
    have hall:=hR.2
    rw [hte] at hall
    refine AW.exit ?_
    refine A3 (A3 (Bq (Ae (Ah ?_))))
    refine Qp (Bk (v:=.row _ _ _) rfl) ?_
    refine AOL.ghost (GS.unrow 39 rfl) ?_
    refine Qp Xa (Qp Bc (Ag (AW.ret ?_)))
    refine ⟨.inr rfl,[.sl _ _,.bool _],.cons (.tmp _ _ rfl) <| .cons (.tmp _ _ rfl) <| .nil,.cons _ (.refl _),?_⟩
    rw [hall]
    exact Eq.trans rfl (congrArg (fun q:Cs=>AV.tuple [.sl 1 (q.1.map P2),.bool q.2]) (Xn hc1)).symm
set_option maxHeartbeats 400000
set_option maxRecDepth 20000

theorem d_two (op:Int)(x y:Ex):Ar Tryz.prog 91 [.int .i64 op,.agg (cE x),.agg (cE y)] (.agg (cE (two op x y))):=by
 refine Ar.body (n:=12) Ai Tryz.func91 rfl rfl rfl fun H=>?_
 refine Ah (Qp K3 (Qp K3 ?_))
 refine Qe (Aj (l:=[.int .i64 0,.sl 8 [],.int .i64 0,.int .i64 0,.int .i64 0,.int .i64 0,.int .i64 0,.str []]) (by kernel_rfl)) ?_
 rintro _ _ ⟨b6,rfl,rfl⟩
 refine Db (Qp Az (Qp Dh (Qp Dh ?_)))
 refine Qp (A0 (es:=[[Iq _,_,Iq _,Iq _,Iq _,Iq _,Iq _,.str _],[Iq _,_,Iq _,Iq _,Iq _,Iq _,Iq _,.str _]]) Ai rfl rfl rfl rfl rfl rfl rfl rfl rfl) ?_
 refine Qp (El [Iq _,_,Iq _,Iq _,Iq _,Iq _,Iq _,.str _]) ?_
 refine Cq 0 [Iq _,_,Iq _,Iq _,Iq _,Iq _,Iq _,.str _] (_::_) ?_
 refine Ag (AW.ret ?_)
 refine ⟨.inr rfl,[.agg [Iq _,_,Iq _,Iq _,Iq _,Iq _,Iq _,.str _]],.cons (.box _ _ _ 0 _ _ _ _ rfl rfl rfl rfl rfl rfl) <| .nil,.cons _ (.refl _),?_⟩
 rw [aP];rfl
theorem Kb (op:Int)(x y:Ex):Ar Tryz.prog 28 [.int .i64 op,.agg (cE x),.agg (cE y)] (.agg (cE (two op x y))):=by
 refine Ar.body (n:=12) Ai Tryz.func28 rfl rfl rfl fun H=>?_
 refine Ah (Qp K3 (Qp K3 ?_))
 refine Qe (Aj (l:=[.int .i64 0,.sl 8 [],.int .i64 0,.int .i64 0,.int .i64 0,.int .i64 0,.int .i64 0,.str []]) (by kernel_rfl)) ?_
 rintro _ _ ⟨b6,rfl,rfl⟩
 refine Db (Qp Az (Qp Dh (Qp Dh ?_)))
 refine Qp (A0 (es:=[[Iq _,_,Iq _,Iq _,Iq _,Iq _,Iq _,.str _],[Iq _,_,Iq _,Iq _,Iq _,Iq _,Iq _,.str _]]) Ai rfl rfl rfl rfl rfl rfl rfl rfl rfl) ?_
 refine Qp (El [Iq _,_,Iq _,Iq _,Iq _,Iq _,Iq _,.str _]) ?_
 refine Cq 0 [Iq _,_,Iq _,Iq _,Iq _,Iq _,Iq _,.str _] (_::_) ?_
 refine Ag (AW.ret ?_)
 refine ⟨.inr rfl,[.agg [Iq _,_,Iq _,Iq _,Iq _,Iq _,Iq _,.str _]],.cons (.box _ _ _ 0 _ _ _ _ rfl rfl rfl rfl rfl rfl) <| .nil,.cons _ (.refl _),?_⟩
 rw [aP];rfl
theorem l_not (x:Ex):Ar Tryz.prog 42 [.agg (cE x)] (.agg (cE (sP x))):=by
 refine Ar.body (n:=6) Ai Tryz.func42 rfl rfl rfl fun H=>?_
 refine Ah (Qp K3 ?_)
 refine Qe (Aj (l:=[.int .i64 0,.sl 8 [],.int .i64 0,.int .i64 0,.int .i64 0,.int .i64 0,.int .i64 0,.str []]) (by kernel_rfl)) ?_
 rintro _ _ ⟨b2,rfl,rfl⟩
 refine Db (Qp Dh ?_)
 refine Qp (A0 (es:=[[Iq _,_,Iq _,Iq _,Iq _,Iq _,Iq _,.str _]]) Ai rfl rfl rfl rfl rfl rfl rfl rfl rfl) ?_
 refine Qp (El [Iq _,_,Iq _,Iq _,Iq _,Iq _,Iq _,.str _]) ?_
 refine Cq 0 [Iq _,_,Iq _,Iq _,Iq _,Iq _,Iq _,.str _] (_::_) ?_
 refine Ag (AW.ret ?_)
 refine ⟨.inr rfl,[.agg [Iq _,_,Iq _,Iq _,Iq _,Iq _,Iq _,.str _]],.cons (.box _ _ _ 0 _ _ _ _ rfl rfl rfl rfl rfl rfl) <| .nil,.cons _ (.refl _),?_⟩
 rw [sC];rfl
theorem d_truth (x:Bool):Ar Tryz.prog 96 [.bool x] (.agg (cE (Fw x))):=by
 refine Ar.body (n:=6) Ai Tryz.func96 rfl rfl rfl fun H=>?_
 refine Ah ?_
 refine Qe (Aj (l:=[.int .i64 0,.sl 8 [],.int .i64 0,.int .i64 0,.int .i64 0,.int .i64 0,.int .i64 0,.str []]) (by kernel_rfl)) ?_
 rintro _ _ ⟨b2,rfl,rfl⟩
 refine Db (Qp Bm ?_)
 refine Qp (Qc rfl (c75 x)) ?_
 refine Qp (El [Iq _,_,Iq _,Iq _,Iq _,Iq _,Iq _,.str _]) ?_
 refine Cq 0 [Iq _,_,Iq _,Iq _,Iq _,Iq _,Iq _,.str _] (_::_) ?_
 refine Ag (AW.ret ?_)
 refine ⟨.inr rfl,[.agg [Iq _,_,Iq _,Iq _,Iq _,Iq _,Iq _,.str _]],.cons (.box _ _ _ 0 _ _ _ _ rfl rfl rfl rfl rfl rfl) <| .nil,.cons _ (.refl _),?_⟩
 rfl
theorem Pl (n:Int):Ar Tryz.prog 41 [.int .i64 n] (.agg (cE (Ou ⟨0,n,[]⟩))):=by
 refine Ar.body (n:=6) Ai Tryz.func41 rfl rfl rfl fun H=>?_
 refine Ah ?_
 refine Qe (Aj (l:=[.int .i64 0,.sl 8 [],.int .i64 0,.int .i64 0,.int .i64 0,.int .i64 0,.int .i64 0,.str []]) (by kernel_rfl)) ?_
 rintro _ _ ⟨b2,rfl,rfl⟩
 refine Db (Qp Az (Qp (El [Iq _,Iq _,.str _]) (Qp (El [Iq _,_,Iq _,Iq _,Iq _,Iq _,Iq _,.str _]) ?_)))
 refine Cq 0 [Iq _,_,Iq _,Iq _,Iq _,Iq _,Iq _,.str _] (_::_) ?_
 refine Ag (AW.ret ?_)
 refine ⟨.inr rfl,[.agg [Iq _,_,Iq _,Iq _,Iq _,Iq _,Iq _,.str _]],.cons (.box _ _ _ 0 _ _ _ _ rfl rfl rfl rfl rfl rfl) <| .nil,.cons _ (.refl _),?_⟩
 rfl
theorem Fy (v:Int):Ar Tryz.prog 40 [.int .i64 v] (.agg (cE ⟨1,[],v,1,0,v0⟩)):=by
 refine Ar.body (n:=5) Ai Tryz.func40 rfl rfl rfl fun H=>?_
 refine Ah ?_
 refine Qe (Aj (l:=[.int .i64 0,.sl 8 [],.int .i64 0,.int .i64 0,.int .i64 0,.int .i64 0,.int .i64 0,.str []]) (by kernel_rfl)) ?_
 rintro _ _ ⟨b2,rfl,rfl⟩
 refine Db (Qp Az (Qp (El [Iq _,_,Iq _,Iq _,Iq _,Iq _,Iq _,.str _]) ?_))
 refine Cq 0 [Iq _,_,Iq _,Iq _,Iq _,Iq _,Iq _,.str _] (_::_) ?_
 refine Ag (AW.ret ?_)
 refine ⟨.inr rfl,[.agg [Iq _,_,Iq _,Iq _,Iq _,Iq _,Iq _,.str _]],.cons (.box _ _ _ 0 _ _ _ _ rfl rfl rfl rfl rfl rfl) <| .nil,.cons _ (.refl _),?_⟩
 rfl
theorem Sv (v:Int):Ar Tryz.prog 48 [.int .i64 v] (.agg (cE ⟨1,[],v,0,0,v0⟩)):=by
 refine Ar.body (n:=5) Ai Tryz.func48 rfl rfl rfl fun H=>?_
 refine Ah ?_
 refine Qe (Aj (l:=[.int .i64 0,.sl 8 [],.int .i64 0,.int .i64 0,.int .i64 0,.int .i64 0,.int .i64 0,.str []]) (by kernel_rfl)) ?_
 rintro _ _ ⟨b2,rfl,rfl⟩
 refine Db (Qp Az (Qp (El [Iq _,_,Iq _,Iq _,Iq _,Iq _,Iq _,.str _]) ?_))
 refine Cq 0 [Iq _,_,Iq _,Iq _,Iq _,Iq _,Iq _,.str _] (_::_) ?_
 refine Ag (AW.ret ?_)
 refine ⟨.inr rfl,[.agg [Iq _,_,Iq _,Iq _,Iq _,Iq _,Iq _,.str _]],.cons (.box _ _ _ 0 _ _ _ _ rfl rfl rfl rfl rfl rfl) <| .nil,.cons _ (.refl _),?_⟩
 rfl
end Go.Proofs.YtkddpedfbicbeaaGreatDoor
