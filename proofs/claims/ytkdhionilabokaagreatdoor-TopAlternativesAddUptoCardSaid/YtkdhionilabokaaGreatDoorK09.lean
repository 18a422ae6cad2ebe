/-
  Several texts in one: U29, U31, Aro, U30, Shels, U19, U20. No condition.
-/
import Derived.Test.YtkdhionilabokaaGreatDoorK06
import Derived.Test.YtkdhionilabokaaGreatDoorK03
import Derived.KernelRfl
import Derived.Test.YtkdhionilabokaaGreatDoorK07
import Derived.Shelf.SlSortCmp.WholeK
import Derived.Test.YtkdhionilabokaaGreatDoorProg
set_option linter.unusedVariables false
set_option linter.unusedSimpArgs false
set_option maxHeartbeats 6400000
set_option maxRecDepth 20000
namespace Go.Proofs.YtkdhionilabokaaGreatDoor
open Go Go.Aw
theorem vK (s t:List Pr):([]++s.map Ct)++t.map Ct=(s++t).map Ct:=by rw [H6,Cy]
theorem s_env (L:List Ev)(s:List Pr)(n:Nat)(hs:PrOK L s)(hl:s.length<=1048576):Al Tryz.prog 190 [.ptr [.sl 5 (L.map Ec),.bool false],.sl 2 (s.map Ct),.int .i64 (n:Int)] (.agg (sN (Ie L s n))):=by
 refine Al.body (n:=45) Ai Tryz.func190 rfl rfl rfl fun H=>?_
 refine AW.seq (AW.region ?_);refine AOL.e (Bh (l:=[.sl 1 []]) (by kernel_rfl)) rfl ?_;rintro _ _ ⟨b6,rfl,rfl⟩;refine AOL.nil (Aa (AW.seq (AW.region ?_)));refine AOL.e (Um (E:=49) (z:=5) (n:=16) Ai rfl rfl rfl rfl rfl rfl (by decide) (by decide) (by kernel_rfl)) rfl ?_;rintro _ _ ⟨b10,rfl,rfl⟩;refine AOL.Aag (C3 (l:=[_]) Ai rfl rfl rfl) rfl ?_;refine AOL.e (Bh (l:=[.sl 1 []]) (by kernel_rfl)) rfl ?_;rintro _ _ ⟨b7,rfl,rfl⟩;refine AOL.e (Ao (k:=0) (v:=.agg _) (cs':=[_]) (H2:=_::_::_) Ai rfl rfl rfl rfl (rfl) rfl rfl rfl rfl) rfl ?_;rintro _ _ ⟨rfl,rfl⟩;refine AOL.ghost (GS.Aaj (t:=7) 0 rfl rfl) ?_;refine AOL.ghost (GS.perm (H2:=.box b10 30 (gC g0) :: .box b6 191 [.sl 1 []]::(gO g0 49++H)) (List.perm_middle.cons _)) ?_;refine AOL.nil (Aa (AW.seq (AW.seq (AW.region (AOL.Aag (Ae (v:=.sl _ _) rfl) rfl ?_)))));refine AOL.Aag (Av (n:=s.length) Ai rfl rfl rfl (by simp)) rfl ?_;refine AOL.Aag (Ae (v:=.int .i64 _) rfl) rfl (AOL.nil (Aa (AW.block (AW.sllen 12 rfl fun hlen=>?_))));simp only [B1,maxLen] at hlen;refine AW.loopS (fun (q:Nat×List GR)=>(⟨[(0,.ptr [.sl 5 (L.map Ec),.bool false]),(2,.int .i64 (n:Int)),(6,.val (.pointer (some ⟨b6,0,none⟩))),(7,.ptr [.val (.slice (some ⟨b10,0,none⟩) 16 16)]),(12,.sl 2 (s.map Ct)),(13,.int .i64 s.length),(14,.int .i64 (q.1:Int))],.box b10 30 (gC q.2) :: .box b6 191 [.sl 1 []]::(gO q.2 49++H),45⟩:St)) (fun q=>q.1<=s.length/\q.2.length=16/\gL q.2=Ie L (s.take q.1) n) (fun q=>s.length-q.1) ((0,g0)) ?_ (GS.weaken ⟨rfl,rfl,rfl,rfl,rfl,rfl,rfl,trivial⟩ (.refl _)) ?_
 . exact ⟨Bn _,rfl,rfl⟩
 rintro q hR;refine AW.seq (AW.region (AOL.Aag (B9 rfl rfl) rfl (AOL.nil (Aa (AW.seq (AW.cond (b:=_) rfl (fun hc1=>?_) (fun hc1=>?_)))))))
 .
  obtain ⟨a,ha⟩:=Dd hc1;have hlt:=Bj ha;have hm:=A0 ha;have h0:=hs.lo a hm;have h1:=hs.hi a hm;have hal:=hs.at' a hm;have hla:L[a.a]? = some (Fx L a.a):=Hu Hg hal;have hj:a.v.toNat<q.2.length:=by rw [hR.2.1];omega
  refine (Fa hj).elim fun r hr=>?_
  have hrl:r.2.length<=s.length:=gQ hR.2.2 hr;refine AW.skip (Aa (AW.seq (AW.block (AW.seq (AW.region ?_)))));refine AOL.Aag (Am (c:=[.int .i64 _,.int .i64 _]) Ai rfl rfl rfl rfl rfl rfl (by omega) (Co ha)) rfl ?_;refine AOL.Aag (Ah (l:=[.int .i64 _,.int .i64 _]) Ai rfl rfl rfl rfl rfl) rfl ?_;refine AOL.e (Bh (l:=[.int .i64 0,.int .i64 0]) (by kernel_rfl)) rfl ?_;rintro _ _ ⟨b9,rfl,rfl⟩;refine AOL.e (Ao (k:=0) (v:=.agg _) (cs':=[.int .i64 _,.int .i64 _]) (H2:=_::_::_::_) Ai rfl rfl rfl rfl (rfl) rfl rfl rfl rfl) rfl ?_;rintro _ _ ⟨rfl,rfl⟩;refine AOL.ghost (GS.Aaj (t:=9) 0 rfl rfl) ?_;refine AOL.nil (Aa (AW.seq (AW.region (AOL.Aag (Ad (cs':=[.int .i64 _]) Ai rfl rfl rfl rfl rfl rfl) rfl (AOL.Aag (Af (c:=.int .i64 _) Ai rfl rfl rfl) rfl (AOL.Aag (Ae (v:=.int .i64 _) rfl) rfl (AOL.Aag (B9 rfl rfl) rfl (AOL.nil (Aa (AW.cond (b:=_) rfl (fun hc2=>?_) (fun hc2=>?_)))))))))))
  .
   have hna:a.a<n:=by have:=B2 hc2;omega
   refine AW.draw mixed (fun H'=>_∈H') (A0 (i:=0) rfl) (by kernel_rfl) ?_;refine E5.pure _ _ 0 _ _ rfl (by kernel_rfl) (by kernel_rfl) rfl (.run rfl (Ad (cs':=[_]) Ai rfl rfl rfl rfl rfl rfl)) ?_;refine E5.pure _ _ 1 _ _ rfl (by kernel_rfl) (by kernel_rfl) rfl (.run rfl (Af (c:=.val _) Ai rfl rfl rfl)) ?_;refine E5.pure _ _ 2 _ _ rfl (by kernel_rfl) (by kernel_rfl) rfl (.run rfl (Ad (cs':=[.int .i64 _,.int .i64 _]) Ai rfl rfl rfl rfl rfl rfl)) ?_;refine E5.pure _ _ 3 _ _ rfl (by kernel_rfl) (by kernel_rfl) rfl (.run rfl (Af (c:=.int .i64 _) Ai rfl rfl rfl)) ?_;refine E5.pure _ _ 4 _ _ rfl (by kernel_rfl) (by kernel_rfl) rfl (.run rfl (Ad (cs':=[_]) Ai rfl rfl rfl rfl rfl rfl)) ?_;refine E5.pure _ _ 5 _ _ rfl (by kernel_rfl) (by kernel_rfl) rfl (.run rfl (Af (c:=.val _) Ai rfl rfl rfl)) ?_;refine E5.pure _ _ 6 _ _ rfl (by kernel_rfl) (by kernel_rfl) rfl (.run rfl (Ad (cs':=[.int .i64 _,.int .i64 _]) Ai rfl rfl rfl rfl rfl rfl)) ?_;refine E5.pure _ _ 7 _ _ rfl (by kernel_rfl) (by kernel_rfl) rfl (.run rfl (Af (c:=.int .i64 _) Ai rfl rfl rfl)) ?_;refine E5.pure _ _ 8 _ _ rfl (by kernel_rfl) (by kernel_rfl) rfl (.run rfl (A8 (o':=a.v.toNat) Ai rfl rfl rfl rfl rfl (h0) (by omega) (uN _))) ?_;refine E5.pure _ _ 9 _ _ rfl (by kernel_rfl) (by kernel_rfl) rfl (.run rfl (OpP.Aan (fun k=>Br (k:=k) (c:=.row r.1 5 (r.2.map Ec)) Ai rfl rfl rfl (wL hr)) (fun _ h=>h))) ?_;refine E5.pure _ _ 10 _ _ rfl (by kernel_rfl) (by kernel_rfl) rfl (.run rfl (Ae (v:=.ptr _) rfl)) ?_;refine E5.pure _ _ 11 _ _ rfl (by kernel_rfl) (by kernel_rfl) rfl (.run rfl (B4 rfl)) ?_;refine E5.pure _ _ 12 _ _ rfl (by kernel_rfl) (by kernel_rfl) rfl (.run rfl (Ad (cs':=[_,.bool _]) Ai rfl rfl rfl rfl rfl rfl)) ?_;refine E5.pure _ _ 13 _ _ rfl (by kernel_rfl) (by kernel_rfl) rfl (.run rfl (Af (c:=.sl _ _) Ai rfl rfl rfl)) ?_;refine E5.pure _ _ 14 _ _ rfl (by kernel_rfl) (by kernel_rfl) rfl (.run rfl (Ad (cs':=[.int .i64 _]) Ai rfl rfl rfl rfl rfl rfl)) ?_;refine E5.pure _ _ 15 _ _ rfl (by kernel_rfl) (by kernel_rfl) rfl (.run rfl (Af (c:=.int .i64 _) Ai rfl rfl rfl)) ?_;refine E5.pure _ _ 16 _ _ rfl (by kernel_rfl) (by kernel_rfl) rfl (.run rfl (Am (c:=Ec (Fx L a.a)) Ai rfl rfl rfl rfl rfl rfl (by omega) (Co hla))) ?_;refine E5.pure _ _ 17 _ _ rfl (by kernel_rfl) (by kernel_rfl) rfl (.run rfl (Ah (l:=[.int .i64 _,.int .i64 _,.int .i64 _,.int .i64 _,_]) Ai rfl rfl rfl rfl rfl)) ?_;refine E5.pure _ _ 18 _ _ rfl (by kernel_rfl) (by kernel_rfl) rfl (.run rfl (Bw (es:=[[.int .i64 _,.int .i64 _,.int .i64 _,.int .i64 _,_]]) Ai rfl rfl rfl rfl rfl rfl rfl rfl rfl)) ?_;refine E5.eff _ _ 19 _ _ rfl (by kernel_rfl) rfl rfl (I5 (k:=a.v.toNat+2) Ai rfl rfl rfl rfl rfl rfl rfl (wN hr) (Hn rfl) (M3 fun _=>rfl) (by rw [B1];show (r.2.length+1)*56<=_;omega) (by rw [B1];simp [maxLen];omega)) (by rintro _ _ ⟨v41,rfl,rfl⟩;simp) ?_
   rintro _ _ ⟨v41,rfl,rfl⟩;refine E5.pure _ _ 20 _ _ rfl (by kernel_rfl) (by kernel_rfl) rfl (.run rfl (A8 (o':=a.v.toNat) Ai rfl rfl rfl rfl rfl (h0) (by omega) (uN _))) ?_;refine E5.last _ _ 21 _ _ rfl (by kernel_rfl) rfl rfl (Ao (k:=0) (v:=.row _ _ _) (cs':=gC (q.2.set a.v.toNat (v41,r.2 ++ [Fx L a.a]))) (H2:=_::_::_) Ai rfl rfl rfl rfl rfl rfl (gV hj) (nJ v41 (Fx L a.a) hr) rfl) (by kernel_rfl) ?_;rintro _ _ ⟨rfl,rfl⟩;refine C9 (Aa (AW.region ?_));refine AOL.Aag (Cc rfl rfl rfl (by constructor <;> omega)) rfl ?_;refine AOL.Aag (Ae (v:=.int .i64 _) rfl) rfl (AOL.nil (Aa ?_));refine ⟨(q.1+1,q.2.set a.v.toNat (v41,r.2 ++ [Fx L a.a])),?_,?_,GS.trans (GS.heapTo (H2:=_::_::_) (congrArg (fun x=>HO.box b10 30 (gC (q.2.set a.v.toNat (v41,r.2 ++ [Fx L a.a])))::HO.box b6 191 [.sl 1 []]::x) (nM v41 (Fx L a.a) H hr))) (GS.weaken ⟨rfl,rfl,rfl,rfl,rfl,rfl,rfl,trivial⟩ (.refl _))⟩
   . exact ⟨hlt,by simp only;rw [Hr];exact hR.2.1,by simp only;rw [nL,hR.2.2,mR ha h0 h1 hna,<-hR.2.2,wM hr]⟩
   simp only;omega
  have hna:¬a.a<n:=by have:=C7 hc2;omega
  refine AW.skip (C9 (Aa (AW.region ?_)));refine AOL.Aag (Cc rfl rfl rfl (by constructor <;> omega)) rfl ?_;refine AOL.Aag (Ae (v:=.int .i64 _) rfl) rfl (AOL.nil (Aa ?_));refine ⟨(q.1+1,q.2),?_,?_,GS.trans (GS.refl _) (GS.weaken ⟨rfl,rfl,rfl,rfl,rfl,rfl,rfl,trivial⟩ (.refl _))⟩
  . exact ⟨hlt,hR.2.1,hR.2.2.trans (aN ha hna).symm⟩
  simp only;omega
 have hte:=D3 hc1;have hde:=hR.2.2;rw [hte] at hde;refine AW.exit ?_;refine A1 (A1 (Cd (Aa ?_)));refine AW.seq (AW.region (AOL.Aag (Ah (l:=[_]) Ai rfl rfl rfl rfl rfl) rfl ?_));refine AOL.ghost (GS.trans (GS.cellsW (H2:=_::_::_) 0 rfl (nI q.2) (gW q.2) rfl) (GS.freezeSl (t:=44) (z:=1) (es:=(gL q.2).map Tu) (x:=.agg [.val (.slice (some ⟨b10,0,none⟩) 16 16)]) (y:=.agg [.sl 1 ((gL q.2).map Tu)]) 0 rfl rfl rfl (by rw [B1,nK,hR.2.1]) (Bi _) (by decide) (bY (fun _=>rfl) _) lU)) ?_;refine AOL.e (Ao (k:=0) (v:=.agg _) (cs':=[_]) (H2:=_::_) Ai rfl rfl rfl rfl (rfl) rfl rfl rfl rfl) rfl ?_;rintro _ _ ⟨rfl,rfl⟩;refine AOL.nil (Aa (AW.ret ?_));refine ⟨.inr rfl,[.agg [_]],.cons (.box _ _ _ 0 _ _ _ _ rfl rfl rfl rfl rfl rfl) <| .nil,.cons _ ((List.sublist_append_right _ _)),?_⟩;exact congrArg (fun l:List (List Ev)=>AV.agg [.sl 1 (l.map Tu)]) hde
theorem s_sat (L:List Ev)(e:Ex)(hc:B3 e<=1048576)(s:List Pr)(hs:PrOK L s)(hl:s.length<=1048576)(v:Int)(a:Nat)(ha:a<L.length):Al Tryz.prog 167 [.ptr [.sl 5 (L.map Ec),.bool false],.agg (cE e),.sl 2 (s.map Ct),.int .i64 v,.int .i64 (a:Int)] (.bool (Mn ⟨Ie L s a,v,Fx L a⟩ e)):=by
 have hla:L[a]? = some (Fx L a):=Hu Hg ha;refine Al.body (n:=25) Ai Tryz.func167 rfl rfl rfl fun H=>?_
 refine AW.seq (AW.region (AOL.Aag (Bt (v:=.agg _) (cs:=[.int .i64 _,_,.int .i64 _,.int .i64 _,.int .i64 _,.int .i64 _,.int .i64 _,.str _]) rfl rfl rfl) rfl (AOL.Aag (Ag (v:=.bool _) rfl) rfl (AOL.nil (Aa (AW.seq ?_))))));refine AW.draw mixed (fun _=>True) trivial (by kernel_rfl) ?_;refine E5.pure _ _ 0 _ _ rfl (by kernel_rfl) (by kernel_rfl) rfl (.run rfl (Ah (l:=[.int .i64 _,_,.int .i64 _,.int .i64 _,.int .i64 _,.int .i64 _,.int .i64 _,.str _]) Ai rfl rfl rfl rfl rfl)) ?_;refine E5.pure _ _ 1 _ _ rfl (by kernel_rfl) (by kernel_rfl) rfl (.run rfl (Ae (v:=.ptr _) rfl)) ?_;refine E5.pure _ _ 2 _ _ rfl (by kernel_rfl) (by kernel_rfl) rfl (.run rfl (Ae (v:=.sl _ _) rfl)) ?_;refine E5.pure _ _ 3 _ _ rfl (by kernel_rfl) (by kernel_rfl) rfl (.run rfl (Ae (v:=.int .i64 _) rfl)) ?_;refine E5.pure _ _ 4 _ _ rfl (by kernel_rfl) (by kernel_rfl) rfl (.run rfl (Ak (by kernel_rfl) rfl rfl (s_env L s a hs hl))) ?_;refine E5.pure _ _ 5 _ _ rfl (by kernel_rfl) (by kernel_rfl) rfl (.run rfl (Ae (v:=.int .i64 _) rfl)) ?_;refine E5.pure _ _ 6 _ _ rfl (by kernel_rfl) (by kernel_rfl) rfl (.run rfl (Ae (v:=.ptr _) rfl)) ?_;refine E5.pure _ _ 7 _ _ rfl (by kernel_rfl) (by kernel_rfl) rfl (.run rfl (B4 rfl)) ?_;refine E5.pure _ _ 8 _ _ rfl (by kernel_rfl) (by kernel_rfl) rfl (.run rfl (Ad (cs':=[_,.bool _]) Ai rfl rfl rfl rfl rfl rfl)) ?_;refine E5.pure _ _ 9 _ _ rfl (by kernel_rfl) (by kernel_rfl) rfl (.run rfl (Af (c:=.sl _ _) Ai rfl rfl rfl)) ?_;refine E5.pure _ _ 10 _ _ rfl (by kernel_rfl) (by kernel_rfl) rfl (.run rfl (Ae (v:=.int .i64 _) rfl)) ?_;refine E5.pure _ _ 11 _ _ rfl (by kernel_rfl) (by kernel_rfl) rfl (.run rfl (Am (c:=Ec (Fx L a)) Ai rfl rfl rfl rfl rfl rfl (by omega) (Co hla))) ?_;refine E5.pure _ _ 12 _ _ rfl (by kernel_rfl) (by kernel_rfl) rfl (.run rfl (Ah (l:=[.int .i64 _,.int .i64 _,.int .i64 _,.int .i64 _,_]) Ai rfl rfl rfl rfl rfl)) ?_;refine E5.pure _ _ 13 _ _ rfl (by kernel_rfl) (by kernel_rfl) rfl (.run rfl (Ak (by kernel_rfl) rfl rfl (c16 (Ie L s a) v (Fx L a) (fun l h=>Fp (Ow l h) hl) e hc))) ?_;refine E5.pure _ _ 14 _ _ rfl (by kernel_rfl) (by kernel_rfl) rfl (.run rfl (Ag (v:=.bool _) rfl)) ?_;refine E5.done _ _ (by kernel_rfl) ?_;refine Aa (AW.ret ?_);refine ⟨.inr rfl,[.bool _],.cons (.tmp _ _ rfl) <| .nil,.refl _,?_⟩;rfl
theorem zE (x y:Pr):Al Tryz.prog 223 [.agg (Ct x),.agg (Ct y)] (.int .i64 (jR x y)):=by
 refine Al.body (n:=10) Ai Tryz.func223 rfl rfl rfl fun H=>?_
 refine AW.seq (AW.region (AOL.Aag (Bt (v:=.agg _) (cs:=[.int .i64 _,.int .i64 _]) rfl rfl rfl) rfl (AOL.Aag (Bt (v:=.agg _) (cs:=[.int .i64 _,.int .i64 _]) rfl rfl rfl) rfl (AOL.Aag (Ag (v:=.int .i64 _) rfl) rfl (AOL.nil (Aa (AW.seq (AW.region (AOL.Aag (Ad (cs':=[.int .i64 _]) Ai rfl rfl rfl rfl rfl rfl) rfl (AOL.Aag (Af (c:=.int .i64 _) Ai rfl rfl rfl) rfl (AOL.Aag (Ad (cs':=[.int .i64 _]) Ai rfl rfl rfl rfl rfl rfl) rfl (AOL.Aag (Af (c:=.int .i64 _) Ai rfl rfl rfl) rfl (AOL.Aag (Up rfl rfl) rfl (AOL.Aag (Ag (v:=.int .i64 _) rfl) rfl (AOL.nil (Aa (AW.ret ?_)))))))))))))))));refine ⟨.inr rfl,[.int .i64 _],.cons (.tmp _ _ rfl) <| .nil,.refl _,?_⟩;rfl
theorem aX (bo cap:Nat)(J:List AV)(F:Nat)(hfn:Pe Tryz.prog F=true)(cmp:Pr->Pr->Int)(hf:∀x y:Pr,Al Tryz.prog F [.agg (Ct x),.agg (Ct y)] (.int .i64 (cmp x y)))(l:List Pr)(hl:l.length<=12):Lp Tryz.prog 245 bo 126 (Eo Ct l++J) (Eo Ct (Gt Jn (fun x y=>decide (cmp x y<0)) l)++J) [.val (.slice (some ⟨bo,0,none⟩) l.length cap),.int .i64 0,.int .i64 l.length,.fn (.func F) [] []] (.tuple []):=by
 intro H;refine Cb.body (n:=53) Ai Tryz.func245 rfl rfl rfl ?_;refine AW.ghostPost (AW.seq (AW.region (AOL.Aag (Ae (v:=.int .i64 _) rfl) rfl ?_)));refine AOL.Aag (Cc rfl rfl rfl (by constructor <;> omega)) rfl ?_;refine AOL.Aag (Ag (v:=.int .i64 _) rfl) rfl (AOL.nil (Aa (AW.block ?_)));refine AW.loopS (fun (p:Nat×List Pr)=>(⟨[(0,.val (.slice (some ⟨bo,0,none⟩) l.length cap)),(1,.int .i64 0),(2,.int .i64 l.length),(3,.fn (.func F) [] []),(8,.int .i64 (p.1:Int))],.box bo 126 (Eo Ct p.2++J)::H,53⟩:St)) (fun p=>1<=p.1/\p.2.length=l.length/\Jc Jn (fun x y=>decide (cmp x y<0)) (l.length-p.1) p.1 p.2=Gt Jn (fun x y=>decide (cmp x y<0)) l) (fun p=>l.length-p.1) ((1,l)) ?_ (GS.weaken ⟨rfl,rfl,rfl,rfl,rfl,trivial⟩ (.refl _)) ?_
 . exact ⟨Bi _,rfl,rfl⟩
 rintro p hR;refine AW.seq (AW.seq (AW.region (AOL.Aag (Ae (v:=.int .i64 _) rfl) rfl (AOL.Aag (Ae (v:=.int .i64 _) rfl) rfl (AOL.Aag (B9 rfl rfl) rfl (AOL.nil (Aa (AW.cond (b:=_) rfl (fun hc1=>?_) (fun hc1=>?_)))))))))
 .
  have hpi:=B2 hc1;refine AW.skip (Aa (AW.seq (AW.block (AW.seq (AW.region (AOL.Aag (Ae (v:=.int .i64 _) rfl) rfl (AOL.Aag (Ag (v:=.int .i64 _) rfl) rfl (AOL.nil (Aa (AW.block ?_))))))))));refine AW.loopS (fun (q:Nat×List Pr)=>(⟨[(0,.val (.slice (some ⟨bo,0,none⟩) l.length cap)),(1,.int .i64 0),(2,.int .i64 l.length),(3,.fn (.func F) [] []),(8,.int .i64 (p.1:Int)),(9,.int .i64 (q.1:Int))],.box bo 126 (Eo Ct q.2++J)::H,53⟩:St)) (fun q=>q.2.length=l.length/\q.1<l.length/\Gf Jn (fun x y=>decide (cmp x y<0)) q.1 q.2=Gf Jn (fun x y=>decide (cmp x y<0)) p.1 p.2) (fun q=>q.1) ((p.1,p.2)) ?_ (GS.weaken ⟨rfl,rfl,rfl,rfl,rfl,rfl,trivial⟩ (.refl _)) ?_
  . exact ⟨hR.2.1,by simp only;omega,rfl⟩
  rintro q hQ;have hql:=hQ.1;refine AW.seq (AW.seq ?_);refine AW.draw mixed (fun H'=>_∈H') (A0 (i:=0) rfl) (by kernel_rfl) ?_;refine E5.pure _ _ 0 _ _ rfl (by kernel_rfl) (by kernel_rfl) rfl (.run rfl (Ae (v:=.int .i64 _) rfl)) ?_;refine E5.pure _ _ 1 _ _ rfl (by kernel_rfl) (by kernel_rfl) rfl (.run rfl (Ae (v:=.int .i64 _) rfl)) ?_;refine E5.pure _ _ 2 _ _ rfl (by kernel_rfl) (by kernel_rfl) rfl (.run rfl (Gy rfl rfl)) ?_;refine E5.pure _ _ 3 _ _ rfl (by kernel_rfl) (by kernel_rfl) rfl (.run rfl (Ae (v:=.bool _) rfl)) ?_;refine E5.pure _ _ 4 _ _ rfl (by kernel_rfl) (by kernel_rfl) rfl (.opt _ (.fn _ _ _) [] rfl (Un.all trivial) (fun hG=>Ae (v:=.fn _ _ _) rfl) rfl) ?_;refine E5.pure _ _ 5 _ _ rfl (by kernel_rfl) (by kernel_rfl) rfl (.opt _ (.val _) [] rfl (Un.all trivial) (fun hG=>Ae (v:=.val _) rfl) rfl) ?_;refine E5.pure _ _ 6 _ _ rfl (by kernel_rfl) (by kernel_rfl) rfl (.opt _ (.int .i64 _) [] rfl (Un.all trivial) (fun hG=>Ae (v:=.int .i64 _) rfl) rfl) ?_;refine E5.pure _ _ 7 _ _ rfl (by kernel_rfl) (by kernel_rfl) rfl (.opt _ (.val _) [(23,_),(24,_)] rfl (Un.all ⟨Zs.self _ _,Zs.self _ _,trivial⟩) (fun hG=>A8 (o':=q.1*2) Ai rfl rfl rfl rfl rfl (by omega) (by omega) (by show 0+(q.1:Int).toNat*2=(q.1)*2;rw [show (q.1:Int).toNat=q.1 from by omega,Cg])) rfl) ?_;refine E5.pure _ _ 8 _ _ rfl (by kernel_rfl) (by kernel_rfl) rfl (.opt _ (.agg _) [(25,_)] rfl (Un.all ⟨Zs.self _ _,trivial⟩) (fun hG=>OpP.Aan (fun k=>Cf (k:=k) (l:=Ct ((q.2[q.1]?).getD Jn)) Ai rfl rfl rfl (flat_at (c:=Ct) (z:=2) Gp Jn J q.2 (q.1) (by omega)) rfl) (fun _ h=>h)) rfl) ?_;refine E5.pure _ _ 9 _ _ rfl (by kernel_rfl) (by kernel_rfl) rfl (.opt _ (.val _) [] rfl (Un.all trivial) (fun hG=>Ae (v:=.val _) rfl) rfl) ?_;refine E5.pure _ _ 10 _ _ rfl (by kernel_rfl) (by kernel_rfl) rfl (.opt _ (.int .i64 _) [] rfl (Un.all trivial) (fun hG=>Ae (v:=.int .i64 _) rfl) rfl) ?_;refine E5.pure _ _ 11 _ _ rfl (by kernel_rfl) (by kernel_rfl) rfl (.opt _ (.int .i64 _) [(28,_)] rfl (Un.all ⟨Zs.self _ _,trivial⟩) (fun hG=>Gj rfl rfl rfl (by constructor <;> omega)) rfl) ?_;refine E5.pure _ _ 12 _ _ rfl (by kernel_rfl) (by kernel_rfl) rfl (.opt _ (.val _) [(27,_),(29,_)] rfl (Un.all ⟨Zs.self _ _,Zs.self _ _,trivial⟩) (fun hG=>A8 (o':=(q.1-1)*2) Ai rfl rfl rfl rfl rfl (by have h9:=B2 (Ed hG);omega) (by have h9:=B2 (Ed hG);omega) (by have h9:=B2 (Ed hG);show 0+((q.1:Int)-1).toNat*2=(q.1-1)*2;rw [show ((q.1:Int)-1).toNat=q.1-1 from by omega,Cg])) rfl) ?_;refine E5.pure _ _ 13 _ _ rfl (by kernel_rfl) (by kernel_rfl) rfl (.opt _ (.agg _) [(30,_)] rfl (Un.all ⟨Zs.self _ _,trivial⟩) (fun hG=>OpP.Aan (fun k=>Cf (k:=k) (l:=Ct ((q.2[q.1-1]?).getD Jn)) Ai rfl rfl rfl (flat_at (c:=Ct) (z:=2) Gp Jn J q.2 (q.1-1) (by omega)) rfl) (fun _ h=>h)) rfl) ?_
  refine E5.pure _ _ 14 _ _ rfl (by kernel_rfl) (by kernel_rfl) rfl (.opt _ (.int .i64 _) [(26,_),(31,_),(22,_)] rfl (Un.all ⟨Zs.self _ _,Zs.self _ _,Zs.self _ _,trivial⟩) (fun hG=>Fy hfn rfl rfl rfl (hf _ _)) rfl) ?_;refine E5.pure _ _ 15 _ _ rfl (by kernel_rfl) (by kernel_rfl) rfl (.opt _ (.bool _) [(32,_)] rfl (Un.all ⟨Zs.self _ _,trivial⟩) (fun hG=>B9 rfl rfl) rfl) ?_;refine E5.pure _ _ 16 _ _ rfl (by kernel_rfl) (by kernel_rfl) rfl (.run rfl (Bc rfl rfl rfl)) ?_;refine E5.done _ _ (by kernel_rfl) ?_;refine Aa (AW.cond (b:=_) rfl (fun hc2=>?_) (fun hc2=>?_))
  .
   have hj0:0<q.1:=by rw [Cq] at hc2;have:=B2 hc2.1;omega
   have hlt:(fun x y=>decide (cmp x y<0)) ((q.2[q.1]?).getD Jn) ((q.2[q.1-1]?).getD Jn)=true:=by rw [Cq] at hc2;exact hc2.2
   refine AW.skip (Aa (AW.seq (AW.block ?_)));refine AW.drawI mixed (fun j H'=>(j==9||j==13)=true->_∈H') (fun _ _=>(A0 (i:=0) rfl)) (by kernel_rfl) ?_;refine CanonI.pure _ _ 0 _ _ rfl (by kernel_rfl) (by kernel_rfl) rfl (.run rfl (Ae (v:=.val _) rfl)) ?_;refine CanonI.pure _ _ 1 _ _ rfl (by kernel_rfl) (by kernel_rfl) rfl (.run rfl (Ae (v:=.int .i64 _) rfl)) ?_;refine CanonI.pure _ _ 2 _ _ rfl (by kernel_rfl) (by kernel_rfl) rfl (.run rfl (Ae (v:=.val _) rfl)) ?_;refine CanonI.pure _ _ 3 _ _ rfl (by kernel_rfl) (by kernel_rfl) rfl (.run rfl (Ae (v:=.int .i64 _) rfl)) ?_;refine CanonI.pure _ _ 4 _ _ rfl (by kernel_rfl) (by kernel_rfl) rfl (.run rfl (Gj rfl rfl rfl (by constructor <;> omega))) ?_;refine CanonI.pure _ _ 5 _ _ rfl (by kernel_rfl) (by kernel_rfl) rfl (.run rfl (Ae (v:=.val _) rfl)) ?_;refine CanonI.pure _ _ 6 _ _ rfl (by kernel_rfl) (by kernel_rfl) rfl (.run rfl (Ae (v:=.int .i64 _) rfl)) ?_;refine CanonI.pure _ _ 7 _ _ rfl (by kernel_rfl) (by kernel_rfl) rfl (.run rfl (Gj rfl rfl rfl (by constructor <;> omega))) ?_;refine CanonI.pure _ _ 8 _ _ rfl (by kernel_rfl) (by kernel_rfl) rfl (.run rfl (A8 (o':=(q.1-1)*2) Ai rfl rfl rfl rfl rfl (by omega) (by omega) (by show 0+((q.1:Int)-1).toNat*2=(q.1-1)*2;rw [show ((q.1:Int)-1).toNat=q.1-1 from by omega,Cg]))) ?_;refine CanonI.pure _ _ 9 _ _ rfl (by kernel_rfl) (by kernel_rfl) rfl (.run rfl (OpP.Aan (fun k=>Cf (k:=k) (l:=Ct ((q.2[q.1-1]?).getD Jn)) Ai rfl rfl rfl (flat_at (c:=Ct) (z:=2) Gp Jn J q.2 (q.1-1) (by omega)) rfl) (fun _ h=>h rfl))) ?_;refine CanonI.pure _ _ 10 _ _ rfl (by kernel_rfl) (by kernel_rfl) rfl (.run rfl (Ae (v:=.val _) rfl)) ?_;refine CanonI.pure _ _ 11 _ _ rfl (by kernel_rfl) (by kernel_rfl) rfl (.run rfl (Ae (v:=.int .i64 _) rfl)) ?_;refine CanonI.pure _ _ 12 _ _ rfl (by kernel_rfl) (by kernel_rfl) rfl (.run rfl (A8 (o':=q.1*2) Ai rfl rfl rfl rfl rfl (by omega) (by omega) (by show 0+(q.1:Int).toNat*2=(q.1)*2;rw [show (q.1:Int).toNat=q.1 from by omega,Cg]))) ?_;refine CanonI.pure _ _ 13 _ _ rfl (by kernel_rfl) (by kernel_rfl) rfl (.run rfl (OpP.Aan (fun k=>Cf (k:=k) (l:=Ct ((q.2[q.1]?).getD Jn)) Ai rfl rfl rfl (flat_at (c:=Ct) (z:=2) Gp Jn J q.2 (q.1) (by omega)) rfl) (fun _ h=>h rfl))) ?_;refine CanonI.pure _ _ 14 _ _ rfl (by kernel_rfl) (by kernel_rfl) rfl (.run rfl (A8 (o':=q.1*2) Ai rfl rfl rfl rfl rfl (by omega) (by omega) (by show 0+(q.1:Int).toNat*2=(q.1)*2;rw [show (q.1:Int).toNat=q.1 from by omega,Cg]))) ?_;refine CanonI.phase (fun _ _=>True) _ _ 15 _ _ rfl (by kernel_rfl) rfl rfl (Ao (k:=0) (v:=.agg _) (cs':=_) (H2:=_::_) Ai rfl rfl rfl rfl rfl rfl (Kz (c:=Ct) (z:=2) Gp J (by first | omega | (simp only [Hr];omega))) (G2 (c:=Ct) (z:=2) Gp J _ _ (q.1) (by first | omega | (simp only [Hr];omega))) rfl) (fun j _ _ hr _ _ hj=>?_) (fun _ _ _ _=>trivial) ?_
   .
    rcases (by simpa only [Ek,beq_iff_eq,or_assoc] using hj:j=9\/j=13) with rfl | rfl
    . exact Bool.noConfusion ((show Hk _ 7 _ 9=true by kernel_rfl).symm.trans hr)
    exact Bool.noConfusion ((show Hk _ 7 _ 13=true by kernel_rfl).symm.trans hr)
   rintro _ _ ⟨rfl,rfl⟩;refine CanonI.pure _ _ 16 _ _ rfl (by kernel_rfl) (by kernel_rfl) rfl (.run rfl (A8 (o':=(q.1-1)*2) Ai rfl rfl rfl rfl rfl (by omega) (by omega) (by show 0+((q.1:Int)-1).toNat*2=(q.1-1)*2;rw [show ((q.1:Int)-1).toNat=q.1-1 from by omega,Cg]))) ?_;refine CanonI.eff _ _ 17 _ _ rfl (by kernel_rfl) rfl rfl (Ao (k:=0) (v:=.agg _) (cs':=_) (H2:=_::_) Ai rfl rfl rfl rfl rfl rfl (Kz (c:=Ct) (z:=2) Gp J (by first | omega | (simp only [Hr];omega))) (G2 (c:=Ct) (z:=2) Gp J _ _ (q.1-1) (by first | omega | (simp only [Hr];omega))) rfl) (fun _ _ _ _=>trivial) ?_;rintro _ _ ⟨rfl,rfl⟩;refine CanonI.done _ _ (by kernel_rfl) ?_;refine C9 (Aa (AW.region (AOL.Aag (Ae (v:=.int .i64 _) rfl) rfl ?_)));refine AOL.Aag (Gj rfl rfl rfl (by constructor <;> omega)) rfl ?_;refine AOL.Aag (Ag (v:=.int .i64 _) rfl) rfl (AOL.nil (Aa ?_));refine ⟨(q.1-1,vG Jn q.2 q.1),?_,?_,GS.trans (GS.cellsTo (H2:=_::_) 0 rfl ((by first | rfl | exact congrArg (fun x=>Eo Ct x++J) (List.set_comm _ _ (by omega)))) rfl) (GS.weaken ⟨rfl,rfl,rfl,rfl,rfl,congrArg (AV.int .i64) (by simp only;omega),trivial⟩ (.refl _))⟩
   . exact ⟨by rw [Zp];exact hQ.1,by simp only;omega,by rw [<-hQ.2.2,Pu hj0 hlt]⟩
   simp only;omega
  have hin:Gf Jn (fun x y=>decide (cmp x y<0)) q.1 q.2=q.2:=Pv fun h0=>by rw [M7] at hc2;exact hc2.resolve_left (by rw [G7 (by omega)];decide)
  refine AW.exit ?_;refine A1 (A1 (Cd (C9 (Aa (AW.region ?_)))));refine AOL.Aag (Ae (v:=.int .i64 _) rfl) rfl ?_;refine AOL.Aag (Cc rfl rfl rfl (by constructor <;> omega)) rfl ?_;refine AOL.Aag (Ag (v:=.int .i64 _) rfl) rfl (AOL.nil (Aa ?_));refine ⟨(p.1+1,q.2),?_,?_,GS.weaken ⟨rfl,rfl,rfl,rfl,rfl,trivial⟩ (.refl _)⟩
  . exact ⟨by simp only;omega,hQ.1,by simp only;rw [<-hR.2.2];rw [Pz (l:=p.2) (i:=p.1) (by omega),<-hQ.2.2,hin]⟩
  simp only;omega
 have hpi:=C7 hc1;have hend:=hR.2.2;rw [P0 (by omega)] at hend;refine AW.exit ?_;refine A1 (A1 (Cd ?_));refine ⟨_,GS.cellsTo (H2:=_::_) 0 rfl ((congrArg (fun x=>Eo Ct x++J) hend)) rfl,.inl rfl,[],.nil,_,.refl _,?_⟩;exact ⟨rfl,rfl⟩
theorem aZ (bo cap:Nat)(J:List AV)(F:Nat)(hfn:Pe Tryz.prog F=true)(cmp:Pr->Pr->Int)(hf:∀x y:Pr,Al Tryz.prog F [.agg (Ct x),.agg (Ct y)] (.int .i64 (cmp x y)))(l:List Pr)(hl:l.length<=12)(n:Int):Lp Tryz.prog 237 bo 126 (Eo Ct l++J) (Eo Ct (Gt Jn (fun x y=>decide (cmp x y<0)) l)++J) [.val (.slice (some ⟨bo,0,none⟩) l.length cap),.int .i64 0,.int .i64 l.length,.int .i64 n,.fn (.func F) [] []] (.tuple []):=by
 intro H;refine Cb.body (n:=148) Ai Tryz.func237 rfl rfl rfl ?_;refine AW.seq (AW.region (AOL.Aag (Ag (v:=.bool _) rfl) rfl (AOL.nil (Aa (AW.seq (AW.region (AOL.Aag (Ag (v:=.bool _) rfl) rfl (AOL.nil (Aa (AW.block ?_))))))))));refine AW.loopS (fun (_:Unit)=>(⟨[(0,.val (.slice (some ⟨bo,0,none⟩) l.length cap)),(1,.int .i64 0),(2,.int .i64 l.length),(4,.fn (.func F) [] [])],.box bo 126 (Eo Ct l++J)::H,148⟩:St)) (fun _=>True) (fun _=>0) (()) ?_ (GS.weaken ⟨rfl,rfl,rfl,rfl,trivial⟩ (.refl _)) ?_
 . trivial
 rintro _ _;refine AW.block (AW.seq (AW.region (AOL.Aag (Ae (v:=.int .i64 _) rfl) rfl (AOL.Aag (Ae (v:=.int .i64 _) rfl) rfl ?_))));refine AOL.Aag (Gj rfl rfl rfl (by constructor <;> omega)) rfl ?_;refine AOL.Aag (Ag (v:=.int .i64 _) rfl) rfl (AOL.nil (Aa (AW.seq (AW.seq (AW.region (AOL.Aag (Ae (v:=.int .i64 _) rfl) rfl (AOL.Aag (I8 rfl rfl) rfl (AOL.nil (Aa (AW.cond (b:=_) rfl (fun hc1=>AW.seq (AW.region (AOL.Aag (Ae (v:=.val _) rfl) rfl (AOL.Aag (Ae (v:=.int .i64 _) rfl) rfl (AOL.Aag (Ae (v:=.int .i64 _) rfl) rfl (AOL.Aag (Ae (v:=.fn _ _ _) rfl) rfl ?_)))))) (fun hc1=>?_)))))))))))
 .
  refine AOL.e (C2 (by kernel_rfl) rfl rfl ((aX bo cap J F hfn cmp hf l hl).at (k:=0) (H2:=_::_) rfl rfl)) rfl ?_;rintro _ _ ⟨rfl,rfl⟩;refine AOL.nil (Aa (AW.ret (Ap (Cn (Ap (Cn ?_))))));refine ⟨.inr rfl,[],.nil,_,.refl _,?_⟩;exact ⟨rfl,rfl⟩
 have:=C7 hc1;omega
theorem aW (bo cap:Nat)(J:List AV)(F:Nat)(hfn:Pe Tryz.prog F=true)(cmp:Pr->Pr->Int)(hf:∀x y:Pr,Al Tryz.prog F [.agg (Ct x),.agg (Ct y)] (.int .i64 (cmp x y)))(l:List Pr)(hl:l.length<=12):Lp Tryz.prog 222 bo 126 (Eo Ct l++J) (Eo Ct (Gt Jn (fun x y=>decide (cmp x y<0)) l)++J) [.val (.slice (some ⟨bo,0,none⟩) l.length cap),.fn (.func F) [] []] (.tuple []):=by
 intro H;refine Cb.body (n:=14) Ai Tryz.func222 rfl rfl rfl ?_;refine AW.seq (AW.region (AOL.Aag (Ae (v:=.val _) rfl) rfl (AOL.Aag (E6 Ai rfl rfl rfl) rfl (AOL.Aag (Ag (v:=.int .i64 _) rfl) rfl (AOL.nil (Aa (AW.region (AOL.Aag (Ae (v:=.val _) rfl) rfl (AOL.Aag (Ae (v:=.int .i64 _) rfl) rfl (AOL.Aag (Ae (v:=.int .i64 _) rfl) rfl ?_))))))))));refine AOL.Aag (I6 (m:=(l.length:Int)) Ai rfl rfl rfl rfl rfl (by rcases oE hl with h | h | h | h | h | h | h | h | h | h | h | h | h <;> (rw [h];rfl))) rfl ?_;refine AOL.Aag (Ak (by kernel_rfl) rfl rfl (Vo l.length hl)) rfl ?_;refine AOL.Aag (Ae (v:=.fn _ _ _) rfl) rfl ?_;refine AOL.e (C2 (by kernel_rfl) rfl rfl ((aZ bo cap J F hfn cmp hf l hl _).at (k:=0) (H2:=_::_) rfl rfl)) rfl ?_;rintro _ _ ⟨rfl,rfl⟩;refine AOL.nil ?_;refine ⟨.inl rfl,[],.nil,_,.refl _,?_⟩;exact ⟨rfl,rfl⟩
theorem Yi (F:Nat):Al Tryz.prog 245 [.val (.slice none 0 0),.int .i64 0,.int .i64 0,.fn (.func F) [] []] (.tuple []):=by
 refine Al.body (n:=53) Ai Tryz.func245 rfl rfl rfl fun H=>?_
 refine AW.seq (AW.region (AOL.Aag (Ae (v:=.int .i64 _) rfl) rfl ?_));refine AOL.Aag (Cc rfl rfl rfl (by constructor <;> omega)) rfl ?_;refine AOL.Aag (Ag (v:=.int .i64 _) rfl) rfl (AOL.nil (Aa (AW.block ?_)));refine AW.loopS (fun (_:Unit)=>(⟨[(2,.int .i64 0),(8,.int .i64 1)],H,53⟩:St)) (fun _=>True) (fun _=>0) (()) ?_ (GS.weaken ⟨rfl,rfl,trivial⟩ (.refl _)) ?_
 . trivial
 rintro _ _;refine AW.seq (AW.seq (AW.region (AOL.Aag (Ae (v:=.int .i64 _) rfl) rfl (AOL.Aag (Ae (v:=.int .i64 _) rfl) rfl (AOL.Aag (B9 rfl rfl) rfl (AOL.nil (Aa (AW.cond (b:=_) rfl (fun hc1=>?_) (fun hc1=>AW.exit ?_)))))))))
 . cases hc1
 refine A1 (A1 (Cd ?_));refine ⟨.inl rfl,[],.nil,.refl _,?_⟩;rfl
theorem Yj (F:Nat)(n:Int):Al Tryz.prog 237 [.val (.slice none 0 0),.int .i64 0,.int .i64 0,.int .i64 n,.fn (.func F) [] []] (.tuple []):=by
 refine Al.body (n:=148) Ai Tryz.func237 rfl rfl rfl fun H=>?_
 refine AW.seq (AW.region (AOL.Aag (Ag (v:=.bool _) rfl) rfl (AOL.nil (Aa (AW.seq (AW.region (AOL.Aag (Ag (v:=.bool _) rfl) rfl (AOL.nil (Aa (AW.block ?_))))))))));refine AW.loopS (fun (_:Unit)=>(⟨[(0,.val (.slice none 0 0)),(1,.int .i64 0),(2,.int .i64 0),(4,.fn (.func F) [] [])],H,148⟩:St)) (fun _=>True) (fun _=>0) (()) ?_ (GS.weaken ⟨rfl,rfl,rfl,rfl,trivial⟩ (.refl _)) ?_
 . trivial
 rintro _ _;refine AW.block (AW.seq (AW.region (AOL.Aag (Ae (v:=.int .i64 _) rfl) rfl (AOL.Aag (Ae (v:=.int .i64 _) rfl) rfl ?_))));refine AOL.Aag (Gj rfl rfl rfl (by constructor <;> omega)) rfl ?_;refine AOL.Aag (Ag (v:=.int .i64 _) rfl) rfl (AOL.nil (Aa (AW.seq (AW.seq (AW.region (AOL.Aag (Ae (v:=.int .i64 _) rfl) rfl (AOL.Aag (I8 rfl rfl) rfl (AOL.nil (Aa (AW.cond (b:=_) rfl (fun hc1=>AW.seq (AW.region (AOL.Aag (Ae (v:=.val _) rfl) rfl (AOL.Aag (Ae (v:=.int .i64 _) rfl) rfl (AOL.Aag (Ae (v:=.int .i64 _) rfl) rfl (AOL.Aag (Ae (v:=.fn _ _ _) rfl) rfl ?_)))))) (fun hc1=>?_)))))))))))
 .
  refine AOL.Aag (Ak (by kernel_rfl) rfl rfl (Yi F)) rfl ?_;refine AOL.nil (Aa (AW.ret (Ap (Cn (Ap (Cn ?_))))));refine ⟨.inr rfl,[],.nil,.refl _,?_⟩;rfl
 cases hc1
theorem aY (F:Nat):Al Tryz.prog 222 [.val (.slice none 0 0),.fn (.func F) [] []] (.tuple []):=by
 refine Al.body (n:=14) Ai Tryz.func222 rfl rfl rfl fun H=>?_
 refine AW.seq (AW.region (AOL.Aag (Ae (v:=.val _) rfl) rfl (AOL.Aag (E6 Ai rfl rfl rfl) rfl (AOL.Aag (Ag (v:=.int .i64 _) rfl) rfl (AOL.nil (Aa (AW.region (AOL.Aag (Ae (v:=.val _) rfl) rfl (AOL.Aag (Ae (v:=.int .i64 _) rfl) rfl (AOL.Aag (Ae (v:=.int .i64 _) rfl) rfl (AOL.Aag (I6 (m:=((0:Nat):Int)) Ai rfl rfl rfl rfl rfl (rfl)) rfl ?_)))))))))));refine AOL.Aag (Ak (by kernel_rfl) rfl rfl (Vo 0 (by omega))) rfl ?_;refine AOL.Aag (Ae (v:=.fn _ _ _) rfl) rfl ?_;refine AOL.Aag (Ak (by kernel_rfl) rfl rfl (Yj F _)) rfl ?_;refine AOL.nil ?_;refine ⟨.inl rfl,[],.nil,.refl _,?_⟩;rfl
theorem tO (F:Nat)(hfn:Pe Tryz.prog F=true)(cmp:Pr->Pr->Int)(hf:∀x y:Pr,Al Tryz.prog F [.agg (Ct x),.agg (Ct y)] (.int .i64 (cmp x y)))(l:List Pr)(hl:l.length<=12)(v:Value)(H:List HO) :
  Cb Tryz.prog 222 (.buf v (l.map Ct) 126 2::H) [.val v,.fn (.func F) [] []] (fun r H'=>r = .tuple []/\H' = .buf v ((Gt Jn (fun x y=>decide (cmp x y<0)) l).map Ct) 126 2::H):=by
 refine Cb.buf ?_ ?_
 .
  rintro rfl he;have hl0:l = []:=by simpa using he
  subst hl0;exact Cb.ofPure' (aY F) ⟨rfl,rfl⟩
 rintro b cap J rfl hc;rw [B1];refine ((aW b cap J F hfn cmp hf l hl) H).mono' ?_;rintro r H' ⟨rfl,rfl⟩;refine ⟨(Gt Jn (fun x y=>decide (cmp x y<0)) l).map Ct,rfl,?_,?_,rfl,rfl⟩
 . rw [B1,Rw]
 intro e he;obtain ⟨x,_,rfl⟩:=B7.1 he;rfl
theorem jG {P:Program}{T:List (Nat×TD)}{d:Option Nat}{ty:TypeId}{pos:String}{aft:Array Edge}{gd:Option (Nat×Bool)}{ρ:Operand->AV}{t e z n:Nat}{x y:Operand}{kl kc:IntKind}{td te:TD}{H:List HO}(hT:G9 P T)(ht:Bp T t=some td)(hk:td.kind = .slice e)(hte:Bp T e=some te)(hz:te.size=z)
  (hx:ρ x = .int kl 0) (hy:ρ y = .int kc n) (hb:te.bytes*n<=281474976710656) (hm:n<=maxLen) :
  Jj P ⟨d,.makeSlice t x y,ty,pos,aft,gd⟩ ρ H (fun r H'=>∃v,r = .val v/\H' = .buf v [] e z::H):=by
 intro g w a next Q hr hH hn
 have h1:=(hx▸hr x (by simp [Op.operands]):Rep g w _ _).inv_int;have h2:=(hy▸hr y (by simp [Op.operands]):Rep g w _ _).inv_int;have hu:=Dc (hT t td ht) hk;obtain ⟨it,hit,his,hib,zv,hzv,hzs,hzr⟩:=(hT e te hte).info
 have h63:(n:Int)<=9223372036854775807:=by
  have h8:maxLen<=9223372036854775807:=by decide
  omega
 have hb':(it.bytes:Int)*(n:Int)<=281474976710656:=by
  have h9:((te.bytes*n:Nat):Int)<=281474976710656:=by omega
  rw [Int.natCast_mul] at h9;rw [hib];exact h9
 have hrun:=run_make (P:=P) w t e it zv hu hit hzv kl kc 0 n (by omega) (by omega) hb' h63;simp only [Jy] at hrun;unfold Oper.wp;simp only [execOp,h1,h2,Sem.run_bind,hrun,Result.andThen_ok,Sem.run_pure];have hxx:=Ext.alloc g w (.cells (madeCells zv.cells (n*it.size)) e) (some 0);refine hn (g.put w.heap.size (some 0)) _ _ _ _ ⟨_,rfl,rfl⟩ (.val _) ((hH.alloc _ (some 0)).cons (.inr ⟨w.heap.size,n,_,rfl,Gh.Aai _ _ _,Ci w _,by rw [size_madeCells,his,hz],Bn _,hm,by simp,fun i x hi=>by simp at hi⟩) fun b hb x hx' hb'=>?_) hxx;have h8:=(HO.ok_lt (hH.ok x hx') hb').1;have h9:some w.heap.size=some b:=hb
 injection h9 with h9
 omega
theorem qG (s t:List Pr)(hl:s.length+t.length<=12):Al Tryz.prog 193 [.sl 2 (s.map Ct),.sl 2 (t.map Ct)] (.sl 2 ((Ch s t).map Ct)):=by
 refine Al.body (n:=19) Ai Tryz.func193 rfl rfl rfl fun H=>?_
 refine AW.seq (AW.region (AOL.Aag (Dg (z:=2) rfl) rfl (AOL.nil (Aa (AW.seq (AW.region (AOL.Aag (Ae (v:=.sl _ _) rfl) rfl ?_)))))));refine AOL.Aag (Av (n:=s.length) Ai rfl rfl rfl (by simp)) rfl ?_;refine AOL.Aag (Ae (v:=.sl _ _) rfl) rfl ?_;refine AOL.Aag (Av (n:=t.length) Ai rfl rfl rfl (by simp)) rfl ?_;refine AOL.Aag (Cc rfl rfl rfl (by constructor <;> omega)) rfl ?_;refine AOL.e (jG (n:=s.length+t.length) Ai rfl rfl rfl rfl rfl rfl (by show 16*(s.length+t.length)<=_;omega) (by simp [maxLen];omega)) rfl ?_;rintro _ _ ⟨v11,rfl,rfl⟩;refine AOL.Aag (Ae (v:=.sl _ _) rfl) rfl ?_;refine AOL.e (Lo (k:=0) Ai rfl rfl rfl rfl rfl rfl rfl rfl (scPr _) (by simp;omega) (by simp [maxLen];omega)) rfl ?_;rintro _ _ ⟨v13,rfl,rfl⟩;refine AOL.Aag (Ae (v:=.sl _ _) rfl) rfl ?_;refine AOL.e (Lo (k:=0) Ai rfl rfl rfl rfl rfl rfl rfl rfl (scPr _) (by simp;omega) (by simp [maxLen];omega)) rfl ?_;rintro _ _ ⟨v15,rfl,rfl⟩;refine AOL.Aag (Ag (v:=.val _) rfl) rfl ?_;refine AOL.ghost (GS.heapTo (H2:=_::_) (congrArg (fun l:List (List AV)=>HO.buf v15 l 126 2::H) (vK s t))) ?_;refine AOL.nil (Aa (AW.seq (AW.region (AOL.Aag (Ae (v:=.val _) rfl) rfl ?_))));refine AOL.e (C2 (by kernel_rfl) rfl rfl (tO 223 (by kernel_rfl) jR zE (s++t) (by rw [Do];omega) _ _)) rfl ?_;rintro _ _ ⟨rfl,rfl⟩;refine AOL.nil (Aa (AW.seq (AW.region (AOL.Aag (Ae (v:=.val _) rfl) rfl ?_))));refine AOL.ghost (GS.freezeBuf (t:=18) 0 rfl rfl) ?_;refine AOL.Aag (Ag (v:=.sl _ _) rfl) rfl (AOL.nil (Aa (AW.ret ?_)));refine ⟨.inr rfl,[.sl _ _],.cons (.tmp _ _ rfl) <| .nil,.refl _,?_⟩;rfl
theorem s_last (s:List Pr)(h0:0<s.length)(h1:s.length<=1048576):Al Tryz.prog 194 [.sl 2 (s.map Ct)] (.int .i64 ((lasP s:Nat):Int)):=by
 refine Al.body (n:=10) Ai Tryz.func194 rfl rfl rfl fun H=>?_
 refine AW.seq (AW.region (AOL.Aag (Ag (v:=.int .i64 _) rfl) rfl (AOL.nil (Aa (AW.seq (AW.region (AOL.Aag (Ae (v:=.sl _ _) rfl) rfl (AOL.Aag (Ae (v:=.sl _ _) rfl) rfl ?_))))))));refine AOL.Aag (Av (n:=s.length) Ai rfl rfl rfl (by simp)) rfl ?_;refine AOL.Aag (Gj rfl rfl rfl (by constructor <;> omega)) rfl ?_;refine AOL.Aag (Am (c:=Ct ((s[s.length-1]?).getD Jn)) Ai rfl rfl rfl rfl rfl rfl (by omega) (Yu h0)) rfl ?_;refine AOL.Aag (Ad (cs':=[.int .i64 _]) Ai rfl rfl rfl rfl rfl rfl) rfl (AOL.Aag (Af (c:=.int .i64 _) Ai rfl rfl rfl) rfl (AOL.Aag (Ag (v:=.int .i64 _) rfl) rfl (AOL.nil (Aa (AW.ret ?_)))));refine ⟨.inr rfl,[.int .i64 _],.cons (.tmp _ _ rfl) <| .nil,.refl _,?_⟩;rfl
def dg (n:Int):UInt8:=UInt8.ofNat (48+n.toNat)
theorem qR:∀k:Fin 10,([48,49,50,51,52,53,54,55,56,57,97,98,99,100,101,102,103,104,105,106,107,108,109,110,111,112,113,114,115,116,117,118,119,120,121,122].take (k.1+1) |>.drop k.1) = [dg (k.1:Int)]:=by decide
theorem qQ {n:Int}(h0:0<=n)(h1:n<10):([48,49,50,51,52,53,54,55,56,57,97,98,99,100,101,102,103,104,105,106,107,108,109,110,111,112,113,114,115,116,117,118,119,120,121,122].take (n.toNat+1) |>.drop n.toNat) = [dg n]:=by
 have h:=qR ⟨n.toNat,by omega⟩;simp only [Int.toNat_of_nonneg h0] at h;exact h
theorem tn1 {n:Int}(h0:0<=n):n+1=((n.toNat+1:Nat):Int):=by omega
theorem Xr {a b:List (List AV)}(ha:∀c∈a,Bm c=true)(hb:∀c∈b,Bm c=true):∀c∈a++b,Bm c=true:=fun c hc=>(Da.1 hc).elim (ha c) (hb c)
theorem w_i {n:Int}(h0:0<=n)(h1:n<10):IntKind.wrap .i64 n=n:=by
 have h:=i64_in (n:=n.toNat) (by omega)
 rwa [Int.toNat_of_nonneg h0] at h
theorem w_u {n:Int}(h0:0<=n)(h1:n<10):IntKind.wrap .u64 n=n:=by
 have h:=rF (n:=n.toNat) (by omega)
 rwa [Int.toNat_of_nonneg h0] at h
def keyX (x:Pr):List UInt8:=[dg x.v,64,dg x.a,32]
def Lr (s:List Pr):List UInt8:=s.flatMap keyX
theorem bK (s:List Pr):(Lr s).length=s.length*4:=by
 induction s with
 | nil=>rfl
 | cons x s ih=>show (keyX x++Lr s).length=_;rw [Do,ih,Eb];show 4+_=_;omega
theorem kG {s:List Pr}{k:Nat}{x:Pr}(h:s[k]? = some x):Ou (Lr (s.take (k+1)))=((Ou (Lr (s.take k))++Ou [dg x.v]) ++ [[.int .u8 64]]++Ou [dg x.a]) ++ [[.int .u8 32]]:=by
 rw [M6,h];unfold Lr;rw [Nc,sK];simp only [Option.toList_some,G8,List.flatMap_nil,H1,Cs];rfl
def eB (s:List Pr):Prop:=∀x∈s,0<=x.v/\x.v<10/\x.a<10
theorem tN (n:Int)(h0:0<=n)(h1:n<10):Al Tryz.prog 227 [.int .i64 n] (.str [dg n]):=by
 refine Al.body (n:=15) Ai Tryz.func227 rfl rfl rfl fun H=>?_
 refine AW.seq (AW.region (AOL.Aag (Ag (v:=.str _) rfl) rfl (AOL.nil (Aa (AW.seq (AW.seq (AW.region (AOL.Aag (Ae (v:=.int .i64 _) rfl) rfl (AOL.Aag (B9 rfl rfl) rfl (AOL.nil (Aa (AW.cond (b:=_) rfl (fun hc1=>AW.seq (AW.region (AOL.Aag (Ae (v:=.int .i64 _) rfl) rfl (AOL.Aag (Ae (v:=.int .i64 _) rfl) rfl ?_)))) (fun hc1=>?_)))))))))))))
 .
  refine AOL.Aag (Cc rfl rfl rfl (by constructor <;> omega)) rfl ?_;refine AOL.Aag (Zz (l:=n.toNat) (h:=n.toNat+1) Ai rfl rfl rfl (⟨.i64,congrArg (AV.int .i64) (Int.toNat_of_nonneg h0).symm⟩) (⟨.i64,congrArg (AV.int .i64) (tn1 h0)⟩) (by omega) (by show n.toNat+1<=36;omega) (qQ h0 h1)) rfl ?_;refine AOL.Aag (Ag (v:=.str _) rfl) rfl (AOL.nil (Aa (AW.ret (Ap ?_))));refine ⟨.inr rfl,[.str _],.cons (.tmp _ _ rfl) <| .nil,.refl _,?_⟩;rfl
 have h9:=C7 hc1;omega
theorem zA (n:Int)(h0:0<=n)(h1:n<10)(es:List (List AV))(hes:∀c∈es,Bm c=true)(hl:es.length<=4096)(v:Value)(H:List HO):Cb Tryz.prog 197 (.row v es.length 5 1::H) [.row v 1 es,.int .u64 n,.int .i64 10] (fun r H'=>∃v',r = .row v' 1 (es++Ou [dg n])/\H' = .row v' (es++Ou [dg n]).length 5 1::H):=by
 refine Cb.body (n:=36) Ai Tryz.func197 rfl rfl rfl ?_;refine AW.seq (AW.region (AOL.Aag (Dg (z:=1) rfl) rfl (AOL.nil (Aa (AW.seq (AW.seq (AW.region (AOL.Aag (Ae (v:=.int .i64 _) rfl) rfl (AOL.Aag (Ez rfl rfl) rfl (AOL.nil (Aa (AW.cond (b:=_) rfl (fun hc1=>AW.seq (AW.seq (AW.region (AOL.Aag (Ae (v:=.int .u64 _) rfl) rfl (AOL.Aag (B9 rfl rfl) rfl (AOL.nil (Aa (AW.cond (b:=_) rfl (fun hc2=>AW.seq (AW.region (AOL.Aag (Ae (v:=.row _ _ _) rfl) rfl (AOL.Aag (Ae (v:=.int .u64 _) rfl) rfl (AOL.Aag (I6 (m:=n) Ai rfl rfl rfl rfl rfl (w_i h0 h1)) rfl ?_))))) (fun hc2=>?_))))))))) (fun hc1=>?_)))))))))))))
 .
  refine AOL.Aag (Ak (by kernel_rfl) rfl rfl (tN n h0 h1)) rfl ?_;refine AOL.e (Zu (k:=0) Ai rfl rfl rfl rfl Tryz.underlying9 rfl rfl rfl rfl (hes) (by show es.length+1<=_;omega)) rfl ?_;rintro _ _ ⟨v17,rfl,rfl⟩;refine AOL.Aag (Ag (v:=.row _ _ _) rfl) rfl (AOL.nil (Aa (AW.ret (Ap (Ap ?_)))));refine ⟨.inr rfl,[.row _ _ _],.cons (.tmp _ _ rfl) <| .nil,_,.refl _,?_⟩;exact ⟨_,rfl,rfl⟩
 . have h9:=C7 hc2;omega
 cases hc1
theorem yZ (n:Int)(h0:0<=n)(h1:n<10)(es:List (List AV))(hes:∀c∈es,Bm c=true)(hl:es.length<=4096)(v:Value)(H:List HO):Cb Tryz.prog 178 (.row v es.length 5 1::H) [.row v 1 es,.int .i64 n,.int .i64 10] (fun r H'=>∃v',r = .row v' 1 (es++Ou [dg n])/\H' = .row v' (es++Ou [dg n]).length 5 1::H):=by
 refine Cb.body (n:=21) Ai Tryz.func178 rfl rfl rfl ?_;refine AW.seq (AW.region (AOL.Aag (Dg (z:=1) rfl) rfl (AOL.nil (Aa (AW.seq (AW.region (AOL.Aag (Ae (v:=.int .i64 _) rfl) rfl (AOL.Aag (I6 (m:=n) Ai rfl rfl rfl rfl rfl (w_u h0 h1)) rfl (AOL.Aag (Ag (v:=.int .u64 _) rfl) rfl (AOL.nil (Aa (AW.seq (AW.seq (AW.region (AOL.Aag (Ae (v:=.int .i64 _) rfl) rfl (AOL.Aag (B9 rfl rfl) rfl (AOL.nil (Aa (AW.cond (b:=_) rfl (fun hc1=>?_) (fun hc1=>AW.skip (Aa (AW.seq (AW.region (AOL.Aag (Ae (v:=.row _ _ _) rfl) rfl (AOL.Aag (Ae (v:=.int .u64 _) rfl) rfl (AOL.Aag (Ae (v:=.int .i64 _) rfl) rfl ?_))))))))))))))))))))))))))
 . have h9:=B2 hc1;omega
 refine AOL.e (C2 (by kernel_rfl) rfl rfl (zA n h0 h1 es hes hl v H)) rfl ?_;rintro _ _ ⟨v20,rfl,rfl⟩;refine AOL.Aag (Ag (v:=.row _ _ _) rfl) rfl (AOL.nil (Aa (AW.ret ?_)));refine ⟨.inr rfl,[.row _ _ _],.cons (.tmp _ _ rfl) <| .nil,_,.refl _,?_⟩;exact ⟨_,rfl,rfl⟩
theorem aV (n:Int)(h0:0<=n)(h1:n<10)(es:List (List AV))(hes:∀c∈es,Bm c=true)(hl:es.length<=4096)(v:Value)(H:List HO):Cb Tryz.prog 143 (.row v es.length 5 1::H) [.row v 1 es,.int .i64 n,.int .i64 10] (fun r H'=>∃v',r = .row v' 1 (es++Ou [dg n])/\H' = .row v' (es++Ou [dg n]).length 5 1::H):=by
 refine Cb.body (n:=11) Ai Tryz.func143 rfl rfl rfl ?_;refine AW.seq (AW.region (AOL.Aag (Dg (z:=1) rfl) rfl (AOL.nil (Aa (AW.seq (AW.region (AOL.Aag (Ae (v:=.row _ _ _) rfl) rfl (AOL.Aag (Ae (v:=.int .i64 _) rfl) rfl (AOL.Aag (Ae (v:=.int .i64 _) rfl) rfl ?_)))))))));refine AOL.e (C2 (by kernel_rfl) rfl rfl (yZ n h0 h1 es hes hl v H)) rfl ?_;rintro _ _ ⟨v10,rfl,rfl⟩;refine AOL.Aag (Ag (v:=.row _ _ _) rfl) rfl (AOL.nil (Aa (AW.ret ?_)));refine ⟨.inr rfl,[.row _ _ _],.cons (.tmp _ _ rfl) <| .nil,_,.refl _,?_⟩;exact ⟨_,rfl,rfl⟩
theorem s_key (s:List Pr)(hs:eB s)(hl:s.length<=12):Al Tryz.prog 105 [.sl 2 (s.map Ct)] (.str (Lr s)):=by
 refine Al.body (n:=27) Ai Tryz.func105 rfl rfl rfl fun H=>?_
 refine AW.seq (AW.region (AOL.Aag (Ag (v:=.str _) rfl) rfl (AOL.nil (Aa (AW.seq (AW.region (AOL.Aag (Ag (v:=.val _) rfl) rfl ?_)))))));refine AOL.ghost (GS.row (t:=3) 5 1 rfl) ?_;refine AOL.nil (Aa (AW.seq (AW.seq (AW.region (AOL.Aag (Ae (v:=.sl _ _) rfl) rfl ?_)))));refine AOL.Aag (Av (n:=s.length) Ai rfl rfl rfl (by simp)) rfl ?_;refine AOL.Aag (Ae (v:=.int .i64 _) rfl) rfl (AOL.nil (Aa (AW.block ?_)));refine AW.loopS (fun (q:Nat×List (List AV)×Value)=>(⟨[(3,.row q.2.2 1 q.2.1),(6,.sl 2 (s.map Ct)),(7,.int .i64 (s.length:Int)),(8,.int .i64 (q.1:Int))],.row q.2.2 q.2.1.length 5 1::H,27⟩:St)) (fun q=>q.1<=s.length/\q.2.1=Ou (Lr (s.take q.1))) (fun q=>s.length-q.1) ((0,[],.slice none 0 0)) ?_ (GS.weaken ⟨rfl,rfl,rfl,rfl,trivial⟩ (.refl _)) ?_
 . exact ⟨Bn _,rfl⟩
 rintro q hR;refine AW.seq (AW.region (AOL.Aag (B9 rfl rfl) rfl (AOL.nil (Aa (AW.seq (AW.cond (b:=_) rfl (fun hc1=>?_) (fun hc1=>?_)))))))
 .
  have hlt:q.1<s.length:=by have:=B2 hc1;omega
  refine (Fa hlt).elim fun x hx=>?_
  have hxs:=hs x (A0 hx);have hsc:∀c∈q.2.1,Bm c=true:=by rw [hR.2];exact Uv _
  have hkl:q.2.1.length<=48:=by rw [hR.2,T6,bK,Fr];omega
  have hd1:(Ou [dg x.v]).length=1:=rfl;have hd2:(Ou [dg (x.a:Int)]).length=1:=rfl;refine AW.skip (Aa (AW.seq (AW.block (AW.seq (AW.region ?_)))));refine AOL.Aag (Am (c:=Ct x) Ai rfl rfl rfl rfl rfl rfl (by omega) (Co hx)) rfl ?_;refine AOL.Aag (Ah (l:=[.int .i64 _,.int .i64 _]) Ai rfl rfl rfl rfl rfl) rfl ?_;refine AOL.e (Bh (l:=[.int .i64 0,.int .i64 0]) (by kernel_rfl)) rfl ?_;rintro _ _ ⟨b5,rfl,rfl⟩;refine AOL.e (Ao (k:=0) (v:=.agg _) (cs':=[.int .i64 _,.int .i64 _]) (H2:=_::_::_) Ai rfl rfl rfl rfl (rfl) rfl rfl rfl rfl) rfl ?_;rintro _ _ ⟨rfl,rfl⟩;refine AOL.ghost (GS.Aaj (t:=5) 0 rfl rfl) ?_;refine AOL.nil (Aa (AW.seq (AW.region (AOL.Aag (Ae (v:=.row _ _ _) rfl) rfl (AOL.Aag (Ad (cs':=[.int .i64 _,.int .i64 _]) Ai rfl rfl rfl rfl rfl rfl) rfl (AOL.Aag (Af (c:=.int .i64 _) Ai rfl rfl rfl) rfl ?_))))));refine AOL.e (C2 (by kernel_rfl) rfl rfl (aV x.v hxs.1 hxs.2.1 q.2.1 hsc (by omega) _ H)) rfl ?_;rintro _ _ ⟨v15,rfl,rfl⟩;refine AOL.Aag (Ag (v:=.row _ _ _) rfl) rfl (AOL.nil (Aa ?_));refine AW.draw mixed (fun _=>True) trivial (by kernel_rfl) ?_;refine E5.pure _ _ 0 _ _ rfl (by kernel_rfl) (by kernel_rfl) rfl (.run rfl (Ae (v:=.row _ _ _) rfl)) ?_;refine E5.pure _ _ 1 _ _ rfl (by kernel_rfl) (by kernel_rfl) rfl (.run rfl (Bw (es:=[[.int .u8 _]]) Ai rfl rfl rfl rfl rfl rfl rfl rfl rfl)) ?_;refine E5.pure _ _ 3 _ _ rfl (by kernel_rfl) (by kernel_rfl) rfl (.run rfl (Ad (cs':=[.int .i64 _]) Ai rfl rfl rfl rfl rfl rfl)) ?_;refine E5.pure _ _ 4 _ _ rfl (by kernel_rfl) (by kernel_rfl) rfl (.run rfl (Af (c:=.int .i64 _) Ai rfl rfl rfl)) ?_;refine E5.pure _ _ 6 _ _ rfl (by kernel_rfl) (by kernel_rfl) rfl (.run rfl (Bw (es:=[[.int .u8 _]]) Ai rfl rfl rfl rfl rfl rfl rfl rfl rfl)) ?_;refine E5.eff _ _ 2 _ _ rfl (by kernel_rfl) rfl rfl (I5 (k:=0) Ai rfl rfl rfl rfl rfl rfl rfl rfl (Hn rfl) ((Xr hsc (Uv _))) (by simp only [Do,Nb];omega) (by simp only [Do,Nb,maxLen];omega)) (fun _ _ _=>trivial) ?_;rintro _ _ ⟨v18,rfl,rfl⟩;refine E5.eff _ _ 5 _ _ rfl (by kernel_rfl) rfl rfl (C2 (by kernel_rfl) rfl rfl (aV (x.a:Int) (by omega) (by omega) _ (Xr (Xr hsc (Uv _)) (Hn rfl)) (by simp only [Do,Nb];omega) _ H)) (fun _ _ _=>trivial) ?_;rintro _ _ ⟨v21,rfl,rfl⟩;refine E5.eff _ _ 7 _ _ rfl (by kernel_rfl) rfl rfl (I5 (k:=0) Ai rfl rfl rfl rfl rfl rfl rfl rfl (Hn rfl) ((Xr (Xr (Xr hsc (Uv _)) (Hn rfl)) (Uv _))) (by simp only [Do,Nb];omega) (by simp only [Do,Nb,maxLen];omega)) (fun _ _ _=>trivial) ?_;rintro _ _ ⟨v23,rfl,rfl⟩;refine E5.pure _ _ 8 _ _ rfl (by kernel_rfl) (by kernel_rfl) rfl (.run rfl (Ag (v:=.row _ _ _) rfl)) ?_;refine E5.done _ _ (by kernel_rfl) ?_
  refine C9 (Aa (AW.region ?_));refine AOL.Aag (Cc rfl rfl rfl (by constructor <;> omega)) rfl ?_;refine AOL.Aag (Ae (v:=.int .i64 _) rfl) rfl (AOL.nil (Aa ?_));refine ⟨(q.1+1,_,_),?_,?_,GS.weaken ⟨rfl,rfl,rfl,rfl,trivial⟩ (.refl _)⟩
  . exact ⟨hlt,by simp only;rw [kG hx,hR.2]⟩
  simp only;omega
 have hge:q.1=s.length:=by have:=C7 hc1;have:=hR.1;omega
 refine AW.exit ?_;refine A1 (A1 (Cd (Aa ?_)));refine AW.seq (AW.region (AOL.Aag (Ae (v:=.row _ _ _) rfl) rfl ?_));refine AOL.Aag (eA (s:=Lr s) Ai rfl rfl rfl rfl rfl rfl rfl (by rw [bK];simp [maxLen];omega) (xQ (by rw [hR.2,hge,Oj];rfl))) rfl ?_;refine AOL.Aag (Ag (v:=.str _) rfl) rfl (AOL.nil (Aa (AW.ret ?_)));refine ⟨.inr rfl,[.str _],.cons (.tmp _ _ rfl) <| .nil,.cons _ (.refl _),?_⟩;rfl
end Go.Proofs.YtkdhionilabokaaGreatDoor
namespace Go.Aw
open Go
section
variable {P:Program} {ops:Array Oper} {K:Nat->List HO->Prop} {listed:Array Bool} {s:St}
inductive CanonY (P:Program) (ops:Array Oper):(Nat->List HO->Prop)->(St->Prop)->Array Bool->St->Prop where
 | done {K:Nat->List HO->Prop} {Q:St->Prop} (listed:Array Bool) (s:St) (hr:Region.ready .any ops listed = []) (h:Q s):CanonY P ops K Q listed s
 | pure {K:Nat->List HO->Prop} {Q:St->Prop} (listed:Array Bool) (s:St) (i:Nat) (o:Oper) (x:AV) (ho:ops[i]? = some o) (hr:(Region.ready .any ops listed).contains i=true) (hf:Region.free .any ops listed i=true)
  (hd:J5 o.dst s.n=true) (hp:PStep P ops o s.sl (K i) x) (h:CanonY P ops K Q (listed.setIfInBounds i true) ⟨Dy o.dst x s.sl,s.H,s.n⟩):CanonY P ops K Q listed s
 | yld {K:Nat->List HO->Prop} {Q:St->Prop} (listed:Array Bool) (s:St) (i:Nat) (o:Oper) (G:List (Bool×Bool)) (L:List (Nat×AV)) (x:AV) (F:List HO->Prop) (d:Option Nat) (cal:Operand) (args:Array Operand) (ats:Array TypeId) (ty:TypeId) (pos:String) (aft:Array Edge) (gd:Option (Nat×Bool))
  (ho:ops[i]? = some o) (hoe:o=⟨d,.call ⟨.value cal,args,ats⟩,ty,pos,aft,gd⟩) (hr:Region.ready .any ops listed = [i]) (hd:J5 o.dst s.n=true) (hw:El ops o s.sl=some G) (hL:∀p∈L,Zs G (get s.sl p.1) p.2)
  (hp:H9 G->∃l rec R,(∃j:Nat,s.H[j]? = some (HO.obj l (Obj.loop rec)))/\Dn (L++s.sl) cal = .val (.func (.yield l) #[] #[])/\args.size=rec.params.size/\Dp P l rec s.H (args.toList.map (Dn (L++s.sl))) R/\∀r H',R r H'->r=x/\F H') (hn:¬H9 G->F s.H)
  (hK:∀H',F H'->∀j,K j H') (h:∀H',F H'->CanonY P ops K Q (listed.setIfInBounds i true) ⟨Dy o.dst (.opt G x) s.sl,H',s.n⟩):CanonY P ops K Q listed s
theorem Xu {ro:Option Nat}{n:Nat}{Q:Exit->Act->World->Prop}{i:Nat}{K:Act->World->Prop}{a:Act}{w:World}(hd:∀o∈ops.toList,∀c,o.op≠.defer c)(hl:¬LetsOut Q)(h2:wpOp P ops Q i K a w):wpOpIn { Fence.wide with round:=ro } n P ops Q i K a w:=by
  unfold wpOp at h2;unfold wpOpIn;cases ho:ops[i]? with
  | none=>rw [ho] at h2;exact h2
  | some o=>
    rw [ho] at h2;simp only at h2 ⊢;split
    . rename_i hw
      rw [if_pos hw] at h2;rcases h2 with h2 | h2
      . exact M0 (hd o (by simpa using Array.mem_of_getElem? ho)) (fun _ _ _ h=>h) (fun h=>h) h2
      exact absurd h2.2 hl
    . rename_i hw
      rw [if_neg hw] at h2;exact ⟨fun _ _=>trivial,h2⟩
theorem oU {R:Act->World->Prop}:¬LetsOut (iM R):=fun ⟨_,_,h⟩=>h
theorem CanonY.any (hdd:De ops=true)(hdf:∀o∈ops.toList,∀c,o.op≠.defer c){Qs:St->Prop}(hC:CanonY P ops K Qs listed s):∀(fuel:Nat) (pend:List Pd) (listed':Array Bool) (sl':List (Nat×AV)) (g:Gh) (a:Act) (w:World) (R:Act->World->Prop),
    Inv P ops K listed s pend listed' sl'->Gm g ⟨sl',s.H,s.n⟩ a w->(∀j,K j s.H)->Xs ops listed'<=fuel->
    (∀g' s' a' w',Gm g' s' a' w'->Ext g w g' w'->Qs s'->R a' w')->wpAnyIn { Fence.wide with round:=none } 1 P .any ops (iM R) fuel listed' a w:=by
  induction hC with
  | done listed s hr h=>
    intro fuel
    induction fuel with
    | zero=>
      intro pend listed' sl' g a w R I hG hK hf hQ
      have hp:pend = []:=by
        cases hp:pend with
        | nil=>rfl
        | cons x r=>obtain ⟨q,_,hq⟩:=I.oldest (by simp [hp]);have:=Fc hq;omega
      subst hp;refine ⟨?_,hQ g s a w (hG.congr fun t=>I.slot t (by simp)) (Ext.refl g w) h⟩;cases hrr:Region.ready .any ops listed' with
      | nil=>rfl
      | cons x r=>have:=Fc (i:=x) (listed':=listed') (by rw [hrr];simp);omega
    | succ fuel ih=>
      intro pend listed' sl' g a w R I hG hK hf hQ;refine ⟨fun h0=>?_,fun j hj=>?_⟩
      . have hp:pend = []:=by
          cases hp:pend with
          | nil=>rfl
          | cons x r=>obtain ⟨q,_,hq⟩:=I.oldest (by simp [hp]);rw [h0] at hq;cases hq
        subst hp;exact hQ g s a w (hG.congr fun t=>I.slot t (by simp)) (Ext.refl g w) h
      . by_cases e:∃q∈pend,q.i=j
        . obtain ⟨q,hq,rfl⟩:=e
          obtain ⟨h1,_,h3,h4⟩:=I.op q hq;refine Xu hdf oU (h3.wpOp h1 hG (hK _) h4 (fun t ht=>I.reads hq hj ht) fun g' a' w' hG' hx=>?_);exact ih _ _ _ g' a' w' R (I.exec hdd hq hj) hG' hK (by have:=D5 hj I.size';omega) fun g'' s'' a'' w'' k1 k2 k3=>hQ g'' s'' a'' w'' k1 (hx.trans k2) k3
        . have:=I.ready_of hj (fun p hp hpe=>e ⟨p,hp,hpe⟩)
          rw [hr] at this;cases this
  | pure listed s i o x ho hr hf hd hp _ ih=>
    intro fuel pend listed' sl' g a w R I hG hK hfu hQ;exact ih fuel _ _ _ g a w R (I.push hdd ho (by simpa using hr) hf hd hp) hG hK hfu hQ
  | yld listed s i o G L x F d cal args ats ty pos aft gd ho hoe hr hd hgw hL hp hnG hKK _ ih=>
    intro fuel
    induction fuel with
    | zero=>
      intro pend listed' sl' g a w R I hG hK hf hQ;exfalso
      have hp:pend = []:=by
        cases hp:pend with
        | nil=>rfl
        | cons x r=>obtain ⟨q,_,hq⟩:=I.oldest (by simp [hp]);have:=Fc hq;omega
      subst hp;have hri:i∈Region.ready .any ops listed:=by rw [hr];simp
      have hu:=(mem_ready.1 hri).1;have hlt:i<ops.size:=(Array.getElem?_eq_some_iff.1 ho).1
      have hu':listed'.getD i true=false:=by
        cases h:listed'.getD i true with
        | false=>rfl
        | true=>rw [((I.lst i hlt).1 h).1] at hu;cases hu
      have:0<Xs ops listed':=Lb (F1.2 ⟨Hq.2 hlt,by simp only [hu',Bs]⟩);omega
    | succ fuel ihf=>
      intro pend listed' sl' g a w R I hG hK hf hQ;have hri:i∈Region.ready .any ops listed:=by rw [hr];simp
      refine ⟨fun h0=>?_,fun j hj=>?_⟩
      . exfalso
        have hp:pend = []:=by
          cases hp:pend with
          | nil=>rfl
          | cons x r=>obtain ⟨q,_,hq⟩:=I.oldest (by simp [hp]);rw [h0] at hq;cases hq
        subst hp;obtain ⟨hu,o',ho',hall⟩:=mem_ready.1 hri;have hlt:i<ops.size:=(Array.getElem?_eq_some_iff.1 ho).1
        have:i∈Region.ready .any ops listed':=by
          refine mem_ready.2 ⟨?_,o',ho',fun e he hb=>?_⟩
          . cases h:listed'.getD i true with
            | false=>rfl
            | true=>rw [((I.lst i hlt).1 h).1] at hu;cases hu
          . have h1:=hall e he hb
            have h2:e.on<ops.size:=by
              rcases Ix e.on ops.size with h' | h'
              . exact h'
              . have:listed.size<=e.on:=by rw [I.size];exact h'
                simp [Array.getElem?_eq_none this] at h1
            rw [<-C4 (by rw [I.size];exact h2)] at h1;rw [<-C4 (by rw [I.size'];exact h2)];exact (I.lst _ h2).2 ⟨h1,by simp⟩
        rw [h0] at this;cases this
      . by_cases e:∃q∈pend,q.i=j
        . obtain ⟨q,hq,rfl⟩:=e
          obtain ⟨h1,_,h3,h4⟩:=I.op q hq;refine Xu hdf oU (h3.wpOp h1 hG (hK _) h4 (fun t ht=>I.reads hq hj ht) fun g' a' w' hG' hx=>?_);exact ihf _ _ _ g' a' w' R (I.exec hdd hq hj) hG' hK (by have:=D5 hj I.size';omega) fun g'' s'' a'' w'' k1 k2 k3=>hQ g'' s'' a'' w'' k1 (hx.trans k2) k3
        . have hj':=I.ready_of hj (fun p hp hpe=>e ⟨p,hp,hpe⟩)
          rw [hr] at hj';obtain rfl:j=i:=by simpa using hj'
          have hap:=(I.eff hdd ho hri hj .junk s.H).1
          have hsl:∀t∈o.looksAt ops,Rep g w (a.tmps.getD t undef) (get s.sl t):=fun t ht=>by
            have h1:get sl' t=get s.sl t:=I.slot t fun p hp' hpd=>(Oper.apart_spec (hap p hp')).1 t hpd ht
            have:=hG.sl t;rw [<-h1];exact this
          obtain ⟨k1,k2⟩:=Hp hgw hsl;unfold wpOpIn;simp only [ho];by_cases hg:H9 G
          . rw [if_pos (k1 hg)]
            obtain ⟨l,rec,Rr,⟨ix,hix⟩,hcal,hlen,hR,hRF⟩:=hp hg
            have hev:∀y:Operand,(∀t,y = .tmp t->t∈o.looksAt ops)->Rep g w (a.eval y) (Dn (L++s.sl) y):=fun y hy=>by
              cases y with
              | tmp t=>
                have ht:=hy t rfl;show Rep g w _ (get (L++s.sl) t);rcases K2 L s.sl t with ⟨z,hz,e⟩ | e
                . rw [e];exact hL (t,z) hz g w _ hg (hsl t ht)
                rw [e];exact hsl t ht
              | const v=>exact Fb g w v
              | global n=>exact .val _
              | func f=>exact .fn _ _ _ _ _ rfl (by simp) rfl (by simp)
            have hobj:(HO.obj l (.loop rec)).ok g w:=hG.heap.ok _ (A0 hix)
            have hlook:∀y∈o.op.operands,∀t,y = .tmp t->t∈o.looksAt ops:=fun y hy t e=>by
              subst e;exact Ck (ops:=ops) hy
            have hv:a.eval cal = .func (.yield l) #[] #[]:=(hcal▸hev cal (hlook cal (by rw [hoe];simp [Op.operands,Call.operands])):Rep g w _ _).inv_val;have hargs:Cv g w (args.map a.eval) (args.toList.map (Dn (L++s.sl))):=Kc (ρ:=Dn (L++s.sl)) (a:=a) (g:=g) (w:=w) (args:=args) (fun y hy=>hev y (hlook y (by rw [hoe];simp only [Op.operands,Call.operands,Array.mem_append];exact .inr (by simpa using hy)))) rfl
            have hrun:(execOp a.eval o).run P w = .ok (.round l rec.fn ((rec.params.zip (args.map a.eval)).foldl (fun t (p,v)=>t.setIfInBounds p v) rec.tmps) rec.assign rec.body) w:=by
              have hy:=run_yield (P:=P) (args:=args.map a.eval) hobj.2 (by simpa using hlen);subst hoe;simp only [execOp,resolve,Sem.run_bind,hv,Deferred.ofValue,Sem.run_pure,Result.andThen_ok,invoke];simpa using hy
            refine ⟨fun _ _=>trivial,?_⟩;rw [Oper.semAt_eq _ _ _ (by rw [hoe];intro c e;cases e),hrun];refine ⟨fun e=>(by cases e),(hR _ g w _ hG.heap hargs).mono ?_⟩;rintro e w' ⟨v,g',r,H',rfl,q1,q2,q3,q4⟩;obtain ⟨e1,e2⟩:=hRF r H' q4;subst e1;exact ih H' e2 fuel pend _ _ g' _ w' R (I.eff hdd ho hri hj _ _).2 (hG.put q3 hd (.opt _ _ _ (fun _=>q1) (fun h=>absurd hg h)) q2) (hKK H' e2) (by have:=D5 hj I.size';omega) fun g'' s'' a'' w'' k1 k2 k3=>hQ g'' s'' a'' w'' k1 (q3.trans k2) k3
          . rw [if_neg (by rw [k2 hg];decide)]
            exact ⟨fun _ _=>trivial,ih s.H (hnG hg) fuel pend _ _ g _ w R (I.eff hdd ho hri hj _ _).2 (hG.put (Ext.refl g w) hd (.opt _ _ _ (fun h=>absurd h hg) (fun _=>rfl)) hG.heap) (hKK s.H (hnG hg)) (by have:=D5 hj I.size';omega) hQ⟩
theorem AW.drawY (hm:P.follows .mixedOrders=true){id:Nat}{Q:Exit->St->Prop}{s:St}(K:Nat->List HO->Prop)(hK:∀j,K j s.H)(hdd:De ops=true)
  (h:CanonY P ops K (Q .normal) (Array.replicate ops.size false) s) (hnd:G6 ops.toList=true:=by kernel_rfl):AW P (.region id ops true) Q s:=by
 intro Q' g a w hG hQ;have hx:=Ext.drew g w;have hG':Gm g s a w.drew:=⟨hG.size,hG.defers,fun i=>(hG.sl i).mono hx,hG.heap.drew⟩
 have key:=CanonY.any hdd (E2 hnd) h ops.size [] (Array.replicate ops.size false) s.sl g a w.drew (fun a' w'=>Q' .normal a' w')
  ⟨by simp,by simp,by simp,by simp,fun t _=>rfl,by simp,by simp,by simp,by simp,by simp,by simp,by simp,by simp,fun j o hj hl=>by
   have hlt:j<ops.size:=(Array.getElem?_eq_some_iff.1 hj).1;simp [hlt] at hl⟩ hG' (fun j=>hK j) (by
   unfold Xs;have:=Om (fun j=>!(Array.replicate ops.size false).getD j true) (List.range ops.size);simpa using this) fun g' s' a' w' k1 k2 k3=>hQ .normal g' s' a' w' k1 (hx.trans k2) k3
 refine (wpIn_wide (n:=1)).1 ?_;rw [<-jD];refine wpIn_mono (wpIn_region_any hm key) fun e a' w' h=>?_
 cases e with
 | normal=>exact h
 | _=>exact h.elim
end
end Go.Aw
namespace Go.Proofs.YtkdhionilabokaaGreatDoor
open Go Go.Aw
def vV (l:Nat)(rec:Loop)(en:List (List Pr))(HK:List (List Pr)->List HO->Prop):Prop:=∀(F:List HO) (pre:List (List Pr)) (f:List Pr) (post:List (List Pr)) (H:List HO),en=pre++f::post->HK pre H->Dp Tryz.prog l rec (F++H) [.sl 2 (f.map Ct)] (fun r H'=>r = .bool true/\∃H2,H'=F++H2/\HK (pre ++ [f]) H2)
def xM (F:Nat)(cap:List AV)(en:List (List Pr)):Prop:=∀(l:Nat) (rec:Loop),rec.params.size=1->∀(HK:List (List Pr)->List HO->Prop),(∀pre H,HK pre H->∃i:Nat,H[i]? = some (HO.obj l (Obj.loop rec)))->vV l rec en HK->∀H,HK [] H->
 Cb Tryz.prog F H (.val (.func (.yield l) #[] #[])::cap) (fun r H'=>r = .tuple []/\HK en H')
def Jm (L:List Ev)(p:Pt)(o:List Pr)(n a:Nat):List (List Pr):=((List.range' n (a-n)).filter (Fi L p o)).map fun a=>[⟨p.var,a⟩]
def wI (L:List Ev)(p:Pt)(o:List Pr)(n:Nat):List (List Pr):=Jm L p o n L.length
theorem tA (L:List Ev)(p:Pt)(o:List Pr)(n:Nat):Jm L p o n n = []:=by unfold Jm;rw [Nat.sub_self];rfl
theorem es_T {L:List Ev}{p:Pt}{o:List Pr}{n a:Nat}(hna:n<=a)(h:Fi L p o a=true):Jm L p o n (a+1)=Jm L p o n a ++ [[⟨p.var,a⟩]]:=by
 unfold Jm;rw [show a+1-n=(a-n)+1 by omega,M1,Gi,Cy,show n+(a-n)=a by omega];simp [h]
theorem es_F {L:List Ev}{p:Pt}{o:List Pr}{n a:Nat}(hna:n<=a)(h:Fi L p o a=false):Jm L p o n (a+1)=Jm L p o n a:=by
 unfold Jm;rw [show a+1-n=(a-n)+1 by omega,M1,Gi,Cy,show n+(a-n)=a by omega];simp [h]
theorem es_Fk {HK:List (List Pr)->List HO->Prop}{H:List HO}{L:List Ev}{p:Pt}{o:List Pr}{n a:Nat}(hna:n<=a)(h:Fi L p o a=false)(hk:HK (Jm L p o n a) H):HK (Jm L p o n (a+1)) H:=by rw [es_F hna h];exact hk
theorem yL {L:List Ev}{p:Pt}{o:List Pr}{n a:Nat}(hna:n<=a)(ha:a<L.length)(h:Fi L p o a=true):∃post,wI L p o n=Jm L p o n a ++ [⟨p.var,a⟩]::post:=by
 refine ⟨((List.range' (a+1) (L.length-(a+1))).filter (Fi L p o)).map fun a=>[⟨p.var,a⟩],?_⟩;unfold wI Jm
 have h1:List.range' n (L.length-n)=List.range' n (a-n)++a::List.range' (a+1) (L.length-(a+1)):=by
  have h2:=List.range'_append_1 (s:=n) (m:=a-n) (n:=L.length-a);rw [show a-n+(L.length-a)=L.length-n by omega] at h2;rw [<-h2,show n+(a-n)=a by omega]
  congr 1
  rw [show L.length-a=(L.length-(a+1))+1 by omega,List.range'_succ]
 rw [h1,Gi,Cy,Fq,if_pos h,Ba]
theorem mT {L:List Ev}{p:Pt}{o:List Pr}{n a:Nat}{l:Nat}{rec:Loop}{HK:List (List Pr)->List HO->Prop}{H:List HO}(hY:vV l rec (wI L p o n) HK)(hna:n<=a)(ha:a<L.length)(hk:HK (Jm L p o n a) H)(h:Fi L p o a=true) :
  Dp Tryz.prog l rec H [.sl 2 [[.int .i64 p.var,.int .i64 (a:Int)]]] (fun r H'=>r = .bool true/\HK (Jm L p o n (a+1)) H'):=by
 obtain ⟨post,he⟩:=yL hna ha h;refine (hY [] _ _ post H he hk).post ?_;rintro r K ⟨h1,H2,rfl,h2⟩;exact ⟨_,.refl _,h1,by rw [es_T hna h];exact h2⟩
theorem qF (L:List Ev)(hL:L.length<=1048576)(p:Pt)(hc:B3 p.cond<=1048576)(o:List Pr)(ho:PrOK L o)(hol:o.length<=1048576)(n:Nat)(hn:n<=L.length)(l:Nat)(rec:Loop)(hrec:rec.params.size=1)(HK:List (List Pr)->List HO->Prop)(hobj:∀pre H,HK pre H->∃i:Nat,H[i]? = some (HO.obj l (Obj.loop rec)))(hY:vV l rec (wI L p o n) HK)(H:List HO)(h0:HK [] H):Cb Tryz.prog 166 H [.val (.func (.yield l) #[] #[]),.ptr [.int .i64 (n:Int)],.ptr [.ptr [.sl 5 (L.map Ec),.bool false]],.ptr (cPt p),.ptr [.sl 2 (o.map Ct)]] (fun r H'=>r = .tuple []/\HK (wI L p o n) H'):=by
 refine Cb.body (n:=48) Ai Tryz.func166 rfl rfl rfl ?_;refine AW.seq (AW.region (AOL.Aag (Af (c:=.int .i64 _) Ai rfl rfl rfl) rfl (AOL.Aag (Ag (v:=.int .i64 _) rfl) rfl (AOL.nil (Aa (AW.block ?_))))));refine AW.loopS (fun (q:Nat×List HO)=>(⟨[(0,.val (.func (.yield l) #[] #[])),(2,.ptr [.ptr [.sl 5 (L.map Ec),.bool false]]),(3,.ptr (cPt p)),(4,.ptr [.sl 2 (o.map Ct)]),(6,.int .i64 (q.1:Int))],q.2,48⟩:St)) (fun q=>(n<=q.1/\q.1<=L.length)/\HK (Jm L p o n q.1) q.2) (fun q=>L.length-q.1) ((n,H)) ?_ (GS.weaken ⟨rfl,rfl,rfl,rfl,rfl,trivial⟩ (.refl _)) ?_
 . exact ⟨⟨Bi _,hn⟩,by rw [tA];exact h0⟩
 rintro q hR;refine AW.seq (AW.seq (AW.region (AOL.Aag (Ae (v:=.int .i64 _) rfl) rfl (AOL.Aag (Af (c:=.ptr _) Ai rfl rfl rfl) rfl (AOL.Aag (B4 rfl) rfl (AOL.Aag (Ad (cs':=[_,.bool _]) Ai rfl rfl rfl rfl rfl rfl) rfl (AOL.Aag (Af (c:=.sl _ _) Ai rfl rfl rfl) rfl ?_)))))));refine AOL.Aag (Av (n:=L.length) Ai rfl rfl rfl (by simp)) rfl ?_;refine AOL.Aag (B9 rfl rfl) rfl (AOL.nil (Aa (AW.cond (b:=_) rfl (fun hc1=>?_) (fun hc1=>?_))))
 .
  have hlt:q.1<L.length:=by have:=B2 hc1;omega
  have hla:L[q.1]? = some (Fx L q.1):=Hu Hg hlt;refine AW.skip (Aa (AW.seq (AW.block (AW.seq ?_))));refine AW.drawY mixed (fun _ _=>True) (fun _=>trivial) (by kernel_rfl) ?_;refine CanonY.pure _ _ 0 _ _ rfl (by kernel_rfl) (by kernel_rfl) rfl (.run rfl (Af (c:=.ptr _) Ai rfl rfl rfl)) ?_;refine CanonY.pure _ _ 1 _ _ rfl (by kernel_rfl) (by kernel_rfl) rfl (.run rfl (B4 rfl)) ?_;refine CanonY.pure _ _ 2 _ _ rfl (by kernel_rfl) (by kernel_rfl) rfl (.run rfl (Ad (cs':=[_,.bool _]) Ai rfl rfl rfl rfl rfl rfl)) ?_;refine CanonY.pure _ _ 3 _ _ rfl (by kernel_rfl) (by kernel_rfl) rfl (.run rfl (Af (c:=.sl _ _) Ai rfl rfl rfl)) ?_;refine CanonY.pure _ _ 4 _ _ rfl (by kernel_rfl) (by kernel_rfl) rfl (.run rfl (Ae (v:=.int .i64 _) rfl)) ?_;refine CanonY.pure _ _ 5 _ _ rfl (by kernel_rfl) (by kernel_rfl) rfl (.run rfl (Am (c:=Ec (Fx L q.1)) Ai rfl rfl rfl rfl rfl rfl (by omega) (Co hla))) ?_;refine CanonY.pure _ _ 6 _ _ rfl (by kernel_rfl) (by kernel_rfl) rfl (.run rfl (Ad (cs':=[.int .i64 _,.int .i64 _,_]) Ai rfl rfl rfl rfl rfl rfl)) ?_;refine CanonY.pure _ _ 7 _ _ rfl (by kernel_rfl) (by kernel_rfl) rfl (.run rfl (Af (c:=.int .i64 _) Ai rfl rfl rfl)) ?_;refine CanonY.pure _ _ 8 _ _ rfl (by kernel_rfl) (by kernel_rfl) rfl (.run rfl (Ad (cs':=[.int .i64 _,.int .i64 _,.int .i64 _,.int .i64 _,.int .i64 _,_,.int .i64 _,.int .i64 _,.int .i64 _,.int .i64 _,.int .i64 _,.str _]) Ai rfl rfl rfl rfl rfl rfl)) ?_;refine CanonY.pure _ _ 9 _ _ rfl (by kernel_rfl) (by kernel_rfl) rfl (.run rfl (Af (c:=.int .i64 _) Ai rfl rfl rfl)) ?_;refine CanonY.pure _ _ 10 _ _ rfl (by kernel_rfl) (by kernel_rfl) rfl (.run rfl (Ez rfl rfl)) ?_;refine CanonY.pure _ _ 11 _ _ rfl (by kernel_rfl) (by kernel_rfl) rfl (.run rfl (Ae (v:=.bool _) rfl)) ?_;refine CanonY.pure _ _ 12 _ _ rfl (by kernel_rfl) (by kernel_rfl) rfl (.opt _ (.ptr _) [] rfl (Un.all trivial) (fun hG=>Af (c:=.ptr _) Ai rfl rfl rfl) rfl) ?_;refine CanonY.pure _ _ 13 _ _ rfl (by kernel_rfl) (by kernel_rfl) rfl (.opt _ (.ptr _) [] rfl (Un.all trivial) (fun hG=>Ad (cs':=[.int .i64 _,_,.int .i64 _,.int .i64 _,.int .i64 _,.int .i64 _,.int .i64 _,.str _]) Ai rfl rfl rfl rfl rfl rfl) rfl) ?_;refine CanonY.pure _ _ 14 _ _ rfl (by kernel_rfl) (by kernel_rfl) rfl (.opt _ (.agg _) [(30,_)] rfl (Un.all ⟨Zs.self _ _,trivial⟩) (fun hG=>Ah (l:=[.int .i64 _,_,.int .i64 _,.int .i64 _,.int .i64 _,.int .i64 _,.int .i64 _,.str _]) Ai rfl rfl rfl rfl rfl) rfl) ?_;refine CanonY.pure _ _ 15 _ _ rfl (by kernel_rfl) (by kernel_rfl) rfl (.opt _ (.sl _ _) [] rfl (Un.all trivial) (fun hG=>Af (c:=.sl _ _) Ai rfl rfl rfl) rfl) ?_;refine CanonY.pure _ _ 16 _ _ rfl (by kernel_rfl) (by kernel_rfl) rfl (.opt _ (.ptr _) [] rfl (Un.all trivial) (fun hG=>Ad (cs':=[.int .i64 _,.int .i64 _,.int .i64 _,.int .i64 _,_,.int .i64 _,.int .i64 _,.int .i64 _,.int .i64 _,.int .i64 _,.str _]) Ai rfl rfl rfl rfl rfl rfl) rfl) ?_
  refine CanonY.pure _ _ 17 _ _ rfl (by kernel_rfl) (by kernel_rfl) rfl (.opt _ (.int .i64 _) [(33,_)] rfl (Un.all ⟨Zs.self _ _,trivial⟩) (fun hG=>Af (c:=.int .i64 _) Ai rfl rfl rfl) rfl) ?_;refine CanonY.pure _ _ 18 _ _ rfl (by kernel_rfl) (by kernel_rfl) rfl (.opt _ (.int .i64 _) [] rfl (Un.all trivial) (fun hG=>Ae (v:=.int .i64 _) rfl) rfl) ?_;refine CanonY.pure _ _ 19 _ _ rfl (by kernel_rfl) (by kernel_rfl) rfl (.opt _ (.bool _) [(29,_),(31,_),(32,_),(34,_),(35,_)] rfl (Un.all ⟨Zs.self _ _,Zs.self _ _,Zs.self _ _,Zs.self _ _,Zs.self _ _,trivial⟩) (fun hG=>Ak (by kernel_rfl) rfl rfl (s_sat L p.cond hc o ho hol p.var q.1 hlt)) rfl) ?_;refine CanonY.pure _ _ 20 _ _ rfl (by kernel_rfl) (by kernel_rfl) rfl (.run rfl (Bc rfl rfl rfl)) ?_;refine CanonY.pure _ _ 21 _ _ rfl (by kernel_rfl) (by kernel_rfl) rfl (.run rfl (Ae (v:=.bool _) rfl)) ?_;refine CanonY.pure _ _ 22 _ _ rfl (by kernel_rfl) (by kernel_rfl) rfl (.opt _ (.val _) [] rfl (Un.all trivial) (fun hG=>Ae (v:=.val _) rfl) rfl) ?_;refine CanonY.pure _ _ 23 _ _ rfl (by kernel_rfl) (by kernel_rfl) rfl (.opt _ (.ptr _) [] rfl (Un.all trivial) (fun hG=>Ad (cs':=[.int .i64 _,.int .i64 _,.int .i64 _,.int .i64 _,_,.int .i64 _,.int .i64 _,.int .i64 _,.int .i64 _,.int .i64 _,.str _]) Ai rfl rfl rfl rfl rfl rfl) rfl) ?_;refine CanonY.pure _ _ 24 _ _ rfl (by kernel_rfl) (by kernel_rfl) rfl (.opt _ (.int .i64 _) [(40,_)] rfl (Un.all ⟨Zs.self _ _,trivial⟩) (fun hG=>Af (c:=.int .i64 _) Ai rfl rfl rfl) rfl) ?_;refine CanonY.pure _ _ 25 _ _ rfl (by kernel_rfl) (by kernel_rfl) rfl (.opt _ (.int .i64 _) [] rfl (Un.all trivial) (fun hG=>Ae (v:=.int .i64 _) rfl) rfl) ?_;refine CanonY.pure _ _ 26 _ _ rfl (by kernel_rfl) (by kernel_rfl) rfl (.opt _ (.agg _) [(41,_),(42,_)] rfl (Un.all ⟨Zs.self _ _,Zs.self _ _,trivial⟩) (fun hG=>C3 (l:=[.int .i64 _,.int .i64 _]) Ai rfl rfl rfl) rfl) ?_;refine CanonY.pure _ _ 27 _ _ rfl (by kernel_rfl) (by kernel_rfl) rfl (.opt _ (.sl _ _) [(43,_)] rfl (Un.all ⟨Zs.self _ _,trivial⟩) (fun hG=>Bw (es:=[[.int .i64 _,.int .i64 _]]) Ai rfl rfl rfl rfl rfl rfl rfl rfl rfl) rfl) ?_;refine CanonY.yld _ _ 28 _ _ [(44,_),(39,_)] (.bool true) (fun H'=>HK (Jm L p o n (q.1+1)) H') _ _ _ _ _ _ _ _ rfl rfl (by kernel_rfl) rfl rfl (Un.all ⟨Zs.self _ _,Zs.self _ _,trivial⟩) (fun hG=>?_) (fun hG=>?_) (fun _ _ _=>trivial) ?_
  .
   have ht:Fi L p o q.1=true:=Ed hG;exact ⟨l,rec,_,hobj _ _ hR.2,rfl,hrec.symm,mT hY hR.1.1 hlt hR.2 ht,fun _ _ h=>h⟩
  . exact es_Fk hR.1.1 (yS hG) hR.2
  rintro _ hH2;refine CanonY.pure _ _ 29 _ _ rfl (by kernel_rfl) (by kernel_rfl) rfl (.opt _ (.bool _) [(45,_)] rfl (Un.all ⟨Zs.self _ _,trivial⟩) (fun hG=>F6 rfl) rfl) ?_;refine CanonY.pure _ _ 30 _ _ rfl (by kernel_rfl) (by kernel_rfl) rfl (.run rfl (Bc rfl rfl rfl)) ?_;refine CanonY.done _ _ (by kernel_rfl) ?_;refine Aa (AW.cond (b:=_) rfl (fun hc2=>?_) (fun hc2=>AW.skip (C9 (Aa (AW.region (AOL.Aag (Ae (v:=.int .i64 _) rfl) rfl ?_))))))
  . simp at hc2
  refine AOL.Aag (Cc rfl rfl rfl (by constructor <;> omega)) rfl ?_;refine AOL.Aag (Ag (v:=.int .i64 _) rfl) rfl (AOL.nil (Aa ?_));refine ⟨(q.1+1,_),?_,?_,GS.weaken ⟨rfl,rfl,rfl,rfl,rfl,trivial⟩ (.refl _)⟩
  . exact ⟨⟨by simp only;omega,hlt⟩,hH2⟩
  simp only;omega
 have hge:L.length<=q.1:=by have:=C7 hc1;omega
 refine AW.exit ?_;refine A1 (A1 (Cd ?_));refine ⟨.inl rfl,[],.nil,_,.refl _,?_⟩;exact ⟨rfl,by have h9:=hR.2;rwa [show q.1=L.length by omega] at h9⟩
theorem uY (L:List Ev)(p:Pt)(o:List Pr)(n:Nat):Al Tryz.prog 137 [.ptr [.sl 5 (L.map Ec),.bool false],.agg (cPt p),.sl 2 (o.map Ct),.int .i64 (n:Int)] (.fn (.func 166) [] [.ptr [.int .i64 (n:Int)],.ptr [.ptr [.sl 5 (L.map Ec),.bool false]],.ptr (cPt p),.ptr [.sl 2 (o.map Ct)]]):=by
 refine Al.body (n:=10) Ai Tryz.func137 rfl rfl rfl fun H=>?_
 refine AW.seq (AW.region (AOL.Aag (Bt (v:=.ptr _) (cs:=[_]) rfl rfl rfl) rfl (AOL.Aag (Bt (v:=.agg _) (cs:=[.int .i64 _,_,.int .i64 _,.int .i64 _,.int .i64 _,.int .i64 _,.int .i64 _,_,.int .i64 _,.int .i64 _,.int .i64 _,.int .i64 _,.int .i64 _,.str _]) rfl rfl rfl) rfl (AOL.Aag (Bt (v:=.sl _ _) (cs:=[_]) rfl rfl rfl) rfl (AOL.Aag (Bt (v:=.int .i64 _) (cs:=[.int .i64 _]) rfl rfl rfl) rfl (AOL.Aag (Ag (v:=.val _) rfl) rfl (AOL.nil (Aa (AW.seq (AW.region (AOL.Aag (A3 (l:=[]) (l':=[.ptr _,.ptr _,.ptr _,.ptr _]) rfl rfl) rfl (AOL.Aag (Ag (v:=.fn _ _ _) rfl) rfl (AOL.nil (Aa (AW.ret ?_)))))))))))))));refine ⟨.inr rfl,[.fn _ _ _],.cons (.tmp _ _ rfl) <| .nil,.refl _,?_⟩;rfl
theorem lB {L:List Ev}(hL:L.length<=1048576){p:Pt}(hc:B3 p.cond<=1048576){o:List Pr}(ho:PrOK L o)(hol:o.length<=1048576){n:Nat}(hn:n<=L.length):xM 166 [.ptr [.int .i64 (n:Int)],.ptr [.ptr [.sl 5 (L.map Ec),.bool false]],.ptr (cPt p),.ptr [.sl 2 (o.map Ct)]] (wI L p o n):=
 fun l rec hrec HK hobj hY H h0=>qF L hL p hc o ho hol n hn l rec hrec HK hobj hY H h0
end Go.Proofs.YtkdhionilabokaaGreatDoor
namespace Go.Proofs
open Go.Shelf
def Tryz.sortD_ren:Go.Shelf.Ren:=⟨fun | 6=>22 | 15=>59 | 14=>58 | 28=>101 | 29=>102 | 20=>93 | 21=>94 | 22=>95 | 23=>96 | 24=>97 | 25=>98 | 26=>99 | 27=>100 | 46=>132 | 47=>133 | 48=>134 | 49=>135 | 50=>136 | 57=>165 | n=>n,fun | 22=>35 | 24=>43 | 25=>75 | 3=>3 | 39=>113 | 0=>0 | 53=>164 | 55=>166 | 4=>4 | 46=>157 | 45=>156 | 50=>161 | 5=>5 | 9=>9 | 66=>199 | 70=>203 | 76=>222 | 77=>134 | n=>n,fun | n=>n⟩
theorem Tryz.sortD:Go.Proofs.SlLaysF0.n6 Tryz.prog Tryz.sortD_ren:={
 mixed:=by kernel_rfl
 f6:=⟨Tryz.f22.name,by decide,Tryz.func22.trans (congrArg some (by kernel_rfl))⟩
 f14:=⟨Tryz.f58.name,by decide,Tryz.func58.trans (congrArg some (by kernel_rfl))⟩
 f15:=Tryz.func59.trans (congrArg some (by kernel_rfl))
 f20:=⟨Tryz.f93.name,by decide,Tryz.func93.trans (congrArg some (by kernel_rfl))⟩
 f21:=⟨Tryz.f94.name,by decide,Tryz.func94.trans (congrArg some (by kernel_rfl))⟩
 f22:=⟨Tryz.f95.name,by decide,Tryz.func95.trans (congrArg some (by kernel_rfl))⟩
 f23:=⟨Tryz.f96.name,by decide,Tryz.func96.trans (congrArg some (by kernel_rfl))⟩
 f24:=⟨Tryz.f97.name,by decide,Tryz.func97.trans (congrArg some (by kernel_rfl))⟩
 f25:=⟨Tryz.f98.name,by decide,Tryz.func98.trans (congrArg some (by kernel_rfl))⟩
 f26:=⟨Tryz.f99.name,by decide,Tryz.func99.trans (congrArg some (by kernel_rfl))⟩
 f27:=⟨Tryz.f100.name,by decide,Tryz.func100.trans (congrArg some (by kernel_rfl))⟩
 f28:=Tryz.func101.trans (congrArg some (by kernel_rfl))
 f29:=Tryz.func102.trans (congrArg some (by kernel_rfl))
 f46:=⟨Tryz.f132.name,by decide,Tryz.func132.trans (congrArg some (by kernel_rfl))⟩
 f47:=Tryz.func133.trans (congrArg some (by kernel_rfl))
 f48:=Tryz.func134.trans (congrArg some (by kernel_rfl))
 f49:=⟨Tryz.f135.name,by decide,Tryz.func135.trans (congrArg some (by kernel_rfl))⟩
 f50:=⟨Tryz.f136.name,by decide,Tryz.func136.trans (congrArg some (by kernel_rfl))⟩
 f57:=⟨Tryz.f165.name,by decide,Tryz.func165.trans (congrArg some (by kernel_rfl))⟩
 t0:=Tryz.underlying0
 a0:=Tryz.isAgg0
 z0:=Tryz.sizeOf0
 v0:=Tryz.zeroValue0
 t3:=Tryz.underlying3
 a3:=Tryz.isAgg3
 z3:=Tryz.sizeOf3
 v3:=Tryz.zeroValue3
 t4:=Tryz.underlying4
 a4:=Tryz.isAgg4
 z4:=Tryz.sizeOf4
 v4:=Tryz.zeroValue4
 t5:=Tryz.underlying5
 a5:=Tryz.isAgg5
 z5:=Tryz.sizeOf5
 v5:=Tryz.zeroValue5
 t9:=Tryz.underlying9
 a9:=Tryz.isAgg9
 z9:=Tryz.sizeOf9
 v9:=Tryz.zeroValue9
 t22:=Tryz.underlying35
 a22:=Tryz.isAgg35
 z22:=Tryz.sizeOf35
 v22:=Tryz.zeroValue35
 t25:=Tryz.underlying75
 a25:=Tryz.isAgg75
 z25:=Tryz.sizeOf75
 v25:=Tryz.zeroValue75
 t39:=Tryz.underlying113
 a39:=Tryz.isAgg113
 z39:=Tryz.sizeOf113
 v39:=Tryz.zeroValue113
 t45:=Tryz.underlying156
 a45:=Tryz.isAgg156
 z45:=Tryz.sizeOf156
 v45:=Tryz.zeroValue156
 t46:=Tryz.underlying157
 a46:=Tryz.isAgg157
 z46:=Tryz.sizeOf157
 v46:=Tryz.zeroValue157
 t50:=Tryz.underlying161
 a50:=Tryz.isAgg161
 z50:=Tryz.sizeOf161
 v50:=Tryz.zeroValue161
 t53:=Tryz.underlying164
 a53:=Tryz.isAgg164
 z53:=Tryz.sizeOf164
 v53:=Tryz.zeroValue164
 t55:=Tryz.underlying166
 a55:=Tryz.isAgg166
 z55:=Tryz.sizeOf166
 v55:=Tryz.zeroValue166
 t66:=Tryz.underlying199
 a66:=Tryz.isAgg199
 z66:=Tryz.sizeOf199
 v66:=Tryz.zeroValue199
 t70:=Tryz.underlying203
 a70:=Tryz.isAgg203
 z70:=Tryz.sizeOf203
 v70:=Tryz.zeroValue203
 t76:=Tryz.underlying222
 a76:=Tryz.isAgg222
 z76:=Tryz.sizeOf222
 v76:=Tryz.zeroValue222
 t77:=Tryz.underlying134
 a77:=Tryz.isAgg134
 z77:=Tryz.sizeOf134
 v77:=Tryz.zeroValue134 }
end Go.Proofs
namespace Go.Proofs.YtkdhionilabokaaGreatDoor
open Go Go.Aw
section
variable (L:List Ev) (p:Pt) (o:List Pr)
def wH:List En:=p.args.map (B6 L)
def flP:Bool:=p.op==4&&decide (1<=Kr p.args)
def dU (c a:Nat)(kids:List Dv)(s:List Pr)(w:List Lt):List Fnd:=Ps (p.op==4) (p.op != 3) (flP p) (wH L p) o c a kids s w
def hF (c a:Nat)(kids:List Dv)(s:List Pr)(w:List Lt)(f:Fnd):List Fnd:=goK (p.op==4) (p.op != 3) (flP p) (wH L p) o c a kids s w f
def dT (kids:List Dv)(s:List Pr)(w:List Lt):List Fnd:=goH (p.op==4) (wH L p) kids s w
def tL (s:List Pr):List Pr:=if (p.op != 3) then Ch o s else o
def lM (s:List Pr)(a:Nat):Nat:=if (p.op != 3) then lasP s+1 else a
end
theorem Ua (L:List Ev)(p:Pt):(wH L p).length=p.args.length:=B1 ..
structure LiOK (L:List Ev) (p:Pt) (o:List Pr) (n0 a:Nat) (s:List Pr):Prop where
 ok:PrOK L s
 asc:rO s
 ge:∀x∈s,n0<=x.a
 lt:(p.op != 3)=true->∀x∈s,x.a<a
 lo:n0<=a
 hi:a<=L.length
theorem LiOK.out {L:List Ev}{p:Pt}{o:List Pr}{n0 a:Nat}{s:List Pr}(hL:L.length<=10)(ho:OutOK L o n0)(h:LiOK L p o n0 a s):OutOK L (tL p o s) a:=by
 unfold tL;split
 .
  rename_i h3;refine ⟨Ny ho.ok h.ok,Sm (fun x hx=>?_) (fun x hx y hy e=>?_) ho.asc h.asc,fun x hx=>?_,h.hi⟩
  .
   rcases Da.1 hx with hx | hx
   . have:=ho.ok.at' x hx;omega
   have:=h.ok.at' x hx;omega
  . have:=ho.lt x hx;have:=h.ge y hy;omega
  rcases F5.1 hx with hx | hx
  . have:=ho.lt x hx;have:=h.lo;omega
  exact h.lt h3 x hx
 exact ⟨ho.ok,ho.asc,fun x hx=>by have:=ho.lt x hx;have:=h.lo;omega,h.hi⟩
theorem LiOK.len {L:List Ev}{p:Pt}{o:List Pr}{n0 a:Nat}{s:List Pr}(h:LiOK L p o n0 a s):s.length<=L.length-n0:=Qu h.asc fun x hx=>⟨h.ge x hx,h.ok.at' x hx⟩
theorem LiOK.step {L:List Ev}{p:Pt}{o:List Pr}{n0 a:Nat}{s:List Pr}{f:Fnd}(hL:L.length<=10)(h:LiOK L p o n0 a s)(hf:FOK L a f)(hd:Hz s f.s=true):LiOK L p o n0 (lM p f.s a) (Ch s f.s)/\s.length+f.s.length<=10:=by
 have hl:=hf.las;have hlo:=h.lo;have hhi:=h.hi
 have hasc:rO (Ch s f.s):=Sm (fun x hx=>by
  rcases Da.1 hx with hx | hx
  . have:=h.ok.at' x hx;omega
  have:=hf.ok.at' x hx;omega) (X3 hd) h.asc hf.asc
 refine ⟨⟨Ny h.ok hf.ok,hasc,fun x hx=>?_,fun h3 x hx=>?_,?_,?_⟩,?_⟩
 .
  rcases F5.1 hx with hx | hx
  . exact h.ge x hx
  have:=hf.ge x hx;omega
 .
  unfold lM;rw [if_pos h3];rcases F5.1 hx with hx | hx
  . have:=h.lt h3 x hx;omega
  have:=bM hf.asc hx;omega
 . unfold lM;split <;> omega
 . unfold lM;split <;> omega
 rw [<-Mc];have:=Qu (lo:=0) (hi:=L.length) hasc fun x hx=>⟨Bn _,(Ny h.ok hf.ok).at' x hx⟩
 omega
def fuP (L:List Ev)(p:Pt)(a k:Nat):Nat:=if (p.op==4) then L.length-a else p.args.length-k
def xJ (L:List Ev)(p:Pt)(o:List Pr)(n0:Nat)(caps:List AV)(c:Nat):Prop:=∀(a:Nat) (kids:List Dv) (s:List Pr) (w:List Lt),LiOK L p o n0 a s->fuP L p a kids.length<c->kids.length+c<=1048576->((p.op==4)=false->kids.length<=p.args.length)->
 ∀(HK:List Fnd->List HO->Prop),lL (dU L p o c a kids s w) caps HK->∀H,HK [] H->Cb Tryz.prog 91 H [.ptr [.sl 5 (L.map Ec),.int .i64 0],.agg (cPt p),.sl 2 (o.map Ct),.int .i64 (a:Int),.sl 5 (kids.map C6),.sl 2 (s.map Ct),.fn (.func 57) [] caps] (fun r H'=>r = .bool true/\HK (dU L p o c a kids s w) H')
theorem wP {L:List Ev}{p:Pt}{o:List Pr}{c a:Nat}{kids:List Dv}{s:List Pr}{w:List Lt}{f:Fnd}(h:Hz s f.s=true):hF L p o c a kids s w f=dU L p o c (lM p f.s a) (kids ++ [f.d]) (Ch s f.s) (w++if flP p then Ng (kids.length % 2==1) f.w else f.w):=if_pos h
theorem gkP_F {L:List Ev}{p:Pt}{o:List Pr}{c a:Nat}{kids:List Dv}{s:List Pr}{w:List Lt}{f:Fnd}(h:Hz s f.s=false):hF L p o c a kids s w f = []:=if_neg (by rw [h];decide)
theorem gh_T {L:List Ev}{p:Pt}{kids:List Dv}{s:List Pr}{w:List Lt}(h:(((p.op != 4)&&((kids.length:Int)==(p.args.length:Int)))||((p.op==4)&&decide (0<(kids.length:Int))))=true):dT L p kids s w = [gU kids s w]:=by
  unfold dT goH;rw [Ua];cases h4:p.op==4 with
  | true => rw [if_pos rfl]; have h5 : (p.op != 4) = false := by rw [bne, h4]; rfl
            rw [h5,h4] at h;simp at h;rw [if_pos (by simpa using h)]
  | false=>
    rw [h4] at h;simp at h;have h6:kids.length=p.args.length:=by omega
    simp [h6]
theorem gh_F {L:List Ev}{p:Pt}{kids:List Dv}{s:List Pr}{w:List Lt}(h:(((p.op != 4)&&((kids.length:Int)==(p.args.length:Int)))||((p.op==4)&&decide (0<(kids.length:Int))))=false):dT L p kids s w = []/\((p.op==4)=true\/kids.length≠(wH L p).length):=by
  unfold dT goH;rw [Ua];cases h4:p.op==4 with
  | true=>rw [h4] at h;simp at h;rw [if_pos rfl,if_neg (by simpa using h.2)];exact ⟨rfl,.inl rfl⟩
  | false=>
    have h5:(p.op != 4)=true:=by rw [bne,h4];rfl
    rw [h5,h4] at h;simp at h;have h6:¬kids.length=p.args.length:=by omega
    simp [h6]
theorem wR {L:List Ev}{p b:Pt}{o:List Pr}{c a:Nat}{kids:List Dv}{s:List Pr}{w:List Lt}(h:(p.op==4)=true\/kids.length≠(wH L p).length)(hb:p.args[kids.length % p.args.length]? = some b):dU L p o (c+1) a kids s w=dT L p kids s w++(B6 L b (tL p o s) a).flatMap (hF L p o c a kids s w):=
 tK h (by unfold wH;rw [B1,List.getElem?_map,hb];rfl)
theorem yY {L:List Ev}{p:Pt}{o:List Pr}{c a:Nat}{kids:List Dv}{s:List Pr}{w:List Lt}(h4:(p.op==4)=false)(h:kids.length=p.args.length):dU L p o (c+1) a kids s w = [gU kids s w]:=by
 unfold dU;rw [h4];exact yX (by rw [Ua];exact h)
theorem nR {L:List Ev}{p:Pt}{o:List Pr}{c a:Nat}{kids:List Dv}{s:List Pr}{w:List Lt}(h4:(p.op != 4)=true)(h:(((p.op != 4)&&((kids.length:Int)==(p.args.length:Int)))||((p.op==4)&&decide (0<(kids.length:Int))))=true):dU L p o (c+1) a kids s w = [gU kids s w]:=by
 have h5:(p.op==4)=false:=by simpa using h4
 rw [h4,h5] at h;simp at h;exact yY h5 (by omega)
theorem tJ {L:List Ev}{p:Pt}{o:List Pr}{c a:Nat}{kids:List Dv}{s:List Pr}{w:List Lt}(hw:Wf p)(h0:p.op≠0)(h:(((p.op != 4)&&((kids.length:Int)==(p.args.length:Int)))||((p.op==4)&&decide (0<(kids.length:Int))))=true):∃post,dU L p o (c+1) a kids s w=gU kids s w::post:=by
  cases h4:p.op==4 with
  | true=>
    obtain ⟨b,hb⟩:∃b,p.args[kids.length % p.args.length]? = some b:=⟨_,List.getElem?_eq_getElem (Nat.mod_lt _ (hw.some h0))⟩;rw [wR (.inl h4) hb,gh_T h];exact ⟨_,rfl⟩
  | false=>exact ⟨[],nR (by rw [bne,h4];rfl) h⟩
section
variable {L:List Ev} {p b:Pt} {o:List Pr} {n0 c a:Nat} {kids:List Dv} {s:List Pr} {w:List Lt} {caps:List AV} {HK:List Fnd->List HO->Prop}
theorem iI {f:Fnd}{pre post:List Fnd}{W F H3:List HO}{a':Nat}(ih:xJ L p o n0 caps c)(hY:lL (dU L p o (c+1) a kids s w) caps HK)(hgo:dU L p o (c+1) a kids s w=dT L p kids s w++(B6 L b (tL p o s) a).flatMap (hF L p o c a kids s w))
  (he:B6 L b (tL p o s) a=pre++f::post) (hk:HK (dT L p kids s w++pre.flatMap (hF L p o c a kids s w)) H3) (hd:Hz s f.s=true) (hok:LiOK L p o n0 (lM p f.s a) (Ch s f.s)) (hf:FOK L a f) (hfu:fuP L p a kids.length<c+1) (hkc:kids.length+(c+1)<=1048576) (hle:(p.op==4)=false->kids.length+1<=p.args.length) (ha':lM p f.s a=a') (h3:(p.op==4)=true->(p.op != 3)=true) :
  Cb Tryz.prog 91 (W++(F++H3)) [.ptr [.sl 5 (L.map Ec),.int .i64 0],.agg (cPt p),.sl 2 (o.map Ct),.int .i64 (a':Int),.sl 5 (kids.map C6 ++ [cD f.d]),.sl 2 ((Ch s f.s).map Ct),.fn (.func 57) [] caps] (fun r H'=>r = .bool true/\∃H4,H'=W++(F++H4)/\HK (dT L p kids s w++(pre ++ [f]).flatMap (hF L p o c a kids s w)) H4):=by
 subst ha';have hl:=hf.las;have e1:(kids ++ [f.d]).map C6=kids.map C6 ++ [cD f.d]:=by rw [Cy,Ok,Ih]
 have hfu2:fuP L p (lM p f.s a) (kids ++ [f.d]).length<c:=by
  rw [Do,Nb];unfold fuP at hfu ⊢;cases h4:p.op==4 with
  | true=>rw [h4,if_pos rfl] at hfu;rw [if_pos rfl];unfold lM;rw [if_pos (h3 h4)];omega
  | false=>rw [h4,if_neg (by decide)] at hfu;rw [if_neg (by decide)];have:=hle h4;omega
 have key:=ih (lM p f.s a) (kids ++ [f.d]) (Ch s f.s) (w++if flP p then Ng (kids.length % 2==1) f.w else f.w) hok hfu2 (by simp;omega) (fun h4=>by simpa using hle h4)
  (fun pre2 H'=>∃H4,H'=(W++F)++H4/\HK ((dT L p kids s w++pre.flatMap (hF L p o c a kids s w))++pre2) H4) ?_ (W++(F++H3)) ⟨H3,by rw [Cs],by rw [H1];exact hk⟩
 .
  rw [e1] at key;refine key.mono' ?_;rintro r K ⟨rfl,H4,rfl,h4⟩;refine ⟨rfl,H4,by rw [Cs],?_⟩;rw [Nc,G8,List.flatMap_nil,H1,wP hd,<-Cs];exact h4
 rintro F2 pre2 f2 post2 _ he2 ⟨H4,rfl,h4⟩
 have hmid:dU L p o (c+1) a kids s w=((dT L p kids s w++pre.flatMap (hF L p o c a kids s w))++pre2)++f2::(post2++post.flatMap (hF L p o c a kids s w)):=by
  rw [hgo,nE he,wP hd,he2];simp [Cs]
 have h5:=hY (F2++(W++F)) _ f2 _ H4 hmid h4;rw [Cs F2] at h5;refine h5.mono' ?_;rintro r K ⟨rfl,H5,rfl,h6⟩;exact ⟨rfl,(W++F)++H5,by simp [Cs],H5,rfl,by rw [<-Cs];exact h6⟩
theorem iJ {f:Fnd}{pre:List Fnd}{H3:List HO}(hk:HK (dT L p kids s w++pre.flatMap (hF L p o c a kids s w)) H3)(hd:Hz s f.s=false):HK (dT L p kids s w++(pre ++ [f]).flatMap (hF L p o c a kids s w)) H3:=by
 rw [Nc,G8,List.flatMap_nil,gkP_F hd];simpa using hk
theorem oH {W H:List HO}{post:List Fnd}(hY:lL (dU L p o (c+1) a kids s w) caps HK)(hgo:dU L p o (c+1) a kids s w=gU kids s w::post)(hk:HK [] H) :
 Cb Tryz.prog 57 (W++H) (.agg [.int .i64 0,.int .i64 0,.int .i64 0,.int .i64 0,.sl 5 (kids.map C6),.sl 2 (s.map Ct)]::caps) (fun r H'=>r = .bool true/\∃H2,H'=W++H2/\HK [gU kids s w] H2):=hY W [] (gU kids s w) post H hgo hk
end
theorem uB {p:Pt}(h:0<p.args.length)(k:Nat):∃b,p.args[k % p.args.length]? = some b:=⟨_,List.getElem?_eq_getElem (Nat.mod_lt k h)⟩
theorem rA (k m:Nat):Int.tmod (k:Int) (m:Int)=((k % m:Nat):Int):=(Int.ofNat_tmod k m).symm
theorem zV (L:List Ev)(hL:L.length<=10)(p:Pt)(hw:Wf p)(hop0:p.op≠0)(hal:p.args.length<=1048576)(o:List Pr)(n0:Nat)(ho:OutOK L o n0)(caps:List AV)
 (heach:∀a∈p.args,Wp L a) (hfd:∀a∈p.args,∀o' n',n'<=L.length->∀f∈B6 L a o' n',FOK L n' f) (c:Nat) (ih:xJ L p o n0 caps c) (a:Nat) (kids:List Dv) (s:List Pr) (w:List Lt) (hs:LiOK L p o n0 a s) (hfu:fuP L p a kids.length<c+1) (hkc:kids.length+(c+1)<=1048576) (hkl:(p.op==4)=false->kids.length<=p.args.length)
 (HK:List Fnd->List HO->Prop) (hY:lL (dU L p o (c+1) a kids s w) caps HK) (H:List HO) (h00:HK [] H):Cb Tryz.prog 91 H [.ptr [.sl 5 (L.map Ec),.int .i64 0],.agg (cPt p),.sl 2 (o.map Ct),.int .i64 (a:Int),.sl 5 (kids.map C6),.sl 2 (s.map Ct),.fn (.func 57) [] caps] (fun r H'=>r = .bool true/\HK (dU L p o (c+1) a kids s w) H'):=by
 have hL6:L.length<=1048576:=by omega
 have hsl:=hs.len;have hkl6:kids.length<=1048576:=by omega
 have hout:=hs.out hL ho;have hol:=ho.len;have hoL:=ho.le;have hosl:o.length+s.length<=12:=by omega
 have h43:(p.op==4)=true->(p.op != 3)=true:=fun h=>by rw [beq_iff_eq] at h;rw [h];rfl
 refine Cb.bodyM (n:=108) Ai Tryz.func91 rfl rfl rfl fun N0=>?_
 refine Qh.seq ?_;refine Qh.region ?_;refine AOL.Aag (Bt (v:=.ptr _) (cs:=[_]) rfl rfl rfl) rfl (AOL.Aag (Bt (v:=.agg _) (cs:=[.int .i64 _,_,.int .i64 _,.int .i64 _,.int .i64 _,.int .i64 _,.int .i64 _,_,.int .i64 _,.int .i64 _,.int .i64 _,.int .i64 _,.int .i64 _,.str _]) rfl rfl rfl) rfl (AOL.Aag (Bt (v:=.sl _ _) (cs:=[_]) rfl rfl rfl) rfl (AOL.Aag (Bt (v:=.int .i64 _) (cs:=[.int .i64 _]) rfl rfl rfl) rfl (AOL.Aag (Bt (v:=.sl _ _) (cs:=[_]) rfl rfl rfl) rfl (AOL.Aag (Bt (v:=.sl _ _) (cs:=[_]) rfl rfl rfl) rfl (AOL.Aag (Bt (v:=.fn _ _ _) (cs:=[_]) rfl rfl rfl) rfl ?_))))));refine AOL.e (Bh (l:=[.bool false]) (by kernel_rfl)) rfl ?_;rintro _ _ ⟨b14,rfl,rfl⟩;refine AOL.nil (Aa ?_);refine Qh.seq ?_;refine Qh.region ?_;refine AOL.Aag (Af (c:=.sl _ _) Ai rfl rfl rfl) rfl ?_;refine AOL.Aag (Av (n:=kids.length) Ai rfl rfl rfl (by simp)) rfl ?_;refine AOL.e (Bh (l:=[.int .i64 0]) (by kernel_rfl)) rfl ?_;rintro _ _ ⟨b15,rfl,rfl⟩;refine AOL.e (Ao (k:=0) (v:=.int .i64 _) (cs':=[.int .i64 _]) (H2:=_::_::_) Ai rfl rfl rfl rfl (rfl) rfl rfl rfl rfl) rfl ?_;rintro _ _ ⟨rfl,rfl⟩;refine AOL.ghost (GS.Aaj (t:=15) 0 rfl rfl) ?_;refine AOL.nil (Aa ?_);refine Qh.cut (fun (q:List HO)=>(⟨[(7,.ptr [.ptr [.sl 5 (L.map Ec),.int .i64 0]]),(8,.ptr (cPt p)),(9,.ptr [.sl 2 (o.map Ct)]),(10,.ptr [.int .i64 (a:Int)]),(11,.ptr [.sl 5 (kids.map C6)]),(12,.ptr [.sl 2 (s.map Ct)]),(13,.ptr [.fn (.func 57) [] caps]),(14,.val (.pointer (some ⟨b14,0,none⟩))),(15,.ptr [.int .i64 (kids.length:Int)])],.box b14 4 [.bool false]::q,108⟩:St)) (fun (q:List HO)=>HK (dT L p kids s w) q/\((p.op==4)=true\/kids.length≠(wH L p).length)) ?_ ?_
 .
  refine Qh.seq ?_;refine Qh.region ?_;refine AOL.Aag (Ad (cs':=[.int .i64 _,_,.int .i64 _,.int .i64 _,.int .i64 _,.int .i64 _,.int .i64 _,_,.int .i64 _,.int .i64 _,.int .i64 _,.int .i64 _,.int .i64 _,.str _]) Ai rfl rfl rfl rfl rfl rfl) rfl (AOL.Aag (Af (c:=.int .i64 _) Ai rfl rfl rfl) rfl (AOL.Aag (Fk rfl rfl) rfl (AOL.Aag (Ae (v:=.bool _) rfl) rfl (AOL.Aah (y:=.int .i64 _) _ [] rfl (Un.all trivial) (fun hG=>Af (c:=.int .i64 _) Ai rfl rfl rfl) rfl ?_))));refine AOL.Aah (y:=.ptr _) _ [] rfl (Un.all trivial) (fun hG=>Ad (cs':=[_,.int .i64 _,.int .i64 _,.int .i64 _,.int .i64 _,.int .i64 _,_,.int .i64 _,.int .i64 _,.int .i64 _,.int .i64 _,.int .i64 _,.str _]) Ai rfl rfl rfl rfl rfl rfl) rfl ?_;refine AOL.Aah (y:=.sl _ _) _ [(26,_)] rfl (Un.all ⟨Zs.self _ _,trivial⟩) (fun hG=>Af (c:=.sl _ _) Ai rfl rfl rfl) rfl ?_;refine AOL.Aah (y:=.int .i64 _) _ [(27,_)] rfl (Un.all ⟨Zs.self _ _,trivial⟩) (fun hG=>Av (n:=p.args.length) Ai rfl rfl rfl (by simp)) rfl ?_;refine AOL.Aah (y:=.bool _) _ [(25,_),(28,_)] rfl (Un.all ⟨Zs.self _ _,Zs.self _ _,trivial⟩) (fun hG=>Ez rfl rfl) rfl ?_;refine AOL.Aag (Bc rfl rfl rfl) rfl (AOL.Aag (Ae (v:=.bool _) rfl) rfl (AOL.Aah (y:=.ptr _) _ [] rfl (Un.all trivial) (fun hG=>Ad (cs':=[.int .i64 _,_,.int .i64 _,.int .i64 _,.int .i64 _,.int .i64 _,.int .i64 _,_,.int .i64 _,.int .i64 _,.int .i64 _,.int .i64 _,.int .i64 _,.str _]) Ai rfl rfl rfl rfl rfl rfl) rfl ?_));refine AOL.Aah (y:=.int .i64 _) _ [(32,_)] rfl (Un.all ⟨Zs.self _ _,trivial⟩) (fun hG=>Af (c:=.int .i64 _) Ai rfl rfl rfl) rfl ?_;refine AOL.Aah (y:=.bool _) _ [(33,_)] rfl (Un.all ⟨Zs.self _ _,trivial⟩) (fun hG=>Ez rfl rfl) rfl ?_;refine AOL.Aah (y:=.bool _) _ [(34,_)] rfl (Un.all ⟨Zs.self _ _,trivial⟩) (fun hG=>Ae (v:=.bool _) rfl) rfl ?_;refine AOL.Aah (y:=.int .i64 _) _ [] rfl (Un.all trivial) (fun hG=>Af (c:=.int .i64 _) Ai rfl rfl rfl) rfl ?_;refine AOL.Aah (y:=.bool _) _ [(36,_)] rfl (Un.all ⟨Zs.self _ _,trivial⟩) (fun hG=>Gy rfl rfl) rfl ?_;refine AOL.Aah (y:=.bool _) _ [(35,_),(37,_)] rfl (Un.all ⟨Zs.self _ _,Zs.suf _ _ _,trivial⟩) (fun hG=>Bc rfl rfl rfl) rfl ?_;refine AOL.Aag (E7 rfl rfl rfl) rfl (AOL.nil (Aa ?_));refine Qh.cond (b:=_) rfl (fun hc1=>?_) (fun hc1=>?_)
  .
   refine (tJ (L:=L) (p:=p) (o:=o) (c:=c) (a:=a) (kids:=kids) (s:=s) (w:=w) hw hop0 hc1).elim fun post9 hgh=>?_
   refine Qh.seq ?_;refine Qh.seq ?_;refine Qh.draw mixed (fun _=>True) trivial (by kernel_rfl) ?_;refine E5.pure _ _ 0 _ _ rfl (by kernel_rfl) (by kernel_rfl) rfl (.run rfl (Af (c:=.fn _ _ _) Ai rfl rfl rfl)) ?_;refine E5.pure _ _ 1 _ _ rfl (by kernel_rfl) (by kernel_rfl) rfl (.run rfl (Af (c:=.sl _ _) Ai rfl rfl rfl)) ?_;refine E5.pure _ _ 2 _ _ rfl (by kernel_rfl) (by kernel_rfl) rfl (.run rfl (Ak (by kernel_rfl) rfl rfl (sT kids hkl6))) ?_;refine E5.pure _ _ 3 _ _ rfl (by kernel_rfl) (by kernel_rfl) rfl (.run rfl (C3 (l:=[.int .i64 _,.int .i64 _,.int .i64 _,.int .i64 _,_]) Ai rfl rfl rfl)) ?_;refine E5.pure _ _ 4 _ _ rfl (by kernel_rfl) (by kernel_rfl) rfl (.run rfl (Af (c:=.sl _ _) Ai rfl rfl rfl)) ?_;refine E5.pure _ _ 5 _ _ rfl (by kernel_rfl) (by kernel_rfl) rfl (.run rfl (C3 (l:=[.int .i64 _,.int .i64 _,.int .i64 _,.int .i64 _,_,_]) Ai rfl rfl rfl)) ?_;refine E5.eff _ _ 6 _ _ rfl (by kernel_rfl) rfl rfl (Pl (by kernel_rfl) rfl rfl rfl (oH (W:=[HO.box b14 4 [.bool false]]) hY hgh h00)) (fun _ _ _=>trivial) ?_;rintro _ _ ⟨rfl,H5,rfl,hH5⟩;refine E5.pure _ _ 7 _ _ rfl (by kernel_rfl) (by kernel_rfl) rfl (.run rfl (F6 rfl)) ?_;refine E5.done _ _ (by kernel_rfl) ?_;refine Aa ?_;refine Qh.cond (b:=_) rfl (fun hc2=>?_) (fun hc2=>?_)
   . cases hc2
   refine Qh.skip ?_;refine Aa ?_;refine Qh.seq ?_;refine Qh.region ?_;refine AOL.Aag (Ad (cs':=[.int .i64 _,_,.int .i64 _,.int .i64 _,.int .i64 _,.int .i64 _,.int .i64 _,_,.int .i64 _,.int .i64 _,.int .i64 _,.int .i64 _,.int .i64 _,.str _]) Ai rfl rfl rfl rfl rfl rfl) rfl (AOL.Aag (Af (c:=.int .i64 _) Ai rfl rfl rfl) rfl (AOL.Aag (Fk rfl rfl) rfl (AOL.nil (Aa ?_))));refine Qh.cond (b:=_) rfl (fun hc3=>?_) (fun hc3=>?_)
   .
    refine Qh.seq ?_;refine Qh.region ?_;refine AOL.e (Ao (k:=0) (v:=.bool _) (cs':=[.bool _]) (H2:=_::_) Ai rfl rfl rfl rfl (rfl) rfl rfl rfl rfl) rfl ?_;rintro _ _ ⟨rfl,rfl⟩;refine AOL.nil (Aa ?_);refine Qh.ret ?_;refine Ap ?_;refine ⟨.inr rfl,[.bool _],.cons (.boxs _ _ _ 0 _ _ _ rfl _ rfl rfl rfl) <| .nil,_,.cons _ (.refl _),?_⟩;exact ⟨rfl,by rw [nR hc3 hc1];exact hH5⟩
   refine Qh.skip ?_;refine Aa ?_;refine ⟨H5,?_,GS.weaken ⟨rfl,rfl,rfl,rfl,rfl,rfl,rfl,rfl,rfl,trivial⟩ (.refl _)⟩;exact ⟨by rw [gh_T hc1];exact hH5,.inl (by simpa using hc3)⟩
  refine Qh.skip ?_;refine Aa ?_;refine ⟨H,?_,GS.weaken ⟨rfl,rfl,rfl,rfl,rfl,rfl,rfl,rfl,rfl,trivial⟩ (.refl _)⟩;exact ⟨by rw [(gh_F (L:=L) (p:=p) (kids:=kids) (s:=s) (w:=w) hc1).1];exact h00,(gh_F (L:=L) (p:=p) (kids:=kids) (s:=s) (w:=w) hc1).2⟩
 rintro q ⟨hq,hmore⟩;refine (uB (hw.some hop0) kids.length).elim fun b hb=>?_
 have hbm:=A0 hb;have hgo:=wR (c:=c) (a:=a) (o:=o) (s:=s) (w:=w) hmore hb;have hmd:=rA kids.length p.args.length
 have hle:(p.op==4)=false->kids.length+1<=p.args.length:=fun h4=>by
  have h8:=hkl h4;rcases hmore with h9 | h9
  . rw [h4] at h9;cases h9
  rw [Ua] at h9;omega
 have hlt9:kids.length % p.args.length<p.args.length:=Nat.mod_lt _ (hw.some hop0);refine Qh.seq ?_;refine Qh.region ?_;refine AOL.Aag (Af (c:=.sl _ _) Ai rfl rfl rfl) rfl (AOL.Aag (Ag (v:=.sl _ _) rfl) rfl (AOL.nil (Aa ?_)));refine Qh.cut (fun (_:Unit)=>(⟨[(7,.ptr [.ptr [.sl 5 (L.map Ec),.int .i64 0]]),(8,.ptr (cPt p)),(9,.ptr [.sl 2 (o.map Ct)]),(10,.ptr [.int .i64 (a:Int)]),(11,.ptr [.sl 5 (kids.map C6)]),(12,.ptr [.sl 2 (s.map Ct)]),(13,.ptr [.fn (.func 57) [] caps]),(14,.val (.pointer (some ⟨b14,0,none⟩))),(15,.ptr [.int .i64 (kids.length:Int)]),(16,.sl 2 ((tL p o s).map Ct))],.box b14 4 [.bool false]::q,108⟩:St)) (fun (_:Unit)=>True) ?_ ?_
 .
  refine Qh.seq ?_;refine Qh.region ?_;refine AOL.Aag (Ad (cs':=[.int .i64 _,_,.int .i64 _,.int .i64 _,.int .i64 _,.int .i64 _,.int .i64 _,_,.int .i64 _,.int .i64 _,.int .i64 _,.int .i64 _,.int .i64 _,.str _]) Ai rfl rfl rfl rfl rfl rfl) rfl (AOL.Aag (Af (c:=.int .i64 _) Ai rfl rfl rfl) rfl (AOL.Aag (Fk rfl rfl) rfl (AOL.nil (Aa ?_))));refine Qh.cond (b:=_) rfl (fun hc4=>?_) (fun hc4=>?_)
  .
   refine Qh.region ?_;refine AOL.Aag (Af (c:=.sl _ _) Ai rfl rfl rfl) rfl (AOL.Aag (Af (c:=.sl _ _) Ai rfl rfl rfl) rfl ?_);refine AOL.Aag (Ak (by kernel_rfl) rfl rfl (Q4 o s hosl)) rfl ?_;refine AOL.Aag (Ag (v:=.sl _ _) rfl) rfl (AOL.nil (Aa ?_));refine ⟨(),?_,GS.weaken ⟨rfl,rfl,rfl,rfl,rfl,rfl,rfl,rfl,rfl,congrArg (fun l:List Pr=>AV.sl 2 (l.map Ct)) (if_pos hc4).symm,trivial⟩ (.refl _)⟩
   trivial
  refine Qh.skip ?_;refine Aa ?_;refine ⟨(),?_,GS.weaken ⟨rfl,rfl,rfl,rfl,rfl,rfl,rfl,rfl,rfl,congrArg (fun l:List Pr=>AV.sl 2 (l.map Ct)) (Ep hc4).symm,trivial⟩ (.refl _)⟩
  trivial
 rintro _ _;refine Qh.seq ?_;refine Qh.seq ?_;refine Qh.draw mixed (fun _=>True) trivial (by kernel_rfl) ?_;refine E5.pure _ _ 0 _ _ rfl (by kernel_rfl) (by kernel_rfl) rfl (.run rfl (Af (c:=.ptr _) Ai rfl rfl rfl)) ?_;refine E5.pure _ _ 1 _ _ rfl (by kernel_rfl) (by kernel_rfl) rfl (.run rfl (Ad (cs':=[_,.int .i64 _,.int .i64 _,.int .i64 _,.int .i64 _,.int .i64 _,_,.int .i64 _,.int .i64 _,.int .i64 _,.int .i64 _,.int .i64 _,.str _]) Ai rfl rfl rfl rfl rfl rfl)) ?_;refine E5.pure _ _ 2 _ _ rfl (by kernel_rfl) (by kernel_rfl) rfl (.run rfl (Af (c:=.sl _ _) Ai rfl rfl rfl)) ?_;refine E5.pure _ _ 3 _ _ rfl (by kernel_rfl) (by kernel_rfl) rfl (.run rfl (Af (c:=.int .i64 _) Ai rfl rfl rfl)) ?_;refine E5.pure _ _ 4 _ _ rfl (by kernel_rfl) (by kernel_rfl) rfl (.run rfl (Ad (cs':=[_,.int .i64 _,.int .i64 _,.int .i64 _,.int .i64 _,.int .i64 _,_,.int .i64 _,.int .i64 _,.int .i64 _,.int .i64 _,.int .i64 _,.str _]) Ai rfl rfl rfl rfl rfl rfl)) ?_;refine E5.pure _ _ 5 _ _ rfl (by kernel_rfl) (by kernel_rfl) rfl (.run rfl (Af (c:=.sl _ _) Ai rfl rfl rfl)) ?_;refine E5.pure _ _ 6 _ _ rfl (by kernel_rfl) (by kernel_rfl) rfl (.run rfl (Av (n:=p.args.length) Ai rfl rfl rfl (by simp))) ?_;refine E5.pure _ _ 7 _ _ rfl (by kernel_rfl) (by kernel_rfl) rfl (.run rfl (P_rem rfl rfl (by omega))) ?_;refine E5.pure _ _ 8 _ _ rfl (by kernel_rfl) (by kernel_rfl) rfl (.run rfl (Am (c:=cPt b) Ai rfl rfl rfl rfl rfl rfl (by omega) (by rw [hmd,Jy];exact Jo hb))) ?_;refine E5.pure _ _ 9 _ _ rfl (by kernel_rfl) (by kernel_rfl) rfl (.run rfl (Ah (l:=[.int .i64 _,_,.int .i64 _,.int .i64 _,.int .i64 _,.int .i64 _,.int .i64 _,_,.int .i64 _,.int .i64 _,.int .i64 _,.int .i64 _,.int .i64 _,.str _]) Ai rfl rfl rfl rfl rfl)) ?_;refine E5.pure _ _ 10 _ _ rfl (by kernel_rfl) (by kernel_rfl) rfl (.run rfl (Ae (v:=.sl _ _) rfl)) ?_;refine E5.pure _ _ 11 _ _ rfl (by kernel_rfl) (by kernel_rfl) rfl (.run rfl (Af (c:=.int .i64 _) Ai rfl rfl rfl)) ?_;refine E5.pure _ _ 12 _ _ rfl (by kernel_rfl) (by kernel_rfl) rfl (.run rfl (Ak (by kernel_rfl) rfl rfl (Y3 L b (tL p o s) a))) ?_;refine E5.done _ _ (by kernel_rfl) ?_;refine Aa ?_;refine Qh.block ?_;refine Qh.range (fun H2=>∃H3:List HO,H2=([HO.box b14 4 [.bool false]]++H3)/\HK (dT L p kids s w++((B6 L b (tL p o s) a)).flatMap (hF L p o c a kids s w)) H3) (fun _ _=>False) rfl (by kernel_rfl) (fun rec l g1 w1 hst hpe hps has hbo hsz htm=>?_) (fun H2 hZ=>?_) (fun _ _ h=>h.elim)
 .
  refine Cb.post (heach b hbm _ a hout l rec (by rw [hps];rfl) (fun pre Hx=>∃H3:List HO,Hx=(.obj l (.loop rec) :: .since g1 w1::([HO.box b14 4 [.bool false]]++H3))/\HK (dT L p kids s w++(pre).flatMap (hF L p o c a kids s w)) H3) (by rintro pre _ ⟨H3,rfl,_⟩;exact ⟨0,rfl⟩) ?_ _ ⟨_,rfl,(by simpa using hq)⟩) ?_
  .
   rintro F pre f post _ he ⟨H3,rfl,hk⟩;have hfo:=hfd b hbm (tL p o s) a hs.hi f (Yz he);have hfl:=hfo.las;have hfl6:f.s.length<=1048576:=by have:=hfo.len;clear hsz htm has hbo hps;omega
   have hla6:lasP f.s<=1048576:=by clear hsz htm has hbo hps;omega
   refine rr (W:=[HO.box b14 4 [.bool false]]) (Q:=HK (dT L p kids s w++((pre ++ [f])).flatMap (hF L p o c a kids s w))) ?_;refine eZ has hbo hst hpe hsz (R0 hps hsz rfl ⟨1,rfl⟩ htm) ?_;clear hsz htm;refine Qi.region (by kernel_rfl) ?_;refine AOL.e (Bh (l:=[.int .i64 0,.int .i64 0,.int .i64 0,.int .i64 0,.sl 5 [],.sl 2 []]) (by kernel_rfl)) rfl ?_;rintro _ _ ⟨b17,rfl,rfl⟩;refine AOL.e (Ao (k:=0) (v:=.agg _) (cs':=[.int .i64 _,.int .i64 _,.int .i64 _,.int .i64 _,_,_]) (H2:=_::_::_::_::_) Ai rfl rfl rfl rfl (rfl) rfl rfl rfl rfl) rfl ?_;rintro _ _ ⟨rfl,rfl⟩;refine AOL.ghost (GS.Aaj (t:=17) 0 rfl rfl) ?_;refine AOL.nil ?_;refine ⟨rfl,0,rfl,?_⟩;refine Qi.block ?_;refine Qi.seq ?_;refine Qi.region (by kernel_rfl) ?_;refine AOL.Aag (Af (c:=.int .i64 _) Ai rfl rfl rfl) rfl (AOL.Aag (Ag (v:=.int .i64 _) rfl) rfl (AOL.nil (Aa ?_)));refine Qi.seq ?_;refine Qi.seq ?_;refine Qi.region (by kernel_rfl) ?_;refine AOL.Aag (Ad (cs':=[.int .i64 _,_,.int .i64 _,.int .i64 _,.int .i64 _,.int .i64 _,.int .i64 _,_,.int .i64 _,.int .i64 _,.int .i64 _,.int .i64 _,.int .i64 _,.str _]) Ai rfl rfl rfl rfl rfl rfl) rfl (AOL.Aag (Af (c:=.int .i64 _) Ai rfl rfl rfl) rfl (AOL.Aag (Fk rfl rfl) rfl (AOL.nil (Aa ?_))));refine Qi.cond (b:=_) rfl (fun hc5=>?_) (fun hc5=>?_)
   .
    have hA:lM p f.s a=lasP f.s+1:=if_pos hc5;refine Qi.region (by kernel_rfl) ?_;refine AOL.Aag (Ad (cs':=[_]) Ai rfl rfl rfl rfl rfl rfl) rfl (AOL.Aag (Af (c:=.sl _ _) Ai rfl rfl rfl) rfl ?_);refine AOL.Aag (Ak (by kernel_rfl) rfl rfl (mI f.s hfo.ne hfl6 hla6)) rfl ?_;refine AOL.Aag (Ag (v:=.int .i64 _) rfl) rfl (AOL.nil (Aa ?_));refine Qi.seq ?_;refine Qi.seq ?_;refine Qi.region (by kernel_rfl) ?_;refine AOL.Aag (Af (c:=.sl _ _) Ai rfl rfl rfl) rfl (AOL.Aag (Ad (cs':=[_]) Ai rfl rfl rfl rfl rfl rfl) rfl (AOL.Aag (Af (c:=.sl _ _) Ai rfl rfl rfl) rfl ?_));refine AOL.Aag (Ak (by kernel_rfl) rfl rfl (wB s f.s)) rfl ?_;refine AOL.Aag (F6 rfl) rfl (AOL.nil (Aa ?_));refine Qi.cond (b:=_) rfl (fun hc6=>?_) (fun hc6=>?_)
    .
     have hdf:Hz s f.s=false:=by simpa using hc6
     refine Qi.exit ?_;refine A1 (Cd ?_);exact ⟨0,rfl,rfl,rfl,H3,rfl,iJ hk hdf⟩
    have hdt:Hz s f.s=true:=by simpa using hc6
    have hst:=LiOK.step hL hs hfo hdt;have hst2:=hst.2;have hsf:s.length+f.s.length<=12:=by omega
    refine Qi.skip ?_;refine Aa ?_;refine Qi.seq ?_;refine Qi.draw mixed (fun _=>True) trivial (by kernel_rfl) ?_;refine E5.pure _ _ 0 _ _ rfl (by kernel_rfl) (by kernel_rfl) rfl (.run rfl (Af (c:=.ptr _) Ai rfl rfl rfl)) ?_;refine E5.pure _ _ 1 _ _ rfl (by kernel_rfl) (by kernel_rfl) rfl (.run rfl (Ah (l:=[.int .i64 _,_,.int .i64 _,.int .i64 _,.int .i64 _,.int .i64 _,.int .i64 _,_,.int .i64 _,.int .i64 _,.int .i64 _,.int .i64 _,.int .i64 _,.str _]) Ai rfl rfl rfl rfl rfl)) ?_;refine E5.pure _ _ 2 _ _ rfl (by kernel_rfl) (by kernel_rfl) rfl (.run rfl (Af (c:=.sl _ _) Ai rfl rfl rfl)) ?_;refine E5.pure _ _ 3 _ _ rfl (by kernel_rfl) (by kernel_rfl) rfl (.run rfl (Ae (v:=.int .i64 _) rfl)) ?_;refine E5.pure _ _ 4 _ _ rfl (by kernel_rfl) (by kernel_rfl) rfl (.run rfl (Af (c:=.sl _ _) Ai rfl rfl rfl)) ?_;refine E5.pure _ _ 5 _ _ rfl (by kernel_rfl) (by kernel_rfl) rfl (.run rfl (Af (c:=.int .i64 _) Ai rfl rfl rfl)) ?_;refine E5.pure _ _ 6 _ _ rfl (by kernel_rfl) (by kernel_rfl) rfl (.run rfl (Af (c:=.int .i64 _) Ai rfl rfl rfl)) ?_;refine E5.pure _ _ 8 _ _ rfl (by kernel_rfl) (by kernel_rfl) rfl (.run rfl (Ad (cs':=[.int .i64 _,.int .i64 _,.int .i64 _,.int .i64 _,_,_]) Ai rfl rfl rfl rfl rfl rfl)) ?_;refine E5.pure _ _ 9 _ _ rfl (by kernel_rfl) (by kernel_rfl) rfl (.run rfl (Ah (l:=[.int .i64 _,.int .i64 _,.int .i64 _,.int .i64 _,_]) Ai rfl rfl rfl rfl rfl)) ?_;refine E5.pure _ _ 10 _ _ rfl (by kernel_rfl) (by kernel_rfl) rfl (.run rfl (Bw (es:=[[.int .i64 _,.int .i64 _,.int .i64 _,.int .i64 _,_]]) Ai rfl rfl rfl rfl rfl rfl rfl rfl rfl)) ?_;refine E5.pure _ _ 12 _ _ rfl (by kernel_rfl) (by kernel_rfl) rfl (.run rfl (Af (c:=.sl _ _) Ai rfl rfl rfl)) ?_;refine E5.pure _ _ 13 _ _ rfl (by kernel_rfl) (by kernel_rfl) rfl (.run rfl (Ad (cs':=[_]) Ai rfl rfl rfl rfl rfl rfl)) ?_;refine E5.pure _ _ 14 _ _ rfl (by kernel_rfl) (by kernel_rfl) rfl (.run rfl (Af (c:=.sl _ _) Ai rfl rfl rfl)) ?_;refine E5.pure _ _ 16 _ _ rfl (by kernel_rfl) (by kernel_rfl) rfl (.run rfl (Af (c:=.fn _ _ _) Ai rfl rfl rfl)) ?_;refine E5.eff _ _ 7 _ _ rfl (by kernel_rfl) rfl rfl (Zw Ai rfl rfl rfl rfl rfl rfl rfl (by simp)) (fun _ _ _=>trivial) ?_;rintro _ _ ⟨a91,rfl,rfl⟩;refine E5.pure _ _ 11 _ _ rfl (by kernel_rfl) (by kernel_rfl) rfl (.run rfl (Qm Ai rfl (by simp) rfl rfl rfl rfl rfl rfl (by simp) (Hn rfl) (scD _) (by simp;omega) (by simp [maxLen];omega))) ?_;refine E5.pure _ _ 15 _ _ rfl (by kernel_rfl) (by kernel_rfl) rfl (.run rfl (Ak (by kernel_rfl) rfl rfl (Q4 s f.s hsf))) ?_;refine E5.eff _ _ 17 _ _ rfl (by kernel_rfl) rfl rfl (C2 (by kernel_rfl) rfl rfl (iI (W:=.obj l (.loop { rec with state:=.busy }) :: .since g1 w1 :: [HO.box b14 4 [.bool false]]) ih hY hgo he hk hdt hst.1 hfo hfu hkc hle hA h43)) (fun _ _ _=>trivial) ?_;rintro _ _ ⟨rfl,H5,rfl,hH5⟩
    refine E5.pure _ _ 18 _ _ rfl (by kernel_rfl) (by kernel_rfl) rfl (.run rfl (F6 rfl)) ?_;refine E5.done _ _ (by kernel_rfl) ?_;refine Aa ?_;refine Qi.cond (b:=_) rfl (fun hc7=>?_) (fun hc7=>?_)
    . cases hc7
    refine Qi.skip ?_;refine C9 ?_;exact ⟨0,rfl,rfl,rfl,H5,rfl,hH5⟩
   have hA:lM p f.s a=a:=Ep hc5;refine Qi.skip ?_;refine Aa ?_;refine Qi.seq ?_;refine Qi.seq ?_;refine Qi.region (by kernel_rfl) ?_;refine AOL.Aag (Af (c:=.sl _ _) Ai rfl rfl rfl) rfl (AOL.Aag (Ad (cs':=[_]) Ai rfl rfl rfl rfl rfl rfl) rfl (AOL.Aag (Af (c:=.sl _ _) Ai rfl rfl rfl) rfl ?_));refine AOL.Aag (Ak (by kernel_rfl) rfl rfl (wB s f.s)) rfl ?_;refine AOL.Aag (F6 rfl) rfl (AOL.nil (Aa ?_));refine Qi.cond (b:=_) rfl (fun hc8=>?_) (fun hc8=>?_)
   .
    have hdf:Hz s f.s=false:=by simpa using hc8
    refine Qi.exit ?_;refine A1 (Cd ?_);exact ⟨0,rfl,rfl,rfl,H3,rfl,iJ hk hdf⟩
   have hdt:Hz s f.s=true:=by simpa using hc8
   have hst:=LiOK.step hL hs hfo hdt;have hst2:=hst.2;have hsf:s.length+f.s.length<=12:=by omega
   refine Qi.skip ?_;refine Aa ?_;refine Qi.seq ?_;refine Qi.draw mixed (fun _=>True) trivial (by kernel_rfl) ?_;refine E5.pure _ _ 0 _ _ rfl (by kernel_rfl) (by kernel_rfl) rfl (.run rfl (Af (c:=.ptr _) Ai rfl rfl rfl)) ?_;refine E5.pure _ _ 1 _ _ rfl (by kernel_rfl) (by kernel_rfl) rfl (.run rfl (Ah (l:=[.int .i64 _,_,.int .i64 _,.int .i64 _,.int .i64 _,.int .i64 _,.int .i64 _,_,.int .i64 _,.int .i64 _,.int .i64 _,.int .i64 _,.int .i64 _,.str _]) Ai rfl rfl rfl rfl rfl)) ?_;refine E5.pure _ _ 2 _ _ rfl (by kernel_rfl) (by kernel_rfl) rfl (.run rfl (Af (c:=.sl _ _) Ai rfl rfl rfl)) ?_;refine E5.pure _ _ 3 _ _ rfl (by kernel_rfl) (by kernel_rfl) rfl (.run rfl (Ae (v:=.int .i64 _) rfl)) ?_;refine E5.pure _ _ 4 _ _ rfl (by kernel_rfl) (by kernel_rfl) rfl (.run rfl (Af (c:=.sl _ _) Ai rfl rfl rfl)) ?_;refine E5.pure _ _ 5 _ _ rfl (by kernel_rfl) (by kernel_rfl) rfl (.run rfl (Af (c:=.int .i64 _) Ai rfl rfl rfl)) ?_;refine E5.pure _ _ 6 _ _ rfl (by kernel_rfl) (by kernel_rfl) rfl (.run rfl (Af (c:=.int .i64 _) Ai rfl rfl rfl)) ?_;refine E5.pure _ _ 8 _ _ rfl (by kernel_rfl) (by kernel_rfl) rfl (.run rfl (Ad (cs':=[.int .i64 _,.int .i64 _,.int .i64 _,.int .i64 _,_,_]) Ai rfl rfl rfl rfl rfl rfl)) ?_;refine E5.pure _ _ 9 _ _ rfl (by kernel_rfl) (by kernel_rfl) rfl (.run rfl (Ah (l:=[.int .i64 _,.int .i64 _,.int .i64 _,.int .i64 _,_]) Ai rfl rfl rfl rfl rfl)) ?_;refine E5.pure _ _ 10 _ _ rfl (by kernel_rfl) (by kernel_rfl) rfl (.run rfl (Bw (es:=[[.int .i64 _,.int .i64 _,.int .i64 _,.int .i64 _,_]]) Ai rfl rfl rfl rfl rfl rfl rfl rfl rfl)) ?_;refine E5.pure _ _ 12 _ _ rfl (by kernel_rfl) (by kernel_rfl) rfl (.run rfl (Af (c:=.sl _ _) Ai rfl rfl rfl)) ?_;refine E5.pure _ _ 13 _ _ rfl (by kernel_rfl) (by kernel_rfl) rfl (.run rfl (Ad (cs':=[_]) Ai rfl rfl rfl rfl rfl rfl)) ?_;refine E5.pure _ _ 14 _ _ rfl (by kernel_rfl) (by kernel_rfl) rfl (.run rfl (Af (c:=.sl _ _) Ai rfl rfl rfl)) ?_;refine E5.pure _ _ 16 _ _ rfl (by kernel_rfl) (by kernel_rfl) rfl (.run rfl (Af (c:=.fn _ _ _) Ai rfl rfl rfl)) ?_;refine E5.eff _ _ 7 _ _ rfl (by kernel_rfl) rfl rfl (Zw Ai rfl rfl rfl rfl rfl rfl rfl (by simp)) (fun _ _ _=>trivial) ?_;rintro _ _ ⟨a91,rfl,rfl⟩;refine E5.pure _ _ 11 _ _ rfl (by kernel_rfl) (by kernel_rfl) rfl (.run rfl (Qm Ai rfl (by simp) rfl rfl rfl rfl rfl rfl (by simp) (Hn rfl) (scD _) (by simp;omega) (by simp [maxLen];omega))) ?_;refine E5.pure _ _ 15 _ _ rfl (by kernel_rfl) (by kernel_rfl) rfl (.run rfl (Ak (by kernel_rfl) rfl rfl (Q4 s f.s hsf))) ?_;refine E5.eff _ _ 17 _ _ rfl (by kernel_rfl) rfl rfl (C2 (by kernel_rfl) rfl rfl (iI (W:=.obj l (.loop { rec with state:=.busy }) :: .since g1 w1 :: [HO.box b14 4 [.bool false]]) ih hY hgo he hk hdt hst.1 hfo hfu hkc hle hA h43)) (fun _ _ _=>trivial) ?_;rintro _ _ ⟨rfl,H5,rfl,hH5⟩
   refine E5.pure _ _ 18 _ _ rfl (by kernel_rfl) (by kernel_rfl) rfl (.run rfl (F6 rfl)) ?_;refine E5.done _ _ (by kernel_rfl) ?_;refine Aa ?_;refine Qi.cond (b:=_) rfl (fun hc9=>?_) (fun hc9=>?_)
   . cases hc9
   refine Qi.skip ?_;refine C9 ?_;exact ⟨0,rfl,rfl,rfl,H5,rfl,hH5⟩
  rintro r K ⟨rfl,H3,rfl,hk⟩;exact ⟨_,.refl _,rec,_,rfl,by rw [hst];decide,Or.inl ⟨hpe,H3,rfl,hk⟩⟩
 obtain ⟨H3,rfl,hH3⟩:=hZ;refine C9 (Aa ?_);refine Qh.seq ?_;refine Qh.region ?_;refine AOL.Aag (Af (c:=.ptr _) Ai rfl rfl rfl) rfl (AOL.Aag (B4 rfl) rfl (AOL.Aag (Ad (cs':=[.int .i64 _]) Ai rfl rfl rfl rfl rfl rfl) rfl (AOL.Aag (Af (c:=.int .i64 _) Ai rfl rfl rfl) rfl (AOL.Aag (Ez rfl rfl) rfl (AOL.e (Ao (k:=0) (v:=.bool _) (cs':=[.bool _]) (H2:=_::_) Ai rfl rfl rfl rfl (rfl) rfl rfl rfl rfl) rfl ?_)))));rintro _ _ ⟨rfl,rfl⟩;refine AOL.nil (Aa ?_);refine Qh.ret ?_;refine ⟨.inr rfl,[.bool _],.cons (.boxs _ _ _ 0 _ _ _ rfl _ rfl rfl rfl) <| .nil,_,.cons _ (.refl _),?_⟩;exact ⟨rfl,by rw [hgo];exact hH3⟩
theorem Td {f:FuncId}{H:List HO}{args args':List AV}{R:AV->List HO->Prop}(hl:args.length=args'.length)(h:∀(i:Nat) (x:AV),args'[i]? = some x->∃y,args[i]? = some y/\∀g w v,Rep g w v y->Rep g w v x)(hc:Cb Tryz.prog f H args' R):Cb Tryz.prog f H args R:=by
 intro g w vs hH hr;refine hc g w vs hH ⟨hr.1.trans hl,fun i x hi=>?_⟩;obtain ⟨y,hy,hx⟩:=h i x hi;exact hx g w _ (hr.2 i y hy)
theorem Ue {z:Nat}:∀g w v,Rep g w v (.val (.slice none 0 0))->Rep g w v (.sl z []):=fun g w v h=>by
 rw [h.inv_val];exact .sl0 _ _ _ (Bn _)
theorem oS {H:List HO}{x0 x1 x2 x3 x6:AV}{R:AV->List HO->Prop}(hc:Cb Tryz.prog 91 H [x0,x1,x2,x3,.sl 5 [],.sl 2 [],x6] R):Cb Tryz.prog 91 H [x0,x1,x2,x3,.val (.slice none 0 0),.val (.slice none 0 0),x6] R:=
 Td (args':=[x0,x1,x2,x3,.sl 5 [],.sl 2 [],x6]) rfl (fun i x hi=>by
  match i,hi with
  | 0,hi=>exact ⟨_,rfl,by cases hi;exact fun _ _ _ h=>h⟩
  | 1,hi=>exact ⟨_,rfl,by cases hi;exact fun _ _ _ h=>h⟩
  | 2,hi=>exact ⟨_,rfl,by cases hi;exact fun _ _ _ h=>h⟩
  | 3,hi=>exact ⟨_,rfl,by cases hi;exact fun _ _ _ h=>h⟩
  | 4,hi=>exact ⟨_,rfl,by cases hi;exact Ue⟩
  | 5,hi=>exact ⟨_,rfl,by cases hi;exact Ue⟩
  | 6,hi=>exact ⟨_,rfl,by cases hi;exact fun _ _ _ h=>h⟩
  | n+7,hi=>cases hi) hc
theorem vS {en:List Fnd}{caps:List AV}{HK:List Fnd->List HO->Prop}(h:lL en caps HK)(F:List HO):lL en caps (fun pre H'=>∃H2,H'=F++H2/\HK pre H2):=by
 rintro F2 pre f post _ he ⟨H2,rfl,hk⟩;have:=h (F2++F) pre f post H2 he hk;rw [Cs] at this;refine this.mono' ?_;rintro r K ⟨rfl,H3,rfl,h3⟩;exact ⟨rfl,F++H3,by rw [Cs],H3,rfl,h3⟩
theorem tI {L:List Ev}{p:Pt}(h0:(p.op==0)=false)(h2:(p.op==2)=false)(h:((p.op==1||p.op==3)||p.op==4)=true)(o:List Pr)(n:Nat):B6 L p o n=dU L p o (L.length+p.args.length+1) n [] [] []:=by
 rw [Id];unfold N8;rw [h0,h2,h];show Ps _ _ _ _ _ (L.length+(p.args.map (B6 L)).length+1) _ _ _ _=_;rw [B1];rfl
theorem oG {L:List Ev}(hL:L.length<=10){p:Pt}(hw:Wf p)(hop0:p.op≠0)(hal:p.args.length<=1048576){o:List Pr}{n0:Nat}(ho:OutOK L o n0)(caps:List AV)(heach:∀a∈p.args,Wp L a)(hfd:∀a∈p.args,∀o' n',n'<=L.length->∀f∈B6 L a o' n',FOK L n' f):∀c,xJ L p o n0 caps c
 | 0=>fun a kids s w _ h=>absurd h (Nat.not_lt_zero _)
 | c+1=>fun a kids s w hs hfu hkc hkl HK hY H h00=>zV L hL p hw hop0 hal o n0 ho caps heach hfd c (oG hL hw hop0 hal ho caps heach hfd c) a kids s w hs hfu hkc hkl HK hY H h00
structure PtS (L:List Ev) (p:Pt):Prop where
 wf:dR p
 lp:Lm p<=2
 nd:(Hv p).Nodup
 cond:∀q∈Cw p,B3 q.cond<=1048576
 few:∀q∈Cw p,∀o n,n<=L.length->(B6 L q o n).length<=4096
 len:∀q∈Cw p,q.args.length<=1000
theorem PtS.arg {L:List Ev}{p a:Pt}(h:PtS L p)(ha:a∈p.args):PtS L a:=
 ⟨h.wf.arg ha,by have:=h.lp;rw [Mx] at this;have:=Vt ha;omega,Vs h.nd ha,fun q hq=>h.cond q (Lu ha hq),fun q hq=>h.few q (Lu ha hq),fun q hq=>h.len q (Lu ha hq)⟩
theorem xP {L:List Ev}(hL:L.length<=10)(p:Pt):PtS L p->xI L p:=by
  induction p using Pt.ind with
  | h p ih=>
    intro hp o n ho caps HK hY H h00;have hw:=hp.wf.self;have hal:p.args.length<=1048576:=by have:=hp.len p (Gr p);omega
    have heach:∀a∈p.args,Wp L a:=fun a ha=>gM (ih a ha (hp.arg ha)) fun o n ho=>hp.few a (Lu ha (Gr a)) o n ho.le
    have hfd:∀a∈p.args,∀o' n',n'<=L.length->∀f∈B6 L a o' n',FOK L n' f:=fun a ha o' n' hn=>nF (by omega) (hp.arg ha).wf (hp.arg ha).lp (hp.arg ha).nd hn
    refine n_all L hL p hw (hp.cond p (Gr p)) hal o n ho caps HK hY heach (fun a ha=>hfd a ha o n ho.le) H h00 fun h F=>?_
    have h0:p.op≠0:=fun e=>by rw [e] at h;cases h
    have h2:(p.op==2)=false:=by
      rw [Iu];intro e;rw [e] at h;cases h
    have hen:=tI (L:=L) (p:=p) (by simpa using h0) h2 h o n;have key:=oG hL hw h0 hal ho caps heach hfd (L.length+p.args.length+1) n [] [] [] ⟨cC L,.nil,fun x hx=>(by cases hx),fun _ x hx=>(by cases hx),Bi _,ho.le⟩ (by unfold fuP;rw [K9];split <;> omega) (by have:=hp.len p (Gr p);simp;omega) (fun _=>Bn _) (fun pre H'=>∃H2,H'=F++H2/\HK pre H2) (by rw [<-hen];exact vS hY F) (F++H) ⟨H,rfl,h00⟩;rw [<-hen] at key;exact oS key
theorem sU {L:List Ev}(hL:L.length<=10){p:Pt}(hp:PtS L p):Wp L p:=gM (xP hL p hp) fun o n ho=>hp.few p (Gr p) o n ho.le
end Go.Proofs.YtkdhionilabokaaGreatDoor
