/-
  Walks of layer 11: the sums of the reference. No condition.
-/
import Derived.Test.YtjedflcpjlgokaaGreatDoorAz
import Derived.Test.YtjedflcpjlgokaaGreatDoorK16
import Derived.Test.YtjedflcpjlgokaaGreatDoorK29
import Derived.KernelRfl
namespace Go.Proofs.YtjedflcpjlgokaaGreatDoor
open Go Go.Aw
set_option maxHeartbeats 3200000
set_option maxRecDepth 20000
set_option linter.unusedVariables false
set_option linter.unusedSimpArgs false

theorem oQ (t u:Tm):Ax Tryz.prog 142 [.agg (cE (Fx u)),.agg (cE (Fx t))] (.bool (Pq t u)):=by
 have h:=c20 (Fx u) (Fx t) (by rw [Dp];simp [Fx])
 rw [oZ] at h
 exact h
theorem r_add (R:List HO)(t:Tm)(n:Nat)(b:Int)(hb:b=1∨b = -1)(s:Su)(hs:suOK n s)(hm:n+1≤1048576)(ok:Bool)(v u:Value):Dk Tryz.prog 116 (Rv v u s.ts R) [Up v u s ok,.agg (cE (Fx t)),.int .i64 b] (fun r H'=>∃v' u',u'.oneCell'=true∧r=Up v' u' ⟨Fv t b s.ts,s.rest⟩ ok∧H'=Rv v' u' (Fv t b s.ts) R):=by
 refine Dk.bufOne 1 rfl fun hu1=>?_
 have hsl:=hs.len
 have hcl:(Ve s.ts).length=s.ts.length:=List.length_map ..
 refine Dk.body (n:=44) Ah Tryz.func116 rfl rfl rfl ?_
 refine Ai ?_
 refine Qe (O8 (v:=.agg _) (cs:=[_,_,Iq _,.bool _]) rfl rfl (Jv hu1)) ?_
 rintro _ _ ⟨b3,rfl,rfl⟩
 refine Qp Kx ?_
 refine Qe (Ak (l:=[.sl 8 [],.sl 1 [],.int .i64 0,.bool false]) (by kernel_rfl)) ?_
 rintro _ _ ⟨b6,rfl,rfl⟩
 refine Ag (AW.seq (Ai (Qp Ap (Ag (AW.block ?_)))))
 refine AW.Aao (fun (p:Nat)=>(⟨[(2,.int .i64 b),(3,.val (.pointer (some ⟨b3,0,none⟩))),(4,.ptr (cE (Fx t))),(6,.val (.pointer (some ⟨b6,0,none⟩))),(7,.int .i64 (p:Int))],.box b6 170 [.sl 8 [],.sl 1 [],.int .i64 0,.bool false] :: .box b3 170 [.row v 8 (gU s.ts),.val u,.int .i64 s.rest,.bool ok]::Rv v u s.ts R,44⟩:St)) (fun (p:Nat)=>p≤s.ts.length∧(s.ts.take p).all (fun q=>!Pq t q.1)=true) (fun (p:Nat)=>s.ts.length-p) (0) ?_ (GS.weaken ⟨rfl,rfl,rfl,rfl,rfl,trivial⟩ (.refl _)) ?_
 · exact ⟨Nat.zero_le _,rfl⟩
 ·
  rintro p hR
  refine AW.seq (Ai (Qp Az (Qp Gc ?_)))
  refine AOL.Aas (Am (k:=1) (c:=.row _ _ _) Ah rfl rfl rfl rfl) rfl rfl ?_
  refine Qp (K6 (n:=s.ts.length) Ah rfl rfl rfl (by simp)) ?_
  refine Qp Ch (Ag (A6 (fun hc1=>?_) fun hc1=>?_))
  ·
   obtain ⟨q,hq⟩:=B5 hc1
   have hlt:=A4 hq
   have hqc:=hs.coef q (List.mem_of_getElem? hq)
   refine By (AW.seq (AW.block (AW.seq ?_)))
   refine AW.draw mixed (fun H'=>_∈H') (List.mem_of_getElem? (i:=1) rfl) (by kernel_rfl) ?_
   refine Qn 0 rfl Gc ?_
   refine Qn 1 rfl (OpP.Aaq (fun k=>Am (k:=k) (c:=.row _ _ _) Ah rfl rfl rfl rfl) (fun _ h=>h)) ?_
   refine Qn 2 rfl Az ?_
   refine Qn 3 rfl (Ip (c:=[Iq _,_,Iq _,Iq _,Iq _,Iq _,Iq _,.str _]) Ah rfl rfl rfl rfl rfl rfl (by omega) (Bi hq)) ?_
   refine Qn 4 rfl El (Qn 5 rfl El ?_)
   refine Qn 6 rfl (Qc rfl (oQ t q.1)) ?_
   refine Jn.done _ _ (by kernel_rfl) ?_
   refine Ad (A6 (fun hc2=>?_) fun hc2=>?_)
   ·
    refine AW.seq ?_
    refine AW.unbuf 3 rfl (rCo_ne hq) fun bb cap J hub hcap hcm hJ hz=>?_
    subst hub
    refine AW.region (Qp Gc ?_)
    refine AOL.Aas (Am (k:=1) (c:=.val _) Ah rfl rfl rfl rfl) rfl rfl ?_
    refine Qp Az ?_
    refine Qp (Bh Ah rfl rfl rfl rfl rfl (by omega) (by rw [hcl];omega) (rfl)) ?_
    refine AOL.Aas (Am (k:=3) (c:=.int .i64 q.2) Ah rfl rfl rfl (rCo_at hq)) rfl rfl ?_
    refine Qp Az (Qp Ey ?_)
    refine Qp (Bh Ah rfl rfl rfl rfl rfl (by omega) (by rw [hcl];omega) (rfl)) ?_
    refine Qe (B2 (k:=3) (v:=Iq _) (cs':=_) (H2:=_::_::_::_::_) Ah rfl rfl rfl rfl rfl rfl (rCo_le hq) (rfl) rfl) ?_
    rintro _ _ ⟨rfl,rfl⟩
    refine Ag (AW.seq ?_)
    refine AW.ghost (GS.rebuf (H2:=_::_::_::_::_) 3 ((Ve s.ts).set p [AV.int .i64 (q.2+b)]) J aS rfl (wM hq) (by rw [aS];exact hcap) hcm (by rw [aS];exact hJ) vI rfl) ?_
    refine AW.region ?_
    refine AOL.Aas (A7 (k:=1) (l:=[_,_,Iq _,.bool _]) Ah rfl rfl rfl rfl rfl) rfl rfl ?_
    refine Qe (B2 (k:=0) (v:=.agg _) (cs':=[_,_,Iq _,.bool _]) (H2:=_::_::_::_::_) Ah rfl rfl rfl rfl (Jv (v:=v) rfl) rfl rfl rfl rfl) ?_
    rintro _ _ ⟨rfl,rfl⟩
    refine Ag (AW.ret (Bb (Aj (Aj (Bb (Aj ?_))))))
    refine ⟨.inr rfl,[.agg [_,_,Iq _,.bool _]],.cons (.box _ _ _ 0 _ _ _ _ rfl rfl rfl rfl rfl rfl) <| .nil,_,.cons _ (.cons _ (.refl _)),?_⟩
    exact ⟨_,_,rfl,uO hR.2 hq hc2,rJ hR.2 hq hc2⟩
   ·
    refine AW.skip (Bu (Ad (AW.region (Qp Az (Qp Ey (Qp Ap (Ag ?_)))))))
    refine ⟨p+1,?_,?_,GS.weaken ⟨rfl,rfl,rfl,rfl,rfl,trivial⟩ (.refl _)⟩
    · exact ⟨hlt,by rw [C4 hq,List.all_append,hR.2];simp [hc2]⟩
    · omega
  ·
   have hte:=Cu hc1
   have hall:=hR.2
   rw [hte] at hall
   refine AW.exit ?_
   refine A5 (A5 (Bq (Ad (AW.seq ?_))))
   have hsc:∀c∈gU s.ts,Be c=true:=Ed fun _=>rfl
   refine AW.drawI mixed (fun j H'=>(j==1||j==6)=true→_∈H') (fun _ _=>(List.mem_of_getElem? (i:=1) rfl)) (by kernel_rfl) ?_
   refine CanonI.pure _ _ 0 _ _ rfl (by kernel_rfl) (by kernel_rfl) rfl (.run rfl (G6 Ah rfl rfl rfl rfl rfl rfl)) ?_
   refine CanonI.pure _ _ 1 _ _ rfl (by kernel_rfl) (by kernel_rfl) rfl (.run rfl (OpP.Aaq (fun k=>Am (k:=k) (c:=.row _ _ _) Ah rfl rfl rfl rfl) (fun _ h=>(h rfl)))) ?_
   refine CanonI.pure _ _ 2 _ _ rfl (by kernel_rfl) (by kernel_rfl) rfl (.run rfl (C2 (l:=[Iq _,_,Iq _,Iq _,Iq _,Iq _,Iq _,.str _]) Ah rfl rfl rfl rfl rfl)) ?_
   refine CanonI.pure _ _ 3 _ _ rfl (by kernel_rfl) (by kernel_rfl) rfl (.run rfl (A1 (es:=[[Iq _,_,Iq _,Iq _,Iq _,Iq _,Iq _,.str _]]) Ah rfl rfl rfl rfl rfl rfl rfl rfl rfl)) ?_
   refine CanonI.pure _ _ 5 _ _ rfl (by kernel_rfl) (by kernel_rfl) rfl (.run rfl (G6 Ah rfl rfl rfl rfl rfl rfl)) ?_
   refine CanonI.pure _ _ 6 _ _ rfl (by kernel_rfl) (by kernel_rfl) rfl (.run rfl (OpP.Aaq (fun k=>Am (k:=k) (c:=.val _) Ah rfl rfl rfl rfl) (fun _ h=>(h rfl)))) ?_
   refine CanonI.pure _ _ 7 _ _ rfl (by kernel_rfl) (by kernel_rfl) rfl (.run rfl (Bm (v:=Iq _) rfl)) ?_
   refine CanonI.pure _ _ 8 _ _ rfl (by kernel_rfl) (by kernel_rfl) rfl (.run rfl (A1 (es:=[[Iq _]]) Ah rfl rfl rfl rfl rfl rfl rfl rfl rfl)) ?_
   refine CanonI.eff _ _ 4 _ _ rfl (by kernel_rfl) rfl rfl (C3 (k:=2) Ah rfl rfl rfl rfl rfl rfl rfl rfl (Ff rfl) (hsc) (by simp;omega) (by simp [maxLen];omega)) (by rintro _ _ ⟨v35,rfl,rfl⟩;exact fun _ _=>(List.mem_of_getElem? (i:=1) rfl)) ?_
   rintro _ _ ⟨v35,rfl,rfl⟩
   refine CanonI.pure _ _ 10 _ _ rfl (by kernel_rfl) (by kernel_rfl) rfl (.run rfl (G6 Ah rfl rfl rfl rfl rfl rfl)) ?_
   refine CanonI.eff _ _ 9 _ _ rfl (by kernel_rfl) rfl rfl (Km.bufs (O5 (k:=3) Ah rfl rfl rfl rfl rfl rfl rfl rfl (rfl) (by simp;omega) (by simp [maxLen];omega))) (by rintro _ _ ⟨⟨v40,rfl,rfl⟩,hbs⟩;exact fun _ _=>(List.mem_of_getElem? (i:=1) rfl)) ?_
   rintro _ _ ⟨⟨v40,rfl,rfl⟩,hbs⟩
   have hu2:=hbs v40 _ _ _ (List.mem_of_getElem? (i:=3) rfl)
   refine CanonI.phase (fun _ _=>True) _ _ 11 _ _ rfl (by kernel_rfl) rfl rfl (B2 (k:=1) (v:=.row _ _ _) (cs':=[_,_,Iq _,.bool _]) (H2:=_::_::_::_::_) Ah rfl rfl rfl rfl (rfl) rfl rfl rfl rfl) (fun j _ _ hr _ _ hj=>?_) (fun _ _ _ _=>trivial) ?_
   ·
    rcases (by simpa only [Bool.or_eq_true,beq_iff_eq,or_assoc] using hj:j=1∨j=6) with rfl | rfl
    · exact Bool.noConfusion ((show Gx _ 7 _ 1=true by kernel_rfl).symm.trans hr)
    · exact Bool.noConfusion ((show Gx _ 7 _ 6=true by kernel_rfl).symm.trans hr)
   rintro _ _ ⟨rfl,rfl⟩
   refine CanonI.pure _ _ 12 _ _ rfl (by kernel_rfl) (by kernel_rfl) rfl (.run rfl (G6 Ah rfl rfl rfl rfl rfl rfl)) ?_
   refine CanonI.eff _ _ 13 _ _ rfl (by kernel_rfl) rfl rfl (B2 (k:=1) (v:=.val _) (cs':=[_,_,Iq _,.bool _]) (H2:=_::_::_::_::_) Ah rfl rfl rfl rfl ((by simp [Dd,Be,Nc,hu2])) rfl rfl rfl rfl) (fun _ _ _ _=>trivial) ?_
   rintro _ _ ⟨rfl,rfl⟩
   refine CanonI.done _ _ (by kernel_rfl) ?_
   refine Ad (Ai ?_)
   refine AOL.Aas (A7 (k:=1) (l:=[_,_,Iq _,.bool _]) Ah rfl rfl rfl rfl rfl) rfl rfl ?_
   refine Qe (B2 (k:=0) (v:=.agg _) (cs':=[_,_,Iq _,.bool _]) (H2:=_::_::_::_::_) Ah rfl rfl rfl rfl (Jv hu2) rfl rfl rfl rfl) ?_
   rintro _ _ ⟨rfl,rfl⟩
   refine Ag (AW.ret ?_)
   refine ⟨.inr rfl,[.agg [_,_,Iq _,.bool _]],.cons (.box _ _ _ 0 _ _ _ _ rfl rfl rfl rfl rfl rfl) <| .nil,_,.cons _ (.cons _ (.refl _)),?_⟩
   exact ⟨_,_,hu2,sH hall,vB hall⟩
theorem sX (R:List HO)(e:Ex)(he:Fx (Dv e)=e)(n:Nat)(b:Int)(hb:b=1∨b = -1)(s:Su)(hs:suOK n s)(hm:n+1≤1048576)(ok:Bool)(v u:Value) :
  Dk Tryz.prog 116 (Rv v u s.ts R) [Up v u s ok,.agg (cE e),.int .i64 b] (fun r H'=>∃v' u',u'.oneCell'=true∧r=Up v' u' ⟨Fv (Dv e) b s.ts,s.rest⟩ ok∧H'=Rv v' u' (Fv (Dv e) b s.ts) R):=by
 have h:=r_add R (Dv e) n b hb s hs hm ok v u
 rw [he] at h
 exact h
theorem Mn (R:List HO)(e:Ex)(hn:Ca e=0)(n:Nat)(b:Int)(hb:b=1∨b = -1)(s:Su×Bool)(hs:suOK n s.1)(hm:n+Ar e≤1048576)(v u:Value):Dk Tryz.prog 85 (Rv v u s.1.ts R) [Up v u s.1 s.2,.agg (cE e),.int .i64 b] (fun r H'=>∃v' u',u'.oneCell'=true∧r=Up v' u' (Gj e b s).1 (Gj e b s).2∧H'=Rv v' u' (Gj e b s).1.ts R):=by
 revert R n b s v u hn
 induction e using Ex.Aav
 rename_i e ih
 intro R hn n b hb s hs hm v u
 refine Dk.bufOne 1 rfl fun hu1=>?_
 have hz:=Bc hn
 have hsr:=hs.rest
 have hsp:1≤Ar e:=by rw [Dp];omega
 refine Dk.body (n:=61) Ah Tryz.func85 rfl rfl rfl ?_
 refine Ai ?_
 refine Qe (O8 (v:=.agg _) (cs:=[_,_,Iq _,.bool _]) rfl rfl (Jv hu1)) ?_
 rintro _ _ ⟨b3,rfl,rfl⟩
 refine Qp Kx ?_
 refine Qe (Ak (l:=[.sl 8 [],.sl 1 [],.int .i64 0,.bool false]) (by kernel_rfl)) ?_
 rintro _ _ ⟨b6,rfl,rfl⟩
 refine Ag (AW.seq (Ai (Qp Jl (Qp Bp (Ag (AW.block (Ai (Qp A9 (Qp Bl ?_)))))))))
 refine Ag (A6 (fun hc1=>?_) fun hc1=>?_)
 ·
  refine AW.seq ?_
  have hcn:=L7 hz.1 (eq_of_beq ‹(e.op==0)=true›)
  have hmul:b*e.val.num=e.val.num∨b*e.val.num = - e.val.num:=by rcases hb with rfl | rfl <;> omega
  refine AW.region (Qp Gc ?_)
  refine AOL.Aas (Am (k:=1) (c:=Iq _) Ah rfl rfl rfl rfl) rfl rfl ?_
  refine Qp Az (Qp Jq (Qp U7 (Qp Bp ?_)))
  refine Qp (mG rfl rfl rfl (by constructor <;> omega)) ?_
  refine Qp Ey (Qp Gc ?_)
  refine Cv 1 [_,_,Iq _,.bool _] (_::_::_::_::_) ?_
  refine Dm ?_
  refine AOL.Aas (A7 (k:=1) (l:=[_,_,Iq _,.bool _]) Ah rfl rfl rfl rfl rfl) rfl rfl ?_
  refine Qe (B2 (k:=0) (v:=.agg _) (cs':=[_,_,Iq _,.bool _]) (H2:=_::_::_::_::_) Ah rfl rfl rfl rfl (Jv hu1) rfl rfl rfl rfl) ?_
  rintro _ _ ⟨rfl,rfl⟩
  refine Ag (AW.ret (Bb (Aj ?_)))
  refine ⟨.inr rfl,[.agg [_,_,Iq _,.bool _]],.cons (.box _ _ _ 0 _ _ _ _ rfl rfl rfl rfl rfl rfl) <| .nil,_,.cons _ (.cons _ (.refl _)),?_⟩
  first
   | exact Co (Ia ‹(e.op==0)=true›) ⟨_,_,hu1,rfl,rfl⟩
   | exact Co (Jj ‹(e.op==0)=false› ht) ⟨_,_,hu2,rfl,rfl⟩
   | exact Co (Fj hl2 (.inl ⟨ho,rfl⟩)) ⟨_,_,hu2,rfl,rfl⟩
   | exact Co (Fj hl2 (.inr ⟨ho,rfl⟩)) ⟨_,_,hu2,rfl,rfl⟩
   | exact Co (I6 ‹(e.op==0)=false› (Ur ‹(e.op==1)=false› ‹(e.op==2)=false›) ‹(e.op==5)=false› ‹(e.op==6)=false›) ⟨_,_,hu1,rfl,rfl⟩
   | exact absurd (‹(e.op==1)=true›.symm.trans ‹(e.op==1)=false›) (by decide)
   | exact absurd (‹(e.op==2)=true›.symm.trans ‹(e.op==2)=false›) (by decide)
 ·
  refine AW.seq (Ai (Qp A9 (Qp Bl (Ag (A6 (fun hc2=>?_) fun hc2=>?_)))))
  ·
   refine By (A6 (fun hc3=>?_) fun hc3=>?_)
   ·
    refine AW.seq ?_
    have ht:(e.op==1||e.op==2)=true:=by first | exact Xu ‹(e.op==1)=true› | exact Xt ‹(e.op==2)=true›
    refine AW.region ?_
    refine AOL.Aas (A7 (k:=1) (l:=[_,_,Iq _,.bool _]) Ah rfl rfl rfl rfl rfl) rfl rfl ?_
    refine Qp El (Qp Az ?_)
    refine Qe (Dj (by kernel_rfl) rfl rfl (ACall.Aat (R:=_::_::_) 3 2 rfl rfl rfl (sX _ e (Ky hz.1 ht) n b hb s.1 hs (by omega) s.2 v u))) ?_
    rintro _ _ ⟨v0,u0,hu2,rfl,rfl⟩
    refine Qe (B2 (k:=2) (v:=.agg _) (cs':=[_,_,Iq _,.bool _]) (H2:=_::_::_::_::_) Ah rfl rfl rfl rfl (Jv hu2) rfl rfl rfl rfl) ?_
    rintro _ _ ⟨rfl,rfl⟩
    refine Ag (AW.ret (Bb (Aj ?_)))
    refine ⟨.inr rfl,[.agg [_,_,Iq _,.bool _]],.cons (.box _ _ _ 2 _ _ _ _ rfl rfl rfl rfl rfl rfl) <| .nil,_,.cons_cons _ (.cons_cons _ (.cons _ (.cons _ (.refl _)))),?_⟩
    first
     | exact Co (Ia ‹(e.op==0)=true›) ⟨_,_,hu1,rfl,rfl⟩
     | exact Co (Jj ‹(e.op==0)=false› ht) ⟨_,_,hu2,rfl,rfl⟩
     | exact Co (Fj hl2 (.inl ⟨ho,rfl⟩)) ⟨_,_,hu2,rfl,rfl⟩
     | exact Co (Fj hl2 (.inr ⟨ho,rfl⟩)) ⟨_,_,hu2,rfl,rfl⟩
     | exact Co (I6 ‹(e.op==0)=false› (Ur ‹(e.op==1)=false› ‹(e.op==2)=false›) ‹(e.op==5)=false› ‹(e.op==6)=false›) ⟨_,_,hu1,rfl,rfl⟩
     | exact absurd (‹(e.op==1)=true›.symm.trans ‹(e.op==1)=false›) (by decide)
     | exact absurd (‹(e.op==2)=true›.symm.trans ‹(e.op==2)=false›) (by decide)
   ·
    exact absurd (hc3.symm.trans hc2) (by decide)
  ·
   refine AW.region (Qp A9 (Qp Bl (Ag (A6 (fun hc4=>?_) fun hc4=>?_))))
   ·
    refine AW.seq ?_
    have ht:(e.op==1||e.op==2)=true:=by first | exact Xu ‹(e.op==1)=true› | exact Xt ‹(e.op==2)=true›
    refine AW.region ?_
    refine AOL.Aas (A7 (k:=1) (l:=[_,_,Iq _,.bool _]) Ah rfl rfl rfl rfl rfl) rfl rfl ?_
    refine Qp El (Qp Az ?_)
    refine Qe (Dj (by kernel_rfl) rfl rfl (ACall.Aat (R:=_::_::_) 3 2 rfl rfl rfl (sX _ e (Ky hz.1 ht) n b hb s.1 hs (by omega) s.2 v u))) ?_
    rintro _ _ ⟨v0,u0,hu2,rfl,rfl⟩
    refine Qe (B2 (k:=2) (v:=.agg _) (cs':=[_,_,Iq _,.bool _]) (H2:=_::_::_::_::_) Ah rfl rfl rfl rfl (Jv hu2) rfl rfl rfl rfl) ?_
    rintro _ _ ⟨rfl,rfl⟩
    refine Ag (AW.ret (Bb (Aj ?_)))
    refine ⟨.inr rfl,[.agg [_,_,Iq _,.bool _]],.cons (.box _ _ _ 2 _ _ _ _ rfl rfl rfl rfl rfl rfl) <| .nil,_,.cons_cons _ (.cons_cons _ (.cons _ (.cons _ (.refl _)))),?_⟩
    first
     | exact Co (Ia ‹(e.op==0)=true›) ⟨_,_,hu1,rfl,rfl⟩
     | exact Co (Jj ‹(e.op==0)=false› ht) ⟨_,_,hu2,rfl,rfl⟩
     | exact Co (Fj hl2 (.inl ⟨ho,rfl⟩)) ⟨_,_,hu2,rfl,rfl⟩
     | exact Co (Fj hl2 (.inr ⟨ho,rfl⟩)) ⟨_,_,hu2,rfl,rfl⟩
     | exact Co (I6 ‹(e.op==0)=false› (Ur ‹(e.op==1)=false› ‹(e.op==2)=false›) ‹(e.op==5)=false› ‹(e.op==6)=false›) ⟨_,_,hu1,rfl,rfl⟩
     | exact absurd (‹(e.op==1)=true›.symm.trans ‹(e.op==1)=false›) (by decide)
     | exact absurd (‹(e.op==2)=true›.symm.trans ‹(e.op==2)=false›) (by decide)
   ·
    refine Ai (Qp A9 (Qp Bl (Ag (A6 (fun hc5=>?_) fun hc5=>?_))))
    ·
     refine AW.seq ?_
     have ho:=eq_of_beq ‹(e.op==5)=true›
     have hl2:=Ei hz.1 (by omega)
     have h00:0<e.args.length:=by omega
     have hsz:=Db hl2
     have hs0:=Qh _ (hz.2 _ (A0 h00)) hb hs
     refine AW.drawI mixed (fun j H'=>(j==0)=true→_∈H') (fun _ _=>(List.mem_of_getElem? (i:=1) rfl)) (by kernel_rfl) ?_
     refine CanonI.pure _ _ 0 _ _ rfl (by kernel_rfl) (by kernel_rfl) rfl (.run rfl (OpP.Aaq (fun k=>A7 (k:=k) (l:=[_,_,Iq _,.bool _]) Ah rfl rfl rfl rfl rfl) (fun _ h=>(h rfl)))) ?_
     refine CanonI.pure _ _ 1 _ _ rfl (by kernel_rfl) (by kernel_rfl) rfl (.run rfl (Bw (cs':=[_,Iq _,Iq _,Iq _,Iq _,Iq _,.str _]) Ah rfl rfl rfl rfl rfl rfl)) ?_
     refine CanonI.pure _ _ 2 _ _ rfl (by kernel_rfl) (by kernel_rfl) rfl (.run rfl (Df (c:=.sl _ _) Ah rfl rfl rfl)) ?_
     refine CanonI.pure _ _ 3 _ _ rfl (by kernel_rfl) (by kernel_rfl) rfl (.run rfl (Af (c:=[Iq _,_,Iq _,Iq _,Iq _,Iq _,Iq _,.str _]) Ah rfl rfl rfl rfl rfl rfl (by decide) (E4 h00))) ?_
     refine CanonI.pure _ _ 4 _ _ rfl (by kernel_rfl) (by kernel_rfl) rfl (.run rfl (C2 (l:=[Iq _,_,Iq _,Iq _,Iq _,Iq _,Iq _,.str _]) Ah rfl rfl rfl rfl rfl)) ?_
     refine CanonI.pure _ _ 5 _ _ rfl (by kernel_rfl) (by kernel_rfl) rfl (.run rfl (Bm (v:=Iq _) rfl)) ?_
     refine CanonI.pure _ _ 7 _ _ rfl (by kernel_rfl) (by kernel_rfl) rfl (.run rfl (Bw (cs':=[_,Iq _,Iq _,Iq _,Iq _,Iq _,.str _]) Ah rfl rfl rfl rfl rfl rfl)) ?_
     refine CanonI.pure _ _ 8 _ _ rfl (by kernel_rfl) (by kernel_rfl) rfl (.run rfl (Df (c:=.sl _ _) Ah rfl rfl rfl)) ?_
     refine CanonI.pure _ _ 9 _ _ rfl (by kernel_rfl) (by kernel_rfl) rfl (.run rfl (Af (c:=[Iq _,_,Iq _,Iq _,Iq _,Iq _,Iq _,.str _]) Ah rfl rfl rfl rfl rfl rfl (by decide) (H7 hl2))) ?_
     refine CanonI.pure _ _ 10 _ _ rfl (by kernel_rfl) (by kernel_rfl) rfl (.run rfl (C2 (l:=[Iq _,_,Iq _,Iq _,Iq _,Iq _,Iq _,.str _]) Ah rfl rfl rfl rfl rfl)) ?_
     refine CanonI.pure _ _ 11 _ _ rfl (by kernel_rfl) (by kernel_rfl) rfl (.run rfl (Bm (v:=Iq _) rfl)) ?_
     refine CanonI.phase (fun _ _=>True) _ _ 6 _ _ rfl (by kernel_rfl) rfl rfl (Dj (by kernel_rfl) rfl rfl (ACall.Aat (R:=_::_::_) 3 2 rfl rfl rfl (ih _ (A0 h00) _ (hz.2 _ (A0 h00)) n b hb s hs (by omega) v u))) (fun j _ _ hr _ _ hj=>?_) (fun _ _ _ _=>trivial) ?_
     ·
      rcases (by simpa only [Bool.or_eq_true,beq_iff_eq,or_assoc] using hj:j=0) with rfl
      · exact Bool.noConfusion ((show Gx _ 7 _ 0=true by kernel_rfl).symm.trans hr)
     rintro _ _ ⟨v0,u0,hu2,rfl,rfl⟩
     refine CanonI.eff _ _ 12 _ _ rfl (by kernel_rfl) rfl rfl (Dj (by kernel_rfl) rfl rfl (ACall.Aat (R:=_::_::_) 1 0 rfl rfl rfl (ih _ (Bk hl2) _ (hz.2 _ (Bk hl2)) (n+Ar (Av e)) b hb _ hs0 (by omega) _ _))) (fun _ _ _ _=>trivial) ?_
     rintro _ _ ⟨v1,u1,hu2,rfl,rfl⟩
     refine CanonI.eff _ _ 13 _ _ rfl (by kernel_rfl) rfl rfl (B2 (k:=2) (v:=.agg _) (cs':=[_,_,Iq _,.bool _]) (H2:=_::_::_::_::_) Ah rfl rfl rfl rfl (Jv hu2) rfl rfl rfl rfl) (fun _ _ _ _=>trivial) ?_
     rintro _ _ ⟨rfl,rfl⟩
     refine CanonI.done _ _ (by kernel_rfl) ?_
     refine Ad (AW.ret (Bb (Aj ?_)))
     refine ⟨.inr rfl,[.agg [_,_,Iq _,.bool _]],.cons (.box _ _ _ 2 _ _ _ _ rfl rfl rfl rfl rfl rfl) <| .nil,_,.cons_cons _ (.cons_cons _ (.cons _ (.cons _ (.refl _)))),?_⟩
     first
      | exact Co (Ia ‹(e.op==0)=true›) ⟨_,_,hu1,rfl,rfl⟩
      | exact Co (Jj ‹(e.op==0)=false› ht) ⟨_,_,hu2,rfl,rfl⟩
      | exact Co (Fj hl2 (.inl ⟨ho,rfl⟩)) ⟨_,_,hu2,rfl,rfl⟩
      | exact Co (Fj hl2 (.inr ⟨ho,rfl⟩)) ⟨_,_,hu2,rfl,rfl⟩
      | exact Co (I6 ‹(e.op==0)=false› (Ur ‹(e.op==1)=false› ‹(e.op==2)=false›) ‹(e.op==5)=false› ‹(e.op==6)=false›) ⟨_,_,hu1,rfl,rfl⟩
      | exact absurd (‹(e.op==1)=true›.symm.trans ‹(e.op==1)=false›) (by decide)
      | exact absurd (‹(e.op==2)=true›.symm.trans ‹(e.op==2)=false›) (by decide)
    ·
     refine Ai (Qp A9 (Qp Bl (Ag (A6 (fun hc6=>?_) fun hc6=>?_))))
     ·
      refine AW.seq ?_
      have ho:=eq_of_beq ‹(e.op==6)=true›
      have hl2:=Ei hz.1 (by omega)
      have h00:0<e.args.length:=by omega
      have hsz:=Db hl2
      have hs0:=Qh _ (hz.2 _ (A0 h00)) hb hs
      refine AW.drawI mixed (fun j H'=>(j==0)=true→_∈H') (fun _ _=>(List.mem_of_getElem? (i:=1) rfl)) (by kernel_rfl) ?_
      refine CanonI.pure _ _ 0 _ _ rfl (by kernel_rfl) (by kernel_rfl) rfl (.run rfl (OpP.Aaq (fun k=>A7 (k:=k) (l:=[_,_,Iq _,.bool _]) Ah rfl rfl rfl rfl rfl) (fun _ h=>(h rfl)))) ?_
      refine CanonI.pure _ _ 1 _ _ rfl (by kernel_rfl) (by kernel_rfl) rfl (.run rfl (Bw (cs':=[_,Iq _,Iq _,Iq _,Iq _,Iq _,.str _]) Ah rfl rfl rfl rfl rfl rfl)) ?_
      refine CanonI.pure _ _ 2 _ _ rfl (by kernel_rfl) (by kernel_rfl) rfl (.run rfl (Df (c:=.sl _ _) Ah rfl rfl rfl)) ?_
      refine CanonI.pure _ _ 3 _ _ rfl (by kernel_rfl) (by kernel_rfl) rfl (.run rfl (Af (c:=[Iq _,_,Iq _,Iq _,Iq _,Iq _,Iq _,.str _]) Ah rfl rfl rfl rfl rfl rfl (by decide) (E4 h00))) ?_
      refine CanonI.pure _ _ 4 _ _ rfl (by kernel_rfl) (by kernel_rfl) rfl (.run rfl (C2 (l:=[Iq _,_,Iq _,Iq _,Iq _,Iq _,Iq _,.str _]) Ah rfl rfl rfl rfl rfl)) ?_
      refine CanonI.pure _ _ 5 _ _ rfl (by kernel_rfl) (by kernel_rfl) rfl (.run rfl (Bm (v:=Iq _) rfl)) ?_
      refine CanonI.pure _ _ 7 _ _ rfl (by kernel_rfl) (by kernel_rfl) rfl (.run rfl (Bw (cs':=[_,Iq _,Iq _,Iq _,Iq _,Iq _,.str _]) Ah rfl rfl rfl rfl rfl rfl)) ?_
      refine CanonI.pure _ _ 8 _ _ rfl (by kernel_rfl) (by kernel_rfl) rfl (.run rfl (Df (c:=.sl _ _) Ah rfl rfl rfl)) ?_
      refine CanonI.pure _ _ 9 _ _ rfl (by kernel_rfl) (by kernel_rfl) rfl (.run rfl (Af (c:=[Iq _,_,Iq _,Iq _,Iq _,Iq _,Iq _,.str _]) Ah rfl rfl rfl rfl rfl rfl (by decide) (H7 hl2))) ?_
      refine CanonI.pure _ _ 10 _ _ rfl (by kernel_rfl) (by kernel_rfl) rfl (.run rfl (C2 (l:=[Iq _,_,Iq _,Iq _,Iq _,Iq _,Iq _,.str _]) Ah rfl rfl rfl rfl rfl)) ?_
      refine CanonI.pure _ _ 11 _ _ rfl (by kernel_rfl) (by kernel_rfl) rfl (.run rfl (Bm (v:=Iq _) rfl)) ?_
      refine CanonI.pure _ _ 12 _ _ rfl (by kernel_rfl) (by kernel_rfl) rfl (.run rfl (Tq rfl rfl (by constructor <;> omega))) ?_
      refine CanonI.phase (fun _ _=>True) _ _ 6 _ _ rfl (by kernel_rfl) rfl rfl (Dj (by kernel_rfl) rfl rfl (ACall.Aat (R:=_::_::_) 3 2 rfl rfl rfl (ih _ (A0 h00) _ (hz.2 _ (A0 h00)) n b hb s hs (by omega) v u))) (fun j _ _ hr _ _ hj=>?_) (fun _ _ _ _=>trivial) ?_
      ·
       rcases (by simpa only [Bool.or_eq_true,beq_iff_eq,or_assoc] using hj:j=0) with rfl
       · exact Bool.noConfusion ((show Gx _ 7 _ 0=true by kernel_rfl).symm.trans hr)
      rintro _ _ ⟨v0,u0,hu2,rfl,rfl⟩
      refine CanonI.eff _ _ 13 _ _ rfl (by kernel_rfl) rfl rfl (Dj (by kernel_rfl) rfl rfl (ACall.Aat (R:=_::_::_) 1 0 rfl rfl rfl (ih _ (Bk hl2) _ (hz.2 _ (Bk hl2)) (n+Ar (Av e)) (0-b) (by omega) _ hs0 (by omega) _ _))) (fun _ _ _ _=>trivial) ?_
      rintro _ _ ⟨v1,u1,hu2,rfl,rfl⟩
      refine CanonI.eff _ _ 14 _ _ rfl (by kernel_rfl) rfl rfl (B2 (k:=2) (v:=.agg _) (cs':=[_,_,Iq _,.bool _]) (H2:=_::_::_::_::_) Ah rfl rfl rfl rfl (Jv hu2) rfl rfl rfl rfl) (fun _ _ _ _=>trivial) ?_
      rintro _ _ ⟨rfl,rfl⟩
      refine CanonI.done _ _ (by kernel_rfl) ?_
      refine Ad (AW.ret (Bb (Aj ?_)))
      refine ⟨.inr rfl,[.agg [_,_,Iq _,.bool _]],.cons (.box _ _ _ 2 _ _ _ _ rfl rfl rfl rfl rfl rfl) <| .nil,_,.cons_cons _ (.cons_cons _ (.cons _ (.cons _ (.refl _)))),?_⟩
      first
       | exact Co (Ia ‹(e.op==0)=true›) ⟨_,_,hu1,rfl,rfl⟩
       | exact Co (Jj ‹(e.op==0)=false› ht) ⟨_,_,hu2,rfl,rfl⟩
       | exact Co (Fj hl2 (.inl ⟨ho,rfl⟩)) ⟨_,_,hu2,rfl,rfl⟩
       | exact Co (Fj hl2 (.inr ⟨ho,rfl⟩)) ⟨_,_,hu2,rfl,rfl⟩
       | exact Co (I6 ‹(e.op==0)=false› (Ur ‹(e.op==1)=false› ‹(e.op==2)=false›) ‹(e.op==5)=false› ‹(e.op==6)=false›) ⟨_,_,hu1,rfl,rfl⟩
       | exact absurd (‹(e.op==1)=true›.symm.trans ‹(e.op==1)=false›) (by decide)
       | exact absurd (‹(e.op==2)=true›.symm.trans ‹(e.op==2)=false›) (by decide)
     ·
      refine AW.skip (Bu (Ad (Ai (Qp Gc ?_))))
      refine Cv 1 [_,_,Iq _,.bool _] (_::_::_::_::_) ?_
      refine Dm ?_
      refine AOL.Aas (A7 (k:=1) (l:=[_,_,Iq _,.bool _]) Ah rfl rfl rfl rfl rfl) rfl rfl ?_
      refine Qe (B2 (k:=0) (v:=.agg _) (cs':=[_,_,Iq _,.bool _]) (H2:=_::_::_::_::_) Ah rfl rfl rfl rfl (Jv hu1) rfl rfl rfl rfl) ?_
      rintro _ _ ⟨rfl,rfl⟩
      refine Ag (AW.ret ?_)
      refine ⟨.inr rfl,[.agg [_,_,Iq _,.bool _]],.cons (.box _ _ _ 0 _ _ _ _ rfl rfl rfl rfl rfl rfl) <| .nil,_,.cons _ (.cons _ (.refl _)),?_⟩
      first
       | exact Co (Ia ‹(e.op==0)=true›) ⟨_,_,hu1,rfl,rfl⟩
       | exact Co (Jj ‹(e.op==0)=false› ht) ⟨_,_,hu2,rfl,rfl⟩
       | exact Co (Fj hl2 (.inl ⟨ho,rfl⟩)) ⟨_,_,hu2,rfl,rfl⟩
       | exact Co (Fj hl2 (.inr ⟨ho,rfl⟩)) ⟨_,_,hu2,rfl,rfl⟩
       | exact Co (I6 ‹(e.op==0)=false› (Ur ‹(e.op==1)=false› ‹(e.op==2)=false›) ‹(e.op==5)=false› ‹(e.op==6)=false›) ⟨_,_,hu1,rfl,rfl⟩
       | exact absurd (‹(e.op==1)=true›.symm.trans ‹(e.op==1)=false›) (by decide)
       | exact absurd (‹(e.op==2)=true›.symm.trans ‹(e.op==2)=false›) (by decide)
theorem aP (a b:Ex)(hna:Ca a=0)(hnb:Ca b=0)(hs:Ar a+Ar b≤1048576):Ax Tryz.prog 51 [.agg (cE a),.agg (cE b)] (.tuple [.agg (cGpR (Hl a b).1),.bool (Hl a b).2]):=by
 have hok:=pG hna hnb
 have htl:=hok.len
 refine Ax.body (n:=78) Ah Tryz.func51 rfl rfl rfl fun H=>?_
 refine Ai (Qp Kx (Qp Kx ?_))
 refine Qe (Ak (l:=[.sl 8 [],.sl 8 [],.int .i64 0]) (by kernel_rfl)) ?_
 rintro _ _ ⟨b4,rfl,rfl⟩
 refine Qp Bl (Ag ?_)
 refine AW.cut (fun (p:Nat×Value×Value)=>(⟨[(2,.ptr (cE a)),(3,.ptr (cE b)),(4,.val (.pointer (some ⟨b4,0,none⟩))),(5,.bool false),(6,.val (.pointer (some ⟨p.1,0,none⟩)))],Rv p.2.1 p.2.2 (Ee a b).1.ts (.box p.1 170 [.row p.2.1 8 (gU (Ee a b).1.ts),.val p.2.2,.int .i64 (Ee a b).1.rest,.bool (Ee a b).2] :: .box b4 119 [.sl 8 [],.sl 8 [],.int .i64 0]::H),78⟩:St)) (fun (p:Nat×Value×Value)=>True) ?_ ?_
 ·
  refine AW.ghost (GS.buf 3 1) ?_
  refine AW.ghost (GS.rowZ 30 8) ?_
  refine AW.draw mixed (fun _=>True) trivial (by kernel_rfl) ?_
  refine Qn 0 rfl (Dn.weakV (Lk (l0:=[.val (.slice none 0 0),.val (.slice none 0 0),.int .i64 0,.bool false]) (l:=[.val (.slice none 0 0),.val (.slice none 0 0),.int .i64 0,.bool true]) Ah rfl rfl (by kernel_rfl) rfl) (jD (z:=8) (r:=[.val (.slice none 0 0),.int .i64 0,.bool true]))) ?_
  refine Qn 1 rfl El (Qn 3 rfl El ?_)
  refine Jn.two _ _ 2 5 _ _ _ _ rfl rfl (by kernel_rfl) rfl rfl rfl rfl (Dj (by kernel_rfl) rfl rfl (ACall.Aat (R:=_::_) 1 0 rfl rfl rfl (Mn _ a hna 0 1 (.inl rfl) (Ir,true) Nl (by omega) _ _))) (Ak (l:=[.sl 8 [],.sl 1 [],.int .i64 0,.bool false]) (by kernel_rfl)) (by rintro _ _ ⟨v0,u0,hu2,rfl,rfl⟩;trivial) (by rintro _ _ ⟨b6,rfl,rfl⟩;trivial) ?_ ?_
  ·
   rintro _ _ ⟨v0,u0,hu2,rfl,rfl⟩
   refine Jn.two _ _ 4 5 _ _ _ _ rfl rfl (by kernel_rfl) rfl rfl rfl rfl (Dj (by kernel_rfl) rfl rfl (ACall.Aat (R:=_::_) 1 0 rfl rfl rfl (Mn _ b hnb (0+Ar a) (-1) (.inr rfl) _ (Qh a hna (.inl rfl) Nl) (by omega) _ _))) (Ak (l:=[.sl 8 [],.sl 1 [],.int .i64 0,.bool false]) (by kernel_rfl)) (by rintro _ _ ⟨v1,u1,hu2,rfl,rfl⟩;trivial) (by rintro _ _ ⟨b6,rfl,rfl⟩;trivial) ?_ ?_
   ·
    rintro _ _ ⟨v1,u1,hu2,rfl,rfl⟩
    refine Jn.eff _ _ 5 _ _ rfl (by kernel_rfl) rfl rfl (Ak (l:=[.sl 8 [],.sl 1 [],.int .i64 0,.bool false]) (by kernel_rfl)) (fun _ _ _=>trivial) ?_
    rintro _ _ ⟨b6,rfl,rfl⟩
    refine Jn.eff _ _ 6 _ _ rfl (by kernel_rfl) rfl rfl (B2 (k:=0) (v:=.agg _) (cs':=[_,_,Iq _,.bool _]) (H2:=_::_::_::_::_) Ah rfl rfl rfl rfl (Jv hu2) rfl rfl rfl rfl) (fun _ _ _=>trivial) ?_
    rintro _ _ ⟨rfl,rfl⟩
    refine Jn.done _ _ (by kernel_rfl) ?_
    refine Ad ?_
    refine ⟨(b6,v1,u1),?_,GS.trans (GS.perm (.trans (.swap ..) (.cons _ (.swap ..)))) (GS.weaken ⟨rfl,rfl,rfl,rfl,rfl,trivial⟩ (.refl _))⟩
    trivial
   ·
    rintro _ _ ⟨b6,rfl,rfl⟩
    refine Jn.eff _ _ 4 _ _ rfl (by kernel_rfl) rfl rfl (Dj (by kernel_rfl) rfl rfl (ACall.Aat (R:=_::_::_) 2 1 rfl rfl rfl (Mn _ b hnb (0+Ar a) (-1) (.inr rfl) _ (Qh a hna (.inl rfl) Nl) (by omega) _ _))) (fun _ _ _=>trivial) ?_
    rintro _ _ ⟨v1,u1,hu2,rfl,rfl⟩
    refine Jn.eff _ _ 6 _ _ rfl (by kernel_rfl) rfl rfl (B2 (k:=2) (v:=.agg _) (cs':=[_,_,Iq _,.bool _]) (H2:=_::_::_::_::_) Ah rfl rfl rfl rfl (Jv hu2) rfl rfl rfl rfl) (fun _ _ _=>trivial) ?_
    rintro _ _ ⟨rfl,rfl⟩
    refine Jn.done _ _ (by kernel_rfl) ?_
    refine Ad ?_
    refine ⟨(b6,v1,u1),?_,GS.trans (GS.refl _) (GS.weaken ⟨rfl,rfl,rfl,rfl,rfl,trivial⟩ (.refl _))⟩
    trivial
  ·
   rintro _ _ ⟨b6,rfl,rfl⟩
   refine Jn.eff _ _ 2 _ _ rfl (by kernel_rfl) rfl rfl (Dj (by kernel_rfl) rfl rfl (ACall.Aat (R:=_::_::_) 2 1 rfl rfl rfl (Mn _ a hna 0 1 (.inl rfl) (Ir,true) Nl (by omega) _ _))) (fun _ _ _=>trivial) ?_
   rintro _ _ ⟨v0,u0,hu2,rfl,rfl⟩
   refine Jn.eff _ _ 4 _ _ rfl (by kernel_rfl) rfl rfl (Dj (by kernel_rfl) rfl rfl (ACall.Aat (R:=_::_::_) 1 0 rfl rfl rfl (Mn _ b hnb (0+Ar a) (-1) (.inr rfl) _ (Qh a hna (.inl rfl) Nl) (by omega) _ _))) (fun _ _ _=>trivial) ?_
   rintro _ _ ⟨v1,u1,hu2,rfl,rfl⟩
   refine Jn.eff _ _ 6 _ _ rfl (by kernel_rfl) rfl rfl (B2 (k:=2) (v:=.agg _) (cs':=[_,_,Iq _,.bool _]) (H2:=_::_::_::_::_) Ah rfl rfl rfl rfl (Jv hu2) rfl rfl rfl rfl) (fun _ _ _=>trivial) ?_
   rintro _ _ ⟨rfl,rfl⟩
   refine Jn.done _ _ (by kernel_rfl) ?_
   refine Ad ?_
   refine ⟨(b6,v1,u1),?_,GS.trans (GS.refl _) (GS.weaken ⟨rfl,rfl,rfl,rfl,rfl,trivial⟩ (.refl _))⟩
   trivial
 ·
  rintro p _
  refine AW.seq ?_
  refine AW.ghost (GS.freezeBufCell (H2:=_::_::_::_) 1 1 1 rfl rfl rfl rfl rfl) ?_
  refine AW.ghost (GS.cell (H2:=_::_::_::_) 1 0 rfl rfl rfl rfl Ej) ?_
  refine AW.ghost (GS.Aan (t:=6) 1 rfl rfl) ?_
  skip
  refine AW.region (Qp (Qf [Iq _,.bool _]) (Qp Bp ?_))
  refine Qp (Lk (l0:=[.val (.slice none 0 0),.val (.slice none 0 0),.int .i64 0]) (l:=[_,_,_]) Ah rfl rfl (by kernel_rfl) rfl) ?_
  refine Qe (Ak (l:=[.sl 8 [],.sl 8 [],.int .i64 0]) (by kernel_rfl)) ?_
  rintro _ _ ⟨b7,rfl,rfl⟩
  refine Cv 0 [_,_,Iq _] (_::_::_::_) ?_
  refine AOL.ghost (GS.cellRow 0 0 30 8 rfl rfl rfl rfl) ?_
  refine AOL.ghost (GS.cellRow 1 1 30 8 rfl rfl rfl rfl) ?_
  refine Ag (AW.seq (Ai (Qp Ap (Ag (AW.block ?_)))))
  refine AW.Aao (fun (p:Nat×List Tm×List Tm×Value×Value×List (List AV)×List (List AV))=>(⟨[(2,.ptr (cE a)),(3,.ptr (cE b)),(4,.val (.pointer (some ⟨b4,0,none⟩))),(5,.bool false),(6,.ptr [.sl 8 (gU (Ee a b).1.ts),.sl 1 (Ve (Ee a b).1.ts),.int .i64 (Ee a b).1.rest,.bool (Ee a b).2]),(7,.val (.pointer (some ⟨b7,0,none⟩))),(8,.int .i64 (p.1:Int))],.row p.2.2.2.2.1 p.2.2.2.2.2.2.length 30 8 :: .row p.2.2.2.1 p.2.2.2.2.2.1.length 30 8 :: .box b7 119 [.row p.2.2.2.1 8 p.2.2.2.2.2.1,.row p.2.2.2.2.1 8 p.2.2.2.2.2.2,.int .i64 (Ee a b).1.rest] :: .box b4 119 [.sl 8 [],.sl 8 [],.int .i64 0]::H,78⟩:St)) (fun (p:Nat×List Tm×List Tm×Value×Value×List (List AV)×List (List AV))=>p.1≤(Ee a b).1.ts.length∧C5 (Ee a b).1.ts [] []=C5 ((Ee a b).1.ts.drop p.1) p.2.1 p.2.2.1∧p.2.1.length≤p.1∧p.2.2.1.length≤p.1∧p.2.2.2.2.2.1=p.2.1.map (fun t=>cE (Fx t))∧p.2.2.2.2.2.2=p.2.2.1.map (fun t=>cE (Fx t))) (fun (p:Nat×List Tm×List Tm×Value×Value×List (List AV)×List (List AV))=>(Ee a b).1.ts.length-p.1) ((0,[],[],.slice none 0 0,.slice none 0 0,[],[])) ?_ (GS.weaken ⟨rfl,rfl,rfl,rfl,rfl,rfl,rfl,trivial⟩ (.cons_cons _ (.cons_cons _ (.cons_cons _ (.cons _ (.refl _)))))) ?_
  · exact ⟨Nat.zero_le _,rfl,Nat.le_refl _,Nat.le_refl _,rfl,rfl⟩
  ·
   rintro p hR
   have hpl:=hR.2.2.1
   have hml:=hR.2.2.2.1
   have hpe:=hR.2.2.2.2.1
   have hme:=hR.2.2.2.2.2
   have hpel:p.2.2.2.2.2.1.length=p.2.1.length:=by rw [hpe];simp
   have hmel:p.2.2.2.2.2.2.length=p.2.2.1.length:=by rw [hme];simp
   refine AW.seq (Ai (Qp Az (Qp (Qf [_,_,Iq _,.bool _]) (Qp Dy ?_))))
   refine Qp (Al (n:=(Ee a b).1.ts.length) Ah rfl rfl rfl (by simp [gU])) ?_
   refine Qp Ch (Ag (A6 (fun hc1=>?_) fun hc1=>?_))
   ·
    obtain ⟨q,hq⟩:=B5 hc1
    have hlt:=A4 hq
    have hdc:=A8 hq
    have hR2:=hR.2.1
    rw [hdc] at hR2
    refine By (AW.seq (AW.block (Ai (Qp (Qf [_,Iq _,.bool _]) (Qp Dy (Qp Az ?_))))))
    refine Qp (Af (c:=[Iq _]) Ah rfl rfl rfl rfl rfl rfl (by omega) (Bi hq)) ?_
    refine Qp Bp (Qp A9 (Ag (A6 (fun hc2=>?_) fun hc2=>?_)))
    ·
     have hsc:∀c∈p.2.2.2.2.2.1,Be c=true:=by rw [hpe];exact Ed fun _=>rfl
     refine AW.draw mixed (fun H'=>_∈H') (List.mem_of_getElem? (i:=2) rfl) (by kernel_rfl) ?_
     refine Qn 0 rfl Gc ?_
     refine Qn 1 rfl (OpP.Aaq (fun k=>Am (k:=k) (c:=.row _ _ _) Ah rfl rfl rfl rfl) (fun _ h=>h)) ?_
     refine Qn 2 rfl (Qf [_,_,Iq _,.bool _]) (Qn 3 rfl Dy (Qn 4 rfl Az ?_))
     refine Qn 5 rfl (Af (c:=[Iq _,_,Iq _,Iq _,Iq _,Iq _,Iq _,.str _]) Ah rfl rfl rfl rfl rfl rfl (by omega) (Bi hq)) ?_
     refine Qn 6 rfl El ?_
     refine Qn 7 rfl (A1 (es:=[[Iq _,_,Iq _,Iq _,Iq _,Iq _,Iq _,.str _]]) Ah rfl rfl rfl rfl rfl rfl rfl rfl rfl) ?_
     refine Jn.eff _ _ 8 _ _ rfl (by kernel_rfl) rfl rfl (C3 (k:=1) Ah rfl rfl rfl rfl rfl rfl rfl rfl (Ff rfl) (hsc) (by simp;omega) (by simp [maxLen];omega)) (by rintro _ _ ⟨v38,rfl,rfl⟩;simp) ?_
     rintro _ _ ⟨v38,rfl,rfl⟩
     refine Qn 9 rfl Gc ?_
     refine Jn.last _ _ 10 _ _ rfl (by kernel_rfl) rfl rfl (B2 (k:=2) (v:=.row _ _ _) (cs':=[_,_,Iq _]) (H2:=_::_::_::_::_) Ah rfl rfl rfl rfl (rfl) rfl rfl rfl rfl) (by kernel_rfl) ?_
     rintro _ _ ⟨rfl,rfl⟩
     refine Bu (Ad (AW.region (Qp Az (Qp Ey (Qp Ap (Ag ?_))))))
     refine ⟨(p.1+1,p.2.1 ++ [q.1],p.2.2.1,v38,p.2.2.2.2.1,p.2.2.2.2.2.1 ++ [cE (Fx q.1)],p.2.2.2.2.2.2),?_,?_,GS.weaken ⟨rfl,rfl,rfl,rfl,rfl,rfl,rfl,trivial⟩ (.refl _)⟩
     · exact ⟨hlt,by simp only;rw [hR2,lF (one_ne hc2) hc2],by simp only [List.length_append,List.length_singleton];omega,by simp only [List.length_append,List.length_singleton];omega,by simp [hpe],by simp [hme]⟩
     · simp only;omega
    ·
     refine Ai (Qp (Qf [_,Iq _,.bool _]) (Qp Dy (Qp Az ?_)))
     refine Qp (Af (c:=[Iq _]) Ah rfl rfl rfl rfl rfl rfl (by omega) (Bi hq)) ?_
     refine Qp Bp (Qp A9 (Ag (A6 (fun hc3=>?_) fun hc3=>?_)))
     ·
      have hsc:∀c∈p.2.2.2.2.2.2,Be c=true:=by rw [hme];exact Ed fun _=>rfl
      refine AW.draw mixed (fun H'=>_∈H') (List.mem_of_getElem? (i:=2) rfl) (by kernel_rfl) ?_
      refine Qn 0 rfl Gc ?_
      refine Qn 1 rfl (OpP.Aaq (fun k=>Am (k:=k) (c:=.row _ _ _) Ah rfl rfl rfl rfl) (fun _ h=>h)) ?_
      refine Qn 2 rfl (Qf [_,_,Iq _,.bool _]) (Qn 3 rfl Dy (Qn 4 rfl Az ?_))
      refine Qn 5 rfl (Af (c:=[Iq _,_,Iq _,Iq _,Iq _,Iq _,Iq _,.str _]) Ah rfl rfl rfl rfl rfl rfl (by omega) (Bi hq)) ?_
      refine Qn 6 rfl El ?_
      refine Qn 7 rfl (A1 (es:=[[Iq _,_,Iq _,Iq _,Iq _,Iq _,Iq _,.str _]]) Ah rfl rfl rfl rfl rfl rfl rfl rfl rfl) ?_
      refine Jn.eff _ _ 8 _ _ rfl (by kernel_rfl) rfl rfl (C3 (k:=0) Ah rfl rfl rfl rfl rfl rfl rfl rfl (Ff rfl) (hsc) (by simp;omega) (by simp [maxLen];omega)) (by rintro _ _ ⟨v54,rfl,rfl⟩;simp) ?_
      rintro _ _ ⟨v54,rfl,rfl⟩
      refine Qn 9 rfl Gc ?_
      refine Jn.last _ _ 10 _ _ rfl (by kernel_rfl) rfl rfl (B2 (k:=2) (v:=.row _ _ _) (cs':=[_,_,Iq _]) (H2:=_::_::_::_::_) Ah rfl rfl rfl rfl (rfl) rfl rfl rfl rfl) (by kernel_rfl) ?_
      rintro _ _ ⟨rfl,rfl⟩
      refine Bu (Ad (AW.region (Qp Az (Qp Ey (Qp Ap (Ag ?_))))))
      refine ⟨(p.1+1,p.2.1,p.2.2.1 ++ [q.1],p.2.2.2.1,v54,p.2.2.2.2.2.1,p.2.2.2.2.2.2 ++ [cE (Fx q.1)]),?_,?_,GS.weaken ⟨rfl,rfl,rfl,rfl,rfl,rfl,rfl,trivial⟩ (.refl _)⟩
      · exact ⟨hlt,by simp only;rw [hR2,kY (yT hc3) hc2 hc3],by simp only [List.length_append,List.length_singleton];omega,by simp only [List.length_append,List.length_singleton];omega,by simp [hpe],by simp [hme]⟩
      · simp only;omega
     ·
      refine Ai (Qp (Qf [_,Iq _,.bool _]) (Qp Dy (Qp Az ?_)))
      refine Qp (Af (c:=[Iq _]) Ah rfl rfl rfl rfl rfl rfl (by omega) (Bi hq)) ?_
      refine Qp Bp (Qp Cr (Ag (A6 (fun hc4=>?_) fun hc4=>?_)))
      ·
       refine Ai (Qp (Fz [_,_,Iq _]) ?_)
       refine Cv 3 [_,_,Iq _] (_::_::_::_::_) ?_
       refine Qp Bl (Ag (AW.ret (Bb (Aj (Aj (Bb (Aj ?_)))))))
       refine ⟨.inr rfl,[.agg [_,_,Iq _],.bool _],.cons (.box _ _ _ 3 _ _ _ _ rfl rfl rfl rfl rfl rfl) <| .cons (.tmp _ _ rfl) <| .nil,.cons _ (.cons _ (.cons _ (.cons _ (.refl _)))),?_⟩
       exact Eq.trans rfl (congrArg (fun q:Gp×Bool=>AV.tuple [.agg (cGpR q.1),.bool q.2]) (dif_no (hR2.trans (qP (bne_ne hc4) hc2 hc3)))).symm
      ·
       refine AW.skip (Bu (Ad (AW.region (Qp Az (Qp Ey (Qp Ap (Ag ?_)))))))
       refine ⟨(p.1+1,p.2.1,p.2.2.1,p.2.2.2.1,p.2.2.2.2.1,p.2.2.2.2.2.1,p.2.2.2.2.2.2),?_,?_,GS.weaken ⟨rfl,rfl,rfl,rfl,rfl,rfl,rfl,trivial⟩ (.refl _)⟩
       · exact ⟨hlt,by simp only;rw [hR2,mD (bne_eq hc4)],by simp only;omega,by simp only;omega,hpe,hme⟩
       · simp only;omega
   ·
    have hde:=Dc hc1
    have hR2:=hR.2.1
    rw [hde] at hR2
    refine AW.exit ?_
    refine A5 (A5 (Bq (Ad (AW.seq ?_))))
    refine AW.ghost (GS.cell 2 0 rfl rfl rfl rfl Ej) ?_
    refine AW.ghost (GS.cell 2 1 rfl rfl rfl rfl Ej) ?_
    refine AW.draw mixed (fun H'=>_∈H') (List.mem_of_getElem? (i:=2) rfl) (by kernel_rfl) ?_
    refine Qn 0 rfl (OpP.Aaq (fun k=>A7 (k:=k) (l:=[_,_,Iq _]) Ah rfl rfl rfl rfl rfl) (fun _ h=>h)) ?_
    refine Qn 1 rfl (Qf [.bool _]) (Qn 2 rfl gV (Qn 3 rfl B0 (Qo 4 rfl [] Qw Gc ?_)))
    refine Jn.pure _ _ 5 _ _ rfl (by kernel_rfl) (by kernel_rfl) rfl (.opt _ (.sl _ _) [(67,_)] rfl (nC.all ⟨Ent.Aam _ _,trivial⟩) (fun hG=>OpP.Aaq (fun k=>Am (k:=k) (c:=.sl _ _) Ah rfl rfl rfl rfl) (fun _ h=>h)) rfl) ?_
    refine Jn.pure _ _ 6 _ _ rfl (by kernel_rfl) (by kernel_rfl) rfl (.opt _ (Iq _) [(68,_)] rfl (nC.all ⟨Ent.Aam _ _,trivial⟩) (fun hG=>Al (n:=p.2.1.length) Ah rfl rfl rfl (hpel)) rfl) ?_
    refine Qo 7 rfl [(69,_)] Qw N8 (Qn 8 rfl F7 (Qn 9 rfl B0 (Qo 10 rfl [] Qw Gc ?_)))
    refine Jn.pure _ _ 11 _ _ rfl (by kernel_rfl) (by kernel_rfl) rfl (.opt _ (.sl _ _) [(73,_)] rfl (nC.all ⟨Ent.Aam _ _,trivial⟩) (fun hG=>OpP.Aaq (fun k=>Am (k:=k) (c:=.sl _ _) Ah rfl rfl rfl rfl) (fun _ h=>h)) rfl) ?_
    refine Jn.pure _ _ 12 _ _ rfl (by kernel_rfl) (by kernel_rfl) rfl (.opt _ (Iq _) [(74,_)] rfl (nC.all ⟨Ent.Aam _ _,trivial⟩) (fun hG=>Al (n:=p.2.2.1.length) Ah rfl rfl rfl (hmel)) rfl) ?_
    refine Qo 13 rfl [(75,_)] Qw N8 (Qn 14 rfl F7 ?_)
    refine Jn.eff _ _ 15 _ _ rfl (by kernel_rfl) rfl rfl (B2 (k:=3) (v:=.agg _) (cs':=[_,_,Iq _]) (H2:=_::_::_::_::_) Ah rfl rfl rfl rfl (rfl) rfl rfl rfl rfl) (by rintro _ _ ⟨rfl,rfl⟩;simp) ?_
    rintro _ _ ⟨rfl,rfl⟩
    refine Qn 16 rfl Bl ?_
    refine Jn.done _ _ (by kernel_rfl) ?_
    refine Ad (AW.ret ?_)
    refine ⟨.inr rfl,[.agg [_,_,Iq _],.bool _],.cons (.box _ _ _ 3 _ _ _ _ rfl rfl rfl rfl rfl rfl) <| .cons (.tmp _ _ rfl) <| .nil,.cons _ (.cons _ (.cons _ (.cons _ (.refl _)))),?_⟩
    rw [hpe,hme]
    exact Eq.trans rfl (congrArg (fun q:Gp×Bool=>AV.tuple [.agg (cGpR q.1),.bool q.2]) (xR hR2)).symm

end Go.Proofs.YtjedflcpjlgokaaGreatDoor
