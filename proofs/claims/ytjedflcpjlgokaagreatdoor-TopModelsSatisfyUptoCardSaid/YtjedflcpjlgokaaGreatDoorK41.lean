/-
  Several texts in one: Z8, G11, Ab. No condition.
-/
import Derived.Test.YtjedflcpjlgokaaGreatDoorAz
import Derived.Test.YtjedflcpjlgokaaGreatDoorK40
import Derived.Test.YtjedflcpjlgokaaGreatDoorK31
import Derived.Test.YtjedflcpjlgokaaGreatDoorK39
import Derived.Test.YtjedflcpjlgokaaGreatDoorK38
import Derived.KernelRfl
import Derived.Test.YtjedflcpjlgokaaGreatDoorAx
import Derived.Test.YtjedflcpjlgokaaGreatDoorCards
import Derived.Test.YtjedflcpjlgokaaGreatDoorTie
import Derived.Deep.DeepHandedRow
import Derived.Lib.LaidTab
import Derived.OpenShut
set_option linter.unusedVariables false
set_option linter.unusedSimpArgs false
namespace Go.Proofs.YtjedflcpjlgokaaGreatDoor
open Go Go.Aw
set_option maxHeartbeats 51200000
set_option maxRecDepth 20000

theorem Qy (T:List Sc)(hl:T.length≤1048576)(hst:∀s∈T,Ig s)(V:List Va)(hvl:V.length≤1048576)(e:Ex)(hs:Ar e≤1048576):Ax Tryz.prog 5 [.agg (Cf T V),.agg (cE e)] (.bool true):=by
 have hmx:1048576≤maxLen:=by decide
 refine Ax.body (n:=216) Ah Tryz.func5 rfl rfl rfl fun H=>?_
 refine Ai (Qp (Gd [_,_]) (Qp Kx (Qp Bl (Ag (AW.seq (Ai ?_))))))
 refine Qp (Qc rfl (tQ)) ?_
 refine Qp Hc (Ag (A6 (fun hc1=>?_) fun hc1=>?_))
 ·
  exact absurd hc1 (by decide)
 ·
  refine By (AW.seq (Ai (Qp (Cq [_,_]) (Qp El ?_))))
  refine Qp (A1 (es:=[[Iq _,_,Iq _,Iq _,Iq _,Iq _,Iq _,.str _]]) Ah rfl rfl rfl rfl rfl rfl rfl rfl rfl) ?_
  refine Qp (Qc rfl (bQ T hl hst V hvl e hs)) ?_
  refine Qp Hc (Ag (A6 (fun hc2=>?_) fun hc2=>?_))
  ·
   refine Ai (Qp Bl (Ag (Dw ?_)))
   refine Qr (.bool _) ?_
   rfl
  ·
   have hok:=tU hc2
   have hcz:=Sa T V e
   have hcz0:=hcz.1
   have hty:=hok.kc.kok.ty
   refine By (Ai (Qp (Qf [_,_]) (Qp Dy (Qp (Qf [_]) (Qp Dy (Qp El ?_))))))
   refine Qp (Qc rfl (nT T hl hst V hvl e hs)) ?_
   refine Qp N6 (Qp vY (Qp Ke (Qp Sr (Qp Ap (Ag (AW.seq (Ai (Qp Az (Qp Cr ?_)))))))))
   refine Ag (A6 (fun hc3=>?_) fun hc3=>?_)
   ·
    refine Ai (Qp Az (Qp A9 (Qp Bl (Ag (Dw ?_)))))
    refine Qr (.bool _) ?_
    exact congrArg AV.bool (gP hok hc3)
   ·
    refine By (AW.seq (Ai (Qp Dx ?_)))
    refine Qp (Al (n:=(Ce T V e).1.length) Ah rfl rfl rfl (by simp)) ?_
    refine Qp Az (Ag (AW.block ?_))
    refine AW.Aao (fun (k1:Nat)=>(⟨[(2,.ptr (Cf T V)),(47,.sl 1 ((Ce T V e).1.map P1)),(48,.int .i64 (Ce T V e).1.length),(49,.int .i64 (k1:Int))],H,216⟩:St)) (fun (k1:Nat)=>k1≤(Ce T V e).1.length) (fun (k1:Nat)=>(Ce T V e).1.length-k1) (0) ?_ (GS.weaken ⟨rfl,rfl,rfl,rfl,trivial⟩ (.refl _)) ?_
    · exact Nat.zero_le _
    ·
     rintro k1 hR
     refine Ai (Qp Ch (Ag (AW.seq (A6 (fun hc4=>?_) fun hc4=>?_))))
     ·
      obtain ⟨c,hc⟩:=B5 hc4
      have hlt1:=A4 hc
      have hcm:=List.mem_of_getElem? hc
      have hcl:=oS hok hcm
      have hgl:=(J8 hcl.lok).len
      have hccl:=hcl.cl
      refine By (AW.seq (AW.block (Ai ?_)))
      refine Qp (Af (c:=[_]) Ah rfl rfl rfl rfl rfl rfl (by omega) (Bi hc)) ?_
      refine Qp Dy (Qp Sr (Dm (Qp (Qf [_,_]) (Qp Dy (Qp (Qf [_]) (Qp Dy (Qp Dx ?_)))))))
      refine Qp (Qc rfl (wJ T hl hst V hvl c hcl)) ?_
      refine Qp N6 ?_
      refine Qp (Ci (v:=.agg [Iq _,_]) rfl rfl) ?_
      refine Qp vY (Qp Ke ?_)
      refine Qe (Ak (l:=[.int .i64 0,.sl 3 []]) (by kernel_rfl)) ?_
      rintro _ _ ⟨b9,rfl,rfl⟩
      refine Cv 0 [Iq _,_] (_::_) ?_
      refine Qp Sr (Qp Ap ?_)
      refine AOL.ghost (GS.Aan (t:=9) 0 rfl rfl) ?_
      refine Dm (Qp (Cq [Iq _,_]) ?_)
      refine Qp (Qc rfl (dS T V c hcl.lok (eN T V c))) ?_
      refine Qp N6 (Qp bB (Qp vY (Qp vY (Qp Ke (Qp Bl (Qp Sr (Qp Sr (Qp Ap (Ag ?_)))))))))
      refine AW.seq (Ai (Qp Az (Qp Cr (Qp B0 (Qg [] Qw Az (Qg [(73,_)] Qw Cr (Qp E1 (Ag (A6 (fun hc5=>?_) fun hc5=>?_)))))))))
      ·
       exact absurd hc5 (by rw [hcl.err];decide)
      ·
       refine By (AW.seq (Ai (Qp B0 (Qp Hc (Ag (A6 (fun hc6=>?_) fun hc6=>?_))))))
       ·
        refine AW.exit ?_
        refine A5 (Bq (Ad (AW.region (Qp Ey (Qp Az (Ag ?_))))))
        refine ⟨k1+1,?_,?_,GS.weaken ⟨rfl,rfl,rfl,rfl,trivial⟩ (.refl _)⟩
        · exact hlt1
        · omega
       ·
        have hmo:=tC hok hcm (by simpa using hc6)
        have hvlen:=hmo.vlen
        refine By (AW.seq (Ai (Qp Dx ?_)))
        refine Qp (Al (n:=(Bs (Bf T V c)).values.length) Ah rfl rfl rfl (by simp)) ?_
        refine Qp Dx ?_
        refine Qp (Al (n:=(B1 T V c).ts.length) Ah rfl rfl rfl (by simp)) ?_
        refine Qp Ey (Qp Cr (Ag (A6 (fun hc7=>?_) fun hc7=>?_)))
        ·
         exact absurd hc7 (by rw [hvlen];simp)
        ·
         refine By (Ai (Qp (Qf [_]) (Qp Dy ?_)))
         refine Qp (Al (n:=V.length) Ah rfl rfl rfl (by simp)) ?_
         refine Qe (bN (n:=V.length) (z:=5) (l:=zcE) Ah rfl rfl rfl rfl rfl rfl rfl (by show 56*V.length≤_;omega) (by omega) (by kernel_rfl) rfl) ?_
         rintro _ _ ⟨b89,rfl,rfl⟩
         refine Qp N4 (Ag (AW.seq (Ai (Qp (Qf [_]) (Qp Dy ?_)))))
         refine Qp (Al (n:=V.length) Ah rfl rfl rfl (by simp)) ?_
         refine Qp Az (Ag (AW.block ?_))
         refine AW.ghost (GS.cells 0 rfl (congrArg List.flatten (zH T V))) ?_
         refine AW.Aao (fun (k2:Nat)=>(⟨[(2,.ptr (Cf T V)),(47,.sl 1 ((Ce T V e).1.map P1)),(48,.int .i64 (Ce T V e).1.length),(49,.int .i64 (k1:Int)),(8,.sl 9 (c.map F0)),(10,.sl 8 (((B1 T V c).ts.map Fx).map G8)),(13,.sl 1 ((Bs (Bf T V c)).values.map cI)),(16,.val (.slice (some ⟨b89,0,none⟩) V.length V.length)),(91,.sl 2 (V.map S4)),(92,.int .i64 V.length),(93,.int .i64 (k2:Int))],.box b89 66 (vZ T V k2).flatten::H,216⟩:St)) (fun (k2:Nat)=>k2≤V.length) (fun (k2:Nat)=>V.length-k2) (0) ?_ (GS.weaken ⟨rfl,rfl,rfl,rfl,rfl,rfl,rfl,rfl,rfl,rfl,rfl,trivial⟩ (.refl _)) ?_
         · exact Nat.zero_le _
         ·
          rintro k2 hR
          refine Ai (Qp Ch (Ag (AW.seq (A6 (fun hc8=>?_) fun hc8=>?_))))
          ·
           obtain ⟨va,hva⟩:=B5 hc8
           have hlt2:=A4 hva
           have hvm:=List.mem_of_getElem? hva
           have hvt:=hty va hvm
           refine (fJ hty hvm).elim fun sc hsc=>?_
           have hfl:=(hst sc (List.mem_of_getElem? hsc)).2.1
           refine By (AW.seq (AW.block (Ai (Qp Az ?_))))
           refine Qp (Af (c:=[.str _,Iq _]) Ah rfl rfl rfl rfl rfl rfl (by omega) (Bi hva)) ?_
           refine Qp (Cq [.str _,Iq _]) ?_
           refine Qe (Ak (l:=[.str [],.int .i64 0]) (by kernel_rfl)) ?_
           rintro _ _ ⟨b18,rfl,rfl⟩
           refine Qp Ap ?_
           refine Cv 0 [.str _,Iq _] (_::_::_) ?_
           refine AOL.ghost (GS.Aan (t:=18) 0 rfl rfl) ?_
           refine Ag (AW.seq ?_)
           refine AW.ghost (GS.cells 0 rfl (congrArg List.flatten (xS hlt2))) ?_
           refine AW.region (Qp Gr (Qp Az (Qp Gr (Qp Az (Qp (Qf [Iq _]) (Qp Bp (Qp Az ?_)))))))
           refine Qp (Bh (o':=k2*5) Ah rfl rfl rfl rfl rfl (by omega) (by omega) (Nat.zero_add _)) ?_
           refine Qp Gc ?_
           refine Qe (B2 (k:=0) (v:=Iq _) (cs':=(Kq T V k2 [.int .i64 0,.int .i64 0,.int .i64 va.type,.int .i64 0,.val (.slice none 0 0)]).flatten) (H2:=_::_) Ah rfl rfl rfl rfl rfl rfl (Ms (o:=2) (Gn rfl) (I5 hlt2) (by decide)) ((Pe (o:=2) (Gn rfl) (I5 hlt2) (by decide)).trans (congrArg List.flatten (O9 hlt2))) rfl) ?_
           rintro _ _ ⟨rfl,rfl⟩
           refine Qp (Bh (o':=k2*5) Ah rfl rfl rfl rfl rfl (by omega) (by omega) (Nat.zero_add _)) ?_
           refine Qp Gc ?_
           refine Qe (B2 (k:=0) (v:=Iq _) (cs':=(Kq T V k2 [.int .i64 0,.int .i64 (k2:Int),.int .i64 va.type,.int .i64 0,.val (.slice none 0 0)]).flatten) (H2:=_::_) Ah rfl rfl rfl rfl rfl rfl (Ms (o:=1) (Gn rfl) (I5 hlt2) (by decide)) ((Pe (o:=1) (Gn rfl) (I5 hlt2) (by decide)).trans (congrArg List.flatten (O9 hlt2))) rfl) ?_
           rintro _ _ ⟨rfl,rfl⟩
           refine Dm (Qp (Qf [_,_]) (Qp Dy (Qp (Qf [Iq _]) (Qp Bp ?_))))
           refine Qp (Af (c:=[.str _,_]) Ah rfl rfl rfl rfl rfl rfl (hvt.1) (Bi hsc)) ?_
           refine Qp (Qf [_]) (Qp Dy ?_)
           refine Qp (Al (n:=sc.fields.length) Ah rfl rfl rfl (by simp)) ?_
           refine Qp Az ?_
           refine AOL.ghost (GS.cellRow 0 (k2*5+4) 28 3 rfl (Tc (o:=4) (Gn rfl) (I5 hlt2) rfl) ((Yb (o:=4) (Gn rfl) (I5 hlt2) (by decide)).trans (congrArg List.flatten (O9 hlt2))) rfl) ?_
           refine Ag (AW.block ?_)
           refine AW.Aao (fun (q:Nat×List (List AV)×Value)=>(⟨[(2,.ptr (Cf T V)),(47,.sl 1 ((Ce T V e).1.map P1)),(48,.int .i64 (Ce T V e).1.length),(49,.int .i64 (k1:Int)),(8,.sl 9 (c.map F0)),(10,.sl 8 (((B1 T V c).ts.map Fx).map G8)),(13,.sl 1 ((Bs (Bf T V c)).values.map cI)),(16,.val (.slice (some ⟨b89,0,none⟩) V.length V.length)),(91,.sl 2 (V.map S4)),(92,.int .i64 V.length),(93,.int .i64 (k2:Int)),(17,.int .i64 (k2:Int)),(115,.sl 2 (sc.fields.map cFi)),(116,.int .i64 sc.fields.length),(117,.int .i64 (q.1:Int))],.row q.2.2 q.2.1.length 28 3 :: .box b89 66 (Kq T V k2 [.int .i64 0,.int .i64 (k2:Int),.int .i64 va.type,.int .i64 0,.row q.2.2 3 (q.2.1)]).flatten::H,216⟩:St)) (fun (q:Nat×List (List AV)×Value)=>q.1≤sc.fields.length∧q.2.1=((sc.fields.take q.1).map zV).map cV) (fun (q:Nat×List (List AV)×Value)=>sc.fields.length-q.1) ((0,[],.slice none 0 0)) ?_ (GS.weaken ⟨rfl,rfl,rfl,rfl,rfl,rfl,rfl,rfl,rfl,rfl,rfl,rfl,rfl,rfl,rfl,trivial⟩ (.refl _)) ?_
           · exact ⟨Nat.zero_le _,rfl⟩
           ·
            rintro q hQ
            have hsc3:∀c∈q.2.1,Be c=true:=by rw [hQ.2];exact Ed fun _=>rfl
            refine Ai (Qp Ch (Ag (AW.seq (A6 (fun hc9=>?_) fun hc9=>?_))))
            ·
             obtain ⟨f,hf⟩:=B5 hc9
             have hltf:=A4 hf
             refine By (AW.seq (AW.block (Ai ?_)))
             refine Qp (Af (c:=[.str _,Iq _]) Ah rfl rfl rfl rfl rfl rfl (by omega) (Bi hf)) ?_
             refine Qp (Cq [.str _,Iq _]) ?_
             refine Qe (Ak (l:=[.str [],.int .i64 0]) (by kernel_rfl)) ?_
             rintro _ _ ⟨b20,rfl,rfl⟩
             refine Cv 0 [.str _,Iq _] (_::_::_::_) ?_
             refine AOL.ghost (GS.Aan (t:=20) 0 rfl rfl) ?_
             refine Ag ?_
             refine AW.draw mixed (fun H'=>_∈H') (List.mem_of_getElem? (i:=1) rfl) (by kernel_rfl) ?_
             refine Qn 0 rfl Gr (Qn 1 rfl Az (Qn 2 rfl Gr (Qn 3 rfl Az ?_)))
             refine Qn 4 rfl (Bh (o':=k2*5) Ah rfl rfl rfl rfl rfl (by omega) (by omega) (Nat.zero_add _)) ?_
             refine Qn 5 rfl Gc ?_
             refine Qn 6 rfl (OpP.Aaq (fun k=>Am (k:=k) (c:=.row q.2.2 3 q.2.1) Ah rfl rfl rfl (Tc (o:=4) (Gn rfl) (I5 hlt2) rfl)) (fun _ h=>h)) ?_
             refine Qn 7 rfl (Qf [Iq _]) (Qn 8 rfl Bp (Qn 9 rfl (Fz [Iq _,Iq _,.str _]) ?_))
             refine Qn 10 rfl (A1 (es:=[[Iq _,Iq _,.str _]]) Ah rfl rfl rfl rfl rfl rfl rfl rfl rfl) ?_
             refine Jn.eff _ _ 11 _ _ rfl (by kernel_rfl) rfl rfl (C3 (k:=0) Ah rfl rfl rfl rfl rfl rfl rfl rfl (Ff rfl) (hsc3) (by simp [hQ.2];omega) (by simp [hQ.2,maxLen];omega)) (by rintro _ _ ⟨v132,rfl,rfl⟩;simp) ?_
             rintro _ _ ⟨v132,rfl,rfl⟩
             refine Qn 12 rfl (Bh (o':=k2*5) Ah rfl rfl rfl rfl rfl (by omega) (by omega) (Nat.zero_add _)) ?_
             refine Qn 13 rfl Gc ?_
             refine Jn.last _ _ 14 _ _ rfl (by kernel_rfl) rfl rfl (B2 (k:=1) (v:=.row _ _ _) (cs':=(Kq T V k2 [.int .i64 0,.int .i64 (k2:Int),.int .i64 va.type,.int .i64 0,.row v132 3 (q.2.1 ++ [cV (zV f)])]).flatten) (H2:=_::_::_) Ah rfl rfl rfl rfl rfl rfl (Ms (o:=4) (Gn rfl) (I5 hlt2) (by decide)) ((Pe (o:=4) (Gn rfl) (I5 hlt2) (by decide)).trans (congrArg List.flatten (O9 hlt2))) rfl) (by kernel_rfl) ?_
             rintro _ _ ⟨rfl,rfl⟩
             refine Bu (Ad (AW.region (Qp Ey (Qp Az (Ag ?_)))))
             refine ⟨(q.1+1,q.2.1 ++ [cV (zV f)],v132),?_,?_,GS.weaken ⟨rfl,rfl,rfl,rfl,rfl,rfl,rfl,rfl,rfl,rfl,rfl,rfl,rfl,rfl,rfl,trivial⟩ (.refl _)⟩
             · exact ⟨hltf,by simp only;rw [C4 hf,hQ.2];simp⟩
             · simp only;omega
            ·
             have htf:=Cu hc9
             have hE:=hQ.2
             rw [htf] at hE
             have hrows:q.2.1=(Uq T k2 va).values.map cV:=hE.trans (congrArg (List.map cV) (Xb hsc).symm)
             refine AW.exit ?_
             refine A5 (A5 (Bq (Bu (Ad (AW.region (Qp Ey (Qp Az (Ag ?_))))))))
             refine ⟨k2+1,?_,?_,GS.trans (GS.cell (H2:=_ :: .box b89 66 (vZ T V (k2+1)).flatten::_) 1 (k2*5+4) rfl (Tc (o:=4) (Gn rfl) (I5 hlt2) rfl) ((Yb (o:=4) (x:=.sl 3 q.2.1) (Gn rfl) (I5 hlt2) (by decide)).trans (congrArg List.flatten ((O9 hlt2).trans ((congrArg (fun es:List (List AV)=>Kq T V k2 [.int .i64 0,.int .i64 (k2:Int),.int .i64 va.type,.int .i64 0,.sl 3 es]) hrows).trans (pB hva))))) rfl Ej) (GS.weaken ⟨rfl,rfl,rfl,rfl,rfl,rfl,rfl,rfl,rfl,rfl,rfl,trivial⟩ (.cons _ (.refl _)))⟩
             · exact hlt2
             · omega
          ·
           have hge2:V.length≤k2:=by have:=of_decide_eq_false hc8;omega
           refine AW.exit ?_
           refine A5 (A5 (Bq (Ad (AW.seq (Ai (Qp Dx ?_))))))
           refine Qp (Al (n:=(B1 T V c).ts.length) Ah rfl rfl rfl (by simp)) ?_
           refine Qp Az (Ag (AW.block ?_))
           refine AW.ghost (GS.cells 0 rfl (congrArg List.flatten (mk_all hge2))) ?_
           refine AW.Aao (fun (p:Nat×List Ev)=>(⟨[(2,.ptr (Cf T V)),(47,.sl 1 ((Ce T V e).1.map P1)),(48,.int .i64 (Ce T V e).1.length),(49,.int .i64 (k1:Int)),(8,.sl 9 (c.map F0)),(13,.sl 1 ((Bs (Bf T V c)).values.map cI)),(16,.val (.slice (some ⟨b89,0,none⟩) V.length V.length)),(137,.sl 8 (((B1 T V c).ts.map Fx).map G8)),(138,.int .i64 (B1 T V c).ts.length),(139,.int .i64 (p.1:Int))],.box b89 66 (p.2.map Lo).flatten::H,216⟩:St)) (fun (p:Nat×List Ev)=>p.1≤(B1 T V c).ts.length∧Gv (Bs (Bf T V c)).values p.1 ((B1 T V c).ts.drop p.1) p.2=(P0 T V c)∧evOK T V p.2) (fun (p:Nat×List Ev)=>(B1 T V c).ts.length-p.1) ((0,Fh T 0 V)) ?_ (GS.weaken ⟨rfl,rfl,rfl,rfl,rfl,rfl,rfl,rfl,rfl,rfl,trivial⟩ (.refl _)) ?_
           · exact ⟨Nat.zero_le _,rfl,iJ⟩
           ·
            rintro p hO
            refine Ai (Qp Ch (Ag (AW.seq (A6 (fun hc10=>?_) fun hc10=>?_))))
            ·
             obtain ⟨t,ht⟩:=B5 hc10
             have hlt4:=A4 ht
             have htm:=iF hcl.lok t (List.mem_of_getElem? ht)
             refine (ev_at hO.2.2 htm).elim fun x hx=>?_
             have hx2:=hx.2
             have hfs:=pZ (V:=V) hst t.v
             have hxl:x.values.length≤1048576:=by omega
             have hff:t.op≠2→0≤t.field∧t.field<(x.values.length:Int):=fun h=>by have:=htm.f (htm.op.resolve_right h);omega
             refine By (AW.seq (AW.block (Ai (Qp Az ?_))))
             refine Qp (Af (c:=[Iq _,_,Iq _,Iq _,Iq _,Iq _,Iq _,.str _]) Ah rfl rfl rfl rfl rfl rfl (by omega) (te_at ht)) ?_
             refine Qp El ?_
             refine Qe (Ak (l:=[.int .i64 0,.sl 8 [],.int .i64 0,.int .i64 0,.int .i64 0,.int .i64 0,.int .i64 0,.str []]) (by kernel_rfl)) ?_
             rintro _ _ ⟨b22,rfl,rfl⟩
             refine Qp Ap ?_
             refine Cv 0 [Iq _,_,Iq _,Iq _,Iq _,Iq _,Iq _,.str _] (_::_::_) ?_
             refine AOL.ghost (GS.Aan (t:=22) 0 rfl rfl) ?_
             refine Ag (AW.seq (Ai (Qp Te (Qp Bp (Qp Ch (Qp B0 (Qg [] Qw Te (Qg [(148,_)] Qw Bp (Qg [] Qw Gr ?_)))))))))
             refine AOL.Aar (y:=Iq _) _ [(150,_)] rfl (nC.all ⟨Ent.Aam _ _,trivial⟩) (fun hG=>Pu Ah rfl rfl rfl) rfl ?_
             refine AOL.Aar (y:=.bool _) _ [(149,_),(151,_)] rfl (nC.all ⟨Ent.Aam _ _,Ent.Aam _ _,trivial⟩) (fun hG=>Ro rfl rfl) rfl ?_
             refine Qp E1 (Ag (A6 (fun hc11=>?_) fun hc11=>?_))
             ·
              exact ((Bool.or_eq_true ..).mp hc11).elim (fun h=>absurd htm.v0 (Int.not_le.2 (of_decide_eq_true h))) (fun h=>absurd htm.v1 (Int.not_lt.2 (of_decide_eq_true h)))
             ·
              refine By ?_
              refine AW.draw mixed (fun H'=>_∈H') (List.mem_of_getElem? (i:=0) rfl) (by kernel_rfl) ?_
              refine Qn 0 rfl Gr (Qn 1 rfl Te (Qn 2 rfl Bp (Qn 3 rfl Gr (Qn 4 rfl Te (Qn 5 rfl Bp ?_)))))
              refine Qn 6 rfl (Bh (o':=t.v.toNat*5) Ah rfl rfl rfl rfl rfl (htm.v0) (htm.v1) (Nat.zero_add _)) ?_
              refine Qn 7 rfl (OpP.Aaq (fun k=>A7 (k:=k) (l:=Lo x) Ah rfl rfl rfl (Ya (Sn _) (Bi hx.1)) rfl) (fun _ h=>h)) ?_
              refine Qn 8 rfl El (Qn 9 rfl Dx (Qn 10 rfl Az (Qn 11 rfl Ey ?_)))
              refine Qn 12 rfl (Af (c:=[Iq _]) Ah rfl rfl rfl rfl rfl rfl (by omega) (bA (by omega))) ?_
              refine Qn 13 rfl Bp ?_
              refine Qn 14 rfl (Qc rfl (oY x hxl t _ hff)) ?_
              refine Qn 15 rfl (Bh (o':=t.v.toNat*5) Ah rfl rfl rfl rfl rfl (htm.v0) (htm.v1) (Nat.zero_add _)) ?_
              refine Jn.last _ _ 16 _ _ rfl (by kernel_rfl) rfl rfl (B2 (k:=0) (v:=.agg _) (cs':=((L1 p.2 t (Du (Bs (Bf T V c)).values ((p.1:Int)+1))).map Lo).flatten) (H2:=_::_) Ah rfl rfl rfl rfl rfl rfl (iR (Sn _) (Bi hx.1)) ((Zl (Sn _) (Bi hx.1) rfl).trans (cv_set hx.1)) rfl) (by kernel_rfl) ?_
              rintro _ _ ⟨rfl,rfl⟩
              refine Bu (Ad (AW.region (Qp Ey (Qp Az (Ag ?_)))))
              refine ⟨(p.1+1,L1 p.2 t (Du (Bs (Bf T V c)).values ((p.1:Int)+1))),?_,?_,GS.weaken ⟨rfl,rfl,rfl,rfl,rfl,rfl,rfl,rfl,rfl,rfl,trivial⟩ (.refl _)⟩
              · exact ⟨hlt4,(Q2 ht).symm.trans hO.2.1,U1 hO.2.2 t _⟩
              · simp only;omega
            ·
             have hde:=Dc hc10
             have hnum:=hO.2.1
             rw [hde] at hnum
             have hnum:p.2=(P0 T V c):=hnum
             refine AW.exit ?_
             refine A5 (A5 (Bq (Ad (AW.seq (Ai (Qp Dx ?_))))))
             refine Qp (Al (n:=c.length) Ah rfl rfl rfl (by simp)) ?_
             refine Qp Az ?_
             refine AOL.ghost (GS.freezeSl (t:=16) (z:=5) (es:=(P0 T V c).map Lo) 0 rfl rfl (congrArg (fun l:List Ev=>(l.map Lo).flatten) hnum.symm) (by rw [List.length_map,←hnum];exact hO.2.2.len.symm) (Nat.le_refl _) (by omega) (Sn _) lE) ?_
             refine Ag (AW.block ?_)
             refine AW.Aao (fun (k5:Nat)=>(⟨[(2,.ptr (Cf T V)),(47,.sl 1 ((Ce T V e).1.map P1)),(48,.int .i64 (Ce T V e).1.length),(49,.int .i64 (k1:Int)),(16,.sl 5 ((P0 T V c).map Lo)),(171,.sl 9 (c.map F0)),(172,.int .i64 c.length),(173,.int .i64 (k5:Int))],H,216⟩:St)) (fun (k5:Nat)=>k5≤c.length) (fun (k5:Nat)=>c.length-k5) (0) ?_ (GS.weaken ⟨rfl,rfl,rfl,rfl,rfl,rfl,rfl,rfl,trivial⟩ (.refl _)) ?_
             · exact Nat.zero_le _
             ·
              rintro k5 hR5
              refine Ai (Qp Ch (Ag (AW.seq (A6 (fun hc12=>?_) fun hc12=>?_))))
              ·
               obtain ⟨y,hy⟩:=B5 hc12
               have hlt5:=A4 hy
               have hym:=List.mem_of_getElem? hy
               have hevl:=hmo.evl
               refine By (AW.seq (AW.block (Ai ?_)))
               refine Qp (Af (c:=[Iq _,_,Iq _,Iq _,Iq _,Iq _,Iq _,.str _,.bool _]) Ah rfl rfl rfl rfl rfl rfl (by omega) (Bi hy)) ?_
               refine Qp (Cq [Iq _,_,Iq _,Iq _,Iq _,Iq _,Iq _,.str _,.bool _]) ?_
               refine Qe (Ak (l:=[.int .i64 0,.sl 8 [],.int .i64 0,.int .i64 0,.int .i64 0,.int .i64 0,.int .i64 0,.str [],.bool false]) (by kernel_rfl)) ?_
               rintro _ _ ⟨b24,rfl,rfl⟩
               refine Cv 0 [Iq _,_,Iq _,Iq _,Iq _,Iq _,Iq _,.str _,.bool _] (_::_) ?_
               refine AOL.ghost (GS.Aan (t:=24) 0 rfl rfl) ?_
               refine Ag (AW.seq ?_)
               refine AW.draw mixed (fun _=>True) trivial (by kernel_rfl) ?_
               refine Qn 0 rfl (Qf [_,_]) (Qn 1 rfl Dy (Qn 2 rfl (Qf [_]) (Qn 3 rfl Dy (Qn 4 rfl (Qf [Iq _,_,Iq _,Iq _,Iq _,Iq _,Iq _,.str _,.bool _]) (Qn 5 rfl El ?_)))))
               refine Qn 6 rfl (Qc rfl (sQ T hl hst V hvl y.cond (hmo.kc y hym))) ?_
               refine Qn 7 rfl B0 (Qo 8 rfl [] Qw (Cq [_,_]) (Qo 9 rfl [] Qw (Cq [Iq _,_,Iq _,Iq _,Iq _,Iq _,Iq _,.str _,.bool _]) ?_))
               refine Jn.pure _ _ 10 _ _ rfl (by kernel_rfl) (by kernel_rfl) rfl (.opt _ (.sl _ _) [(186,_)] rfl (nC.all ⟨Ent.Aam _ _,trivial⟩) (fun hG=>A1 (es:=[[Iq _,_,Iq _,Iq _,Iq _,Iq _,Iq _,.str _,.bool _]]) Ah rfl rfl rfl rfl rfl rfl rfl rfl rfl) rfl) ?_
               refine Jn.pure _ _ 11 _ _ rfl (by kernel_rfl) (by kernel_rfl) rfl (.opt _ (.bool _) [(185,_),(187,_)] rfl (nC.all ⟨Ent.Aam _ _,Ent.Aam _ _,trivial⟩) (fun hG=>E3 (by kernel_rfl) rfl rfl (iX T hl hst V hvl y (hcl.cs y hym))) rfl) ?_
               refine Qo 12 rfl [(188,_)] Qw Hc (Qn 13 rfl F7 (Qn 14 rfl B0 (Qo 15 rfl [] Qw (Qf [Iq _,_,Iq _,Iq _,Iq _,Iq _,Iq _,.str _,.bool _]) (Qo 16 rfl [(192,_)] Qw El (Qo 17 rfl [] Qw Dx ?_)))))
               refine Qo 18 rfl [(194,_)] Qw (Qc rfl (r_Bind (P0 T V c) hmo.evl)) ?_
               refine Qo 19 rfl [] Qw (Fz [Iq _,Iq _,Iq _,Iq _,_]) ?_
               refine Jn.pure _ _ 20 _ _ rfl (by kernel_rfl) (by kernel_rfl) rfl (.opt _ (.bool _) [(193,_),(195,_),(196,_)] rfl (nC.all ⟨Ent.Aam _ _,Ent.Aam _ _,Ent.Aam _ _,trivial⟩) (fun hG=>E3 (by kernel_rfl) rfl rfl (c16 (Gq (P0 T V c)) (-1) L3 (uW (P0 T V c)) y.cond (hcl.cs y hym))) rfl) ?_
               refine Qo 21 rfl [] Qw (Qf [.bool _]) (Qo 22 rfl [(198,_)] Qw gV ?_)
               refine Jn.pure _ _ 23 _ _ rfl (by kernel_rfl) (by kernel_rfl) rfl (.opt _ (.bool _) [(197,_),(199,_)] rfl (nC.all ⟨Ent.Aam _ _,Ent.Aam _ _,trivial⟩) (fun hG=>Mw Ah rfl rfl rfl rfl) rfl) ?_
               refine Qn 24 rfl F7 ?_
               refine Jn.done _ _ (by kernel_rfl) ?_
               refine Ad (A6 (fun hc13=>?_) fun hc13=>?_)
               ·
                exact absurd (hc13.symm.trans (hmo.lit y hym)) (by decide)
               ·
                refine AW.skip (Bu (Ad (AW.region (Qp Ey (Qp Az (Ag ?_))))))
                refine ⟨k5+1,?_,?_,GS.weaken ⟨rfl,rfl,rfl,rfl,rfl,rfl,rfl,rfl,trivial⟩ (.refl _)⟩
                · exact hlt5
                · omega
              ·
               refine AW.exit ?_
               refine A5 (A5 (Bq (Ad (Ai (Qp Dx ?_)))))
               refine Qp (Al (n:=(P0 T V c).length) Ah rfl rfl rfl (by simp)) ?_
               refine Qp Az (Ag (AW.block ?_))
               refine AW.Aao (fun (k6:Nat)=>(⟨[(2,.ptr (Cf T V)),(47,.sl 1 ((Ce T V e).1.map P1)),(48,.int .i64 (Ce T V e).1.length),(49,.int .i64 (k1:Int)),(203,.sl 5 ((P0 T V c).map Lo)),(204,.int .i64 (P0 T V c).length),(205,.int .i64 (k6:Int))],H,216⟩:St)) (fun (k6:Nat)=>k6≤(P0 T V c).length) (fun (k6:Nat)=>(P0 T V c).length-k6) (0) ?_ (GS.weaken ⟨rfl,rfl,rfl,rfl,rfl,rfl,rfl,trivial⟩ (.refl _)) ?_
               · exact Nat.zero_le _
               ·
                rintro k6 hR6
                refine Ai (Qp Ch (Ag (AW.seq (A6 (fun hc14=>?_) fun hc14=>?_))))
                ·
                 obtain ⟨a,ha⟩:=B5 hc14
                 have hlt6:=A4 ha
                 have ham:=List.mem_of_getElem? ha
                 have hevl:=hmo.evl
                 refine By (AW.seq (AW.block (Ai ?_)))
                 refine Qp (Af (c:=[Iq _,Iq _,Iq _,Iq _,_]) Ah rfl rfl rfl rfl rfl rfl (by omega) (Bi ha)) ?_
                 refine Qp (Cq [Iq _,Iq _,Iq _,Iq _,_]) ?_
                 refine Qe (Ak (l:=[.int .i64 0,.int .i64 0,.int .i64 0,.int .i64 0,.sl 3 []]) (by kernel_rfl)) ?_
                 rintro _ _ ⟨b26,rfl,rfl⟩
                 refine Cv 0 [Iq _,Iq _,Iq _,Iq _,_] (_::_) ?_
                 refine AOL.ghost (GS.Aan (t:=26) 0 rfl rfl) ?_
                 refine Dm (Qp (Qf [_,_]) (Qp Dy (Qp (Cq [Iq _,Iq _,Iq _,Iq _,_]) ?_)))
                 refine Qp (Qc rfl (zQ T hst a)) ?_
                 refine Qp Cr (Ag (A6 (fun hc15=>?_) fun hc15=>?_))
                 ·
                  exact absurd hc15 (by rw [hmo.valid a ham];decide)
                 ·
                  refine AW.skip (Bu (Ad (AW.region (Qp Ey (Qp Az (Ag ?_))))))
                  refine ⟨k6+1,?_,?_,GS.weaken ⟨rfl,rfl,rfl,rfl,rfl,rfl,rfl,trivial⟩ (.refl _)⟩
                  · exact hlt6
                  · omega
                ·
                 refine AW.exit ?_
                 refine A5 (A5 (Bq (Bu (Ad (AW.region (Qp Ey (Qp Az (Ag ?_))))))))
                 refine ⟨k1+1,?_,?_,GS.weaken ⟨rfl,rfl,rfl,rfl,trivial⟩ (.refl _)⟩
                 · exact hlt1
                 · omega
     ·
      refine AW.exit ?_
      refine A5 (A5 (Bq (Ad (Ai (Qp Bl (Ag (AW.ret ?_)))))))
      refine Qr (.bool _) ?_
      rfl

open Go Go.Aw Go.ChangeShapes Go.WideShapes Go.ChangeAt Go.RowKit
set_option maxRecDepth 100000

theorem laid:laidOutB Tryz.prog=true:=by kernel_rfl
theorem own:ownKnob Tryz.prog.godebug=none:=by kernel_rfl
def Sz:List Int:=[1,10,100,1000,10000,100000,1000000,10000000,100000000,1000000000,10000000000,100000000000,1000000000000,10000000000000,100000000000000,1000000000000000,10000000000000000,100000000000000000,1000000000000000000,10000000000000000000]
theorem pow_of {W : World} (h : laidMet Tryz.prog Rows.topClausesDecideRow.laid W) : Lib.TabIs Tryz.prog W "internal/strconv.uint64pow10" .u64 Sz := by
 obtain ⟨ps,⟨_,_,_,_,_,_,_,_,_,_,⟨_,_,_,_,_,_,_,_,_,_,⟨g',t',cs,fuel,p,q,hg',ht',hvar,hd,_,_⟩,_⟩,_⟩,_⟩:=h
 obtain rfl := Option.some.inj ((show Tryz.prog.globalNamed "internal/strconv.uint64pow10" = some 0 by kernel_rfl).symm.trans hg')
 obtain rfl:=Option.some.inj ((show (Tryz.prog.globals[0]?).map (·.type)=some 245 by kernel_rfl).symm.trans ht')
 have:=Lib.cells_of_tab (k:=.u64) (zs:=Sz) (n:=20) (e:=216) (by kernel_rfl) (by kernel_rfl) (by kernel_rfl) (by kernel_rfl) hd
 unfold Lib.TabIs
 rw [hvar,←this]
theorem rW {W : World} (h : Lib.TabIs Tryz.prog W "internal/strconv.uint64pow10" .u64 Sz) : ∃ T fr, W.heap[0]? = some (.cells (Sz.map fun z => Value.int .u64 z).toArray T fr) := by
 have e : Tryz.prog.globalNamed "internal/strconv.uint64pow10" = some 0 := by kernel_rfl
 unfold Lib.TabIs World.var? at h
 rw [e] at h
 have hk:∀(X:Array Value) (o:Option Obj),(match o with | some (Obj.cells cs _ _)=>some cs | _=>none)=some X→∃T fr,o=some (Obj.cells X T fr):=by
  intro X o h
  match o,h with
  | some (Obj.cells cs T fr),h=>exact ⟨T,fr,by rw [Option.some.inj h]⟩
 exact hk _ _ h
theorem globOK {W:World}(h:laidMet Tryz.prog Rows.topClausesDecideRow.laid W)(hS:W.ShapedOpen Tryz.prog):GlobOK g0 W:=by
  have ht:=pow_of h
  refine ⟨fun p hp=>?_,fun p hp=>?_⟩
  · obtain rfl:=List.mem_singleton.1 hp
    refine ⟨Q3,rfl,?_⟩
    have hcell : ∀ j, W.cell? ⟨0, j, none⟩ = (Sz.map fun z => Value.int .u64 z).toArray[j]? := fun j => World.var?_cell (show Tryz.prog.globalNamed "internal/strconv.uint64pow10" = some 0 by kernel_rfl) ht j
    have hs:Q3=Sz.map fun z=>AV.int .u64 z:=rfl
    rw [hs]
    refine .ptr 0 0 _ (fun j=>Value.int .u64 (Sz.getD j 0)) (fun j x hj=>?_) (fun j x hj=>?_)
    · rw [List.getElem?_map] at hj
      cases hq:Sz[j]? with
      | none=>rw [hq] at hj;cases hj
      | some y=>
        refine ⟨trivial,?_⟩
        rw [Nat.zero_add,hcell j]
        simp [hq,List.getD_eq_getElem?_getD]
    · rw [List.getElem?_map] at hj
      cases hq:Sz[j]? with
      | none=>rw [hq] at hj;cases hj
      | some y=>
        rw [hq] at hj
        simp only [Option.map_some,Option.some.injEq] at hj
        subst hj
        have e:Sz.getD j 0=y:=by rw [List.getD_eq_getElem?_getD,hq];rfl
        rw [e]
        exact .int _ _
  · obtain rfl:=List.mem_singleton.1 hp
    exact ⟨rfl,rW ht⟩
def iT (k:IntKind)(l:List Int):Obj→Obj
 | .cells _ t frozen=>.cells (l.map fun z=>Value.int k z).toArray t frozen
 | o=>o
def ofTab (d:DataW Unit):List Int:=match d with
 | .agg l=>l.map fun | .lit (.int _ n)=>n | _=>0
 | _=>[]
noncomputable def laidWorld (os:Os):World:=
 { World.holding Tryz.prog os ⟨#[],#[],[]⟩ with heap:=(((World.holding Tryz.prog os ⟨#[],#[],[]⟩).heap.modify 0 (iT .u64 Sz)).modify 1 (iT .u8 (ofTab Rows.laid_math_bits_deBruijn32tab))).modify 2 (iT .u8 (ofTab Rows.laid_math_bits_deBruijn64tab)) }
end Go.Proofs.YtjedflcpjlgokaaGreatDoor

namespace Go.Aw
open Go
section
variable {H:Type} {enc:TypeId×Value→H} {P:Program} {w:World} {sp:Nat→Bool} {hd:Bool} {B:DataW H→Nat} {BA:List (DataW H)→Nat}
end
end Go.Aw
