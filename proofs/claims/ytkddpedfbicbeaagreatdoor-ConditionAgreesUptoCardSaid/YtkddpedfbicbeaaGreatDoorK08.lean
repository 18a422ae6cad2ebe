/-
  Several texts in one: W24, W13. No condition.
-/
import Derived.Test.YtkddpedfbicbeaaGreatDoorAz
import Derived.Test.YtkddpedfbicbeaaGreatDoorW23
import Derived.KernelRfl
import Derived.Test.YtkddpedfbicbeaaGreatDoorK02
import Derived.Test.YtkddpedfbicbeaaGreatDoorW4
set_option linter.unusedVariables false
set_option linter.unusedSimpArgs false
namespace Go.Proofs.YtkddpedfbicbeaaGreatDoor
open Go Go.Aw
set_option maxHeartbeats 800000
set_option maxRecDepth 20000

theorem aC {ns:List (List UInt8)}{k:Nat}{n:List UInt8}(h:ns[k]? = some n)(hn:(ns.take k).contains n=false):O9 ns n=(k:Int):=by
 have h1:=Pb h
 rw [hn] at h1
 have hm:n∈ns:=List.mem_of_getElem? h
 have hc:ns.contains n=true:=by simpa using hm
 have h3:ns.idxOf n≤k:=by
  refine Nat.le_of_not_lt fun hlt=>?_
  have hk:k<ns.length:=A8 h
  have h4:=List.not_of_lt_findIdx (p:=fun x=>x==n) (xs:=ns) (i:=k) hlt
  have h5:ns[k]=n:=by rw [List.getElem?_eq_getElem hk] at h;exact Option.some.inj h
  simp only [h5] at h4
  simp at h4
 unfold O9 at h1 ⊢
 rw [if_pos hc] at h1 ⊢
 simp at h1
 omega
theorem Wr {ns:List (List UInt8)}{n:List UInt8}(h:ns.contains n=false):O9 ns n = -1:=by unfold O9;rw [if_neg (by simp only [h];decide)]
theorem Qt {ns:List (List UInt8)}{k:Nat}{m n:List UInt8}(h:ns[k]? = some m)(hn:(ns.take k).contains n=false)(hne:(m==n)=false):(ns.take (k+1)).contains n=false:=by
 rw [Cm h]
 have h1:m≠n:=by simpa using hne
 simp at hn ⊢
 exact ⟨hn,fun e=>h1 e.symm⟩
def I9 (s:Sc):Prop:=s.name.length≤1048576∧s.fields.length≤1048576∧∀f∈s.fields,f.name.length≤1048576
theorem U9 {seen:List (List UInt8)}{a:Fi}{r:List Fi}(h:D3 seen a=0):H0 seen (a::r)=H0 (seen ++ [a.name]) r:=by rw [H0,if_neg (by rw [h];decide)]
theorem Iz {seen:List (List UInt8)}{a:Fi}{r:List Fi}(h:D3 seen a≠0):H0 seen (a::r)=D3 seen a:=by rw [H0,if_pos (by simpa using h)]
theorem Xt {seen:List (List UInt8)}{a:Sc}{r:List Sc}(h:Hm seen a=0):Jt seen (a::r)=Jt (seen ++ [a.name]) r:=by rw [Jt,if_neg (by rw [h];decide)]
theorem N3 {seen:List (List UInt8)}{a:Sc}{r:List Sc}(h:Hm seen a≠0):Jt seen (a::r)=Hm seen a:=by rw [Jt,if_pos (by simpa using h)]
theorem gO (k:Int):(k != 0&&k != 1&&k != 2)=(decide (k<0)||decide (3≤k)):=by
 rw [Bool.eq_iff_iff];simp;omega
theorem gT (s:List UInt8):(!Ly s||s==xV) = !Pe s:=by
 unfold Pe;cases Ly s <;> cases (s==xV) <;> rfl

theorem c105 (s:Sc)(hl:s.fields.length≤1048576)(n:List UInt8):Ar Tryz.prog 114 [.agg (Nf s),.str n] (.int .i64 (O9 (s.fields.map (·.name)) n)):=by
 refine Ar.body (n:=22) Ai Tryz.func114 rfl rfl rfl fun H=>?_
 refine Ah (Qp (Fx [.str _,_]) (Qp Ap (Ag (AW.seq (Ah (Qp Ap (Ag (AW.block ?_))))))))
 refine AW.Aau (fun (p:Nat)=>(⟨[(1,.str n),(2,.ptr (Nf s)),(5,.int .i64 (p:Int))],H,22⟩:St)) (fun (p:Nat)=>p≤s.fields.length∧((s.fields.map (·.name)).take p).contains n=false) (fun (p:Nat)=>s.fields.length-p) (0) ?_ (GS.weaken ⟨rfl,rfl,rfl,trivial⟩ (.refl _)) ?_
 · exact ⟨Nat.zero_le _,by simp⟩
 ·
  rintro p hR
  refine AW.seq (Ah (Qp Az (Qp (Qf [_]) (Qp Dg ?_))))
  refine Qp (Ak (n:=s.fields.length) Ai rfl rfl rfl (by simp)) ?_
  refine Qp Cf (Ag (A2 (fun hc1=>?_) fun hc1=>?_))
  ·
   obtain ⟨a,ha⟩:=B1 hc1
   have hlt:=A8 ha
   have hm:=List.mem_of_getElem? ha
   have hna:(s.fields.map (·.name))[p]? = some a.name:=by simp [ha]
   refine Bv (AW.seq (AW.block (Ah (Qp (Qf [_]) (Qp Dg (Qp Az ?_))))))
   refine Qp (Af (c:=[.str _,Iq _]) Ai rfl rfl rfl rfl rfl rfl (by omega) (Bg ha)) ?_
   refine Qp (Qf [.str _,Iq _]) (Qp Vn (Qp eD ?_))
   refine Qp (Po rfl rfl) ?_
   refine Ag (A2 (fun hc2=>?_) fun hc2=>?_)
   ·
    refine Ah (Qp Az (Qp Ap (Ag (AW.ret (A9 (Al (Al (A9 (Al ?_)))))))))
    refine Qr (Iq _) ?_
    have e:a.name=n:=by simpa using hc2
    rw [e] at hna
    rw [aC hna hR.2];rfl
   ·
    refine AW.skip (Bp (Ae (AW.region (Qp Az (Qp Fu (Qp Ap (Ag ?_)))))))
    refine ⟨p+1,?_,?_,GS.weaken ⟨rfl,rfl,rfl,trivial⟩ (.refl _)⟩
    · exact ⟨hlt,Qt hna hR.2 hc2⟩
    · omega
  ·
   have hte:=Cv hc1
   refine AW.exit ?_
   refine A3 (A3 (Bq (Ae (Ah (Qp Ap (Ag (AW.ret ?_)))))))
   refine Qr (Iq _) ?_
   have h2:=hR.2
   rw [←List.map_take,hte] at h2
   rw [Wr h2];rfl
theorem c88 (l:List Sc)(hl:l.length≤1048576)(n:List UInt8):Ar Tryz.prog 73 [.sl 2 (l.map Nf),.str n] (.int .i64 (O9 (l.map (·.name)) n)):=by
 refine Ar.body (n:=20) Ai Tryz.func73 rfl rfl rfl fun H=>?_
 refine Ah (Qp Ap (Ag (AW.seq (Ah (Qp Ap (Ag (AW.block ?_)))))))
 refine AW.Aau (fun (p:Nat)=>(⟨[(0,.sl 2 (l.map Nf)),(1,.str n),(5,.int .i64 (p:Int))],H,20⟩:St)) (fun (p:Nat)=>p≤l.length∧((l.map (·.name)).take p).contains n=false) (fun (p:Nat)=>l.length-p) (0) ?_ (GS.weaken ⟨rfl,rfl,rfl,trivial⟩ (.refl _)) ?_
 · exact ⟨Nat.zero_le _,by simp⟩
 ·
  rintro p hR
  refine AW.seq (Ah (Qp Az (Qp C5 ?_)))
  refine Qp (Ak (n:=l.length) Ai rfl rfl rfl (by simp)) ?_
  refine Qp Cf (Ag (A2 (fun hc1=>?_) fun hc1=>?_))
  ·
   obtain ⟨a,ha⟩:=B1 hc1
   have hlt:=A8 ha
   have hm:=List.mem_of_getElem? ha
   have hna:(l.map (·.name))[p]? = some a.name:=by simp [ha]
   refine Bv (AW.seq (AW.block (Ah (Qp C5 (Qp Az ?_)))))
   refine Qp (Af (c:=[.str _,_]) Ai rfl rfl rfl rfl rfl rfl (by omega) (Bg ha)) ?_
   refine Qp (Qf [.str _,_]) (Qp Vn (Qp eD ?_))
   refine Qp (Po rfl rfl) ?_
   refine Ag (A2 (fun hc2=>?_) fun hc2=>?_)
   ·
    refine Ah (Qp Az (Qp Ap (Ag (AW.ret (A9 (Al (Al (A9 (Al ?_)))))))))
    refine Qr (Iq _) ?_
    have e:a.name=n:=by simpa using hc2
    rw [e] at hna
    rw [aC hna hR.2];rfl
   ·
    refine AW.skip (Bp (Ae (AW.region (Qp Az (Qp Fu (Qp Ap (Ag ?_)))))))
    refine ⟨p+1,?_,?_,GS.weaken ⟨rfl,rfl,rfl,trivial⟩ (.refl _)⟩
    · exact ⟨hlt,Qt hna hR.2 hc2⟩
    · omega
  ·
   have hte:=Cv hc1
   refine AW.exit ?_
   refine A3 (A3 (Bq (Ae (Ah (Qp Ap (Ag (AW.ret ?_)))))))
   refine Qr (Iq _) ?_
   have h2:=hR.2
   rw [←List.map_take,hte] at h2
   rw [Wr h2];rfl
theorem c85 (s:Sc)(hs:I9 s):Ar Tryz.prog 155 [.agg (Nf s)] (.int .i64 (If s)):=by
 refine Ar.body (n:=45) Ai Tryz.func155 rfl rfl rfl fun H=>?_
 refine Ah (Qp (Fx [.str _,_]) (Qp Ap (Ag (AW.seq (Ah (Qp (Qf [.str _,_]) (Qp Vn ?_)))))))
 refine Qp (Qc rfl (c102 _ hs.1)) ?_
 refine Qp Ge (Ag (A2 (fun hc1=>?_) fun hc1=>?_))
 ·
  refine Ah (Qp Ap (Ag (Dq ?_)))
  refine Qr (Iq _) ?_
  rw [show If s=8 by unfold If;rw [if_pos (by simpa using hc1)]];rfl
 ·
  refine Bv (AW.seq (Ah (Qp (Qf [_]) (Qp Dg ?_))))
  refine Qp (Ak (n:=s.fields.length) Ai rfl rfl rfl (by simp)) ?_
  refine Qp Hb (Ag (A2 (fun hc2=>?_) fun hc2=>?_))
  ·
   refine Ah (Qp Ap (Ag (Dq ?_)))
   refine Qr (Iq _) ?_
   rw [show If s=5 by unfold If;rw [if_neg (by simpa using hc1),if_pos (by simpa using hc2)]];rfl
  ·
   refine Bv (Ah ?_)
   refine Qe (Rf) ?_
   rintro _ _ ⟨b14,rfl,rfl⟩
   refine Qp Oc (Ag (AW.seq (Ah (Qp (Qf [_]) (Qp Dg ?_)))))
   refine Qp (Ak (n:=s.fields.length) Ai rfl rfl rfl (by simp)) ?_
   refine Qp Az (Ag (AW.block ?_))
   have hfl:=hs.2.1
   refine AW.Aau (fun (p:Nat×List (List UInt8))=>(⟨[(3,.val (.map (some b14))),(16,.sl 2 (s.fields.map cFi)),(17,.int .i64 s.fields.length),(18,.int .i64 (p.1:Int))],.smap b14 (Vu p.2)::H,45⟩:St)) (fun (p:Nat×List (List UInt8))=>p.1≤s.fields.length∧H0 [] s.fields=H0 p.2 (s.fields.drop p.1)) (fun (p:Nat×List (List UInt8))=>s.fields.length-p.1) ((0,[])) ?_ (GS.weaken ⟨rfl,rfl,rfl,rfl,trivial⟩ (.refl _)) ?_
   · exact ⟨Nat.zero_le _,rfl⟩
   ·
    rintro p hR
    refine Ah (Qp Cf (Ag (AW.seq (A2 (fun hc3=>?_) fun hc3=>?_))))
    ·
     obtain ⟨a,ha⟩:=B1 hc3
     have hlt:=A8 ha
     have hm:=List.mem_of_getElem? ha
     refine Bv (AW.seq (AW.block (Ah ?_)))
     refine Qp (Af (c:=[.str _,Iq _]) Ai rfl rfl rfl rfl rfl rfl (by omega) (Bg ha)) ?_
     refine Qp (Cd [.str _,Iq _]) ?_
     refine Qe (Aj (l:=[.str [],.int .i64 0]) (by kernel_rfl)) ?_
     rintro _ _ ⟨b5,rfl,rfl⟩
     refine Cq 0 [.str _,Iq _] (_::_::_) ?_
     refine AOL.ghost (GS.Aat (t:=5) 0 rfl rfl) ?_
     refine Ag (AW.seq (AW.block (Ah (Qp (Qf [.str _,Iq _]) (Qp Vn ?_)))))
     refine Qp (Qc rfl (c103 _ (hs.2.2 a hm))) ?_
     refine Qp Ge (Qp Bc (Ag (A2 (fun hc4=>?_) fun hc4=>?_)))
     ·
      have hb4:(!Pe a.name)=true:=hc4
      refine Ah (Qp Ap (Ag (AW.ret (A9 (Al (A9 (Al (Al (A9 ?_)))))))))
      refine Al ?_
      refine ⟨.inr rfl,[Iq _],.cons (.tmp _ _ rfl) <| .nil,.cons _ (.refl _),?_⟩
      have he:D3 p.2 a=8:=by
       unfold D3;rw [if_pos hb4]
      rw [show If s=D3 p.2 a by unfold If;rw [if_neg (by simpa using hc1),if_neg (by simpa using hc2),hR.2,A5 ha,Iz (by rw [he];decide)],he];rfl
     ·
      have hb4:¬(!Pe a.name)=true:=by simpa using hc4
      refine Ah (Qp Hw (Qp (Qf [.str _,Iq _]) (Qp Vn ?_)))
      refine AOL.Aay (aR (i:=0) (ks:=p.2) Ai rfl rfl rfl rfl rfl (by kernel_rfl) rfl rfl rfl) rfl rfl ?_
      refine Qp Bc (Ag (A2 (fun hc5=>?_) fun hc5=>?_))
      ·
       have hb5:p.2.contains a.name=true:=hc5
       refine Ah (Qp Ap (Ag (AW.ret (A9 (Al (A9 (Al (Al (A9 ?_)))))))))
       refine Al ?_
       refine ⟨.inr rfl,[Iq _],.cons (.tmp _ _ rfl) <| .nil,.cons _ (.refl _),?_⟩
       have he:D3 p.2 a=7:=by
        unfold D3;rw [if_neg hb4,if_pos hb5]
       rw [show If s=D3 p.2 a by unfold If;rw [if_neg (by simpa using hc1),if_neg (by simpa using hc2),hR.2,A5 ha,Iz (by rw [he];decide)],he];rfl
      ·
       have hb5:¬p.2.contains a.name=true:=by simpa using hc5
       refine Ah (Qp (Qf [Iq _]) (Qp Br (Qp Cf (Qp Bm (Qg [] Qw (Qf [Iq _]) (Qg [(37,_)] Qw Br (Qg [(38,_)] Qw Ob (Qp Ek (Qp Bc ?_)))))))))
       refine Ag (A2 (fun hc6=>?_) fun hc6=>?_)
       ·
        have hb6:=hc6
        refine Ah (Qp Ap (Ag (AW.ret (A9 (Al (A9 (Al (Al (A9 ?_)))))))))
        refine Al ?_
        refine ⟨.inr rfl,[Iq _],.cons (.tmp _ _ rfl) <| .nil,.cons _ (.refl _),?_⟩
        have he:D3 p.2 a=1:=by
         unfold D3;rw [if_neg hb4,if_neg hb5,if_pos hb6]
        rw [show If s=D3 p.2 a by unfold If;rw [if_neg (by simpa using hc1),if_neg (by simpa using hc2),hR.2,A5 ha,Iz (by rw [he];decide)],he];rfl
       ·
        have hb6:=Bool.eq_false_iff.mp hc6
        have he0:D3 p.2 a=0:=by unfold D3;rw [if_neg hb4,if_neg hb5,if_neg hb6]
        refine AW.skip (Bp (Ae (AW.region (Qp Hw (Qp (Qf [.str _,Iq _]) (Qp Vn ?_))))))
        refine Qe (jB (i:=0) (H2:=_::_) Ai rfl rfl rfl rfl rfl rfl rfl rfl (by simpa using hb5) rfl) ?_
        rintro _ _ ⟨rfl,rfl⟩
        refine AOL.nil (Bp (Ae (AW.region (Qp Fu (Qp Az (Ag ?_))))))
        refine ⟨(p.1+1,p.2 ++ [a.name]),?_,?_,GS.weaken ⟨rfl,rfl,rfl,rfl,trivial⟩ (.refl _)⟩
        · exact ⟨hlt,by rw [hR.2,A5 ha,U9 he0]⟩
        · first | omega | (simp only;omega)
    ·
     have hd:=Df hc3
     refine AW.exit ?_
     refine A3 (A3 (Bq (Ae (Ah (Qp Ap (Ag (AW.ret ?_)))))))
     refine ⟨.inr rfl,[Iq _],.cons (.tmp _ _ rfl) <| .nil,.cons _ (.refl _),?_⟩
     rw [show If s=0 by unfold If;rw [if_neg (by simpa using hc1),if_neg (by simpa using hc2),hR.2,hd];rfl];rfl
theorem c87 (s:Sc)(hs:I9 s):Ar Tryz.prog 72 [.agg (Nf s)] (.int .i64 (If s)):=by
 refine Ar.body (n:=53) Ai Tryz.func72 rfl rfl rfl fun H=>?_
 refine Ah (Qp (Fx [.str _,_]) (Qp Ap (Ag (AW.seq (Ah (Qp (Qf [.str _,_]) (Qp Vn ?_)))))))
 refine Qp (Qc rfl (c104 _ hs.1)) ?_
 refine Qp Ge (Ag (A2 (fun hc1=>?_) fun hc1=>?_))
 ·
  refine Ah (Qp Ap (Ag (Dq ?_)))
  refine Qr (Iq _) ?_
  rw [show If s=8 by unfold If;rw [if_pos (by simpa using hc1)]];rfl
 ·
  refine Bv (AW.seq (Ah (Qp (Qf [_]) (Qp Dg ?_))))
  refine Qp (Ak (n:=s.fields.length) Ai rfl rfl rfl (by simp)) ?_
  refine Qp Hb (Ag (A2 (fun hc2=>?_) fun hc2=>?_))
  ·
   refine Ah (Qp Ap (Ag (Dq ?_)))
   refine Qr (Iq _) ?_
   rw [show If s=5 by unfold If;rw [if_neg (by simpa using hc1),if_pos (by simpa using hc2)]];rfl
  ·
   refine Bv (AW.seq (Ah (Qp Ap (Ag (AW.block ?_)))))
   have hfl:=hs.2.1
   refine AW.Aau (fun (p:Nat)=>(⟨[(1,.ptr (Nf s)),(3,.int .i64 (p:Int))],H,53⟩:St)) (fun (p:Nat)=>p≤s.fields.length∧H0 [] s.fields=H0 ((s.fields.take p).map (·.name)) (s.fields.drop p)) (fun (p:Nat)=>s.fields.length-p) (0) ?_ (GS.weaken ⟨rfl,rfl,trivial⟩ (.refl _)) ?_
   · exact ⟨Nat.zero_le _,rfl⟩
   ·
    rintro p hR
    refine AW.seq (Ah (Qp Az (Qp (Qf [_]) (Qp Dg ?_))))
    refine Qp (Ak (n:=s.fields.length) Ai rfl rfl rfl (by simp)) ?_
    refine Qp Cf (Ag (A2 (fun hc3=>?_) fun hc3=>?_))
    ·
     obtain ⟨a,ha⟩:=B1 hc3
     have hlt:=A8 ha
     have hm:=List.mem_of_getElem? ha
     have hna:(s.fields.map (·.name))[p]? = some a.name:=by simp [ha]
     refine Bv (AW.seq (AW.block (Ah (Qp (Qf [_]) (Qp Dg (Qp Az ?_))))))
     refine Qp (Af (c:=[.str _,Iq _]) Ai rfl rfl rfl rfl rfl rfl (by omega) (Bg ha)) ?_
     refine Qp (Cd [.str _,Iq _]) ?_
     refine Qe (Aj (l:=[.str [],.int .i64 0]) (by kernel_rfl)) ?_
     rintro _ _ ⟨b4,rfl,rfl⟩
     refine Cq 0 [.str _,Iq _] (_::_) ?_
     refine AOL.ghost (GS.Aat (t:=4) 0 rfl rfl) ?_
     refine Ag (AW.seq (Ah (Qp (Qf [.str _,Iq _]) (Qp Vn ?_))))
     refine Qp (Qc rfl (c104 _ (hs.2.2 a hm))) ?_
     refine Qp Ge (Qp Bm (Qg [] Qw (Qf [.str _,Iq _]) (Qg [(30,_)] Qw Vn ?_)))
     refine AOL.Aav (y:=.bool _) _ [(31,_)] rfl (sB.all ⟨tO.self _ _,trivial⟩) (fun hG=>Po rfl rfl) rfl ?_
     refine Qp Ek (Ag (A2 (fun hc4=>?_) fun hc4=>?_))
     ·
      have hb4:(!Pe a.name)=true:=by rw [←gT];exact hc4
      refine Ah (Qp Ap (Ag (Dq (A9 (Al (Al (A9 (Al ?_))))))))
      refine Qr (Iq _) ?_
      have he:D3 ((s.fields.take p).map (·.name)) a=8:=by
       unfold D3;rw [if_pos hb4]
      rw [show If s=D3 ((s.fields.take p).map (·.name)) a by unfold If;rw [if_neg (by simpa using hc1),if_neg (by simpa using hc2),hR.2,A5 ha,Iz (by rw [he];decide)],he];rfl
     ·
      have hb4:¬(!Pe a.name)=true:=by rw [←gT];exact Bool.eq_false_iff.mp hc4
      refine Bv (AW.seq (Ah (Qp (Cd [.str _,_]) (Qp (Qf [.str _,Iq _]) (Qp Vn ?_)))))
      refine Qp (Qc rfl (c105 s hs.2.1 _)) ?_
      refine Qp Az (Qp Cf (Ag (A2 (fun hc5=>?_) fun hc5=>?_)))
      ·
       rw [Pb hna,←List.map_take] at hc5
       have hb5:((s.fields.take p).map (·.name)).contains a.name=true:=hc5
       refine Ah (Qp Ap (Ag (Dq (A9 (Al (Al (A9 (Al ?_))))))))
       refine Qr (Iq _) ?_
       have he:D3 ((s.fields.take p).map (·.name)) a=7:=by
        unfold D3;rw [if_neg hb4,if_pos hb5]
       rw [show If s=D3 ((s.fields.take p).map (·.name)) a by unfold If;rw [if_neg (by simpa using hc1),if_neg (by simpa using hc2),hR.2,A5 ha,Iz (by rw [he];decide)],he];rfl
      ·
       rw [Pb hna,←List.map_take] at hc5
       have hb5:¬((s.fields.take p).map (·.name)).contains a.name=true:=Bool.eq_false_iff.mp hc5
       refine Bv (Ah (Qp (Qf [Iq _]) (Qp Br (Qp Ci (Qp Bm (Qg [] Qw (Qf [Iq _]) (Qg [(44,_)] Qw Br (Qg [(45,_)] Qw Ci (Qp Em ?_)))))))))
       refine Qp Bm (Qg [] Qw (Qf [Iq _]) (Qg [(49,_)] Qw Br (Qg [(50,_)] Qw Ci (Qp Em (Ag (A2 (fun hc6=>?_) fun hc6=>?_))))))
       ·
        have hb6:=(gO a.kind).symm.trans hc6
        refine Ah (Qp Ap (Ag (AW.ret (A9 (Al (Al (A9 (Al ?_))))))))
        refine Qr (Iq _) ?_
        have he:D3 ((s.fields.take p).map (·.name)) a=1:=by
         unfold D3;rw [if_neg hb4,if_neg hb5,if_pos hb6]
        rw [show If s=D3 ((s.fields.take p).map (·.name)) a by unfold If;rw [if_neg (by simpa using hc1),if_neg (by simpa using hc2),hR.2,A5 ha,Iz (by rw [he];decide)],he];rfl
       ·
        have hb6:=Bool.eq_false_iff.mp ((gO a.kind).symm.trans hc6)
        have he0:D3 ((s.fields.take p).map (·.name)) a=0:=by unfold D3;rw [if_neg hb4,if_neg hb5,if_neg hb6]
        refine AW.skip (Bp (Ae (AW.region (Qp Az (Qp Fu (Qp Ap (Ag ?_)))))))
        refine ⟨p+1,?_,?_,GS.weaken ⟨rfl,rfl,trivial⟩ (.refl _)⟩
        · exact ⟨hlt,by rw [hR.2,A5 ha,U9 he0,kK ha]⟩
        · omega
    ·
     have hd:=Df hc3
     refine AW.exit ?_
     refine A3 (A3 (Bq (Ae (Ah (Qp Ap (Ag (AW.ret ?_)))))))
     refine Qr (Iq _) ?_
     rw [show If s=0 by unfold If;rw [if_neg (by simpa using hc1),if_neg (by simpa using hc2),hR.2,hd];rfl];rfl
theorem c57 (l:List Sc)(hl:l.length≤1048576)(hs:∀s∈l,I9 s):Ar Tryz.prog 132 [.sl 2 (l.map Nf)] (.int .i64 (Eb l)):=by
 refine Ar.body (n:=30) Ai Tryz.func132 rfl rfl rfl fun H=>?_
 refine Ah (Qp Ap (Ag (AW.seq (Ah (Qp C5 ?_)))))
 refine Qp (Ak (n:=l.length) Ai rfl rfl rfl (by simp)) ?_
 refine Qp Hb (Ag (A2 (fun hc1=>?_) fun hc1=>?_))
 ·
  refine Ah (Qp Ap (Ag (Dq ?_)))
  refine Qr (Iq _) ?_
  rw [show Eb l=5 by unfold Eb;rw [if_pos (by simpa using hc1)]];rfl
 ·
  refine Bv (Ah ?_)
  refine Qe (Rf) ?_
  rintro _ _ ⟨b10,rfl,rfl⟩
  refine Qp Oc (Ag (AW.seq (Ah (Qp C5 ?_))))
  refine Qp (Ak (n:=l.length) Ai rfl rfl rfl (by simp)) ?_
  refine Qp Az (Ag (AW.block ?_))
  refine AW.Aau (fun (p:Nat×List (List UInt8))=>(⟨[(3,.val (.map (some b10))),(11,.sl 2 (l.map Nf)),(12,.int .i64 l.length),(13,.int .i64 (p.1:Int))],.smap b10 (Vu p.2)::H,30⟩:St)) (fun (p:Nat×List (List UInt8))=>p.1≤l.length∧Jt [] l=Jt p.2 (l.drop p.1)) (fun (p:Nat×List (List UInt8))=>l.length-p.1) ((0,[])) ?_ (GS.weaken ⟨rfl,rfl,rfl,rfl,trivial⟩ (.refl _)) ?_
  · exact ⟨Nat.zero_le _,rfl⟩
  ·
   rintro p hR
   refine Ah (Qp Cf (Ag (AW.seq (A2 (fun hc2=>?_) fun hc2=>?_))))
   ·
    obtain ⟨a,ha⟩:=B1 hc2
    have hlt:=A8 ha
    have hm:=List.mem_of_getElem? ha
    refine Bv (AW.seq (AW.block (Ah ?_)))
    refine Qp (Af (c:=[.str _,_]) Ai rfl rfl rfl rfl rfl rfl (by omega) (Bg ha)) ?_
    refine Qp (Cd [.str _,_]) ?_
    refine Qe (Aj (l:=[.str [],.sl 2 []]) (by kernel_rfl)) ?_
    rintro _ _ ⟨b5,rfl,rfl⟩
    refine Cq 0 [.str _,_] (_::_::_) ?_
    refine AOL.ghost (GS.Aat (t:=5) 0 rfl rfl) ?_
    refine Ag (AW.seq (Ah (Qp (Cd [.str _,_]) ?_)))
    refine Qp (Qc rfl (c85 a (hs a hm))) ?_
    refine Qp Ap (Db (Qp Az (Qp Ci (Ag (A2 (fun hc3=>?_) fun hc3=>?_)))))
    ·
     refine Ah (Qp Az (Qp Ap (Ag (Dq (A9 (Al (Al (A9 (Al ?_)))))))))
     refine ⟨.inr rfl,[Iq _],.cons (.tmp _ _ rfl) <| .nil,.cons _ (.refl _),?_⟩
     have he:Hm p.2 a=If a:=by unfold Hm;rw [if_pos hc3]
     rw [show Eb l=Hm p.2 a by unfold Eb;rw [if_neg (by simpa using hc1),hR.2,A5 ha,N3 (by rw [he];simpa using hc3)],he];rfl
    ·
     have hb3:=Bool.eq_false_iff.mp hc3
     refine Bv (AW.seq (Ah (Qp Hw (Qp (Qf [.str _,_]) (Qp Vn ?_)))))
     refine AOL.Aay (aR (i:=0) (ks:=p.2) Ai rfl rfl rfl rfl rfl (by kernel_rfl) rfl rfl rfl) rfl rfl ?_
     refine Ag (A2 (fun hc4=>?_) fun hc4=>?_)
     ·
      have hb4:p.2.contains a.name=true:=hc4
      refine Ah (Qp Ap (Ag (Dq (A9 (Al (Al (A9 (Al ?_))))))))
      refine ⟨.inr rfl,[Iq _],.cons (.tmp _ _ rfl) <| .nil,.cons _ (.refl _),?_⟩
      have he:Hm p.2 a=7:=by unfold Hm;rw [if_neg hb3,if_pos hb4]
      rw [show Eb l=Hm p.2 a by unfold Eb;rw [if_neg (by simpa using hc1),hR.2,A5 ha,N3 (by rw [he];decide)],he];rfl
     ·
      have hb4:¬p.2.contains a.name=true:=by simpa using hc4
      have he0:Hm p.2 a=0:=by unfold Hm;rw [if_neg hb3,if_neg hb4]
      refine Bv (AW.region (Qp Hw (Qp (Qf [.str _,_]) (Qp Vn ?_))))
      refine Qe (jB (i:=0) (H2:=_::_) Ai rfl rfl rfl rfl rfl rfl rfl rfl (by simpa using hb4) rfl) ?_
      rintro _ _ ⟨rfl,rfl⟩
      refine AOL.nil (Bp (Ae (AW.region (Qp Fu (Qp Az (Ag ?_))))))
      refine ⟨(p.1+1,p.2 ++ [a.name]),?_,?_,GS.weaken ⟨rfl,rfl,rfl,rfl,trivial⟩ (.refl _)⟩
      · exact ⟨hlt,by rw [hR.2,A5 ha,Xt he0]⟩
      · first | omega | (simp only;omega)
   ·
    have hd:=Df hc2
    refine AW.exit ?_
    refine A3 (A3 (Bq (Ae (Ah (Qp Ap (Ag (AW.ret ?_)))))))
    refine ⟨.inr rfl,[Iq _],.cons (.tmp _ _ rfl) <| .nil,.cons _ (.refl _),?_⟩
    rw [show Eb l=0 by unfold Eb;rw [if_neg (by simpa using hc1),hR.2,hd];rfl];rfl
theorem c59 (l:List Sc)(hl:l.length≤1048576)(hs:∀s∈l,I9 s):Ar Tryz.prog 34 [.sl 2 (l.map Nf)] (.int .i64 (Eb l)):=by
 refine Ar.body (n:=31) Ai Tryz.func34 rfl rfl rfl fun H=>?_
 refine Ah (Qp Ap (Ag (AW.seq (Ah (Qp C5 ?_)))))
 refine Qp (Ak (n:=l.length) Ai rfl rfl rfl (by simp)) ?_
 refine Qp Hb (Ag (A2 (fun hc1=>?_) fun hc1=>?_))
 ·
  refine Ah (Qp Ap (Ag (Dq ?_)))
  refine Qr (Iq _) ?_
  rw [show Eb l=5 by unfold Eb;rw [if_pos (by simpa using hc1)]];rfl
 ·
  refine Bv (AW.seq (Ah (Qp Ap (Ag (AW.block ?_)))))
  refine AW.Aau (fun (p:Nat)=>(⟨[(0,.sl 2 (l.map Nf)),(3,.int .i64 (p:Int))],H,31⟩:St)) (fun (p:Nat)=>p≤l.length∧Jt [] l=Jt ((l.take p).map (·.name)) (l.drop p)) (fun (p:Nat)=>l.length-p) (0) ?_ (GS.weaken ⟨rfl,rfl,trivial⟩ (.refl _)) ?_
  · exact ⟨Nat.zero_le _,rfl⟩
  ·
   rintro p hR
   refine AW.seq (Ah (Qp Az (Qp C5 ?_)))
   refine Qp (Ak (n:=l.length) Ai rfl rfl rfl (by simp)) ?_
   refine Qp Cf (Ag (A2 (fun hc2=>?_) fun hc2=>?_))
   ·
    obtain ⟨a,ha⟩:=B1 hc2
    have hlt:=A8 ha
    have hm:=List.mem_of_getElem? ha
    have hna:(l.map (·.name))[p]? = some a.name:=by simp [ha]
    refine Bv (AW.seq (AW.block (AW.seq (Ah (Qp C5 (Qp Az ?_))))))
    refine Qp (Af (c:=[.str _,_]) Ai rfl rfl rfl rfl rfl rfl (by omega) (Bg ha)) ?_
    refine Qp (Cd [.str _,_]) ?_
    refine Qp (Qc rfl (c87 a (hs a hm))) ?_
    refine Qp Ap (Db (Qp Az (Qp Ci (Ag (A2 (fun hc3=>?_) fun hc3=>?_)))))
    ·
     refine Ah (Qp Az (Qp Ap (Ag (Dq (A9 (Al (Al (A9 (Al ?_)))))))))
     refine Qr (Iq _) ?_
     have he:Hm ((l.take p).map (·.name)) a=If a:=by unfold Hm;rw [if_pos hc3]
     rw [show Eb l=Hm ((l.take p).map (·.name)) a by unfold Eb;rw [if_neg (by simpa using hc1),hR.2,A5 ha,N3 (by rw [he];simpa using hc3)],he];rfl
    ·
     have hb3:=Bool.eq_false_iff.mp hc3
     refine Bv (Ah (Qp C5 (Qp C5 (Qp Az ?_))))
     refine Qp (Af (c:=[.str _,_]) Ai rfl rfl rfl rfl rfl rfl (by omega) (Bg ha)) ?_
     refine Qp (Qf [.str _,_]) (Qp Vn ?_)
     refine Qp (Qc rfl (c88 l hl _)) ?_
     refine Qp Az (Qp Cf (Ag (A2 (fun hc4=>?_) fun hc4=>?_)))
     ·
      rw [Pb hna,←List.map_take] at hc4
      have hb4:((l.take p).map (·.name)).contains a.name=true:=hc4
      refine Ah (Qp Ap (Ag (AW.ret (A9 (Al (Al (A9 (Al ?_))))))))
      refine Qr (Iq _) ?_
      have he:Hm ((l.take p).map (·.name)) a=7:=by unfold Hm;rw [if_neg hb3,if_pos hb4]
      rw [show Eb l=Hm ((l.take p).map (·.name)) a by unfold Eb;rw [if_neg (by simpa using hc1),hR.2,A5 ha,N3 (by rw [he];decide)],he];rfl
     ·
      rw [Pb hna,←List.map_take] at hc4
      have hb4:¬((l.take p).map (·.name)).contains a.name=true:=Bool.eq_false_iff.mp hc4
      have he0:Hm ((l.take p).map (·.name)) a=0:=by unfold Hm;rw [if_neg hb3,if_neg hb4]
      refine AW.skip (Bp (Ae (AW.region (Qp Az (Qp Fu (Qp Ap (Ag ?_)))))))
      refine ⟨p+1,?_,?_,GS.weaken ⟨rfl,rfl,trivial⟩ (.refl _)⟩
      · exact ⟨hlt,by rw [hR.2,A5 ha,Xt he0,iD ha]⟩
      · omega
   ·
    have hd:=Df hc2
    refine AW.exit ?_
    refine A3 (A3 (Bq (Ae (Ah (Qp Ap (Ag (AW.ret ?_)))))))
    refine Qr (Iq _) ?_
    rw [show Eb l=0 by unfold Eb;rw [if_neg (by simpa using hc1),hR.2,hd];rfl];rfl

set_option maxHeartbeats 1600000
set_option maxRecDepth 20000

theorem iT {a b:Ex}(h:Pf a b=false):a.args.length=b.args.length:=by
 simp [Pf] at h;omega

def badS (l:List Ev):Bool:=decide (12<(l.length:Int))||l.any fun v=>decide (10<(v.values.length:Int))
def fewEnvS (vars:List (List Ev)):Bool:=!((vars.take 20).any badS)&&decide ((vars.length:Int)≤20)
def fewE (e:Ex):Bool:=decide (Av e≤200∧Et e≤100)
theorem c20 (a b:Ex)(hs:Av a≤1048576):Ar Tryz.prog 22 [.agg (cE a),.agg (cE b)] (.bool (Li a b)):=by
 revert b hs
 induction a using Ex.Aa0
 rename_i a ih
 intro b hs
 have hal:=L5 a hs
 refine Ar.body (n:=67) Ai Tryz.func22 rfl rfl rfl fun H=>?_
 refine Ah (Qp K3 (Qp K3 (Qp Bc (Ag (AW.seq (Ah (Qp Kw (Qp Br (Qp Kw ?_)))))))))
 refine Qp Br (Qp Ci (Qp Bm (Qg [] Qw Ym (Qg [(12,_)] Qw Br (Qg [] Qw Ym (Qg [(14,_)] Qw Br ?_))))))
 refine AOL.Aav (y:=.bool _) _ [(13,_),(15,_)] rfl (sB.all ⟨tO.self _ _,tO.self _ _,trivial⟩) (fun hG=>O5 rfl rfl) rfl ?_
 refine Qp Ek (Qp Bm (Qg [] Qw Qv (Qg [(19,_)] Qw Br (Qg [] Qw Qv (Qg [(21,_)] Qw Br ?_)))))
 refine AOL.Aav (y:=.bool _) _ [(20,_),(22,_)] rfl (sB.all ⟨tO.self _ _,tO.self _ _,trivial⟩) (fun hG=>O5 rfl rfl) rfl ?_
 refine Qp Ek (Qp Bm (Qg [] Qw R6 (Qg [(26,_)] Qw Br (Qg [] Qw R6 (Qg [(28,_)] Qw Br ?_)))))
 refine AOL.Aav (y:=.bool _) _ [(27,_),(29,_)] rfl (sB.all ⟨tO.self _ _,tO.self _ _,trivial⟩) (fun hG=>O5 rfl rfl) rfl ?_
 refine Qp Ek (Qp Bm (Qg [] Qw J2 (Qg [(33,_)] Qw (Cd [Iq _,Iq _,.str _]) (Qg [] Qw J2 (Qg [(35,_)] Qw (Cd [Iq _,Iq _,.str _]) ?_)))))
 refine AOL.Aav (y:=.bool _) _ [(34,_),(36,_)] rfl (sB.all ⟨tO.self _ _,tO.self _ _,trivial⟩) (fun hG=>Hg Ai rfl rfl rfl rfl rfl) rfl ?_
 refine Qp Ek (Qp Bm (Qg [] Qw Mr (Qg [(40,_)] Qw Dg ?_)))
 refine AOL.Aav (y:=Iq _) _ [(41,_)] rfl (sB.all ⟨tO.self _ _,trivial⟩) (fun hG=>Ak (n:=a.args.length) Ai rfl rfl rfl (by simp)) rfl ?_
 refine Qg [] Qw Mr (Qg [(43,_)] Qw Dg ?_)
 refine AOL.Aav (y:=Iq _) _ [(44,_)] rfl (sB.all ⟨tO.self _ _,trivial⟩) (fun hG=>Ak (n:=b.args.length) Ai rfl rfl rfl (by simp)) rfl ?_
 refine AOL.Aav (y:=.bool _) _ [(42,_),(45,_)] rfl (sB.all ⟨tO.self _ _,tO.self _ _,trivial⟩) (fun hG=>O5 rfl rfl) rfl ?_
 refine Qp Ek (Ag (A2 (fun hc1=>?_) fun hc1=>?_))
 ·
  have hh:Pf a b=true:=by simpa [Pf] using hc1
  refine Ah (Qp Bc (Ag (Dq ?_)))
  refine Qr (.bool _) ?_
  rw [Tb,if_pos hh];rfl
 ·
  have hh:Pf a b=false:=by simpa [Pf] using hc1
  have hlen:=iT hh
  refine Bv (AW.seq (Ah (Qp Ap (Ag (AW.block ?_)))))
  refine AW.Aau (fun (p:Nat)=>(⟨[(2,.ptr (cE a)),(3,.ptr (cE b)),(5,.int .i64 (p:Int))],H,67⟩:St)) (fun (p:Nat)=>p≤a.args.length∧R9 a.args b.args=R9 (a.args.drop p) (b.args.drop p)) (fun (p:Nat)=>a.args.length-p) (0) ?_ (GS.weaken ⟨rfl,rfl,rfl,trivial⟩ (.refl _)) ?_
  · exact ⟨Nat.zero_le _,rfl⟩
  ·
   rintro p hR
   refine AW.seq (Ah (Qp Az (Qp Mr (Qp Dg ?_))))
   refine Qp (Ak (n:=a.args.length) Ai rfl rfl rfl (by simp)) ?_
   refine Qp Cf (Ag (A2 (fun hc2=>?_) fun hc2=>?_))
   ·
    obtain ⟨x,hx⟩:=B1 hc2
    have hlt:=A8 hx
    have hm:=List.mem_of_getElem? hx
    obtain ⟨y,hy⟩:∃y,b.args[p]? = some y:=⟨_,List.getElem?_eq_getElem (by omega)⟩
    refine Bv (AW.seq (AW.block (AW.seq ?_)))
    refine AW.draw mixed (fun _=>True) trivial (by kernel_rfl) ?_
    refine Qn 0 rfl Mr (Qn 1 rfl Dg (Qn 2 rfl Az ?_))
    refine Qn 3 rfl (Af (c:=[Iq _,_,Iq _,Iq _,Iq _,Iq _,Iq _,.str _]) Ai rfl rfl rfl rfl rfl rfl (by omega) (E0 hx)) ?_
    refine Qn 4 rfl Dh (Qn 5 rfl Mr (Qn 6 rfl Dg (Qn 7 rfl Az ?_)))
    refine Qn 8 rfl (Af (c:=[Iq _,_,Iq _,Iq _,Iq _,Iq _,Iq _,.str _]) Ai rfl rfl rfl rfl rfl rfl (by omega) (E0 hy)) ?_
    refine Qn 9 rfl Dh ?_
    refine Qn 10 rfl (Qc rfl (ih x hm y (by have:=F0 hm;omega))) ?_
    refine Qn 11 rfl Ge ?_
    refine Js.done _ _ (by kernel_rfl) ?_
    refine Ae (A2 (fun hc3=>?_) fun hc3=>?_)
    ·
     refine Ah (Qp Bc (Ag (AW.ret (A9 (Al (Al (A9 (Al ?_))))))))
     refine Qr (.bool _) ?_
     rw [Tb,if_neg (by simp [hh]),hR.2,A5 hx,A5 hy];show _=AV.bool (if (!Li x y)=true then false else _);rw [if_pos hc3];rfl
    ·
     refine AW.skip (Bp (Ae (AW.region (Qp Az (Qp Fu (Qp Ap (Ag ?_)))))))
     refine ⟨p+1,?_,?_,GS.weaken ⟨rfl,rfl,rfl,trivial⟩ (.refl _)⟩
     · exact ⟨hlt,by rw [hR.2,A5 hx,A5 hy,R9];simp [hc3]⟩
     · omega
   ·
    have hd:=Df hc2
    refine AW.exit ?_
    refine A3 (A3 (Bq (Ae (Ah (Qp Bc (Ag (AW.ret ?_)))))))
    refine Qr (.bool _) ?_
    rw [Tb,if_neg (by simp [hh]),hR.2,hd];rfl
end Go.Proofs.YtkddpedfbicbeaaGreatDoor
