/-
  Several texts in one: W24, W13, W2, W3, W5. No condition.
-/
import Derived.Test.YtjedflcpjlgokaaGreatDoorAz
import Derived.Test.YtjedflcpjlgokaaGreatDoorW23
import Derived.KernelRfl
import Derived.Test.YtjedflcpjlgokaaGreatDoorK02
import Derived.Test.YtjedflcpjlgokaaGreatDoorW4
import Derived.Test.YtjedflcpjlgokaaGreatDoorW1
set_option linter.unusedVariables false
set_option linter.unusedSimpArgs false
namespace Go.Proofs.YtjedflcpjlgokaaGreatDoor
open Go Go.Aw
set_option maxHeartbeats 800000
set_option maxRecDepth 20000

theorem Yp {ns:List (List UInt8)}{k:Nat}{n:List UInt8}(h:ns[k]? = some n)(hn:(ns.take k).contains n=false):Ni ns n=(k:Int):=by
 have h1:=Nj h
 rw [hn] at h1
 have hm:n∈ns:=List.mem_of_getElem? h
 have hc:ns.contains n=true:=by simpa using hm
 have h3:ns.idxOf n≤k:=by
  refine Nat.le_of_not_lt fun hlt=>?_
  have hk:k<ns.length:=Bh h
  have h4:=List.not_of_lt_findIdx (p:=fun x=>x==n) (xs:=ns) (i:=k) hlt
  have h5:ns[k]=n:=by rw [List.getElem?_eq_getElem hk] at h;exact Option.some.inj h
  simp only [h5] at h4
  simp at h4
 unfold Ni at h1 ⊢
 rw [if_pos hc] at h1 ⊢
 simp at h1
 omega
theorem Vj {ns:List (List UInt8)}{n:List UInt8}(h:ns.contains n=false):Ni ns n = -1:=by unfold Ni;rw [if_neg (by simp only [h];decide)]
theorem O1 {ns:List (List UInt8)}{k:Nat}{m n:List UInt8}(h:ns[k]? = some m)(hn:(ns.take k).contains n=false)(hne:(m==n)=false):(ns.take (k+1)).contains n=false:=by
 rw [Cx h]
 have h1:m≠n:=by simpa using hne
 simp at hn ⊢
 exact ⟨hn,fun e=>h1 e.symm⟩
def Is (s:Sc):Prop:=s.name.length≤1048576∧s.fields.length≤1048576∧∀f∈s.fields,f.name.length≤1048576
theorem Sv {seen:List (List UInt8)}{a:Fi}{r:List Fi}(h:Dl seen a=0):G9 seen (a::r)=G9 (seen ++ [a.name]) r:=by rw [G9,if_neg (by rw [h];decide)]
theorem Hz {seen:List (List UInt8)}{a:Fi}{r:List Fi}(h:Dl seen a≠0):G9 seen (a::r)=Dl seen a:=by rw [G9,if_pos (by simpa using h)]
theorem U8 {seen:List (List UInt8)}{a:Sc}{r:List Sc}(h:Gg seen a=0):Iz seen (a::r)=Iz (seen ++ [a.name]) r:=by rw [Iz,if_neg (by rw [h];decide)]
theorem Mj {seen:List (List UInt8)}{a:Sc}{r:List Sc}(h:Gg seen a≠0):Iz seen (a::r)=Gg seen a:=by rw [Iz,if_pos (by simpa using h)]
theorem dU (k:Int):(k != 0&&k != 1&&k != 2)=(decide (k<0)||decide (3≤k)):=by
 rw [Bool.eq_iff_iff];simp;omega
theorem bV (s:List UInt8):(!Kx s||s==tL) = !Nc s:=by
 unfold Nc;cases Kx s <;> cases (s==tL) <;> rfl

theorem c105 (s:Sc)(hl:s.fields.length≤1048576)(n:List UInt8):A1 Tryz.prog 137 [.agg (N5 s),.str n] (.int .i64 (Ni (s.fields.map (·.name)) n)):=by
 refine A1.body (n:=22) Aj Tryz.func137 rfl rfl rfl fun H=>?_
 refine Ah (Qp (It [.str _,_]) (Qp Aq (Ag (AW.seq (Ah (Qp Aq (Ag (AW.block ?_))))))))
 refine AW.Aa3 (fun (p:Nat)=>(⟨[(1,.str n),(2,.ptr (N5 s)),(5,.int .i64 (p:Int))],H,22⟩:St)) (fun (p:Nat)=>p≤s.fields.length∧((s.fields.map (·.name)).take p).contains n=false) (fun (p:Nat)=>s.fields.length-p) (0) ?_ (GS.weaken ⟨rfl,rfl,rfl,trivial⟩ (.refl _)) ?_
 · exact ⟨Nat.zero_le _,by simp⟩
 ·
  rintro p hR
  refine AW.seq (Ah (Qp Az (Qp (Qf [_]) (Qp D1 ?_))))
  refine Qp (Al (n:=s.fields.length) Aj rfl rfl rfl (by simp)) ?_
  refine Qp Co (Ag (A4 (fun hc1=>?_) fun hc1=>?_))
  ·
   obtain ⟨a,ha⟩:=B5 hc1
   have hlt:=Bh ha
   have hm:=List.mem_of_getElem? ha
   have hna:(s.fields.map (·.name))[p]? = some a.name:=by simp [ha]
   refine Bx (AW.seq (AW.block (Ah (Qp (Qf [_]) (Qp D1 (Qp Az ?_))))))
   refine Qp (Af (c:=[.str _,Iq _]) Aj rfl rfl rfl rfl rfl rfl (by omega) (B1 ha)) ?_
   refine Qp (Qf [.str _,Iq _]) (Qp Uj (Qp aY ?_))
   refine Qp (Rl rfl rfl) ?_
   refine Ag (A4 (fun hc2=>?_) fun hc2=>?_)
   ·
    refine Ah (Qp Az (Qp Aq (Ag (AW.ret (A6 (Ai (Ai (A6 (Ai ?_)))))))))
    refine Qr (Iq _) ?_
    have e:a.name=n:=by simpa using hc2
    rw [e] at hna
    rw [Yp hna hR.2];rfl
   ·
    refine AW.skip (Bn (Ad (AW.region (Qp Az (Qp Fb (Qp Aq (Ag ?_)))))))
    refine ⟨p+1,?_,?_,GS.weaken ⟨rfl,rfl,rfl,trivial⟩ (.refl _)⟩
    · exact ⟨hlt,O1 hna hR.2 hc2⟩
    · omega
  ·
   have hte:=Cg hc1
   refine AW.exit ?_
   refine A2 (A2 (Bo (Ad (Ah (Qp Aq (Ag (AW.ret ?_)))))))
   refine Qr (Iq _) ?_
   have h2:=hR.2
   rw [←List.map_take,hte] at h2
   rw [Vj h2];rfl
theorem c88 (l:List Sc)(hl:l.length≤1048576)(n:List UInt8):A1 Tryz.prog 106 [.sl 2 (l.map N5),.str n] (.int .i64 (Ni (l.map (·.name)) n)):=by
 refine A1.body (n:=20) Aj Tryz.func106 rfl rfl rfl fun H=>?_
 refine Ah (Qp Aq (Ag (AW.seq (Ah (Qp Aq (Ag (AW.block ?_)))))))
 refine AW.Aa3 (fun (p:Nat)=>(⟨[(0,.sl 2 (l.map N5)),(1,.str n),(5,.int .i64 (p:Int))],H,20⟩:St)) (fun (p:Nat)=>p≤l.length∧((l.map (·.name)).take p).contains n=false) (fun (p:Nat)=>l.length-p) (0) ?_ (GS.weaken ⟨rfl,rfl,rfl,trivial⟩ (.refl _)) ?_
 · exact ⟨Nat.zero_le _,by simp⟩
 ·
  rintro p hR
  refine AW.seq (Ah (Qp Az (Qp Dm ?_)))
  refine Qp (Al (n:=l.length) Aj rfl rfl rfl (by simp)) ?_
  refine Qp Co (Ag (A4 (fun hc1=>?_) fun hc1=>?_))
  ·
   obtain ⟨a,ha⟩:=B5 hc1
   have hlt:=Bh ha
   have hm:=List.mem_of_getElem? ha
   have hna:(l.map (·.name))[p]? = some a.name:=by simp [ha]
   refine Bx (AW.seq (AW.block (Ah (Qp Dm (Qp Az ?_)))))
   refine Qp (Af (c:=[.str _,_]) Aj rfl rfl rfl rfl rfl rfl (by omega) (B1 ha)) ?_
   refine Qp (Qf [.str _,_]) (Qp Uj (Qp aY ?_))
   refine Qp (Rl rfl rfl) ?_
   refine Ag (A4 (fun hc2=>?_) fun hc2=>?_)
   ·
    refine Ah (Qp Az (Qp Aq (Ag (AW.ret (A6 (Ai (Ai (A6 (Ai ?_)))))))))
    refine Qr (Iq _) ?_
    have e:a.name=n:=by simpa using hc2
    rw [e] at hna
    rw [Yp hna hR.2];rfl
   ·
    refine AW.skip (Bn (Ad (AW.region (Qp Az (Qp Fb (Qp Aq (Ag ?_)))))))
    refine ⟨p+1,?_,?_,GS.weaken ⟨rfl,rfl,rfl,trivial⟩ (.refl _)⟩
    · exact ⟨hlt,O1 hna hR.2 hc2⟩
    · omega
  ·
   have hte:=Cg hc1
   refine AW.exit ?_
   refine A2 (A2 (Bo (Ad (Ah (Qp Aq (Ag (AW.ret ?_)))))))
   refine Qr (Iq _) ?_
   have h2:=hR.2
   rw [←List.map_take,hte] at h2
   rw [Vj h2];rfl
theorem c85 (s:Sc)(hs:Is s):A1 Tryz.prog 97 [.agg (N5 s)] (.int .i64 (Hd s)):=by
 refine A1.body (n:=45) Aj Tryz.func97 rfl rfl rfl fun H=>?_
 refine Ah (Qp (It [.str _,_]) (Qp Aq (Ag (AW.seq (Ah (Qp (Qf [.str _,_]) (Qp Uj ?_)))))))
 refine Qp (Qc rfl (c102 _ hs.1)) ?_
 refine Qp Gj (Ag (A4 (fun hc1=>?_) fun hc1=>?_))
 ·
  refine Ah (Qp Aq (Ag (D4 ?_)))
  refine Qr (Iq _) ?_
  rw [show Hd s=8 by unfold Hd;rw [if_pos (by simpa using hc1)]];rfl
 ·
  refine Bx (AW.seq (Ah (Qp (Qf [_]) (Qp D1 ?_))))
  refine Qp (Al (n:=s.fields.length) Aj rfl rfl rfl (by simp)) ?_
  refine Qp Gl (Ag (A4 (fun hc2=>?_) fun hc2=>?_))
  ·
   refine Ah (Qp Aq (Ag (D4 ?_)))
   refine Qr (Iq _) ?_
   rw [show Hd s=5 by unfold Hd;rw [if_neg (by simpa using hc1),if_pos (by simpa using hc2)]];rfl
  ·
   refine Bx (Ah ?_)
   refine Qe (Pp) ?_
   rintro _ _ ⟨b14,rfl,rfl⟩
   refine Qp O5 (Ag (AW.seq (Ah (Qp (Qf [_]) (Qp D1 ?_)))))
   refine Qp (Al (n:=s.fields.length) Aj rfl rfl rfl (by simp)) ?_
   refine Qp Az (Ag (AW.block ?_))
   have hfl:=hs.2.1
   refine AW.Aa3 (fun (p:Nat×List (List UInt8))=>(⟨[(3,.val (.map (some b14))),(16,.sl 2 (s.fields.map cFi)),(17,.int .i64 s.fields.length),(18,.int .i64 (p.1:Int))],.smap b14 (S9 p.2)::H,45⟩:St)) (fun (p:Nat×List (List UInt8))=>p.1≤s.fields.length∧G9 [] s.fields=G9 p.2 (s.fields.drop p.1)) (fun (p:Nat×List (List UInt8))=>s.fields.length-p.1) ((0,[])) ?_ (GS.weaken ⟨rfl,rfl,rfl,rfl,trivial⟩ (.refl _)) ?_
   · exact ⟨Nat.zero_le _,rfl⟩
   ·
    rintro p hR
    refine Ah (Qp Co (Ag (AW.seq (A4 (fun hc3=>?_) fun hc3=>?_))))
    ·
     obtain ⟨a,ha⟩:=B5 hc3
     have hlt:=Bh ha
     have hm:=List.mem_of_getElem? ha
     refine Bx (AW.seq (AW.block (Ah ?_)))
     refine Qp (Af (c:=[.str _,Iq _]) Aj rfl rfl rfl rfl rfl rfl (by omega) (B1 ha)) ?_
     refine Qp (C8 [.str _,Iq _]) ?_
     refine Qe (A0 (l:=[.str [],.int .i64 0]) (by kernel_rfl)) ?_
     rintro _ _ ⟨b5,rfl,rfl⟩
     refine Eu 0 [.str _,Iq _] (_::_::_) ?_
     refine AOL.ghost (GS.Aa2 (t:=5) 0 rfl rfl) ?_
     refine Ag (AW.seq (AW.block (Ah (Qp (Qf [.str _,Iq _]) (Qp Uj ?_)))))
     refine Qp (Qc rfl (c103 _ (hs.2.2 a hm))) ?_
     refine Qp Gj (Qp Bb (Ag (A4 (fun hc4=>?_) fun hc4=>?_)))
     ·
      have hb4:(!Nc a.name)=true:=hc4
      refine Ah (Qp Aq (Ag (AW.ret (A6 (Ai (A6 (Ai (Ai (A6 ?_)))))))))
      refine Ai ?_
      refine ⟨.inr rfl,[Iq _],.cons (.tmp _ _ rfl) <| .nil,.cons _ (.refl _),?_⟩
      have he:Dl p.2 a=8:=by
       unfold Dl;rw [if_pos hb4]
      rw [show Hd s=Dl p.2 a by unfold Hd;rw [if_neg (by simpa using hc1),if_neg (by simpa using hc2),hR.2,Bi ha,Hz (by rw [he];decide)],he];rfl
     ·
      have hb4:¬(!Nc a.name)=true:=by simpa using hc4
      refine Ah (Qp Gn (Qp (Qf [.str _,Iq _]) (Qp Uj ?_)))
      refine AOL.Aa7 (Xc (i:=0) (ks:=p.2) Aj rfl rfl rfl rfl rfl (by kernel_rfl) rfl rfl rfl) rfl rfl ?_
      refine Qp Bb (Ag (A4 (fun hc5=>?_) fun hc5=>?_))
      ·
       have hb5:p.2.contains a.name=true:=hc5
       refine Ah (Qp Aq (Ag (AW.ret (A6 (Ai (A6 (Ai (Ai (A6 ?_)))))))))
       refine Ai ?_
       refine ⟨.inr rfl,[Iq _],.cons (.tmp _ _ rfl) <| .nil,.cons _ (.refl _),?_⟩
       have he:Dl p.2 a=7:=by
        unfold Dl;rw [if_neg hb4,if_pos hb5]
       rw [show Hd s=Dl p.2 a by unfold Hd;rw [if_neg (by simpa using hc1),if_neg (by simpa using hc2),hR.2,Bi ha,Hz (by rw [he];decide)],he];rfl
      ·
       have hb5:¬p.2.contains a.name=true:=by simpa using hc5
       refine Ah (Qp (Qf [Iq _]) (Qp B2 (Qp Co (Qp Bt (Qg [] Qw (Qf [Iq _]) (Qg [(37,_)] Qw B2 (Qg [(38,_)] Qw Mq (Qp Ew (Qp Bb ?_)))))))))
       refine Ag (A4 (fun hc6=>?_) fun hc6=>?_)
       ·
        have hb6:=hc6
        refine Ah (Qp Aq (Ag (AW.ret (A6 (Ai (A6 (Ai (Ai (A6 ?_)))))))))
        refine Ai ?_
        refine ⟨.inr rfl,[Iq _],.cons (.tmp _ _ rfl) <| .nil,.cons _ (.refl _),?_⟩
        have he:Dl p.2 a=1:=by
         unfold Dl;rw [if_neg hb4,if_neg hb5,if_pos hb6]
        rw [show Hd s=Dl p.2 a by unfold Hd;rw [if_neg (by simpa using hc1),if_neg (by simpa using hc2),hR.2,Bi ha,Hz (by rw [he];decide)],he];rfl
       ·
        have hb6:=Bool.eq_false_iff.mp hc6
        have he0:Dl p.2 a=0:=by unfold Dl;rw [if_neg hb4,if_neg hb5,if_neg hb6]
        refine AW.skip (Bn (Ad (AW.region (Qp Gn (Qp (Qf [.str _,Iq _]) (Qp Uj ?_))))))
        refine Qe (eM (i:=0) (H2:=_::_) Aj rfl rfl rfl rfl rfl rfl rfl rfl (by simpa using hb5) rfl) ?_
        rintro _ _ ⟨rfl,rfl⟩
        refine AOL.nil (Bn (Ad (AW.region (Qp Fb (Qp Az (Ag ?_))))))
        refine ⟨(p.1+1,p.2 ++ [a.name]),?_,?_,GS.weaken ⟨rfl,rfl,rfl,rfl,trivial⟩ (.refl _)⟩
        · exact ⟨hlt,by rw [hR.2,Bi ha,Sv he0]⟩
        · first | omega | (simp only;omega)
    ·
     have hd:=Dq hc3
     refine AW.exit ?_
     refine A2 (A2 (Bo (Ad (Ah (Qp Aq (Ag (AW.ret ?_)))))))
     refine ⟨.inr rfl,[Iq _],.cons (.tmp _ _ rfl) <| .nil,.cons _ (.refl _),?_⟩
     rw [show Hd s=0 by unfold Hd;rw [if_neg (by simpa using hc1),if_neg (by simpa using hc2),hR.2,hd];rfl];rfl
theorem c87 (s:Sc)(hs:Is s):A1 Tryz.prog 105 [.agg (N5 s)] (.int .i64 (Hd s)):=by
 refine A1.body (n:=53) Aj Tryz.func105 rfl rfl rfl fun H=>?_
 refine Ah (Qp (It [.str _,_]) (Qp Aq (Ag (AW.seq (Ah (Qp (Qf [.str _,_]) (Qp Uj ?_)))))))
 refine Qp (Qc rfl (c104 _ hs.1)) ?_
 refine Qp Gj (Ag (A4 (fun hc1=>?_) fun hc1=>?_))
 ·
  refine Ah (Qp Aq (Ag (D4 ?_)))
  refine Qr (Iq _) ?_
  rw [show Hd s=8 by unfold Hd;rw [if_pos (by simpa using hc1)]];rfl
 ·
  refine Bx (AW.seq (Ah (Qp (Qf [_]) (Qp D1 ?_))))
  refine Qp (Al (n:=s.fields.length) Aj rfl rfl rfl (by simp)) ?_
  refine Qp Gl (Ag (A4 (fun hc2=>?_) fun hc2=>?_))
  ·
   refine Ah (Qp Aq (Ag (D4 ?_)))
   refine Qr (Iq _) ?_
   rw [show Hd s=5 by unfold Hd;rw [if_neg (by simpa using hc1),if_pos (by simpa using hc2)]];rfl
  ·
   refine Bx (AW.seq (Ah (Qp Aq (Ag (AW.block ?_)))))
   have hfl:=hs.2.1
   refine AW.Aa3 (fun (p:Nat)=>(⟨[(1,.ptr (N5 s)),(3,.int .i64 (p:Int))],H,53⟩:St)) (fun (p:Nat)=>p≤s.fields.length∧G9 [] s.fields=G9 ((s.fields.take p).map (·.name)) (s.fields.drop p)) (fun (p:Nat)=>s.fields.length-p) (0) ?_ (GS.weaken ⟨rfl,rfl,trivial⟩ (.refl _)) ?_
   · exact ⟨Nat.zero_le _,rfl⟩
   ·
    rintro p hR
    refine AW.seq (Ah (Qp Az (Qp (Qf [_]) (Qp D1 ?_))))
    refine Qp (Al (n:=s.fields.length) Aj rfl rfl rfl (by simp)) ?_
    refine Qp Co (Ag (A4 (fun hc3=>?_) fun hc3=>?_))
    ·
     obtain ⟨a,ha⟩:=B5 hc3
     have hlt:=Bh ha
     have hm:=List.mem_of_getElem? ha
     have hna:(s.fields.map (·.name))[p]? = some a.name:=by simp [ha]
     refine Bx (AW.seq (AW.block (Ah (Qp (Qf [_]) (Qp D1 (Qp Az ?_))))))
     refine Qp (Af (c:=[.str _,Iq _]) Aj rfl rfl rfl rfl rfl rfl (by omega) (B1 ha)) ?_
     refine Qp (C8 [.str _,Iq _]) ?_
     refine Qe (A0 (l:=[.str [],.int .i64 0]) (by kernel_rfl)) ?_
     rintro _ _ ⟨b4,rfl,rfl⟩
     refine Eu 0 [.str _,Iq _] (_::_) ?_
     refine AOL.ghost (GS.Aa2 (t:=4) 0 rfl rfl) ?_
     refine Ag (AW.seq (Ah (Qp (Qf [.str _,Iq _]) (Qp Uj ?_))))
     refine Qp (Qc rfl (c104 _ (hs.2.2 a hm))) ?_
     refine Qp Gj (Qp Bt (Qg [] Qw (Qf [.str _,Iq _]) (Qg [(30,_)] Qw Uj ?_)))
     refine AOL.Aa5 (y:=.bool _) _ [(31,_)] rfl (nI.all ⟨Ent.Aa1 _ _,trivial⟩) (fun hG=>Rl rfl rfl) rfl ?_
     refine Qp Ew (Ag (A4 (fun hc4=>?_) fun hc4=>?_))
     ·
      have hb4:(!Nc a.name)=true:=by rw [←bV];exact hc4
      refine Ah (Qp Aq (Ag (D4 (A6 (Ai (Ai (A6 (Ai ?_))))))))
      refine Qr (Iq _) ?_
      have he:Dl ((s.fields.take p).map (·.name)) a=8:=by
       unfold Dl;rw [if_pos hb4]
      rw [show Hd s=Dl ((s.fields.take p).map (·.name)) a by unfold Hd;rw [if_neg (by simpa using hc1),if_neg (by simpa using hc2),hR.2,Bi ha,Hz (by rw [he];decide)],he];rfl
     ·
      have hb4:¬(!Nc a.name)=true:=by rw [←bV];exact Bool.eq_false_iff.mp hc4
      refine Bx (AW.seq (Ah (Qp (C8 [.str _,_]) (Qp (Qf [.str _,Iq _]) (Qp Uj ?_)))))
      refine Qp (Qc rfl (c105 s hs.2.1 _)) ?_
      refine Qp Az (Qp Co (Ag (A4 (fun hc5=>?_) fun hc5=>?_)))
      ·
       rw [Nj hna,←List.map_take] at hc5
       have hb5:((s.fields.take p).map (·.name)).contains a.name=true:=hc5
       refine Ah (Qp Aq (Ag (D4 (A6 (Ai (Ai (A6 (Ai ?_))))))))
       refine Qr (Iq _) ?_
       have he:Dl ((s.fields.take p).map (·.name)) a=7:=by
        unfold Dl;rw [if_neg hb4,if_pos hb5]
       rw [show Hd s=Dl ((s.fields.take p).map (·.name)) a by unfold Hd;rw [if_neg (by simpa using hc1),if_neg (by simpa using hc2),hR.2,Bi ha,Hz (by rw [he];decide)],he];rfl
      ·
       rw [Nj hna,←List.map_take] at hc5
       have hb5:¬((s.fields.take p).map (·.name)).contains a.name=true:=Bool.eq_false_iff.mp hc5
       refine Bx (Ah (Qp (Qf [Iq _]) (Qp B2 (Qp C1 (Qp Bt (Qg [] Qw (Qf [Iq _]) (Qg [(44,_)] Qw B2 (Qg [(45,_)] Qw C1 (Qp G1 ?_)))))))))
       refine Qp Bt (Qg [] Qw (Qf [Iq _]) (Qg [(49,_)] Qw B2 (Qg [(50,_)] Qw C1 (Qp G1 (Ag (A4 (fun hc6=>?_) fun hc6=>?_))))))
       ·
        have hb6:=(dU a.kind).symm.trans hc6
        refine Ah (Qp Aq (Ag (AW.ret (A6 (Ai (Ai (A6 (Ai ?_))))))))
        refine Qr (Iq _) ?_
        have he:Dl ((s.fields.take p).map (·.name)) a=1:=by
         unfold Dl;rw [if_neg hb4,if_neg hb5,if_pos hb6]
        rw [show Hd s=Dl ((s.fields.take p).map (·.name)) a by unfold Hd;rw [if_neg (by simpa using hc1),if_neg (by simpa using hc2),hR.2,Bi ha,Hz (by rw [he];decide)],he];rfl
       ·
        have hb6:=Bool.eq_false_iff.mp ((dU a.kind).symm.trans hc6)
        have he0:Dl ((s.fields.take p).map (·.name)) a=0:=by unfold Dl;rw [if_neg hb4,if_neg hb5,if_neg hb6]
        refine AW.skip (Bn (Ad (AW.region (Qp Az (Qp Fb (Qp Aq (Ag ?_)))))))
        refine ⟨p+1,?_,?_,GS.weaken ⟨rfl,rfl,trivial⟩ (.refl _)⟩
        · exact ⟨hlt,by rw [hR.2,Bi ha,Sv he0,gX ha]⟩
        · omega
    ·
     have hd:=Dq hc3
     refine AW.exit ?_
     refine A2 (A2 (Bo (Ad (Ah (Qp Aq (Ag (AW.ret ?_)))))))
     refine Qr (Iq _) ?_
     rw [show Hd s=0 by unfold Hd;rw [if_neg (by simpa using hc1),if_neg (by simpa using hc2),hR.2,hd];rfl];rfl
theorem c57 (l:List Sc)(hl:l.length≤1048576)(hs:∀s∈l,Is s):A1 Tryz.prog 68 [.sl 2 (l.map N5)] (.int .i64 (D9 l)):=by
 refine A1.body (n:=30) Aj Tryz.func68 rfl rfl rfl fun H=>?_
 refine Ah (Qp Aq (Ag (AW.seq (Ah (Qp Dm ?_)))))
 refine Qp (Al (n:=l.length) Aj rfl rfl rfl (by simp)) ?_
 refine Qp Gl (Ag (A4 (fun hc1=>?_) fun hc1=>?_))
 ·
  refine Ah (Qp Aq (Ag (D4 ?_)))
  refine Qr (Iq _) ?_
  rw [show D9 l=5 by unfold D9;rw [if_pos (by simpa using hc1)]];rfl
 ·
  refine Bx (Ah ?_)
  refine Qe (Pp) ?_
  rintro _ _ ⟨b10,rfl,rfl⟩
  refine Qp O5 (Ag (AW.seq (Ah (Qp Dm ?_))))
  refine Qp (Al (n:=l.length) Aj rfl rfl rfl (by simp)) ?_
  refine Qp Az (Ag (AW.block ?_))
  refine AW.Aa3 (fun (p:Nat×List (List UInt8))=>(⟨[(3,.val (.map (some b10))),(11,.sl 2 (l.map N5)),(12,.int .i64 l.length),(13,.int .i64 (p.1:Int))],.smap b10 (S9 p.2)::H,30⟩:St)) (fun (p:Nat×List (List UInt8))=>p.1≤l.length∧Iz [] l=Iz p.2 (l.drop p.1)) (fun (p:Nat×List (List UInt8))=>l.length-p.1) ((0,[])) ?_ (GS.weaken ⟨rfl,rfl,rfl,rfl,trivial⟩ (.refl _)) ?_
  · exact ⟨Nat.zero_le _,rfl⟩
  ·
   rintro p hR
   refine Ah (Qp Co (Ag (AW.seq (A4 (fun hc2=>?_) fun hc2=>?_))))
   ·
    obtain ⟨a,ha⟩:=B5 hc2
    have hlt:=Bh ha
    have hm:=List.mem_of_getElem? ha
    refine Bx (AW.seq (AW.block (Ah ?_)))
    refine Qp (Af (c:=[.str _,_]) Aj rfl rfl rfl rfl rfl rfl (by omega) (B1 ha)) ?_
    refine Qp (C8 [.str _,_]) ?_
    refine Qe (A0 (l:=[.str [],.sl 2 []]) (by kernel_rfl)) ?_
    rintro _ _ ⟨b5,rfl,rfl⟩
    refine Eu 0 [.str _,_] (_::_::_) ?_
    refine AOL.ghost (GS.Aa2 (t:=5) 0 rfl rfl) ?_
    refine Ag (AW.seq (Ah (Qp (C8 [.str _,_]) ?_)))
    refine Qp (Qc rfl (c85 a (hs a hm))) ?_
    refine Qp Aq (Dv (Qp Az (Qp C1 (Ag (A4 (fun hc3=>?_) fun hc3=>?_)))))
    ·
     refine Ah (Qp Az (Qp Aq (Ag (D4 (A6 (Ai (Ai (A6 (Ai ?_)))))))))
     refine ⟨.inr rfl,[Iq _],.cons (.tmp _ _ rfl) <| .nil,.cons _ (.refl _),?_⟩
     have he:Gg p.2 a=Hd a:=by unfold Gg;rw [if_pos hc3]
     rw [show D9 l=Gg p.2 a by unfold D9;rw [if_neg (by simpa using hc1),hR.2,Bi ha,Mj (by rw [he];simpa using hc3)],he];rfl
    ·
     have hb3:=Bool.eq_false_iff.mp hc3
     refine Bx (AW.seq (Ah (Qp Gn (Qp (Qf [.str _,_]) (Qp Uj ?_)))))
     refine AOL.Aa7 (Xc (i:=0) (ks:=p.2) Aj rfl rfl rfl rfl rfl (by kernel_rfl) rfl rfl rfl) rfl rfl ?_
     refine Ag (A4 (fun hc4=>?_) fun hc4=>?_)
     ·
      have hb4:p.2.contains a.name=true:=hc4
      refine Ah (Qp Aq (Ag (D4 (A6 (Ai (Ai (A6 (Ai ?_))))))))
      refine ⟨.inr rfl,[Iq _],.cons (.tmp _ _ rfl) <| .nil,.cons _ (.refl _),?_⟩
      have he:Gg p.2 a=7:=by unfold Gg;rw [if_neg hb3,if_pos hb4]
      rw [show D9 l=Gg p.2 a by unfold D9;rw [if_neg (by simpa using hc1),hR.2,Bi ha,Mj (by rw [he];decide)],he];rfl
     ·
      have hb4:¬p.2.contains a.name=true:=by simpa using hc4
      have he0:Gg p.2 a=0:=by unfold Gg;rw [if_neg hb3,if_neg hb4]
      refine Bx (AW.region (Qp Gn (Qp (Qf [.str _,_]) (Qp Uj ?_))))
      refine Qe (eM (i:=0) (H2:=_::_) Aj rfl rfl rfl rfl rfl rfl rfl rfl (by simpa using hb4) rfl) ?_
      rintro _ _ ⟨rfl,rfl⟩
      refine AOL.nil (Bn (Ad (AW.region (Qp Fb (Qp Az (Ag ?_))))))
      refine ⟨(p.1+1,p.2 ++ [a.name]),?_,?_,GS.weaken ⟨rfl,rfl,rfl,rfl,trivial⟩ (.refl _)⟩
      · exact ⟨hlt,by rw [hR.2,Bi ha,U8 he0]⟩
      · first | omega | (simp only;omega)
   ·
    have hd:=Dq hc2
    refine AW.exit ?_
    refine A2 (A2 (Bo (Ad (Ah (Qp Aq (Ag (AW.ret ?_)))))))
    refine ⟨.inr rfl,[Iq _],.cons (.tmp _ _ rfl) <| .nil,.cons _ (.refl _),?_⟩
    rw [show D9 l=0 by unfold D9;rw [if_neg (by simpa using hc1),hR.2,hd];rfl];rfl
theorem c59 (l:List Sc)(hl:l.length≤1048576)(hs:∀s∈l,Is s):A1 Tryz.prog 81 [.sl 2 (l.map N5)] (.int .i64 (D9 l)):=by
 refine A1.body (n:=31) Aj Tryz.func81 rfl rfl rfl fun H=>?_
 refine Ah (Qp Aq (Ag (AW.seq (Ah (Qp Dm ?_)))))
 refine Qp (Al (n:=l.length) Aj rfl rfl rfl (by simp)) ?_
 refine Qp Gl (Ag (A4 (fun hc1=>?_) fun hc1=>?_))
 ·
  refine Ah (Qp Aq (Ag (D4 ?_)))
  refine Qr (Iq _) ?_
  rw [show D9 l=5 by unfold D9;rw [if_pos (by simpa using hc1)]];rfl
 ·
  refine Bx (AW.seq (Ah (Qp Aq (Ag (AW.block ?_)))))
  refine AW.Aa3 (fun (p:Nat)=>(⟨[(0,.sl 2 (l.map N5)),(3,.int .i64 (p:Int))],H,31⟩:St)) (fun (p:Nat)=>p≤l.length∧Iz [] l=Iz ((l.take p).map (·.name)) (l.drop p)) (fun (p:Nat)=>l.length-p) (0) ?_ (GS.weaken ⟨rfl,rfl,trivial⟩ (.refl _)) ?_
  · exact ⟨Nat.zero_le _,rfl⟩
  ·
   rintro p hR
   refine AW.seq (Ah (Qp Az (Qp Dm ?_)))
   refine Qp (Al (n:=l.length) Aj rfl rfl rfl (by simp)) ?_
   refine Qp Co (Ag (A4 (fun hc2=>?_) fun hc2=>?_))
   ·
    obtain ⟨a,ha⟩:=B5 hc2
    have hlt:=Bh ha
    have hm:=List.mem_of_getElem? ha
    have hna:(l.map (·.name))[p]? = some a.name:=by simp [ha]
    refine Bx (AW.seq (AW.block (AW.seq (Ah (Qp Dm (Qp Az ?_))))))
    refine Qp (Af (c:=[.str _,_]) Aj rfl rfl rfl rfl rfl rfl (by omega) (B1 ha)) ?_
    refine Qp (C8 [.str _,_]) ?_
    refine Qp (Qc rfl (c87 a (hs a hm))) ?_
    refine Qp Aq (Dv (Qp Az (Qp C1 (Ag (A4 (fun hc3=>?_) fun hc3=>?_)))))
    ·
     refine Ah (Qp Az (Qp Aq (Ag (D4 (A6 (Ai (Ai (A6 (Ai ?_)))))))))
     refine Qr (Iq _) ?_
     have he:Gg ((l.take p).map (·.name)) a=Hd a:=by unfold Gg;rw [if_pos hc3]
     rw [show D9 l=Gg ((l.take p).map (·.name)) a by unfold D9;rw [if_neg (by simpa using hc1),hR.2,Bi ha,Mj (by rw [he];simpa using hc3)],he];rfl
    ·
     have hb3:=Bool.eq_false_iff.mp hc3
     refine Bx (Ah (Qp Dm (Qp Dm (Qp Az ?_))))
     refine Qp (Af (c:=[.str _,_]) Aj rfl rfl rfl rfl rfl rfl (by omega) (B1 ha)) ?_
     refine Qp (Qf [.str _,_]) (Qp Uj ?_)
     refine Qp (Qc rfl (c88 l hl _)) ?_
     refine Qp Az (Qp Co (Ag (A4 (fun hc4=>?_) fun hc4=>?_)))
     ·
      rw [Nj hna,←List.map_take] at hc4
      have hb4:((l.take p).map (·.name)).contains a.name=true:=hc4
      refine Ah (Qp Aq (Ag (AW.ret (A6 (Ai (Ai (A6 (Ai ?_))))))))
      refine Qr (Iq _) ?_
      have he:Gg ((l.take p).map (·.name)) a=7:=by unfold Gg;rw [if_neg hb3,if_pos hb4]
      rw [show D9 l=Gg ((l.take p).map (·.name)) a by unfold D9;rw [if_neg (by simpa using hc1),hR.2,Bi ha,Mj (by rw [he];decide)],he];rfl
     ·
      rw [Nj hna,←List.map_take] at hc4
      have hb4:¬((l.take p).map (·.name)).contains a.name=true:=Bool.eq_false_iff.mp hc4
      have he0:Gg ((l.take p).map (·.name)) a=0:=by unfold Gg;rw [if_neg hb3,if_neg hb4]
      refine AW.skip (Bn (Ad (AW.region (Qp Az (Qp Fb (Qp Aq (Ag ?_)))))))
      refine ⟨p+1,?_,?_,GS.weaken ⟨rfl,rfl,trivial⟩ (.refl _)⟩
      · exact ⟨hlt,by rw [hR.2,Bi ha,U8 he0,bC ha]⟩
      · omega
   ·
    have hd:=Dq hc2
    refine AW.exit ?_
    refine A2 (A2 (Bo (Ad (Ah (Qp Aq (Ag (AW.ret ?_)))))))
    refine Qr (Iq _) ?_
    rw [show D9 l=0 by unfold D9;rw [if_neg (by simpa using hc1),hR.2,hd];rfl];rfl


def badS (l:List Ev):Bool:=decide (12<(l.length:Int))||l.any fun v=>decide (10<(v.values.length:Int))
def fewEnvS (vars:List (List Ev)):Bool:=!((vars.take 20).any badS)&&decide ((vars.length:Int)≤20)
def fewE (e:Ex):Bool:=decide (Av e≤200∧Ch e≤100)


set_option maxHeartbeats 400000
set_option maxRecDepth 20000

theorem c71 (op:Int)(ks:List Int):A1 Tryz.prog 102 [.int .i64 op,.sl 1 (ks.map fun k=>[.int .i64 k])] (.int .i64 (Du op ks)):=by
 refine A1.body (n:=38) Aj Tryz.func102 rfl rfl rfl fun H=>?_
 refine Ah (Qp Aq (Ag (AW.seq (Ah (Qp Dm ?_)))))
 refine Qp (Al (n:=ks.length) Aj rfl rfl rfl (by simp)) ?_
 refine Qp Az (Ag (AW.block ?_))
 refine AW.sllen 8 rfl fun hlen=>?_
 simp only [List.length_map,maxLen] at hlen
 refine AW.Aa3 (fun (p:Nat)=>(⟨[(0,.int .i64 op),(1,.sl 1 (ks.map fun k=>[.int .i64 k])),(8,.sl 1 (ks.map fun k=>[.int .i64 k])),(9,.int .i64 ks.length),(10,.int .i64 (p:Int))],H,38⟩:St)) (fun (p:Nat)=>p≤ks.length∧Du op ks=At (fun k=>if Mp op k (ks.headD 0) then 0 else 9) (ks.drop p)) (fun (p:Nat)=>ks.length-p) (0) ?_ (GS.weaken ⟨rfl,rfl,rfl,rfl,rfl,trivial⟩ (.refl _)) ?_
 · exact ⟨Nat.zero_le _,rfl⟩
 ·
  rintro p hR
  refine Ah (Qp Co (Ag (AW.seq (A4 (fun hc1=>?_) fun hc1=>?_))))
  ·
   obtain ⟨a,ha⟩:=B5 hc1
   have hlt:=Bh ha
   have hm:=List.mem_of_getElem? ha
   obtain ⟨a0,ha0⟩:∃a0,ks[0]? = some a0:=⟨_,List.getElem?_eq_getElem (by omega)⟩
   have hhd:ks.headD 0=a0:=by cases ks <;> simp_all
   refine Bx (AW.seq (AW.block (Ah ?_)))
   refine Qp (Af (c:=[Iq _]) Aj rfl rfl rfl rfl rfl rfl (by omega) (B1 (f:=fun k=>[AV.int .i64 k]) ha)) ?_
   refine Qp B2 (Qp Aq (Dv (Qp Bb (Ag ?_))))
   refine AW.cut (fun (_:Unit)=>(⟨[(0,.int .i64 op),(1,.sl 1 (ks.map fun k=>[.int .i64 k])),(8,.sl 1 (ks.map fun k=>[.int .i64 k])),(9,.int .i64 ks.length),(10,.int .i64 (p:Int)),(7,.bool (Mp op a a0))],H,38⟩:St)) (fun (_:Unit)=>True) ?_ ?_
   ·
    refine Ah (Qp Az (Ag (AW.block ?_)))
    refine AW.cut (fun (_:Unit)=>(⟨[(0,.int .i64 op),(1,.sl 1 (ks.map fun k=>[.int .i64 k])),(6,.int .i64 a),(7,.bool true),(8,.sl 1 (ks.map fun k=>[.int .i64 k])),(9,.int .i64 ks.length),(10,.int .i64 (p:Int)),(14,.int .i64 op),(15,.bool (op==5||op==6||op==7||op==8))],H,38⟩:St)) (fun (_:Unit)=>True) ?_ ?_
    ·
     refine Ah (Qp Ba (Qp Bb (Ag (A4 (fun hc2=>?_) fun hc2=>?_))))
     ·
      refine Bx ?_
      refine ⟨(),?_,GS.weaken ⟨rfl,rfl,rfl,rfl,rfl,rfl,rfl,rfl,congrArg AV.bool (by simp [Mp, *]),trivial⟩ (.refl _)⟩
      trivial
     ·
      refine Ah (Qp Ba (Qp Bb (Ag (A4 (fun hc3=>?_) fun hc3=>?_))))
      ·
       refine Bx ?_
       refine ⟨(),?_,GS.weaken ⟨rfl,rfl,rfl,rfl,rfl,rfl,rfl,rfl,congrArg AV.bool (by simp [Mp, *]),trivial⟩ (.refl _)⟩
       trivial
      ·
       refine Ah (Qp Ba (Qp Bb (Ag (A4 (fun hc4=>?_) fun hc4=>?_))))
       ·
        refine Bx ?_
        refine ⟨(),?_,GS.weaken ⟨rfl,rfl,rfl,rfl,rfl,rfl,rfl,rfl,congrArg AV.bool (by simp [Mp, *]),trivial⟩ (.refl _)⟩
        trivial
       ·
        refine AW.region (Qp Ba (Qp Bb (Ag ?_)))
        refine ⟨(),?_,GS.weaken ⟨rfl,rfl,rfl,rfl,rfl,rfl,rfl,rfl,congrArg AV.bool (by simp [Mp, *]),trivial⟩ (.refl _)⟩
        trivial
    ·
     rintro _ _
     refine A4 (fun hc5=>?_) fun hc5=>?_
     ·
      refine AW.region (Qp Az (Qp Ba (Qp Bb (AOL.nil (Bn (Ad ?_))))))
      refine ⟨(),?_,GS.weaken ⟨rfl,rfl,rfl,rfl,rfl,congrArg AV.bool (by simp [Mp, *]),trivial⟩ (.refl _)⟩
      trivial
     ·
      refine AW.cut (fun (_:Unit)=>(⟨[(0,.int .i64 op),(1,.sl 1 (ks.map fun k=>[.int .i64 k])),(6,.int .i64 a),(7,.bool true),(8,.sl 1 (ks.map fun k=>[.int .i64 k])),(9,.int .i64 ks.length),(10,.int .i64 (p:Int)),(14,.int .i64 op),(22,.bool (op==10||op==11||op==12))],H,38⟩:St)) (fun (_:Unit)=>True) ?_ ?_
      ·
       refine Ah (Qp Ba (Qp Bb (Ag (A4 (fun hc6=>?_) fun hc6=>?_))))
       ·
        refine Bx ?_
        refine ⟨(),?_,GS.weaken ⟨rfl,rfl,rfl,rfl,rfl,rfl,rfl,rfl,congrArg AV.bool (by simp [Mp, *]),trivial⟩ (.refl _)⟩
        trivial
       ·
        refine Ah (Qp Ba (Qp Bb (Ag (A4 (fun hc7=>?_) fun hc7=>?_))))
        ·
         refine Bx ?_
         refine ⟨(),?_,GS.weaken ⟨rfl,rfl,rfl,rfl,rfl,rfl,rfl,rfl,congrArg AV.bool (by simp [Mp, *]),trivial⟩ (.refl _)⟩
         trivial
        ·
         refine AW.region (Qp Ba (Qp Bb (Ag ?_)))
         refine ⟨(),?_,GS.weaken ⟨rfl,rfl,rfl,rfl,rfl,rfl,rfl,rfl,congrArg AV.bool (by simp [Mp, *]),trivial⟩ (.refl _)⟩
         trivial
      ·
       rintro _ _
       refine A4 (fun hc8=>?_) fun hc8=>?_
       ·
        refine AW.region (Qp Az (Qp Ba (Qp Bb (AOL.nil (Bn (Ad ?_))))))
        refine ⟨(),?_,GS.weaken ⟨rfl,rfl,rfl,rfl,rfl,congrArg AV.bool (by simp [Mp, *]),trivial⟩ (.refl _)⟩
        trivial
       ·
        refine Ah (Qp Ba (Qp Bb (Ag (A4 (fun hc9=>?_) fun hc9=>?_))))
        ·
         refine AW.region (Qp Az (Qp Dm ?_))
         refine Qp (Af (c:=[Iq _]) Aj rfl rfl rfl rfl rfl rfl (by omega) (B1 (f:=fun k=>[AV.int .i64 k]) ha0)) ?_
         refine Qp B2 (Qp Ba (Qp Bb (AOL.nil (Bn (Ad ?_)))))
         refine ⟨(),?_,GS.weaken ⟨rfl,rfl,rfl,rfl,rfl,congrArg AV.bool (by simp [Mp, *]),trivial⟩ (.refl _)⟩
         trivial
        ·
         refine AW.skip (Bn (Ad ?_))
         refine ⟨(),?_,GS.weaken ⟨rfl,rfl,rfl,rfl,rfl,congrArg AV.bool (by simp [Mp, *]),trivial⟩ (.refl _)⟩
         trivial
   ·
    rintro _ _
    refine Ah (Qp Bt (Qp Gj (Ag (A4 (fun hc10=>?_) fun hc10=>?_))))
    ·
     have hok:Mp op a a0=false:=by simpa using hc10
     refine Ah (Qp Aq (Ag (AW.ret (A6 (Ai (Ai (A6 (Ai ?_))))))))
     refine Qr (Iq _) ?_
     simp only [Ae,AV.int.injEq,true_and]
     rw [hR.2,Bi ha,At,hhd];simp [hok]
    ·
     have hok:Mp op a a0=true:=by simpa using hc10
     refine AW.skip (Bn (Ad (AW.region (Qp Fb (Qp Az (Ag ?_))))))
     refine ⟨p+1,?_,?_,GS.weaken ⟨rfl,rfl,rfl,rfl,rfl,trivial⟩ (.refl _)⟩
     · exact ⟨hlt,by rw [hR.2,Bi ha,At,hhd];simp [hok]⟩
     · first | omega | (simp only;omega)
  ·
   have hd:=Dq hc1
   refine AW.exit ?_
   refine A2 (A2 (Bo (Ad (Ah (Qp Aq (Ag (AW.ret ?_)))))))
   refine Qr (Iq _) ?_
   simp only [Ae,AV.int.injEq,true_and]
   rw [hR.2,hd];rfl

end Go.Proofs.YtjedflcpjlgokaaGreatDoor
