/-
  Several texts in one: W24, W13. No condition.
-/
import Derived.Test.YtkddpedfbicbeaaGreatDoorAz
import Derived.Test.YtkddpedfbicbeaaGreatDoorW23
import Derived.KernelRfl
import Derived.Test.YtkddpedfbicbeaaGreatDoorK02
import Derived.Test.YtkddpedfbicbeaaGreatDoorW4
set_option linter.unusedVariables false
set_option linter.unusedSimpArgs false
namespace Go.Proofs.YtkddpedfbicbeaaGreatDoor
open Go Go.Aw
set_option maxHeartbeats 800000
set_option maxRecDepth 20000

theorem Z7 {ns:List (List UInt8)}{k:Nat}{n:List UInt8}(h:ns[k]? = some n)(hn:(ns.take k).contains n=false):Om ns n=(k:Int):=by
 have h1:=Or h
 rw [hn] at h1
 have hm:n∈ns:=List.mem_of_getElem? h
 have hc:ns.contains n=true:=by simpa using hm
 have h3:ns.idxOf n≤k:=by
  refine Nat.le_of_not_lt fun hlt=>?_
  have hk:k<ns.length:=A9 h
  have h4:=List.not_of_lt_findIdx (p:=fun x=>x==n) (xs:=ns) (i:=k) hlt
  have h5:ns[k]=n:=by rw [List.getElem?_eq_getElem hk] at h;exact Option.some.inj h
  simp only [h5] at h4
  simp at h4
 unfold Om at h1 ⊢
 rw [if_pos hc] at h1 ⊢
 simp at h1
 omega
theorem Xu {ns:List (List UInt8)}{n:List UInt8}(h:ns.contains n=false):Om ns n = -1:=by unfold Om;rw [if_neg (by simp only [h];decide)]
theorem Qy {ns:List (List UInt8)}{k:Nat}{m n:List UInt8}(h:ns[k]? = some m)(hn:(ns.take k).contains n=false)(hne:(m==n)=false):(ns.take (k+1)).contains n=false:=by
 rw [Cq h]
 have h1:m≠n:=by simpa using hne
 simp at hn ⊢
 exact ⟨hn,fun e=>h1 e.symm⟩
def Jk (s:Sc):Prop:=s.name.length≤1048576∧s.fields.length≤1048576∧∀f∈s.fields,f.name.length≤1048576
theorem Uz {seen:List (List UInt8)}{a:Fi}{r:List Fi}(h:D9 seen a=0):Ih seen (a::r)=Ih (seen ++ [a.name]) r:=by rw [Ih,if_neg (by rw [h];decide)]
theorem I6 {seen:List (List UInt8)}{a:Fi}{r:List Fi}(h:D9 seen a≠0):Ih seen (a::r)=D9 seen a:=by rw [Ih,if_pos (by simpa using h)]
theorem Wo {seen:List (List UInt8)}{a:Sc}{r:List Sc}(h:Hx seen a=0):J3 seen (a::r)=J3 (seen ++ [a.name]) r:=by rw [J3,if_neg (by rw [h];decide)]
theorem Mx {seen:List (List UInt8)}{a:Sc}{r:List Sc}(h:Hx seen a≠0):J3 seen (a::r)=Hx seen a:=by rw [J3,if_pos (by simpa using h)]
theorem fI (k:Int):(k != 0&&k != 1&&k != 2)=(decide (k<0)||decide (3≤k)):=by
 rw [Bool.eq_iff_iff];simp;omega
theorem iB (s:List UInt8):(!Lx s||s==yD) = !Pe s:=by
 unfold Pe;cases Lx s <;> cases (s==yD) <;> rfl

theorem c105 (s:Sc)(hl:s.fields.length≤1048576)(n:List UInt8):Av Tryz.prog 114 [.agg (Nz s),.str n] (.int .i64 (Om (s.fields.map (·.name)) n)):=by
 refine Av.body (n:=22) Ai Tryz.func114 rfl rfl rfl fun H=>?_
 refine Ah (Qp (F5 [.str _,_]) (Qp At (Ag (AW.seq (Ah (Qp At (Ag (AW.block ?_))))))))
 refine AW.Aae (fun (p:Nat)=>(⟨[(1,.str n),(2,.ptr (Nz s)),(5,.int .i64 (p:Int))],H,22⟩:St)) (fun (p:Nat)=>p≤s.fields.length∧((s.fields.map (·.name)).take p).contains n=false) (fun (p:Nat)=>s.fields.length-p) (0) ?_ (GS.weaken ⟨rfl,rfl,rfl,trivial⟩ (.refl _)) ?_
 · exact ⟨Nat.zero_le _,by simp⟩
 ·
  rintro p hR
  refine AW.seq (Ah (Qp A0 (Qp (Qf [_]) (Qp Dk ?_))))
  refine Qp (Ak (n:=s.fields.length) Ai rfl rfl rfl (by simp)) ?_
  refine Qp Cj (Ag (A3 (fun hc1=>?_) fun hc1=>?_))
  ·
   obtain ⟨a,ha⟩:=B2 hc1
   have hlt:=A9 ha
   have hm:=List.mem_of_getElem? ha
   have hna:(s.fields.map (·.name))[p]? = some a.name:=by simp [ha]
   refine Bx (AW.seq (AW.block (Ah (Qp (Qf [_]) (Qp Dk (Qp A0 ?_))))))
   refine Qp (Af (c:=[.str _,Iq _]) Ai rfl rfl rfl rfl rfl rfl (by omega) (Bh ha)) ?_
   refine Qp (Qf [.str _,Iq _]) (Qp Vr (Qp eE ?_))
   refine Qp (P7 rfl rfl) ?_
   refine Ag (A3 (fun hc2=>?_) fun hc2=>?_)
   ·
    refine Ah (Qp A0 (Qp At (Ag (AW.ret (Ba (Aj (Aj (Ba (Aj ?_)))))))))
    refine Qr (Iq _) ?_
    have e:a.name=n:=by simpa using hc2
    rw [e] at hna
    rw [Z7 hna hR.2];rfl
   ·
    refine AW.skip (Bq (Ae (AW.region (Qp A0 (Qp Fv (Qp At (Ag ?_)))))))
    refine ⟨p+1,?_,?_,GS.weaken ⟨rfl,rfl,rfl,trivial⟩ (.refl _)⟩
    · exact ⟨hlt,Qy hna hR.2 hc2⟩
    · omega
  ·
   have hte:=C3 hc1
   refine AW.exit ?_
   refine A6 (A6 (Bv (Ae (Ah (Qp At (Ag (AW.ret ?_)))))))
   refine Qr (Iq _) ?_
   have h2:=hR.2
   rw [←List.map_take,hte] at h2
   rw [Xu h2];rfl
theorem c88 (l:List Sc)(hl:l.length≤1048576)(n:List UInt8):Av Tryz.prog 73 [.sl 2 (l.map Nz),.str n] (.int .i64 (Om (l.map (·.name)) n)):=by
 refine Av.body (n:=20) Ai Tryz.func73 rfl rfl rfl fun H=>?_
 refine Ah (Qp At (Ag (AW.seq (Ah (Qp At (Ag (AW.block ?_)))))))
 refine AW.Aae (fun (p:Nat)=>(⟨[(0,.sl 2 (l.map Nz)),(1,.str n),(5,.int .i64 (p:Int))],H,20⟩:St)) (fun (p:Nat)=>p≤l.length∧((l.map (·.name)).take p).contains n=false) (fun (p:Nat)=>l.length-p) (0) ?_ (GS.weaken ⟨rfl,rfl,rfl,trivial⟩ (.refl _)) ?_
 · exact ⟨Nat.zero_le _,by simp⟩
 ·
  rintro p hR
  refine AW.seq (Ah (Qp A0 (Qp C4 ?_)))
  refine Qp (Ak (n:=l.length) Ai rfl rfl rfl (by simp)) ?_
  refine Qp Cj (Ag (A3 (fun hc1=>?_) fun hc1=>?_))
  ·
   obtain ⟨a,ha⟩:=B2 hc1
   have hlt:=A9 ha
   have hm:=List.mem_of_getElem? ha
   have hna:(l.map (·.name))[p]? = some a.name:=by simp [ha]
   refine Bx (AW.seq (AW.block (Ah (Qp C4 (Qp A0 ?_)))))
   refine Qp (Af (c:=[.str _,_]) Ai rfl rfl rfl rfl rfl rfl (by omega) (Bh ha)) ?_
   refine Qp (Qf [.str _,_]) (Qp Vr (Qp eE ?_))
   refine Qp (P7 rfl rfl) ?_
   refine Ag (A3 (fun hc2=>?_) fun hc2=>?_)
   ·
    refine Ah (Qp A0 (Qp At (Ag (AW.ret (Ba (Aj (Aj (Ba (Aj ?_)))))))))
    refine Qr (Iq _) ?_
    have e:a.name=n:=by simpa using hc2
    rw [e] at hna
    rw [Z7 hna hR.2];rfl
   ·
    refine AW.skip (Bq (Ae (AW.region (Qp A0 (Qp Fv (Qp At (Ag ?_)))))))
    refine ⟨p+1,?_,?_,GS.weaken ⟨rfl,rfl,rfl,trivial⟩ (.refl _)⟩
    · exact ⟨hlt,Qy hna hR.2 hc2⟩
    · omega
  ·
   have hte:=C3 hc1
   refine AW.exit ?_
   refine A6 (A6 (Bv (Ae (Ah (Qp At (Ag (AW.ret ?_)))))))
   refine Qr (Iq _) ?_
   have h2:=hR.2
   rw [←List.map_take,hte] at h2
   rw [Xu h2];rfl
theorem c85 (s:Sc)(hs:Jk s):Av Tryz.prog 155 [.agg (Nz s)] (.int .i64 (Ij s)):=by
 refine Av.body (n:=45) Ai Tryz.func155 rfl rfl rfl fun H=>?_
 refine Ah (Qp (F5 [.str _,_]) (Qp At (Ag (AW.seq (Ah (Qp (Qf [.str _,_]) (Qp Vr ?_)))))))
 refine Qp (Qc rfl (c102 _ hs.1)) ?_
 refine Qp Ge (Ag (A3 (fun hc1=>?_) fun hc1=>?_))
 ·
  refine Ah (Qp At (Ag (Dr ?_)))
  refine Qr (Iq _) ?_
  rw [show Ij s=8 by unfold Ij;rw [if_pos (by simpa using hc1)]];rfl
 ·
  refine Bx (AW.seq (Ah (Qp (Qf [_]) (Qp Dk ?_))))
  refine Qp (Ak (n:=s.fields.length) Ai rfl rfl rfl (by simp)) ?_
  refine Qp Hg (Ag (A3 (fun hc2=>?_) fun hc2=>?_))
  ·
   refine Ah (Qp At (Ag (Dr ?_)))
   refine Qr (Iq _) ?_
   rw [show Ij s=5 by unfold Ij;rw [if_neg (by simpa using hc1),if_pos (by simpa using hc2)]];rfl
  ·
   refine Bx (Ah ?_)
   refine Qe (Q6) ?_
   rintro _ _ ⟨b14,rfl,rfl⟩
   refine Qp N8 (Ag (AW.seq (Ah (Qp (Qf [_]) (Qp Dk ?_)))))
   refine Qp (Ak (n:=s.fields.length) Ai rfl rfl rfl (by simp)) ?_
   refine Qp A0 (Ag (AW.block ?_))
   have hfl:=hs.2.1
   refine AW.Aae (fun (p:Nat×List (List UInt8))=>(⟨[(3,.val (.map (some b14))),(16,.sl 2 (s.fields.map cFi)),(17,.int .i64 s.fields.length),(18,.int .i64 (p.1:Int))],.smap b14 (Vo p.2)::H,45⟩:St)) (fun (p:Nat×List (List UInt8))=>p.1≤s.fields.length∧Ih [] s.fields=Ih p.2 (s.fields.drop p.1)) (fun (p:Nat×List (List UInt8))=>s.fields.length-p.1) ((0,[])) ?_ (GS.weaken ⟨rfl,rfl,rfl,rfl,trivial⟩ (.refl _)) ?_
   · exact ⟨Nat.zero_le _,rfl⟩
   ·
    rintro p hR
    refine Ah (Qp Cj (Ag (AW.seq (A3 (fun hc3=>?_) fun hc3=>?_))))
    ·
     obtain ⟨a,ha⟩:=B2 hc3
     have hlt:=A9 ha
     have hm:=List.mem_of_getElem? ha
     refine Bx (AW.seq (AW.block (Ah ?_)))
     refine Qp (Af (c:=[.str _,Iq _]) Ai rfl rfl rfl rfl rfl rfl (by omega) (Bh ha)) ?_
     refine Qp (Ck [.str _,Iq _]) ?_
     refine Qe (Al (l:=[.str [],.int .i64 0]) (by kernel_rfl)) ?_
     rintro _ _ ⟨b5,rfl,rfl⟩
     refine Cm 0 [.str _,Iq _] (_::_::_) ?_
     refine AOL.ghost (GS.Aad (t:=5) 0 rfl rfl) ?_
     refine Ag (AW.seq (AW.block (Ah (Qp (Qf [.str _,Iq _]) (Qp Vr ?_)))))
     refine Qp (Qc rfl (c103 _ (hs.2.2 a hm))) ?_
     refine Qp Ge (Qp Be (Ag (A3 (fun hc4=>?_) fun hc4=>?_)))
     ·
      have hb4:(!Pe a.name)=true:=hc4
      refine Ah (Qp At (Ag (AW.ret (Ba (Aj (Ba (Aj (Aj (Ba ?_)))))))))
      refine Aj ?_
      refine ⟨.inr rfl,[Iq _],.cons (.tmp _ _ rfl) <| .nil,.cons _ (.refl _),?_⟩
      have he:D9 p.2 a=8:=by
       unfold D9;rw [if_pos hb4]
      rw [show Ij s=D9 p.2 a by unfold Ij;rw [if_neg (by simpa using hc1),if_neg (by simpa using hc2),hR.2,A8 ha,I6 (by rw [he];decide)],he];rfl
     ·
      have hb4:¬(!Pe a.name)=true:=by simpa using hc4
      refine Ah (Qp H0 (Qp (Qf [.str _,Iq _]) (Qp Vr ?_)))
      refine AOL.Aai (aE (i:=0) (ks:=p.2) Ai rfl rfl rfl rfl rfl (by kernel_rfl) rfl rfl rfl) rfl rfl ?_
      refine Qp Be (Ag (A3 (fun hc5=>?_) fun hc5=>?_))
      ·
       have hb5:p.2.contains a.name=true:=hc5
       refine Ah (Qp At (Ag (AW.ret (Ba (Aj (Ba (Aj (Aj (Ba ?_)))))))))
       refine Aj ?_
       refine ⟨.inr rfl,[Iq _],.cons (.tmp _ _ rfl) <| .nil,.cons _ (.refl _),?_⟩
       have he:D9 p.2 a=7:=by
        unfold D9;rw [if_neg hb4,if_pos hb5]
       rw [show Ij s=D9 p.2 a by unfold Ij;rw [if_neg (by simpa using hc1),if_neg (by simpa using hc2),hR.2,A8 ha,I6 (by rw [he];decide)],he];rfl
      ·
       have hb5:¬p.2.contains a.name=true:=by simpa using hc5
       refine Ah (Qp (Qf [Iq _]) (Qp Bs (Qp Cj (Qp Bp (Qg [] Qw (Qf [Iq _]) (Qg [(37,_)] Qw Bs (Qg [(38,_)] Qw N9 (Qp E2 (Qp Be ?_)))))))))
       refine Ag (A3 (fun hc6=>?_) fun hc6=>?_)
       ·
        have hb6:=hc6
        refine Ah (Qp At (Ag (AW.ret (Ba (Aj (Ba (Aj (Aj (Ba ?_)))))))))
        refine Aj ?_
        refine ⟨.inr rfl,[Iq _],.cons (.tmp _ _ rfl) <| .nil,.cons _ (.refl _),?_⟩
        have he:D9 p.2 a=1:=by
         unfold D9;rw [if_neg hb4,if_neg hb5,if_pos hb6]
        rw [show Ij s=D9 p.2 a by unfold Ij;rw [if_neg (by simpa using hc1),if_neg (by simpa using hc2),hR.2,A8 ha,I6 (by rw [he];decide)],he];rfl
       ·
        have hb6:=Bool.eq_false_iff.mp hc6
        have he0:D9 p.2 a=0:=by unfold D9;rw [if_neg hb4,if_neg hb5,if_neg hb6]
        refine AW.skip (Bq (Ae (AW.region (Qp H0 (Qp (Qf [.str _,Iq _]) (Qp Vr ?_))))))
        refine Qe (fJ (i:=0) (H2:=_::_) Ai rfl rfl rfl rfl rfl rfl rfl rfl (by simpa using hb5) rfl) ?_
        rintro _ _ ⟨rfl,rfl⟩
        refine AOL.nil (Bq (Ae (AW.region (Qp Fv (Qp A0 (Ag ?_))))))
        refine ⟨(p.1+1,p.2 ++ [a.name]),?_,?_,GS.weaken ⟨rfl,rfl,rfl,rfl,trivial⟩ (.refl _)⟩
        · exact ⟨hlt,by rw [hR.2,A8 ha,Uz he0]⟩
        · first | omega | (simp only;omega)
    ·
     have hd:=Dh hc3
     refine AW.exit ?_
     refine A6 (A6 (Bv (Ae (Ah (Qp At (Ag (AW.ret ?_)))))))
     refine ⟨.inr rfl,[Iq _],.cons (.tmp _ _ rfl) <| .nil,.cons _ (.refl _),?_⟩
     rw [show Ij s=0 by unfold Ij;rw [if_neg (by simpa using hc1),if_neg (by simpa using hc2),hR.2,hd];rfl];rfl
theorem c87 (s:Sc)(hs:Jk s):Av Tryz.prog 72 [.agg (Nz s)] (.int .i64 (Ij s)):=by
 refine Av.body (n:=53) Ai Tryz.func72 rfl rfl rfl fun H=>?_
 refine Ah (Qp (F5 [.str _,_]) (Qp At (Ag (AW.seq (Ah (Qp (Qf [.str _,_]) (Qp Vr ?_)))))))
 refine Qp (Qc rfl (c104 _ hs.1)) ?_
 refine Qp Ge (Ag (A3 (fun hc1=>?_) fun hc1=>?_))
 ·
  refine Ah (Qp At (Ag (Dr ?_)))
  refine Qr (Iq _) ?_
  rw [show Ij s=8 by unfold Ij;rw [if_pos (by simpa using hc1)]];rfl
 ·
  refine Bx (AW.seq (Ah (Qp (Qf [_]) (Qp Dk ?_))))
  refine Qp (Ak (n:=s.fields.length) Ai rfl rfl rfl (by simp)) ?_
  refine Qp Hg (Ag (A3 (fun hc2=>?_) fun hc2=>?_))
  ·
   refine Ah (Qp At (Ag (Dr ?_)))
   refine Qr (Iq _) ?_
   rw [show Ij s=5 by unfold Ij;rw [if_neg (by simpa using hc1),if_pos (by simpa using hc2)]];rfl
  ·
   refine Bx (AW.seq (Ah (Qp At (Ag (AW.block ?_)))))
   have hfl:=hs.2.1
   refine AW.Aae (fun (p:Nat)=>(⟨[(1,.ptr (Nz s)),(3,.int .i64 (p:Int))],H,53⟩:St)) (fun (p:Nat)=>p≤s.fields.length∧Ih [] s.fields=Ih ((s.fields.take p).map (·.name)) (s.fields.drop p)) (fun (p:Nat)=>s.fields.length-p) (0) ?_ (GS.weaken ⟨rfl,rfl,trivial⟩ (.refl _)) ?_
   · exact ⟨Nat.zero_le _,rfl⟩
   ·
    rintro p hR
    refine AW.seq (Ah (Qp A0 (Qp (Qf [_]) (Qp Dk ?_))))
    refine Qp (Ak (n:=s.fields.length) Ai rfl rfl rfl (by simp)) ?_
    refine Qp Cj (Ag (A3 (fun hc3=>?_) fun hc3=>?_))
    ·
     obtain ⟨a,ha⟩:=B2 hc3
     have hlt:=A9 ha
     have hm:=List.mem_of_getElem? ha
     have hna:(s.fields.map (·.name))[p]? = some a.name:=by simp [ha]
     refine Bx (AW.seq (AW.block (Ah (Qp (Qf [_]) (Qp Dk (Qp A0 ?_))))))
     refine Qp (Af (c:=[.str _,Iq _]) Ai rfl rfl rfl rfl rfl rfl (by omega) (Bh ha)) ?_
     refine Qp (Ck [.str _,Iq _]) ?_
     refine Qe (Al (l:=[.str [],.int .i64 0]) (by kernel_rfl)) ?_
     rintro _ _ ⟨b4,rfl,rfl⟩
     refine Cm 0 [.str _,Iq _] (_::_) ?_
     refine AOL.ghost (GS.Aad (t:=4) 0 rfl rfl) ?_
     refine Ag (AW.seq (Ah (Qp (Qf [.str _,Iq _]) (Qp Vr ?_))))
     refine Qp (Qc rfl (c104 _ (hs.2.2 a hm))) ?_
     refine Qp Ge (Qp Bp (Qg [] Qw (Qf [.str _,Iq _]) (Qg [(30,_)] Qw Vr ?_)))
     refine AOL.Aaf (y:=.bool _) _ [(31,_)] rfl (rX.all ⟨Ent.Aac _ _,trivial⟩) (fun hG=>P7 rfl rfl) rfl ?_
     refine Qp E2 (Ag (A3 (fun hc4=>?_) fun hc4=>?_))
     ·
      have hb4:(!Pe a.name)=true:=by rw [←iB];exact hc4
      refine Ah (Qp At (Ag (Dr (Ba (Aj (Aj (Ba (Aj ?_))))))))
      refine Qr (Iq _) ?_
      have he:D9 ((s.fields.take p).map (·.name)) a=8:=by
       unfold D9;rw [if_pos hb4]
      rw [show Ij s=D9 ((s.fields.take p).map (·.name)) a by unfold Ij;rw [if_neg (by simpa using hc1),if_neg (by simpa using hc2),hR.2,A8 ha,I6 (by rw [he];decide)],he];rfl
     ·
      have hb4:¬(!Pe a.name)=true:=by rw [←iB];exact Bool.eq_false_iff.mp hc4
      refine Bx (AW.seq (Ah (Qp (Ck [.str _,_]) (Qp (Qf [.str _,Iq _]) (Qp Vr ?_)))))
      refine Qp (Qc rfl (c105 s hs.2.1 _)) ?_
      refine Qp A0 (Qp Cj (Ag (A3 (fun hc5=>?_) fun hc5=>?_)))
      ·
       rw [Or hna,←List.map_take] at hc5
       have hb5:((s.fields.take p).map (·.name)).contains a.name=true:=hc5
       refine Ah (Qp At (Ag (Dr (Ba (Aj (Aj (Ba (Aj ?_))))))))
       refine Qr (Iq _) ?_
       have he:D9 ((s.fields.take p).map (·.name)) a=7:=by
        unfold D9;rw [if_neg hb4,if_pos hb5]
       rw [show Ij s=D9 ((s.fields.take p).map (·.name)) a by unfold Ij;rw [if_neg (by simpa using hc1),if_neg (by simpa using hc2),hR.2,A8 ha,I6 (by rw [he];decide)],he];rfl
      ·
       rw [Or hna,←List.map_take] at hc5
       have hb5:¬((s.fields.take p).map (·.name)).contains a.name=true:=Bool.eq_false_iff.mp hc5
       refine Bx (Ah (Qp (Qf [Iq _]) (Qp Bs (Qp Cr (Qp Bp (Qg [] Qw (Qf [Iq _]) (Qg [(44,_)] Qw Bs (Qg [(45,_)] Qw Cr (Qp E1 ?_)))))))))
       refine Qp Bp (Qg [] Qw (Qf [Iq _]) (Qg [(49,_)] Qw Bs (Qg [(50,_)] Qw Cr (Qp E1 (Ag (A3 (fun hc6=>?_) fun hc6=>?_))))))
       ·
        have hb6:=(fI a.kind).symm.trans hc6
        refine Ah (Qp At (Ag (AW.ret (Ba (Aj (Aj (Ba (Aj ?_))))))))
        refine Qr (Iq _) ?_
        have he:D9 ((s.fields.take p).map (·.name)) a=1:=by
         unfold D9;rw [if_neg hb4,if_neg hb5,if_pos hb6]
        rw [show Ij s=D9 ((s.fields.take p).map (·.name)) a by unfold Ij;rw [if_neg (by simpa using hc1),if_neg (by simpa using hc2),hR.2,A8 ha,I6 (by rw [he];decide)],he];rfl
       ·
        have hb6:=Bool.eq_false_iff.mp ((fI a.kind).symm.trans hc6)
        have he0:D9 ((s.fields.take p).map (·.name)) a=0:=by unfold D9;rw [if_neg hb4,if_neg hb5,if_neg hb6]
        refine AW.skip (Bq (Ae (AW.region (Qp A0 (Qp Fv (Qp At (Ag ?_)))))))
        refine ⟨p+1,?_,?_,GS.weaken ⟨rfl,rfl,trivial⟩ (.refl _)⟩
        · exact ⟨hlt,by rw [hR.2,A8 ha,Uz he0,lA ha]⟩
        · omega
    ·
     have hd:=Dh hc3
     refine AW.exit ?_
     refine A6 (A6 (Bv (Ae (Ah (Qp At (Ag (AW.ret ?_)))))))
     refine Qr (Iq _) ?_
     rw [show Ij s=0 by unfold Ij;rw [if_neg (by simpa using hc1),if_neg (by simpa using hc2),hR.2,hd];rfl];rfl
theorem c57 (l:List Sc)(hl:l.length≤1048576)(hs:∀s∈l,Jk s):Av Tryz.prog 132 [.sl 2 (l.map Nz)] (.int .i64 (Ea l)):=by
 refine Av.body (n:=30) Ai Tryz.func132 rfl rfl rfl fun H=>?_
 refine Ah (Qp At (Ag (AW.seq (Ah (Qp C4 ?_)))))
 refine Qp (Ak (n:=l.length) Ai rfl rfl rfl (by simp)) ?_
 refine Qp Hg (Ag (A3 (fun hc1=>?_) fun hc1=>?_))
 ·
  refine Ah (Qp At (Ag (Dr ?_)))
  refine Qr (Iq _) ?_
  rw [show Ea l=5 by unfold Ea;rw [if_pos (by simpa using hc1)]];rfl
 ·
  refine Bx (Ah ?_)
  refine Qe (Q6) ?_
  rintro _ _ ⟨b10,rfl,rfl⟩
  refine Qp N8 (Ag (AW.seq (Ah (Qp C4 ?_))))
  refine Qp (Ak (n:=l.length) Ai rfl rfl rfl (by simp)) ?_
  refine Qp A0 (Ag (AW.block ?_))
  refine AW.Aae (fun (p:Nat×List (List UInt8))=>(⟨[(3,.val (.map (some b10))),(11,.sl 2 (l.map Nz)),(12,.int .i64 l.length),(13,.int .i64 (p.1:Int))],.smap b10 (Vo p.2)::H,30⟩:St)) (fun (p:Nat×List (List UInt8))=>p.1≤l.length∧J3 [] l=J3 p.2 (l.drop p.1)) (fun (p:Nat×List (List UInt8))=>l.length-p.1) ((0,[])) ?_ (GS.weaken ⟨rfl,rfl,rfl,rfl,trivial⟩ (.refl _)) ?_
  · exact ⟨Nat.zero_le _,rfl⟩
  ·
   rintro p hR
   refine Ah (Qp Cj (Ag (AW.seq (A3 (fun hc2=>?_) fun hc2=>?_))))
   ·
    obtain ⟨a,ha⟩:=B2 hc2
    have hlt:=A9 ha
    have hm:=List.mem_of_getElem? ha
    refine Bx (AW.seq (AW.block (Ah ?_)))
    refine Qp (Af (c:=[.str _,_]) Ai rfl rfl rfl rfl rfl rfl (by omega) (Bh ha)) ?_
    refine Qp (Ck [.str _,_]) ?_
    refine Qe (Al (l:=[.str [],.sl 2 []]) (by kernel_rfl)) ?_
    rintro _ _ ⟨b5,rfl,rfl⟩
    refine Cm 0 [.str _,_] (_::_::_) ?_
    refine AOL.ghost (GS.Aad (t:=5) 0 rfl rfl) ?_
    refine Ag (AW.seq (Ah (Qp (Ck [.str _,_]) ?_)))
    refine Qp (Qc rfl (c85 a (hs a hm))) ?_
    refine Qp At (Df (Qp A0 (Qp Cr (Ag (A3 (fun hc3=>?_) fun hc3=>?_)))))
    ·
     refine Ah (Qp A0 (Qp At (Ag (Dr (Ba (Aj (Aj (Ba (Aj ?_)))))))))
     refine ⟨.inr rfl,[Iq _],.cons (.tmp _ _ rfl) <| .nil,.cons _ (.refl _),?_⟩
     have he:Hx p.2 a=Ij a:=by unfold Hx;rw [if_pos hc3]
     rw [show Ea l=Hx p.2 a by unfold Ea;rw [if_neg (by simpa using hc1),hR.2,A8 ha,Mx (by rw [he];simpa using hc3)],he];rfl
    ·
     have hb3:=Bool.eq_false_iff.mp hc3
     refine Bx (AW.seq (Ah (Qp H0 (Qp (Qf [.str _,_]) (Qp Vr ?_)))))
     refine AOL.Aai (aE (i:=0) (ks:=p.2) Ai rfl rfl rfl rfl rfl (by kernel_rfl) rfl rfl rfl) rfl rfl ?_
     refine Ag (A3 (fun hc4=>?_) fun hc4=>?_)
     ·
      have hb4:p.2.contains a.name=true:=hc4
      refine Ah (Qp At (Ag (Dr (Ba (Aj (Aj (Ba (Aj ?_))))))))
      refine ⟨.inr rfl,[Iq _],.cons (.tmp _ _ rfl) <| .nil,.cons _ (.refl _),?_⟩
      have he:Hx p.2 a=7:=by unfold Hx;rw [if_neg hb3,if_pos hb4]
      rw [show Ea l=Hx p.2 a by unfold Ea;rw [if_neg (by simpa using hc1),hR.2,A8 ha,Mx (by rw [he];decide)],he];rfl
     ·
      have hb4:¬p.2.contains a.name=true:=by simpa using hc4
      have he0:Hx p.2 a=0:=by unfold Hx;rw [if_neg hb3,if_neg hb4]
      refine Bx (AW.region (Qp H0 (Qp (Qf [.str _,_]) (Qp Vr ?_))))
      refine Qe (fJ (i:=0) (H2:=_::_) Ai rfl rfl rfl rfl rfl rfl rfl rfl (by simpa using hb4) rfl) ?_
      rintro _ _ ⟨rfl,rfl⟩
      refine AOL.nil (Bq (Ae (AW.region (Qp Fv (Qp A0 (Ag ?_))))))
      refine ⟨(p.1+1,p.2 ++ [a.name]),?_,?_,GS.weaken ⟨rfl,rfl,rfl,rfl,trivial⟩ (.refl _)⟩
      · exact ⟨hlt,by rw [hR.2,A8 ha,Wo he0]⟩
      · first | omega | (simp only;omega)
   ·
    have hd:=Dh hc2
    refine AW.exit ?_
    refine A6 (A6 (Bv (Ae (Ah (Qp At (Ag (AW.ret ?_)))))))
    refine ⟨.inr rfl,[Iq _],.cons (.tmp _ _ rfl) <| .nil,.cons _ (.refl _),?_⟩
    rw [show Ea l=0 by unfold Ea;rw [if_neg (by simpa using hc1),hR.2,hd];rfl];rfl
theorem c59 (l:List Sc)(hl:l.length≤1048576)(hs:∀s∈l,Jk s):Av Tryz.prog 34 [.sl 2 (l.map Nz)] (.int .i64 (Ea l)):=by
 refine Av.body (n:=31) Ai Tryz.func34 rfl rfl rfl fun H=>?_
 refine Ah (Qp At (Ag (AW.seq (Ah (Qp C4 ?_)))))
 refine Qp (Ak (n:=l.length) Ai rfl rfl rfl (by simp)) ?_
 refine Qp Hg (Ag (A3 (fun hc1=>?_) fun hc1=>?_))
 ·
  refine Ah (Qp At (Ag (Dr ?_)))
  refine Qr (Iq _) ?_
  rw [show Ea l=5 by unfold Ea;rw [if_pos (by simpa using hc1)]];rfl
 ·
  refine Bx (AW.seq (Ah (Qp At (Ag (AW.block ?_)))))
  refine AW.Aae (fun (p:Nat)=>(⟨[(0,.sl 2 (l.map Nz)),(3,.int .i64 (p:Int))],H,31⟩:St)) (fun (p:Nat)=>p≤l.length∧J3 [] l=J3 ((l.take p).map (·.name)) (l.drop p)) (fun (p:Nat)=>l.length-p) (0) ?_ (GS.weaken ⟨rfl,rfl,trivial⟩ (.refl _)) ?_
  · exact ⟨Nat.zero_le _,rfl⟩
  ·
   rintro p hR
   refine AW.seq (Ah (Qp A0 (Qp C4 ?_)))
   refine Qp (Ak (n:=l.length) Ai rfl rfl rfl (by simp)) ?_
   refine Qp Cj (Ag (A3 (fun hc2=>?_) fun hc2=>?_))
   ·
    obtain ⟨a,ha⟩:=B2 hc2
    have hlt:=A9 ha
    have hm:=List.mem_of_getElem? ha
    have hna:(l.map (·.name))[p]? = some a.name:=by simp [ha]
    refine Bx (AW.seq (AW.block (AW.seq (Ah (Qp C4 (Qp A0 ?_))))))
    refine Qp (Af (c:=[.str _,_]) Ai rfl rfl rfl rfl rfl rfl (by omega) (Bh ha)) ?_
    refine Qp (Ck [.str _,_]) ?_
    refine Qp (Qc rfl (c87 a (hs a hm))) ?_
    refine Qp At (Df (Qp A0 (Qp Cr (Ag (A3 (fun hc3=>?_) fun hc3=>?_)))))
    ·
     refine Ah (Qp A0 (Qp At (Ag (Dr (Ba (Aj (Aj (Ba (Aj ?_)))))))))
     refine Qr (Iq _) ?_
     have he:Hx ((l.take p).map (·.name)) a=Ij a:=by unfold Hx;rw [if_pos hc3]
     rw [show Ea l=Hx ((l.take p).map (·.name)) a by unfold Ea;rw [if_neg (by simpa using hc1),hR.2,A8 ha,Mx (by rw [he];simpa using hc3)],he];rfl
    ·
     have hb3:=Bool.eq_false_iff.mp hc3
     refine Bx (Ah (Qp C4 (Qp C4 (Qp A0 ?_))))
     refine Qp (Af (c:=[.str _,_]) Ai rfl rfl rfl rfl rfl rfl (by omega) (Bh ha)) ?_
     refine Qp (Qf [.str _,_]) (Qp Vr ?_)
     refine Qp (Qc rfl (c88 l hl _)) ?_
     refine Qp A0 (Qp Cj (Ag (A3 (fun hc4=>?_) fun hc4=>?_)))
     ·
      rw [Or hna,←List.map_take] at hc4
      have hb4:((l.take p).map (·.name)).contains a.name=true:=hc4
      refine Ah (Qp At (Ag (AW.ret (Ba (Aj (Aj (Ba (Aj ?_))))))))
      refine Qr (Iq _) ?_
      have he:Hx ((l.take p).map (·.name)) a=7:=by unfold Hx;rw [if_neg hb3,if_pos hb4]
      rw [show Ea l=Hx ((l.take p).map (·.name)) a by unfold Ea;rw [if_neg (by simpa using hc1),hR.2,A8 ha,Mx (by rw [he];decide)],he];rfl
     ·
      rw [Or hna,←List.map_take] at hc4
      have hb4:¬((l.take p).map (·.name)).contains a.name=true:=Bool.eq_false_iff.mp hc4
      have he0:Hx ((l.take p).map (·.name)) a=0:=by unfold Hx;rw [if_neg hb3,if_neg hb4]
      refine AW.skip (Bq (Ae (AW.region (Qp A0 (Qp Fv (Qp At (Ag ?_)))))))
      refine ⟨p+1,?_,?_,GS.weaken ⟨rfl,rfl,trivial⟩ (.refl _)⟩
      · exact ⟨hlt,by rw [hR.2,A8 ha,Wo he0,iX ha]⟩
      · omega
   ·
    have hd:=Dh hc2
    refine AW.exit ?_
    refine A6 (A6 (Bv (Ae (Ah (Qp At (Ag (AW.ret ?_)))))))
    refine Qr (Iq _) ?_
    rw [show Ea l=0 by unfold Ea;rw [if_neg (by simpa using hc1),hR.2,hd];rfl];rfl

set_option maxHeartbeats 1600000
set_option maxRecDepth 20000

theorem fR {a b:Ex}(h:Oe a b=false):a.args.length=b.args.length:=by
 simp [Oe] at h;omega

def badS (l:List Ev):Bool:=decide (12<(l.length:Int))||l.any fun v=>decide (10<(v.values.length:Int))
def fewEnvS (vars:List (List Ev)):Bool:=!((vars.take 20).any badS)&&decide ((vars.length:Int)≤20)
def fewE (e:Ex):Bool:=decide (Ar e≤200∧Ez e≤100)
theorem c20 (a b:Ex)(hs:Ar a≤1048576):Av Tryz.prog 22 [.agg (cE a),.agg (cE b)] (.bool (Lw a b)):=by
 revert b hs
 induction a using Ex.Aak
 rename_i a ih
 intro b hs
 have hal:=Np a hs
 refine Av.body (n:=67) Ai Tryz.func22 rfl rfl rfl fun H=>?_
 refine Ah (Qp K8 (Qp K8 (Qp Be (Ag (AW.seq (Ah (Qp Ks (Qp Bs (Qp Ks ?_)))))))))
 refine Qp Bs (Qp Cr (Qp Bp (Qg [] Qw Xo (Qg [(12,_)] Qw Bs (Qg [] Qw Xo (Qg [(14,_)] Qw Bs ?_))))))
 refine AOL.Aaf (y:=.bool _) _ [(13,_),(15,_)] rfl (rX.all ⟨Ent.Aac _ _,Ent.Aac _ _,trivial⟩) (fun hG=>Ox rfl rfl) rfl ?_
 refine Qp E2 (Qp Bp (Qg [] Qw Q2 (Qg [(19,_)] Qw Bs (Qg [] Qw Q2 (Qg [(21,_)] Qw Bs ?_)))))
 refine AOL.Aaf (y:=.bool _) _ [(20,_),(22,_)] rfl (rX.all ⟨Ent.Aac _ _,Ent.Aac _ _,trivial⟩) (fun hG=>Ox rfl rfl) rfl ?_
 refine Qp E2 (Qp Bp (Qg [] Qw R1 (Qg [(26,_)] Qw Bs (Qg [] Qw R1 (Qg [(28,_)] Qw Bs ?_)))))
 refine AOL.Aaf (y:=.bool _) _ [(27,_),(29,_)] rfl (rX.all ⟨Ent.Aac _ _,Ent.Aac _ _,trivial⟩) (fun hG=>Ox rfl rfl) rfl ?_
 refine Qp E2 (Qp Bp (Qg [] Qw Jp (Qg [(33,_)] Qw (Ck [Iq _,Iq _,.str _]) (Qg [] Qw Jp (Qg [(35,_)] Qw (Ck [Iq _,Iq _,.str _]) ?_)))))
 refine AOL.Aaf (y:=.bool _) _ [(34,_),(36,_)] rfl (rX.all ⟨Ent.Aac _ _,Ent.Aac _ _,trivial⟩) (fun hG=>Hm Ai rfl rfl rfl rfl rfl) rfl ?_
 refine Qp E2 (Qp Bp (Qg [] Qw K5 (Qg [(40,_)] Qw Dk ?_)))
 refine AOL.Aaf (y:=Iq _) _ [(41,_)] rfl (rX.all ⟨Ent.Aac _ _,trivial⟩) (fun hG=>Ak (n:=a.args.length) Ai rfl rfl rfl (by simp)) rfl ?_
 refine Qg [] Qw K5 (Qg [(43,_)] Qw Dk ?_)
 refine AOL.Aaf (y:=Iq _) _ [(44,_)] rfl (rX.all ⟨Ent.Aac _ _,trivial⟩) (fun hG=>Ak (n:=b.args.length) Ai rfl rfl rfl (by simp)) rfl ?_
 refine AOL.Aaf (y:=.bool _) _ [(42,_),(45,_)] rfl (rX.all ⟨Ent.Aac _ _,Ent.Aac _ _,trivial⟩) (fun hG=>Ox rfl rfl) rfl ?_
 refine Qp E2 (Ag (A3 (fun hc1=>?_) fun hc1=>?_))
 ·
  have hh:Oe a b=true:=by simpa [Oe] using hc1
  refine Ah (Qp Be (Ag (Dr ?_)))
  refine Qr (.bool _) ?_
  rw [Sw,if_pos hh];rfl
 ·
  have hh:Oe a b=false:=by simpa [Oe] using hc1
  have hlen:=fR hh
  refine Bx (AW.seq (Ah (Qp At (Ag (AW.block ?_)))))
  refine AW.Aae (fun (p:Nat)=>(⟨[(2,.ptr (cE a)),(3,.ptr (cE b)),(5,.int .i64 (p:Int))],H,67⟩:St)) (fun (p:Nat)=>p≤a.args.length∧Sv a.args b.args=Sv (a.args.drop p) (b.args.drop p)) (fun (p:Nat)=>a.args.length-p) (0) ?_ (GS.weaken ⟨rfl,rfl,rfl,trivial⟩ (.refl _)) ?_
  · exact ⟨Nat.zero_le _,rfl⟩
  ·
   rintro p hR
   refine AW.seq (Ah (Qp A0 (Qp K5 (Qp Dk ?_))))
   refine Qp (Ak (n:=a.args.length) Ai rfl rfl rfl (by simp)) ?_
   refine Qp Cj (Ag (A3 (fun hc2=>?_) fun hc2=>?_))
   ·
    obtain ⟨x,hx⟩:=B2 hc2
    have hlt:=A9 hx
    have hm:=List.mem_of_getElem? hx
    obtain ⟨y,hy⟩:∃y,b.args[p]? = some y:=⟨_,List.getElem?_eq_getElem (by omega)⟩
    refine Bx (AW.seq (AW.block (AW.seq ?_)))
    refine AW.draw mixed (fun _=>True) trivial (by kernel_rfl) ?_
    refine Qn 0 rfl K5 (Qn 1 rfl Dk (Qn 2 rfl A0 ?_))
    refine Qn 3 rfl (Af (c:=[Iq _,_,Iq _,Iq _,Iq _,Iq _,Iq _,.str _]) Ai rfl rfl rfl rfl rfl rfl (by omega) (E9 hx)) ?_
    refine Qn 4 rfl D0 (Qn 5 rfl K5 (Qn 6 rfl Dk (Qn 7 rfl A0 ?_)))
    refine Qn 8 rfl (Af (c:=[Iq _,_,Iq _,Iq _,Iq _,Iq _,Iq _,.str _]) Ai rfl rfl rfl rfl rfl rfl (by omega) (E9 hy)) ?_
    refine Qn 9 rfl D0 ?_
    refine Qn 10 rfl (Qc rfl (ih x hm y (by have:=Gv hm;omega))) ?_
    refine Qn 11 rfl Ge ?_
    refine Jv.done _ _ (by kernel_rfl) ?_
    refine Ae (A3 (fun hc3=>?_) fun hc3=>?_)
    ·
     refine Ah (Qp Be (Ag (AW.ret (Ba (Aj (Aj (Ba (Aj ?_))))))))
     refine Qr (.bool _) ?_
     rw [Sw,if_neg (by simp [hh]),hR.2,A8 hx,A8 hy];show _=AV.bool (if (!Lw x y)=true then false else _);rw [if_pos hc3];rfl
    ·
     refine AW.skip (Bq (Ae (AW.region (Qp A0 (Qp Fv (Qp At (Ag ?_)))))))
     refine ⟨p+1,?_,?_,GS.weaken ⟨rfl,rfl,rfl,trivial⟩ (.refl _)⟩
     · exact ⟨hlt,by rw [hR.2,A8 hx,A8 hy,Sv];simp [hc3]⟩
     · omega
   ·
    have hd:=Dh hc2
    refine AW.exit ?_
    refine A6 (A6 (Bv (Ae (Ah (Qp Be (Ag (AW.ret ?_)))))))
    refine Qr (.bool _) ?_
    rw [Sw,if_neg (by simp [hh]),hR.2,hd];rfl
end Go.Proofs.YtkddpedfbicbeaaGreatDoor
