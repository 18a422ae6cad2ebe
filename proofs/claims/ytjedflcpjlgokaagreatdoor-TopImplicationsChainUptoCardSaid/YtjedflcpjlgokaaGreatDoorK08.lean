/-
  Several texts in one: W24, W13. No condition.
-/
import Derived.Test.YtjedflcpjlgokaaGreatDoorAz
import Derived.Test.YtjedflcpjlgokaaGreatDoorW23
import Derived.KernelRfl
import Derived.Test.YtjedflcpjlgokaaGreatDoorK02
import Derived.Test.YtjedflcpjlgokaaGreatDoorW4
set_option linter.unusedVariables false
set_option linter.unusedSimpArgs false
namespace Go.Proofs.YtjedflcpjlgokaaGreatDoor
open Go Go.Aw
set_option maxHeartbeats 800000
set_option maxRecDepth 20000

theorem X0 {ns:List (List UInt8)}{k:Nat}{n:List UInt8}(h:ns[k]? = some n)(hn:(ns.take k).contains n=false):Nv ns n=(k:Int):=by
 have h1:=Oa h
 rw [hn] at h1
 have hm:n∈ns:=List.mem_of_getElem? h
 have hc:ns.contains n=true:=by simpa using hm
 have h3:ns.idxOf n≤k:=by
  refine Nat.le_of_not_lt fun hlt=>?_
  have hk:k<ns.length:=Bb h
  have h4:=List.not_of_lt_findIdx (p:=fun x=>x==n) (xs:=ns) (i:=k) hlt
  have h5:ns[k]=n:=by rw [List.getElem?_eq_getElem hk] at h;exact Option.some.inj h
  simp only [h5] at h4
  simp at h4
 unfold Nv at h1 ⊢
 rw [if_pos hc] at h1 ⊢
 simp at h1
 omega
theorem Vh {ns:List (List UInt8)}{n:List UInt8}(h:ns.contains n=false):Nv ns n = -1:=by unfold Nv;rw [if_neg (by simp only [h];decide)]
theorem Pt {ns:List (List UInt8)}{k:Nat}{m n:List UInt8}(h:ns[k]? = some m)(hn:(ns.take k).contains n=false)(hne:(m==n)=false):(ns.take (k+1)).contains n=false:=by
 rw [C9 h]
 have h1:m≠n:=by simpa using hne
 simp at hn ⊢
 exact ⟨hn,fun e=>h1 e.symm⟩
def J4 (s:Sc):Prop:=s.name.length≤1048576∧s.fields.length≤1048576∧∀f∈s.fields,f.name.length≤1048576
theorem Tr {seen:List (List UInt8)}{a:Fi}{r:List Fi}(h:D0 seen a=0):Hw seen (a::r)=Hw (seen ++ [a.name]) r:=by rw [Hw,if_neg (by rw [h];decide)]
theorem Io {seen:List (List UInt8)}{a:Fi}{r:List Fi}(h:D0 seen a≠0):Hw seen (a::r)=D0 seen a:=by rw [Hw,if_pos (by simpa using h)]
theorem W7 {seen:List (List UInt8)}{a:Sc}{r:List Sc}(h:G9 seen a=0):Jh seen (a::r)=Jh (seen ++ [a.name]) r:=by rw [Jh,if_neg (by rw [h];decide)]
theorem Mg {seen:List (List UInt8)}{a:Sc}{r:List Sc}(h:G9 seen a≠0):Jh seen (a::r)=G9 seen a:=by rw [Jh,if_pos (by simpa using h)]
theorem fI (k:Int):(k != 0&&k != 1&&k != 2)=(decide (k<0)||decide (3≤k)):=by
 rw [Bool.eq_iff_iff];simp;omega
theorem fH (s:List UInt8):(!Ld s||s==sN) = !Ob s:=by
 unfold Ob;cases Ld s <;> cases (s==sN) <;> rfl

theorem c105 (s:Sc)(hl:s.fields.length≤1048576)(n:List UInt8):Ax Tryz.prog 137 [.agg (O2 s),.str n] (.int .i64 (Nv (s.fields.map (·.name)) n)):=by
 refine Ax.body (n:=22) Ai Tryz.func137 rfl rfl rfl fun H=>?_
 refine Ah (Qp (Gd [.str _,_]) (Qp Ar (Ag (AW.seq (Ah (Qp Ar (Ag (AW.block ?_))))))))
 refine AW.Aad (fun (p:Nat)=>(⟨[(1,.str n),(2,.ptr (O2 s)),(5,.int .i64 (p:Int))],H,22⟩:St)) (fun (p:Nat)=>p≤s.fields.length∧((s.fields.map (·.name)).take p).contains n=false) (fun (p:Nat)=>s.fields.length-p) (0) ?_ (GS.weaken ⟨rfl,rfl,rfl,trivial⟩ (.refl _)) ?_
 · exact ⟨Nat.zero_le _,by simp⟩
 ·
  rintro p hR
  refine AW.seq (Ah (Qp A0 (Qp (Qf [_]) (Qp Ee ?_))))
  refine Qp (Al (n:=s.fields.length) Ai rfl rfl rfl (by simp)) ?_
  refine Qp Ck (Ag (A3 (fun hc1=>?_) fun hc1=>?_))
  ·
   obtain ⟨a,ha⟩:=B7 hc1
   have hlt:=Bb ha
   have hm:=List.mem_of_getElem? ha
   have hna:(s.fields.map (·.name))[p]? = some a.name:=by simp [ha]
   refine By (AW.seq (AW.block (Ah (Qp (Qf [_]) (Qp Ee (Qp A0 ?_))))))
   refine Qp (Af (c:=[.str _,Iq _]) Ai rfl rfl rfl rfl rfl rfl (by omega) (Bo ha)) ?_
   refine Qp (Qf [.str _,Iq _]) (Qp Vb (Qp cJ ?_))
   refine Qp (Ot rfl rfl) ?_
   refine Ag (A3 (fun hc2=>?_) fun hc2=>?_)
   ·
    refine Ah (Qp A0 (Qp Ar (Ag (AW.ret (A7 (Aj (Aj (A7 (Aj ?_)))))))))
    refine Qr (Iq _) ?_
    have e:a.name=n:=by simpa using hc2
    rw [e] at hna
    rw [X0 hna hR.2];rfl
   ·
    refine AW.skip (Bv (Ae (AW.region (Qp A0 (Qp F7 (Qp Ar (Ag ?_)))))))
    refine ⟨p+1,?_,?_,GS.weaken ⟨rfl,rfl,rfl,trivial⟩ (.refl _)⟩
    · exact ⟨hlt,Pt hna hR.2 hc2⟩
    · omega
  ·
   have hte:=C5 hc1
   refine AW.exit ?_
   refine A5 (A5 (Bx (Ae (Ah (Qp Ar (Ag (AW.ret ?_)))))))
   refine Qr (Iq _) ?_
   have h2:=hR.2
   rw [←List.map_take,hte] at h2
   rw [Vh h2];rfl
theorem c88 (l:List Sc)(hl:l.length≤1048576)(n:List UInt8):Ax Tryz.prog 106 [.sl 2 (l.map O2),.str n] (.int .i64 (Nv (l.map (·.name)) n)):=by
 refine Ax.body (n:=20) Ai Tryz.func106 rfl rfl rfl fun H=>?_
 refine Ah (Qp Ar (Ag (AW.seq (Ah (Qp Ar (Ag (AW.block ?_)))))))
 refine AW.Aad (fun (p:Nat)=>(⟨[(0,.sl 2 (l.map O2)),(1,.str n),(5,.int .i64 (p:Int))],H,20⟩:St)) (fun (p:Nat)=>p≤l.length∧((l.map (·.name)).take p).contains n=false) (fun (p:Nat)=>l.length-p) (0) ?_ (GS.weaken ⟨rfl,rfl,rfl,trivial⟩ (.refl _)) ?_
 · exact ⟨Nat.zero_le _,by simp⟩
 ·
  rintro p hR
  refine AW.seq (Ah (Qp A0 (Qp Dt ?_)))
  refine Qp (Al (n:=l.length) Ai rfl rfl rfl (by simp)) ?_
  refine Qp Ck (Ag (A3 (fun hc1=>?_) fun hc1=>?_))
  ·
   obtain ⟨a,ha⟩:=B7 hc1
   have hlt:=Bb ha
   have hm:=List.mem_of_getElem? ha
   have hna:(l.map (·.name))[p]? = some a.name:=by simp [ha]
   refine By (AW.seq (AW.block (Ah (Qp Dt (Qp A0 ?_)))))
   refine Qp (Af (c:=[.str _,_]) Ai rfl rfl rfl rfl rfl rfl (by omega) (Bo ha)) ?_
   refine Qp (Qf [.str _,_]) (Qp Vb (Qp cJ ?_))
   refine Qp (Ot rfl rfl) ?_
   refine Ag (A3 (fun hc2=>?_) fun hc2=>?_)
   ·
    refine Ah (Qp A0 (Qp Ar (Ag (AW.ret (A7 (Aj (Aj (A7 (Aj ?_)))))))))
    refine Qr (Iq _) ?_
    have e:a.name=n:=by simpa using hc2
    rw [e] at hna
    rw [X0 hna hR.2];rfl
   ·
    refine AW.skip (Bv (Ae (AW.region (Qp A0 (Qp F7 (Qp Ar (Ag ?_)))))))
    refine ⟨p+1,?_,?_,GS.weaken ⟨rfl,rfl,rfl,trivial⟩ (.refl _)⟩
    · exact ⟨hlt,Pt hna hR.2 hc2⟩
    · omega
  ·
   have hte:=C5 hc1
   refine AW.exit ?_
   refine A5 (A5 (Bx (Ae (Ah (Qp Ar (Ag (AW.ret ?_)))))))
   refine Qr (Iq _) ?_
   have h2:=hR.2
   rw [←List.map_take,hte] at h2
   rw [Vh h2];rfl
theorem c85 (s:Sc)(hs:J4 s):Ax Tryz.prog 97 [.agg (O2 s)] (.int .i64 (H1 s)):=by
 refine Ax.body (n:=45) Ai Tryz.func97 rfl rfl rfl fun H=>?_
 refine Ah (Qp (Gd [.str _,_]) (Qp Ar (Ag (AW.seq (Ah (Qp (Qf [.str _,_]) (Qp Vb ?_)))))))
 refine Qp (Qc rfl (c102 _ hs.1)) ?_
 refine Qp Hp (Ag (A3 (fun hc1=>?_) fun hc1=>?_))
 ·
  refine Ah (Qp Ar (Ag (Du ?_)))
  refine Qr (Iq _) ?_
  rw [show H1 s=8 by unfold H1;rw [if_pos (by simpa using hc1)]];rfl
 ·
  refine By (AW.seq (Ah (Qp (Qf [_]) (Qp Ee ?_))))
  refine Qp (Al (n:=s.fields.length) Ai rfl rfl rfl (by simp)) ?_
  refine Qp G6 (Ag (A3 (fun hc2=>?_) fun hc2=>?_))
  ·
   refine Ah (Qp Ar (Ag (Du ?_)))
   refine Qr (Iq _) ?_
   rw [show H1 s=5 by unfold H1;rw [if_neg (by simpa using hc1),if_pos (by simpa using hc2)]];rfl
  ·
   refine By (Ah ?_)
   refine Qe (Pz) ?_
   rintro _ _ ⟨b14,rfl,rfl⟩
   refine Qp N2 (Ag (AW.seq (Ah (Qp (Qf [_]) (Qp Ee ?_)))))
   refine Qp (Al (n:=s.fields.length) Ai rfl rfl rfl (by simp)) ?_
   refine Qp A0 (Ag (AW.block ?_))
   have hfl:=hs.2.1
   refine AW.Aad (fun (p:Nat×List (List UInt8))=>(⟨[(3,.val (.map (some b14))),(16,.sl 2 (s.fields.map cFi)),(17,.int .i64 s.fields.length),(18,.int .i64 (p.1:Int))],.smap b14 (Ue p.2)::H,45⟩:St)) (fun (p:Nat×List (List UInt8))=>p.1≤s.fields.length∧Hw [] s.fields=Hw p.2 (s.fields.drop p.1)) (fun (p:Nat×List (List UInt8))=>s.fields.length-p.1) ((0,[])) ?_ (GS.weaken ⟨rfl,rfl,rfl,rfl,trivial⟩ (.refl _)) ?_
   · exact ⟨Nat.zero_le _,rfl⟩
   ·
    rintro p hR
    refine Ah (Qp Ck (Ag (AW.seq (A3 (fun hc3=>?_) fun hc3=>?_))))
    ·
     obtain ⟨a,ha⟩:=B7 hc3
     have hlt:=Bb ha
     have hm:=List.mem_of_getElem? ha
     refine By (AW.seq (AW.block (Ah ?_)))
     refine Qp (Af (c:=[.str _,Iq _]) Ai rfl rfl rfl rfl rfl rfl (by omega) (Bo ha)) ?_
     refine Qp (Cv [.str _,Iq _]) ?_
     refine Qe (Am (l:=[.str [],.int .i64 0]) (by kernel_rfl)) ?_
     rintro _ _ ⟨b5,rfl,rfl⟩
     refine Cz 0 [.str _,Iq _] (_::_::_) ?_
     refine AOL.ghost (GS.Aac (t:=5) 0 rfl rfl) ?_
     refine Ag (AW.seq (AW.block (Ah (Qp (Qf [.str _,Iq _]) (Qp Vb ?_)))))
     refine Qp (Qc rfl (c103 _ (hs.2.2 a hm))) ?_
     refine Qp Hp (Qp Bm (Ag (A3 (fun hc4=>?_) fun hc4=>?_)))
     ·
      have hb4:(!Ob a.name)=true:=hc4
      refine Ah (Qp Ar (Ag (AW.ret (A7 (Aj (A7 (Aj (Aj (A7 ?_)))))))))
      refine Aj ?_
      refine ⟨.inr rfl,[Iq _],.cons (.tmp _ _ rfl) <| .nil,.cons _ (.refl _),?_⟩
      have he:D0 p.2 a=8:=by
       unfold D0;rw [if_pos hb4]
      rw [show H1 s=D0 p.2 a by unfold H1;rw [if_neg (by simpa using hc1),if_neg (by simpa using hc2),hR.2,A4 ha,Io (by rw [he];decide)],he];rfl
     ·
      have hb4:¬(!Ob a.name)=true:=by simpa using hc4
      refine Ah (Qp Ho (Qp (Qf [.str _,Iq _]) (Qp Vb ?_)))
      refine AOL.Aah (Ye (i:=0) (ks:=p.2) Ai rfl rfl rfl rfl rfl (by kernel_rfl) rfl rfl rfl) rfl rfl ?_
      refine Qp Bm (Ag (A3 (fun hc5=>?_) fun hc5=>?_))
      ·
       have hb5:p.2.contains a.name=true:=hc5
       refine Ah (Qp Ar (Ag (AW.ret (A7 (Aj (A7 (Aj (Aj (A7 ?_)))))))))
       refine Aj ?_
       refine ⟨.inr rfl,[Iq _],.cons (.tmp _ _ rfl) <| .nil,.cons _ (.refl _),?_⟩
       have he:D0 p.2 a=7:=by
        unfold D0;rw [if_neg hb4,if_pos hb5]
       rw [show H1 s=D0 p.2 a by unfold H1;rw [if_neg (by simpa using hc1),if_neg (by simpa using hc2),hR.2,A4 ha,Io (by rw [he];decide)],he];rfl
      ·
       have hb5:¬p.2.contains a.name=true:=by simpa using hc5
       refine Ah (Qp (Qf [Iq _]) (Qp Bp (Qp Ck (Qp Bu (Qg [] Qw (Qf [Iq _]) (Qg [(37,_)] Qw Bp (Qg [(38,_)] Qw Nj (Qp E2 (Qp Bm ?_)))))))))
       refine Ag (A3 (fun hc6=>?_) fun hc6=>?_)
       ·
        have hb6:=hc6
        refine Ah (Qp Ar (Ag (AW.ret (A7 (Aj (A7 (Aj (Aj (A7 ?_)))))))))
        refine Aj ?_
        refine ⟨.inr rfl,[Iq _],.cons (.tmp _ _ rfl) <| .nil,.cons _ (.refl _),?_⟩
        have he:D0 p.2 a=1:=by
         unfold D0;rw [if_neg hb4,if_neg hb5,if_pos hb6]
        rw [show H1 s=D0 p.2 a by unfold H1;rw [if_neg (by simpa using hc1),if_neg (by simpa using hc2),hR.2,A4 ha,Io (by rw [he];decide)],he];rfl
       ·
        have hb6:=Bool.eq_false_iff.mp hc6
        have he0:D0 p.2 a=0:=by unfold D0;rw [if_neg hb4,if_neg hb5,if_neg hb6]
        refine AW.skip (Bv (Ae (AW.region (Qp Ho (Qp (Qf [.str _,Iq _]) (Qp Vb ?_))))))
        refine Qe (dR (i:=0) (H2:=_::_) Ai rfl rfl rfl rfl rfl rfl rfl rfl (by simpa using hb5) rfl) ?_
        rintro _ _ ⟨rfl,rfl⟩
        refine AOL.nil (Bv (Ae (AW.region (Qp F7 (Qp A0 (Ag ?_))))))
        refine ⟨(p.1+1,p.2 ++ [a.name]),?_,?_,GS.weaken ⟨rfl,rfl,rfl,rfl,trivial⟩ (.refl _)⟩
        · exact ⟨hlt,by rw [hR.2,A4 ha,Tr he0]⟩
        · first | omega | (simp only;omega)
    ·
     have hd:=C8 hc3
     refine AW.exit ?_
     refine A5 (A5 (Bx (Ae (Ah (Qp Ar (Ag (AW.ret ?_)))))))
     refine ⟨.inr rfl,[Iq _],.cons (.tmp _ _ rfl) <| .nil,.cons _ (.refl _),?_⟩
     rw [show H1 s=0 by unfold H1;rw [if_neg (by simpa using hc1),if_neg (by simpa using hc2),hR.2,hd];rfl];rfl
theorem c87 (s:Sc)(hs:J4 s):Ax Tryz.prog 105 [.agg (O2 s)] (.int .i64 (H1 s)):=by
 refine Ax.body (n:=53) Ai Tryz.func105 rfl rfl rfl fun H=>?_
 refine Ah (Qp (Gd [.str _,_]) (Qp Ar (Ag (AW.seq (Ah (Qp (Qf [.str _,_]) (Qp Vb ?_)))))))
 refine Qp (Qc rfl (c104 _ hs.1)) ?_
 refine Qp Hp (Ag (A3 (fun hc1=>?_) fun hc1=>?_))
 ·
  refine Ah (Qp Ar (Ag (Du ?_)))
  refine Qr (Iq _) ?_
  rw [show H1 s=8 by unfold H1;rw [if_pos (by simpa using hc1)]];rfl
 ·
  refine By (AW.seq (Ah (Qp (Qf [_]) (Qp Ee ?_))))
  refine Qp (Al (n:=s.fields.length) Ai rfl rfl rfl (by simp)) ?_
  refine Qp G6 (Ag (A3 (fun hc2=>?_) fun hc2=>?_))
  ·
   refine Ah (Qp Ar (Ag (Du ?_)))
   refine Qr (Iq _) ?_
   rw [show H1 s=5 by unfold H1;rw [if_neg (by simpa using hc1),if_pos (by simpa using hc2)]];rfl
  ·
   refine By (AW.seq (Ah (Qp Ar (Ag (AW.block ?_)))))
   have hfl:=hs.2.1
   refine AW.Aad (fun (p:Nat)=>(⟨[(1,.ptr (O2 s)),(3,.int .i64 (p:Int))],H,53⟩:St)) (fun (p:Nat)=>p≤s.fields.length∧Hw [] s.fields=Hw ((s.fields.take p).map (·.name)) (s.fields.drop p)) (fun (p:Nat)=>s.fields.length-p) (0) ?_ (GS.weaken ⟨rfl,rfl,trivial⟩ (.refl _)) ?_
   · exact ⟨Nat.zero_le _,rfl⟩
   ·
    rintro p hR
    refine AW.seq (Ah (Qp A0 (Qp (Qf [_]) (Qp Ee ?_))))
    refine Qp (Al (n:=s.fields.length) Ai rfl rfl rfl (by simp)) ?_
    refine Qp Ck (Ag (A3 (fun hc3=>?_) fun hc3=>?_))
    ·
     obtain ⟨a,ha⟩:=B7 hc3
     have hlt:=Bb ha
     have hm:=List.mem_of_getElem? ha
     have hna:(s.fields.map (·.name))[p]? = some a.name:=by simp [ha]
     refine By (AW.seq (AW.block (Ah (Qp (Qf [_]) (Qp Ee (Qp A0 ?_))))))
     refine Qp (Af (c:=[.str _,Iq _]) Ai rfl rfl rfl rfl rfl rfl (by omega) (Bo ha)) ?_
     refine Qp (Cv [.str _,Iq _]) ?_
     refine Qe (Am (l:=[.str [],.int .i64 0]) (by kernel_rfl)) ?_
     rintro _ _ ⟨b4,rfl,rfl⟩
     refine Cz 0 [.str _,Iq _] (_::_) ?_
     refine AOL.ghost (GS.Aac (t:=4) 0 rfl rfl) ?_
     refine Ag (AW.seq (Ah (Qp (Qf [.str _,Iq _]) (Qp Vb ?_))))
     refine Qp (Qc rfl (c104 _ (hs.2.2 a hm))) ?_
     refine Qp Hp (Qp Bu (Qg [] Qw (Qf [.str _,Iq _]) (Qg [(30,_)] Qw Vb ?_)))
     refine AOL.Aaf (y:=.bool _) _ [(31,_)] rfl (oE.all ⟨Ent.Aab _ _,trivial⟩) (fun hG=>Ot rfl rfl) rfl ?_
     refine Qp E2 (Ag (A3 (fun hc4=>?_) fun hc4=>?_))
     ·
      have hb4:(!Ob a.name)=true:=by rw [←fH];exact hc4
      refine Ah (Qp Ar (Ag (Du (A7 (Aj (Aj (A7 (Aj ?_))))))))
      refine Qr (Iq _) ?_
      have he:D0 ((s.fields.take p).map (·.name)) a=8:=by
       unfold D0;rw [if_pos hb4]
      rw [show H1 s=D0 ((s.fields.take p).map (·.name)) a by unfold H1;rw [if_neg (by simpa using hc1),if_neg (by simpa using hc2),hR.2,A4 ha,Io (by rw [he];decide)],he];rfl
     ·
      have hb4:¬(!Ob a.name)=true:=by rw [←fH];exact Bool.eq_false_iff.mp hc4
      refine By (AW.seq (Ah (Qp (Cv [.str _,_]) (Qp (Qf [.str _,Iq _]) (Qp Vb ?_)))))
      refine Qp (Qc rfl (c105 s hs.2.1 _)) ?_
      refine Qp A0 (Qp Ck (Ag (A3 (fun hc5=>?_) fun hc5=>?_)))
      ·
       rw [Oa hna,←List.map_take] at hc5
       have hb5:((s.fields.take p).map (·.name)).contains a.name=true:=hc5
       refine Ah (Qp Ar (Ag (Du (A7 (Aj (Aj (A7 (Aj ?_))))))))
       refine Qr (Iq _) ?_
       have he:D0 ((s.fields.take p).map (·.name)) a=7:=by
        unfold D0;rw [if_neg hb4,if_pos hb5]
       rw [show H1 s=D0 ((s.fields.take p).map (·.name)) a by unfold H1;rw [if_neg (by simpa using hc1),if_neg (by simpa using hc2),hR.2,A4 ha,Io (by rw [he];decide)],he];rfl
      ·
       rw [Oa hna,←List.map_take] at hc5
       have hb5:¬((s.fields.take p).map (·.name)).contains a.name=true:=Bool.eq_false_iff.mp hc5
       refine By (Ah (Qp (Qf [Iq _]) (Qp Bp (Qp Cr (Qp Bu (Qg [] Qw (Qf [Iq _]) (Qg [(44,_)] Qw Bp (Qg [(45,_)] Qw Cr (Qp Gg ?_)))))))))
       refine Qp Bu (Qg [] Qw (Qf [Iq _]) (Qg [(49,_)] Qw Bp (Qg [(50,_)] Qw Cr (Qp Gg (Ag (A3 (fun hc6=>?_) fun hc6=>?_))))))
       ·
        have hb6:=(fI a.kind).symm.trans hc6
        refine Ah (Qp Ar (Ag (AW.ret (A7 (Aj (Aj (A7 (Aj ?_))))))))
        refine Qr (Iq _) ?_
        have he:D0 ((s.fields.take p).map (·.name)) a=1:=by
         unfold D0;rw [if_neg hb4,if_neg hb5,if_pos hb6]
        rw [show H1 s=D0 ((s.fields.take p).map (·.name)) a by unfold H1;rw [if_neg (by simpa using hc1),if_neg (by simpa using hc2),hR.2,A4 ha,Io (by rw [he];decide)],he];rfl
       ·
        have hb6:=Bool.eq_false_iff.mp ((fI a.kind).symm.trans hc6)
        have he0:D0 ((s.fields.take p).map (·.name)) a=0:=by unfold D0;rw [if_neg hb4,if_neg hb5,if_neg hb6]
        refine AW.skip (Bv (Ae (AW.region (Qp A0 (Qp F7 (Qp Ar (Ag ?_)))))))
        refine ⟨p+1,?_,?_,GS.weaken ⟨rfl,rfl,trivial⟩ (.refl _)⟩
        · exact ⟨hlt,by rw [hR.2,A4 ha,Tr he0,iX ha]⟩
        · omega
    ·
     have hd:=C8 hc3
     refine AW.exit ?_
     refine A5 (A5 (Bx (Ae (Ah (Qp Ar (Ag (AW.ret ?_)))))))
     refine Qr (Iq _) ?_
     rw [show H1 s=0 by unfold H1;rw [if_neg (by simpa using hc1),if_neg (by simpa using hc2),hR.2,hd];rfl];rfl
theorem c57 (l:List Sc)(hl:l.length≤1048576)(hs:∀s∈l,J4 s):Ax Tryz.prog 68 [.sl 2 (l.map O2)] (.int .i64 (D8 l)):=by
 refine Ax.body (n:=30) Ai Tryz.func68 rfl rfl rfl fun H=>?_
 refine Ah (Qp Ar (Ag (AW.seq (Ah (Qp Dt ?_)))))
 refine Qp (Al (n:=l.length) Ai rfl rfl rfl (by simp)) ?_
 refine Qp G6 (Ag (A3 (fun hc1=>?_) fun hc1=>?_))
 ·
  refine Ah (Qp Ar (Ag (Du ?_)))
  refine Qr (Iq _) ?_
  rw [show D8 l=5 by unfold D8;rw [if_pos (by simpa using hc1)]];rfl
 ·
  refine By (Ah ?_)
  refine Qe (Pz) ?_
  rintro _ _ ⟨b10,rfl,rfl⟩
  refine Qp N2 (Ag (AW.seq (Ah (Qp Dt ?_))))
  refine Qp (Al (n:=l.length) Ai rfl rfl rfl (by simp)) ?_
  refine Qp A0 (Ag (AW.block ?_))
  refine AW.Aad (fun (p:Nat×List (List UInt8))=>(⟨[(3,.val (.map (some b10))),(11,.sl 2 (l.map O2)),(12,.int .i64 l.length),(13,.int .i64 (p.1:Int))],.smap b10 (Ue p.2)::H,30⟩:St)) (fun (p:Nat×List (List UInt8))=>p.1≤l.length∧Jh [] l=Jh p.2 (l.drop p.1)) (fun (p:Nat×List (List UInt8))=>l.length-p.1) ((0,[])) ?_ (GS.weaken ⟨rfl,rfl,rfl,rfl,trivial⟩ (.refl _)) ?_
  · exact ⟨Nat.zero_le _,rfl⟩
  ·
   rintro p hR
   refine Ah (Qp Ck (Ag (AW.seq (A3 (fun hc2=>?_) fun hc2=>?_))))
   ·
    obtain ⟨a,ha⟩:=B7 hc2
    have hlt:=Bb ha
    have hm:=List.mem_of_getElem? ha
    refine By (AW.seq (AW.block (Ah ?_)))
    refine Qp (Af (c:=[.str _,_]) Ai rfl rfl rfl rfl rfl rfl (by omega) (Bo ha)) ?_
    refine Qp (Cv [.str _,_]) ?_
    refine Qe (Am (l:=[.str [],.sl 2 []]) (by kernel_rfl)) ?_
    rintro _ _ ⟨b5,rfl,rfl⟩
    refine Cz 0 [.str _,_] (_::_::_) ?_
    refine AOL.ghost (GS.Aac (t:=5) 0 rfl rfl) ?_
    refine Ag (AW.seq (Ah (Qp (Cv [.str _,_]) ?_)))
    refine Qp (Qc rfl (c85 a (hs a hm))) ?_
    refine Qp Ar (Do (Qp A0 (Qp Cr (Ag (A3 (fun hc3=>?_) fun hc3=>?_)))))
    ·
     refine Ah (Qp A0 (Qp Ar (Ag (Du (A7 (Aj (Aj (A7 (Aj ?_)))))))))
     refine ⟨.inr rfl,[Iq _],.cons (.tmp _ _ rfl) <| .nil,.cons _ (.refl _),?_⟩
     have he:G9 p.2 a=H1 a:=by unfold G9;rw [if_pos hc3]
     rw [show D8 l=G9 p.2 a by unfold D8;rw [if_neg (by simpa using hc1),hR.2,A4 ha,Mg (by rw [he];simpa using hc3)],he];rfl
    ·
     have hb3:=Bool.eq_false_iff.mp hc3
     refine By (AW.seq (Ah (Qp Ho (Qp (Qf [.str _,_]) (Qp Vb ?_)))))
     refine AOL.Aah (Ye (i:=0) (ks:=p.2) Ai rfl rfl rfl rfl rfl (by kernel_rfl) rfl rfl rfl) rfl rfl ?_
     refine Ag (A3 (fun hc4=>?_) fun hc4=>?_)
     ·
      have hb4:p.2.contains a.name=true:=hc4
      refine Ah (Qp Ar (Ag (Du (A7 (Aj (Aj (A7 (Aj ?_))))))))
      refine ⟨.inr rfl,[Iq _],.cons (.tmp _ _ rfl) <| .nil,.cons _ (.refl _),?_⟩
      have he:G9 p.2 a=7:=by unfold G9;rw [if_neg hb3,if_pos hb4]
      rw [show D8 l=G9 p.2 a by unfold D8;rw [if_neg (by simpa using hc1),hR.2,A4 ha,Mg (by rw [he];decide)],he];rfl
     ·
      have hb4:¬p.2.contains a.name=true:=by simpa using hc4
      have he0:G9 p.2 a=0:=by unfold G9;rw [if_neg hb3,if_neg hb4]
      refine By (AW.region (Qp Ho (Qp (Qf [.str _,_]) (Qp Vb ?_))))
      refine Qe (dR (i:=0) (H2:=_::_) Ai rfl rfl rfl rfl rfl rfl rfl rfl (by simpa using hb4) rfl) ?_
      rintro _ _ ⟨rfl,rfl⟩
      refine AOL.nil (Bv (Ae (AW.region (Qp F7 (Qp A0 (Ag ?_))))))
      refine ⟨(p.1+1,p.2 ++ [a.name]),?_,?_,GS.weaken ⟨rfl,rfl,rfl,rfl,trivial⟩ (.refl _)⟩
      · exact ⟨hlt,by rw [hR.2,A4 ha,W7 he0]⟩
      · first | omega | (simp only;omega)
   ·
    have hd:=C8 hc2
    refine AW.exit ?_
    refine A5 (A5 (Bx (Ae (Ah (Qp Ar (Ag (AW.ret ?_)))))))
    refine ⟨.inr rfl,[Iq _],.cons (.tmp _ _ rfl) <| .nil,.cons _ (.refl _),?_⟩
    rw [show D8 l=0 by unfold D8;rw [if_neg (by simpa using hc1),hR.2,hd];rfl];rfl
theorem c59 (l:List Sc)(hl:l.length≤1048576)(hs:∀s∈l,J4 s):Ax Tryz.prog 81 [.sl 2 (l.map O2)] (.int .i64 (D8 l)):=by
 refine Ax.body (n:=31) Ai Tryz.func81 rfl rfl rfl fun H=>?_
 refine Ah (Qp Ar (Ag (AW.seq (Ah (Qp Dt ?_)))))
 refine Qp (Al (n:=l.length) Ai rfl rfl rfl (by simp)) ?_
 refine Qp G6 (Ag (A3 (fun hc1=>?_) fun hc1=>?_))
 ·
  refine Ah (Qp Ar (Ag (Du ?_)))
  refine Qr (Iq _) ?_
  rw [show D8 l=5 by unfold D8;rw [if_pos (by simpa using hc1)]];rfl
 ·
  refine By (AW.seq (Ah (Qp Ar (Ag (AW.block ?_)))))
  refine AW.Aad (fun (p:Nat)=>(⟨[(0,.sl 2 (l.map O2)),(3,.int .i64 (p:Int))],H,31⟩:St)) (fun (p:Nat)=>p≤l.length∧Jh [] l=Jh ((l.take p).map (·.name)) (l.drop p)) (fun (p:Nat)=>l.length-p) (0) ?_ (GS.weaken ⟨rfl,rfl,trivial⟩ (.refl _)) ?_
  · exact ⟨Nat.zero_le _,rfl⟩
  ·
   rintro p hR
   refine AW.seq (Ah (Qp A0 (Qp Dt ?_)))
   refine Qp (Al (n:=l.length) Ai rfl rfl rfl (by simp)) ?_
   refine Qp Ck (Ag (A3 (fun hc2=>?_) fun hc2=>?_))
   ·
    obtain ⟨a,ha⟩:=B7 hc2
    have hlt:=Bb ha
    have hm:=List.mem_of_getElem? ha
    have hna:(l.map (·.name))[p]? = some a.name:=by simp [ha]
    refine By (AW.seq (AW.block (AW.seq (Ah (Qp Dt (Qp A0 ?_))))))
    refine Qp (Af (c:=[.str _,_]) Ai rfl rfl rfl rfl rfl rfl (by omega) (Bo ha)) ?_
    refine Qp (Cv [.str _,_]) ?_
    refine Qp (Qc rfl (c87 a (hs a hm))) ?_
    refine Qp Ar (Do (Qp A0 (Qp Cr (Ag (A3 (fun hc3=>?_) fun hc3=>?_)))))
    ·
     refine Ah (Qp A0 (Qp Ar (Ag (Du (A7 (Aj (Aj (A7 (Aj ?_)))))))))
     refine Qr (Iq _) ?_
     have he:G9 ((l.take p).map (·.name)) a=H1 a:=by unfold G9;rw [if_pos hc3]
     rw [show D8 l=G9 ((l.take p).map (·.name)) a by unfold D8;rw [if_neg (by simpa using hc1),hR.2,A4 ha,Mg (by rw [he];simpa using hc3)],he];rfl
    ·
     have hb3:=Bool.eq_false_iff.mp hc3
     refine By (Ah (Qp Dt (Qp Dt (Qp A0 ?_))))
     refine Qp (Af (c:=[.str _,_]) Ai rfl rfl rfl rfl rfl rfl (by omega) (Bo ha)) ?_
     refine Qp (Qf [.str _,_]) (Qp Vb ?_)
     refine Qp (Qc rfl (c88 l hl _)) ?_
     refine Qp A0 (Qp Ck (Ag (A3 (fun hc4=>?_) fun hc4=>?_)))
     ·
      rw [Oa hna,←List.map_take] at hc4
      have hb4:((l.take p).map (·.name)).contains a.name=true:=hc4
      refine Ah (Qp Ar (Ag (AW.ret (A7 (Aj (Aj (A7 (Aj ?_))))))))
      refine Qr (Iq _) ?_
      have he:G9 ((l.take p).map (·.name)) a=7:=by unfold G9;rw [if_neg hb3,if_pos hb4]
      rw [show D8 l=G9 ((l.take p).map (·.name)) a by unfold D8;rw [if_neg (by simpa using hc1),hR.2,A4 ha,Mg (by rw [he];decide)],he];rfl
     ·
      rw [Oa hna,←List.map_take] at hc4
      have hb4:¬((l.take p).map (·.name)).contains a.name=true:=Bool.eq_false_iff.mp hc4
      have he0:G9 ((l.take p).map (·.name)) a=0:=by unfold G9;rw [if_neg hb3,if_neg hb4]
      refine AW.skip (Bv (Ae (AW.region (Qp A0 (Qp F7 (Qp Ar (Ag ?_)))))))
      refine ⟨p+1,?_,?_,GS.weaken ⟨rfl,rfl,trivial⟩ (.refl _)⟩
      · exact ⟨hlt,by rw [hR.2,A4 ha,W7 he0,eW ha]⟩
      · omega
   ·
    have hd:=C8 hc2
    refine AW.exit ?_
    refine A5 (A5 (Bx (Ae (Ah (Qp Ar (Ag (AW.ret ?_)))))))
    refine Qr (Iq _) ?_
    rw [show D8 l=0 by unfold D8;rw [if_neg (by simpa using hc1),hR.2,hd];rfl];rfl


def badS (l:List Ev):Bool:=decide (12<(l.length:Int))||l.any fun v=>decide (10<(v.values.length:Int))
def fewEnvS (vars:List (List Ev)):Bool:=!((vars.take 20).any badS)&&decide ((vars.length:Int)≤20)
def fewE (e:Ex):Bool:=decide (At e≤200∧El e≤100)
end Go.Proofs.YtjedflcpjlgokaaGreatDoor
