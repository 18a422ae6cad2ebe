/-
  Several texts in one: W24, W13. No condition.
-/
import Derived.Test.YtjedflcpjlgokaaGreatDoorAz
import Derived.Test.YtjedflcpjlgokaaGreatDoorW23
import Derived.KernelRfl
import Derived.Test.YtjedflcpjlgokaaGreatDoorK02
import Derived.Test.YtjedflcpjlgokaaGreatDoorW4
set_option linter.unusedVariables false
set_option linter.unusedSimpArgs false
namespace Go.Proofs.YtjedflcpjlgokaaGreatDoor
open Go Go.Aw
set_option maxHeartbeats 800000
set_option maxRecDepth 20000

theorem Yy {ns:List (List UInt8)}{k:Nat}{n:List UInt8}(h:ns[k]? = some n)(hn:(ns.take k).contains n=false):Od ns n=(k:Int):=by
 have h1:=Oy h
 rw [hn] at h1
 have hm:n∈ns:=List.mem_of_getElem? h
 have hc:ns.contains n=true:=by simpa using hm
 have h3:ns.idxOf n≤k:=by
  refine Nat.le_of_not_lt fun hlt=>?_
  have hk:k<ns.length:=A4 h
  have h4:=List.not_of_lt_findIdx (p:=fun x=>x==n) (xs:=ns) (i:=k) hlt
  have h5:ns[k]=n:=by rw [List.getElem?_eq_getElem hk] at h;exact Option.some.inj h
  simp only [h5] at h4
  simp at h4
 unfold Od at h1 ⊢
 rw [if_pos hc] at h1 ⊢
 simp at h1
 omega
theorem Xe {ns:List (List UInt8)}{n:List UInt8}(h:ns.contains n=false):Od ns n = -1:=by unfold Od;rw [if_neg (by simp only [h];decide)]
theorem P5 {ns:List (List UInt8)}{k:Nat}{m n:List UInt8}(h:ns[k]? = some m)(hn:(ns.take k).contains n=false)(hne:(m==n)=false):(ns.take (k+1)).contains n=false:=by
 rw [C4 h]
 have h1:m≠n:=by simpa using hne
 simp at hn ⊢
 exact ⟨hn,fun e=>h1 e.symm⟩
def Ig (s:Sc):Prop:=s.name.length≤1048576∧s.fields.length≤1048576∧∀f∈s.fields,f.name.length≤1048576
theorem Ts {seen:List (List UInt8)}{a:Fi}{r:List Fi}(h:D6 seen a=0):H4 seen (a::r)=H4 (seen ++ [a.name]) r:=by rw [H4,if_neg (by rw [h];decide)]
theorem Ix {seen:List (List UInt8)}{a:Fi}{r:List Fi}(h:D6 seen a≠0):H4 seen (a::r)=D6 seen a:=by rw [H4,if_pos (by simpa using h)]
theorem Vn {seen:List (List UInt8)}{a:Sc}{r:List Sc}(h:Hk seen a=0):Jt seen (a::r)=Jt (seen ++ [a.name]) r:=by rw [Jt,if_neg (by rw [h];decide)]
theorem Nn {seen:List (List UInt8)}{a:Sc}{r:List Sc}(h:Hk seen a≠0):Jt seen (a::r)=Hk seen a:=by rw [Jt,if_pos (by simpa using h)]
theorem dE (k:Int):(k != 0&&k != 1&&k != 2)=(decide (k<0)||decide (3≤k)):=by
 rw [Bool.eq_iff_iff];simp;omega
theorem cZ (s:List UInt8):(!Lz s||s==tS) = !O2 s:=by
 unfold O2;cases Lz s <;> cases (s==tS) <;> rfl

theorem c105 (s:Sc)(hl:s.fields.length≤1048576)(n:List UInt8):Ax Tryz.prog 137 [.agg (Ob s),.str n] (.int .i64 (Od (s.fields.map (·.name)) n)):=by
 refine Ax.body (n:=22) Ah Tryz.func137 rfl rfl rfl fun H=>?_
 refine Ai (Qp (Gd [.str _,_]) (Qp Ap (Ag (AW.seq (Ai (Qp Ap (Ag (AW.block ?_))))))))
 refine AW.Aao (fun (p:Nat)=>(⟨[(1,.str n),(2,.ptr (Ob s)),(5,.int .i64 (p:Int))],H,22⟩:St)) (fun (p:Nat)=>p≤s.fields.length∧((s.fields.map (·.name)).take p).contains n=false) (fun (p:Nat)=>s.fields.length-p) (0) ?_ (GS.weaken ⟨rfl,rfl,rfl,trivial⟩ (.refl _)) ?_
 · exact ⟨Nat.zero_le _,by simp⟩
 ·
  rintro p hR
  refine AW.seq (Ai (Qp Az (Qp (Qf [_]) (Qp Dy ?_))))
  refine Qp (Al (n:=s.fields.length) Ah rfl rfl rfl (by simp)) ?_
  refine Qp Ch (Ag (A6 (fun hc1=>?_) fun hc1=>?_))
  ·
   obtain ⟨a,ha⟩:=B5 hc1
   have hlt:=A4 ha
   have hm:=List.mem_of_getElem? ha
   have hna:(s.fields.map (·.name))[p]? = some a.name:=by simp [ha]
   refine By (AW.seq (AW.block (Ai (Qp (Qf [_]) (Qp Dy (Qp Az ?_))))))
   refine Qp (Af (c:=[.str _,Iq _]) Ah rfl rfl rfl rfl rfl rfl (by omega) (Bi ha)) ?_
   refine Qp (Qf [.str _,Iq _]) (Qp Us (Qp cR ?_))
   refine Qp (Pb rfl rfl) ?_
   refine Ag (A6 (fun hc2=>?_) fun hc2=>?_)
   ·
    refine Ai (Qp Az (Qp Ap (Ag (AW.ret (Bb (Aj (Aj (Bb (Aj ?_)))))))))
    refine Qr (Iq _) ?_
    have e:a.name=n:=by simpa using hc2
    rw [e] at hna
    rw [Yy hna hR.2];rfl
   ·
    refine AW.skip (Bu (Ad (AW.region (Qp Az (Qp Ey (Qp Ap (Ag ?_)))))))
    refine ⟨p+1,?_,?_,GS.weaken ⟨rfl,rfl,rfl,trivial⟩ (.refl _)⟩
    · exact ⟨hlt,P5 hna hR.2 hc2⟩
    · omega
  ·
   have hte:=Cu hc1
   refine AW.exit ?_
   refine A5 (A5 (Bq (Ad (Ai (Qp Ap (Ag (AW.ret ?_)))))))
   refine Qr (Iq _) ?_
   have h2:=hR.2
   rw [←List.map_take,hte] at h2
   rw [Xe h2];rfl
theorem c88 (l:List Sc)(hl:l.length≤1048576)(n:List UInt8):Ax Tryz.prog 106 [.sl 2 (l.map Ob),.str n] (.int .i64 (Od (l.map (·.name)) n)):=by
 refine Ax.body (n:=20) Ah Tryz.func106 rfl rfl rfl fun H=>?_
 refine Ai (Qp Ap (Ag (AW.seq (Ai (Qp Ap (Ag (AW.block ?_)))))))
 refine AW.Aao (fun (p:Nat)=>(⟨[(0,.sl 2 (l.map Ob)),(1,.str n),(5,.int .i64 (p:Int))],H,20⟩:St)) (fun (p:Nat)=>p≤l.length∧((l.map (·.name)).take p).contains n=false) (fun (p:Nat)=>l.length-p) (0) ?_ (GS.weaken ⟨rfl,rfl,rfl,trivial⟩ (.refl _)) ?_
 · exact ⟨Nat.zero_le _,by simp⟩
 ·
  rintro p hR
  refine AW.seq (Ai (Qp Az (Qp Dx ?_)))
  refine Qp (Al (n:=l.length) Ah rfl rfl rfl (by simp)) ?_
  refine Qp Ch (Ag (A6 (fun hc1=>?_) fun hc1=>?_))
  ·
   obtain ⟨a,ha⟩:=B5 hc1
   have hlt:=A4 ha
   have hm:=List.mem_of_getElem? ha
   have hna:(l.map (·.name))[p]? = some a.name:=by simp [ha]
   refine By (AW.seq (AW.block (Ai (Qp Dx (Qp Az ?_)))))
   refine Qp (Af (c:=[.str _,_]) Ah rfl rfl rfl rfl rfl rfl (by omega) (Bi ha)) ?_
   refine Qp (Qf [.str _,_]) (Qp Us (Qp cR ?_))
   refine Qp (Pb rfl rfl) ?_
   refine Ag (A6 (fun hc2=>?_) fun hc2=>?_)
   ·
    refine Ai (Qp Az (Qp Ap (Ag (AW.ret (Bb (Aj (Aj (Bb (Aj ?_)))))))))
    refine Qr (Iq _) ?_
    have e:a.name=n:=by simpa using hc2
    rw [e] at hna
    rw [Yy hna hR.2];rfl
   ·
    refine AW.skip (Bu (Ad (AW.region (Qp Az (Qp Ey (Qp Ap (Ag ?_)))))))
    refine ⟨p+1,?_,?_,GS.weaken ⟨rfl,rfl,rfl,trivial⟩ (.refl _)⟩
    · exact ⟨hlt,P5 hna hR.2 hc2⟩
    · omega
  ·
   have hte:=Cu hc1
   refine AW.exit ?_
   refine A5 (A5 (Bq (Ad (Ai (Qp Ap (Ag (AW.ret ?_)))))))
   refine Qr (Iq _) ?_
   have h2:=hR.2
   rw [←List.map_take,hte] at h2
   rw [Xe h2];rfl
theorem c85 (s:Sc)(hs:Ig s):Ax Tryz.prog 97 [.agg (Ob s)] (.int .i64 (Id s)):=by
 refine Ax.body (n:=45) Ah Tryz.func97 rfl rfl rfl fun H=>?_
 refine Ai (Qp (Gd [.str _,_]) (Qp Ap (Ag (AW.seq (Ai (Qp (Qf [.str _,_]) (Qp Us ?_)))))))
 refine Qp (Qc rfl (c102 _ hs.1)) ?_
 refine Qp Hc (Ag (A6 (fun hc1=>?_) fun hc1=>?_))
 ·
  refine Ai (Qp Ap (Ag (Dw ?_)))
  refine Qr (Iq _) ?_
  rw [show Id s=8 by unfold Id;rw [if_pos (by simpa using hc1)]];rfl
 ·
  refine By (AW.seq (Ai (Qp (Qf [_]) (Qp Dy ?_))))
  refine Qp (Al (n:=s.fields.length) Ah rfl rfl rfl (by simp)) ?_
  refine Qp Ha (Ag (A6 (fun hc2=>?_) fun hc2=>?_))
  ·
   refine Ai (Qp Ap (Ag (Dw ?_)))
   refine Qr (Iq _) ?_
   rw [show Id s=5 by unfold Id;rw [if_neg (by simpa using hc1),if_pos (by simpa using hc2)]];rfl
  ·
   refine By (Ai ?_)
   refine Qe (Q0) ?_
   rintro _ _ ⟨b14,rfl,rfl⟩
   refine Qp N4 (Ag (AW.seq (Ai (Qp (Qf [_]) (Qp Dy ?_)))))
   refine Qp (Al (n:=s.fields.length) Ah rfl rfl rfl (by simp)) ?_
   refine Qp Az (Ag (AW.block ?_))
   have hfl:=hs.2.1
   refine AW.Aao (fun (p:Nat×List (List UInt8))=>(⟨[(3,.val (.map (some b14))),(16,.sl 2 (s.fields.map cFi)),(17,.int .i64 s.fields.length),(18,.int .i64 (p.1:Int))],.smap b14 (Uf p.2)::H,45⟩:St)) (fun (p:Nat×List (List UInt8))=>p.1≤s.fields.length∧H4 [] s.fields=H4 p.2 (s.fields.drop p.1)) (fun (p:Nat×List (List UInt8))=>s.fields.length-p.1) ((0,[])) ?_ (GS.weaken ⟨rfl,rfl,rfl,rfl,trivial⟩ (.refl _)) ?_
   · exact ⟨Nat.zero_le _,rfl⟩
   ·
    rintro p hR
    refine Ai (Qp Ch (Ag (AW.seq (A6 (fun hc3=>?_) fun hc3=>?_))))
    ·
     obtain ⟨a,ha⟩:=B5 hc3
     have hlt:=A4 ha
     have hm:=List.mem_of_getElem? ha
     refine By (AW.seq (AW.block (Ai ?_)))
     refine Qp (Af (c:=[.str _,Iq _]) Ah rfl rfl rfl rfl rfl rfl (by omega) (Bi ha)) ?_
     refine Qp (Cq [.str _,Iq _]) ?_
     refine Qe (Ak (l:=[.str [],.int .i64 0]) (by kernel_rfl)) ?_
     rintro _ _ ⟨b5,rfl,rfl⟩
     refine Cv 0 [.str _,Iq _] (_::_::_) ?_
     refine AOL.ghost (GS.Aan (t:=5) 0 rfl rfl) ?_
     refine Ag (AW.seq (AW.block (Ai (Qp (Qf [.str _,Iq _]) (Qp Us ?_)))))
     refine Qp (Qc rfl (c103 _ (hs.2.2 a hm))) ?_
     refine Qp Hc (Qp Bl (Ag (A6 (fun hc4=>?_) fun hc4=>?_)))
     ·
      have hb4:(!O2 a.name)=true:=hc4
      refine Ai (Qp Ap (Ag (AW.ret (Bb (Aj (Bb (Aj (Aj (Bb ?_)))))))))
      refine Aj ?_
      refine ⟨.inr rfl,[Iq _],.cons (.tmp _ _ rfl) <| .nil,.cons _ (.refl _),?_⟩
      have he:D6 p.2 a=8:=by
       unfold D6;rw [if_pos hb4]
      rw [show Id s=D6 p.2 a by unfold Id;rw [if_neg (by simpa using hc1),if_neg (by simpa using hc2),hR.2,A8 ha,Ix (by rw [he];decide)],he];rfl
     ·
      have hb4:¬(!O2 a.name)=true:=by simpa using hc4
      refine Ai (Qp Gr (Qp (Qf [.str _,Iq _]) (Qp Us ?_)))
      refine AOL.Aas (Zd (i:=0) (ks:=p.2) Ah rfl rfl rfl rfl rfl (by kernel_rfl) rfl rfl rfl) rfl rfl ?_
      refine Qp Bl (Ag (A6 (fun hc5=>?_) fun hc5=>?_))
      ·
       have hb5:p.2.contains a.name=true:=hc5
       refine Ai (Qp Ap (Ag (AW.ret (Bb (Aj (Bb (Aj (Aj (Bb ?_)))))))))
       refine Aj ?_
       refine ⟨.inr rfl,[Iq _],.cons (.tmp _ _ rfl) <| .nil,.cons _ (.refl _),?_⟩
       have he:D6 p.2 a=7:=by
        unfold D6;rw [if_neg hb4,if_pos hb5]
       rw [show Id s=D6 p.2 a by unfold Id;rw [if_neg (by simpa using hc1),if_neg (by simpa using hc2),hR.2,A8 ha,Ix (by rw [he];decide)],he];rfl
      ·
       have hb5:¬p.2.contains a.name=true:=by simpa using hc5
       refine Ai (Qp (Qf [Iq _]) (Qp Bp (Qp Ch (Qp B0 (Qg [] Qw (Qf [Iq _]) (Qg [(37,_)] Qw Bp (Qg [(38,_)] Qw Nt (Qp E1 (Qp Bl ?_)))))))))
       refine Ag (A6 (fun hc6=>?_) fun hc6=>?_)
       ·
        have hb6:=hc6
        refine Ai (Qp Ap (Ag (AW.ret (Bb (Aj (Bb (Aj (Aj (Bb ?_)))))))))
        refine Aj ?_
        refine ⟨.inr rfl,[Iq _],.cons (.tmp _ _ rfl) <| .nil,.cons _ (.refl _),?_⟩
        have he:D6 p.2 a=1:=by
         unfold D6;rw [if_neg hb4,if_neg hb5,if_pos hb6]
        rw [show Id s=D6 p.2 a by unfold Id;rw [if_neg (by simpa using hc1),if_neg (by simpa using hc2),hR.2,A8 ha,Ix (by rw [he];decide)],he];rfl
       ·
        have hb6:=Bool.eq_false_iff.mp hc6
        have he0:D6 p.2 a=0:=by unfold D6;rw [if_neg hb4,if_neg hb5,if_neg hb6]
        refine AW.skip (Bu (Ad (AW.region (Qp Gr (Qp (Qf [.str _,Iq _]) (Qp Us ?_))))))
        refine Qe (dM (i:=0) (H2:=_::_) Ah rfl rfl rfl rfl rfl rfl rfl rfl (by simpa using hb5) rfl) ?_
        rintro _ _ ⟨rfl,rfl⟩
        refine AOL.nil (Bu (Ad (AW.region (Qp Ey (Qp Az (Ag ?_))))))
        refine ⟨(p.1+1,p.2 ++ [a.name]),?_,?_,GS.weaken ⟨rfl,rfl,rfl,rfl,trivial⟩ (.refl _)⟩
        · exact ⟨hlt,by rw [hR.2,A8 ha,Ts he0]⟩
        · first | omega | (simp only;omega)
    ·
     have hd:=Dc hc3
     refine AW.exit ?_
     refine A5 (A5 (Bq (Ad (Ai (Qp Ap (Ag (AW.ret ?_)))))))
     refine ⟨.inr rfl,[Iq _],.cons (.tmp _ _ rfl) <| .nil,.cons _ (.refl _),?_⟩
     rw [show Id s=0 by unfold Id;rw [if_neg (by simpa using hc1),if_neg (by simpa using hc2),hR.2,hd];rfl];rfl
theorem c87 (s:Sc)(hs:Ig s):Ax Tryz.prog 105 [.agg (Ob s)] (.int .i64 (Id s)):=by
 refine Ax.body (n:=53) Ah Tryz.func105 rfl rfl rfl fun H=>?_
 refine Ai (Qp (Gd [.str _,_]) (Qp Ap (Ag (AW.seq (Ai (Qp (Qf [.str _,_]) (Qp Us ?_)))))))
 refine Qp (Qc rfl (c104 _ hs.1)) ?_
 refine Qp Hc (Ag (A6 (fun hc1=>?_) fun hc1=>?_))
 ·
  refine Ai (Qp Ap (Ag (Dw ?_)))
  refine Qr (Iq _) ?_
  rw [show Id s=8 by unfold Id;rw [if_pos (by simpa using hc1)]];rfl
 ·
  refine By (AW.seq (Ai (Qp (Qf [_]) (Qp Dy ?_))))
  refine Qp (Al (n:=s.fields.length) Ah rfl rfl rfl (by simp)) ?_
  refine Qp Ha (Ag (A6 (fun hc2=>?_) fun hc2=>?_))
  ·
   refine Ai (Qp Ap (Ag (Dw ?_)))
   refine Qr (Iq _) ?_
   rw [show Id s=5 by unfold Id;rw [if_neg (by simpa using hc1),if_pos (by simpa using hc2)]];rfl
  ·
   refine By (AW.seq (Ai (Qp Ap (Ag (AW.block ?_)))))
   have hfl:=hs.2.1
   refine AW.Aao (fun (p:Nat)=>(⟨[(1,.ptr (Ob s)),(3,.int .i64 (p:Int))],H,53⟩:St)) (fun (p:Nat)=>p≤s.fields.length∧H4 [] s.fields=H4 ((s.fields.take p).map (·.name)) (s.fields.drop p)) (fun (p:Nat)=>s.fields.length-p) (0) ?_ (GS.weaken ⟨rfl,rfl,trivial⟩ (.refl _)) ?_
   · exact ⟨Nat.zero_le _,rfl⟩
   ·
    rintro p hR
    refine AW.seq (Ai (Qp Az (Qp (Qf [_]) (Qp Dy ?_))))
    refine Qp (Al (n:=s.fields.length) Ah rfl rfl rfl (by simp)) ?_
    refine Qp Ch (Ag (A6 (fun hc3=>?_) fun hc3=>?_))
    ·
     obtain ⟨a,ha⟩:=B5 hc3
     have hlt:=A4 ha
     have hm:=List.mem_of_getElem? ha
     have hna:(s.fields.map (·.name))[p]? = some a.name:=by simp [ha]
     refine By (AW.seq (AW.block (Ai (Qp (Qf [_]) (Qp Dy (Qp Az ?_))))))
     refine Qp (Af (c:=[.str _,Iq _]) Ah rfl rfl rfl rfl rfl rfl (by omega) (Bi ha)) ?_
     refine Qp (Cq [.str _,Iq _]) ?_
     refine Qe (Ak (l:=[.str [],.int .i64 0]) (by kernel_rfl)) ?_
     rintro _ _ ⟨b4,rfl,rfl⟩
     refine Cv 0 [.str _,Iq _] (_::_) ?_
     refine AOL.ghost (GS.Aan (t:=4) 0 rfl rfl) ?_
     refine Ag (AW.seq (Ai (Qp (Qf [.str _,Iq _]) (Qp Us ?_))))
     refine Qp (Qc rfl (c104 _ (hs.2.2 a hm))) ?_
     refine Qp Hc (Qp B0 (Qg [] Qw (Qf [.str _,Iq _]) (Qg [(30,_)] Qw Us ?_)))
     refine AOL.Aar (y:=.bool _) _ [(31,_)] rfl (nC.all ⟨Ent.Aam _ _,trivial⟩) (fun hG=>Pb rfl rfl) rfl ?_
     refine Qp E1 (Ag (A6 (fun hc4=>?_) fun hc4=>?_))
     ·
      have hb4:(!O2 a.name)=true:=by rw [←cZ];exact hc4
      refine Ai (Qp Ap (Ag (Dw (Bb (Aj (Aj (Bb (Aj ?_))))))))
      refine Qr (Iq _) ?_
      have he:D6 ((s.fields.take p).map (·.name)) a=8:=by
       unfold D6;rw [if_pos hb4]
      rw [show Id s=D6 ((s.fields.take p).map (·.name)) a by unfold Id;rw [if_neg (by simpa using hc1),if_neg (by simpa using hc2),hR.2,A8 ha,Ix (by rw [he];decide)],he];rfl
     ·
      have hb4:¬(!O2 a.name)=true:=by rw [←cZ];exact Bool.eq_false_iff.mp hc4
      refine By (AW.seq (Ai (Qp (Cq [.str _,_]) (Qp (Qf [.str _,Iq _]) (Qp Us ?_)))))
      refine Qp (Qc rfl (c105 s hs.2.1 _)) ?_
      refine Qp Az (Qp Ch (Ag (A6 (fun hc5=>?_) fun hc5=>?_)))
      ·
       rw [Oy hna,←List.map_take] at hc5
       have hb5:((s.fields.take p).map (·.name)).contains a.name=true:=hc5
       refine Ai (Qp Ap (Ag (Dw (Bb (Aj (Aj (Bb (Aj ?_))))))))
       refine Qr (Iq _) ?_
       have he:D6 ((s.fields.take p).map (·.name)) a=7:=by
        unfold D6;rw [if_neg hb4,if_pos hb5]
       rw [show Id s=D6 ((s.fields.take p).map (·.name)) a by unfold Id;rw [if_neg (by simpa using hc1),if_neg (by simpa using hc2),hR.2,A8 ha,Ix (by rw [he];decide)],he];rfl
      ·
       rw [Oy hna,←List.map_take] at hc5
       have hb5:¬((s.fields.take p).map (·.name)).contains a.name=true:=Bool.eq_false_iff.mp hc5
       refine By (Ai (Qp (Qf [Iq _]) (Qp Bp (Qp Cr (Qp B0 (Qg [] Qw (Qf [Iq _]) (Qg [(44,_)] Qw Bp (Qg [(45,_)] Qw Cr (Qp F7 ?_)))))))))
       refine Qp B0 (Qg [] Qw (Qf [Iq _]) (Qg [(49,_)] Qw Bp (Qg [(50,_)] Qw Cr (Qp F7 (Ag (A6 (fun hc6=>?_) fun hc6=>?_))))))
       ·
        have hb6:=(dE a.kind).symm.trans hc6
        refine Ai (Qp Ap (Ag (AW.ret (Bb (Aj (Aj (Bb (Aj ?_))))))))
        refine Qr (Iq _) ?_
        have he:D6 ((s.fields.take p).map (·.name)) a=1:=by
         unfold D6;rw [if_neg hb4,if_neg hb5,if_pos hb6]
        rw [show Id s=D6 ((s.fields.take p).map (·.name)) a by unfold Id;rw [if_neg (by simpa using hc1),if_neg (by simpa using hc2),hR.2,A8 ha,Ix (by rw [he];decide)],he];rfl
       ·
        have hb6:=Bool.eq_false_iff.mp ((dE a.kind).symm.trans hc6)
        have he0:D6 ((s.fields.take p).map (·.name)) a=0:=by unfold D6;rw [if_neg hb4,if_neg hb5,if_neg hb6]
        refine AW.skip (Bu (Ad (AW.region (Qp Az (Qp Ey (Qp Ap (Ag ?_)))))))
        refine ⟨p+1,?_,?_,GS.weaken ⟨rfl,rfl,trivial⟩ (.refl _)⟩
        · exact ⟨hlt,by rw [hR.2,A8 ha,Ts he0,iC ha]⟩
        · omega
    ·
     have hd:=Dc hc3
     refine AW.exit ?_
     refine A5 (A5 (Bq (Ad (Ai (Qp Ap (Ag (AW.ret ?_)))))))
     refine Qr (Iq _) ?_
     rw [show Id s=0 by unfold Id;rw [if_neg (by simpa using hc1),if_neg (by simpa using hc2),hR.2,hd];rfl];rfl
theorem c57 (l:List Sc)(hl:l.length≤1048576)(hs:∀s∈l,Ig s):Ax Tryz.prog 68 [.sl 2 (l.map Ob)] (.int .i64 (Ep l)):=by
 refine Ax.body (n:=30) Ah Tryz.func68 rfl rfl rfl fun H=>?_
 refine Ai (Qp Ap (Ag (AW.seq (Ai (Qp Dx ?_)))))
 refine Qp (Al (n:=l.length) Ah rfl rfl rfl (by simp)) ?_
 refine Qp Ha (Ag (A6 (fun hc1=>?_) fun hc1=>?_))
 ·
  refine Ai (Qp Ap (Ag (Dw ?_)))
  refine Qr (Iq _) ?_
  rw [show Ep l=5 by unfold Ep;rw [if_pos (by simpa using hc1)]];rfl
 ·
  refine By (Ai ?_)
  refine Qe (Q0) ?_
  rintro _ _ ⟨b10,rfl,rfl⟩
  refine Qp N4 (Ag (AW.seq (Ai (Qp Dx ?_))))
  refine Qp (Al (n:=l.length) Ah rfl rfl rfl (by simp)) ?_
  refine Qp Az (Ag (AW.block ?_))
  refine AW.Aao (fun (p:Nat×List (List UInt8))=>(⟨[(3,.val (.map (some b10))),(11,.sl 2 (l.map Ob)),(12,.int .i64 l.length),(13,.int .i64 (p.1:Int))],.smap b10 (Uf p.2)::H,30⟩:St)) (fun (p:Nat×List (List UInt8))=>p.1≤l.length∧Jt [] l=Jt p.2 (l.drop p.1)) (fun (p:Nat×List (List UInt8))=>l.length-p.1) ((0,[])) ?_ (GS.weaken ⟨rfl,rfl,rfl,rfl,trivial⟩ (.refl _)) ?_
  · exact ⟨Nat.zero_le _,rfl⟩
  ·
   rintro p hR
   refine Ai (Qp Ch (Ag (AW.seq (A6 (fun hc2=>?_) fun hc2=>?_))))
   ·
    obtain ⟨a,ha⟩:=B5 hc2
    have hlt:=A4 ha
    have hm:=List.mem_of_getElem? ha
    refine By (AW.seq (AW.block (Ai ?_)))
    refine Qp (Af (c:=[.str _,_]) Ah rfl rfl rfl rfl rfl rfl (by omega) (Bi ha)) ?_
    refine Qp (Cq [.str _,_]) ?_
    refine Qe (Ak (l:=[.str [],.sl 2 []]) (by kernel_rfl)) ?_
    rintro _ _ ⟨b5,rfl,rfl⟩
    refine Cv 0 [.str _,_] (_::_::_) ?_
    refine AOL.ghost (GS.Aan (t:=5) 0 rfl rfl) ?_
    refine Ag (AW.seq (Ai (Qp (Cq [.str _,_]) ?_)))
    refine Qp (Qc rfl (c85 a (hs a hm))) ?_
    refine Qp Ap (Dm (Qp Az (Qp Cr (Ag (A6 (fun hc3=>?_) fun hc3=>?_)))))
    ·
     refine Ai (Qp Az (Qp Ap (Ag (Dw (Bb (Aj (Aj (Bb (Aj ?_)))))))))
     refine ⟨.inr rfl,[Iq _],.cons (.tmp _ _ rfl) <| .nil,.cons _ (.refl _),?_⟩
     have he:Hk p.2 a=Id a:=by unfold Hk;rw [if_pos hc3]
     rw [show Ep l=Hk p.2 a by unfold Ep;rw [if_neg (by simpa using hc1),hR.2,A8 ha,Nn (by rw [he];simpa using hc3)],he];rfl
    ·
     have hb3:=Bool.eq_false_iff.mp hc3
     refine By (AW.seq (Ai (Qp Gr (Qp (Qf [.str _,_]) (Qp Us ?_)))))
     refine AOL.Aas (Zd (i:=0) (ks:=p.2) Ah rfl rfl rfl rfl rfl (by kernel_rfl) rfl rfl rfl) rfl rfl ?_
     refine Ag (A6 (fun hc4=>?_) fun hc4=>?_)
     ·
      have hb4:p.2.contains a.name=true:=hc4
      refine Ai (Qp Ap (Ag (Dw (Bb (Aj (Aj (Bb (Aj ?_))))))))
      refine ⟨.inr rfl,[Iq _],.cons (.tmp _ _ rfl) <| .nil,.cons _ (.refl _),?_⟩
      have he:Hk p.2 a=7:=by unfold Hk;rw [if_neg hb3,if_pos hb4]
      rw [show Ep l=Hk p.2 a by unfold Ep;rw [if_neg (by simpa using hc1),hR.2,A8 ha,Nn (by rw [he];decide)],he];rfl
     ·
      have hb4:¬p.2.contains a.name=true:=by simpa using hc4
      have he0:Hk p.2 a=0:=by unfold Hk;rw [if_neg hb3,if_neg hb4]
      refine By (AW.region (Qp Gr (Qp (Qf [.str _,_]) (Qp Us ?_))))
      refine Qe (dM (i:=0) (H2:=_::_) Ah rfl rfl rfl rfl rfl rfl rfl rfl (by simpa using hb4) rfl) ?_
      rintro _ _ ⟨rfl,rfl⟩
      refine AOL.nil (Bu (Ad (AW.region (Qp Ey (Qp Az (Ag ?_))))))
      refine ⟨(p.1+1,p.2 ++ [a.name]),?_,?_,GS.weaken ⟨rfl,rfl,rfl,rfl,trivial⟩ (.refl _)⟩
      · exact ⟨hlt,by rw [hR.2,A8 ha,Vn he0]⟩
      · first | omega | (simp only;omega)
   ·
    have hd:=Dc hc2
    refine AW.exit ?_
    refine A5 (A5 (Bq (Ad (Ai (Qp Ap (Ag (AW.ret ?_)))))))
    refine ⟨.inr rfl,[Iq _],.cons (.tmp _ _ rfl) <| .nil,.cons _ (.refl _),?_⟩
    rw [show Ep l=0 by unfold Ep;rw [if_neg (by simpa using hc1),hR.2,hd];rfl];rfl
theorem c59 (l:List Sc)(hl:l.length≤1048576)(hs:∀s∈l,Ig s):Ax Tryz.prog 81 [.sl 2 (l.map Ob)] (.int .i64 (Ep l)):=by
 refine Ax.body (n:=31) Ah Tryz.func81 rfl rfl rfl fun H=>?_
 refine Ai (Qp Ap (Ag (AW.seq (Ai (Qp Dx ?_)))))
 refine Qp (Al (n:=l.length) Ah rfl rfl rfl (by simp)) ?_
 refine Qp Ha (Ag (A6 (fun hc1=>?_) fun hc1=>?_))
 ·
  refine Ai (Qp Ap (Ag (Dw ?_)))
  refine Qr (Iq _) ?_
  rw [show Ep l=5 by unfold Ep;rw [if_pos (by simpa using hc1)]];rfl
 ·
  refine By (AW.seq (Ai (Qp Ap (Ag (AW.block ?_)))))
  refine AW.Aao (fun (p:Nat)=>(⟨[(0,.sl 2 (l.map Ob)),(3,.int .i64 (p:Int))],H,31⟩:St)) (fun (p:Nat)=>p≤l.length∧Jt [] l=Jt ((l.take p).map (·.name)) (l.drop p)) (fun (p:Nat)=>l.length-p) (0) ?_ (GS.weaken ⟨rfl,rfl,trivial⟩ (.refl _)) ?_
  · exact ⟨Nat.zero_le _,rfl⟩
  ·
   rintro p hR
   refine AW.seq (Ai (Qp Az (Qp Dx ?_)))
   refine Qp (Al (n:=l.length) Ah rfl rfl rfl (by simp)) ?_
   refine Qp Ch (Ag (A6 (fun hc2=>?_) fun hc2=>?_))
   ·
    obtain ⟨a,ha⟩:=B5 hc2
    have hlt:=A4 ha
    have hm:=List.mem_of_getElem? ha
    have hna:(l.map (·.name))[p]? = some a.name:=by simp [ha]
    refine By (AW.seq (AW.block (AW.seq (Ai (Qp Dx (Qp Az ?_))))))
    refine Qp (Af (c:=[.str _,_]) Ah rfl rfl rfl rfl rfl rfl (by omega) (Bi ha)) ?_
    refine Qp (Cq [.str _,_]) ?_
    refine Qp (Qc rfl (c87 a (hs a hm))) ?_
    refine Qp Ap (Dm (Qp Az (Qp Cr (Ag (A6 (fun hc3=>?_) fun hc3=>?_)))))
    ·
     refine Ai (Qp Az (Qp Ap (Ag (Dw (Bb (Aj (Aj (Bb (Aj ?_)))))))))
     refine Qr (Iq _) ?_
     have he:Hk ((l.take p).map (·.name)) a=Id a:=by unfold Hk;rw [if_pos hc3]
     rw [show Ep l=Hk ((l.take p).map (·.name)) a by unfold Ep;rw [if_neg (by simpa using hc1),hR.2,A8 ha,Nn (by rw [he];simpa using hc3)],he];rfl
    ·
     have hb3:=Bool.eq_false_iff.mp hc3
     refine By (Ai (Qp Dx (Qp Dx (Qp Az ?_))))
     refine Qp (Af (c:=[.str _,_]) Ah rfl rfl rfl rfl rfl rfl (by omega) (Bi ha)) ?_
     refine Qp (Qf [.str _,_]) (Qp Us ?_)
     refine Qp (Qc rfl (c88 l hl _)) ?_
     refine Qp Az (Qp Ch (Ag (A6 (fun hc4=>?_) fun hc4=>?_)))
     ·
      rw [Oy hna,←List.map_take] at hc4
      have hb4:((l.take p).map (·.name)).contains a.name=true:=hc4
      refine Ai (Qp Ap (Ag (AW.ret (Bb (Aj (Aj (Bb (Aj ?_))))))))
      refine Qr (Iq _) ?_
      have he:Hk ((l.take p).map (·.name)) a=7:=by unfold Hk;rw [if_neg hb3,if_pos hb4]
      rw [show Ep l=Hk ((l.take p).map (·.name)) a by unfold Ep;rw [if_neg (by simpa using hc1),hR.2,A8 ha,Nn (by rw [he];decide)],he];rfl
     ·
      rw [Oy hna,←List.map_take] at hc4
      have hb4:¬((l.take p).map (·.name)).contains a.name=true:=Bool.eq_false_iff.mp hc4
      have he0:Hk ((l.take p).map (·.name)) a=0:=by unfold Hk;rw [if_neg hb3,if_neg hb4]
      refine AW.skip (Bu (Ad (AW.region (Qp Az (Qp Ey (Qp Ap (Ag ?_)))))))
      refine ⟨p+1,?_,?_,GS.weaken ⟨rfl,rfl,trivial⟩ (.refl _)⟩
      · exact ⟨hlt,by rw [hR.2,A8 ha,Vn he0,fC ha]⟩
      · omega
   ·
    have hd:=Dc hc2
    refine AW.exit ?_
    refine A5 (A5 (Bq (Ad (Ai (Qp Ap (Ag (AW.ret ?_)))))))
    refine Qr (Iq _) ?_
    rw [show Ep l=0 by unfold Ep;rw [if_neg (by simpa using hc1),hR.2,hd];rfl];rfl

set_option maxHeartbeats 1600000
set_option maxRecDepth 20000

theorem eP {a b:Ex}(h:Ox a b=false):a.args.length=b.args.length:=by
 simp [Ox] at h;omega

def badS (l:List Ev):Bool:=decide (12<(l.length:Int))||l.any fun v=>decide (10<(v.values.length:Int))
def fewEnvS (vars:List (List Ev)):Bool:=!((vars.take 20).any badS)&&decide ((vars.length:Int)≤20)
def fewE (e:Ex):Bool:=decide (Ar e≤200∧Ct e≤100)
theorem c20 (a b:Ex)(hs:Ar a≤1048576):Ax Tryz.prog 142 [.agg (cE a),.agg (cE b)] (.bool (Lx a b)):=by
 revert b hs
 induction a using Ex.Aav
 rename_i a ih
 intro b hs
 have hal:=Ng a hs
 refine Ax.body (n:=67) Ah Tryz.func142 rfl rfl rfl fun H=>?_
 refine Ai (Qp Kx (Qp Kx (Qp Bl (Ag (AW.seq (Ai (Qp Jl (Qp Bp (Qp Jl ?_)))))))))
 refine Qp Bp (Qp Cr (Qp B0 (Qg [] Qw Te (Qg [(12,_)] Qw Bp (Qg [] Qw Te (Qg [(14,_)] Qw Bp ?_))))))
 refine AOL.Aar (y:=.bool _) _ [(13,_),(15,_)] rfl (nC.all ⟨Ent.Aam _ _,Ent.Aam _ _,trivial⟩) (fun hG=>P7 rfl rfl) rfl ?_
 refine Qp E1 (Qp B0 (Qg [] Qw Oq (Qg [(19,_)] Qw Bp (Qg [] Qw Oq (Qg [(21,_)] Qw Bp ?_)))))
 refine AOL.Aar (y:=.bool _) _ [(20,_),(22,_)] rfl (nC.all ⟨Ent.Aam _ _,Ent.Aam _ _,trivial⟩) (fun hG=>P7 rfl rfl) rfl ?_
 refine Qp E1 (Qp B0 (Qg [] Qw Sj (Qg [(26,_)] Qw Bp (Qg [] Qw Sj (Qg [(28,_)] Qw Bp ?_)))))
 refine AOL.Aar (y:=.bool _) _ [(27,_),(29,_)] rfl (nC.all ⟨Ent.Aam _ _,Ent.Aam _ _,trivial⟩) (fun hG=>P7 rfl rfl) rfl ?_
 refine Qp E1 (Qp B0 (Qg [] Qw Jq (Qg [(33,_)] Qw (Cq [Iq _,Iq _,.str _]) (Qg [] Qw Jq (Qg [(35,_)] Qw (Cq [Iq _,Iq _,.str _]) ?_)))))
 refine AOL.Aar (y:=.bool _) _ [(34,_),(36,_)] rfl (nC.all ⟨Ent.Aam _ _,Ent.Aam _ _,trivial⟩) (fun hG=>H0 Ah rfl rfl rfl rfl rfl) rfl ?_
 refine Qp E1 (Qp B0 (Qg [] Qw Lp (Qg [(40,_)] Qw Dy ?_)))
 refine AOL.Aar (y:=Iq _) _ [(41,_)] rfl (nC.all ⟨Ent.Aam _ _,trivial⟩) (fun hG=>Al (n:=a.args.length) Ah rfl rfl rfl (by simp)) rfl ?_
 refine Qg [] Qw Lp (Qg [(43,_)] Qw Dy ?_)
 refine AOL.Aar (y:=Iq _) _ [(44,_)] rfl (nC.all ⟨Ent.Aam _ _,trivial⟩) (fun hG=>Al (n:=b.args.length) Ah rfl rfl rfl (by simp)) rfl ?_
 refine AOL.Aar (y:=.bool _) _ [(42,_),(45,_)] rfl (nC.all ⟨Ent.Aam _ _,Ent.Aam _ _,trivial⟩) (fun hG=>P7 rfl rfl) rfl ?_
 refine Qp E1 (Ag (A6 (fun hc1=>?_) fun hc1=>?_))
 ·
  have hh:Ox a b=true:=by simpa [Ox] using hc1
  refine Ai (Qp Bl (Ag (Dw ?_)))
  refine Qr (.bool _) ?_
  rw [Sk,if_pos hh];rfl
 ·
  have hh:Ox a b=false:=by simpa [Ox] using hc1
  have hlen:=eP hh
  refine By (AW.seq (Ai (Qp Ap (Ag (AW.block ?_)))))
  refine AW.Aao (fun (p:Nat)=>(⟨[(2,.ptr (cE a)),(3,.ptr (cE b)),(5,.int .i64 (p:Int))],H,67⟩:St)) (fun (p:Nat)=>p≤a.args.length∧Re a.args b.args=Re (a.args.drop p) (b.args.drop p)) (fun (p:Nat)=>a.args.length-p) (0) ?_ (GS.weaken ⟨rfl,rfl,rfl,trivial⟩ (.refl _)) ?_
  · exact ⟨Nat.zero_le _,rfl⟩
  ·
   rintro p hR
   refine AW.seq (Ai (Qp Az (Qp Lp (Qp Dy ?_))))
   refine Qp (Al (n:=a.args.length) Ah rfl rfl rfl (by simp)) ?_
   refine Qp Ch (Ag (A6 (fun hc2=>?_) fun hc2=>?_))
   ·
    obtain ⟨x,hx⟩:=B5 hc2
    have hlt:=A4 hx
    have hm:=List.mem_of_getElem? hx
    obtain ⟨y,hy⟩:∃y,b.args[p]? = some y:=⟨_,List.getElem?_eq_getElem (by omega)⟩
    refine By (AW.seq (AW.block (AW.seq ?_)))
    refine AW.draw mixed (fun _=>True) trivial (by kernel_rfl) ?_
    refine Qn 0 rfl Lp (Qn 1 rfl Dy (Qn 2 rfl Az ?_))
    refine Qn 3 rfl (Af (c:=[Iq _,_,Iq _,Iq _,Iq _,Iq _,Iq _,.str _]) Ah rfl rfl rfl rfl rfl rfl (by omega) (Fo hx)) ?_
    refine Qn 4 rfl El (Qn 5 rfl Lp (Qn 6 rfl Dy (Qn 7 rfl Az ?_)))
    refine Qn 8 rfl (Af (c:=[Iq _,_,Iq _,Iq _,Iq _,Iq _,Iq _,.str _]) Ah rfl rfl rfl rfl rfl rfl (by omega) (Fo hy)) ?_
    refine Qn 9 rfl El ?_
    refine Qn 10 rfl (Qc rfl (ih x hm y (by have:=Fe hm;omega))) ?_
    refine Qn 11 rfl Hc ?_
    refine Jn.done _ _ (by kernel_rfl) ?_
    refine Ad (A6 (fun hc3=>?_) fun hc3=>?_)
    ·
     refine Ai (Qp Bl (Ag (AW.ret (Bb (Aj (Aj (Bb (Aj ?_))))))))
     refine Qr (.bool _) ?_
     rw [Sk,if_neg (by simp [hh]),hR.2,A8 hx,A8 hy];show _=AV.bool (if (!Lx x y)=true then false else _);rw [if_pos hc3];rfl
    ·
     refine AW.skip (Bu (Ad (AW.region (Qp Az (Qp Ey (Qp Ap (Ag ?_)))))))
     refine ⟨p+1,?_,?_,GS.weaken ⟨rfl,rfl,rfl,trivial⟩ (.refl _)⟩
     · exact ⟨hlt,by rw [hR.2,A8 hx,A8 hy,Re];simp [hc3]⟩
     · omega
   ·
    have hd:=Dc hc2
    refine AW.exit ?_
    refine A5 (A5 (Bq (Ad (Ai (Qp Bl (Ag (AW.ret ?_)))))))
    refine Qr (.bool _) ?_
    rw [Sk,if_neg (by simp [hh]),hR.2,hd];rfl
end Go.Proofs.YtjedflcpjlgokaaGreatDoor
