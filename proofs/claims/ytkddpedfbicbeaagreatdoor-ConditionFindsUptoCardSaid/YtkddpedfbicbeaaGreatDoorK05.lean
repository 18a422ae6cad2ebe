/-
  Several texts in one: W24, W13, W2. No condition.
-/
import Derived.Test.YtkddpedfbicbeaaGreatDoorK01
import Derived.Test.YtkddpedfbicbeaaGreatDoorK04
import Derived.KernelRfl
import Derived.Test.YtkddpedfbicbeaaGreatDoorW1
set_option linter.unusedVariables false
set_option linter.unusedSimpArgs false
namespace Go.Proofs.YtkddpedfbicbeaaGreatDoor
open Go Go.Aw
set_option maxHeartbeats 800000
set_option maxRecDepth 20000

theorem Z9 {ns:List (List UInt8)}{k:Nat}{n:List UInt8}(h:ns[k]? = some n)(hn:(ns.take k).contains n=false):O9 ns n=(k:Int):=by
 have h1:=Oh h
 rw [hn] at h1
 have hm:n∈ns:=List.mem_of_getElem? h
 have hc:ns.contains n=true:=by simpa using hm
 have h3:ns.idxOf n≤k:=by
  refine Nat.le_of_not_lt fun hlt=>?_
  have hk:k<ns.length:=Bb h
  have h4:=List.not_of_lt_findIdx (p:=fun x=>x==n) (xs:=ns) (i:=k) hlt
  have h5:ns[k]=n:=by rw [List.getElem?_eq_getElem hk] at h;exact Option.some.inj h
  simp only [h5] at h4
  simp at h4
 unfold O9 at h1 ⊢
 rw [if_pos hc] at h1 ⊢
 simp at h1
 omega
theorem Wx {ns:List (List UInt8)}{n:List UInt8}(h:ns.contains n=false):O9 ns n = -1:=by unfold O9;rw [if_neg (by simp only [h];decide)]
theorem Qu {ns:List (List UInt8)}{k:Nat}{m n:List UInt8}(h:ns[k]? = some m)(hn:(ns.take k).contains n=false)(hne:(m==n)=false):(ns.take (k+1)).contains n=false:=by
 rw [Cu h]
 have h1:m≠n:=by simpa using hne
 simp at hn ⊢
 exact ⟨hn,fun e=>h1 e.symm⟩
def Jn (s:Sc):Prop:=s.name.length≤1048576∧s.fields.length≤1048576∧∀f∈s.fields,f.name.length≤1048576
theorem Us {seen:List (List UInt8)}{a:Fi}{r:List Fi}(h:Eb seen a=0):Ij seen (a::r)=Ij (seen ++ [a.name]) r:=by rw [Ij,if_neg (by rw [h];decide)]
theorem I3 {seen:List (List UInt8)}{a:Fi}{r:List Fi}(h:Eb seen a≠0):Ij seen (a::r)=Eb seen a:=by rw [Ij,if_pos (by simpa using h)]
theorem Wz {seen:List (List UInt8)}{a:Sc}{r:List Sc}(h:H1 seen a=0):J0 seen (a::r)=J0 (seen ++ [a.name]) r:=by rw [J0,if_neg (by rw [h];decide)]
theorem Nq {seen:List (List UInt8)}{a:Sc}{r:List Sc}(h:H1 seen a≠0):J0 seen (a::r)=H1 seen a:=by rw [J0,if_pos (by simpa using h)]
theorem gE (k:Int):(k != 0&&k != 1&&k != 2)=(decide (k<0)||decide (3≤k)):=by
 rw [Bool.eq_iff_iff];simp;omega
theorem jT (s:List UInt8):(!L3 s||s==xX) = !Og s:=by
 unfold Og;cases L3 s <;> cases (s==xX) <;> rfl

theorem c105 (s:Sc)(hl:s.fields.length≤1048576)(n:List UInt8):Ax Tryz.prog 114 [.agg (N1 s),.str n] (.int .i64 (O9 (s.fields.map (·.name)) n)):=by
 refine Ax.body (n:=22) Ai Tryz.func114 rfl rfl rfl fun H=>?_
 refine Ah (Qp (F5 [.str _,_]) (Qp Av (Ag (AW.seq (Ah (Qp Av (Ag (AW.block ?_))))))))
 refine AW.Aa5 (fun (p:Nat)=>(⟨[(1,.str n),(2,.ptr (N1 s)),(5,.int .i64 (p:Int))],H,22⟩:St)) (fun (p:Nat)=>p≤s.fields.length∧((s.fields.map (·.name)).take p).contains n=false) (fun (p:Nat)=>s.fields.length-p) (0) ?_ (GS.weaken ⟨rfl,rfl,rfl,trivial⟩ (.refl _)) ?_
 · exact ⟨Nat.zero_le _,by simp⟩
 ·
  rintro p hR
  refine AW.seq (Ah (Qp A2 (Qp (Qf [_]) (Qp Dm ?_))))
  refine Qp (Ak (n:=s.fields.length) Ai rfl rfl rfl (by simp)) ?_
  refine Qp Cl (Ag (A5 (fun hc1=>?_) fun hc1=>?_))
  ·
   obtain ⟨a,ha⟩:=B4 hc1
   have hlt:=Bb ha
   have hm:=List.mem_of_getElem? ha
   have hna:(s.fields.map (·.name))[p]? = some a.name:=by simp [ha]
   refine Bz (AW.seq (AW.block (Ah (Qp (Qf [_]) (Qp Dm (Qp A2 ?_))))))
   refine Qp (Af (c:=[.str _,Iq _]) Ai rfl rfl rfl rfl rfl rfl (by omega) (Bj ha)) ?_
   refine Qp (Qf [.str _,Iq _]) (Qp Vu (Qp eM ?_))
   refine Qp (Pq rfl rfl) ?_
   refine Ag (A5 (fun hc2=>?_) fun hc2=>?_)
   ·
    refine Ah (Qp A2 (Qp Av (Ag (AW.ret (Bc (Aj (Aj (Bc (Aj ?_)))))))))
    refine Qr (Iq _) ?_
    have e:a.name=n:=by simpa using hc2
    rw [e] at hna
    rw [Z9 hna hR.2];rfl
   ·
    refine AW.skip (Bs (Ae (AW.region (Qp A2 (Qp Fx (Qp Av (Ag ?_)))))))
    refine ⟨p+1,?_,?_,GS.weaken ⟨rfl,rfl,rfl,trivial⟩ (.refl _)⟩
    · exact ⟨hlt,Qu hna hR.2 hc2⟩
    · omega
  ·
   have hte:=C5 hc1
   refine AW.exit ?_
   refine A8 (A8 (Bw (Ae (Ah (Qp Av (Ag (AW.ret ?_)))))))
   refine Qr (Iq _) ?_
   have h2:=hR.2
   rw [←List.map_take,hte] at h2
   rw [Wx h2];rfl
theorem c88 (l:List Sc)(hl:l.length≤1048576)(n:List UInt8):Ax Tryz.prog 73 [.sl 2 (l.map N1),.str n] (.int .i64 (O9 (l.map (·.name)) n)):=by
 refine Ax.body (n:=20) Ai Tryz.func73 rfl rfl rfl fun H=>?_
 refine Ah (Qp Av (Ag (AW.seq (Ah (Qp Av (Ag (AW.block ?_)))))))
 refine AW.Aa5 (fun (p:Nat)=>(⟨[(0,.sl 2 (l.map N1)),(1,.str n),(5,.int .i64 (p:Int))],H,20⟩:St)) (fun (p:Nat)=>p≤l.length∧((l.map (·.name)).take p).contains n=false) (fun (p:Nat)=>l.length-p) (0) ?_ (GS.weaken ⟨rfl,rfl,rfl,trivial⟩ (.refl _)) ?_
 · exact ⟨Nat.zero_le _,by simp⟩
 ·
  rintro p hR
  refine AW.seq (Ah (Qp A2 (Qp C6 ?_)))
  refine Qp (Ak (n:=l.length) Ai rfl rfl rfl (by simp)) ?_
  refine Qp Cl (Ag (A5 (fun hc1=>?_) fun hc1=>?_))
  ·
   obtain ⟨a,ha⟩:=B4 hc1
   have hlt:=Bb ha
   have hm:=List.mem_of_getElem? ha
   have hna:(l.map (·.name))[p]? = some a.name:=by simp [ha]
   refine Bz (AW.seq (AW.block (Ah (Qp C6 (Qp A2 ?_)))))
   refine Qp (Af (c:=[.str _,_]) Ai rfl rfl rfl rfl rfl rfl (by omega) (Bj ha)) ?_
   refine Qp (Qf [.str _,_]) (Qp Vu (Qp eM ?_))
   refine Qp (Pq rfl rfl) ?_
   refine Ag (A5 (fun hc2=>?_) fun hc2=>?_)
   ·
    refine Ah (Qp A2 (Qp Av (Ag (AW.ret (Bc (Aj (Aj (Bc (Aj ?_)))))))))
    refine Qr (Iq _) ?_
    have e:a.name=n:=by simpa using hc2
    rw [e] at hna
    rw [Z9 hna hR.2];rfl
   ·
    refine AW.skip (Bs (Ae (AW.region (Qp A2 (Qp Fx (Qp Av (Ag ?_)))))))
    refine ⟨p+1,?_,?_,GS.weaken ⟨rfl,rfl,rfl,trivial⟩ (.refl _)⟩
    · exact ⟨hlt,Qu hna hR.2 hc2⟩
    · omega
  ·
   have hte:=C5 hc1
   refine AW.exit ?_
   refine A8 (A8 (Bw (Ae (Ah (Qp Av (Ag (AW.ret ?_)))))))
   refine Qr (Iq _) ?_
   have h2:=hR.2
   rw [←List.map_take,hte] at h2
   rw [Wx h2];rfl
theorem c85 (s:Sc)(hs:Jn s):Ax Tryz.prog 155 [.agg (N1 s)] (.int .i64 (Il s)):=by
 refine Ax.body (n:=45) Ai Tryz.func155 rfl rfl rfl fun H=>?_
 refine Ah (Qp (F5 [.str _,_]) (Qp Av (Ag (AW.seq (Ah (Qp (Qf [.str _,_]) (Qp Vu ?_)))))))
 refine Qp (Qc rfl (c102 _ hs.1)) ?_
 refine Qp Gt (Ag (A5 (fun hc1=>?_) fun hc1=>?_))
 ·
  refine Ah (Qp Av (Ag (Du ?_)))
  refine Qr (Iq _) ?_
  rw [show Il s=8 by unfold Il;rw [if_pos (by simpa using hc1)]];rfl
 ·
  refine Bz (AW.seq (Ah (Qp (Qf [_]) (Qp Dm ?_))))
  refine Qp (Ak (n:=s.fields.length) Ai rfl rfl rfl (by simp)) ?_
  refine Qp Hi (Ag (A5 (fun hc2=>?_) fun hc2=>?_))
  ·
   refine Ah (Qp Av (Ag (Du ?_)))
   refine Qr (Iq _) ?_
   rw [show Il s=5 by unfold Il;rw [if_neg (by simpa using hc1),if_pos (by simpa using hc2)]];rfl
  ·
   refine Bz (Ah ?_)
   refine Qe (Rn) ?_
   rintro _ _ ⟨b14,rfl,rfl⟩
   refine Qp N8 (Ag (AW.seq (Ah (Qp (Qf [_]) (Qp Dm ?_)))))
   refine Qp (Ak (n:=s.fields.length) Ai rfl rfl rfl (by simp)) ?_
   refine Qp A2 (Ag (AW.block ?_))
   have hfl:=hs.2.1
   refine AW.Aa5 (fun (p:Nat×List (List UInt8))=>(⟨[(3,.val (.map (some b14))),(16,.sl 2 (s.fields.map cFi)),(17,.int .i64 s.fields.length),(18,.int .i64 (p.1:Int))],.smap b14 (Vq p.2)::H,45⟩:St)) (fun (p:Nat×List (List UInt8))=>p.1≤s.fields.length∧Ij [] s.fields=Ij p.2 (s.fields.drop p.1)) (fun (p:Nat×List (List UInt8))=>s.fields.length-p.1) ((0,[])) ?_ (GS.weaken ⟨rfl,rfl,rfl,rfl,trivial⟩ (.refl _)) ?_
   · exact ⟨Nat.zero_le _,rfl⟩
   ·
    rintro p hR
    refine Ah (Qp Cl (Ag (AW.seq (A5 (fun hc3=>?_) fun hc3=>?_))))
    ·
     obtain ⟨a,ha⟩:=B4 hc3
     have hlt:=Bb ha
     have hm:=List.mem_of_getElem? ha
     refine Bz (AW.seq (AW.block (Ah ?_)))
     refine Qp (Af (c:=[.str _,Iq _]) Ai rfl rfl rfl rfl rfl rfl (by omega) (Bj ha)) ?_
     refine Qp (Cm [.str _,Iq _]) ?_
     refine Qe (Al (l:=[.str [],.int .i64 0]) (by kernel_rfl)) ?_
     rintro _ _ ⟨b5,rfl,rfl⟩
     refine Co 0 [.str _,Iq _] (_::_::_) ?_
     refine AOL.ghost (GS.Aa4 (t:=5) 0 rfl rfl) ?_
     refine Ag (AW.seq (AW.block (Ah (Qp (Qf [.str _,Iq _]) (Qp Vu ?_)))))
     refine Qp (Qc rfl (c103 _ (hs.2.2 a hm))) ?_
     refine Qp Gt (Qp Bg (Ag (A5 (fun hc4=>?_) fun hc4=>?_)))
     ·
      have hb4:(!Og a.name)=true:=hc4
      refine Ah (Qp Av (Ag (AW.ret (Bc (Aj (Bc (Aj (Aj (Bc ?_)))))))))
      refine Aj ?_
      refine ⟨.inr rfl,[Iq _],.cons (.tmp _ _ rfl) <| .nil,.cons _ (.refl _),?_⟩
      have he:Eb p.2 a=8:=by
       unfold Eb;rw [if_pos hb4]
      rw [show Il s=Eb p.2 a by unfold Il;rw [if_neg (by simpa using hc1),if_neg (by simpa using hc2),hR.2,Ba ha,I3 (by rw [he];decide)],he];rfl
     ·
      have hb4:¬(!Og a.name)=true:=by simpa using hc4
      refine Ah (Qp H4 (Qp (Qf [.str _,Iq _]) (Qp Vu ?_)))
      refine AOL.Aa9 (aB (i:=0) (ks:=p.2) Ai rfl rfl rfl rfl rfl (by kernel_rfl) rfl rfl rfl) rfl rfl ?_
      refine Qp Bg (Ag (A5 (fun hc5=>?_) fun hc5=>?_))
      ·
       have hb5:p.2.contains a.name=true:=hc5
       refine Ah (Qp Av (Ag (AW.ret (Bc (Aj (Bc (Aj (Aj (Bc ?_)))))))))
       refine Aj ?_
       refine ⟨.inr rfl,[Iq _],.cons (.tmp _ _ rfl) <| .nil,.cons _ (.refl _),?_⟩
       have he:Eb p.2 a=7:=by
        unfold Eb;rw [if_neg hb4,if_pos hb5]
       rw [show Il s=Eb p.2 a by unfold Il;rw [if_neg (by simpa using hc1),if_neg (by simpa using hc2),hR.2,Ba ha,I3 (by rw [he];decide)],he];rfl
      ·
       have hb5:¬p.2.contains a.name=true:=by simpa using hc5
       refine Ah (Qp (Qf [Iq _]) (Qp Bt (Qp Cl (Qp Br (Qg [] Qw (Qf [Iq _]) (Qg [(37,_)] Qw Bt (Qg [(38,_)] Qw N7 (Qp E5 (Qp Bg ?_)))))))))
       refine Ag (A5 (fun hc6=>?_) fun hc6=>?_)
       ·
        have hb6:=hc6
        refine Ah (Qp Av (Ag (AW.ret (Bc (Aj (Bc (Aj (Aj (Bc ?_)))))))))
        refine Aj ?_
        refine ⟨.inr rfl,[Iq _],.cons (.tmp _ _ rfl) <| .nil,.cons _ (.refl _),?_⟩
        have he:Eb p.2 a=1:=by
         unfold Eb;rw [if_neg hb4,if_neg hb5,if_pos hb6]
        rw [show Il s=Eb p.2 a by unfold Il;rw [if_neg (by simpa using hc1),if_neg (by simpa using hc2),hR.2,Ba ha,I3 (by rw [he];decide)],he];rfl
       ·
        have hb6:=Bool.eq_false_iff.mp hc6
        have he0:Eb p.2 a=0:=by unfold Eb;rw [if_neg hb4,if_neg hb5,if_neg hb6]
        refine AW.skip (Bs (Ae (AW.region (Qp H4 (Qp (Qf [.str _,Iq _]) (Qp Vu ?_))))))
        refine Qe (fA (i:=0) (H2:=_::_) Ai rfl rfl rfl rfl rfl rfl rfl rfl (by simpa using hb5) rfl) ?_
        rintro _ _ ⟨rfl,rfl⟩
        refine AOL.nil (Bs (Ae (AW.region (Qp Fx (Qp A2 (Ag ?_))))))
        refine ⟨(p.1+1,p.2 ++ [a.name]),?_,?_,GS.weaken ⟨rfl,rfl,rfl,rfl,trivial⟩ (.refl _)⟩
        · exact ⟨hlt,by rw [hR.2,Ba ha,Us he0]⟩
        · first | omega | (simp only;omega)
    ·
     have hd:=Di hc3
     refine AW.exit ?_
     refine A8 (A8 (Bw (Ae (Ah (Qp Av (Ag (AW.ret ?_)))))))
     refine ⟨.inr rfl,[Iq _],.cons (.tmp _ _ rfl) <| .nil,.cons _ (.refl _),?_⟩
     rw [show Il s=0 by unfold Il;rw [if_neg (by simpa using hc1),if_neg (by simpa using hc2),hR.2,hd];rfl];rfl
theorem c87 (s:Sc)(hs:Jn s):Ax Tryz.prog 72 [.agg (N1 s)] (.int .i64 (Il s)):=by
 refine Ax.body (n:=53) Ai Tryz.func72 rfl rfl rfl fun H=>?_
 refine Ah (Qp (F5 [.str _,_]) (Qp Av (Ag (AW.seq (Ah (Qp (Qf [.str _,_]) (Qp Vu ?_)))))))
 refine Qp (Qc rfl (c104 _ hs.1)) ?_
 refine Qp Gt (Ag (A5 (fun hc1=>?_) fun hc1=>?_))
 ·
  refine Ah (Qp Av (Ag (Du ?_)))
  refine Qr (Iq _) ?_
  rw [show Il s=8 by unfold Il;rw [if_pos (by simpa using hc1)]];rfl
 ·
  refine Bz (AW.seq (Ah (Qp (Qf [_]) (Qp Dm ?_))))
  refine Qp (Ak (n:=s.fields.length) Ai rfl rfl rfl (by simp)) ?_
  refine Qp Hi (Ag (A5 (fun hc2=>?_) fun hc2=>?_))
  ·
   refine Ah (Qp Av (Ag (Du ?_)))
   refine Qr (Iq _) ?_
   rw [show Il s=5 by unfold Il;rw [if_neg (by simpa using hc1),if_pos (by simpa using hc2)]];rfl
  ·
   refine Bz (AW.seq (Ah (Qp Av (Ag (AW.block ?_)))))
   have hfl:=hs.2.1
   refine AW.Aa5 (fun (p:Nat)=>(⟨[(1,.ptr (N1 s)),(3,.int .i64 (p:Int))],H,53⟩:St)) (fun (p:Nat)=>p≤s.fields.length∧Ij [] s.fields=Ij ((s.fields.take p).map (·.name)) (s.fields.drop p)) (fun (p:Nat)=>s.fields.length-p) (0) ?_ (GS.weaken ⟨rfl,rfl,trivial⟩ (.refl _)) ?_
   · exact ⟨Nat.zero_le _,rfl⟩
   ·
    rintro p hR
    refine AW.seq (Ah (Qp A2 (Qp (Qf [_]) (Qp Dm ?_))))
    refine Qp (Ak (n:=s.fields.length) Ai rfl rfl rfl (by simp)) ?_
    refine Qp Cl (Ag (A5 (fun hc3=>?_) fun hc3=>?_))
    ·
     obtain ⟨a,ha⟩:=B4 hc3
     have hlt:=Bb ha
     have hm:=List.mem_of_getElem? ha
     have hna:(s.fields.map (·.name))[p]? = some a.name:=by simp [ha]
     refine Bz (AW.seq (AW.block (Ah (Qp (Qf [_]) (Qp Dm (Qp A2 ?_))))))
     refine Qp (Af (c:=[.str _,Iq _]) Ai rfl rfl rfl rfl rfl rfl (by omega) (Bj ha)) ?_
     refine Qp (Cm [.str _,Iq _]) ?_
     refine Qe (Al (l:=[.str [],.int .i64 0]) (by kernel_rfl)) ?_
     rintro _ _ ⟨b4,rfl,rfl⟩
     refine Co 0 [.str _,Iq _] (_::_) ?_
     refine AOL.ghost (GS.Aa4 (t:=4) 0 rfl rfl) ?_
     refine Ag (AW.seq (Ah (Qp (Qf [.str _,Iq _]) (Qp Vu ?_))))
     refine Qp (Qc rfl (c104 _ (hs.2.2 a hm))) ?_
     refine Qp Gt (Qp Br (Qg [] Qw (Qf [.str _,Iq _]) (Qg [(30,_)] Qw Vu ?_)))
     refine AOL.Aa6 (y:=.bool _) _ [(31,_)] rfl (sF.all ⟨Ent.Aa3 _ _,trivial⟩) (fun hG=>Pq rfl rfl) rfl ?_
     refine Qp E5 (Ag (A5 (fun hc4=>?_) fun hc4=>?_))
     ·
      have hb4:(!Og a.name)=true:=by rw [←jT];exact hc4
      refine Ah (Qp Av (Ag (Du (Bc (Aj (Aj (Bc (Aj ?_))))))))
      refine Qr (Iq _) ?_
      have he:Eb ((s.fields.take p).map (·.name)) a=8:=by
       unfold Eb;rw [if_pos hb4]
      rw [show Il s=Eb ((s.fields.take p).map (·.name)) a by unfold Il;rw [if_neg (by simpa using hc1),if_neg (by simpa using hc2),hR.2,Ba ha,I3 (by rw [he];decide)],he];rfl
     ·
      have hb4:¬(!Og a.name)=true:=by rw [←jT];exact Bool.eq_false_iff.mp hc4
      refine Bz (AW.seq (Ah (Qp (Cm [.str _,_]) (Qp (Qf [.str _,Iq _]) (Qp Vu ?_)))))
      refine Qp (Qc rfl (c105 s hs.2.1 _)) ?_
      refine Qp A2 (Qp Cl (Ag (A5 (fun hc5=>?_) fun hc5=>?_)))
      ·
       rw [Oh hna,←List.map_take] at hc5
       have hb5:((s.fields.take p).map (·.name)).contains a.name=true:=hc5
       refine Ah (Qp Av (Ag (Du (Bc (Aj (Aj (Bc (Aj ?_))))))))
       refine Qr (Iq _) ?_
       have he:Eb ((s.fields.take p).map (·.name)) a=7:=by
        unfold Eb;rw [if_neg hb4,if_pos hb5]
       rw [show Il s=Eb ((s.fields.take p).map (·.name)) a by unfold Il;rw [if_neg (by simpa using hc1),if_neg (by simpa using hc2),hR.2,Ba ha,I3 (by rw [he];decide)],he];rfl
      ·
       rw [Oh hna,←List.map_take] at hc5
       have hb5:¬((s.fields.take p).map (·.name)).contains a.name=true:=Bool.eq_false_iff.mp hc5
       refine Bz (Ah (Qp (Qf [Iq _]) (Qp Bt (Qp Ct (Qp Br (Qg [] Qw (Qf [Iq _]) (Qg [(44,_)] Qw Bt (Qg [(45,_)] Qw Ct (Qp E3 ?_)))))))))
       refine Qp Br (Qg [] Qw (Qf [Iq _]) (Qg [(49,_)] Qw Bt (Qg [(50,_)] Qw Ct (Qp E3 (Ag (A5 (fun hc6=>?_) fun hc6=>?_))))))
       ·
        have hb6:=(gE a.kind).symm.trans hc6
        refine Ah (Qp Av (Ag (AW.ret (Bc (Aj (Aj (Bc (Aj ?_))))))))
        refine Qr (Iq _) ?_
        have he:Eb ((s.fields.take p).map (·.name)) a=1:=by
         unfold Eb;rw [if_neg hb4,if_neg hb5,if_pos hb6]
        rw [show Il s=Eb ((s.fields.take p).map (·.name)) a by unfold Il;rw [if_neg (by simpa using hc1),if_neg (by simpa using hc2),hR.2,Ba ha,I3 (by rw [he];decide)],he];rfl
       ·
        have hb6:=Bool.eq_false_iff.mp ((gE a.kind).symm.trans hc6)
        have he0:Eb ((s.fields.take p).map (·.name)) a=0:=by unfold Eb;rw [if_neg hb4,if_neg hb5,if_neg hb6]
        refine AW.skip (Bs (Ae (AW.region (Qp A2 (Qp Fx (Qp Av (Ag ?_)))))))
        refine ⟨p+1,?_,?_,GS.weaken ⟨rfl,rfl,trivial⟩ (.refl _)⟩
        · exact ⟨hlt,by rw [hR.2,Ba ha,Us he0,mX ha]⟩
        · omega
    ·
     have hd:=Di hc3
     refine AW.exit ?_
     refine A8 (A8 (Bw (Ae (Ah (Qp Av (Ag (AW.ret ?_)))))))
     refine Qr (Iq _) ?_
     rw [show Il s=0 by unfold Il;rw [if_neg (by simpa using hc1),if_neg (by simpa using hc2),hR.2,hd];rfl];rfl
theorem c57 (l:List Sc)(hl:l.length≤1048576)(hs:∀s∈l,Jn s):Ax Tryz.prog 132 [.sl 2 (l.map N1)] (.int .i64 (Ed l)):=by
 refine Ax.body (n:=30) Ai Tryz.func132 rfl rfl rfl fun H=>?_
 refine Ah (Qp Av (Ag (AW.seq (Ah (Qp C6 ?_)))))
 refine Qp (Ak (n:=l.length) Ai rfl rfl rfl (by simp)) ?_
 refine Qp Hi (Ag (A5 (fun hc1=>?_) fun hc1=>?_))
 ·
  refine Ah (Qp Av (Ag (Du ?_)))
  refine Qr (Iq _) ?_
  rw [show Ed l=5 by unfold Ed;rw [if_pos (by simpa using hc1)]];rfl
 ·
  refine Bz (Ah ?_)
  refine Qe (Rn) ?_
  rintro _ _ ⟨b10,rfl,rfl⟩
  refine Qp N8 (Ag (AW.seq (Ah (Qp C6 ?_))))
  refine Qp (Ak (n:=l.length) Ai rfl rfl rfl (by simp)) ?_
  refine Qp A2 (Ag (AW.block ?_))
  refine AW.Aa5 (fun (p:Nat×List (List UInt8))=>(⟨[(3,.val (.map (some b10))),(11,.sl 2 (l.map N1)),(12,.int .i64 l.length),(13,.int .i64 (p.1:Int))],.smap b10 (Vq p.2)::H,30⟩:St)) (fun (p:Nat×List (List UInt8))=>p.1≤l.length∧J0 [] l=J0 p.2 (l.drop p.1)) (fun (p:Nat×List (List UInt8))=>l.length-p.1) ((0,[])) ?_ (GS.weaken ⟨rfl,rfl,rfl,rfl,trivial⟩ (.refl _)) ?_
  · exact ⟨Nat.zero_le _,rfl⟩
  ·
   rintro p hR
   refine Ah (Qp Cl (Ag (AW.seq (A5 (fun hc2=>?_) fun hc2=>?_))))
   ·
    obtain ⟨a,ha⟩:=B4 hc2
    have hlt:=Bb ha
    have hm:=List.mem_of_getElem? ha
    refine Bz (AW.seq (AW.block (Ah ?_)))
    refine Qp (Af (c:=[.str _,_]) Ai rfl rfl rfl rfl rfl rfl (by omega) (Bj ha)) ?_
    refine Qp (Cm [.str _,_]) ?_
    refine Qe (Al (l:=[.str [],.sl 2 []]) (by kernel_rfl)) ?_
    rintro _ _ ⟨b5,rfl,rfl⟩
    refine Co 0 [.str _,_] (_::_::_) ?_
    refine AOL.ghost (GS.Aa4 (t:=5) 0 rfl rfl) ?_
    refine Ag (AW.seq (Ah (Qp (Cm [.str _,_]) ?_)))
    refine Qp (Qc rfl (c85 a (hs a hm))) ?_
    refine Qp Av (Dh (Qp A2 (Qp Ct (Ag (A5 (fun hc3=>?_) fun hc3=>?_)))))
    ·
     refine Ah (Qp A2 (Qp Av (Ag (Du (Bc (Aj (Aj (Bc (Aj ?_)))))))))
     refine ⟨.inr rfl,[Iq _],.cons (.tmp _ _ rfl) <| .nil,.cons _ (.refl _),?_⟩
     have he:H1 p.2 a=Il a:=by unfold H1;rw [if_pos hc3]
     rw [show Ed l=H1 p.2 a by unfold Ed;rw [if_neg (by simpa using hc1),hR.2,Ba ha,Nq (by rw [he];simpa using hc3)],he];rfl
    ·
     have hb3:=Bool.eq_false_iff.mp hc3
     refine Bz (AW.seq (Ah (Qp H4 (Qp (Qf [.str _,_]) (Qp Vu ?_)))))
     refine AOL.Aa9 (aB (i:=0) (ks:=p.2) Ai rfl rfl rfl rfl rfl (by kernel_rfl) rfl rfl rfl) rfl rfl ?_
     refine Ag (A5 (fun hc4=>?_) fun hc4=>?_)
     ·
      have hb4:p.2.contains a.name=true:=hc4
      refine Ah (Qp Av (Ag (Du (Bc (Aj (Aj (Bc (Aj ?_))))))))
      refine ⟨.inr rfl,[Iq _],.cons (.tmp _ _ rfl) <| .nil,.cons _ (.refl _),?_⟩
      have he:H1 p.2 a=7:=by unfold H1;rw [if_neg hb3,if_pos hb4]
      rw [show Ed l=H1 p.2 a by unfold Ed;rw [if_neg (by simpa using hc1),hR.2,Ba ha,Nq (by rw [he];decide)],he];rfl
     ·
      have hb4:¬p.2.contains a.name=true:=by simpa using hc4
      have he0:H1 p.2 a=0:=by unfold H1;rw [if_neg hb3,if_neg hb4]
      refine Bz (AW.region (Qp H4 (Qp (Qf [.str _,_]) (Qp Vu ?_))))
      refine Qe (fA (i:=0) (H2:=_::_) Ai rfl rfl rfl rfl rfl rfl rfl rfl (by simpa using hb4) rfl) ?_
      rintro _ _ ⟨rfl,rfl⟩
      refine AOL.nil (Bs (Ae (AW.region (Qp Fx (Qp A2 (Ag ?_))))))
      refine ⟨(p.1+1,p.2 ++ [a.name]),?_,?_,GS.weaken ⟨rfl,rfl,rfl,rfl,trivial⟩ (.refl _)⟩
      · exact ⟨hlt,by rw [hR.2,Ba ha,Wz he0]⟩
      · first | omega | (simp only;omega)
   ·
    have hd:=Di hc2
    refine AW.exit ?_
    refine A8 (A8 (Bw (Ae (Ah (Qp Av (Ag (AW.ret ?_)))))))
    refine ⟨.inr rfl,[Iq _],.cons (.tmp _ _ rfl) <| .nil,.cons _ (.refl _),?_⟩
    rw [show Ed l=0 by unfold Ed;rw [if_neg (by simpa using hc1),hR.2,hd];rfl];rfl
theorem c59 (l:List Sc)(hl:l.length≤1048576)(hs:∀s∈l,Jn s):Ax Tryz.prog 34 [.sl 2 (l.map N1)] (.int .i64 (Ed l)):=by
 refine Ax.body (n:=31) Ai Tryz.func34 rfl rfl rfl fun H=>?_
 refine Ah (Qp Av (Ag (AW.seq (Ah (Qp C6 ?_)))))
 refine Qp (Ak (n:=l.length) Ai rfl rfl rfl (by simp)) ?_
 refine Qp Hi (Ag (A5 (fun hc1=>?_) fun hc1=>?_))
 ·
  refine Ah (Qp Av (Ag (Du ?_)))
  refine Qr (Iq _) ?_
  rw [show Ed l=5 by unfold Ed;rw [if_pos (by simpa using hc1)]];rfl
 ·
  refine Bz (AW.seq (Ah (Qp Av (Ag (AW.block ?_)))))
  refine AW.Aa5 (fun (p:Nat)=>(⟨[(0,.sl 2 (l.map N1)),(3,.int .i64 (p:Int))],H,31⟩:St)) (fun (p:Nat)=>p≤l.length∧J0 [] l=J0 ((l.take p).map (·.name)) (l.drop p)) (fun (p:Nat)=>l.length-p) (0) ?_ (GS.weaken ⟨rfl,rfl,trivial⟩ (.refl _)) ?_
  · exact ⟨Nat.zero_le _,rfl⟩
  ·
   rintro p hR
   refine AW.seq (Ah (Qp A2 (Qp C6 ?_)))
   refine Qp (Ak (n:=l.length) Ai rfl rfl rfl (by simp)) ?_
   refine Qp Cl (Ag (A5 (fun hc2=>?_) fun hc2=>?_))
   ·
    obtain ⟨a,ha⟩:=B4 hc2
    have hlt:=Bb ha
    have hm:=List.mem_of_getElem? ha
    have hna:(l.map (·.name))[p]? = some a.name:=by simp [ha]
    refine Bz (AW.seq (AW.block (AW.seq (Ah (Qp C6 (Qp A2 ?_))))))
    refine Qp (Af (c:=[.str _,_]) Ai rfl rfl rfl rfl rfl rfl (by omega) (Bj ha)) ?_
    refine Qp (Cm [.str _,_]) ?_
    refine Qp (Qc rfl (c87 a (hs a hm))) ?_
    refine Qp Av (Dh (Qp A2 (Qp Ct (Ag (A5 (fun hc3=>?_) fun hc3=>?_)))))
    ·
     refine Ah (Qp A2 (Qp Av (Ag (Du (Bc (Aj (Aj (Bc (Aj ?_)))))))))
     refine Qr (Iq _) ?_
     have he:H1 ((l.take p).map (·.name)) a=Il a:=by unfold H1;rw [if_pos hc3]
     rw [show Ed l=H1 ((l.take p).map (·.name)) a by unfold Ed;rw [if_neg (by simpa using hc1),hR.2,Ba ha,Nq (by rw [he];simpa using hc3)],he];rfl
    ·
     have hb3:=Bool.eq_false_iff.mp hc3
     refine Bz (Ah (Qp C6 (Qp C6 (Qp A2 ?_))))
     refine Qp (Af (c:=[.str _,_]) Ai rfl rfl rfl rfl rfl rfl (by omega) (Bj ha)) ?_
     refine Qp (Qf [.str _,_]) (Qp Vu ?_)
     refine Qp (Qc rfl (c88 l hl _)) ?_
     refine Qp A2 (Qp Cl (Ag (A5 (fun hc4=>?_) fun hc4=>?_)))
     ·
      rw [Oh hna,←List.map_take] at hc4
      have hb4:((l.take p).map (·.name)).contains a.name=true:=hc4
      refine Ah (Qp Av (Ag (AW.ret (Bc (Aj (Aj (Bc (Aj ?_))))))))
      refine Qr (Iq _) ?_
      have he:H1 ((l.take p).map (·.name)) a=7:=by unfold H1;rw [if_neg hb3,if_pos hb4]
      rw [show Ed l=H1 ((l.take p).map (·.name)) a by unfold Ed;rw [if_neg (by simpa using hc1),hR.2,Ba ha,Nq (by rw [he];decide)],he];rfl
     ·
      rw [Oh hna,←List.map_take] at hc4
      have hb4:¬((l.take p).map (·.name)).contains a.name=true:=Bool.eq_false_iff.mp hc4
      have he0:H1 ((l.take p).map (·.name)) a=0:=by unfold H1;rw [if_neg hb3,if_neg hb4]
      refine AW.skip (Bs (Ae (AW.region (Qp A2 (Qp Fx (Qp Av (Ag ?_)))))))
      refine ⟨p+1,?_,?_,GS.weaken ⟨rfl,rfl,trivial⟩ (.refl _)⟩
      · exact ⟨hlt,by rw [hR.2,Ba ha,Wz he0,fE ha]⟩
      · omega
   ·
    have hd:=Di hc2
    refine AW.exit ?_
    refine A8 (A8 (Bw (Ae (Ah (Qp Av (Ag (AW.ret ?_)))))))
    refine Qr (Iq _) ?_
    rw [show Ed l=0 by unfold Ed;rw [if_neg (by simpa using hc1),hR.2,hd];rfl];rfl

set_option maxHeartbeats 1600000
set_option maxRecDepth 20000

theorem fG {a b:Ex}(h:O1 a b=false):a.args.length=b.args.length:=by
 simp [O1] at h;omega

def badS (l:List Ev):Bool:=decide (12<(l.length:Int))||l.any fun v=>decide (10<(v.values.length:Int))
def fewEnvS (vars:List (List Ev)):Bool:=!((vars.take 20).any badS)&&decide ((vars.length:Int)≤20)
def fewE (e:Ex):Bool:=decide (At e≤200∧E0 e≤100)
theorem c20 (a b:Ex)(hs:At a≤1048576):Ax Tryz.prog 22 [.agg (cE a),.agg (cE b)] (.bool (Li a b)):=by
 revert b hs
 induction a using Ex.Abb
 rename_i a ih
 intro b hs
 have hal:=Na a hs
 refine Ax.body (n:=67) Ai Tryz.func22 rfl rfl rfl fun H=>?_
 refine Ah (Qp La (Qp La (Qp Bg (Ag (AW.seq (Ah (Qp Kv (Qp Bt (Qp Kv ?_)))))))))
 refine Qp Bt (Qp Ct (Qp Br (Qg [] Qw Yy (Qg [(12,_)] Qw Bt (Qg [] Qw Yy (Qg [(14,_)] Qw Bt ?_))))))
 refine AOL.Aa6 (y:=.bool _) _ [(13,_),(15,_)] rfl (sF.all ⟨Ent.Aa3 _ _,Ent.Aa3 _ _,trivial⟩) (fun hG=>Ou rfl rfl) rfl ?_
 refine Qp E5 (Qp Br (Qg [] Qw Qt (Qg [(19,_)] Qw Bt (Qg [] Qw Qt (Qg [(21,_)] Qw Bt ?_)))))
 refine AOL.Aa6 (y:=.bool _) _ [(20,_),(22,_)] rfl (sF.all ⟨Ent.Aa3 _ _,Ent.Aa3 _ _,trivial⟩) (fun hG=>Ou rfl rfl) rfl ?_
 refine Qp E5 (Qp Br (Qg [] Qw R0 (Qg [(26,_)] Qw Bt (Qg [] Qw R0 (Qg [(28,_)] Qw Bt ?_)))))
 refine AOL.Aa6 (y:=.bool _) _ [(27,_),(29,_)] rfl (sF.all ⟨Ent.Aa3 _ _,Ent.Aa3 _ _,trivial⟩) (fun hG=>Ou rfl rfl) rfl ?_
 refine Qp E5 (Qp Br (Qg [] Qw Jr (Qg [(33,_)] Qw (Cm [Iq _,Iq _,.str _]) (Qg [] Qw Jr (Qg [(35,_)] Qw (Cm [Iq _,Iq _,.str _]) ?_)))))
 refine AOL.Aa6 (y:=.bool _) _ [(34,_),(36,_)] rfl (sF.all ⟨Ent.Aa3 _ _,Ent.Aa3 _ _,trivial⟩) (fun hG=>Hp Ai rfl rfl rfl rfl rfl) rfl ?_
 refine Qp E5 (Qp Br (Qg [] Qw K7 (Qg [(40,_)] Qw Dm ?_)))
 refine AOL.Aa6 (y:=Iq _) _ [(41,_)] rfl (sF.all ⟨Ent.Aa3 _ _,trivial⟩) (fun hG=>Ak (n:=a.args.length) Ai rfl rfl rfl (by simp)) rfl ?_
 refine Qg [] Qw K7 (Qg [(43,_)] Qw Dm ?_)
 refine AOL.Aa6 (y:=Iq _) _ [(44,_)] rfl (sF.all ⟨Ent.Aa3 _ _,trivial⟩) (fun hG=>Ak (n:=b.args.length) Ai rfl rfl rfl (by simp)) rfl ?_
 refine AOL.Aa6 (y:=.bool _) _ [(42,_),(45,_)] rfl (sF.all ⟨Ent.Aa3 _ _,Ent.Aa3 _ _,trivial⟩) (fun hG=>Ou rfl rfl) rfl ?_
 refine Qp E5 (Ag (A5 (fun hc1=>?_) fun hc1=>?_))
 ·
  have hh:O1 a b=true:=by simpa [O1] using hc1
  refine Ah (Qp Bg (Ag (Du ?_)))
  refine Qr (.bool _) ?_
  rw [S5,if_pos hh];rfl
 ·
  have hh:O1 a b=false:=by simpa [O1] using hc1
  have hlen:=fG hh
  refine Bz (AW.seq (Ah (Qp Av (Ag (AW.block ?_)))))
  refine AW.Aa5 (fun (p:Nat)=>(⟨[(2,.ptr (cE a)),(3,.ptr (cE b)),(5,.int .i64 (p:Int))],H,67⟩:St)) (fun (p:Nat)=>p≤a.args.length∧S0 a.args b.args=S0 (a.args.drop p) (b.args.drop p)) (fun (p:Nat)=>a.args.length-p) (0) ?_ (GS.weaken ⟨rfl,rfl,rfl,trivial⟩ (.refl _)) ?_
  · exact ⟨Nat.zero_le _,rfl⟩
  ·
   rintro p hR
   refine AW.seq (Ah (Qp A2 (Qp K7 (Qp Dm ?_))))
   refine Qp (Ak (n:=a.args.length) Ai rfl rfl rfl (by simp)) ?_
   refine Qp Cl (Ag (A5 (fun hc2=>?_) fun hc2=>?_))
   ·
    obtain ⟨x,hx⟩:=B4 hc2
    have hlt:=Bb hx
    have hm:=List.mem_of_getElem? hx
    obtain ⟨y,hy⟩:∃y,b.args[p]? = some y:=⟨_,List.getElem?_eq_getElem (by omega)⟩
    refine Bz (AW.seq (AW.block (AW.seq ?_)))
    refine AW.draw mixed (fun _=>True) trivial (by kernel_rfl) ?_
    refine Qn 0 rfl K7 (Qn 1 rfl Dm (Qn 2 rfl A2 ?_))
    refine Qn 3 rfl (Af (c:=[Iq _,_,Iq _,Iq _,Iq _,Iq _,Iq _,.str _]) Ai rfl rfl rfl rfl rfl rfl (by omega) (Fb hx)) ?_
    refine Qn 4 rfl D1 (Qn 5 rfl K7 (Qn 6 rfl Dm (Qn 7 rfl A2 ?_)))
    refine Qn 8 rfl (Af (c:=[Iq _,_,Iq _,Iq _,Iq _,Iq _,Iq _,.str _]) Ai rfl rfl rfl rfl rfl rfl (by omega) (Fb hy)) ?_
    refine Qn 9 rfl D1 ?_
    refine Qn 10 rfl (Qc rfl (ih x hm y (by have:=Gu hm;omega))) ?_
    refine Qn 11 rfl Gt ?_
    refine Jx.done _ _ (by kernel_rfl) ?_
    refine Ae (A5 (fun hc3=>?_) fun hc3=>?_)
    ·
     refine Ah (Qp Bg (Ag (AW.ret (Bc (Aj (Aj (Bc (Aj ?_))))))))
     refine Qr (.bool _) ?_
     rw [S5,if_neg (by simp [hh]),hR.2,Ba hx,Ba hy];show _=AV.bool (if (!Li x y)=true then false else _);rw [if_pos hc3];rfl
    ·
     refine AW.skip (Bs (Ae (AW.region (Qp A2 (Qp Fx (Qp Av (Ag ?_)))))))
     refine ⟨p+1,?_,?_,GS.weaken ⟨rfl,rfl,rfl,trivial⟩ (.refl _)⟩
     · exact ⟨hlt,by rw [hR.2,Ba hx,Ba hy,S0];simp [hc3]⟩
     · omega
   ·
    have hd:=Di hc2
    refine AW.exit ?_
    refine A8 (A8 (Bw (Ae (Ah (Qp Bg (Ag (AW.ret ?_)))))))
    refine Qr (.bool _) ?_
    rw [S5,if_neg (by simp [hh]),hR.2,hd];rfl
set_option maxHeartbeats 400000
set_option maxRecDepth 20000

theorem c127  : Ax Tryz.prog 200 [] (.agg (cV v0)):=by
 refine Ax.body (n:=2) Ai Tryz.func200 rfl rfl rfl fun H=>?_
 refine Ah ?_
 refine Qe (Al (l:=[.int .i64 0,.int .i64 0,.str []]) (by kernel_rfl)) ?_
 rintro _ _ ⟨b0,rfl,rfl⟩
 refine Dh (Qp (Et [Iq _,Iq _,.str _]) (Co 0 [Iq _,Iq _,.str _] (_::_) (Ag (AW.ret ?_))))
 refine ⟨.inr rfl,[.agg [Iq _,Iq _,.str _]],.cons (.box _ _ _ 0 _ _ _ _ rfl rfl rfl rfl rfl rfl) <| .nil,.cons _ (.refl _),?_⟩
 rfl
theorem c128 (v w:Vl):Ax Tryz.prog 201 [.ptr (cV v),.ptr (cV w)] (.agg (cV (I7 1 v w))):=by
 refine Ax.body (n:=9) Ai Tryz.func201 rfl rfl rfl fun H=>?_
 refine Ah ?_
 refine Qe (Al (l:=[.int .i64 0,.int .i64 0,.str []]) (by kernel_rfl)) ?_
 rintro _ _ ⟨b2,rfl,rfl⟩
 refine Dh (Qp Wn (Qp Bt (Qp Wn (Qp Bt ?_))))
 refine Qp (cY rfl rfl) ?_
 refine Qp (Et [Iq _,Iq _,.str _]) (Co 0 [Iq _,Iq _,.str _] (_::_) (Ag (AW.ret ?_)))
 refine ⟨.inr rfl,[.agg [Iq _,Iq _,.str _]],.cons (.box _ _ _ 0 _ _ _ _ rfl rfl rfl rfl rfl rfl) <| .nil,.cons _ (.refl _),?_⟩
 rfl
theorem c129 (v w:Vl):Ax Tryz.prog 202 [.ptr (cV v),.ptr (cV w)] (.agg (cV (I7 2 v w))):=by
 refine Ax.body (n:=9) Ai Tryz.func202 rfl rfl rfl fun H=>?_
 refine Ah ?_
 refine Qe (Al (l:=[.int .i64 0,.int .i64 0,.str []]) (by kernel_rfl)) ?_
 rintro _ _ ⟨b2,rfl,rfl⟩
 refine Dh (Qp Wn (Qp Bt (Qp Wn (Qp Bt ?_))))
 refine Qp (P_min rfl rfl) ?_
 refine Qp (Et [Iq _,Iq _,.str _]) (Co 0 [Iq _,Iq _,.str _] (_::_) (Ag (AW.ret ?_)))
 refine ⟨.inr rfl,[.agg [Iq _,Iq _,.str _]],.cons (.box _ _ _ 0 _ _ _ _ rfl rfl rfl rfl rfl rfl) <| .nil,.cons _ (.refl _),?_⟩
 rfl
theorem c130 (v w:Vl):Ax Tryz.prog 203 [.ptr (cV v),.ptr (cV w)] (.agg (cV (I7 3 v w))):=by
 refine Ax.body (n:=9) Ai Tryz.func203 rfl rfl rfl fun H=>?_
 refine Ah ?_
 refine Qe (Al (l:=[.int .i64 0,.int .i64 0,.str []]) (by kernel_rfl)) ?_
 rintro _ _ ⟨b2,rfl,rfl⟩
 refine Dh (Qp Wn (Qp Bt (Qp Wn (Qp Bt ?_))))
 refine Qp (xB rfl rfl) ?_
 refine Qp (Et [Iq _,Iq _,.str _]) (Co 0 [Iq _,Iq _,.str _] (_::_) (Ag (AW.ret ?_)))
 refine ⟨.inr rfl,[.agg [Iq _,Iq _,.str _]],.cons (.box _ _ _ 0 _ _ _ _ rfl rfl rfl rfl rfl rfl) <| .nil,.cons _ (.refl _),?_⟩
 rfl
theorem c131 (v:Vl):Ax Tryz.prog 204 [.ptr (cV v)] (.agg (cV v)):=by
 refine Ax.body (n:=3) Ai Tryz.func204 rfl rfl rfl fun H=>?_
 refine Ah ?_
 refine Qe (Al (l:=[.int .i64 0,.int .i64 0,.str []]) (by kernel_rfl)) ?_
 rintro _ _ ⟨b1,rfl,rfl⟩
 refine Dh (Qp (Cm [Iq _,Iq _,.str _]) (Co 0 [Iq _,Iq _,.str _] (_::_) (Ag (AW.ret ?_))))
 refine ⟨.inr rfl,[.agg [Iq _,Iq _,.str _]],.cons (.box _ _ _ 0 _ _ _ _ rfl rfl rfl rfl rfl rfl) <| .nil,.cons _ (.refl _),?_⟩
 rfl
theorem c132 (v:Vl):Ax Tryz.prog 205 [.ptr (cV v)] (.agg (cV v)):=by
 refine Ax.body (n:=3) Ai Tryz.func205 rfl rfl rfl fun H=>?_
 refine Ah ?_
 refine Qe (Al (l:=[.int .i64 0,.int .i64 0,.str []]) (by kernel_rfl)) ?_
 rintro _ _ ⟨b1,rfl,rfl⟩
 refine Dh (Qp (Cm [Iq _,Iq _,.str _]) (Co 0 [Iq _,Iq _,.str _] (_::_) (Ag (AW.ret ?_))))
 refine ⟨.inr rfl,[.agg [Iq _,Iq _,.str _]],.cons (.box _ _ _ 0 _ _ _ _ rfl rfl rfl rfl rfl rfl) <| .nil,.cons _ (.refl _),?_⟩
 rfl
theorem c125_0 (v w:Vl):Ax Tryz.prog 192 [.int .i64 0,.agg (cV v),.agg (cV w)] (.agg (cV (I7 0 v w))):=by
 refine Ax.body (n:=16) Ai Tryz.func192 rfl rfl rfl fun H=>?_
 refine Ah (Qp (F5 [Iq _,Iq _,.str _]) (Qp (F5 [Iq _,Iq _,.str _]) ?_))
 refine Qe (Al (l:=[.int .i64 0,.int .i64 0,.str []]) (by kernel_rfl)) ?_
 rintro _ _ ⟨b6,rfl,rfl⟩
 refine Dh ?_
 refine Qp (Bf (l:=[]) (l':=[.ptr _,.ptr _]) rfl rfl) ?_
 refine Qp (Bf (l:=[]) (l':=[.ptr _,.ptr _]) rfl rfl) ?_
 refine Qp (Bf (l:=[]) (l':=[.ptr _,.ptr _]) rfl rfl) ?_
 refine Qp (Bf (l:=[]) (l':=[.ptr _]) rfl rfl) ?_
 refine Qp (Bf (l:=[]) (l':=[.ptr _]) rfl rfl) ?_
 refine Qp (J5 (l:=[_,_,_,_,_,_]) Ai rfl rfl rfl rfl) ?_
 refine Qp A2 ?_
 refine Qp (I4 (c:=_) Ai rfl rfl rfl rfl rfl rfl rfl (by omega) (by omega) (rfl)) ?_
 refine Qp (D2 (by kernel_rfl) rfl rfl rfl (c127)) ?_
 refine Co 0 [Iq _,Iq _,.str _] (_::_) (Ag (AW.ret ?_))
 refine ⟨.inr rfl,[.agg [Iq _,Iq _,.str _]],.cons (.box _ _ _ 0 _ _ _ _ rfl rfl rfl rfl rfl rfl) <| .nil,.cons _ (.refl _),?_⟩
 rfl
theorem c125_1 (v w:Vl):Ax Tryz.prog 192 [.int .i64 1,.agg (cV v),.agg (cV w)] (.agg (cV (I7 1 v w))):=by
 refine Ax.body (n:=16) Ai Tryz.func192 rfl rfl rfl fun H=>?_
 refine Ah (Qp (F5 [Iq _,Iq _,.str _]) (Qp (F5 [Iq _,Iq _,.str _]) ?_))
 refine Qe (Al (l:=[.int .i64 0,.int .i64 0,.str []]) (by kernel_rfl)) ?_
 rintro _ _ ⟨b6,rfl,rfl⟩
 refine Dh ?_
 refine Qp (Bf (l:=[]) (l':=[.ptr _,.ptr _]) rfl rfl) ?_
 refine Qp (Bf (l:=[]) (l':=[.ptr _,.ptr _]) rfl rfl) ?_
 refine Qp (Bf (l:=[]) (l':=[.ptr _,.ptr _]) rfl rfl) ?_
 refine Qp (Bf (l:=[]) (l':=[.ptr _]) rfl rfl) ?_
 refine Qp (Bf (l:=[]) (l':=[.ptr _]) rfl rfl) ?_
 refine Qp (J5 (l:=[_,_,_,_,_,_]) Ai rfl rfl rfl rfl) ?_
 refine Qp A2 ?_
 refine Qp (I4 (c:=_) Ai rfl rfl rfl rfl rfl rfl rfl (by omega) (by omega) (rfl)) ?_
 refine Qp (D2 (by kernel_rfl) rfl rfl rfl (c128 v w)) ?_
 refine Co 0 [Iq _,Iq _,.str _] (_::_) (Ag (AW.ret ?_))
 refine ⟨.inr rfl,[.agg [Iq _,Iq _,.str _]],.cons (.box _ _ _ 0 _ _ _ _ rfl rfl rfl rfl rfl rfl) <| .nil,.cons _ (.refl _),?_⟩
 rfl
theorem c125_2 (v w:Vl):Ax Tryz.prog 192 [.int .i64 2,.agg (cV v),.agg (cV w)] (.agg (cV (I7 2 v w))):=by
 refine Ax.body (n:=16) Ai Tryz.func192 rfl rfl rfl fun H=>?_
 refine Ah (Qp (F5 [Iq _,Iq _,.str _]) (Qp (F5 [Iq _,Iq _,.str _]) ?_))
 refine Qe (Al (l:=[.int .i64 0,.int .i64 0,.str []]) (by kernel_rfl)) ?_
 rintro _ _ ⟨b6,rfl,rfl⟩
 refine Dh ?_
 refine Qp (Bf (l:=[]) (l':=[.ptr _,.ptr _]) rfl rfl) ?_
 refine Qp (Bf (l:=[]) (l':=[.ptr _,.ptr _]) rfl rfl) ?_
 refine Qp (Bf (l:=[]) (l':=[.ptr _,.ptr _]) rfl rfl) ?_
 refine Qp (Bf (l:=[]) (l':=[.ptr _]) rfl rfl) ?_
 refine Qp (Bf (l:=[]) (l':=[.ptr _]) rfl rfl) ?_
 refine Qp (J5 (l:=[_,_,_,_,_,_]) Ai rfl rfl rfl rfl) ?_
 refine Qp A2 ?_
 refine Qp (I4 (c:=_) Ai rfl rfl rfl rfl rfl rfl rfl (by omega) (by omega) (rfl)) ?_
 refine Qp (D2 (by kernel_rfl) rfl rfl rfl (c129 v w)) ?_
 refine Co 0 [Iq _,Iq _,.str _] (_::_) (Ag (AW.ret ?_))
 refine ⟨.inr rfl,[.agg [Iq _,Iq _,.str _]],.cons (.box _ _ _ 0 _ _ _ _ rfl rfl rfl rfl rfl rfl) <| .nil,.cons _ (.refl _),?_⟩
 rfl
theorem c125_3 (v w:Vl):Ax Tryz.prog 192 [.int .i64 3,.agg (cV v),.agg (cV w)] (.agg (cV (I7 3 v w))):=by
 refine Ax.body (n:=16) Ai Tryz.func192 rfl rfl rfl fun H=>?_
 refine Ah (Qp (F5 [Iq _,Iq _,.str _]) (Qp (F5 [Iq _,Iq _,.str _]) ?_))
 refine Qe (Al (l:=[.int .i64 0,.int .i64 0,.str []]) (by kernel_rfl)) ?_
 rintro _ _ ⟨b6,rfl,rfl⟩
 refine Dh ?_
 refine Qp (Bf (l:=[]) (l':=[.ptr _,.ptr _]) rfl rfl) ?_
 refine Qp (Bf (l:=[]) (l':=[.ptr _,.ptr _]) rfl rfl) ?_
 refine Qp (Bf (l:=[]) (l':=[.ptr _,.ptr _]) rfl rfl) ?_
 refine Qp (Bf (l:=[]) (l':=[.ptr _]) rfl rfl) ?_
 refine Qp (Bf (l:=[]) (l':=[.ptr _]) rfl rfl) ?_
 refine Qp (J5 (l:=[_,_,_,_,_,_]) Ai rfl rfl rfl rfl) ?_
 refine Qp A2 ?_
 refine Qp (I4 (c:=_) Ai rfl rfl rfl rfl rfl rfl rfl (by omega) (by omega) (rfl)) ?_
 refine Qp (D2 (by kernel_rfl) rfl rfl rfl (c130 v w)) ?_
 refine Co 0 [Iq _,Iq _,.str _] (_::_) (Ag (AW.ret ?_))
 refine ⟨.inr rfl,[.agg [Iq _,Iq _,.str _]],.cons (.box _ _ _ 0 _ _ _ _ rfl rfl rfl rfl rfl rfl) <| .nil,.cons _ (.refl _),?_⟩
 rfl
theorem c125_4 (v w:Vl):Ax Tryz.prog 192 [.int .i64 4,.agg (cV v),.agg (cV w)] (.agg (cV (I7 4 v w))):=by
 refine Ax.body (n:=16) Ai Tryz.func192 rfl rfl rfl fun H=>?_
 refine Ah (Qp (F5 [Iq _,Iq _,.str _]) (Qp (F5 [Iq _,Iq _,.str _]) ?_))
 refine Qe (Al (l:=[.int .i64 0,.int .i64 0,.str []]) (by kernel_rfl)) ?_
 rintro _ _ ⟨b6,rfl,rfl⟩
 refine Dh ?_
 refine Qp (Bf (l:=[]) (l':=[.ptr _,.ptr _]) rfl rfl) ?_
 refine Qp (Bf (l:=[]) (l':=[.ptr _,.ptr _]) rfl rfl) ?_
 refine Qp (Bf (l:=[]) (l':=[.ptr _,.ptr _]) rfl rfl) ?_
 refine Qp (Bf (l:=[]) (l':=[.ptr _]) rfl rfl) ?_
 refine Qp (Bf (l:=[]) (l':=[.ptr _]) rfl rfl) ?_
 refine Qp (J5 (l:=[_,_,_,_,_,_]) Ai rfl rfl rfl rfl) ?_
 refine Qp A2 ?_
 refine Qp (I4 (c:=_) Ai rfl rfl rfl rfl rfl rfl rfl (by omega) (by omega) (rfl)) ?_
 refine Qp (D2 (by kernel_rfl) rfl rfl rfl (c131 v)) ?_
 refine Co 0 [Iq _,Iq _,.str _] (_::_) (Ag (AW.ret ?_))
 refine ⟨.inr rfl,[.agg [Iq _,Iq _,.str _]],.cons (.box _ _ _ 0 _ _ _ _ rfl rfl rfl rfl rfl rfl) <| .nil,.cons _ (.refl _),?_⟩
 rfl
theorem c125_5 (v w:Vl):Ax Tryz.prog 192 [.int .i64 5,.agg (cV v),.agg (cV w)] (.agg (cV (I7 5 v w))):=by
 refine Ax.body (n:=16) Ai Tryz.func192 rfl rfl rfl fun H=>?_
 refine Ah (Qp (F5 [Iq _,Iq _,.str _]) (Qp (F5 [Iq _,Iq _,.str _]) ?_))
 refine Qe (Al (l:=[.int .i64 0,.int .i64 0,.str []]) (by kernel_rfl)) ?_
 rintro _ _ ⟨b6,rfl,rfl⟩
 refine Dh ?_
 refine Qp (Bf (l:=[]) (l':=[.ptr _,.ptr _]) rfl rfl) ?_
 refine Qp (Bf (l:=[]) (l':=[.ptr _,.ptr _]) rfl rfl) ?_
 refine Qp (Bf (l:=[]) (l':=[.ptr _,.ptr _]) rfl rfl) ?_
 refine Qp (Bf (l:=[]) (l':=[.ptr _]) rfl rfl) ?_
 refine Qp (Bf (l:=[]) (l':=[.ptr _]) rfl rfl) ?_
 refine Qp (J5 (l:=[_,_,_,_,_,_]) Ai rfl rfl rfl rfl) ?_
 refine Qp A2 ?_
 refine Qp (I4 (c:=_) Ai rfl rfl rfl rfl rfl rfl rfl (by omega) (by omega) (rfl)) ?_
 refine Qp (D2 (by kernel_rfl) rfl rfl rfl (c132 w)) ?_
 refine Co 0 [Iq _,Iq _,.str _] (_::_) (Ag (AW.ret ?_))
 refine ⟨.inr rfl,[.agg [Iq _,Iq _,.str _]],.cons (.box _ _ _ 0 _ _ _ _ rfl rfl rfl rfl rfl rfl) <| .nil,.cons _ (.refl _),?_⟩
 rfl
theorem c125 (k:Int)(v w:Vl)(h:Dt k=true):Ax Tryz.prog 192 [.int .i64 k,.agg (cV v),.agg (cV w)] (.agg (cV (I7 k v w))):=by
 simp only [Dt,Bool.and_eq_true,decide_eq_true_eq] at h
 have:k=0∨k=1∨k=2∨k=3∨k=4∨k=5:=by omega
 rcases this with rfl | rfl | rfl | rfl | rfl | rfl
 · exact c125_0 v w
 · exact c125_1 v w
 · exact c125_2 v w
 · exact c125_3 v w
 · exact c125_4 v w
 · exact c125_5 v w
theorem c118 (a c:Ac)(h:Dt a.kind=true):Ax Tryz.prog 183 [.agg (Xf a),.agg (Xf c)] (.agg (Xf (E4 a c))):=by
  refine Ax.body (n:=30) Ai Tryz.func183 rfl rfl rfl fun H=>?_
  refine AW.seq (AW.region (Qp (F5 [Iq _,Iq _,Iq _,Iq _,.str _]) (Qp (F5 [Iq _,Iq _,Iq _,Iq _,.str _]) ?_)))
  refine Qe (Al (l:=[.int .i64 0,.int .i64 0,.int .i64 0,.int .i64 0,.str []]) (by kernel_rfl)) ?_
  rintro _ _ ⟨b4,rfl,rfl⟩
  refine AOL.nil (Ae (AW.seq (AW.block (AW.seq (AW.region (Qp R0 (Qp Bt (Qp A7 (Qp Bg ?_)))))))))
  refine AOL.nil (Ae (A5 (fun hc1=>?_) fun hc1=>?_))
  · skip
    refine AW.seq (AW.region (Qp (Cm [Iq _,Iq _,Iq _,Iq _,.str _]) (Co 0 [Iq _,Iq _,Iq _,Iq _,.str _] (_::_) (AOL.nil (Ae (AW.ret (Bc (Aj ?_))))))))
    refine ⟨.inr rfl,[.agg [Iq _,Iq _,Iq _,Iq _,.str _]],.cons (.box _ _ _ 0 _ _ _ _ rfl rfl rfl rfl rfl rfl) <| .nil,.cons _ (.refl _),?_⟩
    try simp only [Cy,Bool.and_true] at *
    first
      | (simp only [Ad,E4,Xf,cV];(first | rw [if_pos hc1] | skip);first | done | rfl)
      | (try simp only [Bool.not_eq_true',Bool.not_eq_false'] at *
         first
         | (simp only [Ad,E4,Xf,cV, *,Bool.false_eq_true,↓reduceIte,Bool.true_or,Bool.or_true,Bool.false_or,Bool.or_false,Bool.true_and,Bool.and_true,Bool.false_and,Bool.and_false,Bool.not_true,Bool.not_false];done)
         | (simp [Ad,E4,Xf,cV, *];done)
         | (simp_all [Ad,E4,Xf,cV];done))
      | skip
  · skip
    refine AW.seq (AW.region (Qp R0 (Qp Bt (Qp A7 (Qp Bg (AOL.nil (Ae (A5 (fun hc2=>?_) fun hc2=>?_))))))))
    · skip
      refine AW.seq (AW.region (Qp (Cm [Iq _,Iq _,Iq _,Iq _,.str _]) (Co 0 [Iq _,Iq _,Iq _,Iq _,.str _] (_::_) (AOL.nil (Ae (AW.ret (Bc (Aj ?_))))))))
      refine ⟨.inr rfl,[.agg [Iq _,Iq _,Iq _,Iq _,.str _]],.cons (.box _ _ _ 0 _ _ _ _ rfl rfl rfl rfl rfl rfl) <| .nil,.cons _ (.refl _),?_⟩
      try simp only [Cy,Bool.and_true] at *
      first
        | (simp only [Ad,E4,Xf,cV];(first | rw [iN hc1] | skip);(first | rw [if_pos hc2] | skip);first | done | rfl)
        | (try simp only [Bool.not_eq_true',Bool.not_eq_false'] at *
           first
           | (simp only [Ad,E4,Xf,cV, *,Bool.false_eq_true,↓reduceIte,Bool.true_or,Bool.or_true,Bool.false_or,Bool.or_false,Bool.true_and,Bool.and_true,Bool.false_and,Bool.and_false,Bool.not_true,Bool.not_false];done)
           | (simp [Ad,E4,Xf,cV, *];done)
           | (simp_all [Ad,E4,Xf,cV];done))
        | skip
    · skip
      refine AW.skip (Bs (Ae (AW.seq ?_)))
      refine AW.draw mixed (fun _=>True) trivial (by kernel_rfl) ?_
      refine Qn 0 rfl Qt (Qn 1 rfl Bt (Qn 2 rfl R0 (Qn 3 rfl Bt (Qn 4 rfl R0 (Qn 5 rfl Bt ?_)))))
      refine Qn 6 rfl (cY rfl rfl) ?_
      refine Qn 7 rfl Qt (Qn 8 rfl Bt (Qn 9 rfl Jr (Qn 10 rfl (Cm [Iq _,Iq _,.str _]) (Qn 11 rfl Jr (Qn 12 rfl (Cm [Iq _,Iq _,.str _]) ?_)))))
      refine Qn 13 rfl (Qc rfl (c125 a.kind a.val c.val h)) ?_
      refine Qn 14 rfl (Et [Iq _,Iq _,Iq _,Iq _,.str _]) ?_
      refine Jx.eff _ _ 15 _ _ rfl (by kernel_rfl) rfl rfl (C7 (k:=0) (v:=.agg _) (cs':=[Iq _,Iq _,Iq _,Iq _,.str _]) (H2:=_::_) Ai rfl rfl rfl rfl (rfl) rfl rfl rfl rfl) (fun _ _ _=>trivial) ?_
      rintro _ _ ⟨rfl,rfl⟩
      refine Jx.done _ _ (by kernel_rfl) ?_
      refine Ae (AW.ret ?_)
      refine ⟨.inr rfl,[.agg [Iq _,Iq _,Iq _,Iq _,.str _]],.cons (.box _ _ _ 0 _ _ _ _ rfl rfl rfl rfl rfl rfl) <| .nil,.cons _ (.refl _),?_⟩
      try simp only [Cy,Bool.and_true] at *
      first
        | (simp only [Ad,E4,Xf,cV];(first | rw [iN hc1] | skip);(first | rw [iN hc2] | skip);first | done | rfl)
        | (try simp only [Bool.not_eq_true',Bool.not_eq_false'] at *
           first
           | (simp only [Ad,E4,Xf,cV, *,Bool.false_eq_true,↓reduceIte,Bool.true_or,Bool.or_true,Bool.false_or,Bool.or_false,Bool.true_and,Bool.and_true,Bool.false_and,Bool.and_false,Bool.not_true,Bool.not_false];done)
           | (simp [Ad,E4,Xf,cV, *];done)
           | (simp_all [Ad,E4,Xf,cV];done))
        | skip
theorem c126 (a:Ac):Ax Tryz.prog 193 [.agg (Xf a)] (.int .i64 (Bq a)):=by
  refine Ax.body (n:=77) Ai Tryz.func193 rfl rfl rfl fun H=>?_
  refine AW.seq (AW.region (Qp (F5 [Iq _,Iq _,Iq _,Iq _,.str _]) (Qp Av (AOL.nil (Ae (AW.seq (AW.block (AW.seq (AW.region ?_)))))))))
  refine Qp Qt (Qp Bt ?_)
  refine Qp (Qc rfl (c114 a.kind)) ?_
  refine Qp Gt (Qp Bg (AOL.nil (Ae (A5 (fun hc1=>?_) fun hc1=>?_))))
  · skip
    refine AW.seq (AW.region (Qp Av (AOL.nil (Ae (AW.ret (Bc (Aj ?_)))))))
    refine Qr (Iq _) ?_
    try simp only [Cy,Bool.and_true] at *
    first
      | (simp only [Ad,Bq];(first | rw [if_pos hc1] | skip);first | done | rfl)
      | (try simp only [Bool.not_eq_true',Bool.not_eq_false'] at *
         first
         | (simp only [Ad,Bq,isV0, *,Bool.false_eq_true,↓reduceIte,Bool.true_or,Bool.or_true,Bool.false_or,Bool.or_false,Bool.true_and,Bool.and_true,Bool.false_and,Bool.and_false,Bool.not_true,Bool.not_false];done)
         | (simp [Ad,Bq,isV0, *];done)
         | (simp_all [Ad,Bq,isV0];done))
      | skip
  · skip
    refine AW.seq (AW.region (Qp R0 (Qp Bt (Qp Cl (Qp Br (Qg [] Qw R0 (Qg [(15,_)] Qw Bt (Qg [(16,_)] Qw Hi (Qp E5 ?_)))))))))
    refine Qp Bg (AOL.nil (Ae (A5 (fun hc2=>?_) fun hc2=>?_)))
    · skip
      refine AW.seq (AW.region (Qp Av (AOL.nil (Ae (AW.ret (Bc (Aj ?_)))))))
      refine Qr (Iq _) ?_
      try simp only [Cy,Bool.and_true] at *
      first
        | (simp only [Ad,Bq];(first | rw [iN hc1] | skip);(first | rw [if_pos hc2] | skip);first | done | rfl)
        | (try simp only [Bool.not_eq_true',Bool.not_eq_false'] at *
           first
           | (simp only [Ad,Bq,isV0, *,Bool.false_eq_true,↓reduceIte,Bool.true_or,Bool.or_true,Bool.false_or,Bool.or_false,Bool.true_and,Bool.and_true,Bool.false_and,Bool.and_false,Bool.not_true,Bool.not_false];done)
           | (simp [Ad,Bq,isV0, *];done)
           | (simp_all [Ad,Bq,isV0];done))
        | skip
    · skip
      refine AW.skip (Bs (Ae (AW.seq (AW.region (Qp Bg (AOL.nil (Ae (AW.seq (AW.block ?_)))))))))
      refine AW.seq (AW.region (Qp R0 (Qp Bt (Qp A7 (Qp Br (Qg [] Qw Qt (Qg [(35,_)] Qw Bt (Qg [(36,_)] Qw A7 (Qp E5 ?_)))))))))
      refine Qp Bg (AOL.nil (Ae (A5 (fun hc3=>?_) fun hc3=>?_)))
      · skip
        refine AW.region (Qp Jr (Qp (Cm [Iq _,Iq _,.str _]) (Qp (Et [Iq _,Iq _,.str _]) ?_)))
        refine Qp (Pz Ai rfl rfl rfl rfl rfl) ?_
        refine Qp Bg (AOL.nil (Bs (Ae (AW.seq (AW.seq (AW.region (Qp Br (Qp Gt (AOL.nil ?_)))))))))
        refine Ae (A5 (fun hc4=>?_) fun hc4=>?_)
        · skip
          refine AW.seq (AW.region (Qp Av (AOL.nil (Ae (Du ?_)))))
          refine Qr (Iq _) ?_
          try simp only [Cy,Bool.and_true] at *
          first
            | (simp only [Ad,Bq];(first | rw [iN hc1] | skip);(first | rw [iN hc2] | skip);(first | rw [if_pos hc3] | skip);(first | rw [if_pos hc4] | skip);first | done | rfl)
            | (try simp only [Bool.not_eq_true',Bool.not_eq_false'] at *
               first
               | (simp only [Ad,Bq,isV0, *,Bool.false_eq_true,↓reduceIte,Bool.true_or,Bool.or_true,Bool.false_or,Bool.or_false,Bool.true_and,Bool.and_true,Bool.false_and,Bool.and_false,Bool.not_true,Bool.not_false];done)
               | (simp [Ad,Bq,isV0, *];done)
               | (simp_all [Ad,Bq,isV0];done))
            | skip
        · skip
          refine Bz (AW.seq (AW.region (Qp Av (AOL.nil (Ae (AW.ret ?_))))))
          refine Qr (Iq _) ?_
          try simp only [Cy,Bool.and_true] at *
          first
            | (simp only [Ad,Bq];(first | rw [iN hc1] | skip);(first | rw [iN hc2] | skip);(first | rw [if_pos hc3] | skip);(first | rw [iN hc4] | skip);first | done | rfl)
            | (try simp only [Bool.not_eq_true',Bool.not_eq_false'] at *
               first
               | (simp only [Ad,Bq,isV0, *,Bool.false_eq_true,↓reduceIte,Bool.true_or,Bool.or_true,Bool.false_or,Bool.or_false,Bool.true_and,Bool.and_true,Bool.false_and,Bool.and_false,Bool.not_true,Bool.not_false];done)
               | (simp [Ad,Bq,isV0, *];done)
               | (simp_all [Ad,Bq,isV0];done))
            | skip
      · skip
        refine AW.seq (AW.region (Qp Qt (Qp Bt (Qp A7 (Qp Bg (AOL.nil (Ae (A5 (fun hc5=>?_) fun hc5=>?_))))))))
        · skip
          refine AW.seq (AW.region (Qp R0 (Qp Bt ?_)))
          refine Qp (vL rfl rfl rfl (by have j0:=hc2;simp only [Bool.or_eq_false_iff,Bool.and_eq_true,decide_eq_false_iff_not,decide_eq_true_eq] at j0;constructor <;> omega)) ?_
          refine Qp Av (AOL.nil (Ae (AW.region (Qp Jr (Qp Jr (Qp Bt (Qp A7 (Qp Br (Qg [] Qw Jr ?_)))))))))
          refine Qg [(55,_)] Qw Qf7 (Qg [(56,_)] Qw Vu ?_)
          refine AOL.Aa6 (y:=.bool _) _ [(57,_)] rfl (sF.all ⟨Ent.Aa3 _ _,trivial⟩) (fun hG=>Pq rfl rfl) rfl ?_
          refine Qp E3 (Qp Br (Qg [] Qw Jr (Qg [(61,_)] Qw Wn (Qg [(62,_)] Qw Bt (Qg [] Qw A2 ?_)))))
          refine AOL.Aa6 (y:=Iq _) _ [(64,_)] rfl (sF.all ⟨Ent.Aa3 _ _,trivial⟩) (fun hG=>Xx rfl rfl (by have j0:=hc2;simp only [Bool.or_eq_false_iff,Bool.and_eq_true,decide_eq_false_iff_not,decide_eq_true_eq] at j0;constructor <;> omega)) rfl ?_
          refine AOL.Aa6 (y:=.bool _) _ [(63,_),(65,_)] rfl (sF.all ⟨Ent.Aa3 _ _,Ent.Aa3 _ _,trivial⟩) (fun hG=>Uo rfl rfl) rfl ?_
          refine Qp E3 (Qp Br (Qg [] Qw Jr (Qg [(69,_)] Qw Wn (Qg [(70,_)] Qw Bt (Qg [] Qw A2 ?_)))))
          refine AOL.Aa6 (y:=.bool _) _ [(71,_),(72,_)] rfl (sF.all ⟨Ent.Aa3 _ _,Ent.Aa3 _ _,trivial⟩) (fun hG=>yA rfl rfl) rfl ?_
          refine Qp E3 (Qp Bg (AOL.nil (Bs (Ae (AW.seq (AW.seq (AW.region (Qp Br (Qp Gt ?_)))))))))
          refine AOL.nil (Ae (A5 (fun hc6=>?_) fun hc6=>?_))
          · skip
            refine AW.seq (AW.region (Qp Av (AOL.nil (Ae (Du ?_)))))
            refine Qr (Iq _) ?_
            try simp only [Cy,Bool.and_true] at *
            first
              | (simp only [Ad,Bq];(first | rw [iN hc1] | skip);(first | rw [iN hc2] | skip);(first | rw [iN hc3] | skip);(first | rw [if_pos hc5] | skip);(first | rw [if_pos hc6] | skip);first | done | rfl)
              | (try simp only [Bool.not_eq_true',Bool.not_eq_false'] at *
                 first
                 | (simp only [Ad,Bq,isV0, *,Bool.false_eq_true,↓reduceIte,Bool.true_or,Bool.or_true,Bool.false_or,Bool.or_false,Bool.true_and,Bool.and_true,Bool.false_and,Bool.and_false,Bool.not_true,Bool.not_false];done)
                 | (simp [Ad,Bq,isV0, *];done)
                 | (simp_all [Ad,Bq,isV0];done))
              | skip
          · skip
            refine Bz (AW.seq (AW.region (Qp Av (AOL.nil (Ae (AW.ret ?_))))))
            refine Qr (Iq _) ?_
            try simp only [Cy,Bool.and_true] at *
            first
              | (simp only [Ad,Bq];(first | rw [iN hc1] | skip);(first | rw [iN hc2] | skip);(first | rw [iN hc3] | skip);(first | rw [if_pos hc5] | skip);(first | rw [iN hc6] | skip);first | done | rfl)
              | (try simp only [Bool.not_eq_true',Bool.not_eq_false'] at *
                 first
                 | (simp only [Ad,Bq,isV0, *,Bool.false_eq_true,↓reduceIte,Bool.true_or,Bool.or_true,Bool.false_or,Bool.or_false,Bool.true_and,Bool.and_true,Bool.false_and,Bool.and_false,Bool.not_true,Bool.not_false];done)
                 | (simp [Ad,Bq,isV0, *];done)
                 | (simp_all [Ad,Bq,isV0];done))
              | skip
        · skip
          refine AW.region (Qp Jr (Qp (Cm [Iq _,Iq _,.str _]) ?_))
          refine Qp (Qc rfl (c94 a.val)) ?_
          refine Qp A7 (Qp Br (Qg [] Qw Qt (Qg [(24,_)] Qw Bt (Qg [] Qw Jr (Qg [(26,_)] Qw (Cm [Iq _,Iq _,.str _]) ?_)))))
          refine AOL.Aa6 (y:=.bool _) _ [(25,_),(27,_)] rfl (sF.all ⟨Ent.Aa3 _ _,Ent.Aa3 _ _,trivial⟩) (fun hG=>C8 (by kernel_rfl) rfl rfl (c124 a.kind a.val)) rfl ?_
          refine Qp E3 (Qp Bg (AOL.nil (Bs (Ae (AW.seq (AW.seq (AW.region (Qp Br (Qp Gt ?_)))))))))
          refine AOL.nil (Ae (A5 (fun hc7=>?_) fun hc7=>?_))
          · skip
            refine AW.seq (AW.region (Qp Av (AOL.nil (Ae (Du ?_)))))
            refine Qr (Iq _) ?_
            try simp only [Cy,Bool.and_true] at *
            first
              | (simp only [Ad,Bq];(first | rw [iN hc1] | skip);(first | rw [iN hc2] | skip);(first | rw [iN hc3] | skip);(first | rw [iN hc5] | skip);(first | rw [if_pos hc7] | skip);first | done | rfl)
              | (try simp only [Bool.not_eq_true',Bool.not_eq_false'] at *
                 first
                 | (simp only [Ad,Bq,isV0, *,Bool.false_eq_true,↓reduceIte,Bool.true_or,Bool.or_true,Bool.false_or,Bool.or_false,Bool.true_and,Bool.and_true,Bool.false_and,Bool.and_false,Bool.not_true,Bool.not_false];done)
                 | (simp [Ad,Bq,isV0, *];done)
                 | (simp_all [Ad,Bq,isV0];done))
              | skip
          · skip
            refine Bz (AW.seq (AW.region (Qp Av (AOL.nil (Ae (AW.ret ?_))))))
            refine Qr (Iq _) ?_
            try simp only [Cy,Bool.and_true] at *
            first
              | (simp only [Ad,Bq];(first | rw [iN hc1] | skip);(first | rw [iN hc2] | skip);(first | rw [iN hc3] | skip);(first | rw [iN hc5] | skip);(first | rw [iN hc7] | skip);first | done | rfl)
              | (try simp only [Bool.not_eq_true',Bool.not_eq_false'] at *
                 first
                 | (simp only [Ad,Bq,isV0, *,Bool.false_eq_true,↓reduceIte,Bool.true_or,Bool.or_true,Bool.false_or,Bool.or_false,Bool.true_and,Bool.and_true,Bool.false_and,Bool.and_false,Bool.not_true,Bool.not_false];done)
                 | (simp [Ad,Bq,isV0, *];done)
                 | (simp_all [Ad,Bq,isV0];done))
              | skip

end Go.Proofs.YtkddpedfbicbeaaGreatDoor
