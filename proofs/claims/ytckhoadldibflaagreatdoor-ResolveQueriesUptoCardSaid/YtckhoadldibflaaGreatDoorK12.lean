/-
  Several texts in one: EW24, EW13, EW18, R8w. No condition.
-/
import Derived.Test.YtckhoadldibflaaGreatDoorK01
import Derived.Test.YtckhoadldibflaaGreatDoorK11
import Derived.KernelRfl
import Derived.Test.YtckhoadldibflaaGreatDoorK02
import Derived.Test.YtckhoadldibflaaGreatDoorK07
import Derived.Test.YtckhoadldibflaaGreatDoorK08
import Derived.Test.YtckhoadldibflaaGreatDoorK10
set_option linter.unusedVariables false
set_option linter.unusedSimpArgs false
namespace Go.Proofs.YtckhoadldibflaaGreatDoor
open Go Go.Aw
set_option maxHeartbeats 800000
set_option maxRecDepth 20000

theorem Nm {ns:List (List UInt8)}{k:Nat}{n:List UInt8}(h:ns[k]? = some n)(hn:(ns.take k).contains n=false):B4 ns n=(k:Int):=by
 have h1:=P0 h;rw [hn] at h1;have hm:n∈ns:=B6 h;have hc:ns.contains n=true:=by simpa using hm
 have h3:ns.idxOf n≤k:=by
  refine Nat.le_of_not_lt fun hlt=>?_
  have hk:k<ns.length:=Bj h;have h4:=List.not_of_lt_findIdx (p:=fun x=>x==n) (xs:=ns) (i:=k) hlt;have h5:ns[k]=n:=by rw [List.getElem?_eq_getElem hk] at h;exact Option.some.inj h
  simp only [h5] at h4;simp at h4
 unfold B4 at h1 ⊢;rw [if_pos hc] at h1 ⊢;simp at h1;omega
theorem Ly {ns:List (List UInt8)}{n:List UInt8}(h:ns.contains n=false):B4 ns n = -1:=by unfold B4;rw [if_neg (by simp only [h];decide)]
theorem In {ns:List (List UInt8)}{k:Nat}{m n:List UInt8}(h:ns[k]? = some m)(hn:(ns.take k).contains n=false)(hne:(m==n)=false):(ns.take (k+1)).contains n=false:=by
 rw [C2 h];have h1:m≠n:=by simpa using hne
 simp at hn ⊢;exact ⟨hn,fun e=>h1 e.symm⟩
def Zd (s:e8Sc):Prop:=s.name.length≤1048576∧s.fields.length≤1048576∧∀f∈s.fields,f.name.length≤1048576
theorem Xb {seen:List (List UInt8)}{a:Fi}{r:List Fi}(h:El seen a=0):Jy seen (a::r)=Jy (seen ++ [a.name]) r:=by rw [Jy,if_neg (by rw [h];decide)]
theorem I9 {seen:List (List UInt8)}{a:Fi}{r:List Fi}(h:El seen a≠0):Jy seen (a::r)=El seen a:=by rw [Jy,if_pos (by simpa using h)]
theorem Zh {seen:List (List UInt8)}{a:e8Sc}{r:List e8Sc}(h:Hg seen a=0):Km seen (a::r)=Km (seen ++ [a.name]) r:=by rw [Km,if_neg (by rw [h];decide)]
theorem Oo {seen:List (List UInt8)}{a:e8Sc}{r:List e8Sc}(h:Hg seen a≠0):Km seen (a::r)=Hg seen a:=by rw [Km,if_pos (by simpa using h)]
theorem lV (k:Int):(k != 0&&k != 1&&k != 2)=(decide (k<0)||decide (3≤k)):=by
 rw [Bool.eq_iff_iff];simp;omega
theorem kZ (s:List UInt8):(!Hf s||s==xN) = !Rx s:=by
 unfold Rx;cases Hf s <;> cases (s==xN) <;> rfl

theorem c105 (s:e8Sc)(hl:s.fields.length≤1048576)(n:List UInt8):An Tryz.prog 176 [.agg (F1 s),.str n] (.int .i64 (B4 (s.fields.map (·.name)) n)):=by
 refine An.body (n:=22) tok Tryz.func176 rfl rfl rfl fun H=>?_
 refine Ad (Qp (Ed Ji) (Qp Al (Ae (Rd (Qp Al (Ae (AW.block ?_)))))));refine AW.Aam (fun (p:Nat)=>(⟨[(1,.str n),(2,.ptr (F1 s)),(5,.int .i64 (p:Int))],H,22⟩:St)) (fun p=>p≤s.fields.length∧((s.fields.map (·.name)).take p).contains n=false) (fun p=>s.fields.length-p) (0) ?_ Bv ?_
 · exact ⟨Dh _,by simp⟩
 rintro p hR;refine Rd (Qp Am (Qp (Qf [_]) (Qp B7 ?_)));refine Qp (Ai (n:=s.fields.length) tok rfl rfl rfl (by simp)) ?_;refine Qp Bp (Ae (Ao (fun hc1=>?_) fun hc1=>?_))
 ·
  obtain ⟨a,ha⟩:=By hc1;have hlt:=Bj ha;have hm:=B6 ha;have hna:(s.fields.map (·.name))[p]? = some a.name:=by simp [ha]
  refine A7 (AW.seq (AW.block (Ad (Qp (Qf [_]) (Qp B7 (Qp Am ?_))))));refine Qp (Aa (c:=H6) tok rfl rfl rfl rfl rfl rfl (by omega) (Ct ha)) ?_;refine Qp (Qf H6) (Qp C9 (Qp D2 (Qp (A4 rfl rfl) (Ae (Ao (fun hc2=>Ad (Qp Am (Qp Al (Ra (Av (B9 (Av (Qr (Iq _) ?_)))))))) fun hc2=>Rf (AW.region (Qp Am (Qp Dl (Qp Al (Ae ?_))))))))))
  ·
   have e:a.name=n:=by simpa using hc2
   rw [e] at hna;rw [Nm hna hR.2];rfl
  refine ⟨p+1,?_,?_,Bv⟩
  · exact ⟨hlt,In hna hR.2 hc2⟩
  omega
 have hte:=Cn hc1;refine AW.exit ?_;refine Bk (Ri (Ad (Qp Al (Rb ?_))));refine Qr (Iq _) ?_;have h2:=hR.2;rw [←Uk,hte] at h2;rw [Ly h2];rfl
theorem c88 (l:List e8Sc)(hl:l.length≤1048576)(n:List UInt8):An Tryz.prog 103 [.sl 2 (l.map F1),.str n] (.int .i64 (B4 (l.map (·.name)) n)):=by
 refine An.body (n:=20) tok Tryz.func103 rfl rfl rfl fun H=>?_
 refine Ad (Qp Al (Ae (Rd (Qp Al (Ae (AW.block ?_))))));refine AW.Aam (fun (p:Nat)=>(⟨[(0,.sl 2 (l.map F1)),(1,.str n),(5,.int .i64 (p:Int))],H,20⟩:St)) (fun p=>p≤l.length∧((l.map (·.name)).take p).contains n=false) (fun p=>l.length-p) (0) ?_ Bv ?_
 · exact ⟨Dh _,by simp⟩
 rintro p hR;refine Rd (Qp Am (Qp Fh ?_));refine Qp (Ai (n:=l.length) tok rfl rfl rfl (by simp)) ?_;refine Qp Bp (Ae (Ao (fun hc1=>?_) fun hc1=>?_))
 ·
  obtain ⟨a,ha⟩:=By hc1;have hlt:=Bj ha;have hm:=B6 ha;have hna:(l.map (·.name))[p]? = some a.name:=by simp [ha]
  refine A7 (AW.seq (AW.block (Ad (Qp Fh (Qp Am ?_)))));refine Qp (Aa (c:=Ji) tok rfl rfl rfl rfl rfl rfl (by omega) (Ct ha)) ?_;refine Qp (Qf Ji) (Qp C9 (Qp D2 (Qp (A4 rfl rfl) (Ae (Ao (fun hc2=>Ad (Qp Am (Qp Al (Ra (Av (B9 (Av (Qr (Iq _) ?_)))))))) fun hc2=>Rf (AW.region (Qp Am (Qp Dl (Qp Al (Ae ?_))))))))))
  ·
   have e:a.name=n:=by simpa using hc2
   rw [e] at hna;rw [Nm hna hR.2];rfl
  refine ⟨p+1,?_,?_,Bv⟩
  · exact ⟨hlt,In hna hR.2 hc2⟩
  omega
 have hte:=Cn hc1;refine AW.exit ?_;refine Bk (Ri (Ad (Qp Al (Rb ?_))));refine Qr (Iq _) ?_;have h2:=hR.2;rw [←Uk,hte] at h2;rw [Ly h2];rfl
theorem c85 (s:e8Sc)(hs:Zd s):An Tryz.prog 92 [.agg (F1 s)] (.int .i64 (Hm s)):=by
 refine An.body (n:=45) tok Tryz.func92 rfl rfl rfl fun H=>?_
 refine Ad (Qp (Ed Ji) (Qp Al (Ae (Rd (Qp (Qf Ji) (Qp C9 (Qp (Qc rfl (c102 _ hs.1)) (Qp Ew (Ae (Ao (fun hc1=>Ad (Qp Al (Rc (Qr (Iq _) ?_)))) fun hc1=>A7 (Rd (Qp (Qf [_]) (Qp B7 ?_)))))))))))))
 · rw [show Hm s=8 by unfold Hm;rw [if_pos (by simpa using hc1)]];rfl
 refine Qp (Ai (n:=s.fields.length) tok rfl rfl rfl (by simp)) ?_;refine Qp Do (Ae (Ao (fun hc2=>Ad (Qp Al (Rc (Qr (Iq _) ?_)))) fun hc2=>A7 (Ad (Qe (Is) ?_))))
 · rw [show Hm s=5 by unfold Hm;rw [if_neg (by simpa using hc1),if_pos (by simpa using hc2)]];rfl
 rintro _ _ ⟨b14,rfl,rfl⟩;refine Qp Qk (Ae (Rd (Qp (Qf [_]) (Qp B7 ?_))));refine Qp (Ai (n:=s.fields.length) tok rfl rfl rfl (by simp)) ?_;refine Qp Am (Ae (AW.block ?_));have hfl:=hs.2.1;refine AW.Aam (fun (p:Nat×List (List UInt8))=>(⟨[(3,.val (.map (some b14))),(16,.sl 2 (s.fields.map lY)),(17,.int .i64 s.fields.length),(18,.int .i64 (p.1:Int))],.smap b14 (Sl p.2)::H,45⟩:St)) (fun p=>p.1≤s.fields.length∧Jy [] s.fields=Jy p.2 (s.fields.drop p.1)) (fun p=>s.fields.length-p.1) ((0,[])) ?_ Bv ?_
 · exact ⟨Dh _,rfl⟩
 rintro p hR;refine Ad (Qp Bp (Re (Ao (fun hc3=>?_) fun hc3=>?_)))
 ·
  obtain ⟨a,ha⟩:=By hc3;have hlt:=Bj ha;have hm:=B6 ha;refine A7 (AW.seq (AW.block (Ad ?_)));refine Qp (Aa (c:=H6) tok rfl rfl rfl rfl rfl rfl (by omega) (Ct ha)) ?_;refine Qp (Bo H6) (Dt [.str [],.int .i64 0] fun b5=>?_);refine Bt 0 H6 (_::_::_) ?_;refine AOL.ghost (GS.freeze (t:=5) 0 rfl rfl) ?_;refine Re (AW.block (Ad (Qp (Qf H6) (Qp C9 (Qp (Qc rfl (c103 _ (hs.2.2 a hm))) (Qp Ew (Qp Au (Ae (Ao (fun hc4=>?_) fun hc4=>?_)))))))))
  ·
   have hb4:(!Rx a.name)=true:=hc4;refine Ad (Qp Al (Ra (Rj (Av ?_))));refine ⟨.inr rfl,[Iq _],.cons (.tmp _ _ rfl) <| .nil,.cons _ (.refl _),?_⟩
   have he:El p.2 a=8:=by
    unfold El;rw [if_pos hb4]
   rw [show Hm s=El p.2 a by unfold Hm;rw [if_neg (by simpa using hc1),if_neg (by simpa using hc2),hR.2,Ax ha,I9 (by rw [he];decide)],he];rfl
  have hb4:¬(!Rx a.name)=true:=by simpa using hc4
  refine Ad (Qp Bw (Qp (Qf H6) (Qp C9 ?_)));refine AOL.Aan (Ni (i:=0) (ks:=p.2) tok rfl rfl rfl rfl rfl (by kernel_rfl) rfl rfl rfl) rfl rfl ?_;refine Qp Au (Ae (Ao (fun hc5=>?_) fun hc5=>?_))
  ·
   have hb5:p.2.contains a.name=true:=hc5;refine Ad (Qp Al (Ra (Rj (Av ?_))));refine ⟨.inr rfl,[Iq _],.cons (.tmp _ _ rfl) <| .nil,.cons _ (.refl _),?_⟩
   have he:El p.2 a=7:=by
    unfold El;rw [if_neg hb4,if_pos hb5]
   rw [show Hm s=El p.2 a by unfold Hm;rw [if_neg (by simpa using hc1),if_neg (by simpa using hc2),hR.2,Ax ha,I9 (by rw [he];decide)],he];rfl
  have hb5:¬p.2.contains a.name=true:=by simpa using hc5
  refine Ad (Qp (Qf [Iq _]) (Qp Bf (Qp Bp (Qp A9 (Qg [] Qw (Qf [Iq _]) (Qg [(37,_)] Qw Bf (Qg [(38,_)] Qw Gb (Qp Cf (Qp Au (Ae (Ao (fun hc6=>?_) fun hc6=>?_)))))))))))
  ·
   have hb6:=hc6;refine Ad (Qp Al (Ra (Rj (Av ?_))));refine ⟨.inr rfl,[Iq _],.cons (.tmp _ _ rfl) <| .nil,.cons _ (.refl _),?_⟩
   have he:El p.2 a=1:=by
    unfold El;rw [if_neg hb4,if_neg hb5,if_pos hb6]
   rw [show Hm s=El p.2 a by unfold Hm;rw [if_neg (by simpa using hc1),if_neg (by simpa using hc2),hR.2,Ax ha,I9 (by rw [he];decide)],he];rfl
  have hb6:=zz45.mp hc6;have he0:El p.2 a=0:=by unfold El;rw [if_neg hb4,if_neg hb5,if_neg hb6]
  refine Rf (AW.region (Qp Bw (Qp (Qf H6) (Qp C9 ?_))));refine Rt (Rp (i:=0) (H2:=_::_) tok rfl rfl rfl rfl rfl rfl rfl rfl (by simpa using hb5) rfl) ?_;refine Rk (AW.region (Qp Dl (Qp Am (Ae ?_))));refine ⟨(p.1+1,p.2 ++ [a.name]),?_,?_,Bv⟩
  · exact ⟨hlt,by rw [hR.2,Ax ha,Xb he0]⟩
  omega
 have hd:=D8 hc3;refine AW.exit ?_;refine Bk (Ri (Ad (Qp Al (Rb ?_))));refine ⟨.inr rfl,[Iq _],.cons (.tmp _ _ rfl) <| .nil,.cons _ (.refl _),?_⟩;rw [show Hm s=0 by unfold Hm;rw [if_neg (by simpa using hc1),if_neg (by simpa using hc2),hR.2,hd];rfl];rfl
theorem c87 (s:e8Sc)(hs:Zd s):An Tryz.prog 102 [.agg (F1 s)] (.int .i64 (Hm s)):=by
 refine An.body (n:=53) tok Tryz.func102 rfl rfl rfl fun H=>?_
 refine Ad (Qp (Ed Ji) (Qp Al (Ae (Rd (Qp (Qf Ji) (Qp C9 (Qp (Qc rfl (c104 _ hs.1)) (Qp Ew (Ae (Ao (fun hc1=>Ad (Qp Al (Rc (Qr (Iq _) ?_)))) fun hc1=>A7 (Rd (Qp (Qf [_]) (Qp B7 ?_)))))))))))))
 · rw [show Hm s=8 by unfold Hm;rw [if_pos (by simpa using hc1)]];rfl
 refine Qp (Ai (n:=s.fields.length) tok rfl rfl rfl (by simp)) ?_;refine Qp Do (Ae (Ao (fun hc2=>Ad (Qp Al (Rc (Qr (Iq _) ?_)))) fun hc2=>A7 (Rd (Qp Al (Ae (AW.block ?_))))))
 · rw [show Hm s=5 by unfold Hm;rw [if_neg (by simpa using hc1),if_pos (by simpa using hc2)]];rfl
 have hfl:=hs.2.1;refine AW.Aam (fun (p:Nat)=>(⟨[(1,.ptr (F1 s)),(3,.int .i64 (p:Int))],H,53⟩:St)) (fun p=>p≤s.fields.length∧Jy [] s.fields=Jy ((s.fields.take p).map (·.name)) (s.fields.drop p)) (fun p=>s.fields.length-p) (0) ?_ Bv ?_
 · exact ⟨Dh _,rfl⟩
 rintro p hR;refine Rd (Qp Am (Qp (Qf [_]) (Qp B7 ?_)));refine Qp (Ai (n:=s.fields.length) tok rfl rfl rfl (by simp)) ?_;refine Qp Bp (Ae (Ao (fun hc3=>?_) fun hc3=>?_))
 ·
  obtain ⟨a,ha⟩:=By hc3;have hlt:=Bj ha;have hm:=B6 ha;have hna:(s.fields.map (·.name))[p]? = some a.name:=by simp [ha]
  refine A7 (AW.seq (AW.block (Ad (Qp (Qf [_]) (Qp B7 (Qp Am ?_))))));refine Qp (Aa (c:=H6) tok rfl rfl rfl rfl rfl rfl (by omega) (Ct ha)) ?_;refine Qp (Bo H6) (Dt [.str [],.int .i64 0] fun b4=>?_);refine Bt 0 H6 (_::_) ?_;refine AOL.ghost (GS.freeze (t:=4) 0 rfl rfl) ?_;refine Ae (Rd (Qp (Qf H6) (Qp C9 (Qp (Qc rfl (c104 _ (hs.2.2 a hm))) (Qp Ew (Qp A9 (Qg [] Qw (Qf H6) (Qg [(30,_)] Qw C9 (AOL.Aal (y:=.bool _) _ [(31,_)] rfl (uB.all ⟨Ent.Aak _ _,trivial⟩) (fun hG=>A4 rfl rfl) rfl ?_)))))))));refine Qp Cf (Ae (Ao (fun hc4=>?_) fun hc4=>?_))
  ·
   have hb4:(!Rx a.name)=true:=by rw [←kZ];exact hc4
   refine Ad (Qp Al (Rc (Rj (Av (Qr (Iq _) ?_)))))
   have he:El ((s.fields.take p).map (·.name)) a=8:=by
    unfold El;rw [if_pos hb4]
   rw [show Hm s=El ((s.fields.take p).map (·.name)) a by unfold Hm;rw [if_neg (by simpa using hc1),if_neg (by simpa using hc2),hR.2,Ax ha,I9 (by rw [he];decide)],he];rfl
  have hb4:¬(!Rx a.name)=true:=by rw [←kZ];exact zz45.mp hc4
  refine A7 (Rd (Qp (Bo Ji) (Qp (Qf H6) (Qp C9 (Qp (Qc rfl (c105 s hs.2.1 _)) (Qp Am (Qp Bp (Ae (Ao (fun hc5=>?_) fun hc5=>?_)))))))))
  ·
   rw [P0 hna,←Uk] at hc5;have hb5:((s.fields.take p).map (·.name)).contains a.name=true:=hc5;refine Ad (Qp Al (Rc (Rj (Av (Qr (Iq _) ?_)))))
   have he:El ((s.fields.take p).map (·.name)) a=7:=by
    unfold El;rw [if_neg hb4,if_pos hb5]
   rw [show Hm s=El ((s.fields.take p).map (·.name)) a by unfold Hm;rw [if_neg (by simpa using hc1),if_neg (by simpa using hc2),hR.2,Ax ha,I9 (by rw [he];decide)],he];rfl
  rw [P0 hna,←Uk] at hc5;have hb5:¬((s.fields.take p).map (·.name)).contains a.name=true:=zz45.mp hc5;refine A7 (Ad (Qp (Qf [Iq _]) (Qp Bf (Qp Bu (Qp A9 (Qg [] Qw (Qf [Iq _]) (Qg [(44,_)] Qw Bf (Qg [(45,_)] Qw Bu (Qp Ea (Qp A9 (Qg [] Qw (Qf [Iq _]) (Qg [(49,_)] Qw Bf (Qg [(50,_)] Qw Bu (Qp Ea (Ae (Ao (fun hc6=>?_) fun hc6=>?_))))))))))))))))
  ·
   have hb6:=(lV a.kind).symm.trans hc6;refine Ad (Qp Al (Ra (Av (B9 (Av (Qr (Iq _) ?_))))))
   have he:El ((s.fields.take p).map (·.name)) a=1:=by
    unfold El;rw [if_neg hb4,if_neg hb5,if_pos hb6]
   rw [show Hm s=El ((s.fields.take p).map (·.name)) a by unfold Hm;rw [if_neg (by simpa using hc1),if_neg (by simpa using hc2),hR.2,Ax ha,I9 (by rw [he];decide)],he];rfl
  have hb6:=zz45.mp ((lV a.kind).symm.trans hc6);have he0:El ((s.fields.take p).map (·.name)) a=0:=by unfold El;rw [if_neg hb4,if_neg hb5,if_neg hb6]
  refine Rf (AW.region (Qp Am (Qp Dl (Qp Al (Ae ?_)))));refine ⟨p+1,?_,?_,Bv⟩
  · exact ⟨hlt,by rw [hR.2,Ax ha,Xb he0,nR ha]⟩
  omega
 have hd:=D8 hc3;refine AW.exit ?_;refine Bk (Ri (Ad (Qp Al (Rb ?_))));refine Qr (Iq _) ?_;rw [show Hm s=0 by unfold Hm;rw [if_neg (by simpa using hc1),if_neg (by simpa using hc2),hR.2,hd];rfl];rfl
theorem e8c57 (l:List e8Sc)(hl:l.length≤1048576)(hs:∀s∈l,Zd s):An Tryz.prog 44 [.sl 2 (l.map F1)] (.int .i64 (Fv l)):=by
 refine An.body (n:=30) tok Tryz.func44 rfl rfl rfl fun H=>?_
 refine Ad (Qp Al (Ae (Rd (Qp Fh ?_))));refine Qp (Ai (n:=l.length) tok rfl rfl rfl (by simp)) ?_;refine Qp Do (Ae (Ao (fun hc1=>Ad (Qp Al (Rc (Qr (Iq _) ?_)))) fun hc1=>A7 (Ad (Qe (Is) ?_))))
 · rw [show Fv l=5 by unfold Fv;rw [if_pos (by simpa using hc1)]];rfl
 rintro _ _ ⟨b10,rfl,rfl⟩;refine Qp Qk (Ae (Rd (Qp Fh ?_)));refine Qp (Ai (n:=l.length) tok rfl rfl rfl (by simp)) ?_;refine Qp Am (Ae (AW.block ?_));refine AW.Aam (fun (p:Nat×List (List UInt8))=>(⟨[(3,.val (.map (some b10))),(11,.sl 2 (l.map F1)),(12,.int .i64 l.length),(13,.int .i64 (p.1:Int))],.smap b10 (Sl p.2)::H,30⟩:St)) (fun p=>p.1≤l.length∧Km [] l=Km p.2 (l.drop p.1)) (fun p=>l.length-p.1) ((0,[])) ?_ Bv ?_
 · exact ⟨Dh _,rfl⟩
 rintro p hR;refine Ad (Qp Bp (Re (Ao (fun hc2=>?_) fun hc2=>?_)))
 ·
  obtain ⟨a,ha⟩:=By hc2;have hlt:=Bj ha;have hm:=B6 ha;refine A7 (AW.seq (AW.block (Ad ?_)));refine Qp (Aa (c:=Ji) tok rfl rfl rfl rfl rfl rfl (by omega) (Ct ha)) ?_;refine Qp (Bo Ji) (Dt [.str [],.sl 2 []] fun b5=>?_);refine Bt 0 Ji (_::_::_) ?_;refine AOL.ghost (GS.freeze (t:=5) 0 rfl rfl) ?_;refine Ae (Rd (Qp (Bo Ji) (Qp (Qc rfl (c85 a (hs a hm))) (Qp Al (Bs (Qp Am (Qp Bu (Ae (Ao (fun hc3=>Ad (Qp Am (Qp Al (Rc (Rj (Av ?_)))))) fun hc3=>?_)))))))))
  ·
   refine ⟨.inr rfl,[Iq _],.cons (.tmp _ _ rfl) <| .nil,.cons _ (.refl _),?_⟩;have he:Hg p.2 a=Hm a:=by unfold Hg;rw [if_pos hc3]
   rw [show Fv l=Hg p.2 a by unfold Fv;rw [if_neg (by simpa using hc1),hR.2,Ax ha,Oo (by rw [he];simpa using hc3)],he];rfl
  have hb3:=zz45.mp hc3;refine A7 (Rd (Qp Bw (Qp (Qf Ji) (Qp C9 ?_))));refine AOL.Aan (Ni (i:=0) (ks:=p.2) tok rfl rfl rfl rfl rfl (by kernel_rfl) rfl rfl rfl) rfl rfl ?_;refine Ae (Ao (fun hc4=>?_) fun hc4=>?_)
  ·
   have hb4:p.2.contains a.name=true:=hc4;refine Ad (Qp Al (Rc (Rj (Av ?_))));refine ⟨.inr rfl,[Iq _],.cons (.tmp _ _ rfl) <| .nil,.cons _ (.refl _),?_⟩;have he:Hg p.2 a=7:=by unfold Hg;rw [if_neg hb3,if_pos hb4]
   rw [show Fv l=Hg p.2 a by unfold Fv;rw [if_neg (by simpa using hc1),hR.2,Ax ha,Oo (by rw [he];decide)],he];rfl
  have hb4:¬p.2.contains a.name=true:=by simpa using hc4
  have he0:Hg p.2 a=0:=by unfold Hg;rw [if_neg hb3,if_neg hb4]
  refine A7 (AW.region (Qp Bw (Qp (Qf Ji) (Qp C9 ?_))));refine Rt (Rp (i:=0) (H2:=_::_) tok rfl rfl rfl rfl rfl rfl rfl rfl (by simpa using hb4) rfl) ?_;refine Rk (AW.region (Qp Dl (Qp Am (Ae ?_))));refine ⟨(p.1+1,p.2 ++ [a.name]),?_,?_,Bv⟩
  · exact ⟨hlt,by rw [hR.2,Ax ha,Zh he0]⟩
  omega
 have hd:=D8 hc2;refine AW.exit ?_;refine Bk (Ri (Ad (Qp Al (Rb ?_))));refine ⟨.inr rfl,[Iq _],.cons (.tmp _ _ rfl) <| .nil,.cons _ (.refl _),?_⟩;rw [show Fv l=0 by unfold Fv;rw [if_neg (by simpa using hc1),hR.2,hd];rfl];rfl
theorem c59 (l:List e8Sc)(hl:l.length≤1048576)(hs:∀s∈l,Zd s):An Tryz.prog 47 [.sl 2 (l.map F1)] (.int .i64 (Fv l)):=by
 refine An.body (n:=31) tok Tryz.func47 rfl rfl rfl fun H=>?_
 refine Ad (Qp Al (Ae (Rd (Qp Fh ?_))));refine Qp (Ai (n:=l.length) tok rfl rfl rfl (by simp)) ?_;refine Qp Do (Ae (Ao (fun hc1=>Ad (Qp Al (Rc (Qr (Iq _) ?_)))) fun hc1=>A7 (Rd (Qp Al (Ae (AW.block ?_))))))
 · rw [show Fv l=5 by unfold Fv;rw [if_pos (by simpa using hc1)]];rfl
 refine AW.Aam (fun (p:Nat)=>(⟨[(0,.sl 2 (l.map F1)),(3,.int .i64 (p:Int))],H,31⟩:St)) (fun p=>p≤l.length∧Km [] l=Km ((l.take p).map (·.name)) (l.drop p)) (fun p=>l.length-p) (0) ?_ Bv ?_
 · exact ⟨Dh _,rfl⟩
 rintro p hR;refine Rd (Qp Am (Qp Fh ?_));refine Qp (Ai (n:=l.length) tok rfl rfl rfl (by simp)) ?_;refine Qp Bp (Ae (Ao (fun hc2=>?_) fun hc2=>?_))
 ·
  obtain ⟨a,ha⟩:=By hc2;have hlt:=Bj ha;have hm:=B6 ha;have hna:(l.map (·.name))[p]? = some a.name:=by simp [ha]
  refine A7 (AW.seq (AW.block (Rd (Qp Fh (Qp Am ?_)))));refine Qp (Aa (c:=Ji) tok rfl rfl rfl rfl rfl rfl (by omega) (Ct ha)) ?_;refine Qp (Bo Ji) (Qp (Qc rfl (c87 a (hs a hm))) (Qp Al (Bs (Qp Am (Qp Bu (Ae (Ao (fun hc3=>Ad (Qp Am (Qp Al (Rc (Rj (Av (Qr (Iq _) ?_))))))) fun hc3=>?_)))))))
  ·
   have he:Hg ((l.take p).map (·.name)) a=Hm a:=by unfold Hg;rw [if_pos hc3]
   rw [show Fv l=Hg ((l.take p).map (·.name)) a by unfold Fv;rw [if_neg (by simpa using hc1),hR.2,Ax ha,Oo (by rw [he];simpa using hc3)],he];rfl
  have hb3:=zz45.mp hc3;refine A7 (Ad (Qp Fh (Qp Fh (Qp Am ?_))));refine Qp (Aa (c:=Ji) tok rfl rfl rfl rfl rfl rfl (by omega) (Ct ha)) ?_;refine Qp (Qf Ji) (Qp C9 (Qp (Qc rfl (c88 l hl _)) (Qp Am (Qp Bp (Ae (Ao (fun hc4=>?_) fun hc4=>?_))))))
  ·
   rw [P0 hna,←Uk] at hc4;have hb4:((l.take p).map (·.name)).contains a.name=true:=hc4;refine Ad (Qp Al (Ra (Av (B9 (Av (Qr (Iq _) ?_))))));have he:Hg ((l.take p).map (·.name)) a=7:=by unfold Hg;rw [if_neg hb3,if_pos hb4]
   rw [show Fv l=Hg ((l.take p).map (·.name)) a by unfold Fv;rw [if_neg (by simpa using hc1),hR.2,Ax ha,Oo (by rw [he];decide)],he];rfl
  rw [P0 hna,←Uk] at hc4;have hb4:¬((l.take p).map (·.name)).contains a.name=true:=zz45.mp hc4;have he0:Hg ((l.take p).map (·.name)) a=0:=by unfold Hg;rw [if_neg hb3,if_neg hb4]
  refine Rf (AW.region (Qp Am (Qp Dl (Qp Al (Ae ?_)))));refine ⟨p+1,?_,?_,Bv⟩
  · exact ⟨hlt,by rw [hR.2,Ax ha,Zh he0,lL ha]⟩
  omega
 have hd:=D8 hc2;refine AW.exit ?_;refine Bk (Ri (Ad (Qp Al (Rb ?_))));refine Qr (Iq _) ?_;rw [show Fv l=0 by unfold Fv;rw [if_neg (by simpa using hc1),hR.2,hd];rfl];rfl
set_option maxHeartbeats 1600000
set_option maxRecDepth 20000

theorem Xa {a b:Ex}(h:L8 a b=false):a.args.length=b.args.length:=by
 simp [L8] at h;omega

def badS (l:List Ev):Bool:=decide (12<(l.length:Int))||l.any fun v=>decide (10<(v.values.length:Int))
def fewEnvS (vars:List (List Ev)):Bool:=!((vars.take 20).any badS)&&decide ((vars.length:Int)≤20)
def fewE (e:Ex):Bool:=decide (Cg e≤200∧Fw e≤100)
theorem dN (a b:Ex)(hs:Cg a≤1048576):An Tryz.prog 42 [.agg (cE a),.agg (cE b)] (.bool (Gs a b)):=by
 revert b hs
 induction a using Ex.ind
 rename_i a ih;intro b hs;have hal:=Up a hs;refine An.body (n:=67) tok Tryz.func42 rfl rfl rfl fun H=>?_
 refine Ad (Qp qR (Qp qR (Qp Au (Ae (Rd (Qp bB (Qp Bf (Qp bB (Qp Bf (Qp Bu (Qp A9 (Qg [] Qw uP (Qg [(12,_)] Qw Bf (Qg [] Qw uP (Qg [(14,_)] Qw Bf (AOL.Aal (y:=.bool _) _ [(13,_),(15,_)] rfl (uB.all ⟨Ent.Aak _ _,Ent.Aak _ _,trivial⟩) (fun hG=>Js rfl rfl) rfl ?_))))))))))))))));refine Qp Cf (Qp A9 (Qg [] Qw uN (Qg [(19,_)] Qw Bf (Qg [] Qw uN (Qg [(21,_)] Qw Bf (AOL.Aal (y:=.bool _) _ [(20,_),(22,_)] rfl (uB.all ⟨Ent.Aak _ _,Ent.Aak _ _,trivial⟩) (fun hG=>Js rfl rfl) rfl ?_))))));refine Qp Cf (Qp A9 (Qg [] Qw gT (Qg [(26,_)] Qw Bf (Qg [] Qw gT (Qg [(28,_)] Qw Bf (AOL.Aal (y:=.bool _) _ [(27,_),(29,_)] rfl (uB.all ⟨Ent.Aak _ _,Ent.Aak _ _,trivial⟩) (fun hG=>Js rfl rfl) rfl ?_))))));refine Qp Cf (Qp A9 (Qg [] Qw X4 (Qg [(33,_)] Qw (Bo J2) (Qg [] Qw X4 (Qg [(35,_)] Qw (Bo J2) (AOL.Aal (y:=.bool _) _ [(34,_),(36,_)] rfl (uB.all ⟨Ent.Aak _ _,Ent.Aak _ _,trivial⟩) (fun hG=>F5 tok rfl rfl rfl rfl rfl) rfl ?_))))));refine Qp Cf (Qp A9 (Qg [] Qw dJ (Qg [(40,_)] Qw B7 ?_)));refine AOL.Aal (y:=Iq _) _ [(41,_)] rfl (uB.all ⟨Ent.Aak _ _,trivial⟩) (fun hG=>Ai (n:=a.args.length) tok rfl rfl rfl (by simp)) rfl ?_;refine Qg [] Qw dJ (Qg [(43,_)] Qw B7 ?_);refine AOL.Aal (y:=Iq _) _ [(44,_)] rfl (uB.all ⟨Ent.Aak _ _,trivial⟩) (fun hG=>Ai (n:=b.args.length) tok rfl rfl rfl (by simp)) rfl ?_;refine AOL.Aal (y:=.bool _) _ [(42,_),(45,_)] rfl (uB.all ⟨Ent.Aak _ _,Ent.Aak _ _,trivial⟩) (fun hG=>Js rfl rfl) rfl ?_;refine Qp Cf (Ae (Ao (fun hc1=>?_) fun hc1=>?_))
 ·
  have hh:L8 a b=true:=by simpa [L8] using hc1
  refine Ad (Qp Au (Rc (Qr (.bool _) ?_)));rw [L2,if_pos hh];rfl
 have hh:L8 a b=false:=by simpa [L8] using hc1
 have hlen:=Xa hh;refine A7 (Rd (Qp Al (Ae (AW.block ?_))));refine AW.Aam (fun (p:Nat)=>(⟨[(2,.ptr (cE a)),(3,.ptr (cE b)),(5,.int .i64 (p:Int))],H,67⟩:St)) (fun p=>p≤a.args.length∧Pf a.args b.args=Pf (a.args.drop p) (b.args.drop p)) (fun p=>a.args.length-p) (0) ?_ Bv ?_
 · exact ⟨Dh _,rfl⟩
 rintro p hR;refine Rd (Qp Am (Qp dJ (Qp B7 ?_)));refine Qp (Ai (n:=a.args.length) tok rfl rfl rfl (by simp)) ?_;refine Qp Bp (Ae (Ao (fun hc2=>?_) fun hc2=>?_))
 ·
  obtain ⟨x,hx⟩:=By hc2;have hlt:=Bj hx;have hm:=B6 hx;obtain ⟨y,hy⟩:∃y,b.args[p]? = some y:=⟨_,List.getElem?_eq_getElem (by omega)⟩;refine A7 (AW.seq (AW.block (AW.seq ?_)));refine Gi ?_;refine Qn 0 rfl dJ (Qn 1 rfl B7 (Qn 2 rfl Am ?_));refine Qn 3 rfl (Aa (c:=Ft) tok rfl rfl rfl rfl rfl rfl (by omega) (Lh hx)) ?_;refine Qn 4 rfl Py (Qn 5 rfl dJ (Qn 6 rfl B7 (Qn 7 rfl Am ?_)));refine Qn 8 rfl (Aa (c:=Ft) tok rfl rfl rfl rfl rfl rfl (by omega) (Lh hy)) ?_;refine Qn 9 rfl Py ?_;refine Qn 10 rfl (Qc rfl (ih x hm y (by have:=Jx hm;omega))) ?_;refine Qn 11 rfl Ew ?_;refine Ej ?_;refine A5 (Ao (fun hc3=>Ad (Qp Au (Ra (Av (B9 (Av (Qr (.bool _) ?_))))))) fun hc3=>Rf (AW.region (Qp Am (Qp Dl (Qp Al (Ae ?_))))))
  · rw [L2,if_neg (by simp [hh]),hR.2,Ax hx,Ax hy];show _=AV.bool (if (!Gs x y)=true then false else _);rw [if_pos hc3];rfl
  refine ⟨p+1,?_,?_,Bv⟩
  · exact ⟨hlt,by rw [hR.2,Ax hx,Ax hy,Pf];simp [hc3]⟩
  omega
 have hd:=D8 hc2;refine AW.exit ?_;refine Bk (Ri (Ad (Qp Au (Rb ?_))));refine Qr (.bool _) ?_;rw [L2,if_neg (by simp [hh]),hR.2,hd];rfl
set_option maxHeartbeats 1600000
set_option maxRecDepth 20000

def cTo (to:List Int):List (List AV):=to.map fun k=>[AV.int .i64 k]
def QR (to:List Int)(e:Ex):Prop:=Oa e=0∧Iw (eK to) e=0
theorem e8c22 (a b:Ex)(hs:Cg a≤1048576):An Tryz.prog 194 [.agg (cE a),.agg (cE b)] (.bool (Gs a b)):=by
 revert b hs
 induction a using Ex.ind
 rename_i a ih;intro b hs;have hal:=Up a hs;refine An.body (n:=67) tok Tryz.func194 rfl rfl rfl fun H=>?_
 refine Ad (Qp qR (Qp qR (Qp Au (Ae (Rd (Qp bB (Qp Bf (Qp bB (Qp Bf (Qp Bu (Qp A9 (Qg [] Qw uP (Qg [(12,_)] Qw Bf (Qg [] Qw uP (Qg [(14,_)] Qw Bf (AOL.Aal (y:=.bool _) _ [(13,_),(15,_)] rfl (uB.all ⟨Ent.Aak _ _,Ent.Aak _ _,trivial⟩) (fun hG=>Js rfl rfl) rfl ?_))))))))))))))));refine Qp Cf (Qp A9 (Qg [] Qw uN (Qg [(19,_)] Qw Bf (Qg [] Qw uN (Qg [(21,_)] Qw Bf (AOL.Aal (y:=.bool _) _ [(20,_),(22,_)] rfl (uB.all ⟨Ent.Aak _ _,Ent.Aak _ _,trivial⟩) (fun hG=>Js rfl rfl) rfl ?_))))));refine Qp Cf (Qp A9 (Qg [] Qw gT (Qg [(26,_)] Qw Bf (Qg [] Qw gT (Qg [(28,_)] Qw Bf (AOL.Aal (y:=.bool _) _ [(27,_),(29,_)] rfl (uB.all ⟨Ent.Aak _ _,Ent.Aak _ _,trivial⟩) (fun hG=>Js rfl rfl) rfl ?_))))));refine Qp Cf (Qp A9 (Qg [] Qw X4 (Qg [(33,_)] Qw (Bo J2) (Qg [] Qw X4 (Qg [(35,_)] Qw (Bo J2) (AOL.Aal (y:=.bool _) _ [(34,_),(36,_)] rfl (uB.all ⟨Ent.Aak _ _,Ent.Aak _ _,trivial⟩) (fun hG=>F5 tok rfl rfl rfl rfl rfl) rfl ?_))))));refine Qp Cf (Qp A9 (Qg [] Qw dJ (Qg [(40,_)] Qw B7 ?_)));refine AOL.Aal (y:=Iq _) _ [(41,_)] rfl (uB.all ⟨Ent.Aak _ _,trivial⟩) (fun hG=>Ai (n:=a.args.length) tok rfl rfl rfl (by simp)) rfl ?_;refine Qg [] Qw dJ (Qg [(43,_)] Qw B7 ?_);refine AOL.Aal (y:=Iq _) _ [(44,_)] rfl (uB.all ⟨Ent.Aak _ _,trivial⟩) (fun hG=>Ai (n:=b.args.length) tok rfl rfl rfl (by simp)) rfl ?_;refine AOL.Aal (y:=.bool _) _ [(42,_),(45,_)] rfl (uB.all ⟨Ent.Aak _ _,Ent.Aak _ _,trivial⟩) (fun hG=>Js rfl rfl) rfl ?_;refine Qp Cf (Ae (Ao (fun hc1=>?_) fun hc1=>?_))
 ·
  have hh:L8 a b=true:=by simpa [L8] using hc1
  refine Ad (Qp Au (Rc (Qr (.bool _) ?_)));rw [L2,if_pos hh];rfl
 have hh:L8 a b=false:=by simpa [L8] using hc1
 have hlen:=Xa hh;refine A7 (Rd (Qp dJ (Qp B7 ?_)));refine Qp (Ai (n:=a.args.length) tok rfl rfl rfl (by simp)) ?_;refine Qp Am (Ae (AW.block ?_));refine AW.Aam (fun (p:Nat)=>(⟨[(2,.ptr (cE a)),(3,.ptr (cE b)),(50,.int .i64 a.args.length),(51,.int .i64 (p:Int))],H,67⟩:St)) (fun p=>p≤a.args.length∧Pf a.args b.args=Pf (a.args.drop p) (b.args.drop p)) (fun p=>a.args.length-p) (0) ?_ Bv ?_
 · exact ⟨Dh _,rfl⟩
 rintro p hR;refine Ad (Qp Bp (Re (Ao (fun hc2=>?_) fun hc2=>?_)))
 ·
  obtain ⟨x,hx⟩:=By hc2;have hlt:=Bj hx;have hm:=B6 hx;obtain ⟨y,hy⟩:∃y,b.args[p]? = some y:=⟨_,List.getElem?_eq_getElem (by omega)⟩;refine A7 (AW.seq (AW.block (Ad (Qp Am (Qp Al (Re ?_))))));refine Gi ?_;refine Qn 0 rfl dJ (Qn 1 rfl B7 (Qn 2 rfl Am ?_));refine Qn 3 rfl (Aa (c:=Ft) tok rfl rfl rfl rfl rfl rfl (by omega) (Lh hx)) ?_;refine Qn 4 rfl Py (Qn 5 rfl dJ (Qn 6 rfl B7 (Qn 7 rfl Am ?_)));refine Qn 8 rfl (Aa (c:=Ft) tok rfl rfl rfl rfl rfl rfl (by omega) (Lh hy)) ?_;refine Qn 9 rfl Py ?_;refine Qn 10 rfl (Qc rfl (ih x hm y (by have:=Jx hm;omega))) ?_;refine Qn 11 rfl Ew ?_;refine Ej ?_;refine A5 (Ao (fun hc3=>Ad (Qp Au (Ra (Av (B9 (Av (Qr (.bool _) ?_))))))) fun hc3=>Rf (AW.region (Qp Dl (Qp Am (Ae ?_)))))
  · rw [L2,if_neg (by simp [hh]),hR.2,Ax hx,Ax hy];show _=AV.bool (if (!Gs x y)=true then false else _);rw [if_pos hc3];rfl
  refine ⟨p+1,?_,?_,Bv⟩
  · exact ⟨hlt,by rw [hR.2,Ax hx,Ax hy,Pf];simp [hc3]⟩
  omega
 have hd:=D8 hc2;refine AW.exit ?_;refine Bk (Ri (Ad (Qp Au (Rb ?_))));refine Qr (.bool _) ?_;rw [L2,if_neg (by simp [hh]),hR.2,hd];rfl
set_option maxHeartbeats 6400000
set_option maxRecDepth 20000

theorem gM {p a:Pt}{k:Nat}(h:p.args[k]? = some a):((p.args.take k).map Gr).sum+Gr a+1≤Gr p:=by
 rw [Ix p];have h2:=oY p.args (k+1);rw [C2 h,Tq,List.sum_append,List.map_singleton,List.sum_singleton] at h2;omega
theorem jP (a b:Nat):max (a:Int) (b:Int)=((max a b:Nat):Int):=by omega
theorem op_range {p:Pt}(h:(decide (p.op<0)||decide (11≤p.op))=false):0≤p.op∧p.op<11:=by
 rw [Ke] at h;have h1:=If h.1;have h2:=If h.2;omega
theorem Sd (u:Bool)(n m:Int):An Tryz.prog 295 [.bool u,.int .i64 n,.int .i64 m] (.bool (wth u n m)):=by
 refine An.body (n:=18) tok Tryz.func295 rfl rfl rfl fun H=>?_
 refine Ad (Qp Au (Bs (Qp A9 (Qp Ew (Qp A9 (Qg [] Qw Am (Qg [(10,_)] Qw Gb (Qg [(11,_)] Qw A9 (Qg [] Qw Am (Qg [] Qw Am (AOL.Aal (y:=.bool _) _ [(13,_),(14,_)] rfl (uB.all ⟨Ent.Aak _ _,Ent.Aak _ _,trivial⟩) (fun hG=>jT rfl rfl) rfl ?_)))))))))));refine Qg [(12,_),(15,_)] Qw Ea (Qp Cf (Qp Au (Rb (Qr (.bool _) ?_))));rfl
theorem Je (u:Bool)(n:Int):An Tryz.prog 296 [.bool u,.int .i64 n] (.bool (unu u n)):=by
 refine An.body (n:=10) tok Tryz.func296 rfl rfl rfl fun H=>?_
 refine Ad (Qp Au (Bs (Qp A9 (Qp A9 (Qg [] Qw Am (Qg [(7,_)] Qw Ap (Qp Cf (Qp Au (Ae (AW.ret (Qr (.bool _) ?_)))))))))));rfl
theorem yY (p:Pt)(hc:Cg p.cond≤1048576)(hl:p.args.length≤1048576):An Tryz.prog 254 [.agg (cPt p)] (.int .i64 (X5 p)):=by
 refine An.body (n:=113) tok Tryz.func254 rfl rfl rfl fun H=>?_
 refine Ad (Qp (Ed Cu) (Qp Al (Ae (Rd (Qp (Qf Cu) (Qp Bf (Qp Bp (Qp A9 (Qg [] Qw (Qf Cu) (Qg [(9,_)] Qw Bf (Qg [(10,_)] Qw Gb (Qp Cf (Ae (Ao (fun hc1=>Ad (Qp Al (Rc (Qr (Iq _) ?_)))) fun hc1=>A7 (AW.seq ?_)))))))))))))))
 · exact Eq.trans rfl (congrArg (fun q:Int=>AV.int .i64 q) (ck_1 hc1)).symm
 have hop:=op_range hc1;refine (wN hop.1 hop.2).elim fun rest hrest=>?_
 refine AW.region (Qp (Qf Cu) (Qp Bf ?_));refine Qp (Nu (cs':=cShp (M1 p.op)++rest) tok ⟨_,by simp [globals],fun _ h=>h⟩ rfl rfl rfl rfl (hop.1) (hop.2) hrest rfl) ?_;refine Qp (Bo gky) (Dt [.int .i64 0,.int .i64 0,.bool false,.bool false,.bool false,.bool false] fun b3=>?_);refine Bt 0 gky (_::_) ?_;refine AOL.ghost (GS.freeze (t:=3) 0 rfl rfl) ?_;refine Re (AW.block (Ad (Qp (Qf Vx) (Qp B7 ?_))));refine Qp (Ai (n:=p.args.length) tok rfl rfl rfl (by simp)) ?_;refine Qp (Qf gky) (Qp Bf (Qp Bp (Qp A9 (Qg [] Qw (Qf Vx) (Qg [(25,_)] Qw B7 ?_)))));refine AOL.Aal (y:=Iq _) _ [(26,_)] rfl (uB.all ⟨Ent.Aak _ _,trivial⟩) (fun hG=>Ai (n:=p.args.length) tok rfl rfl rfl (by simp)) rfl ?_;refine Qg [] Qw (Qf [Iq _,.bool _,.bool _,.bool _,.bool _]) (Qg [(28,_)] Qw Bf (AOL.Aal (y:=.bool _) _ [(27,_),(29,_)] rfl (uB.all ⟨Ent.Aak _ _,Ent.Aak _ _,trivial⟩) (fun hG=>Ss rfl rfl) rfl ?_));refine Qp Cf (Qp Au (Ae (Ao (fun hc2=>Ad (Qp Al (Ra (Qr (Iq _) ?_)))) fun hc2=>Ad (Qp (Qf gjz) (Qp gU (Qp (Qf gjx) (Qp Bf (Qp (Qc rfl (Sd _ _ _)) (Qp Ew (Qp A9 (Qg [] Qw (Qf gjz) (Qg [(40,_)] Qw gU (Qg [] Qw (Qf ghz) (Qg [(42,_)] Qw Bf (AOL.Aal (y:=.bool _) _ [(41,_),(43,_)] rfl (uB.all ⟨Ent.Aak _ _,Ent.Aak _ _,trivial⟩) (fun hG=>Qc rfl (Sd _ _ _)) rfl ?_)))))))))))))))
 · exact Eq.trans rfl (congrArg (fun q:Int=>AV.int .i64 q) (ck_2 hc1 hc2)).symm
 refine Qg [(44,_)] Qw Ew (Qp Cf (Qp A9 (Qg [] Qw (Qf [.bool _,.bool _]) (Qg [(48,_)] Qw gU (Qg [] Qw (Qf uL) (Qg [(50,_)] Qw Bf (AOL.Aal (y:=.bool _) _ [(49,_),(51,_)] rfl (uB.all ⟨Ent.Aak _ _,Ent.Aak _ _,trivial⟩) (fun hG=>Qc rfl (Sd _ _ _)) rfl ?_)))))));refine Qg [(52,_)] Qw Ew (Qp Cf (Qp A9 (Qg [] Qw (Qf [.bool _]) (Qg [(56,_)] Qw gU (Qg [] Qw (Qf gjy) (Qg [(58,_)] Qw Bf (AOL.Aal (y:=.bool _) _ [(57,_),(59,_)] rfl (uB.all ⟨Ent.Aak _ _,Ent.Aak _ _,trivial⟩) (fun hG=>Qc rfl (Sd _ _ _)) rfl ?_)))))));refine Qg [(60,_)] Qw Ew (Qp Cf (Qp Au (Ae (Ao (fun hc3=>Ad (Qp Al (Ra (Qr (Iq _) ?_)))) fun hc3=>?_))))
 · exact Eq.trans rfl (congrArg (fun q:Int=>AV.int .i64 q) (ck_3 hc1 hc2 hc3)).symm
 refine Rf (Rd (Qp (Qf [.bool _,.bool _,.bool _]) (Qp gU (Ae (Ao (fun hc4=>Ad (Qp bB (Qp Py ?_))) fun hc4=>A7 (Rd (Qp (Qf [.bool _,.bool _,.bool _]) (Qp gU (Qp Ew (Qp A9 (Qg [] Qw bB (Qg [(75,_)] Qw Py (Qg [] Qw (Du Ft) (AOL.Aal (y:=.bool _) _ [(76,_),(77,_)] rfl (uB.all ⟨Ent.Aak _ _,Ent.Aak _ _,trivial⟩) (fun hG=>Qc rfl (e8c22 p.cond Ps hc)) rfl ?_))))))))))))))
 ·
  refine Qp (Qc rfl (e8c21 p.cond hc)) (Qp Al (Bs (Qp Am (Qp Bu (Ae (Ao (fun hc5=>Ad (Qp Am (Qp Al (Rc (Qr (Iq _) ?_))))) fun hc5=>A7 (Rd (Qp (Qf [.bool _,.bool _,.bool _]) (Qp gU (Qp Ew (Qp A9 (Qg [] Qw bB (Qg [(75,_)] Qw Py (Qg [] Qw (Du Ft) (AOL.Aal (y:=.bool _) _ [(76,_),(77,_)] rfl (uB.all ⟨Ent.Aak _ _,Ent.Aak _ _,trivial⟩) (fun hG=>Qc rfl (e8c22 p.cond Ps hc)) rfl ?_)))))))))))))))
  · exact Eq.trans rfl (congrArg (fun q:Int=>AV.int .i64 q) (ck_4 hc1 hc2 hc3 hc4 hc5)).symm
  refine Qg [(78,_)] Qw Ew (Qp Ea (Qp A9 (Qg [] Qw (Qf gjz) (Qg [(82,_)] Qw gU (Qg [] Qw (Qf gjx) (Qg [(84,_)] Qw Bf (AOL.Aal (y:=.bool _) _ [(83,_),(85,_)] rfl (uB.all ⟨Ent.Aak _ _,Ent.Aak _ _,trivial⟩) (fun hG=>Qc rfl (Je _ _)) rfl ?_)))))));refine Qg [(86,_)] Qw Ew (Qp Cf (Qp A9 (Qg [] Qw (Qf gjz) (Qg [(90,_)] Qw gU (Qg [] Qw (Qf ghz) (Qg [(92,_)] Qw Bf (AOL.Aal (y:=.bool _) _ [(91,_),(93,_)] rfl (uB.all ⟨Ent.Aak _ _,Ent.Aak _ _,trivial⟩) (fun hG=>Qc rfl (Je _ _)) rfl ?_)))))));refine Qg [(94,_)] Qw Ew (Qp Cf (Qp A9 (Qg [] Qw (Qf [.bool _,.bool _]) (Qg [(98,_)] Qw gU (Qg [] Qw (Qf uL) (Qg [(100,_)] Qw Bf (AOL.Aal (y:=.bool _) _ [(99,_),(101,_)] rfl (uB.all ⟨Ent.Aak _ _,Ent.Aak _ _,trivial⟩) (fun hG=>Qc rfl (Je _ _)) rfl ?_)))))));refine Qg [(102,_)] Qw Ew (Qp Cf (Qp A9 (Qg [] Qw (Qf [.bool _]) (Qg [(106,_)] Qw gU (Qg [] Qw (Qf gjy) (Qg [(108,_)] Qw Bf (AOL.Aal (y:=.bool _) _ [(107,_),(109,_)] rfl (uB.all ⟨Ent.Aak _ _,Ent.Aak _ _,trivial⟩) (fun hG=>Qc rfl (Je _ _)) rfl ?_)))))));refine Qg [(110,_)] Qw Ew (Qp Cf (Ae (Ao (fun hc6=>Ad (Qp Al (Rc (Qr (Iq _) ?_)))) fun hc6=>A7 (Ad (Qp Al (Rb (Qr (Iq _) ?_)))))))
  · exact Eq.trans rfl (congrArg (fun q:Int=>AV.int .i64 q) ((ck_n hc1 hc2 hc3 (by rw [hc5];simp)).trans (if_pos hc6))).symm
  exact Eq.trans rfl (congrArg (fun q:Int=>AV.int .i64 q) ((ck_n hc1 hc2 hc3 (by rw [hc5];simp)).trans (Bi hc6))).symm
 refine Qg [(78,_)] Qw Ew (Qp Ea (Qp A9 (Qg [] Qw (Qf gjz) (Qg [(82,_)] Qw gU (Qg [] Qw (Qf gjx) (Qg [(84,_)] Qw Bf (AOL.Aal (y:=.bool _) _ [(83,_),(85,_)] rfl (uB.all ⟨Ent.Aak _ _,Ent.Aak _ _,trivial⟩) (fun hG=>Qc rfl (Je _ _)) rfl ?_)))))));refine Qg [(86,_)] Qw Ew (Qp Cf (Qp A9 (Qg [] Qw (Qf gjz) (Qg [(90,_)] Qw gU (Qg [] Qw (Qf ghz) (Qg [(92,_)] Qw Bf (AOL.Aal (y:=.bool _) _ [(91,_),(93,_)] rfl (uB.all ⟨Ent.Aak _ _,Ent.Aak _ _,trivial⟩) (fun hG=>Qc rfl (Je _ _)) rfl ?_)))))));refine Qg [(94,_)] Qw Ew (Qp Cf (Qp A9 (Qg [] Qw (Qf [.bool _,.bool _]) (Qg [(98,_)] Qw gU (Qg [] Qw (Qf uL) (Qg [(100,_)] Qw Bf (AOL.Aal (y:=.bool _) _ [(99,_),(101,_)] rfl (uB.all ⟨Ent.Aak _ _,Ent.Aak _ _,trivial⟩) (fun hG=>Qc rfl (Je _ _)) rfl ?_)))))));refine Qg [(102,_)] Qw Ew (Qp Cf (Qp A9 (Qg [] Qw (Qf [.bool _]) (Qg [(106,_)] Qw gU (Qg [] Qw (Qf gjy) (Qg [(108,_)] Qw Bf (AOL.Aal (y:=.bool _) _ [(107,_),(109,_)] rfl (uB.all ⟨Ent.Aak _ _,Ent.Aak _ _,trivial⟩) (fun hG=>Qc rfl (Je _ _)) rfl ?_)))))));refine Qg [(110,_)] Qw Ew (Qp Cf (Ae (Ao (fun hc7=>Ad (Qp Al (Rc (Qr (Iq _) ?_)))) fun hc7=>A7 (Ad (Qp Al (Rb (Qr (Iq _) ?_)))))))
 · exact Eq.trans rfl (congrArg (fun q:Int=>AV.int .i64 q) ((ck_n hc1 hc2 hc3 (by rw [hc4];rfl)).trans (if_pos hc7))).symm
 exact Eq.trans rfl (congrArg (fun q:Int=>AV.int .i64 q) ((ck_n hc1 hc2 hc3 (by rw [hc4];rfl)).trans (Bi hc7))).symm
theorem rp_Size (p:Pt)(hp:Gr p≤1048576):An Tryz.prog 253 [.agg (cPt p)] (.tuple [.int .i64 (Gr p:Nat),.int .i64 (Z8 p:Nat)]):=by
 induction p using Pt.ind
 rename_i p ih;have hal:=Mw p;refine An.body (n:=32) tok Tryz.func253 rfl rfl rfl fun H=>?_
 refine Ad (Qp (Ed Cu) (Qp Al (Qp Al (Bs (Qp Al (Qp Al (Ae (Rd (Qp (Qf Vx) (Qp B7 ?_))))))))));refine Qp (Ai (n:=p.args.length) tok rfl rfl rfl (by simp)) ?_;refine Qp Am (Ae (AW.block ?_));refine AW.Aam (fun (q:Nat×Nat×Nat)=>(⟨[(4,.int .i64 (q.2.1:Int)),(5,.int .i64 (q.2.2:Int)),(11,.sl 14 (p.args.map K8)),(12,.int .i64 p.args.length),(13,.int .i64 (q.1:Int))],H,32⟩:St)) (fun q=>q.1≤p.args.length∧q.2.1=1+((p.args.take q.1).map Gr).sum∧q.2.2=Tj (p.args.take q.1)) (fun q=>p.args.length-q.1) ((0,1,0)) ?_ Bv ?_
 · exact ⟨Dh _,rfl,by rw [hJ,Tj]⟩
 rintro q hR;refine Ad (Qp Bp (Re (Ao (fun hc1=>?_) fun hc1=>?_)))
 ·
  obtain ⟨a,ha⟩:=By hc1;have hlt:=Bj ha;have hm:=B6 ha;have hsm:=P6 hm;have hps:=gM (p:=p) ha;have hq1:=hR.2.1;refine A7 (AW.seq (AW.block (Ad ?_)));refine Qp (Aa (c:=Cu) tok rfl rfl rfl rfl rfl rfl (by omega) (Um ha)) ?_;refine Qp (Bo Cu) (Dt gV fun b7=>?_);refine Bt 0 Cu (_::_) ?_;refine AOL.ghost (GS.freeze (t:=7) 0 rfl rfl) ?_;refine Bs (Qp (Bo Cu) ?_);refine Qp (Qc rfl (ih a hm (by have:=P6 hm;omega))) ?_;refine Qp Lm (Qp Ib (Qp Ib (Qp Al (Qp Al (Ae (AW.region (Qp Am (Qp Am (Qp Dl (Qp Am (Qp Am (Qp (Tu rfl rfl) (Qp Al (Qp Al (Rk (AW.region (Qp Dl (Qp Am (Ae ?_)))))))))))))))))));refine ⟨(q.1+1,q.2.1+Gr a,max q.2.2 (Z8 a)),?_,?_,GS.weaken ⟨rfl,congrArg (AV.int .i64) (jP q.2.2 (Z8 a)),rfl,rfl,rfl,trivial⟩ (.refl _)⟩
  · exact ⟨hlt,by simp only;rw [C2 ha,hR.2.1];simp;omega,by simp only;rw [C2 ha,Wf,hR.2.2]⟩
  simp only;omega
 have hte:=Cn hc1;have h1:=hR.2.1;have h2:=hR.2.2;rw [hte] at h1 h2;have hdp:=dp_le p;have hde:=Z0 p;refine AW.exit ?_;refine Bk (Ri (Ad (Qp Am (Qp Am (Qp Dl (Qp Al (Qp Al ?_)))))));refine Rb (M6 (Iq _) (Iq _) ?_);exact Eq.trans rfl (congrArg (fun q:Nat×Nat=>AV.tuple [.int .i64 (q.1:Int),.int .i64 (q.2:Int)]) (show (q.2.1,q.2.2+1)=(Gr p,Z8 p) by rw [h1,h2,Ix,Z0];simp;omega))
theorem rp_walk (S:Type)(live:S→Bool)(step:S→Pt→S)(Good:S→Nat→Prop)(hmo:∀s n m,Good s n→m≤n→Good s m)(hgo:∀s q n,Good s (n+1)→Good (step s q) n)(Q:Pt→Prop)(HH:S→List HO)(l:Nat)(rec:Loop)(hrec:rec.params.size=1)(hobj:∀s,live s=true→∃i:Nat,(HH s)[i]? = some (HO.obj l (Obj.loop rec)))(hY:∀s q n,live s=true→Q q→Good s (n+1)→On Tryz.prog l rec (HH s) [.agg (cPt q)] (fun r H'=>r = .bool (live (step s q))∧H'=HH (step s q)))(p:Pt)(hp:Gr p≤1048576)(hq:∀q∈F2 p,Q q)(s:S)(m:Nat)(hs:live s=true)(hg:Good s (Gr p+m)):B5 Tryz.prog 188 (HH s) [.agg (cPt p),.val (.func (.yield l) #[] #[])] (fun r H'=>r = .bool (live (Qv live step s (F2 p)))∧H'=HH (Qv live step s (F2 p))):=by
 revert m
 revert s
 induction p using Pt.ind
 rename_i p ih;intro s hs m hg;have hal:=Mw p;refine B5.body (n:=23) tok Tryz.func188 rfl rfl rfl ?_;refine Ad (Qp (Ed Cu) (Qp Au (Re (AW.seq ?_))));refine AW.regionYk 2 rfl (by kernel_rfl) (by kernel_rfl) ?_;refine Qp Bw (Qp (Bo Cu) (AOL.nil ?_));have hg1:Good s (Gr p-1+m+1):=by rw [show Gr p-1+m+1=Gr p+m by omega];exact hg
 refine ⟨l,rec,_,hobj s hs,rfl,hrec.symm,rfl,hY s p (Gr p-1+m) hs (hq p (qZ p)) hg1,?_⟩;rintro _ _ ⟨rfl,rfl⟩;refine Qp Ew (Ae (Ao (fun hc1=>Ad (Qp Au (Rc ?_))) fun hc1=>A7 (Rd (Qp (Qf Vx) (Qp B7 ?_)))))
 ·
  refine ⟨.inr rfl,[.bool _],.cons (.tmp _ _ rfl) <| .nil,_,.refl _,?_⟩;have hx:=goY_stop live step hs (show live (step s p)=false by simpa using hc1);exact ⟨congrArg AV.bool (by rw [hx];simpa using hc1:false=live _),congrArg HH hx.symm⟩
 refine Qp (Ai (n:=p.args.length) tok rfl rfl rfl (by simp)) ?_;refine Qp Am (Ae (AW.block ?_));have hg2:Good (Qv live step (step s p) ((p.args.take 0).flatMap F2)) (((p.args.drop 0).map Gr).sum+m):=by have h:=hgo s p (Gr p-1+m) hg1;rw [show Gr p-1=(p.args.map Gr).sum by rw [Ix];rfl] at h;exact h
 refine AW.Aam (fun (k:Nat)=>(⟨[(1,.val (.func (.yield l) #[] #[])),(12,.sl 14 (p.args.map K8)),(13,.int .i64 p.args.length),(14,.int .i64 (k:Int))],HH (Qv live step (step s p) ((p.args.take k).flatMap F2)),23⟩:St)) (fun k=>k≤p.args.length∧live (Qv live step (step s p) ((p.args.take k).flatMap F2))=true∧Good (Qv live step (step s p) ((p.args.take k).flatMap F2)) (((p.args.drop k).map Gr).sum+m)) (fun k=>p.args.length-k) (0) ?_ Bv ?_
 · exact ⟨Dh _,by simpa [Qv] using hc1,hg2⟩
 rintro k hR;refine Ad (Qp Bp (Re (Ao (fun hc2=>?_) fun hc2=>?_)))
 ·
  obtain ⟨a,ha⟩:=By hc2;have hlt:=Bj ha;have hm:=B6 ha;refine A7 (AW.seq (AW.block (Ad ?_)));refine Qp (Aa (c:=Cu) tok rfl rfl rfl rfl rfl rfl (by omega) (Um ha)) ?_;refine Qp (Bo Cu) (Dt gV fun b6=>?_);refine Bt 0 Cu (_::_) ?_;refine AOL.ghost (GS.freeze (t:=6) 0 rfl rfl) ?_;refine Bs (Qp (Bo Cu) (Qp Bw ?_));refine Rt (Dc rfl (ih a hm (by have:=P6 hm;omega) (fun q h=>hq q (nd_mem hm h)) _ hR.2.1 (((p.args.drop (k+1)).map Gr).sum+m) (by have h:=hR.2.2;rw [Ax ha,E7,J3,Nat.add_assoc] at h;exact h))) ?_;refine Qp Ew (Ae (Ao (fun hc3=>Ad (Qp Au (Ra (Av (B9 (Av ?_)))))) fun hc3=>Rf (AW.region (Qp Dl (Qp Am (Ae ?_))))))
  ·
   refine ⟨.inr rfl,[.bool _],.cons (.tmp _ _ rfl) <| .nil,_,.refl _,?_⟩;have hd:live (Qv live step (step s p) ((p.args.take (k+1)).flatMap F2))=false:=by rw [Zi live step ha];simpa using hc3
   have hx:=(mB live step hs p).trans (goY_cut live step ha hd);exact ⟨congrArg AV.bool (by rw [hx,hd]:false=live _),congrArg HH ((Zi live step ha).symm.trans hx.symm)⟩
  refine ⟨k+1,?_,?_,GS.trans (GS.heq (congrArg HH (Zi live step ha).symm)) Bv⟩
  · exact ⟨hlt,by rw [Zi live step ha];simpa using hc3,by rw [Zi live step ha];exact cW live step hmo hgo (F2 a) _ _ (by have h:=hR.2.2;rw [Ax ha,E7,J3,Nat.add_assoc,←fH] at h;exact h)⟩
  omega
 have hte:=Cn hc2;refine AW.exit ?_;refine Bk (Ri (Ad (Qp Au (Rb ?_))));refine ⟨.inr rfl,[.bool _],.cons (.tmp _ _ rfl) <| .nil,_,.refl _,?_⟩;have hx:=mB live step hs p;have h9:=hR.2.1;rw [hte] at h9;exact ⟨congrArg AV.bool (by rw [hx,h9]:true=live _),congrArg HH ((congrArg (fun L:List Pt=>Qv live step (step s p) (L.flatMap F2)) hte).trans hx.symm)⟩
theorem oK (p:Pt):An Tryz.prog 115 [.agg (cPt p)] (.fn (.func 187) [] [.ptr (cPt p)]):=by
 refine An.body (n:=4) tok Tryz.func115 rfl rfl rfl fun H=>?_
 refine Ad (Qp (Ed Cu) (Qp Qk (Bs (Qp (B1 (l:=[]) (l':=[.ptr _]) rfl rfl) (Qp (A8 (v:=.fn _ _ _) rfl) (Rb (Qr (.fn _ _ _) ?_)))))));rfl
theorem eH (S:Type)(live:S→Bool)(step:S→Pt→S)(Good:S→Nat→Prop)(hmo:∀s n m,Good s n→m≤n→Good s m)(hgo:∀s q n,Good s (n+1)→Good (step s q) n)(Q:Pt→Prop)(HH:S→List HO)(l:Nat)(rec:Loop)(hrec:rec.params.size=1)(hobj:∀s,live s=true→∃i:Nat,(HH s)[i]? = some (HO.obj l (Obj.loop rec)))(hY:∀s q n,live s=true→Q q→Good s (n+1)→On Tryz.prog l rec (HH s) [.agg (cPt q)] (fun r H'=>r = .bool (live (step s q))∧H'=HH (step s q)))(p:Pt)(hp:Gr p≤1048576)(hq:∀q∈F2 p,Q q)(s:S)(m:Nat)(hs:live s=true)(hg:Good s (Gr p+m)):B5 Tryz.prog 187 (HH s) [.val (.func (.yield l) #[] #[]),.ptr (cPt p)] (fun r H'=>r = .tuple []∧H'=HH (Qv live step s (F2 p))):=by
 refine B5.body (n:=6) tok Tryz.func187 rfl rfl rfl ?_;refine AW.region (Qp (Bo Cu) (Qp Bw (mW (rp_walk S live step Good hmo hgo Q HH l rec hrec hobj hY p hp hq s m hs hg) (AOL.nil ?_))));refine ⟨.inl rfl,[],.nil,_,.refl _,?_⟩;exact ⟨rfl,rfl⟩

end Go.Proofs.YtckhoadldibflaaGreatDoor
