/-
  Several texts in one: S74, Arm, S75, S76, S77, R67, S71, S78, R51, R48w, R49w. No condition.
-/
import Derived.Test.YtibcelnfkhdjaaaGreatDoorK10
import Derived.Test.YtibcelnfkhdjaaaGreatDoorK08
import Derived.Test.YtibcelnfkhdjaaaGreatDoorK09
import Derived.Test.YtibcelnfkhdjaaaGreatDoorK05
import Derived.KernelRfl
import Derived.Test.YtibcelnfkhdjaaaGreatDoorK07
import Derived.Test.YtibcelnfkhdjaaaGreatDoorK03
set_option linter.unusedVariables false
set_option linter.unusedSimpArgs false
set_option maxHeartbeats 6400000
set_option maxRecDepth 100000
namespace Go.Proofs.YtibcelnfkhdjaaaGreatDoor
open Go Go.Aw
def wdS (k:Nat):Ag:=if k=0 then I4 else if k=1 then Gj else Fe
theorem wd_cells {k:Nat}(h:k<3):Nl[k]? = some (.str (wdS k)):=by
 match k,h with
 | 0,_=>rfl
 | 1,_=>rfl
 | 2,_=>rfl
theorem wd_ptr {k:Int}(h:k=0\/k=1\/k=2):∃r,Nl.drop (k.toNat*1) = .str (lO k)::r:=by
 rcases h with rfl | rfl | rfl
 . exact ⟨_,rfl⟩
 . exact ⟨_,rfl⟩
 exact ⟨_,rfl⟩
theorem pM {s:e8Sc}(h:Gi s=0):T3 s:=by
 obtain ⟨a1,a2⟩:=Jg h;have h1:=(Jx a1).2.1;have h2:=U4 h;exact ⟨by omega,by omega,fun f hf=>by have:=(Jx (a2 f hf).2.1).2.1;omega⟩
theorem kd_range {k:Int}(h:k=0\/k=1\/k=2):0<=k/\k<3:=by omega
theorem mX {T:List e8Sc}{k:Nat}{s:e8Sc}(h:T[k]? = some s):M6 (T.take (k+1))=M6 (T.take k)++s.name++s.fields.flatMap De ++ [10]:=by
 unfold M6;rw [Cs h,Uf];simp [Ez]
theorem fmt_part {T:List e8Sc}{k:Nat}{s:e8Sc}(h:T[k]? = some s):(M6 (T.take k)).length+s.name.length+(s.fields.flatMap De).length+1<=(M6 T).length:=by
 have h1:=congrArg List.length (mX h);have h2:=congrArg (fun l=>(M6 l).length) (Po (k+1) T);have h3:M6 (T.take (k+1)++T.drop (k+1))=M6 (T.take (k+1))++M6 (T.drop (k+1)):=by unfold M6;rw [Uf]
 simp only [h3,Ao,D2] at h1 h2;omega
theorem mV {l:List Fi}{k:Nat}{f:Fi}(h:l[k]? = some f):(l.take (k+1)).flatMap De=(l.take k).flatMap De++([32]++f.name ++ [58]++lO f.kind):=by
 rw [Cs h,Uf];simp [De]
theorem fld_part {l:List Fi}{k:Nat}{f:Fi}(h:l[k]? = some f):((l.take k).flatMap De).length+(1+f.name.length+1+(lO f.kind).length)<=(l.flatMap De).length:=by
 have h1:=congrArg List.length (mV h);have h2:=congrArg (fun l=>(l.flatMap De).length) (Po (k+1) l);simp only [Uf,Ao,D2] at h1 h2;omega
theorem eS (l:List Fi)(hl:l.length<=1048576)(n:Ag):Ap Tryz.prog 37 [.sl 2 (l.map Tf),.str n] (.int .i64 (Kb (l.map (·.name)) n)):=by
 refine Ap.body (n:=20) tok Tryz.func37 rfl rfl rfl fun H=>?_
 refine AW.seq (AW.region (AOL.p (Ad (v:=.int .i64 _) rfl) rfl (AOL.nil (Aa (AW.seq (AW.seq (AW.region (AOL.p (Ab (v:=.sl _ _) rfl) rfl ?_))))))));refine AOL.p (Dz (n:=l.length) tok rfl rfl rfl (by simp)) rfl ?_;refine AOL.p (Ab (v:=.int .i64 _) rfl) rfl (AOL.nil (Aa (AW.block ?_)));refine AW.loopS (fun (k:Nat)=>(⟨[(1,.str n),(7,.sl 2 (l.map Tf)),(8,.int .i64 l.length),(9,.int .i64 (k:Int))],H,20⟩:St)) (fun k=>k<=l.length/\((l.map (·.name)).take k).contains n=false) (fun k=>l.length-k) (0) ?_ (GS.weaken ⟨rfl,rfl,rfl,rfl,trivial⟩ (.refl _)) ?_
 . exact ⟨A7 _,by simp⟩
 rintro k hR;refine AW.seq (AW.region (AOL.p (Np rfl rfl) rfl (AOL.nil (Aa (AW.seq (AW.cond (b:=_) rfl (fun hc1=>?_) (fun hc1=>?_)))))))
 .
  obtain ⟨a,ha⟩:=C2 hc1;have hlt:=Cc ha;have hm:=Aj ha;have hna:(l.map (·.name))[k]? = some a.name:=by simp [ha]
  refine AW.skip (Aa (AW.seq (AW.block (AW.seq (AW.region (AOL.p (Ab (v:=.int .i64 _) rfl) rfl ?_))))));refine AOL.p (Ec (c:=[.str _,.int .i64 _]) tok rfl rfl rfl rfl rfl rfl (by omega) (Cf ha)) rfl ?_;refine AOL.p (Cq (l:=[.str _,.int .i64 _]) tok rfl rfl rfl rfl rfl) rfl ?_;refine AOL.e (Dg (l:=[.str [],.int .i64 0]) (by kernel_rfl)) rfl ?_;rintro _ _ ⟨b6,rfl,rfl⟩;refine AOL.p (Ad (v:=.int .i64 _) rfl) rfl (AOL.e (Dj (k:=0) (v:=.agg _) (cs':=[.str _,.int .i64 _]) (H2:=_::_) tok rfl rfl rfl rfl (rfl) rfl rfl rfl rfl) rfl ?_);rintro _ _ ⟨rfl,rfl⟩;refine AOL.ghost (GS.freeze (t:=6) 0 rfl rfl) ?_;refine AOL.nil (Aa (AW.seq (AW.region (AOL.p (Ai (cs':=[.str _,.int .i64 _]) tok rfl rfl rfl rfl rfl rfl) rfl (AOL.p (Aq (c:=.str _) tok rfl rfl rfl) rfl (AOL.p (Ab (v:=.str _) rfl) rfl (AOL.p (Dx rfl rfl) rfl (AOL.nil (Aa (AW.cond (b:=_) rfl (fun hc2=>AW.seq (AW.region (AOL.p (Ab (v:=.int .i64 _) rfl) rfl (AOL.p (Ad (v:=.int .i64 _) rfl) rfl (AOL.nil (Aa (AW.ret (Dw (A4 (A4 (Dw (A4 ?_)))))))))))) (fun hc2=>AW.skip (Ff (Aa (AW.region ?_))))))))))))))
  .
   refine ⟨.inr rfl,[.int .i64 _],.cons (.tmp _ _ rfl) <| .nil,.refl _,?_⟩;have e:a.name=n:=by simpa using hc2
   rw [e] at hna;exact Eq.trans rfl (congrArg (fun q:Int=>AV.int .i64 q) (yE hna hR.2)).symm
  refine AOL.p (Js rfl rfl rfl (by constructor <;> omega)) rfl ?_;refine AOL.p (Ab (v:=.int .i64 _) rfl) rfl (AOL.nil (Aa ?_));refine ⟨k+1,?_,?_,GS.weaken ⟨rfl,rfl,rfl,rfl,trivial⟩ (.refl _)⟩
  . exact ⟨hlt,Vg hna hR.2 hc2⟩
  omega
 have hte:=Dt hc1;refine AW.exit ?_;refine Br (Br (Gp (Aa ?_)));refine AW.seq (AW.region (AOL.p (Ad (v:=.int .i64 _) rfl) rfl (AOL.nil (Aa (AW.ret ?_)))));refine ⟨.inr rfl,[.int .i64 _],.cons (.tmp _ _ rfl) <| .nil,.refl _,?_⟩;have h2:=hR.2;rw [<-List.map_take,hte] at h2;exact Eq.trans rfl (congrArg (fun q:Int=>AV.int .i64 q) (sC h2)).symm
def Rh (s:e8Sc)(n:Ag):Int×Int:=if (Gi s != 0) then (0,Gi s) else if decide (0<=Ey s n) then (Ey s n,0) else (0,6)
theorem ix_1 {s:e8Sc}{n:Ag}(h:(Gi s != 0)=true):Rh s n=(0,Gi s):=if_pos h
theorem ix_2 {s:e8Sc}{n:Ag}(h:(Gi s != 0)=false)(h2:decide (0<=Kb (s.fields.map (·.name)) n)=true):Rh s n=(Kb (s.fields.map (·.name)) n,0):=(B2 h).trans (if_pos h2)
theorem ix_3 {s:e8Sc}{n:Ag}(h:(Gi s != 0)=false)(h2:decide (0<=Kb (s.fields.map (·.name)) n)=false):Rh s n=(0,6):=(B2 h).trans (B2 h2)
theorem s_Index (s:e8Sc)(hs:T3 s)(n:Ag):Ap Tryz.prog 15 [.agg (Fx s),.str n] (.tuple [.int .i64 (Rh s n).1,.int .i64 (Rh s n).2]):=by
 refine Ap.body (n:=20) tok Tryz.func15 rfl rfl rfl fun H=>?_
 refine AW.seq (AW.region (AOL.p (Sw (v:=.agg _) (cs:=[.str _,_]) rfl rfl rfl) rfl (AOL.p (Ad (v:=.int .i64 _) rfl) rfl (AOL.p (Ad (v:=.int .i64 _) rfl) rfl (AOL.nil (Aa (AW.seq (AW.seq (AW.region (AOL.p (Cq (l:=[.str _,_]) tok rfl rfl rfl rfl rfl) rfl ?_))))))))));refine AOL.p (Eg (by kernel_rfl) rfl rfl (c85 s hs)) rfl ?_;refine AOL.p (Ad (v:=.int .i64 _) rfl) rfl (AOL.nil (Aa (AW.seq (AW.region (AOL.p (Ab (v:=.int .i64 _) rfl) rfl (AOL.p (Nq rfl rfl) rfl (AOL.nil (Aa (AW.cond (b:=_) rfl (fun hc1=>AW.seq (AW.region (AOL.p (Ab (v:=.int .i64 _) rfl) rfl (AOL.p (Ad (v:=.int .i64 _) rfl) rfl (AOL.p (Ad (v:=.int .i64 _) rfl) rfl (AOL.nil (Aa (AW.ret (A4 ?_))))))))) (fun hc1=>AW.skip (Aa (AW.seq (AW.seq (AW.region (AOL.p (Ai (cs':=[_]) tok rfl rfl rfl rfl rfl rfl) rfl (AOL.p (Aq (c:=.sl _ _) tok rfl rfl rfl) rfl (AOL.p (Ab (v:=.str _) rfl) rfl ?_)))))))))))))))))
 .
  refine ⟨.inr rfl,[.int .i64 _,.int .i64 _],.cons (.tmp _ _ rfl) <| .cons (.tmp _ _ rfl) <| .nil,.refl _,?_⟩;exact Eq.trans rfl (congrArg (fun q:Int×Int=>AV.tuple [.int .i64 q.1,.int .i64 q.2]) (ix_1 hc1)).symm
 refine AOL.p (Eg (by kernel_rfl) rfl rfl (eS s.fields hs.2.1 n)) rfl ?_;refine AOL.p (Ad (v:=.int .i64 _) rfl) rfl (AOL.nil (Aa (AW.seq (AW.region (AOL.p (Ab (v:=.int .i64 _) rfl) rfl (AOL.p (tS rfl rfl) rfl (AOL.nil (Aa (AW.cond (b:=_) rfl (fun hc2=>AW.seq (AW.region (AOL.p (Ab (v:=.int .i64 _) rfl) rfl (AOL.p (Ad (v:=.int .i64 _) rfl) rfl (AOL.p (Ad (v:=.int .i64 _) rfl) rfl (AOL.nil (Aa (AW.ret (A4 ?_))))))))) (fun hc2=>AW.skip (Aa (AW.seq (AW.region (AOL.p (Ad (v:=.int .i64 _) rfl) rfl (AOL.p (Ad (v:=.int .i64 _) rfl) rfl (AOL.nil (Aa (AW.ret ?_))))))))))))))))))
 .
  refine ⟨.inr rfl,[.int .i64 _,.int .i64 _],.cons (.tmp _ _ rfl) <| .cons (.tmp _ _ rfl) <| .nil,.refl _,?_⟩;exact Eq.trans rfl (congrArg (fun q:Int×Int=>AV.tuple [.int .i64 q.1,.int .i64 q.2]) (ix_2 hc1 hc2)).symm
 refine ⟨.inr rfl,[.int .i64 _,.int .i64 _],.cons (.tmp _ _ rfl) <| .cons (.tmp _ _ rfl) <| .nil,.refl _,?_⟩;exact Eq.trans rfl (congrArg (fun q:Int×Int=>AV.tuple [.int .i64 q.1,.int .i64 q.2]) (ix_3 hc1 hc2)).symm
theorem s_Format (T:List e8Sc)(h:(Dr T != 0)=false):Ap Tryz.prog 12 [.sl 2 (T.map Fx)] (.tuple [.str (M6 T),.int .i64 0]):=by
 have h0:Dr T=0:=by simpa using h
 obtain ⟨htl,hnd,hok⟩:=Rm h;have hfl:=bQ h;have hos:∀s∈T,T3 s:=fun s hs=>pM (hok s hs)
 refine Ap.body (n:=45) tok Tryz.func12 rfl rfl rfl fun H=>?_
 refine AW.seq (AW.region (AOL.p (Ad (v:=.str _) rfl) rfl (AOL.p (Ad (v:=.int .i64 _) rfl) rfl (AOL.nil (Aa (AW.seq (AW.seq (AW.region (AOL.p (Ab (v:=.sl _ _) rfl) rfl ?_)))))))));refine AOL.p (Eg (by kernel_rfl) rfl rfl (e8c57 T (by omega) hos)) rfl ?_;refine AOL.p (Ad (v:=.int .i64 _) rfl) rfl (AOL.nil (Aa (AW.seq (AW.region (AOL.p (Ab (v:=.int .i64 _) rfl) rfl (AOL.p (Nq rfl rfl) rfl (AOL.nil (Aa (AW.cond (b:=_) rfl (fun hc1=>?_) (fun hc1=>AW.skip (Aa (AW.seq (AW.region ?_)))))))))))))
 . exact absurd (h.symm.trans hc1) (by decide)
 refine AOL.e (Dg (l:=[.val (.pointer none),.val (.slice none 0 0)]) (by kernel_rfl)) rfl ?_;rintro _ _ ⟨b5,rfl,rfl⟩;refine AOL.ghost (GS.cellRow 0 1 5 1 rfl rfl rfl rfl) ?_;refine AOL.nil (Aa (AW.seq (AW.seq (AW.region (AOL.p (Ab (v:=.sl _ _) rfl) rfl ?_)))));refine AOL.p (Dz (n:=T.length) tok rfl rfl rfl (by simp)) rfl ?_;refine AOL.p (Ab (v:=.int .i64 _) rfl) rfl (AOL.nil (Aa (AW.block ?_)));refine AW.loopS (fun (p:Nat×Ag×Value×Option Addr)=>(⟨[(5,.val (.pointer (some ⟨b5,0,none⟩))),(15,.sl 2 (T.map Fx)),(16,.int .i64 T.length),(17,.int .i64 (p.1:Int))],.row p.2.2.1 (Fw p.2.1).length 5 1 :: .box b5 93 [.val (.pointer p.2.2.2),.row p.2.2.1 1 (Fw p.2.1)]::H,45⟩:St)) (fun p=>p.1<=T.length/\p.2.1=M6 (T.take p.1)/\(p.2.2.2=none\/p.2.2.2=some ⟨b5,0,none⟩)) (fun p=>T.length-p.1) ((0,[],.slice none 0 0,none)) ?_ (GS.weaken ⟨rfl,rfl,rfl,rfl,trivial⟩ (.refl _)) ?_
 . exact ⟨A7 _,rfl,.inl rfl⟩
 rintro p hR;refine AW.seq (AW.region (AOL.p (Np rfl rfl) rfl (AOL.nil (Aa (AW.seq (AW.cond (b:=_) rfl (fun hc2=>?_) (fun hc2=>?_)))))))
 .
  obtain ⟨a,ha⟩:=C2 hc2;have hlt:=Cc ha;have hm:=Aj ha;have hps:=fmt_part ha;have hsn:=Jg (hok a hm);have hfn:=U4 (hok a hm);refine AW.skip (Aa (AW.seq (AW.block (AW.seq (AW.region ?_)))));refine AOL.p (Ec (c:=[.str _,_]) tok rfl rfl rfl rfl rfl rfl (by omega) (Cf ha)) rfl ?_;refine AOL.p (Cq (l:=[.str _,_]) tok rfl rfl rfl rfl rfl) rfl ?_;refine AOL.e (Dg (l:=[.str [],.sl 2 []]) (by kernel_rfl)) rfl ?_;rintro _ _ ⟨b7,rfl,rfl⟩;refine AOL.e (Dj (k:=0) (v:=.agg _) (cs':=[.str _,_]) (H2:=_::_::_::_) tok rfl rfl rfl rfl (rfl) rfl rfl rfl rfl) rfl ?_;rintro _ _ ⟨rfl,rfl⟩;refine AOL.ghost (GS.freeze (t:=7) 0 rfl rfl) ?_;refine AOL.nil (Aa (AW.seq (AW.region (AOL.p (Ai (cs':=[.str _,_]) tok rfl rfl rfl rfl rfl rfl) rfl (AOL.p (Aq (c:=.str _) tok rfl rfl rfl) rfl ?_)))));refine AOL.e (L6 (by kernel_rfl) rfl rfl (bS b5 93 p.2.2.2 hR.2.2 p.2.2.1 p.2.1 a.name [] (by kernel_rfl) (by rw [hR.2.1];omega) H)) rfl ?_;rintro _ _ ⟨v23,rfl,rfl⟩;refine AOL.nil (Aa (AW.seq (AW.seq (AW.region (AOL.p (Ai (cs':=[_]) tok rfl rfl rfl rfl rfl rfl) rfl (AOL.p (Aq (c:=.sl _ _) tok rfl rfl rfl) rfl ?_))))));refine AOL.p (Dz (n:=a.fields.length) tok rfl rfl rfl (by simp)) rfl ?_;refine AOL.p (Ab (v:=.int .i64 _) rfl) rfl (AOL.nil (Aa (AW.block ?_)));refine AW.loopS (fun (q:Nat×Ag×Value×Option Addr)=>(⟨[(5,.val (.pointer (some ⟨b5,0,none⟩))),(15,.sl 2 (T.map Fx)),(16,.int .i64 T.length),(17,.int .i64 (p.1:Int)),(25,.sl 2 (a.fields.map Tf)),(26,.int .i64 a.fields.length),(27,.int .i64 (q.1:Int))],.row q.2.2.1 (Fw q.2.1).length 5 1 :: .box b5 93 [.val (.pointer q.2.2.2),.row q.2.2.1 1 (Fw q.2.1)]::H,45⟩:St)) (fun q=>q.1<=a.fields.length/\q.2.1=M6 (T.take p.1)++a.name++(a.fields.take q.1).flatMap De/\(q.2.2.2=none\/q.2.2.2=some ⟨b5,0,none⟩)) (fun q=>a.fields.length-q.1) ((0,p.2.1++a.name,v23,some ⟨b5,0,none⟩)) ?_ (GS.weaken ⟨rfl,rfl,rfl,rfl,rfl,rfl,rfl,trivial⟩ (.refl _)) ?_
  . exact ⟨A7 _,by simp only;rw [hR.2.1];simp,.inr rfl⟩
  rintro q hQ;refine AW.seq (AW.region (AOL.p (Np rfl rfl) rfl (AOL.nil (Aa (AW.seq (AW.cond (b:=_) rfl (fun hc3=>?_) (fun hc3=>?_)))))))
  .
   obtain ⟨f,haf⟩:=C2 hc3;have hltf:=Cc haf;have hmf:=Aj haf;have hpf:=fld_part haf;have hkd:=(hsn.2 f hmf).2.2;have hkr:=kd_range hkd;refine (wd_ptr hkd).elim fun wr hwr=>?_
   refine AW.skip (Aa (AW.seq (AW.block (AW.seq (AW.region ?_)))));refine AOL.p (Ec (c:=[.str _,.int .i64 _]) tok rfl rfl rfl rfl rfl rfl (by omega) (Cf haf)) rfl ?_;refine AOL.p (Cq (l:=[.str _,.int .i64 _]) tok rfl rfl rfl rfl rfl) rfl ?_;refine AOL.e (Dg (l:=[.str [],.int .i64 0]) (by kernel_rfl)) rfl ?_;rintro _ _ ⟨b9,rfl,rfl⟩;refine AOL.e (Dj (k:=0) (v:=.agg _) (cs':=[.str _,.int .i64 _]) (H2:=_::_::_::_) tok rfl rfl rfl rfl (rfl) rfl rfl rfl rfl) rfl ?_;rintro _ _ ⟨rfl,rfl⟩;refine AOL.ghost (GS.freeze (t:=9) 0 rfl rfl) ?_;refine AOL.nil (Aa ?_);refine AW.draw mixed (fun _=>True) trivial (by kernel_rfl) ?_;refine F3.pure _ _ 0 _ _ rfl (by kernel_rfl) (by kernel_rfl) rfl (.run rfl (Ai (cs':=[.str _,.int .i64 _]) tok rfl rfl rfl rfl rfl rfl)) ?_;refine F3.pure _ _ 1 _ _ rfl (by kernel_rfl) (by kernel_rfl) rfl (.run rfl (Aq (c:=.str _) tok rfl rfl rfl)) ?_;refine F3.pure _ _ 2 _ _ rfl (by kernel_rfl) (by kernel_rfl) rfl (.run rfl (Pu rfl rfl rfl (by simp [maxLen];omega))) ?_;refine F3.pure _ _ 3 _ _ rfl (by kernel_rfl) (by kernel_rfl) rfl (.run rfl (Pu rfl rfl rfl (by simp [maxLen];omega))) ?_;refine F3.pure _ _ 4 _ _ rfl (by kernel_rfl) (by kernel_rfl) rfl (.run rfl (Ai (cs':=[.int .i64 _]) tok rfl rfl rfl rfl rfl rfl)) ?_;refine F3.pure _ _ 5 _ _ rfl (by kernel_rfl) (by kernel_rfl) rfl (.run rfl (Aq (c:=.int .i64 _) tok rfl rfl rfl)) ?_;refine F3.pure _ _ 6 _ _ rfl (by kernel_rfl) (by kernel_rfl) rfl (.run rfl (Lk (cs':=.str (lO f.kind)::wr) tok ⟨_,by simp [globals],fun _ h=>h⟩ rfl rfl rfl rfl (hkr.1) (hkr.2) hwr rfl)) ?_;refine F3.pure _ _ 7 _ _ rfl (by kernel_rfl) (by kernel_rfl) rfl (.run rfl (Aq (c:=.str _) tok rfl rfl rfl)) ?_;refine F3.pure _ _ 8 _ _ rfl (by kernel_rfl) (by kernel_rfl) rfl (.run rfl (Pu rfl rfl rfl (by simp [maxLen];omega))) ?_;refine F3.eff _ _ 9 _ _ rfl (by kernel_rfl) rfl rfl (L6 (by kernel_rfl) rfl rfl (bS b5 93 q.2.2.2 hQ.2.2 q.2.2.1 q.2.1 _ [] (by kernel_rfl) (by rw [hQ.2.1];simp only [Ao,A1,Bi];omega) H)) (fun _ _ _=>trivial) ?_;rintro _ _ ⟨v40,rfl,rfl⟩;refine F3.done _ _ (by kernel_rfl) ?_;refine Ff (Aa (AW.region ?_));refine AOL.p (Js rfl rfl rfl (by constructor <;> omega)) rfl ?_;refine AOL.p (Ab (v:=.int .i64 _) rfl) rfl (AOL.nil (Aa ?_));refine ⟨(q.1+1,q.2.1++([32]++f.name ++ [58]++lO f.kind),v40,some ⟨b5,0,none⟩),?_,?_,GS.weaken ⟨rfl,rfl,rfl,rfl,rfl,rfl,rfl,trivial⟩ (.refl _)⟩
   . exact ⟨hltf,by simp only;rw [mV haf,hQ.2.1];simp,.inr rfl⟩
   simp only;omega
  have htf:=Dt hc3;refine AW.exit ?_;refine Br (Br (Gp (Aa (AW.region ?_))));refine AOL.e (L6 (by kernel_rfl) rfl rfl (bS b5 93 q.2.2.2 hQ.2.2 q.2.2.1 q.2.1 _ [] (by kernel_rfl) (by rw [hQ.2.1,htf];simp only [Ao,A1,Bi];omega) H)) rfl ?_;rintro _ _ ⟨v42,rfl,rfl⟩;refine AOL.nil (Ff (Aa (AW.region ?_)));refine AOL.p (Js rfl rfl rfl (by constructor <;> omega)) rfl ?_;refine AOL.p (Ab (v:=.int .i64 _) rfl) rfl (AOL.nil (Aa ?_));refine ⟨(p.1+1,q.2.1 ++ [10],v42,some ⟨b5,0,none⟩),?_,?_,GS.weaken ⟨rfl,rfl,rfl,rfl,trivial⟩ (.refl _)⟩
  . exact ⟨hlt,by simp only;rw [mX ha,hQ.2.1,htf],.inr rfl⟩
  simp only;omega
 have hte:=Dt hc2;refine AW.exit ?_;refine Br (Br (Gp (Aa ?_)));refine AW.seq (AW.region ?_);refine AOL.e (L6 (by kernel_rfl) rfl rfl (nF b5 93 _ _ _ _ H)) rfl ?_;rintro _ _ ⟨rfl,rfl⟩;refine AOL.p (Ad (v:=.str _) rfl) rfl (AOL.p (Ad (v:=.int .i64 _) rfl) rfl (AOL.nil (Aa (AW.ret ?_))));refine ⟨.inr rfl,[.str _,.int .i64 _],.cons (.tmp _ _ rfl) <| .cons (.tmp _ _ rfl) <| .nil,.cons _ (.cons _ (.refl _)),?_⟩;have h9:=hR.2.1;rw [hte] at h9;exact congrArg (fun q:Ag=>AV.tuple [.str q,.int .i64 0]) h9
end Go.Proofs.YtibcelnfkhdjaaaGreatDoor
namespace Go.Aw
open Go
structure Marks (N0:Nat) (g:Gh) (w:World) (D:List Nat):Prop where
 nodup:D.Nodup
 size:N0<=w.heap.size
 ok:∀d∈D,N0<=d/\g d=none/\w.heap[d]? = some (.deferred (some []))
theorem Marks.mono {N0:Nat}{g g':Gh}{w w':World}{D:List Nat}(h:Marks N0 g w D)(hx:Ext g w g' w'):Marks N0 g' w' D:=
 ⟨h.nodup,E7 h.size hx.size,fun d hd=>by
  obtain ⟨h1,h2,h3⟩:=h.ok d hd;obtain ⟨k1,k2⟩:=hx.full d (Array.getElem?_eq_some_iff.1 h3).1 h2;exact ⟨h1,k1,k2.trans h3⟩⟩
def GmM (N0:Nat)(g:Gh)(s:St)(a:Act)(w:World):Prop:=∃D a0,a=Act.Aa2 a0 (D.map Ie)/\Gm g s a0 w/\Marks N0 g w D
def aC (N0:Nat)(P:Program)(c:Code)(Q:Exit->St->Prop)(s:St):Prop:=
 ∀(Q':Exit->Act->World->Prop) (g:Gh) (a:Act) (w:World),GmM N0 g s a w->(∀e g' s' a' w',GmM N0 g' s' a' w'->Ext g w g' w'->Q e s'->Q' e a' w')->c.wp P Q' a w
section
variable {N0:Nat} {P:Program} {Q:Exit->St->Prop} {s:St}
theorem aC.skip (h:Q .normal s):aC N0 P .skip Q s:=fun _ g a w hG hQ=>wp_skip (hQ _ g s a w hG (Ext.refl g w) h)
theorem aC.exit {id:Nat}(h:Q (.exit id) s):aC N0 P (.exit id) Q s:=fun _ g a w hG hQ=>wp_exit (hQ _ g s a w hG (Ext.refl g w) h)
theorem aC.ret (h:Q .ret s):aC N0 P .ret Q s:=fun _ g a w hG hQ=>wp_ret (hQ _ g s a w hG (Ext.refl g w) h)
theorem aC.seq {x y:Code}(h:aC N0 P x (Ej (aC N0 P y Q) Q) s):aC N0 P (.seq x y) Q s:=by
 intro Q' g a w hG hQ;refine wp_seq (h _ g a w hG fun e g' s' a' w' hG' hx hq=>?_);cases e with
 | normal=>exact hq Q' g' a' w' hG' fun e g'' s'' a'' w'' h1 h2 h3=>hQ e g'' s'' a'' w'' h1 (hx.trans h2) h3
 | _=>exact hQ _ g' s' a' w' hG' hx hq
theorem aC.cond {c:Operand}{x y:Code}{b:Bool}(hb:El s.sl c = .bool b)(ht:b=true->aC N0 P x Q s)(hf:b=false->aC N0 P y Q s):aC N0 P (.cond c x y) Q s:=by
 intro Q' g a w hG hQ;obtain ⟨D,a0,rfl,hG0,hD⟩:=hG;have hr:=hG0.eval c;rw [hb] at hr;exact wp_cond_split (by rw [Uw];exact hr.inv_bool) (fun h=>ht h Q' g _ w ⟨D,a0,rfl,hG0,hD⟩ hQ) (fun h=>hf h Q' g _ w ⟨D,a0,rfl,hG0,hD⟩ hQ)
theorem aC.block {id:Nat}{c:Code}(h:aC N0 P c (Ji id Q) s):aC N0 P (.block id c) Q s:=by
  intro Q' g a w hG hQ;refine wp_block (h _ g a w hG fun e g' s' a' w' hG' hx hq=>?_);cases e with
  | exit j=>
    simp only [Ji] at hq;simp only [Exit.inBlock];by_cases e:j=id
    . subst e;simp at hq;simp;exact hQ _ g' s' a' w' hG' hx hq
    . simp only [e,if_false]
      have:Nat.beq j id=false:=by
        cases hq':Nat.beq j id with
        | false=>rfl
        | true=>exact absurd (D6 hq') e
      simp only [this,cond_false] at hq;exact hQ _ g' s' a' w' hG' hx hq
  | _=>exact hQ _ g' s' a' w' hG' hx hq
theorem aC.region {id:Nat}{ops:Array Oper}(h:AOL P ops (Q .normal) ops.toList s):aC N0 P (.region id ops false) Q s:=by
 intro Q' g a w hG hQ;obtain ⟨D,a0,rfl,hG0,hD⟩:=hG;have key:=K7 (P:=P) (ops:=ops) ops.toList 0 a0 w (by simp) (h.run (fun e a' w'=>match e with | .normal=>Q' .normal (Act.Aa2 a' (D.map Ie)) w' | _=>False) g a0 w hG0 fun g' s' a' w' h1 h2 h3=>hQ .normal g' s' _ w' ⟨D,a',rfl,h1,hD.mono h2⟩ h2 h3);rw [<-List.range_eq_range'] at key;have key2:=Wx (ds:=D.map Ie) _ _ _ key;refine wp_mono (wp_region (by simpa using key2)) ?_;rintro e a' w' ⟨a1,rfl,hq⟩;cases e with
 | normal=>exact hq
 | _=>exact hq.elim
theorem aC.loop {c:Code}(I:Nat->St->Prop)(n:Nat)(h0:I n s)(round:∀n s,I n s->aC N0 P c (Ej (fun s'=>∃m,m<n/\I m s') Q) s):aC N0 P (.loop c) Q s:=by
  intro Q' g a w hG hQ b k cs
  have key:∀n g' s' a' w',I n s'->GmM N0 g' s' a' w'->Ext g w g' w'->
      ∃e a'' w'',Q' e a'' w''/\Arrives P (lone (b.at a' (.code c :: .inLoop c::k)) cs w') b k cs e a'' w'':=by
    intro n
    induction n using Nat.strongRecOn with
    | _ n ih=>
      intro g' s' a' w' hI hG' hx
      obtain ⟨e,a₁,w₁,hq,harr⟩:=round n s' hI (fun e a₁ w₁=>∃g₁ s₁,GmM N0 g₁ s₁ a₁ w₁/\Ext g w g₁ w₁/\Ej (fun s'=>∃m,m<n/\I m s') Q e s₁) g' a' w' hG'
        (fun e g₁ s₁ a₁ w₁ h1 h2 h3=>⟨g₁,s₁,h1,hx.trans h2,h3⟩) b (.inLoop c::k) cs
      obtain ⟨g₁,s₁,hG₁,hx₁,hT⟩:=hq;cases e with
      | normal=>
        obtain ⟨m,hm,hI₁⟩:=hT;obtain ⟨e₂,a₂,w₂,hq₂,harr₂⟩:=ih m hm g₁ s₁ a₁ w₁ hI₁ hG₁ hx₁;exact ⟨e₂,a₂,w₂,hq₂,.of_steps (Steps.trans harr (.one step_inLoop)) harr₂⟩
      | exit id=>exact ⟨_,a₁,w₁,hQ _ g₁ s₁ a₁ w₁ hG₁ hx₁ hT,.pass (x:=.inLoop c) rfl (fun _ _=>.inl (by simp)) harr⟩
      | goto l=>exact ⟨_,a₁,w₁,hQ _ g₁ s₁ a₁ w₁ hG₁ hx₁ hT,.pass (x:=.inLoop c) rfl (fun _ _=>.inl (by simp)) harr⟩
      | ret=>exact ⟨_,a₁,w₁,hQ _ g₁ s₁ a₁ w₁ hG₁ hx₁ hT,.pass (x:=.inLoop c) rfl (fun _ _=>.inl (by simp)) harr⟩
      | panic ch=>exact ⟨_,a₁,w₁,hQ _ g₁ s₁ a₁ w₁ hG₁ hx₁ hT,.pass (x:=.inLoop c) rfl (fun _ _=>.inl (by simp)) harr⟩
      | outgrown=>exact ⟨_,a₁,w₁,hQ _ g₁ s₁ a₁ w₁ hG₁ hx₁ hT,.pass (x:=.inLoop c) rfl (fun _ _=>.inl (by simp)) harr⟩
  obtain ⟨e,a',w',hq,harr⟩:=key n g s a w h0 hG (Ext.refl g w);exact ⟨e,a',w',hq,.of_steps (.one step_loop) harr⟩
theorem aC.mono {c:Code}{Q':Exit->St->Prop}(h:aC N0 P c Q' s)(hq:∀e s,Q' e s->Q e s):aC N0 P c Q s:=
 fun Q₁ g a w hG hQ=>h Q₁ g a w hG fun e g' s' a' w' h1 h2 h3=>hQ e g' s' a' w' h1 h2 (hq e s' h3)
theorem aC.ghost {c:Code}{s':St}(h:GS s s')(k:aC N0 P c Q s'):aC N0 P c Q s:=by
 intro Q' g a w hG hQ;obtain ⟨D,a0,rfl,hG0,hD⟩:=hG;obtain ⟨g',hG',hx⟩:=h g a0 w hG0;exact k Q' g' _ w ⟨D,a0,rfl,hG',hD.mono hx⟩ fun e g'' s'' a'' w'' h1 h2 h3=>hQ e g'' s'' a'' w'' h1 (hx.trans h2) h3
theorem aC.loopS {c:Code}{ι:Type}(S:ι->St)(R:ι->Prop)(μ:ι->Nat)(i:ι)(h0:R i)(g0:GS s (S i))(round:∀i,R i->aC N0 P c (Ej (fun s'=>∃j,R j/\μ j<μ i/\GS s' (S j)) Q) (S i)):aC N0 P (.loop c) Q s:=by
 refine aC.loop (fun n s=>∃i,R i/\μ i=n/\GS s (S i)) (μ i) ⟨i,h0,rfl,g0⟩ ?_;rintro n s ⟨i,hR,rfl,hg⟩;refine aC.ghost hg ((round i hR).mono fun e s' hq=>?_);cases e with
 | normal=>obtain ⟨j,h1,h2,h3⟩:=hq;exact ⟨μ j,h2,j,h1,rfl,h3⟩
 | _=>exact hq
theorem aC.cut {x y:Code}{ι:Type}(S:ι->St)(R:ι->Prop)(h:aC N0 P x (Ej (fun s'=>∃i,R i/\GS s' (S i)) Q) s)(k:∀i,R i->aC N0 P y Q (S i)):aC N0 P (.seq x y) Q s:=
 aC.seq (h.mono fun e s' hq=>by
  cases e with
  | normal=>obtain ⟨i,hr,hg⟩:=hq;exact aC.ghost hg (k i hr)
  | _=>exact hq)
end
section
variable {g:Gh} {w:World} {d:Nat} {q:Option (List Deferred)}
theorem aI (hd:w.heap[d]? = some (.deferred q)){b o:Nat}{v:Value}(o':Obj)(h:w.cell? ⟨b,o,none⟩=some v):(w.putObj d o').cell? ⟨b,o,none⟩=some v:=by
 have hne:b≠d:=by
  rintro rfl;unfold World.cell? at h;simp [hd] at h
 unfold World.cell? at h ⊢;rw [World.putObj_heap_other hne];exact h
theorem Rep.unmark (hd:w.heap[d]? = some (.deferred q))(o':Obj){v:Value}{x:AV}(r:Rep g w v x):Rep g (w.putObj d o') v x:=by
  induction r with
  | junk v=>exact .junk v
  | bool b=>exact .bool b
  | int k n=>exact .int k n
  | str b s e hm=>exact .str b s e hm
  | agg vs cs e _ ih=>exact .agg vs cs e ih
  | tuple vs cs e _ ih=>exact .tuple vs cs e ih
  | sl0 a cap z hm=>exact .sl0 a cap z hm
  | sl b o n cap z es hn hc hm hz f hs _ ih=>exact .sl b o n cap z es hn hc hm hz f (fun i e hi j x hj=>⟨(hs i e hi j x hj).1,aI hd o' (hs i e hi j x hj).2⟩) ih
  | row v z es _ ih=>exact .row v z es ih
  | ptr b o cs f hs _ ih=>exact .ptr b o cs f (fun j x hj=>⟨(hs j x hj).1,aI hd o' (hs j x hj).2⟩) ih
  | val v=>exact .val v
  | fn f vs us cs ds e _ e' _ ih ih'=>exact .fn f vs us cs ds e ih e' ih'
  | mapv b ms clock es hg hb hh hl hk _ ih=>
    have hne:b≠d:=by rintro rfl;rw [hd] at hh;cases hh
    exact .mapv b ms clock es hg (by simpa using hb) (by rw [World.putObj_heap_other hne];exact hh) hl hk ih
  | smapv b ms clock es hg hb hh hl hk _ ih=>
    have hne:b≠d:=by rintro rfl;rw [hd] at hh;cases hh
    exact .smapv b ms clock es hg (by simpa using hb) (by rw [World.putObj_heap_other hne];exact hh) hl hk ih
  | opt v G x _ h' ih=>exact .opt v G x ih h'
theorem Di.unmark (hd:w.heap[d]? = some (.deferred q))(o':Obj){vs:Array Value}{cs:List AV}(r:Di g w vs cs):Di g (w.putObj d o') vs cs:=⟨r.1,fun i x hi=>(r.2 i x hi).unmark hd o'⟩
theorem Hh (hd:w.heap[d]? = some (.deferred q))(hg:g d=none)(o':Obj){b n:Nat}(hb:g b=some n):(w.putObj d o').heap[b]? = w.heap[b]? :=
 World.putObj_heap_other (by rintro rfl;rw [hg] at hb;cases hb)
theorem HO.ok_unmark (hd:w.heap[d]? = some (.deferred q))(hg:g d=none)(o':Obj){o:HO}(h:o.ok g w):o.ok g (w.putObj d o'):=by
  cases o with
  | box b T cs=>
    obtain ⟨h1,vs,h2,h3⟩:=h;exact ⟨h1,vs,(Hh hd hg o' h1).trans h2,h3.unmark hd o'⟩
  | row v n E z=>
    rcases h with h | ⟨b,cap,cur,rfl,h1,h2,h3⟩
    . exact .inl h
    exact .inr ⟨b,cap,cur,rfl,h1,(Hh hd hg o' h1).trans h2,h3⟩
  | mapo b es=>
    obtain ⟨h1,ms,c,h2,h3,h4,h5⟩:=h;exact ⟨h1,ms,c,(Hh hd hg o' h1).trans h2,h3,h4,fun i k x hi=>(h5 i k x hi).unmark hd o'⟩
  | smap b es=>
    obtain ⟨h1,ms,c,h2,h3,h4,h5⟩:=h;exact ⟨h1,ms,c,(Hh hd hg o' h1).trans h2,h3,h4,fun i k x hi=>(h5 i k x hi).unmark hd o'⟩
  | kmap b es=>
    obtain ⟨h1,ms,c,h2,h3,h6,h4,h5⟩:=h
    exact ⟨h1,ms,c,(Hh hd hg o' h1).trans h2,h3,h6,fun i k x hi=>by
      obtain ⟨us,k1,k2⟩:=h4 i k x hi;exact ⟨us,k1,k2.unmark hd o'⟩,fun i k x hi=>(h5 i k x hi).unmark hd o'⟩
  | app b m cap es E z=>
    obtain ⟨h1,cur,h2,h3,h4,h5,h6,h7⟩:=h;exact ⟨h1,cur,(Hh hd hg o' h1).trans h2,h3,h4,h5,h6,h7.unmark hd o'⟩
  | buf v es E z=>
    rcases h with h | ⟨b,cap,cur,rfl,h1,h2,h3,h4,h5,h6,h7⟩
    . exact .inl h
    exact .inr ⟨b,cap,cur,rfl,h1,(Hh hd hg o' h1).trans h2,h3,h4,h5,h6,fun i x hi=>(h7 i x hi).unmark hd o'⟩
  | obj b x=>exact ⟨h.1,(Hh hd hg o' h.1).trans h.2⟩
  | since g0 w0=>exact fun v x r=>(h v x r).unmark hd o'
theorem HOK.unmark (hd:w.heap[d]? = some (.deferred q))(hg:g d=none){q':Option (List Deferred)}{H:List HO}(h:HOK g w H):HOK g (w.putObj d (.deferred q')) H:=
 ⟨h.nodup,fun o ho=>HO.ok_unmark hd hg _ (h.ok o ho),fun p hp=>by
  obtain ⟨cs,h1,h2⟩:=h.glob.vars p hp;exact ⟨cs,h1,h2.unmark hd _⟩,fun p hp=>by
  obtain ⟨h1,T,fr,h2⟩:=h.glob.tabs p hp;refine ⟨h1,T,fr,?_⟩;rw [World.putObj_heap_other (by rintro rfl;rw [hd] at h2;cases h2)];exact h2⟩
end
theorem Gm.unmark {g:Gh}{s:St}{a:Act}{w:World}{d:Nat}{q q':Option (List Deferred)}(hd:w.heap[d]? = some (.deferred q))(hg:g d=none)(h:Gm g s a w):Gm g s a (w.putObj d (.deferred q')):=
 ⟨h.size,h.defers,fun i=>(h.sl i).unmark hd _,h.heap.unmark hd hg⟩
theorem Xw {P:Program}{fn:Func}{T:List (Nat×TD)}(hT:H6 P T){Rf:AV->List HO->Prop}{N0:Nat}{g0 g:Gh}{w0:World}{s:St}{a:Act}{H':List HO}{xs:List AV}(hN:w0.heap.size<=N0)
    (hr:ResL P T s fn.results.toList xs) (hs:H'.Sublist s.H) (hq:Rf (Ah xs) H'):∀(D:List Nat) (w:World),Marks N0 g w D->Gm g s a w->Ext g0 w0 g w->
      LeavesInM Fence.wide 1 P fn a.tmps (fun e w'=>∃v g' r H',e = .returned v/\Rep g' w' v r/\HOK g' w' H'/\Ext g0 w0 g' w'/\Rf r H') (D.map Ie) .returning w
  | [],w,_,hG,hx=>by
    obtain ⟨v,h1,h2⟩:=Ow hT hr hG;exact ⟨v,h1,v,g,_,H',rfl,h2,hG.heap.sub hs,hx,hq⟩
  | d::D,w,hm,hG,hx=>by
    obtain ⟨h1,h2,h3⟩:=hm.ok d (I7 ..);have hnd:=Jr.1 hm.nodup;refine ⟨by simp,.inl ⟨d,_,rfl,run_takeDeferred h3,Xw hT hN hr hs hq D _ ⟨hnd.2,by simpa using hm.size,fun d' hd'=>?_⟩ (hG.unmark h3 h2) ?_⟩⟩
    . obtain ⟨k1,k2,k3⟩:=hm.ok d' (Ha _ hd')
      refine ⟨k1,k2,?_⟩;rw [World.putObj_heap_other (by rintro rfl;exact hnd.1 hd')];exact k3
    . have hne:∀b,b<w0.heap.size->b≠d:=fun b hb e=>by omega
      refine ⟨hx.os,hx.tape,hx.output,by simpa using hx.size,fun b hb hg=>?_,fun b n hb hg=>?_⟩
      . obtain ⟨k1,k2⟩:=hx.full b hb hg
        exact ⟨k1,(World.putObj_heap_other (hne b hb)).trans k2⟩
      . obtain ⟨k1,k2⟩:=hx.part b n hb hg
        refine ⟨k1,fun o ho=>?_⟩;rw [<-k2 o ho];unfold World.cell?;rw [World.putObj_heap_other (hne b hb)]
theorem Bt.bodyM {P:Program}{fn:Func}{R:AV->List HO->Prop}{T:List (Nat×TD)}(hT:H6 P T){f:FuncId}{c:Code}{args:List AV}{H:List HO}(hf:P.funcs[f]? = some fn)(hb:fn.body=some c){n:Nat}(hn:fn.ntmps=n)(hle:Nat.ble args.length n=true)
    (h:∀N0,aC N0 P c (fun e s=>(e = .normal\/e = .ret)/\∃xs,ResL P T s fn.results.toList xs/\∃H',H'.Sublist s.H/\R (Ah xs) H') ⟨Gg 0 args,H,n⟩):Bt P f H args R:=by
  intro g w vs hH hr;have hle':=B9 hle;refine (callsIn_wide (n:=1)).1 (callsIn_of_wp_marks hf hb trivial ?_);refine wpIn_wide.2 ?_;refine h w.heap.size _ g _ w ⟨[],{ tmps:=vs++Array.replicate (fn.ntmps-vs.size) undef,defers:=[] },rfl,⟨?_,rfl,?_,hH⟩,Of,Bc _,fun d hd=>by cases hd⟩ ?_
  . simp only [L3,Array.size_replicate,hn,hr.1];omega
  . intro i
    show Rep g w _ (get (Gg 0 args) i);rw [Sa];simp only [A7,if_true,Nat.sub_zero];cases hi:args[i]? with
    | none=>exact .junk _
    | some x=>
      have hlt:i<vs.size:=by rw [hr.1];exact (List.getElem?_eq_some_iff.1 hi).1
      have:=hr.2 i x hi;simp only [Ct,Array.getElem?_append,hlt,if_true] at this ⊢;exact this
  . rintro e g' s' a' w' ⟨D,a0,rfl,hG',hD⟩ hx ⟨he,xs,hr',H',hs,hq⟩
    have key:LeavesInM Fence.wide 1 P fn (Act.Aa2 a0 (D.map Ie)).tmps (fun e w'=>∃v g' r H',e = .returned v/\Rep g' w' v r/\HOK g' w' H'/\Ext g w g' w'/\R r H') (Act.Aa2 a0 (D.map Ie)).defers .returning w':=by
      have e1:(Act.Aa2 a0 (D.map Ie)).defers=D.map Ie:=by unfold Act.Aa2;rw [hG'.defers];rfl
      rw [e1];exact Xw (a:=a0) hT (Bc _) hr' hs hq D w' hD hG' hx
    rcases he with rfl | rfl <;> exact key
theorem fT.exit {l:Nat}{P:Program}{Q:Exit->St->Prop}{s:St}{id:Nat}(h:Q (.exit id) s):fT l P (.exit id) Q s:=fun n Q' g a w hG hQ=>wpIn_exit (hQ _ g s a w hG (Ext.refl g w) h)
theorem Nm.ofS {P:Program}{l:Nat}{rec:Loop}{H:List HO}{args:List AV}{R:AV->List HO->Prop}{sl:List (Nat×AV)}{n0:Nat}(hst:rec.state = .ready)(hpe:rec.pending=none)
    (hsz:rec.tmps.size=n0) (hsl:∀g w vs,HOK g w H->Di g w vs args->∀j,Rep g w (((rec.params.zip vs).foldl (fun t (p,v)=>t.setIfInBounds p v) rec.tmps).getD j undef) (get sl j))
    (h:fT l P rec.assign (fun e s1=>e = .normal/\∃i:Nat,s1.H[i]? = some (HO.obj l (Obj.loop rec))/\fT l P rec.body (fun e s2=>∃j:Nat,s2.H[j]? = some (HO.obj l (Obj.loop { rec with state:=.busy }))/\
      ((e = .normal/\R (.bool true) (s2.H.set j (.obj l (.loop rec))))\/(e = .ret/\R (.bool false) (s2.H.set j (.obj l (.loop { rec with state:=.done,pending:=some .ret }))))\/
        (∃id,e = .exit id/\R (.bool false) (s2.H.set j (.obj l (.loop { rec with state:=.done,pending:=some (.exit id) })))))) ⟨s1.sl,s1.H.set i (.obj l (.loop { rec with state:=.busy })),s1.n⟩) ⟨sl,H,n0⟩):Nm P l rec H args R:=by
  intro n g w vs hH hr;refine roundIn_of_wpIn trivial ?_
  have hfs:∀(L:List (Tmp×Value)) (t:Array Value),(L.foldl (fun t (p,v)=>t.setIfInBounds p v) t).size=t.size:=by
    intro L;induction L with
    | nil=>intro t;rfl
    | cons p r ih=>intro t;rw [List.foldl_cons,ih];simp
  have hG:Gm g ⟨sl,H,n0⟩ { tmps:=(rec.params.zip vs).foldl (fun t (p,v)=>t.setIfInBounds p v) rec.tmps,defers:=[] } w:=
    ⟨by rw [<-Z7];exact (hfs _ _).trans hsz,rfl,fun j=>hsl g w vs hH hr j,hH⟩
  refine h n _ g _ w hG ?_;rintro e g1 s1 a1 w1 hG1 hx1 ⟨rfl,i,hi,hb⟩;have hob:(HO.obj l (.loop rec)).ok g1 w1:=hG1.heap.ok _ (Aj hi);refine ⟨_,run_beginRound hob.2 hst,?_⟩;obtain ⟨hG2,hx2⟩:=hG1.putObj (.loop { rec with state:=.busy }) hi;refine hb n _ g1 a1 _ hG2 ?_;rintro e g3 s3 a3 w3 hG3 hx3 ⟨j,hj,hR⟩;have hob3:(HO.obj l (.loop { rec with state:=.busy })).ok g3 w3:=hG3.heap.ok _ (Aj hj);rcases hR with ⟨rfl,hR⟩ | ⟨rfl,hR⟩ | ⟨id,rfl,hR⟩
  . obtain ⟨hG4,hx4⟩:=hG3.putObj (.loop rec) hj
    refine ⟨_,_,run_endRound none hob3.2,_,g3,.bool true,_,rfl,.bool _,?_,?_,hR⟩
    . have:({ ({ rec with state:=.busy }:Loop) with state:=if (none:Option Code).isNone then .ready else .done,pending:=none }:Loop)=rec:=by
        cases rec;simp only at hst hpe;subst hst;subst hpe;rfl
      rw [this];exact hG4.heap
    . have:({ ({ rec with state:=.busy }:Loop) with state:=if (none:Option Code).isNone then .ready else .done,pending:=none }:Loop)=rec:=by
        cases rec;simp only at hst hpe;subst hst;subst hpe;rfl
      rw [this];exact ((hx1.trans hx2).trans hx3).trans hx4
  . obtain ⟨hG4,hx4⟩:=hG3.putObj (.loop { rec with state:=.done,pending:=some .ret }) hj
    exact ⟨_,_,run_endRound (some .ret) hob3.2,_,g3,.bool false,_,rfl,.bool _,hG4.heap,((hx1.trans hx2).trans hx3).trans hx4,hR⟩
  . obtain ⟨hG4,hx4⟩:=hG3.putObj (.loop { rec with state:=.done,pending:=some (.exit id) }) hj
    exact ⟨_,_,run_endRound (some (.exit id)) hob3.2,_,g3,.bool false,_,rfl,.bool _,hG4.heap,((hx1.trans hx2).trans hx3).trans hx4,hR⟩
theorem aC.range {N0:Nat}{P:Program}{Q:Exit->St->Prop}{s:St}{go:Operand}{ps:Array Tmp}{assign body:Code}{gf:Nat}{lb:List AV}(Z:List HO->Prop)(Y:Code->List HO->Prop)
  (hg:El s.sl go = .fn (.func gf) [] lb) (hf:Tn P gf=true)
  (hit:∀(rec:Loop) (l:Nat) (g1:Gh) (w1:World),rec.state = .ready->rec.pending=none->rec.params=ps->rec.assign=assign->rec.body=body->rec.tmps.size=s.n->(∀t,Rep g1 w1 (rec.tmps.getD t undef) (get s.sl t))->
   Bt P gf (.obj l (.loop rec) :: .since g1 w1::s.H) (.val (.func (.yield l) #[] #[])::lb)
    (fun r H'=>∃rec' H2,H' = .obj l (.loop rec') :: .since g1 w1::H2/\rec'.state≠.busy/\((rec'.pending=none/\Z H2)\/(∃c,rec'.pending=some c/\Y c H2))))
  (hz:∀H2,Z H2->Q .normal ⟨s.sl,H2,s.n⟩) (hy:∀c H2,Y c H2->aC N0 P c Q ⟨s.sl,H2,s.n⟩) (hN:True:=trivial):aC N0 P (.rangeFunc go ps assign body) Q s:=by
 intro Q' g0 a w hG hQ;obtain ⟨D,a0,rfl,hG,hD⟩:=hG;refine (wpIn_wide (n:=1)).1 (wpIn_rangeFunc ?_);intro f0 _;obtain ⟨vs0,us,hv,h1,h2⟩:=(hg▸hG.eval go:Rep g0 w _ _).inv_fn;have hvs0:vs0 = #[]:=Array.size_eq_zero_iff.1 (by simpa using h1.1);subst hvs0;obtain ⟨rec,hrec⟩:∃rec:Loop,rec=⟨.ready,none,f0,a0.tmps,ps,assign,body,w.heap.size⟩:=⟨_,rfl⟩;obtain ⟨W1,hW1⟩:∃W1,(w.alloc (.deferred (some []))).alloc (.loop rec)=W1:=⟨_,rfl⟩;have hs1:(w.alloc (.deferred (some []))).heap.size=w.heap.size+1:=World.size_alloc ..;have hx1:=Ext.alloc g0 w (.deferred (some [])) none;have hH1:HOK (g0.put w.heap.size none) (w.alloc (.deferred (some []))) s.H:=hG.heap.alloc (.deferred (some [])) none;have hx2:=Ext.alloc (g0.put w.heap.size none) (w.alloc (.deferred (some []))) (.loop rec) (some 0);have hx12:=hx1.trans hx2
 have hH2:=(((hH1.alloc (.loop rec) (some 0)).cons (o:=.since _ _) (fun v x r=>r) (fun b hb=>by cases hb))).cons (o:=.obj (w.alloc (.deferred (some []))).heap.size (.loop rec)) ⟨Gh.Aaw ..,Ce ..⟩ fun b hb x hx e=>by
   cases hb
   rcases Cn.1 hx with rfl | hx
   . cases e
   exact absurd (HO.ok_lt (hH1.ok x hx) e).1 (Nat.lt_irrefl _)
 rw [hs1] at hH2 hx2 hx12;rw [hW1] at hH2 hx2 hx12
 have hmk:(W1.heap[w.heap.size]? = some (.deferred (some [])))/\((g0.put w.heap.size none).put (w.heap.size+1) (some 0)) w.heap.size=none:=by
  refine ⟨?_,by rw [Gh.Aa0 _ _ (by omega),Gh.Aaw]⟩;rw [<-hW1,Gf _ _ (by rw [hs1];omega),Ce]
 refine ⟨w.heap.size+1,[Ie w.heap.size],W1,{ target:=.fn (.func gf) us,args:=#[.func (.yield (w.heap.size+1)) #[] #[]] },W1,gf,#[.func (.yield (w.heap.size+1)) #[] #[]]++us,W1,?_,?_,fun _ _=>trivial,?_,fun e=>(by cases e),?_⟩
 . rw [<-hW1,hrec];exact run_enterLoop_outer _ _ _ _ _
 .
  simp only [resolve,Uw,hv];simp [go_sem]
 . simp [invoke,go_sem,Rp hf]
 have hit':=hit rec (w.heap.size+1) _ W1 (by rw [hrec]) (by rw [hrec]) (by rw [hrec]) (by rw [hrec]) (by rw [hrec]) (by rw [hrec];exact hG.size) (by rw [hrec];exact fun t=>(hG.sl t).mono hx12) _ W1 _ hH2 (by
  have h2':=h2.mono hx12;show Di _ W1 (#[.func (.yield (w.heap.size+1)) #[] #[]]++us) _
  exact Di.append (xs:=[.val (.func (.yield (w.heap.size+1)) #[] #[])]) ⟨rfl,fun i x hi=>by
   cases i with
   | zero=>simp at hi;subst hi;exact .val _
   | succ i=>simp at hi⟩ h2')
 refine callsIn_wide.2 (hit'.mono ?_);rintro e w3 ⟨v,g3,r,H',rfl,hr3,hH3,hx3,rec',H2,rfl,hnb,hz'⟩;have hob:(HO.obj (w.heap.size+1) (.loop rec')).ok g3 w3:=hH3.ok _ (I7 ..);obtain ⟨hH4,hx4⟩:=Ty hH3 (i:=0) (.loop { rec' with state:=.exhausted }) rfl;refine ⟨rec'.pending,_,run_endLoop hob.2 hnb,?_⟩;obtain ⟨st',pe',f',t',p',as',bo',de'⟩:=rec';have hxa:=(hx12.trans hx3).trans hx4
 have hD':Marks N0 g3 (w3.putObj (w.heap.size+1) (.loop ⟨.exhausted,pe',f',t',p',as',bo',de'⟩)) (w.heap.size::D):=by
  have hlt:∀d∈D,d<w.heap.size:=fun d hd=>(Array.getElem?_eq_some_iff.1 (hD.ok d hd).2.2).1
  refine ⟨Jr.2 ⟨fun hm=>absurd (hlt _ hm) (Nat.lt_irrefl _),hD.nodup⟩,E7 hD.size hxa.size,fun d hd=>?_⟩;rcases Cn.1 hd with rfl | hd
  .
   have hlt':w.heap.size<W1.heap.size:=(Array.getElem?_eq_some_iff.1 hmk.1).1;obtain ⟨k1,k2⟩:=(hx3.trans hx4).full _ hlt' hmk.2;exact ⟨hD.size,k1,k2.trans hmk.1⟩
  exact (hD.mono hxa).ok d hd
 have hG4:GmM N0 g3 ⟨s.sl,H2,s.n⟩ { Act.Aa2 a0 (D.map Ie) with defers:=[Ie w.heap.size]++(Act.Aa2 a0 (D.map Ie)).defers } (w3.putObj (w.heap.size+1) (.loop ⟨.exhausted,pe',f',t',p',as',bo',de'⟩)):=by
  refine ⟨w.heap.size::D,a0,?_,⟨hG.size,hG.defers,fun i=>(hG.sl i).mono hxa,hH4.sub ((List.sublist_cons_self ..).cons _)⟩,hD'⟩;unfold Act.Aa2;rw [hG.defers];rfl
 rcases hz' with ⟨hp,hz'⟩ | ⟨c,hp,hz'⟩
 .
  obtain rfl:pe'=none:=hp;exact hQ _ g3 _ _ _ hG4 hxa (hz H2 hz')
 obtain rfl:pe'=some c:=hp;exact wpIn_wide.2 (hy c H2 hz' Q' g3 _ _ hG4 fun e g5 s5 a5 w5 k1 k2 k3=>hQ e g5 s5 a5 w5 k1 (hxa.trans k2) k3)
theorem tmps2 {g1:Gh}{w1:World}{tmps:Array Value}{n0 k m:Nat}{x y:AV}{sl:List (Nat×AV)}{H:List HO}{ps:Array Tmp}(hps:ps = #[k,m])(hsz:tmps.size=n0)(hk:Nat.blt k n0=true)(hm:Nat.blt m n0=true)(hkm:Nat.beq k m=false)(hin:∃i:Nat,H[i]? = some (.since g1 w1))(hR:∀t,Rep g1 w1 (tmps.getD t undef) (get sl t)) :
  ∀g w vs,HOK g w H->Di g w vs [x,y]->∀j,Rep g w (((ps.zip vs).foldl (fun t (p,v)=>t.setIfInBounds p v) tmps).getD j undef) (get ((m,y)::(k,x)::sl) j):=by
 subst hps;intro g w vs hH hr j;obtain ⟨i,hi⟩:=hin;have hs:(HO.since g1 w1).ok g w:=hH.ok _ (Aj hi);have h0:=hr.2 0 _ rfl;have h1:=hr.2 1 _ rfl;have hsv:vs.size=2:=hr.1
 obtain ⟨u,v,rfl⟩:∃u v,vs = #[u,v]:=⟨vs[0],vs[1],by
  apply Array.ext
  . simp [hsv]
  intro i h1 h2
  match i,h1 with
  | 0,_=>rfl
  | 1,_=>rfl
  | i+2,h1=>omega⟩
 have hlt:k<tmps.size:=by have:=B9 hk;omega
 have hlt2:m<tmps.size:=by have:=B9 hm;omega
 have hne:k≠m:=fun e=>by rw [e] at hkm;simp at hkm
 rw [<-Z7,Array.toList_zip];show Rep g w (((tmps.setIfInBounds k u).setIfInBounds m v).getD j undef) _;rw [E3,E3];by_cases e:m=j
 .
  subst e;rw [if_pos rfl];simp only [Ct,Array.getElem?_setIfInBounds,Array.size_setIfInBounds];simp only [hlt2,if_true,Option.getD_some];simpa using h1
 rw [if_neg e];by_cases e2:k=j
 .
  subst e2;rw [if_pos rfl];simp only [Ct,Array.getElem?_setIfInBounds_ne e,Array.getElem?_setIfInBounds];simp only [hlt,if_true,Option.getD_some];simpa using h0
 rw [if_neg e2];simp only [Ct,Array.getElem?_setIfInBounds_ne e,Array.getElem?_setIfInBounds_ne e2];rw [<-Ct];exact hs _ _ (hR j)
theorem Gm.bufBox {g:Gh}{s:St}{a:Act}{w:World}(hG:Gm g s a w){k:Nat}{v:Value}{es:List (List AV)}{E z:Nat}(hk:s.H[k]? = some (.buf v es E z))(hne:es≠[]) :
  ∃b cap J,v = .slice (some ⟨b,0,none⟩) es.length cap/\es.length<=cap/\cap<=maxLen/\(∀e∈es,e.length=z)/\es.length*z+J.length=cap*z/\Gm g ⟨s.sl,s.H.set k (.box b E (es.flatten++J)),s.n⟩ a w:=by
 have hok:=hG.heap.ok _ (Aj hk);rcases hok with ⟨_,e2⟩ | ⟨b,cap,cur,e1,hg,hcur,hcsz,hcap,hcmax,hz1,hrep⟩
 . exact absurd e2 hne
 have hfl:es.flatten.length=es.length*z:=Ds hz1;have hle:es.length*z<=cur.size:=by rw [hcsz];exact Hw z hcap
 refine ⟨b,cap,List.replicate (cur.size-es.length*z) .junk,e1,hcap,hcmax,hz1,by rw [L2];omega,hG.size,hG.defers,hG.sl,?_⟩;refine hG.heap.set (Ext.refl g w) hk (fun c hc=>.inl (by rw [e1];exact hc)) ⟨hg,cur,hcur,by simp [hfl];omega,fun i x hi=>?_⟩ (fun _ _ _ _=>⟨rfl,rfl⟩);rw [List.getElem?_append] at hi;split at hi
 . exact hrep i x hi
 have:=List.eq_of_mem_replicate (Aj hi);rw [this];exact .junk _
theorem fT.bufBox {l:Nat}{P:Program}{c:Code}{Q:Exit->St->Prop}{s:St}(k:Nat){v:Value}{es:List (List AV)}{E z:Nat}(hk:s.H[k]? = some (.buf v es E z))(hne:es≠[])
  (h:∀b cap J,v = .slice (some ⟨b,0,none⟩) es.length cap->es.length<=cap->cap<=maxLen->(∀e∈es,e.length=z)->es.length*z+J.length=cap*z->fT l P c Q ⟨s.sl,s.H.set k (.box b E (es.flatten++J)),s.n⟩):fT l P c Q s:=fun n Q' g a w hG hQ=>by
 obtain ⟨b,cap,J,h1,h2,h3,h4,h5,h6⟩:=hG.bufBox hk hne;exact h b cap J h1 h2 h3 h4 h5 n Q' g a w h6 hQ
theorem GS.boxBuf {sl:List (Nat×AV)}{H H2:List HO}{n b E z m cap:Nat}{es:List (List AV)}{cs J:List AV}(k:Nat)(hk:H[k]? = some (.box b E cs))(hcs:cs=es.flatten++J)(hm:m=es.length)(hz:∀e∈es,e.length=z)(hJ:m*z+J.length=cap*z)(hc:m<=cap)(hmax:cap<=maxLen)
  (hH2:H.set k (.buf (.slice (some ⟨b,0,none⟩) m cap) es E z)=H2):GS ⟨sl,H,n⟩ ⟨sl,H2,n⟩:=fun g a w hG=>by
 subst hcs hm hH2;refine ⟨g,⟨hG.size,hG.defers,hG.sl,?_⟩,Ext.refl g w⟩;obtain ⟨hg,vs,hvs,hr⟩:=hG.heap.ok _ (Aj hk);have hfl:es.flatten.length=es.length*z:=Ds hz;refine hG.heap.set (Ext.refl g w) hk (fun c hc=>.inl hc) (.inr ⟨b,cap,vs,rfl,hg,hvs,by rw [hr.1,Ao,hfl,hJ],hc,hmax,hz,fun i x hi=>?_⟩) (fun _ _ _ _=>⟨rfl,rfl⟩);refine hr.2 i x ?_;rw [List.getElem?_append_left (List.getElem?_eq_some_iff.1 hi).1];exact hi
end Go.Aw
namespace Go.Proofs.YtibcelnfkhdjaaaGreatDoor
open Go Go.Aw
theorem u8_is (c:UInt8):((c.toNat:Int)==32)=(c==32):=by
  rw [Bool.eq_iff_iff,beq_iff_eq,beq_iff_eq]
  constructor
  . intro h
    exact UInt8.toNat_inj.1 (by have : c.toNat = 32 := by omega
                                rw [this];rfl)
  rintro rfl;rfl
theorem ixb_ge (c:UInt8):∀r:Ag,-1<=Lib.indexByte r c
  | []=>by rw [Lib.indexByte];decide
  | b::r=>by
    have:=ixb_ge c r;rw [Lib.indexByte];split
    . omega
    split <;> omega
theorem jQ {c:UInt8}{r:Ag}(h:(c==32)=false):1<=(Lib.cut (c::r) [32]).1.length/\(Lib.cut (c::r) [32]).1.length<=(c::r).length:=by
 have hc:c≠32:=by simpa using h
 unfold Lib.cut;split
 .
  rename_i h1;rw [Lib.index_one,Lib.indexByte,if_neg (by simpa using hc)] at h1 ⊢;split at h1
  . omega
  rename_i h2;rw [if_neg h2];have h3:=ixb_ge 32 r;have h4:Lib.indexByte r 32≠-1:=by simpa using h2
  refine ⟨?_,by simp only [Df];omega⟩;simp only [Df,A1];omega
 exact ⟨by simp,Bc _⟩
theorem Ww:∀(n m at':Nat) (l:Ag),l.length<=n->l.length<=m->Jn n at' l=Jn m at' l
  | 0,m,at',l,h,_=>by
    have:l = []:=List.length_eq_zero_iff.1 (by omega);subst this;cases m <;> rfl
  | n+1,0,at',l,_,h=>by
    have:l = []:=List.length_eq_zero_iff.1 (by omega);subst this;rfl
  | n+1,m+1,at',[],_,_=>rfl
  | n+1,m+1,at',c::r,h1,h2=>by
    rw [A1] at h1 h2;rw [Jn,Jn];cases hc:(c==32) with
    | true=>rw [if_pos rfl,if_pos rfl];exact Ww n m _ r (by omega) (by omega)
    | false=>
      rw [if_neg (by decide),if_neg (by decide)];have:=jQ (r:=r) hc;rw [Ww n m _ _ (by rw [C4,A1];omega) (by rw [C4,A1];omega)]
def Od (s:Ag)(k:Nat):List (Nat×Ag):=Jn (s.length-k) k (s.drop k)
theorem wds_end {s:Ag}{k:Nat}(h:s.length<=k):Od s k = []:=by
 unfold Od;rw [Nat.sub_eq_zero_of_le h];rfl
theorem wds_sp {s:Ag}{k:Nat}{c:UInt8}(h:s[k]? = some c)(hc:(c==32)=true):Od s k=Od s (k+1):=by
 have hl:k<s.length:=(List.getElem?_eq_some_iff.1 h).1;unfold Od;rw [L4 hl,show s[k]=c from (List.getElem?_eq_some_iff.1 h).2,show s.length-k=s.length-(k+1)+1 by omega,Jn,if_pos hc]
theorem wds_wd {s:Ag}{k:Nat}{c:UInt8}(h:s[k]? = some c)(hc:(c==32)=false):Od s k=(k,(Lib.cut (s.drop k) [32]).1)::Od s (k+(Lib.cut (s.drop k) [32]).1.length)/\1<=(Lib.cut (s.drop k) [32]).1.length/\k+(Lib.cut (s.drop k) [32]).1.length<=s.length:=by
 have hl:k<s.length:=(List.getElem?_eq_some_iff.1 h).1;have hd:s.drop k=c::s.drop (k+1):=by rw [L4 hl,(List.getElem?_eq_some_iff.1 h).2]
 have hp:=jQ (r:=s.drop (k+1)) hc;rw [<-hd] at hp;rw [C4] at hp;refine ⟨?_,hp.1,by omega⟩;unfold Od;rw [show s.length-k=s.length-(k+1)+1 by omega];rw [hd,Jn,if_neg (by rw [hc];decide),<-hd,List.drop_drop]
 congr 1
 exact Ww _ _ _ _ (by rw [C4];omega) (by rw [C4];omega)
theorem drop_hd {α:Type}{l r:List α}{k:Nat}{x:α}(h:l.drop k=x::r):l[k]? = some x/\l.drop (k+1)=r:=by
 have h1:=List.getElem?_drop (xs:=l) (i:=k) (j:=0);rw [h] at h1;refine ⟨by simpa using h1.symm,?_⟩;rw [<-List.drop_drop,h];rfl
theorem s_split (s:Ag):Ap Tryz.prog 32 [.str s] (.fn (.func 75) [] [.ptr [.str s]]):=by
 refine Ap.body (n:=4) tok Tryz.func32 rfl rfl rfl fun H=>?_
 refine AW.seq (AW.region (AOL.p (Sw (v:=.str _) (cs:=[.str _]) rfl rfl rfl) rfl (AOL.p (Ad (v:=.val _) rfl) rfl (AOL.nil (Aa (AW.seq (AW.region (AOL.p (B0 (l:=[]) (l':=[.ptr _]) rfl rfl) rfl (AOL.p (Ad (v:=.fn _ _ _) rfl) rfl (AOL.nil (Aa (AW.ret ?_))))))))))));refine ⟨.inr rfl,[.fn _ _ _],.cons (.tmp _ _ rfl) <| .nil,.refl _,?_⟩;rfl
theorem s_split1 (s:Ag)(hs:s.length<=1048576)(I:Nat->List HO->Prop)(l:Nat)(rec:Loop)(hrec:rec.params.size=2)(hobj:∀k H,I k H->∃i:Nat,H[i]? = some (HO.obj l (Obj.loop rec)))(hY:∀k H a w,I k H->(Od s 0)[k]? = some (a,w)->Nm Tryz.prog l rec H [.int .i64 (a:Int),.str w] (fun r H'=>r = .bool true/\I (k+1) H'))(H:List HO)(h0:I 0 H):Bt Tryz.prog 75 H [.val (.func (.yield l) #[] #[]),.ptr [.str s]] (fun r H'=>r = .tuple []/\I (Od s 0).length H'):=by
 refine Bt.body (n:=34) tok Tryz.func75 rfl rfl rfl ?_;refine AW.seq (AW.region (AOL.p (Ad (v:=.int .i64 _) rfl) rfl (AOL.nil (Aa (AW.block ?_)))));refine AW.loopS (fun (q:Nat×Nat×List HO)=>(⟨[(0,.val (.func (.yield l) #[] #[])),(1,.ptr [.str s]),(3,.int .i64 (q.1:Int))],q.2.2,34⟩:St)) (fun q=>q.1<=s.length/\Od s q.1=(Od s 0).drop q.2.1/\I q.2.1 q.2.2/\q.2.1<=(Od s 0).length) (fun q=>s.length-q.1) ((0,0,H)) ?_ (GS.weaken ⟨rfl,rfl,rfl,trivial⟩ (.refl _)) ?_
 . exact ⟨A7 _,rfl,h0,A7 _⟩
 rintro q hR;refine AW.seq (AW.seq (AW.region (AOL.p (Ab (v:=.int .i64 _) rfl) rfl (AOL.p (Aq (c:=.str _) tok rfl rfl rfl) rfl (AOL.p (Cz tok rfl rfl rfl rfl) rfl (AOL.p (Np rfl rfl) rfl (AOL.nil (Aa (AW.cond (b:=_) rfl (fun hc1=>?_) (fun hc1=>?_))))))))))
 .
  have hlt:q.1<s.length:=by have:=C6 hc1;omega
  refine (Ud.1 (by simpa using hlt:(s[q.1]?).isSome=true)).elim fun c hcc=>?_
  refine AW.skip (Aa (AW.block (AW.seq (AW.seq (AW.region (AOL.p (Aq (c:=.str _) tok rfl rfl rfl) rfl (AOL.p (Ab (v:=.int .i64 _) rfl) rfl ?_)))))));refine AOL.p (Cm tok rfl rfl rfl rfl (by omega) (hcc)) rfl ?_;refine AOL.p (aF rfl rfl) rfl (AOL.nil (Aa (AW.cond (b:=_) rfl (fun hc2=>?_) (fun hc2=>?_))))
  .
   have hsp:=wds_sp hcc ((u8_is c).symm.trans hc2);refine AW.seq (AW.region (AOL.p (Ab (v:=.int .i64 _) rfl) rfl ?_));refine AOL.p (Js rfl rfl rfl (by constructor <;> omega)) rfl ?_;refine AOL.p (Ad (v:=.int .i64 _) rfl) rfl (AOL.nil (Aa (AW.exit ?_)));refine Br (Gp (Aa ?_));refine ⟨(q.1+1,q.2),?_,?_,GS.weaken ⟨rfl,rfl,rfl,trivial⟩ (.refl _)⟩
   . exact ⟨hlt,hsp.symm.trans hR.2.1,hR.2.2⟩
   simp only;omega
  have hwd:=wds_wd hcc ((u8_is c).symm.trans hc2);have hw1:=drop_hd (hR.2.1.symm.trans hwd.1);have hwl:=hwd.2;refine AW.skip (Aa (AW.seq (AW.region (AOL.p (Aq (c:=.str _) tok rfl rfl rfl) rfl (AOL.p (Ab (v:=.int .i64 _) rfl) rfl ?_)))));refine AOL.p (Iv (l:=q.1) (h:=s.length) tok rfl rfl rfl (⟨_,rfl⟩) (rfl) (by omega) (by omega) (by rw [Mu])) rfl ?_;refine AOL.p (Eg (by kernel_rfl) rfl rfl (k_cut (s.drop q.1) [32] (by rw [C4];omega))) rfl ?_;refine AOL.p (Ab (v:=.tuple _) rfl) rfl (AOL.p (A6 (v:=.str _) rfl rfl) rfl (AOL.p (A6 (v:=.str _) rfl rfl) rfl (AOL.p (A6 (v:=.bool _) rfl rfl) rfl (AOL.p (Ad (v:=.str _) rfl) rfl (AOL.p (Ad (v:=.str _) rfl) rfl (AOL.p (Ad (v:=.bool _) rfl) rfl (AOL.nil (Aa (AW.seq (AW.seq ?_))))))))));refine AW.regionYk 3 rfl (by kernel_rfl) (by kernel_rfl) ?_;refine AOL.p (Ab (v:=.val _) rfl) rfl (AOL.p (Ab (v:=.int .i64 _) rfl) rfl (AOL.p (Ab (v:=.str _) rfl) rfl (AOL.nil ?_)));refine ⟨l,rec,_,hobj _ _ hR.2.2.1,rfl,hrec.symm,rfl,hY q.2.1 q.2.2 q.1 _ hR.2.2.1 hw1.1,?_⟩;rintro _ H2 ⟨rfl,hI⟩;refine AOL.p (cB rfl) rfl (AOL.nil (Aa (AW.cond (b:=_) rfl (fun hc3=>?_) (fun hc3=>AW.skip (Aa (AW.region (AOL.p (Ab (v:=.int .i64 _) rfl) rfl (AOL.p (Ab (v:=.str _) rfl) rfl (AOL.p (Cz tok rfl rfl rfl rfl) rfl ?_)))))))))
  . cases hc3
  refine AOL.p (Js rfl rfl rfl (by constructor <;> omega)) rfl ?_;refine AOL.p (Ad (v:=.int .i64 _) rfl) rfl (AOL.nil (Ff (Aa ?_)));refine ⟨(q.1+(Lib.cut (s.drop q.1) [32]).1.length,q.2.1+1,H2),?_,?_,GS.weaken ⟨rfl,rfl,rfl,trivial⟩ (.refl _)⟩
  . exact ⟨by simp only;omega,hw1.2.symm,hI,(List.getElem?_eq_some_iff.1 hw1.1).1⟩
  simp only;omega
 have hge:=Er hc1;have hend:=wds_end (s:=s) (k:=q.1) (by omega);refine AW.exit ?_;refine Br (Br (Gp ?_));refine ⟨.inl rfl,[],.nil,_,.refl _,?_⟩;have hl:=congrArg List.length (hend.symm.trans hR.2.1);rw [C4,Bi] at hl;have he:q.2.1=(Od s 0).length:=by have:=hR.2.2.2;omega
 exact ⟨rfl,he▸hR.2.2.1⟩
def Qi {α:Type}(c:α->List AV)(l:List α):List AV:=(l.map c).flatten
theorem mT {α:Type}{c:α->List AV}{z:Nat}(hz:∀x,(c x).length=z)(J:List AV){a:α}:∀(l:List α) (k:Nat),l[k]? = some a->((Qi c l++J).drop (k*z)).take z=c a
  | [],k,h=>by simp at h
  | x::l,0,h=>by
    cases h
    rw [Nat.zero_mul,Oi,show Qi c (a::l)=c a++Qi c l from rfl,Dy];exact List.take_left' (hz a)
  | x::l,k+1,h=>by
    have ih:=mT hz J l k (by simpa using h);rw [show Qi c (x::l)=c x++Qi c l from rfl,Dy,Ij,Nat.one_mul,Nat.add_comm,<-List.drop_drop,List.drop_left' (hz x)];exact ih
theorem eW {x:AV}:∀{cs:List AV} {o:Nat},o<cs.length->Gb cs o [x]=cs.set o x
  | c::cs,0,_=>rfl
  | c::cs,o+1,h=>by
    have:=eW (x:=x) (cs:=cs) (o:=o) (by simpa using h);unfold Gb at this ⊢;rw [show o+1 + [x].length=o + [x].length+1 by omega,Ue,List.drop_succ_cons,Dn,Dn,this,List.set_cons_succ]
theorem cSc_len (s:e8Sc):(Fx s).length=2:=rfl
theorem Bt.bufForm {P:Program}{f:FuncId}{H R:List HO}{args:List AV}{g:Value->AV}{es:List (List AV)}{E z:Nat}(h:Bt P f H args fun r H'=>∃v,r=g v/\H' = .buf v es E z::R) :
  Bt P f H args fun r H'=>∃a c,r=g (.slice a es.length c)/\H' = .buf (.slice a es.length c) es E z::R:=
 fun g0 w vs hH hr=>(h g0 w vs hH hr).mono fun e w' ⟨v,g',r,H',h1,h2,h3,h4,u,h5,h6⟩=>by
  subst h6;have hok:=h3.ok _ (I7 ..);rcases hok with ⟨e1,e2⟩ | ⟨b,cap,cur,e1,_⟩
  .
   subst e2;subst e1;exact ⟨v,g',r,_,h1,h2,h3,h4,none,0,h5,rfl⟩
  subst e1;exact ⟨v,g',r,_,h1,h2,h3,h4,_,cap,h5,rfl⟩
theorem s_taken0 (n:Ag):Ap Tryz.prog 79 [.val (.slice none 0 0),.str n] (.bool false):=by
 refine Ap.body (n:=18) tok Tryz.func79 rfl rfl rfl fun H=>?_
 refine AW.seq (AW.region (AOL.p (Ad (v:=.bool _) rfl) rfl (AOL.nil (Aa (AW.seq (AW.seq (AW.region (AOL.p (Ab (v:=.val _) rfl) rfl (AOL.p (Pv tok rfl rfl rfl) rfl (AOL.p (Ab (v:=.int .i64 _) rfl) rfl (AOL.nil (Aa (AW.block ?_)))))))))))));refine AW.loopS (fun (_:Unit)=>(⟨[(1,.str n),(7,.val (.slice none 0 0)),(8,.int .i64 0),(9,.int .i64 0)],H,18⟩:St)) (fun _=>True) (fun _=>0) (()) ?_ (GS.weaken ⟨rfl,rfl,rfl,rfl,trivial⟩ (.refl _)) ?_
 . trivial
 rintro _ _;refine AW.seq (AW.region (AOL.p (Np rfl rfl) rfl (AOL.nil (Aa (AW.seq (AW.cond (b:=_) rfl (fun hc1=>?_) (fun hc1=>AW.exit ?_)))))))
 . exact absurd hc1 (by decide)
 refine Br (Br (Gp (Aa ?_)));refine AW.seq (AW.region (AOL.p (Ad (v:=.bool _) rfl) rfl (AOL.nil (Aa (AW.ret ?_)))));refine ⟨.inr rfl,[.bool _],.cons (.tmp _ _ rfl) <| .nil,.refl _,?_⟩;rfl
theorem s_taken1 (l:List e8Sc)(hl:l.length<=1048576)(n:Ag)(b cp:Nat)(J:List AV)(R:List HO):Bt Tryz.prog 79 (.box b 65 (Qi Fx l++J)::R) [.val (.slice (some ⟨b,0,none⟩) l.length cp),.str n] (fun r H'=>r = .bool ((G0 l).contains n)/\H' = .box b 65 (Qi Fx l++J)::R):=by
 refine Bt.body (n:=18) tok Tryz.func79 rfl rfl rfl ?_;refine AW.seq (AW.region (AOL.p (Ad (v:=.bool _) rfl) rfl (AOL.nil (Aa (AW.seq (AW.seq (AW.region (AOL.p (Ab (v:=.val _) rfl) rfl (AOL.p (Pv tok rfl rfl rfl) rfl (AOL.p (Ab (v:=.int .i64 _) rfl) rfl (AOL.nil (Aa (AW.block ?_)))))))))))));refine AW.loopS (fun (k:Nat)=>(⟨[(1,.str n),(7,.val (.slice (some ⟨b,0,none⟩) l.length cp)),(8,.int .i64 l.length),(9,.int .i64 (k:Int))],.box b 65 (Qi Fx l++J)::R,18⟩:St)) (fun k=>k<=l.length/\((G0 l).take k).contains n=false) (fun k=>l.length-k) (0) ?_ (GS.weaken ⟨rfl,rfl,rfl,rfl,trivial⟩ (.refl _)) ?_
 . exact ⟨A7 _,by simp⟩
 rintro k hR;refine AW.seq (AW.region (AOL.p (Np rfl rfl) rfl (AOL.nil (Aa (AW.seq (AW.cond (b:=_) rfl (fun hc1=>?_) (fun hc1=>?_)))))))
 .
  obtain ⟨a,ha⟩:=C2 hc1;have hlt:=Cc ha;have hm:=Aj ha;have hna:(G0 l)[k]? = some a.name:=by unfold G0;simp [ha]
  refine AW.skip (Aa (AW.seq (AW.block (AW.seq (AW.region ?_)))));refine AOL.p (Cp (o':=k*2) tok rfl rfl rfl rfl rfl (by omega) (by omega) (by show 0+(k:Int).toNat*2=k*2;omega)) rfl ?_;refine AOL.Aaz (Iu (k:=0) (l:=Fx a) tok rfl rfl rfl (mT (c:=Fx) (z:=2) cSc_len J l k ha) rfl) rfl rfl ?_;refine AOL.e (Dg (l:=[.str [],.sl 2 []]) (by kernel_rfl)) rfl ?_;rintro _ _ ⟨b6,rfl,rfl⟩;refine AOL.e (Dj (k:=0) (v:=.agg _) (cs':=[.str _,_]) (H2:=_::_::_) tok rfl rfl rfl rfl (rfl) rfl rfl rfl rfl) rfl ?_;rintro _ _ ⟨rfl,rfl⟩;refine AOL.ghost (GS.freeze (t:=6) 0 rfl rfl) ?_;refine AOL.nil (Aa (AW.seq (AW.region (AOL.p (Ai (cs':=[.str _,_]) tok rfl rfl rfl rfl rfl rfl) rfl (AOL.p (Aq (c:=.str _) tok rfl rfl rfl) rfl (AOL.p (Ab (v:=.str _) rfl) rfl (AOL.p (Dx rfl rfl) rfl (AOL.nil (Aa (AW.cond (b:=_) rfl (fun hc2=>AW.seq (AW.region (AOL.p (Ad (v:=.bool _) rfl) rfl (AOL.nil (Aa (AW.ret (Dw (A4 (A4 (Dw (A4 ?_))))))))))) (fun hc2=>AW.skip (Ff (Aa (AW.region ?_))))))))))))))
  .
   refine ⟨.inr rfl,[.bool _],.cons (.tmp _ _ rfl) <| .nil,_,.refl _,?_⟩;have e:a.name=n:=by simpa using hc2
   rw [e] at hna;exact ⟨congrArg AV.bool (by simpa using Aj hna:(G0 l).contains n=true).symm,rfl⟩
  refine AOL.p (Js rfl rfl rfl (by constructor <;> omega)) rfl ?_;refine AOL.p (Ab (v:=.int .i64 _) rfl) rfl (AOL.nil (Aa ?_));refine ⟨k+1,?_,?_,GS.weaken ⟨rfl,rfl,rfl,rfl,trivial⟩ (.refl _)⟩
  . exact ⟨hlt,Vg hna hR.2 hc2⟩
  omega
 have hte:=Dt hc1;refine AW.exit ?_;refine Br (Br (Gp (Aa ?_)));refine AW.seq (AW.region (AOL.p (Ad (v:=.bool _) rfl) rfl (AOL.nil (Aa (AW.ret ?_)))));refine ⟨.inr rfl,[.bool _],.cons (.tmp _ _ rfl) <| .nil,_,.refl _,?_⟩;have h2:=hR.2;have h3:(G0 l).take k=(G0 l):=by unfold G0;rw [<-List.map_take,hte]
 rw [h3] at h2;exact ⟨congrArg AV.bool h2.symm,rfl⟩
theorem s_taken (l:List e8Sc)(hl:l.length<=1048576)(n:Ag)(a0:Option Addr)(cp:Nat)(R:List HO) :
  Bt Tryz.prog 79 (.buf (.slice a0 l.length cp) (l.map Fx) 65 2::R) [.val (.slice a0 l.length cp),.str n] (fun r H'=>r = .bool ((G0 l).contains n)/\H' = .buf (.slice a0 l.length cp) (l.map Fx) 65 2::R):=by
 refine Bt.buf (fun h1 h2=>?_) (fun b cap J h1 h2=>?_)
 .
  have hl0:l = []:=by simpa using h2
  subst hl0;rw [h1];exact s_taken0 n _
 have hn:(l.map Fx).length=l.length:=by simp
 rw [hn] at h1;rw [h1];refine Bt.post (s_taken1 l hl n b cap J R) ?_;rintro r K ⟨rfl,rfl⟩;exact ⟨_,List.Perm.refl _,l.map Fx,rfl,by simp,fun e he=>by obtain ⟨x,_,rfl⟩:=C9.1 he;rfl,rfl,rfl⟩
theorem bg_no {l:List e8Sc}{w:Ag}(h:Vt l w=0):Lib.contains w [58]=false/\((l.length:Int)==16)=false/\(!(D3 w))=false/\(G0 l).contains w=false:=by
 unfold Vt at h;split at h
 . cases h
 split at h
 . cases h
 split at h
 . cases h
 split at h
 . cases h
 rename_i h1 h2 h3 h4;exact ⟨by simpa using h1,Oe.2 h2,Oe.2 h3,Oe.2 h4⟩
theorem s_begin0 (l:List e8Sc)(hl:l.length<=16)(w:Ag)(hw:w.length<=1048576)(hE:Vt l w=0)(a0:Option Addr)(cp:Nat)(R:List HO):Bt Tryz.prog 33 (.buf (.slice a0 l.length cp) (l.map Fx) 65 2::R) [.val (.slice a0 l.length cp),.str w] (fun r H'=>∃v,r = .tuple [.val v,.int .i64 0]/\H' = .buf v (l.map Fx ++ [[.str w,.val (.slice none 0 0)]]) 65 2::R):=by
 have hb:=bg_no hE;refine Bt.body (n:=26) tok Tryz.func33 rfl rfl rfl ?_;refine AW.seq (AW.region (AOL.p (Ad (v:=.val _) rfl) rfl (AOL.p (Ad (v:=.int .i64 _) rfl) rfl (AOL.nil (Aa (AW.seq (AW.block (AW.seq (AW.region (AOL.p (Ab (v:=.str _) rfl) rfl ?_))))))))));refine AOL.p (Eg (by kernel_rfl) rfl rfl (k29 w [58] (by omega))) rfl ?_;refine AOL.p (Ad (v:=.bool _) rfl) rfl (AOL.nil (Aa (AW.cond (b:=_) rfl (fun hc1=>?_) (fun hc1=>AW.seq (AW.region (AOL.p (Ab (v:=.val _) rfl) rfl (AOL.p (Pv tok rfl rfl rfl) rfl (AOL.p (aF rfl rfl) rfl (AOL.p (Ad (v:=.bool _) rfl) rfl (AOL.nil (Aa (AW.cond (b:=_) rfl (fun hc2=>?_) (fun hc2=>AW.seq (AW.region (AOL.p (Ab (v:=.str _) rfl) rfl ?_)))))))))))))))
 . exact absurd (hc1.symm.trans hb.1) (by decide)
 . exact absurd (hc2.symm.trans hb.2.1) (by decide)
 refine AOL.p (Eg (by kernel_rfl) rfl rfl (c102 w hw)) rfl ?_;refine AOL.p (cB rfl) rfl (AOL.p (Ad (v:=.bool _) rfl) rfl (AOL.nil (Aa (AW.cond (b:=_) rfl (fun hc3=>?_) (fun hc3=>AW.seq (AW.region (AOL.p (Ab (v:=.val _) rfl) rfl (AOL.p (Ab (v:=.str _) rfl) rfl ?_))))))))
 . exact absurd (hc3.symm.trans hb.2.2.1) (by decide)
 refine AOL.e (L6 (by kernel_rfl) rfl rfl (s_taken l (by omega) w a0 cp R)) rfl ?_;rintro _ _ ⟨rfl,rfl⟩;refine AOL.p (Ad (v:=.bool _) rfl) rfl (AOL.nil (Aa (AW.cond (b:=_) rfl (fun hc4=>?_) (fun hc4=>AW.skip (Ff (Aa (AW.seq (AW.region (AOL.p (Ab (v:=.val _) rfl) rfl (AOL.p (Ab (v:=.str _) rfl) rfl ?_))))))))))
 . exact absurd (hc4.symm.trans hb.2.2.2) (by decide)
 refine AOL.p (Hy (l0:=[.str [],.val (.slice none 0 0)]) (l:=[_,_]) tok rfl rfl (by kernel_rfl) rfl) rfl ?_;refine AOL.p (Mz (es:=[[.str _,_]]) tok rfl rfl rfl rfl rfl rfl rfl rfl rfl) rfl ?_;refine AOL.e (lS (k:=0) tok rfl rfl rfl rfl rfl rfl rfl rfl (rfl) (by simp;omega) (by simp [maxLen];omega)) rfl ?_;rintro _ _ ⟨v25,rfl,rfl⟩;refine AOL.p (Ad (v:=.val _) rfl) rfl (AOL.p (Ad (v:=.int .i64 _) rfl) rfl (AOL.nil (Aa (AW.ret ?_))));refine ⟨.inr rfl,[.val _,.int .i64 _],.cons (.tmp _ _ rfl) <| .cons (.tmp _ _ rfl) <| .nil,_,.refl _,?_⟩;exact ⟨_,rfl,rfl⟩
theorem s_begin (l:List e8Sc)(hl:l.length<=16)(w:Ag)(hw:w.length<=1048576)(hE:Vt l w=0)(a0:Option Addr)(cp:Nat)(R:List HO) :
  Bt Tryz.prog 33 (.buf (.slice a0 l.length cp) (l.map Fx) 65 2::R) [.val (.slice a0 l.length cp),.str w] (fun r H'=>∃a c,r = .tuple [.val (.slice a (l.length+1) c),.int .i64 0]/\H' = .buf (.slice a (l.length+1) c) (l.map Fx ++ [[.str w,.val (.slice none 0 0)]]) 65 2::R):=by
 have h:=Bt.bufForm (g:=fun v=>AV.tuple [.val v,.int .i64 0]) (s_begin0 l hl w hw hE a0 cp R);have hn:(l.map Fx ++ [[AV.str w,.val (.slice none 0 0)]]).length=l.length+1:=by simp
 rw [hn] at h;exact h
def wkG (k:Nat)(w:Ag):Int:=if (decide (3<=k)&&w==Fe) then 2 else if (decide (2<=k)&&w==Gj) then 1 else if (decide (1<=k)&&w==I4) then 0 else -1
theorem wk_3 (w:Ag):wkG 3 w=Yl w:=by
 unfold wkG Yl;simp
theorem wk_yes {k:Nat}{w:Ag}(h:k<3)(e:(wdS k==w)=true):wkG (k+1) w=k:=by
 have e1:wdS k=w:=by simpa using e
 subst e1
 match k,h with
 | 0,_=>rfl
 | 1,_=>rfl
 | 2,_=>rfl
theorem wk_no {k:Nat}{w:Ag}(h:k<3)(e:(wdS k==w)=false):wkG (k+1) w=wkG k w:=by
 have e2:(w==wdS k)=false:=by rw [Fs] at e ⊢;exact fun h=>e h.symm
 match k,h with
 | 0,_=>unfold wkG;rw [show wdS 0=I4 from rfl] at e2;simp [e2]
 | 1,_=>unfold wkG;rw [show wdS 1=Gj from rfl] at e2;simp [e2]
 | 2,_=>unfold wkG;rw [show wdS 2=Fe from rfl] at e2;simp [e2]
theorem fx_no {s:e8Sc}{w:Ag}(h:cT s w=0):decide (Yl (Lib.cut w [58]).2.1<0)=false/\((s.fields.length:Int)==8)=false/\(!(Lp (Lib.cut w [58]).1))=false/\decide (0<=Kb (s.fields.map (·.name)) (Lib.cut w [58]).1)=false:=by
 unfold cT at h;split at h
 . cases h
 split at h
 . cases h
 split at h
 . cases h
 split at h
 . cases h
 rename_i h1 h2 h3 h4;exact ⟨Oe.2 h1,Oe.2 h2,Oe.2 h3,Oe.2 h4⟩
theorem s_field (s:e8Sc)(hl:s.fields.length<=8)(w:Ag)(hw:w.length<=1048576)(hE:cT s w=0)(b o:Nat)(cs:List AV)(fv:Value)(hcs:cs[o+1]? = some (.row fv 2 (s.fields.map Tf)))(R:List HO):Bt Tryz.prog 34 (.row fv (s.fields.map Tf).length 82 2 :: .box b 65 cs::R) [.val (.pointer (some ⟨b,o,none⟩)),.str w] (fun r H'=>∃v,r = .int .i64 0/\H' = .row v ((s.fields ++ [(⟨(Lib.cut w [58]).1,Yl (Lib.cut w [58]).2.1⟩:Fi)]).map Tf).length 82 2 :: .box b 65 (cs.set (o+1) (.row v 2 ((s.fields ++ [(⟨(Lib.cut w [58]).1,Yl (Lib.cut w [58]).2.1⟩:Fi)]).map Tf)))::R):=by
 have hb:=fx_no hE;have hcl:=cut_le w [58];refine Bt.body (n:=61) tok Tryz.func34 rfl rfl rfl ?_;refine AW.seq (AW.region (AOL.p (Ad (v:=.int .i64 _) rfl) rfl (AOL.nil (Aa (AW.seq (AW.region (AOL.p (Ab (v:=.str _) rfl) rfl ?_)))))));refine AOL.p (Eg (by kernel_rfl) rfl rfl (k_cut w [58] hw)) rfl ?_;refine AOL.p (Ab (v:=.tuple _) rfl) rfl (AOL.p (A6 (v:=.str _) rfl rfl) rfl (AOL.p (A6 (v:=.str _) rfl rfl) rfl (AOL.p (A6 (v:=.bool _) rfl rfl) rfl (AOL.p (Ad (v:=.str _) rfl) rfl (AOL.p (Ad (v:=.str _) rfl) rfl (AOL.p (Ad (v:=.bool _) rfl) rfl (AOL.nil (Aa (AW.seq (AW.region (AOL.p (Ad (v:=.int .i64 _) rfl) rfl (AOL.nil (Aa (AW.seq (AW.seq (AW.region ?_))))))))))))))));refine AOL.p (Oo (l:=Nl) tok (⟨_,by simp [globals],fun _ h=>h⟩) rfl rfl rfl rfl) rfl ?_;refine AOL.p (Ab (v:=.int .i64 _) rfl) rfl (AOL.nil (Aa (AW.block ?_)));refine AW.loopS (fun (k:Nat)=>(⟨[(0,.val (.pointer (some ⟨b,o,none⟩))),(5,.str (Lib.cut w [58]).1),(6,.str (Lib.cut w [58]).2.1),(8,.int .i64 (wkG k (Lib.cut w [58]).2.1)),(17,.agg Nl),(18,.int .i64 (k:Int))],.row fv (s.fields.map Tf).length 82 2 :: .box b 65 cs::R,61⟩:St)) (fun k=>k<=3) (fun k=>3-k) (0) ?_ (GS.weaken ⟨rfl,rfl,rfl,rfl,rfl,rfl,trivial⟩ (.refl _)) ?_
 . exact A7 _
 rintro k hR;refine AW.seq (AW.region (AOL.p (Np rfl rfl) rfl (AOL.nil (Aa (AW.seq (AW.cond (b:=_) rfl (fun hc1=>?_) (fun hc1=>?_)))))))
 .
  have hk3:k<3:=by have:=C6 hc1;omega
  refine AW.skip (Aa (AW.seq (AW.block (AW.seq (AW.region (AOL.p (Ab (v:=.int .i64 _) rfl) rfl ?_))))));refine AOL.p (On (c:=.str (wdS k)) tok rfl rfl rfl rfl rfl rfl rfl (by omega) (by show (k:Int)<((3:Nat):Int);omega) (wd_cells hk3)) rfl ?_;refine AOL.p (Ad (v:=.int .i64 _) rfl) rfl (AOL.p (Ad (v:=.str _) rfl) rfl (AOL.nil (Aa (AW.seq (AW.region (AOL.p (Ab (v:=.str _) rfl) rfl (AOL.p (Ab (v:=.str _) rfl) rfl (AOL.p (Dx rfl rfl) rfl (AOL.nil (Aa (AW.cond (b:=_) rfl (fun hc2=>AW.region (AOL.p (Ab (v:=.int .i64 _) rfl) rfl (AOL.p (Ad (v:=.int .i64 _) rfl) rfl (AOL.nil (Ff (Aa (AW.region ?_))))))) (fun hc2=>AW.skip (Ff (Aa (AW.region ?_)))))))))))))))
  .
   refine AOL.p (Js rfl rfl rfl (by constructor <;> omega)) rfl ?_;refine AOL.p (Ab (v:=.int .i64 _) rfl) rfl (AOL.nil (Aa ?_));refine ⟨k+1,?_,?_,GS.weaken ⟨rfl,rfl,rfl,congrArg (AV.int .i64) (wk_yes hk3 hc2).symm,rfl,rfl,trivial⟩ (.refl _)⟩
   . exact hk3
   omega
  refine AOL.p (Js rfl rfl rfl (by constructor <;> omega)) rfl ?_;refine AOL.p (Ab (v:=.int .i64 _) rfl) rfl (AOL.nil (Aa ?_));refine ⟨k+1,?_,?_,GS.weaken ⟨rfl,rfl,rfl,congrArg (AV.int .i64) (wk_no hk3 hc2).symm,rfl,rfl,trivial⟩ (.refl _)⟩
  . exact hk3
  omega
 have hk3:k=3:=by have:=Er hc1;omega
 have hkd:=wk_3 (Lib.cut w [58]).2.1;refine AW.exit ?_;refine Br (Br (Gp (Aa (AW.seq (AW.block ?_)))));refine AW.seq (AW.region (AOL.p (Ab (v:=.int .i64 _) rfl) rfl (AOL.p (Np rfl rfl) rfl (AOL.p (Ad (v:=.bool _) rfl) rfl (AOL.nil (Aa (AW.cond (b:=_) rfl (fun hc3=>?_) (fun hc3=>AW.seq (AW.region (AOL.p (Ab (v:=.val _) rfl) rfl (AOL.p (Ae rfl) rfl (AOL.p (Hz tok rfl rfl rfl rfl rfl rfl) rfl (AOL.Aaz (B8 (k:=1) (c:=.row fv 2 (s.fields.map Tf)) tok rfl rfl rfl (hcs)) rfl rfl ?_)))))))))))))
 . exact absurd (hc3.symm.trans (show decide (wkG k (Lib.cut w [58]).2.1<0)=false by rw [hk3,hkd];exact hb.1)) (by decide)
 refine AOL.p (E8 (n:=s.fields.length) tok rfl rfl rfl (by simp)) rfl ?_;refine AOL.p (aF rfl rfl) rfl (AOL.p (Ad (v:=.bool _) rfl) rfl (AOL.nil (Aa (AW.cond (b:=_) rfl (fun hc4=>?_) (fun hc4=>AW.seq (AW.region (AOL.p (Ab (v:=.str _) rfl) rfl ?_)))))))
 . exact absurd (hc4.symm.trans hb.2.1) (by decide)
 refine AOL.p (Eg (by kernel_rfl) rfl rfl (c103 _ (by omega))) rfl ?_;refine AOL.p (cB rfl) rfl (AOL.p (Ad (v:=.bool _) rfl) rfl (AOL.nil (Aa (AW.cond (b:=_) rfl (fun hc5=>?_) (fun hc5=>AW.seq (AW.region (AOL.p (Ab (v:=.val _) rfl) rfl (AOL.p (Ae rfl) rfl (AOL.p (Hz tok rfl rfl rfl rfl rfl rfl) rfl (AOL.Aaz (B8 (k:=1) (c:=.row fv 2 (s.fields.map Tf)) tok rfl rfl rfl (hcs)) rfl rfl (AOL.p (Ab (v:=.str _) rfl) rfl ?_)))))))))))
 . exact absurd (hc5.symm.trans hb.2.2.1) (by decide)
 refine AOL.ghost (GS.unrow 45 rfl) ?_;refine AOL.p (Eg (by kernel_rfl) rfl rfl (eS s.fields (by omega) _)) rfl ?_;refine AOL.p (tS rfl rfl) rfl (AOL.p (Ad (v:=.bool _) rfl) rfl (AOL.nil (Aa (AW.cond (b:=_) rfl (fun hc6=>?_) (fun hc6=>AW.skip (Ff (Aa (AW.seq (AW.region (AOL.p (Ab (v:=.val _) rfl) rfl (AOL.p (Ab (v:=.val _) rfl) rfl (AOL.p (Ae rfl) rfl (AOL.p (Hz tok rfl rfl rfl rfl rfl rfl) rfl (AOL.Aaz (B8 (k:=1) (c:=.row fv 2 (s.fields.map Tf)) tok rfl rfl rfl (hcs)) rfl rfl (AOL.p (Ab (v:=.str _) rfl) rfl (AOL.p (Ab (v:=.int .i64 _) rfl) rfl (AOL.p (tR (l:=[.str _,.int .i64 _]) tok rfl rfl rfl) rfl (AOL.p (Mz (es:=[[.str _,.int .i64 _]]) tok rfl rfl rfl rfl rfl rfl rfl rfl rfl) rfl ?_))))))))))))))))))
 . exact absurd (hc6.symm.trans hb.2.2.2) (by decide)
 refine AOL.e (lR (k:=0) tok rfl rfl rfl rfl rfl rfl rfl rfl (D5 rfl) (kZ fun _=>rfl) (by simp;omega) (by simp [maxLen];omega)) rfl ?_;rintro _ _ ⟨v58,rfl,rfl⟩;refine AOL.p (Ae rfl) rfl (AOL.p (Hz tok rfl rfl rfl rfl rfl rfl) rfl ?_);refine AOL.e (Dj (k:=1) (v:=.row _ _ _) (cs':=cs.set (o+1) (.row _ 2 _)) (H2:=_::_::_) tok rfl rfl rfl rfl rfl rfl (Nat.ble_eq_true_of_le (by have:=(List.getElem?_eq_some_iff.1 hcs).1;show o+1+1<=cs.length;omega)) (eW (List.getElem?_eq_some_iff.1 hcs).1) rfl) rfl ?_;rintro _ _ ⟨rfl,rfl⟩;refine AOL.nil (Aa (AW.seq (AW.region (AOL.p (Ad (v:=.int .i64 _) rfl) rfl (AOL.nil (Aa (AW.ret ?_)))))));refine ⟨.inr rfl,[.int .i64 _],.cons (.tmp _ _ rfl) <| .nil,_,.refl _,?_⟩;subst hk3;have e9:s.fields.map Tf ++ [[AV.str (Lib.cut w [58]).1,AV.int .i64 (wkG 3 (Lib.cut w [58]).2.1)]]=(s.fields ++ [(⟨(Lib.cut w [58]).1,Yl (Lib.cut w [58]).2.1⟩:Fi)]).map Tf:=by rw [E5,hkd];rfl
 exact ⟨v58,rfl,congrArg (fun l:List (List AV)=>(.row v58 l.length 82 2 :: .box b 65 (cs.set (o+1) (.row v58 2 l))::R:List HO)) e9⟩
theorem line_at {T:List e8Sc}{k:Nat}{x:Ag}(h:(T.map Ez ++ [[]])[k]? = some x):(∃S,T[k]? = some S/\x=Ez S)\/(T.length<=k/\x = []):=by
 by_cases hk:k<T.length
 .
  left;rw [List.getElem?_append_left (by simpa using hk),List.getElem?_map,List.getElem?_eq_getElem hk] at h;exact ⟨T[k],List.getElem?_eq_getElem hk,by simpa using h.symm⟩
 right;rw [List.getElem?_append_right (by simp;omega)] at h;refine ⟨by omega,?_⟩;cases hq:k-(T.map Ez).length with
 | zero=>rw [hq] at h;simpa using h.symm
 | succ n=>rw [hq] at h;simp at h
theorem fK {S:e8Sc}(h:Gi S=0):(Od (Ez S) 0).map (·.2)=S.name::S.fields.map Gl:=by
 obtain ⟨a1,a2⟩:=Jg h;exact tM a1 fun f hf=>(a2 f hf).2.1
theorem wds_name {S:e8Sc}(h:Gi S=0){a:Nat}{w:Ag}(hw:(Od (Ez S) 0)[0]? = some (a,w)):w=S.name:=by
 have h1:=congrArg (fun l=>l[0]?) (fK h);simp only [List.getElem?_map,hw] at h1;simpa using h1
theorem wds_fld {S:e8Sc}(h:Gi S=0){j a:Nat}{w:Ag}(hw:(Od (Ez S) 0)[j+1]? = some (a,w)):∃f,S.fields[j]? = some f/\w=Gl f:=by
 have h1:=congrArg (fun l=>l[j+1]?) (fK h);simp only [List.getElem?_map,hw,List.getElem?_cons_succ,Hv] at h1;cases hf:S.fields[j]? with
 | none=>rw [hf] at h1;simp at h1
 | some f=>rw [hf] at h1;exact ⟨f,rfl,by simpa using h1⟩
theorem wP {S:e8Sc}(h:Gi S=0):(Od (Ez S) 0).length=S.fields.length+1:=by
 have:=congrArg List.length (fK h);simpa using this
theorem wQ:Od [] 0 = []:=rfl
theorem wds_off {s:Ag}{k a:Nat}{w:Ag}(hw:(Od s 0)[k]? = some (a,w)):a<=s.length:=by
  have key:∀(n at':Nat) (l:Ag) (p:Nat×Ag),p∈Jn n at' l->p.1<=at'+l.length:=by
    intro n
    induction n with
    | zero=>intro at' l p hp;cases hp
    | succ n ih=>
      intro at' l p hp;cases l with
      | nil=>cases hp
      | cons c r=>
        rw [Jn] at hp;split at hp
        . have:=ih _ _ p hp
          rw [A1];omega
        . rename_i hc
          rcases Cn.1 hp with rfl | hp
          . simp only;omega
          . have:=ih _ _ p hp
            have h2:=jQ (r:=r) (Oe.2 hc);rw [C4] at this;omega
  have:=key _ _ _ _ (Aj hw);simpa using this
theorem bg_ok {T:List e8Sc}(h:(Dr T != 0)=false){k:Nat}{S:e8Sc}(hS:T[k]? = some S):Vt (T.take k) S.name=0:=by
  obtain ⟨h1,h2,h3⟩:=Rm h;have hk:k<T.length:=(List.getElem?_eq_some_iff.1 hS).1;obtain ⟨a1,a2⟩:=Jg (h3 S (Aj hS));have hb:=Jx a1
  have hn:(G0 (T.take k)).contains S.name=false:=by
    cases hq:(G0 (T.take k)).contains S.name with
    | false=>rfl
    | true=>
      have h5:G0 T=G0 (T.take k)++G0 (T.drop k):=by unfold G0;rw [<-E5,Po]
      rw [h5,Jo] at h2
      have h6:S.name∈G0 (T.drop k):=by
        unfold G0;refine List.mem_map_of_mem ?_;rw [L4 hk,(List.getElem?_eq_some_iff.1 hS).2];simp
      exact absurd rfl (h2.2.2 S.name (by simpa using hq) S.name h6)
  unfold Vt;rw [con_miss hb.2.2.2.2,a1,hn,if_neg (by decide),if_neg (by simp [Df];omega),if_neg (by decide),if_neg (by decide)]
theorem fld_step {S:e8Sc}(h:Gi S=0){j:Nat}{f:Fi}(hf:S.fields[j]? = some f):cT ⟨S.name,S.fields.take j⟩ (Gl f)=0/\(⟨(Lib.cut (Gl f) [58]).1,Yl (Lib.cut (Gl f) [58]).2.1⟩:Fi)=f:=by
  obtain ⟨a1,a2⟩:=Jg h;obtain ⟨b1,b2,b3⟩:=a2 f (Aj hf);have hj:j<S.fields.length:=(List.getElem?_eq_some_iff.1 hf).1;obtain ⟨w1,_⟩:=fL b2;have hk:=(Uu f.kind).2.2.2 b3;have hl:=U4 h;have hnd:=yU h
  have hc:((S.fields.take j).map (·.name)).contains f.name=false:=by
    cases hq:((S.fields.take j).map (·.name)).contains f.name with
    | false=>rfl
    | true=>
      have h5:S.fields.map (·.name)=(S.fields.take j).map (·.name)++(S.fields.drop j).map (·.name):=by rw [<-E5,Po]
      rw [h5,Jo] at hnd
      have h6:f.name∈(S.fields.drop j).map (·.name):=by
        refine List.mem_map_of_mem ?_;rw [L4 hj,(List.getElem?_eq_some_iff.1 hf).2];simp
      exact absurd rfl (hnd.2.2 f.name (by simpa using hq) f.name h6)
  refine ⟨?_,?_⟩
  . have hp:Ey ⟨S.name,S.fields.take j⟩ f.name = -1:=by unfold Ey Kb;rw [hc];rfl
    unfold cT;rw [w1];simp only;rw [hk,hp,b1,if_neg (by simp;omega),if_neg (by simp [Df];omega),if_neg (by decide),if_neg (by decide)]
  . rw [w1]
    simp only;rw [hk]
theorem line_S {T:List e8Sc}{k:Nat}{x:Ag}(h:(T.map Ez ++ [[]])[k]? = some x):∃S,(T[k]? = some S/\x=Ez S)\/(T[k]? = none/\x = []):=by
 rcases line_at h with ⟨S,h1,h2⟩ | ⟨h1,h2⟩
 . exact ⟨S,.inl ⟨h1,h2⟩⟩
 exact ⟨⟨[],[]⟩,.inr ⟨List.getElem?_eq_none h1,h2⟩⟩
theorem line_w {T:List e8Sc}{k:Nat}{x:Ag}{S:e8Sc}(h:(T[k]? = some S/\x=Ez S)\/(T[k]? = none/\x = [])){n:Nat}{p:Nat×Ag}(hw:(Od x 0)[n]? = some p):T[k]? = some S/\x=Ez S:=by
 rcases h with h | ⟨_,rfl⟩
 . exact h
 rw [wQ] at hw;cases hw
theorem line_fin {T:List e8Sc}{k:Nat}{x:Ag}{S:e8Sc}(h:(T[k]? = some S/\x=Ez S)\/(T[k]? = none/\x = []))(h2:(Od x 0).length=0)(hok:∀s∈T,Gi s=0):T.take k=T.take (k+1):=by
 rcases h with ⟨h1,rfl⟩ | ⟨h1,_⟩
 . rw [wP (hok S (Aj h1))] at h2;omega
 have:T.length<=k:=List.getElem?_eq_none_iff.1 h1;rw [Sv this,Sv (by omega)]
theorem line_all {T:List e8Sc}{k j:Nat}{x:Ag}{S:e8Sc}(h:(T[k]? = some S/\x=Ez S)\/(T[k]? = none/\x = []))(h2:(Od x 0).length=j+1)(hok:∀s∈T,Gi s=0):T[k]? = some S/\S.fields.take j=S.fields:=by
 rcases h with ⟨h1,rfl⟩ | ⟨h1,rfl⟩
 .
  rw [wP (hok S (Aj h1))] at h2;exact ⟨h1,Sv (by omega)⟩
 rw [wQ] at h2;cases h2
theorem wfl {S:e8Sc}(h:D3 S.name=true/\∀f∈S.fields,Lp f.name=true/\D3 f.name=true/\(f.kind=0\/f.kind=1\/f.kind=2)){j:Nat}{f:Fi}(hf:S.fields[j]? = some f):(Gl f).length<=1048576:=by
 have h1:=(Jx (h.2 f (Aj hf)).2.1).2.1;have h2:=(Uu f.kind).2.2.1;unfold Gl;simp only [Ao,D2];omega
theorem fld_more {S:e8Sc}{j:Nat}{f g:Fi}(hf:S.fields[j]? = some f)(e:g=f):S.fields.take j ++ [g]=S.fields.take (j+1):=by rw [Cs hf,e]
theorem Ut (l:List e8Sc):(Qi Fx l).length=l.length*2:=by
 unfold Qi;rw [Ds (z:=2) (by intro e he;obtain ⟨x,_,rfl⟩:=C9.1 he;rfl),By]
theorem rH (l:List e8Sc)(x y:AV)(J:List AV):(l.map Fx ++ [[x,y]]).flatten++J=Qi Fx l++([x,y]++J):=by unfold Qi;simp
theorem xK {T:List e8Sc}{k:Nat}{S:e8Sc}(h:T[k]? = some S)(J:List AV):Qi Fx (T.take k)++([.str S.name,.sl 2 (S.fields.map Tf)]++J)=((T.take (k+1)).map Fx).flatten++J:=by
 rw [Cs h];unfold Qi;simp [Fx]
theorem Zh (l:List e8Sc)(x y:AV)(J:List AV):(Qi Fx l++([x,y]++J))[l.length*2+1]? = some y:=by
 rw [List.getElem?_append_right (by rw [Ut];omega),Ut,show l.length*2+1-l.length*2=1 by omega];rfl
theorem Zi (l:List e8Sc)(x y z:AV)(J:List AV):(Qi Fx l++([x,y]++J)).set (l.length*2+1) z=Qi Fx l++([x,z]++J):=by
 rw [List.set_append_right _ _ (by rw [Ut];omega),Ut,show l.length*2+1-l.length*2=1 by omega];rfl
theorem s_beginN (l:List e8Sc)(hl:l.length<=16)(w:Ag)(hw:w.length<=1048576)(hE:Vt l w=0)(a0:Option Addr)(n cp:Nat)(hn:n=l.length)(R:List HO) :
  Bt Tryz.prog 33 (.buf (.slice a0 n cp) (l.map Fx) 65 2::R) [.val (.slice a0 n cp),.str w] (fun r H'=>∃a c,r = .tuple [.val (.slice a (n+1) c),.int .i64 0]/\H' = .buf (.slice a (n+1) c) (l.map Fx ++ [[.str w,.val (.slice none 0 0)]]) 65 2::R):=by
 subst hn;exact s_begin l hl w hw hE a0 cp R
theorem p_lines {T:List e8Sc}(h:(Dr T != 0)=false):Ap Tryz.prog 31 [.str (M6 T),.str [10]] (.sl 1 ((T.map Ez ++ [[]]).map fun x=>[.str x])):=by
 obtain ⟨_,_,hok⟩:=Rm h;have hfl:=bQ h;have:=k_split (M6 T) 10 (by omega);rw [Zy T hok] at this;exact this
theorem line_len {T:List e8Sc}(h:(Dr T != 0)=false){k:Nat}{x:Ag}(hx:(T.map Ez ++ [[]])[k]? = some x):x.length<=4500:=by
 obtain ⟨_,_,hok⟩:=Rm h;have hfl:=bQ h;have hm:=Aj hx;rw [<-Zy T hok] at hm;have:=Wr _ _ _ _ _ hm;omega
theorem s_ParseA (T:List e8Sc)(h:(Dr T != 0)=false)(H:List HO):Bt Tryz.prog 13 H [.str (M6 T)] (fun r H'=>r = .tuple [.sl 2 (T.map Fx),.int .i64 0,.int .i64 0]/\H'=H):=by
 obtain ⟨htl,hnd,hok⟩:=Rm h;have hfl:=bQ h;have hll:(T.map Ez ++ [[]]).length=T.length+1:=by simp
 refine Bt.bodyM (n:=63) tok Tryz.func13 rfl rfl rfl fun N0=>?_
 refine aC.seq ?_;refine aC.region ?_;refine AOL.e (Dg (l:=[.sl 2 []]) (by kernel_rfl)) rfl ?_;rintro _ _ ⟨b2,rfl,rfl⟩;refine AOL.e (Dg (l:=[.int .i64 0]) (by kernel_rfl)) rfl ?_;rintro _ _ ⟨b3,rfl,rfl⟩;refine AOL.e (Dg (l:=[.int .i64 0]) (by kernel_rfl)) rfl ?_;rintro _ _ ⟨b4,rfl,rfl⟩;refine AOL.nil (Aa ?_);refine aC.seq ?_;refine aC.seq ?_;refine aC.region ?_;refine AOL.p (Ab (v:=.str _) rfl) rfl (AOL.p (Cz tok rfl rfl rfl rfl) rfl (AOL.p (zS rfl rfl) rfl (AOL.nil (Aa ?_))));refine aC.cond (b:=_) rfl (fun hc1=>?_) (fun hc1=>?_)
 . have:=C6 hc1;omega
 refine aC.skip ?_;refine Aa ?_;refine aC.seq ?_;refine aC.region ?_;refine AOL.e (Dg (l:=[.val (.slice none 0 0)]) (by kernel_rfl)) rfl ?_;rintro _ _ ⟨b5,rfl,rfl⟩;refine AOL.nil (Aa ?_);refine aC.seq ?_;refine aC.region ?_;refine AOL.e (Dg (l:=[.int .i64 0]) (by kernel_rfl)) rfl ?_;rintro _ _ ⟨b6,rfl,rfl⟩;refine AOL.e (Dj (k:=0) (v:=.int .i64 _) (cs':=[.int .i64 _]) (H2:=_::_::_::_::_::_) tok rfl rfl rfl rfl (rfl) rfl rfl rfl rfl) rfl ?_;rintro _ _ ⟨rfl,rfl⟩;refine AOL.ghost (GS.buf 65 2) ?_;refine AOL.nil (Aa ?_);refine aC.seq ?_;refine aC.seq ?_;refine aC.region ?_;refine AOL.p (Ab (v:=.str _) rfl) rfl ?_;refine AOL.p (Eg (by kernel_rfl) rfl rfl (p_lines h)) rfl ?_;refine AOL.p (Dz (n:=(T.map Ez ++ [[]]).length) tok rfl rfl rfl (by simp)) rfl ?_;refine AOL.p (Ab (v:=.int .i64 _) rfl) rfl (AOL.nil (Aa ?_));refine aC.block ?_;refine aC.loopS (fun (p:Nat×Option Addr×Nat×Nat×Int)=>(⟨[(2,.val (.pointer (some ⟨b2,0,none⟩))),(3,.val (.pointer (some ⟨b3,0,none⟩))),(4,.val (.pointer (some ⟨b4,0,none⟩))),(5,.val (.pointer (some ⟨b5,0,none⟩))),(6,.val (.pointer (some ⟨b6,0,none⟩))),(19,.sl 1 ((T.map Ez ++ [[]]).map fun x=>[.str x])),(20,.int .i64 (T.map Ez ++ [[]]).length),(21,.int .i64 (p.1:Int))],.buf (.slice p.2.1 p.2.2.1 p.2.2.2.1) ((T.take p.1).map Fx) 65 2 :: .box b6 3 [.int .i64 p.2.2.2.2] :: .box b5 29 [.val (.slice p.2.1 p.2.2.1 p.2.2.2.1)] :: .box b4 26 [.int .i64 0] :: .box b3 3 [.int .i64 0] :: .box b2 29 [.sl 2 []]::H,63⟩:St)) (fun (p:Nat×Option Addr×Nat×Nat×Int)=>p.1<=(T.map Ez ++ [[]]).length/\0<=p.2.2.2.2/\p.2.2.2.2<=p.1*65536/\p.2.2.1=(T.take p.1).length) (fun (p:Nat×Option Addr×Nat×Nat×Int)=>(T.map Ez ++ [[]]).length-p.1) ((0,none,0,0,0)) ?_ (GS.weaken ⟨rfl,rfl,rfl,rfl,rfl,rfl,rfl,rfl,trivial⟩ (.refl _)) ?_
 . exact ⟨A7 _,Fr _,by simp,by simp⟩
 rintro p hR;refine aC.seq ?_;refine aC.region ?_;refine AOL.p (Np rfl rfl) rfl (AOL.nil (Aa ?_));refine aC.seq ?_;refine aC.cond (b:=_) rfl (fun hc2=>?_) (fun hc2=>?_)
 .
  have hlt:p.1<(T.map Ez ++ [[]]).length:=by have:=C6 hc2;omega
  refine (Ud.1 (by simpa using hlt:((T.map Ez ++ [[]])[p.1]?).isSome=true)).elim fun x hx=>?_
  have hxl:=line_len h hx;refine (line_S hx).elim fun S hSx=>?_
  refine aC.skip ?_;refine Aa ?_;refine aC.seq ?_;refine aC.block ?_;refine aC.seq ?_;refine aC.region ?_;refine AOL.p (Ec (c:=[.str _]) tok rfl rfl rfl rfl rfl rfl (by omega) (Cf hx)) rfl ?_;refine AOL.p (Aq (c:=.str _) tok rfl rfl rfl) rfl (AOL.p (Ad (v:=.str _) rfl) rfl (AOL.nil (Aa ?_)));refine aC.seq ?_;refine aC.region ?_;refine AOL.e (Dg (l:=[.bool false]) (by kernel_rfl)) rfl ?_;rintro _ _ ⟨b9,rfl,rfl⟩;refine AOL.e (Dj (k:=0) (v:=.bool _) (cs':=[.bool _]) (H2:=_::_::_::_::_::_::_::_) tok rfl rfl rfl rfl (rfl) rfl rfl rfl rfl) rfl ?_;rintro _ _ ⟨rfl,rfl⟩;refine AOL.nil (Aa ?_);refine aC.cut (fun (q:Option Addr×Nat×Nat)=>(⟨[(2,.val (.pointer (some ⟨b2,0,none⟩))),(3,.val (.pointer (some ⟨b3,0,none⟩))),(4,.val (.pointer (some ⟨b4,0,none⟩))),(5,.val (.pointer (some ⟨b5,0,none⟩))),(6,.val (.pointer (some ⟨b6,0,none⟩))),(8,.str x),(20,.int .i64 (T.map Ez ++ [[]]).length),(19,.sl 1 ((T.map Ez ++ [[]]).map fun x=>[.str x])),(21,.int .i64 (p.1:Int))],.buf (.slice q.1 q.2.1 q.2.2) ((T.take (p.1+1)).map Fx) 65 2 :: .box b6 3 [.int .i64 p.2.2.2.2] :: .box b5 29 [.val (.slice q.1 q.2.1 q.2.2)] :: .box b4 26 [.int .i64 0] :: .box b3 3 [.int .i64 0] :: .box b2 29 [.sl 2 []]::H,63⟩:St)) (fun (q:Option Addr×Nat×Nat)=>q.2.1=(T.take (p.1+1)).length) ?_ ?_
  .
   refine aC.seq ?_;refine aC.region ?_;refine AOL.p (Ab (v:=.str _) rfl) rfl ?_;refine AOL.p (Eg (by kernel_rfl) rfl rfl (s_split x)) rfl ?_;refine AOL.nil (Aa ?_);refine aC.block ?_;refine aC.range (fun H2=>(T.take p.1=T.take (p.1+1)/\H2=(.box b9 4 [.bool true] :: .buf (.slice p.2.1 p.2.2.1 p.2.2.2.1) ((T.take (p.1+1)).map Fx) 65 2 :: .box b6 3 [.int .i64 p.2.2.2.2] :: .box b5 29 [.val (.slice p.2.1 p.2.2.1 p.2.2.2.1)] :: .box b4 26 [.int .i64 0] :: .box b3 3 [.int .i64 0] :: .box b2 29 [.sl 2 []]::H:List HO))\/(T[p.1]? = some S/\∃b cp fv J,H2=(.row fv (S.fields.map Tf).length 82 2 :: .box b 65 (Qi Fx (T.take p.1)++([AV.str S.name,AV.row fv 2 (S.fields.map Tf)]++J)) :: .box b9 4 [.bool false] :: .box b6 3 [.int .i64 p.2.2.2.2] :: .box b5 29 [.val (.slice (some ⟨b,0,none⟩) (p.2.2.1+1) cp)] :: .box b4 26 [.int .i64 0] :: .box b3 3 [.int .i64 0] :: .box b2 29 [.sl 2 []]::H:List HO)/\(p.2.2.1+1)*2+J.length=cp*2/\p.2.2.1+1<=cp/\cp<=maxLen)) (fun _ _=>False) rfl (by kernel_rfl) (fun rec l g1 w1 hst hpe hps has hbo hsz htm=>?_) (fun H2 hZ=>?_) (fun _ _ h=>h.elim)
   .
    refine Bt.post (s_split1 x (by omega) (fun n H3=>(n=0/\H3=(.obj l (.loop rec) :: .since g1 w1 :: .box b9 4 [.bool true] :: .buf (.slice p.2.1 p.2.2.1 p.2.2.2.1) ((T.take p.1).map Fx) 65 2 :: .box b6 3 [.int .i64 p.2.2.2.2] :: .box b5 29 [.val (.slice p.2.1 p.2.2.1 p.2.2.2.1)] :: .box b4 26 [.int .i64 0] :: .box b3 3 [.int .i64 0] :: .box b2 29 [.sl 2 []]::H:List HO))\/(∃j,n=j+1/\∃b cp fv J,H3=(.row fv ((S.fields.take j).map Tf).length 82 2 :: .box b 65 (Qi Fx (T.take p.1)++([AV.str S.name,AV.row fv 2 ((S.fields.take j).map Tf)]++J)) :: .obj l (.loop rec) :: .since g1 w1 :: .box b9 4 [.bool false] :: .box b6 3 [.int .i64 p.2.2.2.2] :: .box b5 29 [.val (.slice (some ⟨b,0,none⟩) (p.2.2.1+1) cp)] :: .box b4 26 [.int .i64 0] :: .box b3 3 [.int .i64 0] :: .box b2 29 [.sl 2 []]::H:List HO)/\(p.2.2.1+1)*2+J.length=cp*2/\p.2.2.1+1<=cp/\cp<=maxLen)) l rec (by rw [hps];rfl) ?_ ?_ _ (.inl ⟨rfl,rfl⟩)) ?_
    .
     rintro n H3 (⟨_,rfl⟩ | ⟨j,_,b,cp,fv,J,rfl,_⟩)
     . exact ⟨0,rfl⟩
     exact ⟨2,rfl⟩
    .
     intro n H3 a w hI hw;have hal:=wds_off hw;obtain ⟨hSk,hxS⟩:=line_w hSx hw;rw [hxS] at hw;have hSm:=hok S (Aj hSk);have hklt:p.1<T.length:=(List.getElem?_eq_some_iff.1 hSk).1;have htkl:(T.take p.1).length=p.1:=by rw [Df];omega
     have hfl8:=U4 hSm;rcases hI with ⟨rfl,rfl⟩ | ⟨j,rfl,b,cp,fv,J,rfl,hf1,hf2,hf3⟩
     .
      refine Nm.ofS hst hpe hsz (tmps2 hps hsz rfl rfl rfl ⟨1,rfl⟩ htm) ?_;rw [has,hbo];obtain rfl:=wds_name hSm hw;have hbg:=bg_ok h hSk;have hnl:=(Jx (Jg hSm).1).2.1;refine fT.seq ?_;refine fT.region (by kernel_rfl) ?_;refine AOL.p (Ad (v:=.int .i64 _) rfl) rfl (AOL.nil (Aa ?_));refine fT.region (by kernel_rfl) ?_;refine AOL.p (Ad (v:=.str _) rfl) rfl (AOL.nil ?_);refine ⟨rfl,0,rfl,?_⟩;refine fT.block ?_;refine fT.seq ?_;refine fT.seq ?_;refine fT.region (by kernel_rfl) ?_;refine AOL.Aaz (B8 (k:=2) (c:=.bool _) tok rfl rfl rfl rfl) rfl rfl (AOL.nil (Aa ?_));refine fT.cond (b:=_) rfl (fun hc3=>?_) (fun hc3=>?_)
      .
       refine fT.seq ?_;refine fT.region (by kernel_rfl) ?_;refine AOL.Aaz (B8 (k:=5) (c:=.val _) tok rfl rfl rfl rfl) rfl rfl (AOL.p (Ab (v:=.str _) rfl) rfl ?_);refine AOL.e (L6 (by kernel_rfl) rfl rfl (Bt.front1 (R:=_::_::_::_::_::_::_::_::_) 3 rfl rfl (s_beginN (T.take p.1) (by omega) S.name (by omega) hbg p.2.1 p.2.2.1 p.2.2.2.1 hR.2.2.2 _))) rfl ?_;rintro _ _ ⟨a33,c33,rfl,rfl⟩;refine AOL.p (Ab (v:=.tuple _) rfl) rfl (AOL.p (A6 (v:=.val _) rfl rfl) rfl (AOL.p (A6 (v:=.int .i64 _) rfl rfl) rfl (AOL.p (Ad (v:=.val _) rfl) rfl (AOL.p (Ad (v:=.int .i64 _) rfl) rfl (AOL.nil (Aa ?_))))));refine fT.seq ?_;refine fT.seq ?_;refine fT.bufBox 0 rfl (by simp) (fun b cp J hv hb1 hb2 hb3 hb4=>?_)
       injection hv with e1 e2 e3
       subst e1;subst e3;refine fT.ghost (GS.Aay (H2:=_::_::_::_::_::_::_::_::_::_) 0 rfl (rH (T.take p.1) _ _ J) rfl) ?_;refine fT.ghost (GS.cellRow (H2:=_::_::_::_::_::_::_::_::_::_) 0 ((T.take p.1).length*2+1) 82 2 rfl (Zh _ _ _ _) (Zi _ _ _ _ _) rfl) ?_
       skip
       refine fT.region (by kernel_rfl) ?_;refine AOL.p (Ab (v:=.int .i64 _) rfl) rfl (AOL.p (Nq rfl rfl) rfl (AOL.nil (Aa ?_)));refine fT.cond (b:=_) rfl (fun hc4=>?_) (fun hc4=>?_)
       . exact absurd hc4 (by decide)
       refine fT.skip ?_;refine Aa ?_;refine fT.seq ?_;refine fT.region (by kernel_rfl) ?_;refine AOL.p (Ab (v:=.val _) rfl) rfl (AOL.e (Dj (k:=6) (v:=.val _) (cs':=[_]) (H2:=_::_::_::_::_::_::_::_::_::_::_) tok rfl rfl rfl rfl (rfl) rfl rfl rfl rfl) rfl ?_);rintro _ _ ⟨rfl,rfl⟩;refine AOL.e (Dj (k:=4) (v:=.bool _) (cs':=[.bool _]) (H2:=_::_::_::_::_::_::_::_::_::_::_) tok rfl rfl rfl rfl (rfl) rfl rfl rfl rfl) rfl ?_;rintro _ _ ⟨rfl,rfl⟩;refine AOL.nil (Aa ?_);refine fT.exit ?_;refine Br (Gp ?_);exact ⟨2,rfl,Or.inl ⟨rfl,rfl,.inr ⟨0,rfl,b,c33,_,J,rfl,by simp at hb4 ⊢;omega,by simp at hb1;omega,hb2⟩⟩⟩
      cases hc3
     refine Nm.ofS hst hpe hsz (tmps2 hps hsz rfl rfl rfl ⟨3,rfl⟩ htm) ?_;rw [has,hbo];refine (wds_fld hSm hw).elim fun f hf=>?_
     obtain ⟨hfj,rfl⟩:=hf;have hst2:=fld_step hSm hfj;have hjl:j<S.fields.length:=(List.getElem?_eq_some_iff.1 hfj).1;have hwl:=wfl (Jg hSm) hfj;refine fT.seq ?_;refine fT.region (by kernel_rfl) ?_;refine AOL.p (Ad (v:=.int .i64 _) rfl) rfl (AOL.nil (Aa ?_));refine fT.region (by kernel_rfl) ?_;refine AOL.p (Ad (v:=.str _) rfl) rfl (AOL.nil ?_);refine ⟨rfl,2,rfl,?_⟩;refine fT.block ?_;refine fT.seq ?_;refine fT.seq ?_;refine fT.region (by kernel_rfl) ?_;refine AOL.Aaz (B8 (k:=4) (c:=.bool _) tok rfl rfl rfl rfl) rfl rfl (AOL.nil (Aa ?_));refine fT.cond (b:=_) rfl (fun hc5=>?_) (fun hc5=>?_)
     . cases hc5
     refine fT.skip ?_;refine Aa ?_;refine fT.seq ?_;refine fT.region (by kernel_rfl) ?_;refine AOL.Aaz (B8 (k:=6) (c:=.val _) tok rfl rfl rfl rfl) rfl rfl (AOL.Aaz (B8 (k:=6) (c:=.val _) tok rfl rfl rfl rfl) rfl rfl (AOL.p (Pv tok rfl rfl rfl) rfl ?_));refine AOL.p (zU rfl rfl rfl (by constructor <;> omega)) rfl ?_;refine AOL.p (Cp (o':=(T.take p.1).length*2) tok rfl rfl rfl rfl rfl (by omega) (by omega) (by show 0+(((p.2.2.1+1:Nat):Int)-1).toNat*2=_;rw [hR.2.2.2];omega)) rfl ?_;refine AOL.p (Ab (v:=.str _) rfl) rfl ?_;refine AOL.e (L6 (by kernel_rfl) rfl rfl (s_field ⟨S.name,S.fields.take j⟩ (by show (S.fields.take j).length<=8;rw [Df];omega) (Gl f) hwl hst2.1 b ((T.take p.1).length*2) _ fv (Zh _ _ _ _) _)) rfl ?_;rintro _ _ ⟨v49,rfl,rfl⟩;refine AOL.p (Ad (v:=.int .i64 _) rfl) rfl (AOL.nil (Aa ?_));refine fT.seq ?_;refine fT.region (by kernel_rfl) ?_;refine AOL.p (Ab (v:=.int .i64 _) rfl) rfl (AOL.p (Nq rfl rfl) rfl (AOL.nil (Aa ?_)));refine fT.cond (b:=_) rfl (fun hc6=>?_) (fun hc6=>?_)
     . exact absurd hc6 (by decide)
     refine fT.skip ?_;refine Ff ?_;refine ⟨2,rfl,Or.inl ⟨rfl,rfl,.inr ⟨j+1,rfl,b,cp,v49,J,?_,hf1,hf2,hf3⟩⟩⟩;exact (congrArg (fun L:List Fi=>(.row v49 (L.map Tf).length 82 2 :: .box b 65 ((Qi Fx (T.take p.1)++([AV.str S.name,AV.row fv 2 ((S.fields.take j).map Tf)]++J)).set ((T.take p.1).length*2+1) (AV.row v49 2 (L.map Tf))) :: .obj l (.loop rec) :: .since g1 w1 :: .box b9 4 [.bool false] :: .box b6 3 [.int .i64 p.2.2.2.2] :: .box b5 29 [.val (.slice (some ⟨b,0,none⟩) (p.2.2.1+1) cp)] :: .box b4 26 [.int .i64 0] :: .box b3 3 [.int .i64 0] :: .box b2 29 [.sl 2 []]::H:List HO)) (fld_more hfj hst2.2)).trans (congrArg (fun c:List AV=>(.row v49 ((S.fields.take (j+1)).map Tf).length 82 2 :: .box b 65 c :: .obj l (.loop rec) :: .since g1 w1 :: .box b9 4 [.bool false] :: .box b6 3 [.int .i64 p.2.2.2.2] :: .box b5 29 [.val (.slice (some ⟨b,0,none⟩) (p.2.2.1+1) cp)] :: .box b4 26 [.int .i64 0] :: .box b3 3 [.int .i64 0] :: .box b2 29 [.sl 2 []]::H:List HO)) (Zi _ _ _ _ _))
    rintro r K ⟨rfl,hI⟩;rcases hI with ⟨hI,rfl⟩ | ⟨j,hI,b,cp,fv,J,rfl,hf1,hf2,hf3⟩
    .
     have e9:=line_fin hSx hI hok;exact ⟨_,List.Perm.refl _,rec,_,rfl,by rw [hst];decide,Or.inl ⟨hpe,.inl ⟨e9,congrArg (fun L:List e8Sc=>(.box b9 4 [.bool true] :: .buf (.slice p.2.1 p.2.2.1 p.2.2.2.1) (L.map Fx) 65 2 :: .box b6 3 [.int .i64 p.2.2.2.2] :: .box b5 29 [.val (.slice p.2.1 p.2.2.1 p.2.2.2.1)] :: .box b4 26 [.int .i64 0] :: .box b3 3 [.int .i64 0] :: .box b2 29 [.sl 2 []]::H:List HO)) e9⟩⟩⟩
    obtain ⟨hSk,hfa⟩:=line_all hSx hI hok;rw [hfa];exact ⟨_,(List.perm_append_comm (l₁:=[_,_]) (l₂:=[_,_])).append_right _,rec,_,rfl,by rw [hst];decide,Or.inl ⟨hpe,.inr ⟨hSk,b,cp,fv,J,rfl,hf1,hf2,hf3⟩⟩⟩
   rcases hZ with ⟨e9,rfl⟩ | ⟨hSk,b,cp,fv,J,rfl,hf1,hf2,hf3⟩
   .
    refine Ff (Aa ?_);refine ⟨(p.2.1,p.2.2.1,p.2.2.2.1),?_,GS.trans (GS.refl _) (GS.weaken ⟨rfl,rfl,rfl,rfl,rfl,rfl,rfl,rfl,rfl,trivial⟩ (.cons _ (.refl _)))⟩;exact hR.2.2.2.trans (congrArg List.length e9)
   have hklt:p.1<T.length:=(List.getElem?_eq_some_iff.1 hSk).1;have htkl:(T.take p.1).length=p.1:=by rw [Df];omega
   have htk2:(T.take (p.1+1)).length=p.1+1:=by rw [Df];omega
   refine Ff (Aa ?_);refine ⟨(some ⟨b,0,none⟩,p.2.2.1+1,cp),?_,GS.trans (GS.trans (GS.cell (H2:=_::_::_::_::_::_::_::_::_) 1 ((T.take p.1).length*2+1) rfl (Zh _ _ _ _) (Zi _ _ _ _ _) rfl D1) (GS.boxBuf (H2:=_::_::_::_::_::_::_::_::_) (z:=2) (m:=p.2.2.1+1) (cap:=cp) (es:=(T.take (p.1+1)).map Fx) 1 rfl (xK hSk J) (by rw [By,htk2,hR.2.2.2,htkl]) (fun e he=>by obtain ⟨x,_,rfl⟩:=C9.1 he;rfl) hf1 hf2 hf3 rfl)) (GS.weaken ⟨rfl,rfl,rfl,rfl,rfl,rfl,rfl,rfl,rfl,trivial⟩ (.cons _ (.cons_cons _ (.cons _ (.refl _)))))⟩;show p.2.2.1+1=_;rw [htk2,hR.2.2.2,htkl]
  rintro q hq;refine aC.region ?_;refine AOL.Aaz (B8 (k:=1) (c:=.int .i64 _) tok rfl rfl rfl rfl) rfl rfl (AOL.p (Ab (v:=.str _) rfl) rfl (AOL.p (Cz tok rfl rfl rfl rfl) rfl ?_));refine AOL.p (Js rfl rfl rfl (by constructor <;> omega)) rfl ?_;refine AOL.p (Js rfl rfl rfl (by constructor <;> omega)) rfl ?_;refine AOL.e (Dj (k:=1) (v:=.int .i64 _) (cs':=[.int .i64 _]) (H2:=_::_::_::_::_::_::_) tok rfl rfl rfl rfl (rfl) rfl rfl rfl rfl) rfl ?_;rintro _ _ ⟨rfl,rfl⟩;refine AOL.nil (Ff (Aa ?_));refine aC.region ?_;refine AOL.p (Js rfl rfl rfl (by constructor <;> omega)) rfl ?_;refine AOL.p (Ab (v:=.int .i64 _) rfl) rfl (AOL.nil (Aa ?_));refine ⟨(p.1+1,q.1,q.2.1,q.2.2,p.2.2.2.2+(x.length+1)),?_,?_,GS.weaken ⟨rfl,rfl,rfl,rfl,rfl,rfl,rfl,rfl,trivial⟩ (.refl _)⟩
  . exact ⟨hlt,by simp only;omega,by simp only;omega,hq⟩
  simp only;omega
 have hend:T.take p.1=T:=Sv (by have:=Er hc2;omega);refine aC.exit ?_;refine Br (Br (Gp (Aa ?_)));refine aC.seq ?_;refine aC.region ?_;refine AOL.Aaz (B8 (k:=2) (c:=.val _) tok rfl rfl rfl rfl) rfl rfl ?_;refine AOL.ghost (GS.freezeBuf (t:=62) 0 rfl rfl) ?_;refine AOL.e (Dj (k:=4) (v:=.sl _ _) (cs':=[_]) (H2:=_::_::_::_::_::_) tok rfl rfl rfl rfl (rfl) rfl rfl rfl rfl) rfl ?_;rintro _ _ ⟨rfl,rfl⟩;refine AOL.e (Dj (k:=3) (v:=.int .i64 _) (cs':=[.int .i64 _]) (H2:=_::_::_::_::_::_) tok rfl rfl rfl rfl (rfl) rfl rfl rfl rfl) rfl ?_;rintro _ _ ⟨rfl,rfl⟩;refine AOL.e (Dj (k:=2) (v:=.int .i64 _) (cs':=[.int .i64 _]) (H2:=_::_::_::_::_::_) tok rfl rfl rfl rfl (rfl) rfl rfl rfl rfl) rfl ?_;rintro _ _ ⟨rfl,rfl⟩;refine AOL.nil (Aa ?_);refine aC.ret ?_;refine ⟨.inr rfl,[_,.int .i64 _,.int .i64 _],.cons (.boxs _ _ _ 4 _ _ _ rfl _ rfl rfl rfl) <| .cons (.boxs _ _ _ 3 _ _ _ rfl _ rfl rfl rfl) <| .cons (.boxs _ _ _ 2 _ _ _ rfl _ rfl rfl rfl) <| .nil,_,.cons _ (.cons _ (.cons _ (.cons _ (.cons _ (.refl _))))),?_⟩;exact ⟨congrArg (fun L:List e8Sc=>AV.tuple [.sl 2 (L.map Fx),.int .i64 0,.int .i64 0]) hend,rfl⟩
def src0:Ag:=[116,121,112,101,32,65,123,115,58,115,116,114,105,110,103,125,113,117,101,114,121,32,113,32,98,121,32,115,32,109,97,116,99,104,32,115,101,113,40,65,32,97,44,112,108,117,115,40,65,32,98,32,105,102,40,98,46,115,61,61,97,46,115,41,41,41,114,101,116,117,114,110,32,99,111,117,110,116,40,98,41,59]
def out0:Ag:=[116,121,112,101,32,65,32,123,32,115,58,32,115,116,114,105,110,103,32,125,10,113,117,101,114,121,32,113,32,98,121,32,115,10,109,97,116,99,104,32,115,101,113,40,65,32,97,44,32,112,108,117,115,40,65,32,98,32,105,102,32,98,46,115,32,61,61,32,97,46,115,41,41,10,114,101,116,117,114,110,32,99,111,117,110,116,40,98,41,59,10]
def tq0:Syn:=(Bv (Ch EE TT) src0).1
def pq0:Pg:=(D8 tq0).1
theorem e_parse:(Bv (Ch EE TT) src0).2=(0,0):=by kernel_rfl
theorem e_med:U7 tq0:=B9 (by kernel_rfl)
theorem e_prg:(D8 tq0).2=(0,0):=by kernel_rfl
theorem e_is:D8 tq0=(pq0,0,0):=Prod.ext rfl e_prg
theorem e_qs:∃q,pq0.queries = [q]/\q.key.length=1:=⟨_,rfl,rfl⟩
theorem prg_zero {t:Syn}(h:((D8 t).2.2 != 0)=false):D8 t=((D8 t).1,0,0):=by
 have key:∀{c:Bool} {a:Pg} {x y:Int} {r:Pg×Int×Int},(c=true->(y != 0)=true)->(((if c then (a,x,y) else r).2.2 != 0)=false)->(if c then (a,x,y) else r)=r:=fun {c a x y r} h1 h2=>by
  cases c with
  | false=>rfl
  | true=>rw [if_pos rfl] at h2;rw [h1 rfl] at h2;cases h2
 unfold D8 at h ⊢;have h1:=key (fun _=>by decide) h;rw [h1] at h ⊢;have h2:=key (fun h=>h) h;rw [h2] at h ⊢;unfold qM at h ⊢;have h3:=key (fun h=>h) h;rw [h3]
theorem xQ {t:Syn}(hm:J9 t)(h:((D8 t).2.2 != 0)=false):(Dr (D8 t).1.types != 0)=false/\t.kids.length=(D8 t).1.types.length+(D8 t).1.queries.length/\(D8 t).1.queries.length<=16/\
    ∀(i:Nat) (q:Qy),(D8 t).1.queries[i]? = some q->∃b,t.kids[(D8 t).1.types.length+i]? = some b/\QryOK b/\QGood (D8 t).1.types b q:=by
  have hp:=prg_zero h;generalize (D8 t).1=p at hp
  have hw:((Ca t (.only 0)).2 != 0)=false:=by
    cases hq:(Ca t (.only 0)).2 != 0 with
    | false=>rfl
    | true=>rw [pp_1 hq] at hp;cases hp
  have hc:=fO hw;obtain ⟨o1,o2,o3,o4⟩:=K1 (Ka hc).1;have hk:t.kind=0:=Jf o1
  have h1:((Gw t).2.err != 0)=false:=by
    cases hq:(Gw t).2.err != 0 with
    | false=>rfl
    | true=>
      rw [pp_2 hw hq] at hp;have:=congrArg (fun q:Pg×Int×Int=>q.2.2) hp;simp only at this;rw [this] at hq;cases hq
  rw [pp_n hw h1] at hp;unfold qM at hp
  have h2:((E0 (Gw t).1 [] t.kids).2.err != 0)=false:=by
    cases hq:(E0 (Gw t).1 [] t.kids).2.err != 0 with
    | false=>rfl
    | true=>
      rw [hq,if_pos rfl] at hp;have:=congrArg (fun q:Pg×Int×Int=>q.2.2) hp;simp only at this;rw [this] at hq;cases hq
  rw [h2,if_neg (by decide)] at hp;have hpe:p=⟨(Gw t).1,(E0 (Gw t).1 [] t.kids).1⟩:=(congrArg (·.1) hp).symm;obtain ⟨A,B,hAB,hA,hB⟩:=sG hc hk;have tA:=wE (B:=B) (fun b hb=>by have:=(hB b hb).1;omega) A [] (fun a ha=>(hA a ha).1) (by rw [<-hAB];simpa [Gw] using h1) (A7 _) Of;rw [<-hAB] at tA
  have eT:(Gw t).1=A.map tyA:=by
    show (Gt [] t.kids).1=_;rw [tA.1,Du]
  have pB:=oR (T:=(Gw t).1) B [] (fun b hb=>(hB b hb).1) (by
    rw [hAB,Wi _ _ _ fun a ha=>by have:=(hA a ha).1;omega] at h2;simpa using h2) (A7 _) Of
  have eQ:(E0 (Gw t).1 [] t.kids).1=B.map fun b=>(Ef (Gw t).1 b).1:=by
    rw [hAB,Wi _ _ _ fun a ha=>by have:=(hA a ha).1;omega];rw [pB.1,Du]
  have pT:p.types=(Gw t).1:=by rw [hpe]
  have pQ:p.queries=B.map fun b=>(Ef (Gw t).1 b).1:=by rw [hpe];exact eQ
  have hTl:p.types.length=A.length:=by rw [pT,eT,By]
  have hQl:p.queries.length=B.length:=by rw [pQ,By]
  refine ⟨?_,by rw [hTl,hQl,hAB,Ao],by rw [hQl];simpa using pB.2.1,fun i q hq=>?_⟩
  . have e:Dr p.types=0:=by
      rw [pT,eT];unfold Dr;rw [if_neg (by have:=tA.2.1;simp at this ⊢;omega)]
      refine wF _ _ (by
        have h9:(A.map (·.text)).Nodup:=by simpa using tA.2.2.1
        show (([]:List Ag)++(A.map tyA).map (fun s:e8Sc=>s.name)).Nodup;rw [Du,List.map_map];exact h9) fun s hs=>?_
      obtain ⟨a,ha,rfl⟩:=C9.1 hs;obtain ⟨q1,q2⟩:=tA.2.2.2 a ha;obtain ⟨c1,c2,c3,c4⟩:=K1 (Ka (hA a ha).2).1;have k1:=(hA a ha).1;unfold Gi;rw [show D3 (tyA a).name=true from (nm_sch (vI c3 (by rw [k1];rfl) (by omega))).1,if_neg (by decide),if_neg (by simp [tyA];omega)];refine uS _ _ (by rw [Du];show ((a.kids.map fiA).map (·.name)).Nodup;rw [List.map_map];exact q2) fun f hf=>?_
      obtain ⟨x,hx,rfl⟩:=C9.1 hf;obtain ⟨x1,x2,x3,x4,x5⟩:=kid_ty (hA a ha).2 hx;exact ⟨x2,x5⟩
    rw [e];rfl
  . rw [pQ,List.getElem?_map] at hq
    cases hb:B[i]? with
    | none=>rw [hb] at hq;cases hq
    | some b=>
      rw [hb] at hq;obtain rfl:=(Option.some.inj hq).symm;have hbm:=Aj hb;have hbk:b∈t.kids:=by rw [hAB];exact Z9 _ hbm
      refine ⟨b,?_,⟨med_q hm b hbk (hB b hbm).1,(hB b hbm).2⟩,?_⟩
      . rw [hAB,hTl,List.getElem?_append_right (by omega)]
        rw [show A.length+i-A.length=i by omega];exact hb
      rw [pT];exact q_good (pB.2.2.2 b hbm)
theorem dN {T:List e8Sc}{t:Syn}{q:Qy}(hT:(Dr T != 0)=false)(ht:QryOK t)(hg:QGood T t q) :
  (((B5 t 0).text == [])=((q.key.length:Int)==0))/\((q.key.length:Int)=0\/q.key.length=T.length)/\(∀v∈q.vars,0<=v.type/\v.type<(T.length:Int))/\
  ∀(k:Nat) (f:Int),q.key[k]? = some f->((∃v∈q.vars,v.type=(k:Int))->f=Ey ((T[k]?).getD Zs) (B5 t 0).text/\0<=f)/\((∀v∈q.vars,v.type≠(k:Int))->f = -1):=by
 have hrv:RvOK T (K4 T t):=rA (qN hT) _;have hvars:q.vars=K4 T t:=by rw [hg.is];rfl
 have hkey:q.key=(nK T t (K4 T t)).1:=by rw [hg.is];rfl
 have hpos:0<T.length:=uM (uO _ ht.pat) hg.v;by_cases hx:(B5 t 0).text = []
 .
  have e:nK T t (K4 T t)=([],true):=ky_no (by rw [hx];rfl);rw [hkey,e,hx];exact ⟨rfl,.inl rfl,by rw [hvars];exact hrv.ty,fun k f h=>by simp at h⟩
 have e:nK T t (K4 T t)=O0 T (K4 T t) (B5 t 0).text:=kK (by simpa using hx);have hk2:=hg.k;rw [e] at hk2;have hk3:(O0 T (K4 T t) (B5 t 0).text).2=true:=by simpa using hk2
 obtain ⟨l1,l2⟩:=key_ok hrv hk3;rw [hkey,e,l1];refine ⟨?_,.inr rfl,by rw [hvars];exact hrv.ty,fun k f hf=>⟨?_,?_⟩⟩
 .
  rw [show ((B5 t 0).text == [])=false by simpa using hx]
  symm
  rw [Fs];omega
 .
  rintro ⟨v,hv,hvk⟩;rw [hvars] at hv;obtain ⟨a1,a2⟩:=l2 v hv;have ek:v.type.toNat=k:=by rw [hvk];rfl
  rw [ek] at a1 a2;rw [hf] at a1;have:=Option.some.inj a1;rw [this];exact ⟨rfl,a2⟩
 intro hv
 have h5:=uZ (T:=T) (n:=(B5 t 0).text) (k:=k) (K4 T t) (List.replicate T.length (-1)) hk3 fun v hm h6=>by
  rw [<-hvars] at hm;have h7:=hv v hm
  have h8:0<=v.type:=by
   rw [hvars] at hm;exact (hrv.ty v hm).1
  omega
 have h9:(O0 T (K4 T t) (B5 t 0).text).1[k]? = (List.replicate T.length (-1:Int))[k]? :=h5;rw [hf] at h9;have h10:=Aj h9.symm;exact (List.mem_replicate.1 h10).2
def wY (l:List Bool):List AV:=l.map AV.bool
theorem bBo_len (l:List Bool):(wY l).length=l.length:=By ..
theorem tY:∀{l:List Bool} {k:Nat} {v:Bool},k<l.length->Gb (wY l) k [AV.bool v]=wY (l.set k v)
  | [],k,v,h=>absurd h (by simp)
  | a::r,0,v,h=>by simp [Gb,wY]
  | a::r,k+1,v,h=>by
    have ih:=tY (l:=r) (k:=k) (v:=v) (by simpa using h);unfold Gb wY at ih ⊢;simpa [List.drop_succ_cons,Nat.add_right_comm] using ih
theorem Aad {l:List Bool}{k:Nat}(h:k<l.length):Nat.ble (k+1) (wY l).length=true:=Nat.ble_eq_true_of_le (by rw [bBo_len];omega)
theorem Aae (n:Nat):(List.replicate n [AV.bool false]).flatten=wY (List.replicate n false):=by
 induction n with
 | zero=>rfl
 | succ n ih=>rw [aA,Bd,ih,aA];rfl
theorem Aac {l:List Bool}{k:Nat}{b:Bool}(h:l[k]? = some b):(wY l)[k]? = some (.bool b):=by unfold wY;rw [List.getElem?_map,h];rfl
def fD (n:Nat)(l:List Va):List Bool:=(List.range n).map fun (k:Nat)=>l.any fun v=>v.type==(k:Int)
theorem Yd (n:Nat)(l:List Va):(fD n l).length=n:=by unfold fD;simp
theorem useG_nil (n:Nat):fD n []=List.replicate n false:=by
 unfold fD;simp only [List.any_nil];rw [List.map_const',List.length_range]
theorem lG {n k:Nat}{l:List Va}(h:k<n):(fD n l)[k]? = some (l.any fun v=>v.type==(k:Int)):=by unfold fD;simp [h]
theorem useG_app {n:Nat}{l:List Va}{v:Va}(h0:0<=v.type)(h:v.type<(n:Int)):fD n (l ++ [v])=(fD n l).set v.type.toNat true:=by
 apply Uc
 intro k;by_cases hk:k<n
 .
  rw [lG hk];by_cases e:v.type.toNat=k
  .
   subst e;rw [List.getElem?_set_self (by rw [Yd];omega)];have:(v.type==((v.type.toNat:Nat):Int))=true:=by rw [beq_iff_eq];omega
   rw [List.any_append,L0,this];simp
  rw [List.getElem?_set_ne e,lG hk];have:(v.type==(k:Int))=false:=by rw [Fs];omega
  rw [List.any_append,L0,this];simp
 rw [List.getElem?_eq_none (by rw [Yd];omega),List.getElem?_eq_none (by rw [Sr,Yd];omega)]
theorem n5_eq {n a b:Nat}(h:n=a+b):((((0:Int) != 0||(0:Int) != 0) || !true)||((n:Int) != (a:Int)+(b:Int)))=false:=by subst h;simp
theorem key_ok1 {T:List e8Sc}{b:Syn}{q:Qy}(hT:(Dr T != 0)=false)(hb:QryOK b)(hg:QGood T b q){k:Nat}{f:Int}(hf:q.key[k]? = some f){s:e8Sc}(hs:T[k]? = some s) :
    (((q.vars.any fun v=>v.type==(k:Int))&&(((Rh s (B5 b 0).text).2 != 0)||(f != (Rh s (B5 b 0).text).1)))||(!(q.vars.any fun v=>v.type==(k:Int))&&(f != -1)))=false:=by
  obtain ⟨_,_,_,h4⟩:=dN hT hb hg;obtain ⟨h5,h6⟩:=h4 k f hf;rw [hs] at h5;cases hu:q.vars.any fun v=>v.type==(k:Int) with
  | true=>
    obtain ⟨v,hv,hvk⟩:=List.any_eq_true.1 hu;obtain ⟨h7,h8⟩:=h5 ⟨v,hv,by simpa using hvk⟩;have hz:Gi s=0:=(Rm hT).2.2 s (Aj hs)
    have e:Rh s (B5 b 0).text=(f,0):=by
      have h7':f=Ey s (B5 b 0).text:=h7;unfold Rh;rw [hz,if_neg (by decide),if_pos (by rw [<-h7'];exact Gc h8),<-h7']
    rw [e];simp
  | false=>
    have:=h6 fun v hv e=>by
      have:=List.any_eq_false.1 hu v hv;rw [e] at this;simp at this
    rw [this];rfl
theorem tree_ok1 {T:List e8Sc}{b:Syn}{q:Qy}(hT:(Dr T != 0)=false)(hb:QryOK b)(hg:QGood T b q) :
  ((decide ((b.kids.length:Int)<2)||(((B5 b 0).text == []) != ((q.key.length:Int)==0)))||(((q.key.length:Int) != 0)&&((q.key.length:Int) != (T.length:Int))))=false:=by
 obtain ⟨h1,h2,_,_⟩:=dN hT hb hg;have h3:=hb.len;rw [h1,I5 (by omega)];rcases h2 with h2 | h2
 . rw [h2];simp
 rw [h2];simp
theorem rz_src1 (f:Fi)(hf:f.name.length<=1048576):Ap Tryz.prog 24 [.agg (Tf f)] (.bool (F7 f.name != 0)):=by
 refine Fl 7 Tryz.func24 rfl fun H=>?_
 refine Af (Qp (Ik Iy) (Qp Bh (B7 (Qp (Qf Iy) (Qp F4 (Qp (Qc rfl (c20 f.name hf)) (Qp C3 (Qp Bh (Rb (Qr (.bool _) ?_))))))))));rfl
theorem kY (l:List Fi)(hl:l.length<=1048576)(K:FuncId)(hK:Tn Tryz.prog K=true)(cs:List AV)(p:Fi->Bool)(hf:∀a∈l,Ap Tryz.prog K (.agg (Tf a)::cs) (.bool (p a))):Ap Tryz.prog 23 [.sl 2 (l.map Tf),.fn (.func K) [] cs] (.bool (l.any p)):=by
 refine Fl 9 Tryz.func23 rfl fun H=>?_
 refine Af (Qp Bh (B7 (Qp Mm (Qp (Ab (v:=.fn _ _ _) rfl) (Qp (Qc rfl (pA l hl K hK cs p hf)) (Qp Jt (Qp Bh (Rb (Qr (.bool _) ?_)))))))));exact Eq.trans rfl (congrArg (fun q:Bool=>AV.bool q) (dG p l).2)
end Go.Proofs.YtibcelnfkhdjaaaGreatDoor
