/-
  Several texts in one: W7, W8, W9. No condition.
-/
import Derived.Test.YtckhoadldibflaaGreatDoorK01
import Derived.Test.YtckhoadldibflaaGreatDoorK06
import Derived.KernelRfl
set_option linter.unusedVariables false
set_option linter.unusedSimpArgs false
namespace Go.Proofs.YtckhoadldibflaaGreatDoor
open Go Go.Aw
set_option maxHeartbeats 800000
set_option maxRecDepth 20000

theorem jE (t:Aq):0≤N9 t∧(0<t.length→N9 t≤t.length):=by
 unfold N9
 have:=Kz fR t
 split
 · omega
 · split <;> omega
theorem eU (t:Aq):∀l:List Aq,(∀x∈l,0<x.length)→(E4 t l).err=4∧(E4 t l).pos=0∧(E4 t l).bytes=0∨(E4 t l).err=0∧(E4 t l).pos=0∧0<(E4 t l).bytes∧(E4 t l).bytes≤t.length
  | [],_=>.inl ⟨rfl,rfl,rfl⟩
  | x::r,h=>by
    unfold E4
    split
    · rename_i hp
      right
      have hpre:x.isPrefixOf t=true:=hp
      have:=(List.isPrefixOf_iff_prefix.1 hpre).length_le
      have h2:=h x (by simp)
      exact ⟨rfl,rfl,by show (0:Int)<(x.length:Int);omega,by show (x.length:Int)≤_;omega⟩
    · exact eU t r fun y hy=>h y (by simp [hy])
theorem Te (s:Aq):∀(n i:Nat) (b:Aq),i≤s.length→0≤(Gw s n i b).pos∧(Gw s n i b).pos≤s.length∧0≤(Gw s n i b).bytes∧(Gw s n i b).bytes≤s.length
  | 0,i,b,_=>by simp [Gw,Lv]
  | n+1,i,b,hi=>by
    unfold Gw
    split
    · rename_i h;simp at h
      split
      · split
        · simp [Lv]
        · simp [fA];omega
      · split
        · split
          · simp [Lv];omega
          · rename_i h3
            have he:=cY (s.drop i)
            rw [List.length_drop] at he
            exact Te s n _ _ (by omega)
        · split
          · simp [Lv];omega
          · exact Te s n _ _ (by omega)
    · simp [Lv]
theorem fJ (t:Aq)(h0:0<t.length):0≤(Cw t).pos∧(Cw t).pos≤t.length∧0≤(Cw t).bytes∧(Cw t).bytes≤t.length∧((Cw t).err=0→0<(Cw t).bytes):=by
 have hit:∀f:Fo,Lx f=true→(f.err=0→0<f.bytes):=fun f h e=>by
  unfold Lx at h
  rw [e] at h
  simpa using h
 unfold Cw
 split
 ·
  rename_i h
  have:=Kz Hg t
  refine ⟨?_,?_,?_,?_,hit _ h⟩ <;> (unfold J4;split <;> (try split) <;> simp [tA,Lv,fA,Jx] <;> omega)
 ·
  split
  ·
   rename_i h
   have:=Kz C1 t
   refine ⟨?_,?_,?_,?_,hit _ h⟩ <;> (unfold Fh;split <;> (try split) <;> (try split) <;> simp [tA,Lv,fA,Jx] <;> omega)
  ·
   split
   ·
    rename_i h
    have hl:0≤(Ix t).pos∧(Ix t).pos≤t.length∧0≤(Ix t).bytes∧(Ix t).bytes≤t.length:=by
     unfold Ix
     split
     · simp [tA]
     · exact Te t _ _ _ (by omega)
    exact ⟨hl.1,hl.2.1,hl.2.2.1,hl.2.2.2,hit _ h⟩
   ·
    rcases eU t Zp (by decide) with h | h
    · unfold Ru;rw [h.1,h.2.1,h.2.2];simp
    · unfold Ru;rw [h.1,h.2.1];omega
theorem Nb {s:Aq}{n i:Nat}{out:List Tok}(h:0<n):He s n i out =
  if decide ((i:Int)<(s.length:Int)) then
   if decide (0<N9 (s.drop i)) then He s (n-1) (i+(N9 (s.drop i)).toNat) out
   else if ((Cw (s.drop i)).err != 0) then (([],(i:Int)+(Cw (s.drop i)).pos,(Cw (s.drop i)).err):List Tok×Int×Int)
   else He s (n-1) (i+(Cw (s.drop i)).bytes.toNat) (out ++ [⟨(Cw (s.drop i)).tok.kind,(Cw (s.drop i)).tok.text,i⟩])
  else (out,0,0):=by
 cases n with
 | zero=>omega
 | succ n=>rfl
theorem kN {es:List (List AV)}{out:List Tok}(h:es=out.map Ym)(t:Tok):es ++ [[AV.int .i64 t.kind,.str t.text,.int .i64 t.pos]]=(out ++ [t]).map Ym:=by rw [h,List.map_append];rfl
theorem yY (l:List Tok):∀x∈l.map Ym,Ba x=true:=dK fun _=>rfl
def wQ (p:List Tok×Int×Int):AV:=.tuple [.sl 3 (p.1.map Ym),.int .i64 p.2.1,.int .i64 p.2.2]

theorem c13 (s:Aq)(hl:s.length≤1048576):Ap Tryz.prog 154 [.str s] (wQ (F3 s)):=by
 refine Ap.body (n:=51) tok Tryz.func154 rfl rfl rfl fun H=>?_
 refine Ad ?_
 refine Qp (Bk (z:=3) rfl) ?_
 refine Qp A0 (Qp A0 (Aa (AW.seq (Ad (Qp Dh ?_)))))
 refine Qp (Bx tok rfl rfl rfl rfl) ?_
 refine Qp D2 (Aa (Au (fun hc1=>?_) fun hc1=>?_))
 ·
  refine Ad ?_
  refine Qp (Bk (z:=3) rfl) ?_
  refine Qp A0 (Qp A0 (Aa (Cx ?_)))
  refine ⟨.inr rfl,[.sl _ _,Iq _,Iq _],.cons (.tmp _ _ rfl) <| .cons (.tmp _ _ rfl) <| .cons (.tmp _ _ rfl) <| .nil,.refl _,?_⟩
  have h9:F3 s=([],0,13):=by unfold F3;rw [if_pos hc1]
  rw [h9];rfl
 ·
  refine Bl (Ad (Qp N8 ?_))
  refine AOL.ghost (GS.row (t:=5) 254 3 rfl) ?_
  refine Aa (AW.seq (Ad (Qp A0 (Aa (AW.block ?_)))))
  refine AW.Aat (fun (p:Nat×Nat×List Tok×List (List AV)×Value)=>(⟨[(0,.str s),(5,.row p.2.2.2.2 3 p.2.2.2.1),(6,.int .i64 (p.2.1:Int))],.row p.2.2.2.2 p.2.2.2.1.length 254 3::H,51⟩:St)) (fun (p:Nat×Nat×List Tok×List (List AV)×Value)=>p.2.1≤s.length∧s.length<p.1+p.2.1∧p.2.2.2.1=p.2.2.1.map Ym∧p.2.2.1.length≤p.2.1∧He s (s.length+1) 0 []=He s p.1 p.2.1 p.2.2.1) (fun (p:Nat×Nat×List Tok×List (List AV)×Value)=>p.1) ((s.length+1,0,[],[],.slice none 0 0)) ?_ (GS.weaken ⟨rfl,rfl,rfl,trivial⟩ (.refl _)) ?_
  · exact ⟨Nat.zero_le _,by simp only;omega,rfl,Nat.zero_le _,rfl⟩
  ·
   rintro p hR
   have hle:p.2.1≤s.length:=hR.1
   have hfu:s.length<p.1+p.2.1:=hR.2.1
   have hes:p.2.2.2.1=p.2.2.1.map Ym:=hR.2.2.1
   have hbl:p.2.2.1.length≤p.2.1:=hR.2.2.2.1
   have hn:0<p.1:=by omega
   have hsc:∀c∈p.2.2.2.1,Ba c=true:=by rw [hes];exact yY _
   have hel:p.2.2.2.1.length≤s.length:=by rw [hes,List.length_map];omega
   refine AW.seq (Ad (Qp A4 (Qp Dh ?_)))
   refine Qp (Bx tok rfl rfl rfl rfl) ?_
   refine Qp B7 (Aa (Au (fun hc2=>?_) fun hc2=>?_))
   ·
    have hi:p.2.1<s.length:=by simp at hc2;omega
    have hsp:=jE (s.drop p.2.1)
    have hnx:=fJ (s.drop p.2.1) (by rw [List.length_drop];omega)
    rw [List.length_drop] at hsp hnx
    have hsp1:=hsp.1
    have hsp2:=hsp.2 (by omega)
    have hn1:=hnx.1
    have hn2:=hnx.2.1
    have hn3:=hnx.2.2.1
    have hn4:=hnx.2.2.2.1
    refine Bl (AW.block (AW.seq (Ad (Qp Dh (Qp A4 ?_)))))
    refine Qp (G5 (l:=p.2.1) (h:=s.length) tok rfl rfl rfl (⟨_,rfl⟩) (rfl) (hle) (Nat.le_refl _) (congrArg (List.drop _) List.take_length)) ?_
    refine Qp (Qc rfl (c32 (s.drop p.2.1) (by rw [List.length_drop];omega) (by rw [List.length_drop];omega))) ?_
    refine Qp A0 (By (Qp A4 (Qp D2 (Aa (Au (fun hc3=>?_) fun hc3=>?_)))))
    ·
     have hpos:0<(N9 (s.drop p.2.1)):=by simpa using hc3
     refine Ad (Qp A4 (Qp A4 (Qp Ei (Qp A0 (Aa ?_)))))
     refine AW.exit ?_
     refine A7 (Bp (Af ?_))
     refine ⟨(p.1-1,p.2.1+(N9 (s.drop p.2.1)).toNat,p.2.2.1,p.2.2.2.1,p.2.2.2.2),?_,?_,GS.weaken ⟨rfl,rfl,congrArg (AV.int .i64) (by simp only;omega),trivial⟩ (.refl _)⟩
     · exact ⟨by simp only;omega,by simp only;omega,hes,by simp only;omega,hR.2.2.2.2.trans (by rw [Nb hn,if_pos hc2,if_pos hc3])⟩
     · simp only;omega
    ·
     refine Bl (Ad (Qp Dh (Qp A4 ?_)))
     refine Qp (G5 (l:=p.2.1) (h:=s.length) tok rfl rfl rfl (⟨_,rfl⟩) (rfl) (hle) (Nat.le_refl _) (congrArg (List.drop _) List.take_length)) ?_
     refine Qp (Qc rfl (c33 (s.drop p.2.1) (by rw [List.length_drop];omega) (by rw [List.length_drop];omega))) ?_
     refine Qe (An (l:=[.int .i64 0,.str [],.int .i64 0,.int .i64 0,.int .i64 0,.int .i64 0]) (by kernel_rfl)) ?_
     rintro _ _ ⟨b8,rfl,rfl⟩
     refine B0 0 [Iq _,.str _,Iq _,Iq _,Iq _,Iq _] (_::_::_) ?_
     refine Aa (AW.seq (Ad (Qp Cb ?_)))
     refine AOL.Aaq (Aj (k:=0) (c:=Iq _) tok rfl rfl rfl rfl) rfl rfl ?_
     refine Qp B9 (Aa (Au (fun hc4=>?_) fun hc4=>?_))
     ·
      refine AW.seq ?_
      refine AW.draw mixed (fun H'=>_∈H') (List.mem_of_getElem? (i:=0) rfl) (by kernel_rfl) ?_
      refine Qn 0 rfl A4 (Qn 1 rfl Cb ?_)
      refine Qn 2 rfl (OpP.Aas (fun k=>Aj (k:=k) (c:=Iq _) tok rfl rfl rfl rfl) (fun _ h=>h)) ?_
      refine Qn 3 rfl Ei (Qn 4 rfl Cb ?_)
      refine Qn 5 rfl (OpP.Aas (fun k=>Aj (k:=k) (c:=Iq _) tok rfl rfl rfl rfl) (fun _ h=>h)) ?_
      refine Qn 6 rfl (Bk (z:=3) rfl) ?_
      refine Qn 7 rfl A0 (Qn 8 rfl A0 ?_)
      refine Hs.done _ _ (by kernel_rfl) ?_
      refine Af (Cx (Ao (Ai (Ao (Ai ?_)))))
      refine ⟨.inr rfl,[.sl _ _,Iq _,Iq _],.cons (.tmp _ _ rfl) <| .cons (.tmp _ _ rfl) <| .cons (.tmp _ _ rfl) <| .nil,.cons _ (.cons _ (.refl _)),?_⟩
      have h9:F3 s=([],(p.2.1:Int)+(Cw (s.drop p.2.1)).pos,(Cw (s.drop p.2.1)).err):=by
       unfold F3
       rw [iN hc1,hR.2.2.2.2,Nb hn,if_pos hc2,iN hc3,if_pos hc4]
      rw [h9];first | done | rfl
     ·
      have hpos:=hnx.2.2.2.2 (by simpa using hc4)
      refine Bl (Ad (Qp A4 (Qp Cb (Qp Cb ?_))))
      refine B0 0 [Iq _,.str _,Iq _,Iq _,Iq _,Iq _] (_::_::_) ?_
      refine By ?_
      refine Qp (A1 (v:=.row _ _ _) rfl) ?_
      refine Qp Cb ?_
      refine AOL.Aaq (A8 (k:=0) (l:=[Iq _,.str _,Iq _]) tok rfl rfl rfl rfl rfl) rfl rfl ?_
      refine Qp (Am (es:=[[Iq _,.str _,Iq _]]) tok rfl rfl rfl rfl rfl rfl rfl rfl rfl) ?_
      refine Qe (Ci (k:=1) tok rfl rfl rfl rfl rfl rfl rfl rfl (D7 rfl) (hsc) (by simp;omega) (by simp [maxLen];omega)) ?_
      rintro _ _ ⟨v45,rfl,rfl⟩
      refine Qp (A6 (v:=.row _ _ _) rfl) ?_
      refine Aa (AW.region (Qp A4 (Qp Cb ?_)))
      refine AOL.Aaq (Aj (k:=0) (c:=Iq _) tok rfl rfl rfl rfl) rfl rfl ?_
      refine Qp Ei (Qp A0 (AOL.nil (Bc (Af ?_))))
      refine ⟨(p.1-1,p.2.1+(Cw (s.drop p.2.1)).bytes.toNat,p.2.2.1 ++ [⟨(Cw (s.drop p.2.1)).tok.kind,(Cw (s.drop p.2.1)).tok.text,p.2.1⟩],p.2.2.2.1 ++ [[.int .i64 (Cw (s.drop p.2.1)).tok.kind,.str (Cw (s.drop p.2.1)).tok.text,.int .i64 (p.2.1:Int)]],v45),?_,?_,GS.weaken ⟨rfl,rfl,congrArg (AV.int .i64) (by simp only;omega),trivial⟩ (.cons _ (.refl _))⟩
      · exact ⟨by simp only;omega,by simp only;omega,kN hes ⟨(Cw (s.drop p.2.1)).tok.kind,(Cw (s.drop p.2.1)).tok.text,p.2.1⟩,by simp only [List.length_append,List.length_cons,List.length_nil];omega,hR.2.2.2.2.trans (by rw [Nb hn,if_pos hc2,iN hc3,iN hc4])⟩
      · simp only;omega
   ·
    refine AW.exit ?_
    refine A7 (A7 (Bp (Af (Ad ?_))))
    refine AOL.ghost (GS.unrow 5 rfl) ?_
    refine Qp K4 (Qp U8 (Qp A0 (Qp A0 (Aa (AW.ret ?_)))))
    refine ⟨.inr rfl,[.sl _ _,Iq _,Iq _],.cons (.tmp _ _ rfl) <| .cons (.tmp _ _ rfl) <| .cons (.tmp _ _ rfl) <| .nil,.cons _ (.refl _),?_⟩
    have h9:F3 s=(p.2.2.1,0,0):=by
     unfold F3
     rw [iN hc1,hR.2.2.2.2,Nb hn,iN hc2]
    rw [h9]
    simp only [Ae,wQ,hes]


def cTokR (r:Tok×Int×Int):AV:=.tuple [.agg (cTok r.1),.int .i64 r.2.1,.int .i64 r.2.2]



theorem zG {α:Type}{l:List α}{k:Nat}(h:k<l.length):∃x,l[k]? = some x:=⟨_,List.getElem?_eq_getElem h⟩
def sameS (a b:List Tok):Bool:=decide (a=b)


end Go.Proofs.YtckhoadldibflaaGreatDoor
