/-
  Several texts in one: W3, W4. No condition.
-/
import Derived.Test.YtckhoadldibflaaGreatDoorK01
import Derived.Test.YtckhoadldibflaaGreatDoorK04
import Derived.KernelRfl
set_option linter.unusedVariables false
set_option linter.unusedSimpArgs false
namespace Go.Proofs.YtckhoadldibflaaGreatDoor
open Go Go.Aw
set_option maxHeartbeats 400000
set_option maxRecDepth 20000

theorem S9 (x:Int):0≤IntKind.u8.wrap x∧IntKind.u8.wrap x≤255:=by rw [IntKind.wrap_u8];omega
theorem mU (x:Int):IntKind.i64.wrap (IntKind.u8.wrap x)=IntKind.u8.wrap x:=by
 have:=S9 x
 exact IntWalk.i64_in _ (by omega)
theorem dv_le (c:UInt8):0≤jD c∧jD c≤255:=S9 _
theorem nH {s:Aq}{b:Bool}(h:((s == [])||b)=false):0<s.length:=by
 cases s with
 | nil=>simp at h
 | cons a r=>simp
theorem bZ {s:Aq}{k:Nat}{n:Int}(h:k<s.length)(hc:decide (1099511627776<10*n+jD (bt s k))=false):J6 (s.drop k) n=J6 (s.drop (k+1)) (10*n+jD (bt s k)):=by
 rw [Ni h,J6,if_neg (by simp [hc])]
theorem dB {s:Aq}{k:Nat}{n:Int}(h:k<s.length)(hc:decide (1099511627776<10*n+jD (bt s k))=true):J6 (s.drop k) n=(0,2):=by
 rw [Ni h,J6,if_pos hc]
def Me (s:Aq):Bool:=(s == [97,108,108])||(s == [97,108,116])||(s == [97,110,100])||(s == [98,111,111,108])||(s == [98,121])||(s == [99,111,117,110,116])||(s == [102,97,108,115,101])||(s == [102,105,114,115,116])||(s == [105,102])||(s == [105,110,116])||(s == [108,97,99,107,115])||(s == [108,97,115,116])||(s == [109,97,116,99,104])||(s == [109,97,120])
def Mc (s:Aq):Bool:=(s == [109,105,110])||(s == [110,111,116])||(s == [111,114])||(s == [112,108,117,115])||(s == [113,117,101,114,121])||(s == [114,101,116,117,114,110])||(s == [115,101,113])||(s == [115,116,114,105,110,103])||(s == [115,117,109])||(s == [116,105,109,101])||(s == [116,114,117,101])||(s == [116,121,112,101])||(s == [119,104,101,114,101])||(s == [119,105,116,104,105,110])
theorem cR (s:Aq):U7 s=(Me s||Mc s):=by simp only [U7,Me,Mc,Bool.or_assoc]

theorem c23 (s:Aq):Ap Tryz.prog 135 [.str s] (.bool (U7 s)):=by
 refine Ap.body (n:=34) tok Tryz.func135 rfl rfl rfl fun H=>?_
 refine Ad (Qp A3 (Aa (AW.seq (Ad (Qp Dh (Aa (AW.block ?_)))))))
 refine AW.Aaw (fun (x:Bool)=>(⟨[(3,.str s),(4,.bool x)],H,34⟩:St)) (fun (x:Bool)=>x=Me s) ?_ ?_
 ·
  refine Ad ?_
  refine Qp (A5 rfl rfl) ?_
  refine Qp A3 (Aa (Au (fun hc1=>?_) fun hc1=>?_))
  ·
   refine Bl ?_
   refine ⟨_,?_,GS.weaken ⟨rfl,rfl,trivial⟩ (.refl _)⟩
   simp [Me, *]
  ·
   refine Ad ?_
   refine Qp (A5 rfl rfl) ?_
   refine Qp A3 (Aa (Au (fun hc2=>?_) fun hc2=>?_))
   ·
    refine Bl ?_
    refine ⟨_,?_,GS.weaken ⟨rfl,rfl,trivial⟩ (.refl _)⟩
    simp [Me, *]
   ·
    refine Ad ?_
    refine Qp (A5 rfl rfl) ?_
    refine Qp A3 (Aa (Au (fun hc3=>?_) fun hc3=>?_))
    ·
     refine Bl ?_
     refine ⟨_,?_,GS.weaken ⟨rfl,rfl,trivial⟩ (.refl _)⟩
     simp [Me, *]
    ·
     refine Ad ?_
     refine Qp (A5 rfl rfl) ?_
     refine Qp A3 (Aa (Au (fun hc4=>?_) fun hc4=>?_))
     ·
      refine Bl ?_
      refine ⟨_,?_,GS.weaken ⟨rfl,rfl,trivial⟩ (.refl _)⟩
      simp [Me, *]
     ·
      refine Ad ?_
      refine Qp (A5 rfl rfl) ?_
      refine Qp A3 (Aa (Au (fun hc5=>?_) fun hc5=>?_))
      ·
       refine Bl ?_
       refine ⟨_,?_,GS.weaken ⟨rfl,rfl,trivial⟩ (.refl _)⟩
       simp [Me, *]
      ·
       refine Ad ?_
       refine Qp (A5 rfl rfl) ?_
       refine Qp A3 (Aa (Au (fun hc6=>?_) fun hc6=>?_))
       ·
        refine Bl ?_
        refine ⟨_,?_,GS.weaken ⟨rfl,rfl,trivial⟩ (.refl _)⟩
        simp [Me, *]
       ·
        refine Ad ?_
        refine Qp (A5 rfl rfl) ?_
        refine Qp A3 (Aa (Au (fun hc7=>?_) fun hc7=>?_))
        ·
         refine Bl ?_
         refine ⟨_,?_,GS.weaken ⟨rfl,rfl,trivial⟩ (.refl _)⟩
         simp [Me, *]
        ·
         refine Ad ?_
         refine Qp (A5 rfl rfl) ?_
         refine Qp A3 (Aa (Au (fun hc8=>?_) fun hc8=>?_))
         ·
          refine Bl ?_
          refine ⟨_,?_,GS.weaken ⟨rfl,rfl,trivial⟩ (.refl _)⟩
          simp [Me, *]
         ·
          refine Ad ?_
          refine Qp (A5 rfl rfl) ?_
          refine Qp A3 (Aa (Au (fun hc9=>?_) fun hc9=>?_))
          ·
           refine Bl ?_
           refine ⟨_,?_,GS.weaken ⟨rfl,rfl,trivial⟩ (.refl _)⟩
           simp [Me, *]
          ·
           refine Ad ?_
           refine Qp (A5 rfl rfl) ?_
           refine Qp A3 (Aa (Au (fun hc10=>?_) fun hc10=>?_))
           ·
            refine Bl ?_
            refine ⟨_,?_,GS.weaken ⟨rfl,rfl,trivial⟩ (.refl _)⟩
            simp [Me, *]
           ·
            refine Ad ?_
            refine Qp (A5 rfl rfl) ?_
            refine Qp A3 (Aa (Au (fun hc11=>?_) fun hc11=>?_))
            ·
             refine Bl ?_
             refine ⟨_,?_,GS.weaken ⟨rfl,rfl,trivial⟩ (.refl _)⟩
             simp [Me, *]
            ·
             refine Ad ?_
             refine Qp (A5 rfl rfl) ?_
             refine Qp A3 (Aa (Au (fun hc12=>?_) fun hc12=>?_))
             ·
              refine Bl ?_
              refine ⟨_,?_,GS.weaken ⟨rfl,rfl,trivial⟩ (.refl _)⟩
              simp [Me, *]
             ·
              refine Ad ?_
              refine Qp (A5 rfl rfl) ?_
              refine Qp A3 (Aa (Au (fun hc13=>?_) fun hc13=>?_))
              ·
               refine Bl ?_
               refine ⟨_,?_,GS.weaken ⟨rfl,rfl,trivial⟩ (.refl _)⟩
               simp [Me, *]
              ·
               refine AW.region ?_
               refine Qp (A5 rfl rfl) ?_
               refine Qp A3 (Aa ?_)
               refine ⟨_,?_,GS.weaken ⟨rfl,rfl,trivial⟩ (.refl _)⟩
               simp [Me, *]
 ·
  rintro x hA
  refine Au (fun hc14=>?_) fun hc14=>?_
  ·
   refine Ad (Qp A3 (Aa (AW.ret (Ao (Ai ?_)))))
   refine Qr (.bool _) ?_
   subst hA
   try subst hB
   simp only [Ae,cR]
   simp [*]
  ·
   refine AW.Aaw (fun (y:Bool)=>(⟨[(19,.bool y)],H,34⟩:St)) (fun (y:Bool)=>y=Mc s) ?_ ?_
   ·
    refine Ad ?_
    refine Qp (A5 rfl rfl) ?_
    refine Qp A3 (Aa (Au (fun hc15=>?_) fun hc15=>?_))
    ·
     refine Bl ?_
     refine ⟨_,?_,GS.weaken ⟨rfl,trivial⟩ (.refl _)⟩
     simp [Mc, *]
    ·
     refine Ad ?_
     refine Qp (A5 rfl rfl) ?_
     refine Qp A3 (Aa (Au (fun hc16=>?_) fun hc16=>?_))
     ·
      refine Bl ?_
      refine ⟨_,?_,GS.weaken ⟨rfl,trivial⟩ (.refl _)⟩
      simp [Mc, *]
     ·
      refine Ad ?_
      refine Qp (A5 rfl rfl) ?_
      refine Qp A3 (Aa (Au (fun hc17=>?_) fun hc17=>?_))
      ·
       refine Bl ?_
       refine ⟨_,?_,GS.weaken ⟨rfl,trivial⟩ (.refl _)⟩
       simp [Mc, *]
      ·
       refine Ad ?_
       refine Qp (A5 rfl rfl) ?_
       refine Qp A3 (Aa (Au (fun hc18=>?_) fun hc18=>?_))
       ·
        refine Bl ?_
        refine ⟨_,?_,GS.weaken ⟨rfl,trivial⟩ (.refl _)⟩
        simp [Mc, *]
       ·
        refine Ad ?_
        refine Qp (A5 rfl rfl) ?_
        refine Qp A3 (Aa (Au (fun hc19=>?_) fun hc19=>?_))
        ·
         refine Bl ?_
         refine ⟨_,?_,GS.weaken ⟨rfl,trivial⟩ (.refl _)⟩
         simp [Mc, *]
        ·
         refine Ad ?_
         refine Qp (A5 rfl rfl) ?_
         refine Qp A3 (Aa (Au (fun hc20=>?_) fun hc20=>?_))
         ·
          refine Bl ?_
          refine ⟨_,?_,GS.weaken ⟨rfl,trivial⟩ (.refl _)⟩
          simp [Mc, *]
         ·
          refine Ad ?_
          refine Qp (A5 rfl rfl) ?_
          refine Qp A3 (Aa (Au (fun hc21=>?_) fun hc21=>?_))
          ·
           refine Bl ?_
           refine ⟨_,?_,GS.weaken ⟨rfl,trivial⟩ (.refl _)⟩
           simp [Mc, *]
          ·
           refine Ad ?_
           refine Qp (A5 rfl rfl) ?_
           refine Qp A3 (Aa (Au (fun hc22=>?_) fun hc22=>?_))
           ·
            refine Bl ?_
            refine ⟨_,?_,GS.weaken ⟨rfl,trivial⟩ (.refl _)⟩
            simp [Mc, *]
           ·
            refine Ad ?_
            refine Qp (A5 rfl rfl) ?_
            refine Qp A3 (Aa (Au (fun hc23=>?_) fun hc23=>?_))
            ·
             refine Bl ?_
             refine ⟨_,?_,GS.weaken ⟨rfl,trivial⟩ (.refl _)⟩
             simp [Mc, *]
            ·
             refine Ad ?_
             refine Qp (A5 rfl rfl) ?_
             refine Qp A3 (Aa (Au (fun hc24=>?_) fun hc24=>?_))
             ·
              refine Bl ?_
              refine ⟨_,?_,GS.weaken ⟨rfl,trivial⟩ (.refl _)⟩
              simp [Mc, *]
             ·
              refine Ad ?_
              refine Qp (A5 rfl rfl) ?_
              refine Qp A3 (Aa (Au (fun hc25=>?_) fun hc25=>?_))
              ·
               refine Bl ?_
               refine ⟨_,?_,GS.weaken ⟨rfl,trivial⟩ (.refl _)⟩
               simp [Mc, *]
              ·
               refine Ad ?_
               refine Qp (A5 rfl rfl) ?_
               refine Qp A3 (Aa (Au (fun hc26=>?_) fun hc26=>?_))
               ·
                refine Bl ?_
                refine ⟨_,?_,GS.weaken ⟨rfl,trivial⟩ (.refl _)⟩
                simp [Mc, *]
               ·
                refine Ad ?_
                refine Qp (A5 rfl rfl) ?_
                refine Qp A3 (Aa (Au (fun hc27=>?_) fun hc27=>?_))
                ·
                 refine Bl ?_
                 refine ⟨_,?_,GS.weaken ⟨rfl,trivial⟩ (.refl _)⟩
                 simp [Mc, *]
                ·
                 refine AW.region ?_
                 refine Qp (A5 rfl rfl) ?_
                 refine Qp A3 (Aa ?_)
                 refine ⟨_,?_,GS.weaken ⟨rfl,trivial⟩ (.refl _)⟩
                 simp [Mc, *]
   ·
    rintro y hB
    refine Au (fun hc28=>?_) fun hc28=>?_
    ·
     refine Ad (Qp A3 (Aa (AW.ret (Ao (Ai ?_)))))
     refine Qr (.bool _) ?_
     subst hA
     try subst hB
     simp only [Ae,cR]
     simp [*]
    ·
     refine AW.skip (Bc (Af (Ad (Qp A3 (Aa (AW.ret ?_))))))
     refine Qr (.bool _) ?_
     subst hA
     try subst hB
     simp only [Ae,cR]
     simp [*]
theorem c22 (s:Aq)(hl:s.length≤1048576):Ap Tryz.prog 142 [.str s] (.bool (iC s)):=by
 refine Ap.body (n:=16) tok Tryz.func142 rfl rfl rfl fun H=>?_
 refine Ad (Qp A3 (By (Qp Dh ?_)))
 refine Qp (Cr rfl rfl) ?_
 refine Qp Bq (Qg [] Qw Dh ?_)
 refine Qg [(6,_)] Qw (Qc rfl (k29 _ _ (by omega))) ?_
 refine Qg [(7,_)] Qw Fz (Qp Et (Qp Bq (Qg [] Qw Dh ?_)))
 refine AOL.Aap (y:=.str _) _ [(11,_)] rfl (iB.all ⟨Ent.Aao _ _,trivial⟩) (fun hG=>A2 rfl rfl rfl ((by simp [maxLen];omega))) rfl ?_
 refine AOL.Aap (y:=.str _) _ [(12,_)] rfl (iB.all ⟨Ent.Aao _ _,trivial⟩) (fun hG=>A2 rfl rfl rfl ((by simp [maxLen];omega))) rfl ?_
 refine Qg [(13,_)] Qw (Qc rfl (k29 _ _ (by simp [Tn]))) ?_
 refine Qp Et (Qp A3 (Aa (AW.ret ?_)))
 refine Qr (.bool _) ?_
 rfl

set_option maxHeartbeats 400000
set_option maxRecDepth 20000

theorem Z7 {s:Aq}(h:((s == [])||decide ((C3 C1 s:Int)<(s.length:Int)))=false):U6 s=J6 s 0:=by unfold U6;rw [iN h]
theorem L7:∀s:Aq,(Dd s).length≤4*s.length
  | []=>Nat.le_refl _
  | c::r=>by
    have:=L7 r
    have h:(Jt c).length≤4:=by unfold Jt;split <;> (try split) <;> simp
    simp only [Dd,List.length_append,List.length_cons];omega
theorem Ln:∀s:Aq,(C6 s).length≤4*s.length
  | []=>Nat.le_refl _
  | c::r=>by
    have:=Ln r
    have h:(I1 c).length≤4:=by unfold I1;split <;> (try split) <;> simp
    simp only [C6,List.length_append,List.length_cons];omega
theorem Se:∀a b:Aq,Dd (a++b)=Dd a++Dd b
 | [],b=>rfl
 | c::r,b=>by simp [Dd,Se r b]
theorem Ph:∀a b:Aq,C6 (a++b)=C6 a++C6 b
 | [],b=>rfl
 | c::r,b=>by simp [C6,Ph r b]
theorem fC {s:Aq}{k:Nat}(h:k<s.length):s.take (k+1)=s.take k ++ [bt s k]:=by rw [List.take_add_one,D6 h];rfl
theorem Oa {s:Aq}{k:Nat}{es:List (List AV)}{x:Aq}(h:k<s.length)(he:es=B1 ([34]++Dd (s.take k)))(hx:Jt (bt s k)=x):es++B1 x=B1 ([34]++Dd (s.take (k+1))):=by
 rw [he,fC h,Se,←Gg]
 simp [Dd,hx]
theorem Md {s:Aq}{k:Nat}{es:List (List AV)}{x:Aq}(h:k<s.length)(he:es=B1 ([34]++C6 (s.take k)))(hx:I1 (bt s k)=x):es++B1 x=B1 ([34]++C6 (s.take (k+1))):=by
 rw [he,fC h,Ph,←Gg]
 simp [C6,hx]
theorem cM {s:Aq}{k:Nat}{es:List (List AV)}(hl:s.length≤64)(he:es=B1 ([34]++Dd (s.take k))):es.length≤257:=by
 have:=L7 (s.take k)
 rw [he,H9];rw [List.length_take] at this;simp;omega
theorem Z2 {s:Aq}{k:Nat}{es:List (List AV)}(hl:s.length≤64)(he:es=B1 ([34]++C6 (s.take k))):es.length≤257:=by
 have:=Ln (s.take k)
 rw [he,H9];rw [List.length_take] at this;simp;omega
theorem nat8 (c:UInt8):c.toNat≤255:=by have:=c.toNat_lt;omega
theorem Xo (c:UInt8):0≤IntKind.u8.wrap ((c.toNat:Int).tdiv 16)∧Nk[(IntKind.u8.wrap ((c.toNat:Int).tdiv 16)).toNat]? = some (bt Nk (c.toNat / 16)):=by
 have h:=nat8 c
 have e:IntKind.u8.wrap ((c.toNat:Int).tdiv 16)=((c.toNat / 16:Nat):Int):=by
  rw [IntWalk.u8_quo _ _ (by omega)];omega
 rw [e]
 refine ⟨by omega,?_⟩
 rw [Int.toNat_natCast]
 exact D6 (by show c.toNat / 16<16;omega)
theorem Xv (c:UInt8):0≤(c.toNat:Int).tmod 16∧Nk[((c.toNat:Int).tmod 16).toNat]? = some (bt Nk (c.toNat % 16)):=by
 have e:(c.toNat:Int).tmod 16=((c.toNat % 16:Nat):Int):=by
  rw [Int.tmod_eq_emod_of_nonneg (by omega)];omega
 rw [e]
 refine ⟨by omega,?_⟩
 rw [Int.toNat_natCast]
 exact D6 (by show c.toNat % 16<16;omega)
theorem iX (n:Int):IntKind.u8.wrap n=((Ue n).toNat:Int):=by
 have h:=S9 n
 unfold Ue
 rw [UInt8.toNat_ofNat_of_lt' (by show _<256;omega)]
 omega
theorem eG:∀(s:Aq) (c:UInt8),-1≤Lib.indexByte s c∧Lib.indexByte s c<s.length
  | [],c=>⟨by unfold Lib.indexByte;decide,by unfold Lib.indexByte;decide⟩
  | a::r,c=>by
    have:=eG r c
    unfold Lib.indexByte
    simp only [List.length_cons,beq_iff_eq]
    split
    · omega
    · split <;> omega
theorem fH (c:UInt8) : -1≤Yd c∧Yd c<16:=eG Nk c
theorem nI (a b:Int):∀c∈[[AV.int .u8 a],[AV.int .u8 b]],Ba c=true:=by simp [Ba,T8]
theorem eQ (a b c d:Int):∀x∈[[AV.int .u8 a],[AV.int .u8 b],[AV.int .u8 c],[AV.int .u8 d]],Ba x=true:=by simp [Ba,T8]

theorem c18 (s:Aq)(hl:s.length≤1048576):Ap Tryz.prog 303 [.str s] (.tuple [.int .i64 (U6 s).1,.int .i64 (U6 s).2]):=by
 refine Ap.body (n:=33) tok Tryz.func303 rfl rfl rfl fun H=>?_
 refine Ad (Qp A0 (Qp A0 (Aa (AW.seq (Ad (Qp Dh ?_))))))
 refine Qp (A5 rfl rfl) ?_
 refine Qp Bq (Qg [] Qw Dh ?_)
 refine Qg [(10,_)] Qw (Qc rfl (c38 s hl 141 C1 (by kernel_rfl) c39)) ?_
 refine Qg [] Qw Dh ?_
 refine AOL.Aap (y:=Iq _) _ [(12,_)] rfl (iB.all ⟨Ent.Aao _ _,trivial⟩) (fun hG=>Bx tok rfl rfl rfl rfl) rfl ?_
 refine AOL.Aap (y:=.bool _) _ [(11,_),(13,_)] rfl (iB.all ⟨Ent.Aao _ _,Ent.Aao _ _,trivial⟩) (fun hG=>vY rfl rfl) rfl ?_
 refine Qp Cy (Aa (Au (fun hc1=>?_) fun hc1=>?_))
 ·
  refine Ad (Qp A0 (Qp A0 (Aa (Cx ?_))))
  refine L1 (Iq _) (Iq _) ?_
  simp only [Ae,U6]
  (first | rw [if_pos hc1] | skip)
  first | done | rfl
 ·
  have hn:=Z7 hc1
  refine Bl (Ad (Qp A0 (Aa (AW.seq (Ad (Qp Dh ?_))))))
  refine Qp (Oc tok rfl rfl rfl rfl rfl rfl rfl) ?_
  refine Qp (Ax (n:=s.length) tok rfl rfl rfl (by simp)) ?_
  refine Qp A4 (Aa (AW.block ?_))
  refine AW.Aat (fun (p:Nat×Int)=>(⟨[(17,.sl 1 (B1 s)),(18,.int .i64 (s.length:Int)),(4,.int .i64 p.2),(19,.int .i64 (p.1:Int))],H,33⟩:St)) (fun (p:Nat×Int)=>p.1≤s.length∧(0≤p.2∧p.2≤1099511627776)∧J6 s 0=J6 (s.drop p.1) p.2) (fun (p:Nat×Int)=>s.length-p.1) ((0,0)) ?_ (GS.weaken ⟨rfl,rfl,rfl,rfl,trivial⟩ (.refl _)) ?_
  · exact ⟨Nat.zero_le _,⟨by decide,by decide⟩,rfl⟩
  ·
   rintro p hR
   have hb:=hR.2.1
   have hdv:=dv_le (bt s p.1)
   refine Ad (Qp B7 (Aa (AW.seq (Au (fun hc2=>?_) fun hc2=>?_))))
   ·
    have hk:p.1<s.length:=by simp at hc2;omega
    refine Bl (AW.seq (AW.block (Ad ?_)))
    refine Qp (Ag (c:=[.int .u8 _]) tok rfl rfl rfl rfl rfl rfl (by omega) (bY (k:=p.1) hk)) ?_
    refine Qp (De (c:=.int .u8 _) tok rfl rfl rfl) ?_
    refine Qp (A6 (v:=.int .u8 _) rfl) ?_
    refine By (Qp A4 ?_)
    refine Qp (vV rfl rfl rfl (by constructor <;> omega)) ?_
    refine Qp (A1 (v:=.int .u8 _) rfl) ?_
    refine Qp (dG rfl rfl) ?_
    refine Qp (N5 (m:=jD (bt s p.1)) tok rfl rfl rfl rfl rfl (mU _)) ?_
    refine Qp Ei (Qp A0 (By (Qp A4 (Qp D2 (Aa (Au (fun hc3=>?_) fun hc3=>?_))))))
    ·
     refine Ad (Qp A0 (Qp A0 (Aa (AW.ret (Ao (Ai (Ai (Ao (Ai ?_)))))))))
     refine L1 (Iq _) (Iq _) ?_
     rw [hn,hR.2.2,dB hk hc3];first | done | rfl
    ·
     refine AW.skip (Bc (Af (AW.region (Qp Ei (Qp A4 (Aa ?_))))))
     refine ⟨(p.1+1,10*p.2+jD (bt s p.1)),?_,?_,GS.weaken ⟨rfl,rfl,rfl,rfl,trivial⟩ (.refl _)⟩
     · exact ⟨hk,⟨by simp only;omega,by simp only [decide_eq_false_iff_not] at hc3;simp only;omega⟩,hR.2.2.trans (bZ hk hc3)⟩
     · simp only;omega
   ·
    have hk:s.length≤p.1:=by simp at hc2;omega
    refine AW.exit ?_
    refine A7 (A7 (Bp (Af (Ad (Qp A4 (Qp A0 (Qp A0 (Aa (AW.ret ?_)))))))))
    refine L1 (Iq _) (Iq _) ?_
    have h9:U6 s=(p.2,0):=by rw [hn,hR.2.2,List.drop_eq_nil_of_le hk];rfl
    rw [h9];rfl
theorem c20 (s:Aq)(hl:s.length≤1048576):Ap Tryz.prog 84 [.str s] (.int .i64 (Tm s)):=by
 refine Ap.body (n:=22) tok Tryz.func84 rfl rfl rfl fun H=>?_
 refine Ad (Qp A0 (Aa (AW.seq (Ad (Qp Dh ?_)))))
 refine Qp (A5 rfl rfl) ?_
 refine Qp Bq (Qg [] Qw Dh ?_)
 refine AOL.Aap (y:=Iq _) _ [(6,_)] rfl (iB.all ⟨Ent.Aao _ _,trivial⟩) (fun hG=>Bx tok rfl rfl rfl rfl) rfl ?_
 refine Qg [(7,_)] Qw D2 (Qp Cy (Qp Bq (Qg [] Qw Dh ?_)))
 refine AOL.Aap (y:=.int .u8 _) _ [(11,_)] rfl (iB.all ⟨Ent.Aao _ _,trivial⟩) (fun hG=>Bs tok rfl rfl rfl rfl (by omega) (D6 (i:=0) (nH (g1 hG)))) rfl ?_
 refine Qg [(12,_)] Qw (Qc rfl (c39 _)) ?_
 refine Qp Cy (Qp Bq (Qg [] Qw Dh ?_))
 refine Qg [(16,_)] Qw (Qc rfl (c22 s hl)) ?_
 refine Qp Cy (Aa (Au (fun hc1=>?_) fun hc1=>?_))
 ·
  refine Ad (Qp A0 (Aa (Cx ?_)))
  refine Qr (Iq _) ?_
  simp only [Ae,Tm]
  (first | rw [if_pos hc1] | skip)
  first | done | rfl
 ·
  refine Bl (AW.seq (Ad (Qp Dh ?_)))
  refine Qp (Oc tok rfl rfl rfl rfl rfl rfl rfl) ?_
  refine Qp (Qc rfl (c41 s hl 144 Xe (by kernel_rfl) c42)) ?_
  refine Aa (Au (fun hc2=>?_) fun hc2=>?_)
  ·
   refine Ad (Qp A0 (Aa (Cx ?_)))
   refine Qr (Iq _) ?_
   simp only [Ae,Tm]
   (first | rw [iN hc1] | skip);(first | rw [if_pos hc2] | skip)
   first | done | rfl
  ·
   refine Bl (Ad (Qp A0 (Aa (AW.ret ?_))))
   refine Qr (Iq _) ?_
   simp only [Ae,Tm]
   (first | rw [iN hc1] | skip);(first | rw [iN hc2] | skip)
   first | done | rfl
theorem word0 (s:Aq)(hl:s.length≤1048576):Ap Tryz.prog 134 [.str s,.int .i64 0] (.int .i64 (C3 Hg s:Int)):=by
 have h:=c45 s hl 0
 have e:Uh s 0=C3 Hg s:=by simp [Uh]
 rw [e] at h
 exact h
theorem c21 (s:Aq)(hl:s.length≤1048576):Ap Tryz.prog 75 [.str s] (.int .i64 (Wu s)):=by
 refine Ap.body (n:=27) tok Tryz.func75 rfl rfl rfl fun H=>?_
 refine Ad (Qp A0 (Aa (AW.seq (Ad (Qp Dh ?_)))))
 refine Qp (A5 rfl rfl) ?_
 refine Qp Bq (Qg [] Qw Dh ?_)
 refine AOL.Aap (y:=Iq _) _ [(6,_)] rfl (iB.all ⟨Ent.Aao _ _,trivial⟩) (fun hG=>Bx tok rfl rfl rfl rfl) rfl ?_
 refine Qg [(7,_)] Qw D2 (Qp Cy (Qp Bq (Qg [] Qw Dh ?_)))
 refine AOL.Aap (y:=.int .u8 _) _ [(11,_)] rfl (iB.all ⟨Ent.Aao _ _,trivial⟩) (fun hG=>Bs tok rfl rfl rfl rfl (by omega) (D6 (i:=0) (nH (g1 hG)))) rfl ?_
 refine Qg [(12,_)] Qw (Qc rfl (c44 _)) ?_
 refine Qg [(13,_)] Qw Fz (Qp Cy (Qp Bq (Qg [] Qw Dh ?_)))
 refine Qg [(17,_)] Qw (Qc rfl (word0 s hl)) ?_
 refine Qg [] Qw Dh ?_
 refine AOL.Aap (y:=Iq _) _ [(19,_)] rfl (iB.all ⟨Ent.Aao _ _,trivial⟩) (fun hG=>Bx tok rfl rfl rfl rfl) rfl ?_
 refine AOL.Aap (y:=.bool _) _ [(18,_),(20,_)] rfl (iB.all ⟨Ent.Aao _ _,Ent.Aao _ _,trivial⟩) (fun hG=>L6 rfl rfl) rfl ?_
 refine Qp Cy (Qp Bq (Qg [] Qw Dh ?_))
 refine Qg [(24,_)] Qw (Qc rfl (c23 s)) ?_
 refine Qp Cy (Aa (Au (fun hc1=>?_) fun hc1=>?_))
 ·
  refine Ad (Qp A0 (Aa (Cx ?_)))
  refine Qr (Iq _) ?_
  simp only [Ae,Wu]
  (first | rw [if_pos hc1] | skip)
  first | done | rfl
 ·
  refine Bl (Ad (Qp A0 (Aa (AW.ret ?_))))
  refine Qr (Iq _) ?_
  simp only [Ae,Wu]
  (first | rw [iN hc1] | skip)
  first | done | rfl
theorem c24 (s:Aq)(hl:s.length≤1048576):Ap Tryz.prog 272 [.str s] (.tuple [.str (Ja s).1,.int .i64 (Ja s).2]):=by
 refine Ap.body (n:=54) tok Tryz.func272 rfl rfl rfl fun H=>?_
 refine Ad (Qp Db (Qp A0 (Aa (AW.seq (Ad (Qp Dh ?_))))))
 refine Qp (Bx tok rfl rfl rfl rfl) ?_
 refine Qp D2 (Aa (Au (fun hc1=>?_) fun hc1=>?_))
 ·
  refine Ad (Qp Db (Qp A0 (Aa (Cx ?_))))
  refine L1 (.str _) (Iq _) ?_
  simp only [Ae,Ja]
  (first | rw [if_pos hc1] | skip)
  first | done | rfl
 ·
  refine Bl (Ad ?_)
  refine Qe (Fy (es:=[[.int .u8 _]]) tok rfl rfl rfl rfl rfl rfl rfl rfl rfl) ?_
  rintro _ _ ⟨v10,rfl,rfl⟩
  refine Qp (A6 (v:=.row _ _ _) rfl) ?_
  refine Aa (AW.seq (Ad (Qp Dh ?_)))
  refine Qp (Oc tok rfl rfl rfl rfl rfl rfl rfl) ?_
  refine Qp (Ax (n:=s.length) tok rfl rfl rfl (by simp)) ?_
  refine Qp A4 (Aa (AW.block ?_))
  refine AW.Aat (fun (p:Nat×List (List AV)×Value)=>(⟨[(4,.row p.2.2 1 p.2.1),(12,.sl 1 (B1 s)),(13,.int .i64 (s.length:Int)),(14,.int .i64 (p.1:Int))],.row p.2.2 p.2.1.length 5 1::H,54⟩:St)) (fun (p:Nat×List (List AV)×Value)=>p.1≤s.length∧p.2.1=B1 ([34]++Dd (s.take p.1))) (fun (p:Nat×List (List AV)×Value)=>s.length-p.1) ((0,_,v10)) ?_ (GS.weaken ⟨rfl,rfl,rfl,rfl,trivial⟩ (.refl _)) ?_
  · exact ⟨Nat.zero_le _,rfl⟩
  ·
   rintro p hR
   have hroom:=cM (by simp at hc1;omega) hR.2
   have hsc:∀c∈p.2.1,Ba c=true:=by rw [hR.2];exact Ux _
   refine Ad (Qp B7 (Aa (AW.seq (Au (fun hc2=>?_) fun hc2=>?_))))
   ·
    have hk:p.1<s.length:=by simp at hc2;omega
    refine Bl (AW.seq (AW.block (Ad ?_)))
    refine Qp (Ag (c:=[.int .u8 _]) tok rfl rfl rfl rfl rfl rfl (by omega) (bY (k:=p.1) hk)) ?_
    refine Qp (De (c:=.int .u8 _) tok rfl rfl rfl) ?_
    refine Qp (A6 (v:=.int .u8 _) rfl) ?_
    refine Aa (AW.block (Ad ?_))
    refine Qp (A1 (v:=.int .u8 _) rfl) ?_
    refine Qp Av (Qp Bq ?_)
    refine AOL.Aap (y:=.int .u8 _) _ [] rfl (iB.all trivial) (fun hG=>A1 (v:=.int .u8 _) rfl) rfl ?_
    refine Qg [(26,_)] Qw Av (Qp Cy (Qp A3 (Aa (Au (fun hc3=>?_) fun hc3=>?_))))
    ·
     refine AW.region ?_
     refine Qp (A1 (v:=.row _ _ _) rfl) ?_
     refine Qp (A1 (v:=.int .u8 _) rfl) ?_
     refine Qp (Am (es:=[[.int .u8 _],[.int .u8 _]]) tok rfl rfl rfl rfl rfl rfl rfl rfl rfl) ?_
     refine Qe (Ci (k:=0) tok rfl rfl rfl rfl rfl rfl rfl rfl (nI _ _) (hsc) (by simp;omega) (by simp [maxLen];omega)) ?_
     rintro _ _ ⟨v32,rfl,rfl⟩
     refine Qp (A6 (v:=.row _ _ _) rfl) ?_
     refine AOL.nil (Bc (Bc (Af (AW.region (Qp Ei (Qp A4 (Aa ?_)))))))
     refine ⟨(p.1+1,p.2.1++B1 [92,bt s p.1],v32),?_,?_,GS.weaken ⟨rfl,rfl,rfl,rfl,trivial⟩ (.refl _)⟩
     · exact ⟨hk,Oa hk hR.2 (by unfold Jt;rw [if_pos hc3])⟩
     · simp only;omega
    ·
     refine Ad ?_
     refine Qp (A1 (v:=.int .u8 _) rfl) ?_
     refine Qp B7 (Qp Bq ?_)
     refine AOL.Aap (y:=.int .u8 _) _ [] rfl (iB.all trivial) (fun hG=>A1 (v:=.int .u8 _) rfl) rfl ?_
     refine Qg [(37,_)] Qw D2 (Qp Cy (Qp A3 (Aa (Au (fun hc4=>?_) fun hc4=>?_))))
     ·
      refine AW.draw mixed (fun _=>True) trivial (by kernel_rfl) ?_
      refine Qn 0 rfl (A1 (v:=.row _ _ _) rfl) ?_
      refine Qn 1 rfl (A1 (v:=.int .u8 _) rfl) ?_
      refine Qn 2 rfl (cJ rfl rfl (by omega)) ?_
      refine Qn 3 rfl (Bs tok rfl rfl rfl rfl ((Xo _).1) ((Xo _).2)) ?_
      refine Qn 4 rfl (A1 (v:=.int .u8 _) rfl) ?_
      refine Qn 5 rfl (pB rfl rfl (by omega)) ?_
      refine Qn 6 rfl (Bs tok rfl rfl rfl rfl ((Xv _).1) ((Xv _).2)) ?_
      refine Qn 7 rfl (Am (es:=[[.int .u8 _],[.int .u8 _],[.int .u8 _],[.int .u8 _]]) tok rfl rfl rfl rfl rfl rfl rfl rfl rfl) ?_
      refine Hs.eff _ _ 8 _ _ rfl (by kernel_rfl) rfl rfl (Ci (k:=0) tok rfl rfl rfl rfl rfl rfl rfl rfl (eQ _ _ _ _) (hsc) (by simp;omega) (by simp [maxLen];omega)) (fun _ _ _=>trivial) ?_
      rintro _ _ ⟨v48,rfl,rfl⟩
      refine Qn 9 rfl (A6 (v:=.row _ _ _) rfl) ?_
      refine Hs.done _ _ (by kernel_rfl) ?_
      refine Bc (Bc (Af (AW.region (Qp Ei (Qp A4 (Aa ?_))))))
      refine ⟨(p.1+1,p.2.1++B1 [92,120,bt Nk ((bt s p.1).toNat / 16),bt Nk ((bt s p.1).toNat % 16)],v48),?_,?_,GS.weaken ⟨rfl,rfl,rfl,rfl,trivial⟩ (.refl _)⟩
      · exact ⟨hk,Oa hk hR.2 (by unfold Jt;rw [iN hc3,if_pos hc4])⟩
      · simp only;omega
     ·
      refine AW.region ?_
      refine Qp (A1 (v:=.row _ _ _) rfl) ?_
      refine Qp (A1 (v:=.int .u8 _) rfl) ?_
      refine Qp (Am (es:=[[.int .u8 _]]) tok rfl rfl rfl rfl rfl rfl rfl rfl rfl) ?_
      refine Qe (Ci (k:=0) tok rfl rfl rfl rfl rfl rfl rfl rfl (D7 rfl) (hsc) (by simp;omega) (by simp [maxLen];omega)) ?_
      rintro _ _ ⟨v21,rfl,rfl⟩
      refine Qp (A6 (v:=.row _ _ _) rfl) ?_
      refine AOL.nil (Bc (Bc (Af (AW.region (Qp Ei (Qp A4 (Aa ?_)))))))
      refine ⟨(p.1+1,p.2.1++B1 [bt s p.1],v21),?_,?_,GS.weaken ⟨rfl,rfl,rfl,rfl,trivial⟩ (.refl _)⟩
      · exact ⟨hk,Oa hk hR.2 (by unfold Jt;rw [iN hc3,iN hc4])⟩
      · simp only;omega
   ·
    have hk:p.1=s.length:=by simp at hc2;have:=hR.1;omega
    have hfin:p.2.1 ++ [[.int .u8 34]]=B1 ([34]++Dd s ++ [34]):=by rw [hR.2,hk,List.take_length,Gg ([34]++Dd s) [34]];rfl
    have hfl:([34]++Dd s ++ [34]).length≤maxLen:=by have h1:=L7 s;simp at hc1;simp [maxLen];omega
    refine AW.exit ?_
    refine A7 (A7 (Bp (Af (Ad ?_))))
    refine Qp (A1 (v:=.row _ _ _) rfl) ?_
    refine Qp (Am (es:=[[.int .u8 _]]) tok rfl rfl rfl rfl rfl rfl rfl rfl rfl) ?_
    refine Qe (Ci (k:=0) tok rfl rfl rfl rfl rfl rfl rfl rfl (D7 rfl) (hsc) (by simp;omega) (by simp [maxLen];omega)) ?_
    rintro _ _ ⟨v52,rfl,rfl⟩
    refine Qp (N0 (s:=[34]++Dd s ++ [34]) tok rfl rfl rfl rfl rfl rfl rfl (hfl) (bL hfin)) ?_
    refine Qp Db (Qp A0 (Aa (AW.ret ?_)))
    refine ⟨.inr rfl,[.str _,Iq _],.cons (.tmp _ _ rfl) <| .cons (.tmp _ _ rfl) <| .nil,.cons _ (.refl _),?_⟩
    simp only [Ae,Ja]
    (first | rw [iN hc1] | skip);(first | rw [iN hc2] | skip)
    first | done | rfl
theorem c70 (s:Aq)(hl:s.length≤1048576):Ap Tryz.prog 304 [.str s] (.tuple [.int .u8 ((Io s).1.toNat:Int),.int .i64 (Io s).2]):=by
 refine Ap.body (n:=48) tok Tryz.func304 rfl rfl rfl fun H=>?_
 refine Ad ?_
 refine Qp (A6 (v:=.int .u8 _) rfl) ?_
 refine Qp A0 (Aa (AW.seq (AW.block (Ad (Qp Dh ?_)))))
 refine Qp (Bx tok rfl rfl rfl rfl) ?_
 refine Qp F6 (Qp Bq (Qg [] Qw Dh ?_))
 refine AOL.Aap (y:=.int .u8 _) _ [(11,_)] rfl (iB.all ⟨Ent.Aao _ _,trivial⟩) (fun hG=>Bs tok rfl rfl rfl rfl (by omega) (D6 (i:=1) (by have h9:=g1 hG;simp at h9;omega))) rfl ?_
 refine Qg [(12,_)] Qw Av (Qg [(13,_)] Qw Bq (Qg [] Qw Dh ?_))
 refine AOL.Aap (y:=.int .u8 _) _ [(15,_)] rfl (iB.all ⟨Ent.Aao _ _,trivial⟩) (fun hG=>Bs tok rfl rfl rfl rfl (by omega) (D6 (i:=1) (by have h9:=g1 hG;simp at h9;omega))) rfl ?_
 refine Qg [(16,_)] Qw Av (Qg [(14,_),(17,_)] Qw Cy (Qp Et (Qp A3 (Aa (Au (fun hc1=>?_) fun hc1=>?_)))))
 ·
  refine Ad (Qp Dh ?_)
  refine Qp (Bs tok rfl rfl rfl rfl (by omega) (D6 (i:=1) (by simp at hc1;omega))) ?_
  refine Qp (A6 (v:=.int .u8 _) rfl) ?_
  refine Qp A0 (Aa (AW.ret (Ao (Ai ?_))))
  refine L1 (.int .u8 _) (Iq _) ?_
  simp only [Ae,Io]
  (first | rw [if_pos hc1] | skip)
  first | done | rfl
 ·
  refine Ad (Qp Dh ?_)
  refine Qp (Bx tok rfl rfl rfl rfl) ?_
  refine Qp F6 (Qp Bq (Qg [] Qw Dh ?_))
  refine AOL.Aap (y:=.int .u8 _) _ [(27,_)] rfl (iB.all ⟨Ent.Aao _ _,trivial⟩) (fun hG=>Bs tok rfl rfl rfl rfl (by omega) (D6 (i:=1) (by have h9:=g1 hG;simp at h9;omega))) rfl ?_
  refine Qg [(28,_)] Qw Av (Qp Et (Qp A3 (Aa (Au (fun hc2=>?_) fun hc2=>?_))))
  ·
   refine AW.seq ?_
   refine AW.draw mixed (fun _=>True) trivial (by kernel_rfl) ?_
   refine Qn 0 rfl Dh ?_
   refine Qn 1 rfl (Bs tok rfl rfl rfl rfl (by omega) (D6 (i:=2) (by simp at hc2;omega))) ?_
   refine Qn 2 rfl (Qc rfl (k53 Nk _)) ?_
   refine Qn 3 rfl Dh ?_
   refine Qn 4 rfl (Bs tok rfl rfl rfl rfl (by omega) (D6 (i:=3) (by simp at hc2;omega))) ?_
   refine Qn 5 rfl (Qc rfl (k53 Nk _)) ?_
   refine Qn 6 rfl A0 (Qn 7 rfl A0 ?_)
   refine Hs.done _ _ (by kernel_rfl) ?_
   refine Af (Ad (Qp A4 (Qp F6 (Qp Bq (Qg [] Qw A4 (Qg [(40,_)] Qw F6 (Qp Et (Aa (Au (fun hc3=>?_) fun hc3=>?_)))))))))
   ·
    refine AW.seq ?_
    have hh1:=fH (bt s 2)
    have hh2:=fH (bt s 3)
    unfold Yd at hh1 hh2
    refine AW.region (Qp A4 ?_)
    refine Qp (vV rfl rfl rfl (by constructor <;> omega)) ?_
    refine Qp A4 (Qp Ei ?_)
    refine Qp (N5 (m:=((Ue (16*Yd (bt s 2)+Yd (bt s 3))).toNat:Int)) tok rfl rfl rfl rfl rfl (iX _)) ?_
    refine Qp (A6 (v:=.int .u8 _) rfl) ?_
    refine Qp A0 (Aa (AW.ret (Ao (Ai ?_))))
    refine L1 (.int .u8 _) (Iq _) ?_
    simp only [Ae,Io]
    (first | rw [iN hc1] | skip);(first | rw [if_pos hc2] | skip);(first | rw [if_pos hc3] | skip)
    first | done | rfl
   ·
    refine AW.skip (Bc (Af (Ad ?_)))
    refine Qp (A6 (v:=.int .u8 _) rfl) ?_
    refine Qp A0 (Aa (AW.ret ?_))
    refine L1 (.int .u8 _) (Iq _) ?_
    simp only [Ae,Io]
    (first | rw [iN hc1] | skip);(first | rw [if_pos hc2] | skip);(first | rw [iN hc3] | skip)
    first | done | rfl
  ·
   refine AW.skip (Bc (Af (Ad ?_)))
   refine Qp (A6 (v:=.int .u8 _) rfl) ?_
   refine Qp A0 (Aa (AW.ret ?_))
   refine L1 (.int .u8 _) (Iq _) ?_
   simp only [Ae,Io]
   (first | rw [iN hc1] | skip);(first | rw [iN hc2] | skip)
   first | done | rfl

end Go.Proofs.YtckhoadldibflaaGreatDoor
