/-
  Several texts in one: W13s, W13t. No condition.
-/
import Derived.Test.YtckhoadldibflaaGreatDoorK01
import Derived.Test.YtckhoadldibflaaGreatDoorW13r
import Derived.KernelRfl
import Derived.Test.YtckhoadldibflaaGreatDoorW13c
set_option linter.unusedVariables false
set_option linter.unusedSimpArgs false
namespace Go.Proofs.YtckhoadldibflaaGreatDoor
open Go Go.Aw
set_option maxHeartbeats 3200000
set_option maxRecDepth 20000

theorem O6 {n:Nat}(h:n<10):(Utf8.encode (48+(n:Int))).data.toList = [UInt8.ofNat (48+n)]:=by
 have:n=0∨n=1∨n=2∨n=3∨n=4∨n=5∨n=6∨n=7∨n=8∨n=9:=by omega
 rcases this with rfl | rfl | rfl | rfl | rfl | rfl | rfl | rfl | rfl | rfl <;> first | rfl | decide
theorem dL {n:Nat}(h:n<10):IntKind.i32.wrap (48+(n:Int))=48+(n:Int):=by
 have:n=0∨n=1∨n=2∨n=3∨n=4∨n=5∨n=6∨n=7∨n=8∨n=9:=by omega
 rcases this with rfl | rfl | rfl | rfl | rfl | rfl | rfl | rfl | rfl | rfl <;> first | rfl | decide
theorem iK {n m:Int}(h:n=m)(h2 : -1099511627776≤m∧m≤1099511627776):IntKind.i64.wrap n=m:=by
 subst h
 unfold IntKind.wrap IntKind.signed IntKind.bits
 simp only [↓reduceIte,Bool.true_and,decide_eq_true_eq,ge_iff_le]
 split <;> omega
theorem dO {n:Nat}(h:n≤1099511627776):(Lib.decDigits n).length≤21:=by
 have:=Lib.itoa_length_le (n:Int) (by omega) (by omega)
 rwa [show Lib.itoa (n:Int)=Lib.decDigits n by unfold Lib.itoa;rw [if_neg (by omega),Int.toNat_natCast]] at this
theorem fY {s:Aq}(hk:s=E3∨s=D3∨s=Da)(h1:s≠E3)(h2:s≠Da):s=D3:=by
 rcases hk with h | h | h
 · exact absurd h h1
 · exact h
 · exact absurd h h2
def pN (t:Syn):Prop:=Ap Tryz.prog 179 [.agg (cSyn t)] (.str (Ah t))∧(Ah t).length≤100000

theorem wF (n:Nat)(hn:n≤1099511627776):Ap Tryz.prog 246 [.int .i64 (n:Int)] (.str (Lib.decDigits n)):=by
 revert hn
 induction n using Nat.strongRecOn
 rename_i n ih
 intro hn
 refine Ap.body (n:=24) tok Tryz.func246 rfl rfl rfl fun H=>?_
 refine Ad (Qp Db (Aa (AW.seq (Ad (Qp A4 (Qp B7 (Aa (Au (fun hc1=>?_) fun hc1=>?_))))))))
 ·
  exfalso
  have:=of_decide_eq_true hc1
  omega
 ·
  refine Bl (AW.seq (Ad (Qp A4 (Qp B7 (Aa (Au (fun hc2=>?_) fun hc2=>?_))))))
  ·
   have h10:n<10:=by have:=of_decide_eq_true hc2;omega
   refine Ad (Qp A4 (Qp Ei ?_))
   refine Qp (N5 (m:=(48+(n:Int))) tok rfl rfl rfl rfl rfl (dL h10)) ?_
   refine Qp (Wo tok rfl rfl rfl rfl rfl rfl (by rw [O6 h10];simp [maxLen])) ?_
   refine Qp Db (Aa (Cx ?_))
   refine Qr (.str _) ?_
   have h9:Lib.decDigits n = [UInt8.ofNat (48+n)]:=by rw [Lib.decDigits,dif_pos h10]
   rw [h9,O6 h10];rfl
  ·
   have h10:¬n<10:=by have:=of_decide_eq_false hc2;omega
   have hm10:n % 10<10:=Nat.mod_lt _ (by decide)
   have hq:IntKind.i64.wrap (((n:Int)).tdiv 10)=((n / 10:Nat):Int):=by rw [Int.tdiv_eq_ediv_of_nonneg (by omega)];exact iK (by omega) (by omega)
   have hih:=ih (n / 10) (by omega) (by omega)
   rw [←hq] at hih
   have hdl:=dO (n:=n / 10) (by omega)
   have henc:=congrArg List.length (O6 hm10)
   have hr:((n:Int)).tmod 10=((n % 10:Nat):Int):=by rw [Int.tmod_eq_emod_of_nonneg (by omega)];omega
   refine Bl (Ad (Qp A4 ?_))
   refine Qp (cJ rfl rfl (by omega)) ?_
   refine Qp (Qc rfl (hih)) ?_
   refine Qp A4 ?_
   refine Qp (pB rfl rfl (by omega)) ?_
   refine Qp Ei ?_
   refine Qp (N5 (m:=(48+((n % 10:Nat):Int))) tok rfl rfl rfl rfl rfl (by rw [hr];exact dL hm10)) ?_
   refine Qp (Wo tok rfl rfl rfl rfl rfl rfl (by rw [O6 hm10];simp [maxLen])) ?_
   refine Qp (A2 rfl rfl rfl (by unfold maxLen;(try simp only [List.length_append,List.length_cons,List.length_nil] at *);omega)) ?_
   refine Qp Db (Aa (AW.ret ?_))
   refine Qr (.str _) ?_
   have h9:Lib.decDigits n=Lib.decDigits (n / 10) ++ [UInt8.ofNat (48+n % 10)]:=by rw [Lib.decDigits,dif_neg h10]
   rw [h9,O6 hm10];rfl
theorem xF (n:Int)(hn : -1099511627776≤n∧n<0):Ap Tryz.prog 246 [.int .i64 n] (.str (Lib.itoa n)):=by
 refine Ap.body (n:=24) tok Tryz.func246 rfl rfl rfl fun H=>?_
 refine Ad (Qp Db (Aa (AW.seq (Ad (Qp A4 (Qp B7 (Aa (Au (fun hc1=>?_) fun hc1=>?_))))))))
 ·
  have hneg:0-n=((n.natAbs:Nat):Int):=by omega
  have hih:=wF n.natAbs (by omega)
  rw [←hneg] at hih
  have hdl:=dO (n:=n.natAbs) (by omega)
  refine Ad (Qp A4 ?_)
  refine Qp (wI rfl rfl (by constructor <;> omega)) ?_
  refine Qp (Qc rfl (hih)) ?_
  refine Qp (A2 rfl rfl rfl (by unfold maxLen;(try simp only [List.length_append,List.length_cons,List.length_nil] at *);omega)) ?_
  refine Qp Db (Aa (Cx ?_))
  refine Qr (.str _) ?_
  have h9:Lib.itoa n=45::Lib.decDigits n.natAbs:=by unfold Lib.itoa;rw [if_pos hn.2]
  rw [h9];rfl
 ·
  exfalso
  have:=of_decide_eq_false hc1
  omega
theorem Wg (n:Int)(hn : -1099511627776≤n∧n≤1099511627776):Ap Tryz.prog 246 [.int .i64 n] (.str (Lib.itoa n)):=by
 by_cases h:n<0
 · exact xF n ⟨hn.1,h⟩
 ·
  have h1:=wF n.toNat (by omega)
  have h2:((n.toNat:Nat):Int)=n:=by omega
  rw [h2] at h1
  have h3:Lib.itoa n=Lib.decDigits n.toNat:=by unfold Lib.itoa;rw [if_neg h]
  rw [h3];exact h1
theorem cD (n:Int):Ap Tryz.prog 244 [.int .i64 n] (.str (Hp n)):=by
 refine Ap.body (n:=8) tok Tryz.func244 rfl rfl rfl fun H=>?_
 refine Ad (Qp Db (Aa (AW.seq (Ad (Qp A4 (Aa (AW.block (Ad (Qp Av ?_)))))))))
 refine Qp A3 (Aa (Au (fun hc1=>?_) fun hc1=>?_))
 ·
  refine Ad (Qp Db (Aa (AW.ret (Ao (Ai ?_)))))
  refine Qr (.str _) ?_
  simp only [Ae,Hp,hc1,↓reduceIte,Bool.false_eq_true]
 ·
  refine Ad (Qp Av (Qp A3 (Aa (Au (fun hc2=>?_) fun hc2=>?_))))
  ·
   refine Ad (Qp Db (Aa (AW.ret (Ao (Ai ?_)))))
   refine Qr (.str _) ?_
   simp only [Ae,Hp,hc1,hc2,↓reduceIte,Bool.false_eq_true]
  ·
   refine AW.skip (Bc (Af (Ad (Qp Db (Aa (AW.ret ?_))))))
   refine Qr (.str _) ?_
   simp only [Ae,Hp,hc1,hc2,↓reduceIte,Bool.false_eq_true]
theorem bN (n:Int):Ap Tryz.prog 250 [.int .i64 n] (.str (Fq n)):=by
 refine Ap.body (n:=16) tok Tryz.func250 rfl rfl rfl fun H=>?_
 refine Ad (Qp Db (Aa (AW.seq (Ad (Qp A4 (Aa (AW.block (Ad (Qp Av ?_)))))))))
 refine Qp A3 (Aa (Au (fun hc1=>?_) fun hc1=>?_))
 ·
  refine Ad (Qp Db (Aa (AW.ret (Ao (Ai ?_)))))
  refine Qr (.str _) ?_
  simp only [Ae,Fq,hc1,↓reduceIte,Bool.false_eq_true]
 ·
  refine Ad (Qp Av (Qp A3 (Aa (Au (fun hc2=>?_) fun hc2=>?_))))
  ·
   refine Ad (Qp Db (Aa (AW.ret (Ao (Ai ?_)))))
   refine Qr (.str _) ?_
   simp only [Ae,Fq,hc1,hc2,↓reduceIte,Bool.false_eq_true]
  ·
   refine Ad (Qp Av (Qp A3 (Aa (Au (fun hc3=>?_) fun hc3=>?_))))
   ·
    refine Ad (Qp Db (Aa (AW.ret (Ao (Ai ?_)))))
    refine Qr (.str _) ?_
    simp only [Ae,Fq,hc1,hc2,hc3,↓reduceIte,Bool.false_eq_true]
   ·
    refine Ad (Qp Av (Qp A3 (Aa (Au (fun hc4=>?_) fun hc4=>?_))))
    ·
     refine Ad (Qp Db (Aa (AW.ret (Ao (Ai ?_)))))
     refine Qr (.str _) ?_
     simp only [Ae,Fq,hc1,hc2,hc3,hc4,↓reduceIte,Bool.false_eq_true]
    ·
     refine Ad (Qp Av (Qp A3 (Aa (Au (fun hc5=>?_) fun hc5=>?_))))
     ·
      refine Ad (Qp Db (Aa (AW.ret (Ao (Ai ?_)))))
      refine Qr (.str _) ?_
      simp only [Ae,Fq,hc1,hc2,hc3,hc4,hc5,↓reduceIte,Bool.false_eq_true]
     ·
      refine Ad (Qp Av (Qp A3 (Aa (Au (fun hc6=>?_) fun hc6=>?_))))
      ·
       refine Ad (Qp Db (Aa (AW.ret (Ao (Ai ?_)))))
       refine Qr (.str _) ?_
       simp only [Ae,Fq,hc1,hc2,hc3,hc4,hc5,hc6,↓reduceIte,Bool.false_eq_true]
      ·
       refine AW.skip (Bc (Af (Ad (Qp Db (Aa (AW.ret ?_))))))
       refine Qr (.str _) ?_
       simp only [Ae,Fq,hc1,hc2,hc3,hc4,hc5,hc6,↓reduceIte,Bool.false_eq_true]
theorem aS (n:Int):Ap Tryz.prog 248 [.int .i64 n] (.str (Kk n)):=by
 refine Ap.body (n:=12) tok Tryz.func248 rfl rfl rfl fun H=>?_
 refine Ad (Qp Db (Aa (AW.seq (Ad (Qp A4 (Aa (AW.block (Ad (Qp Av ?_)))))))))
 refine Qp A3 (Aa (Au (fun hc1=>?_) fun hc1=>?_))
 ·
  refine Ad (Qp Db (Aa (AW.ret (Ao (Ai ?_)))))
  refine Qr (.str _) ?_
  simp only [Ae,Kk,hc1,↓reduceIte,Bool.false_eq_true]
 ·
  refine Ad (Qp Av (Qp A3 (Aa (Au (fun hc2=>?_) fun hc2=>?_))))
  ·
   refine Ad (Qp Db (Aa (AW.ret (Ao (Ai ?_)))))
   refine Qr (.str _) ?_
   simp only [Ae,Kk,hc1,hc2,↓reduceIte,Bool.false_eq_true]
  ·
   refine Ad (Qp Av (Qp A3 (Aa (Au (fun hc3=>?_) fun hc3=>?_))))
   ·
    refine Ad (Qp Db (Aa (AW.ret (Ao (Ai ?_)))))
    refine Qr (.str _) ?_
    simp only [Ae,Kk,hc1,hc2,hc3,↓reduceIte,Bool.false_eq_true]
   ·
    refine Ad (Qp Av (Qp A3 (Aa (Au (fun hc4=>?_) fun hc4=>?_))))
    ·
     refine Ad (Qp Db (Aa (AW.ret (Ao (Ai ?_)))))
     refine Qr (.str _) ?_
     simp only [Ae,Kk,hc1,hc2,hc3,hc4,↓reduceIte,Bool.false_eq_true]
    ·
     refine AW.skip (Bc (Af (Ad (Qp Db (Aa (AW.ret ?_))))))
     refine Qr (.str _) ?_
     simp only [Ae,Kk,hc1,hc2,hc3,hc4,↓reduceIte,Bool.false_eq_true]
theorem gH (n:Int):Ap Tryz.prog 251 [.int .i64 n] (.str (Iv n)):=by
 refine Ap.body (n:=16) tok Tryz.func251 rfl rfl rfl fun H=>?_
 refine Ad (Qp Db (Aa (AW.seq (Ad (Qp A4 (Aa (AW.block (Ad (Qp Av ?_)))))))))
 refine Qp A3 (Aa (Au (fun hc1=>?_) fun hc1=>?_))
 ·
  refine Ad (Qp Db (Aa (AW.ret (Ao (Ai ?_)))))
  refine Qr (.str _) ?_
  simp only [Ae,Iv,hc1,↓reduceIte,Bool.false_eq_true]
 ·
  refine Ad (Qp Av (Qp A3 (Aa (Au (fun hc2=>?_) fun hc2=>?_))))
  ·
   refine Ad (Qp Db (Aa (AW.ret (Ao (Ai ?_)))))
   refine Qr (.str _) ?_
   simp only [Ae,Iv,hc1,hc2,↓reduceIte,Bool.false_eq_true]
  ·
   refine Ad (Qp Av (Qp A3 (Aa (Au (fun hc3=>?_) fun hc3=>?_))))
   ·
    refine Ad (Qp Db (Aa (AW.ret (Ao (Ai ?_)))))
    refine Qr (.str _) ?_
    simp only [Ae,Iv,hc1,hc2,hc3,↓reduceIte,Bool.false_eq_true]
   ·
    refine Ad (Qp Av (Qp A3 (Aa (Au (fun hc4=>?_) fun hc4=>?_))))
    ·
     refine Ad (Qp Db (Aa (AW.ret (Ao (Ai ?_)))))
     refine Qr (.str _) ?_
     simp only [Ae,Iv,hc1,hc2,hc3,hc4,↓reduceIte,Bool.false_eq_true]
    ·
     refine Ad (Qp Av (Qp A3 (Aa (Au (fun hc5=>?_) fun hc5=>?_))))
     ·
      refine Ad (Qp Db (Aa (AW.ret (Ao (Ai ?_)))))
      refine Qr (.str _) ?_
      simp only [Ae,Iv,hc1,hc2,hc3,hc4,hc5,↓reduceIte,Bool.false_eq_true]
     ·
      refine Ad (Qp Av (Qp A3 (Aa (Au (fun hc6=>?_) fun hc6=>?_))))
      ·
       refine Ad (Qp Db (Aa (AW.ret (Ao (Ai ?_)))))
       refine Qr (.str _) ?_
       simp only [Ae,Iv,hc1,hc2,hc3,hc4,hc5,hc6,↓reduceIte,Bool.false_eq_true]
      ·
       refine AW.skip (Bc (Af (Ad (Qp Db (Aa (AW.ret ?_))))))
       refine Qr (.str _) ?_
       simp only [Ae,Iv,hc1,hc2,hc3,hc4,hc5,hc6,↓reduceIte,Bool.false_eq_true]
theorem V6 (t:Syn)(hn : -1099511627776≤t.num∧t.num≤1099511627776)(hx:t.text.length≤1048576)(hk:t.name=E3∨t.name=D3∨t.name=Da):Ap Tryz.prog 247 [.agg (cSyn t)] (.str (Iy t)):=by
 refine Ap.body (n:=24) tok Tryz.func247 rfl rfl rfl fun H=>?_
 refine Ad (Qp (Eu [Iq _,.str _,.str _,Iq _,_,Iq _]) (Qp Db (Aa (AW.seq (Ad (Qp (Qf [.str _,Iq _,_,Iq _]) (Qp Df ?_)))))))
 refine Qp (A5 rfl rfl) ?_
 refine Aa (Au (fun hc1=>?_) fun hc1=>?_)
 ·
  have hs:t.name=Da:=by simpa using hc1
  have e:Iy t=(N1 t.text).1:=by unfold Iy;rw [hs,kJ];rfl
  refine Ad (Qp (Qf [.str _,.str _,Iq _,_,Iq _]) (Qp Df ?_))
  refine Qp (Qc rfl (c25 t.text hx)) ?_
  refine Qp L0 (Qp pP (Qp Jw (Qp Db (Qp A0 (By (Qp Dh (Qp Db (Aa (Cx ?_)))))))))
  refine Qr (.str _) ?_
  rw [e];rfl
 ·
  have hs:t.name≠Da:=by simpa using hc1
  refine Bl (AW.seq (Ad (Qp (Qf [.str _,Iq _,_,Iq _]) (Qp Df ?_))))
  refine Qp (A5 rfl rfl) ?_
  refine Aa (Au (fun hc2=>?_) fun hc2=>?_)
  ·
   have e:Iy t=Lib.itoa t.num:=if_pos hc2
   refine Ad (Qp (Qf [Iq _,_,Iq _]) (Qp Bt ?_))
   refine Qp (Qc rfl (Wg t.num hn)) ?_
   refine Qp Db (Aa (Cx ?_))
   refine Qr (.str _) ?_
   rw [e];rfl
  ·
   have hb:t.name=D3:=fY hk (by simpa using hc2) hs
   have e:Iy t=if t.num==1 then J5 else Ik:=by unfold Iy;rw [hb];rfl
   refine Bl (AW.seq (Ad (Qp (Qf [Iq _,_,Iq _]) (Qp Bt (Qp Av (Aa (Au (fun hc3=>?_) fun hc3=>?_)))))))
   ·
    refine Ad (Qp Db (Aa (Cx ?_)))
    refine Qr (.str _) ?_
    rw [e,if_pos hc3];rfl
   ·
    refine Bl (Ad (Qp Db (Aa (AW.ret ?_))))
    refine Qr (.str _) ?_
    rw [e,Bu hc3];rfl
theorem kR (t:Syn)(f:Nat)(hf:f≤2)(hl:t.kids.length≤1000)(hn:∀x∈t.kids.drop f,pN x)(hb:(B3 ((t.kids.drop f).map Ah)).length≤100000):Ap Tryz.prog 252 [.agg (cSyn t),.int .i64 (f:Int)] (.str (B3 ((t.kids.drop f).map Ah))):=by
 refine Ap.body (n:=29) tok Tryz.func252 rfl rfl rfl fun H=>?_
 refine Ad (Qp (Eu [Iq _,.str _,.str _,Iq _,_,Iq _]) (Qp Db (By (Qp Db (Aa (AW.seq (Ad (Qp A4 (Qp A0 ?_)))))))))
 refine Aa (AW.block ?_)
 refine AW.Aat (fun (p:Nat×Aq)=>(⟨[(1,.int .i64 (f:Int)),(2,.ptr (cSyn t)),(5,.str p.2),(6,.int .i64 ((f+p.1:Nat):Int))],H,29⟩:St)) (fun (p:Nat×Aq)=>p.1≤t.kids.length∧p.2++O2 p.1 ((t.kids.drop f).map Ah)=B3 ((t.kids.drop f).map Ah)) (fun (p:Nat×Aq)=>t.kids.length-(f+p.1)) ((0,[])) ?_ (GS.weaken ⟨rfl,rfl,rfl,rfl,trivial⟩ (.refl _)) ?_
 · exact ⟨Nat.zero_le _,rfl⟩
 ·
  rintro p hR
  refine AW.seq (Ad (Qp A4 (Qp (Qf [_,Iq _]) (Qp Dg ?_))))
  refine Qp (Ax (n:=t.kids.length) tok rfl rfl rfl (by simp)) ?_
  refine Qp B7 (Aa (Au (fun hc1=>?_) fun hc1=>?_))
  ·
   obtain ⟨x,hx⟩:=aX (l:=t.kids) (k:=f+p.1) (by have:=of_decide_eq_true hc1;omega)
   have hlt:=Jr hx
   have hxd:(t.kids.drop f)[p.1]? = some x:=by rw [List.getElem?_drop];exact hx
   have hnx:=hn x (List.mem_of_getElem? hxd)
   have hle:=congrArg List.length hR.2
   simp only [List.length_append] at hle
   have hwx:=hnx.2
   refine Bl (AW.seq (AW.block (AW.seq (Ad (Qp A4 (Qp A4 (Qp D2 (Aa (Au (fun hc2=>?_) fun hc2=>?_)))))))))
   ·
    have hr:=fK (Vf hxd) (by have:=of_decide_eq_true hc2;omega)
    rw [hr] at hle
    simp only [List.length_append,List.length_cons,List.length_nil] at hle
    refine AW.region (Qp Dh ?_)
    refine Qp (A2 rfl rfl rfl (by unfold maxLen;(try simp only [List.length_append,List.length_cons,List.length_nil] at *);omega)) ?_
    refine Qp Db (Aa (AW.region (Qp Dh (Qp (Qf [_,Iq _]) (Qp Dg (Qp A4 ?_))))))
    refine Qp (Ag (c:=[Iq _,.str _,.str _,Iq _,_,Iq _]) tok rfl rfl rfl rfl rfl rfl (by omega) (B6 hx)) ?_
    refine Qp (B2 [Iq _,.str _,.str _,Iq _,_,Iq _]) ?_
    refine Qp (Qc rfl (hnx.1)) ?_
    refine Qp (A2 rfl rfl rfl (by unfold maxLen;(try simp only [List.length_append,List.length_cons,List.length_nil] at *);omega)) ?_
    refine Qp Db (AOL.nil (Bc (Af (AW.region (Qp A4 (Qp Ei (Qp A0 (Aa ?_))))))))
    refine ⟨(p.1+1,(p.2 ++ [44,32])++Ah x),?_,?_,GS.weaken ⟨rfl,rfl,rfl,rfl,trivial⟩ (.refl _)⟩
    · exact ⟨by omega,by rw [←hR.2,hr];simp⟩
    · simp only;omega
   ·
    have h0:p.1=0:=by have:=of_decide_eq_false hc2;omega
    have hr:=fD (ws:=(t.kids.drop f).map Ah) (by have:=Vf hxd;rwa [h0] at this)
    rw [h0,hr] at hle
    simp only [List.length_append] at hle
    refine Bl (AW.region (Qp Dh (Qp (Qf [_,Iq _]) (Qp Dg (Qp A4 ?_)))))
    refine Qp (Ag (c:=[Iq _,.str _,.str _,Iq _,_,Iq _]) tok rfl rfl rfl rfl rfl rfl (by omega) (B6 hx)) ?_
    refine Qp (B2 [Iq _,.str _,.str _,Iq _,_,Iq _]) ?_
    refine Qp (Qc rfl (hnx.1)) ?_
    refine Qp (A2 rfl rfl rfl (by unfold maxLen;(try simp only [List.length_append,List.length_cons,List.length_nil] at *);omega)) ?_
    refine Qp Db (AOL.nil (Bc (Af (AW.region (Qp A4 (Qp Ei (Qp A0 (Aa ?_))))))))
    refine ⟨(p.1+1,p.2++Ah x),?_,?_,GS.weaken ⟨rfl,rfl,rfl,rfl,trivial⟩ (.refl _)⟩
    · exact ⟨by omega,by rw [←hR.2,h0,hr];simp⟩
    · simp only;omega
  ·
   have hk:((t.kids.drop f).map Ah).length≤p.1:=by have:=of_decide_eq_false hc1;rw [List.length_map,List.length_drop];omega
   refine AW.exit ?_
   refine A7 (A7 (Bp (Af (Ad (Qp Dh (Qp Db (Aa (AW.ret ?_))))))))
   refine Qr (.str _) ?_
   have h9:B3 ((t.kids.drop f).map Ah)=p.2:=by rw [←hR.2,Vk hk,List.append_nil]
   rw [h9];rfl
theorem Rj (p t:Syn)(ht:pN t):Ap Tryz.prog 249 [.agg (cSyn p),.agg (cSyn t)] (.str (Dp p t (Ah t))):=by
 have hwx:=ht.2
 refine Ap.body (n:=15) tok Tryz.func249 rfl rfl rfl fun H=>?_
 refine Ad (Qp (Eu [Iq _,.str _,.str _,Iq _,_,Iq _]) (Qp (Eu [Iq _,.str _,.str _,Iq _,_,Iq _]) (Qp Db (By (Qp (B2 [Iq _,.str _,.str _,Iq _,_,Iq _]) ?_)))))
 refine Qp (Qc rfl (ht.1)) ?_
 refine Qp Db (Aa (AW.seq (Ad (Qp (B2 [Iq _,.str _,.str _,Iq _,_,Iq _]) (Qp (B2 [Iq _,.str _,.str _,Iq _,_,Iq _]) ?_)))))
 refine Qp (Qc rfl (Y0 p t)) ?_
 refine Aa (Au (fun hc1=>?_) fun hc1=>?_)
 ·
  refine Ad (Qp Dh ?_)
  refine Qp (A2 rfl rfl rfl (by unfold maxLen;(try simp only [List.length_append,List.length_cons,List.length_nil] at *);omega)) ?_
  refine Qp (A2 rfl rfl rfl (by unfold maxLen;(try simp only [List.length_append,List.length_cons,List.length_nil] at *);omega)) ?_
  refine Qp Db (Aa (Cx ?_))
  refine Qr (.str _) ?_
  have h9:Dp p t (Ah t) = [40]++Ah t ++ [41]:=if_pos hc1
  rw [h9];rfl
 ·
  refine Bl (Ad (Qp Dh (Qp Db (Aa (AW.ret ?_)))))
  refine Qr (.str _) ?_
  have h9:Dp p t (Ah t)=Ah t:=Bu hc1
  rw [h9];rfl

set_option maxHeartbeats 3200000
set_option maxRecDepth 20000

theorem Yq {α:Type}{l:List α}(h:((l.length:Int)==0)=true):¬0<l.length:=by simp only [beq_iff_eq] at h;omega
theorem dP {α:Type}{l:List α}(h:((l.length:Int)==0)=false):0<l.length:=by simp only [beq_eq_false_iff_ne,ne_eq] at h;omega
theorem mW {t:Syn}:(t.kids.map Ah == [])=true↔¬0<t.kids.length:=by
 cases hq:t.kids <;> simp
theorem mY {t:Syn}(hk:t.kind=1)(h:¬0<t.kids.length):Ah t = [116,121,112,101,32]++t.text ++ [32,123,125,10]:=by
 rw [Cn];unfold Cp;rw [hk]
 show I5 ++ [32]++t.text ++ [32,123]++(if (t.kids.map Ah == [])=true then [] else [32]++B3 (t.kids.map Ah) ++ [32]) ++ [125,10]=_
 rw [if_pos (mW.2 h)];simp
theorem lR {t:Syn}(hk:t.kind=1)(h:0<t.kids.length):Ah t = [116,121,112,101,32]++t.text ++ [32,123,32]++B3 (t.kids.map Ah) ++ [32,125,10]:=by
 rw [Cn];unfold Cp;rw [hk]
 show I5 ++ [32]++t.text ++ [32,123]++(if (t.kids.map Ah == [])=true then [] else [32]++B3 (t.kids.map Ah) ++ [32]) ++ [125,10]=_
 rw [if_neg (fun e=>(mW.1 e) h)];simp
theorem nC {t q0 q1:Syn}{r:List Syn}(hk:t.kind=3)(hq:t.kids=q0::q1::r):Ah t=([113,117,101,114,121,32]++t.text++(if !(q0.text == []) then [32,98,121,32]++q0.text else [])) ++ [10,109,97,116,99,104,32]++Ah q1 ++ [10,114,101,116,117,114,110,32]++B3 (r.map Ah) ++ [59,10]:=by
 rw [Cn];unfold Cp;rw [hk]
 show Fk ++ [32]++t.text++(if ((Bn t 0).text == [])=true then [] else [32]++T7 ++ [32]++(Bn t 0).text) ++ [10]++Gd ++ [32]++(t.kids.map Ah).getD 1 [] ++ [10]++Fw ++ [32]++B3 ((t.kids.map Ah).drop 2) ++ [59,10]=_
 have k0:Bn t 0=q0:=by unfold Bn;rw [hq];rfl
 rw [k0,hq]
 show Fk ++ [32]++t.text++(if (q0.text == [])=true then [] else [32]++T7 ++ [32]++q0.text) ++ [10]++Gd ++ [32]++Ah q1 ++ [10]++Fw ++ [32]++B3 (r.map Ah) ++ [59,10]=_
 cases hc:(q0.text == [])
 · simp
 · simp
theorem zE {t:Syn}(hk:t.kind=5)(h:¬0<t.kids.length):Ah t=t.text ++ [32]++t.name:=by
 rw [Cn];unfold Cp;rw [hk]
 show t.text ++ [32]++t.name++(if (t.kids.map Ah == [])=true then [] else [32]++Rp ++ [32]++(t.kids.map Ah).getD 0 [])=_
 rw [if_pos (mW.2 h)];simp
theorem xP {t x:Syn}(hk:t.kind=5)(h0:t.kids[0]? = some x):Ah t=t.text ++ [32]++t.name ++ [32,105,102,32]++Ah x:=by
 rw [Cn];unfold Cp;rw [hk]
 show t.text ++ [32]++t.name++(if (t.kids.map Ah == [])=true then [] else [32]++Rp ++ [32]++(t.kids.map Ah).getD 0 [])=_
 have h1:(t.kids.map Ah).getD 0 []=Ah x:=by rw [List.getD_eq_getElem?_getD,List.getElem?_map,h0];rfl
 rw [if_neg (fun e=>(mW.1 e) (Jr h0)),h1];simp
theorem rQ {t:Syn}(hk:t.kind=16)(h:¬0<t.kids.length):Ah t=Kk t.num ++ [40]++t.text ++ [46]++t.name ++ [41]:=by
 rw [Cn];unfold Cp;rw [hk]
 show Kk t.num ++ [40]++t.text ++ [46]++t.name++(if (t.kids.map Ah == [])=true then [] else [44,32]++(t.kids.map Ah).getD 0 []) ++ [41]=_
 rw [if_pos (mW.2 h)];simp
theorem tC {t x:Syn}(hk:t.kind=16)(h0:t.kids[0]? = some x):Ah t=Kk t.num ++ [40]++t.text ++ [46]++t.name++([44,32]++Ah x) ++ [41]:=by
 rw [Cn];unfold Cp;rw [hk]
 show Kk t.num ++ [40]++t.text ++ [46]++t.name++(if (t.kids.map Ah == [])=true then [] else [44,32]++(t.kids.map Ah).getD 0 []) ++ [41]=_
 have h1:(t.kids.map Ah).getD 0 []=Ah x:=by rw [List.getD_eq_getElem?_getD,List.getElem?_map,h0];rfl
 rw [if_neg (fun e=>(mW.1 e) (Jr h0)),h1]
theorem oS {t:Syn}(hk:t.kind=13):Ah t=Iy t:=by rw [Cn];unfold Cp;rw [hk];rfl
theorem yA {t x y:Syn}(hk:t.kind=17)(hq:t.kids = [x,y]):Ah t=Dp t x (Ah x) ++ [32]++Fq t.num ++ [32]++Dp t y (Ah y):=by
 rw [Cn];unfold Cp;rw [hk]
 show Dp t (Bn t 0) ((t.kids.map Ah).getD 0 []) ++ [32]++Fq t.num ++ [32]++Dp t (Bn t 1) ((t.kids.map Ah).getD 1 [])=_
 have k0:Bn t 0=x:=by unfold Bn;rw [hq];rfl
 have k1:Bn t 1=y:=by unfold Bn;rw [hq];rfl
 rw [k0,k1,hq];rfl
theorem zR {t x:Syn}(hk:t.kind=18)(hq:t.kids = [x]):Ah t = [110,111,116,32]++Dp t x (Ah x):=by
 rw [Cn];unfold Cp;rw [hk]
 show Rb ++ [32]++Dp t (Bn t 0) ((t.kids.map Ah).getD 0 [])=_
 have k0:Bn t 0=x:=by unfold Bn;rw [hq];rfl
 rw [k0,hq];rfl
theorem iW {t x:Syn}(hk:t.kind=11)(hq:t.kids = [x]):Ah t = [119,105,116,104,105,110,40]++Ah x ++ [44,32]++Lib.itoa t.num ++ [41]:=by
 rw [Cn];unfold Cp;rw [hk,hq]
 show Fr ++ [40]++Ah x++([44,32]++Lib.itoa t.num) ++ [41]=_
 simp
theorem tL {t:Syn}(h0:0≤t.kind)(h18:t.kind≤18)(hn:t.kind≠0∧t.kind≠1∧t.kind≠2∧t.kind≠3∧t.kind≠5∧t.kind≠11∧t.kind≠13∧t.kind≠14∧t.kind≠15∧t.kind≠16∧t.kind≠17∧t.kind≠18):Ah t=Iv t.kind ++ [40]++B3 (t.kids.map Ah) ++ [41]:=by
 have e:∀k:Int,t.kind≠k→¬(t.kind==k)=true:=fun k h=>by simpa using h
 obtain ⟨a,b,c,d,f,g,h,i,j,k,l,m⟩:=hn
 rw [Cn];unfold Cp
 rw [if_neg (e _ a),if_neg (e _ b),if_neg (e _ c),if_neg (e _ d),if_neg (e _ f),if_neg (e _ h),if_neg (e _ i),if_neg (e _ j),if_neg (e _ k),if_neg (e _ l),if_neg (e _ m),if_neg (e _ g),List.append_nil]
theorem Wl {t:Syn}(hf:Cu t=0)(hk:t.kind=13):t.name=E3∨t.name=D3∨t.name=Da:=by
 unfold Cu at hf
 rw [hk] at hf
 replace hf:Er t=0:=hf
 unfold Er at hf
 split at hf
 · rename_i h;exact .inl (by simpa using h)
 ·
  split at hf
  · rename_i h;exact .inr (.inl (by simpa using h))
  ·
   split at hf
   · rename_i h;exact .inr (.inr (by simpa using h))
   · cases hf
theorem eY (t:Syn)(hl:t.kids.length≤1000)(hn:∀x∈t.kids,pN x)(hb:(B3 (t.kids.map Ah)).length≤100000):Ap Tryz.prog 252 [.agg (cSyn t),.int .i64 0] (.str (B3 (t.kids.map Ah))):=kR t 0 (by omega) hl hn hb

theorem cS (t:Syn)(hk:t.kind=1)(hl:t.kids.length≤1000)(hx:t.text.length≤80)(hn:∀x∈t.kids,pN x)(hb:(Ah t).length≤100000):Ap Tryz.prog 243 [.agg (cSyn t)] (.str (Ah t)):=by
 refine Ap.body (n:=19) tok Tryz.func243 rfl rfl rfl fun H=>?_
 refine Ad (Qp (Eu [Iq _,.str _,.str _,Iq _,_,Iq _]) (Qp Db (Aa (AW.seq (Ad (Qp (Qf [_,Iq _]) (Qp Dg ?_)))))))
 refine Qp (Ax (n:=t.kids.length) tok rfl rfl rfl (by simp)) ?_
 refine Qp Av (Aa (Au (fun hc1=>?_) fun hc1=>?_))
 ·
  have e:=mY hk (Yq hc1)
  refine Ad (Qp (Qf [.str _,.str _,Iq _,_,Iq _]) (Qp Df ?_))
  refine Qp (A2 rfl rfl rfl (by unfold maxLen;(try simp only [List.length_append,List.length_cons,List.length_nil]);omega)) ?_
  refine Qp (A2 rfl rfl rfl (by unfold maxLen;(try simp only [List.length_append,List.length_cons,List.length_nil]);omega)) ?_
  refine Qp Db (Aa (Cx ?_))
  refine Qr (.str _) ?_
  rw [e];rfl
 ·
  have h0:=dP hc1
  have e:=lR hk h0
  have hb2:=hb
  rw [e] at hb2
  simp only [List.length_append,List.length_cons,List.length_nil] at hb2
  refine Bl (AW.seq ?_)
  refine AW.draw mixed (fun _=>True) trivial (by kernel_rfl) ?_
  refine Qn 0 rfl (Qf [.str _,.str _,Iq _,_,Iq _]) (Qn 1 rfl Df ?_)
  refine Qn 2 rfl (A2 rfl rfl rfl (by unfold maxLen;(try simp only [List.length_append,List.length_cons,List.length_nil]);omega)) ?_
  refine Qn 3 rfl (A2 rfl rfl rfl (by unfold maxLen;(try simp only [List.length_append,List.length_cons,List.length_nil]);omega)) ?_
  refine Qn 4 rfl (B2 [Iq _,.str _,.str _,Iq _,_,Iq _]) ?_
  refine Qn 5 rfl (Qc rfl (eY t hl hn (by omega))) ?_
  refine Qn 6 rfl (A2 rfl rfl rfl (by unfold maxLen;(try simp only [List.length_append,List.length_cons,List.length_nil]);omega)) ?_
  refine Qn 7 rfl (A2 rfl rfl rfl (by unfold maxLen;(try simp only [List.length_append,List.length_cons,List.length_nil]);omega)) ?_
  refine Qn 8 rfl Db ?_
  refine Hs.done _ _ (by kernel_rfl) ?_
  refine Af (AW.ret ?_)
  refine Qr (.str _) ?_
  rw [e];rfl
theorem qQ (t q0 q1:Syn)(r:List Syn)(hk:t.kind=3)(hq:t.kids=q0::q1::r)(hl:t.kids.length≤1000)(hx:t.text.length≤80)(hx0:q0.text.length≤80)(h1:pN q1)(hn:∀x∈r,pN x)(hb:(Ah t).length≤100000):Ap Tryz.prog 245 [.agg (cSyn t)] (.str (Ah t)):=by
 have e:=nC hk hq
 have hb2:=hb
 rw [e] at hb2
 simp only [List.length_append,List.length_cons,List.length_nil] at hb2
 have hw1:=h1.2
 have hlist:=kR t 2 (by omega) hl (by rw [hq];exact hn) (by rw [hq];show (B3 (r.map Ah)).length≤100000;omega)
 rw [hq] at hlist
 replace hlist:Ap Tryz.prog 252 [.agg (cSyn t),.int .i64 2] (.str (B3 (r.map Ah))):=by rw [hq] at *;exact hlist
 refine Ap.body (n:=34) tok Tryz.func245 rfl rfl rfl fun H=>?_
 refine Ad (Qp (Eu [Iq _,.str _,.str _,Iq _,_,Iq _]) (Qp Db (By (Qp (Qf [.str _,.str _,Iq _,_,Iq _]) (Qp Df ?_)))))
 refine Qp (A2 rfl rfl rfl (by unfold maxLen;(try simp only [List.length_append,List.length_cons,List.length_nil]);omega)) ?_
 refine Qp Db (Aa (AW.seq (Ad (Qp (Qf [_,Iq _]) (Qp Dg ?_)))))
 refine Qp (Ag (c:=[Iq _,.str _,.str _,Iq _,_,Iq _]) tok rfl rfl rfl rfl rfl rfl (by decide) (B6 (k:=0) (a:=q0) (by rw [hq];rfl))) ?_
 refine Qp (Qf [.str _,.str _,Iq _,_,Iq _]) (Qp Df ?_)
 refine Qp (Cr rfl rfl) ?_
 refine Aa (Au (fun hc1=>?_) fun hc1=>?_)
 ·
  rw [if_pos hc1] at e
  refine AW.region (Qp Dh (Qp (Qf [_,Iq _]) (Qp Dg ?_)))
  refine Qp (Ag (c:=[Iq _,.str _,.str _,Iq _,_,Iq _]) tok rfl rfl rfl rfl rfl rfl (by decide) (B6 (k:=0) (a:=q0) (by rw [hq];rfl))) ?_
  refine Qp (Qf [.str _,.str _,Iq _,_,Iq _]) (Qp Df ?_)
  refine Qp (A2 rfl rfl rfl (by unfold maxLen;(try simp only [List.length_append,List.length_cons,List.length_nil]);omega)) ?_
  refine Qp (A2 rfl rfl rfl (by unfold maxLen;(try simp only [List.length_append,List.length_cons,List.length_nil]);omega)) ?_
  refine Qp Db (Aa (AW.seq ?_))
  refine AW.draw mixed (fun _=>True) trivial (by kernel_rfl) ?_
  refine Qn 0 rfl Dh ?_
  refine Qn 1 rfl (A2 rfl rfl rfl (by unfold maxLen;(try simp only [List.length_append,List.length_cons,List.length_nil]);omega)) ?_
  refine Qn 2 rfl (Qf [_,Iq _]) (Qn 3 rfl Dg ?_)
  refine Qn 4 rfl (Ag (c:=[Iq _,.str _,.str _,Iq _,_,Iq _]) tok rfl rfl rfl rfl rfl rfl (by decide) (B6 (k:=1) (a:=q1) (by rw [hq];rfl))) ?_
  refine Qn 5 rfl (B2 [Iq _,.str _,.str _,Iq _,_,Iq _]) ?_
  refine Qn 6 rfl (Qc rfl (h1.1)) ?_
  refine Qn 7 rfl (A2 rfl rfl rfl (by unfold maxLen;(try simp only [List.length_append,List.length_cons,List.length_nil]);omega)) ?_
  refine Qn 8 rfl (A2 rfl rfl rfl (by unfold maxLen;(try simp only [List.length_append,List.length_cons,List.length_nil]);omega)) ?_
  refine Qn 9 rfl (B2 [Iq _,.str _,.str _,Iq _,_,Iq _]) ?_
  refine Qn 10 rfl (Qc rfl (hlist)) ?_
  refine Qn 11 rfl (A2 rfl rfl rfl (by unfold maxLen;(try simp only [List.length_append,List.length_cons,List.length_nil]);omega)) ?_
  refine Qn 12 rfl (A2 rfl rfl rfl (by unfold maxLen;(try simp only [List.length_append,List.length_cons,List.length_nil]);omega)) ?_
  refine Qn 13 rfl Db ?_
  refine Hs.done _ _ (by kernel_rfl) ?_
  refine Af (AW.ret ?_)
  refine Qr (.str _) ?_
  rw [e];simp only [List.append_assoc];rfl
 ·
  rw [Bu hc1] at e
  refine Bl (AW.seq ?_)
  refine AW.draw mixed (fun _=>True) trivial (by kernel_rfl) ?_
  refine Qn 0 rfl Dh ?_
  refine Qn 1 rfl (A2 rfl rfl rfl (by unfold maxLen;(try simp only [List.length_append,List.length_cons,List.length_nil]);omega)) ?_
  refine Qn 2 rfl (Qf [_,Iq _]) (Qn 3 rfl Dg ?_)
  refine Qn 4 rfl (Ag (c:=[Iq _,.str _,.str _,Iq _,_,Iq _]) tok rfl rfl rfl rfl rfl rfl (by decide) (B6 (k:=1) (a:=q1) (by rw [hq];rfl))) ?_
  refine Qn 5 rfl (B2 [Iq _,.str _,.str _,Iq _,_,Iq _]) ?_
  refine Qn 6 rfl (Qc rfl (h1.1)) ?_
  refine Qn 7 rfl (A2 rfl rfl rfl (by unfold maxLen;(try simp only [List.length_append,List.length_cons,List.length_nil]);omega)) ?_
  refine Qn 8 rfl (A2 rfl rfl rfl (by unfold maxLen;(try simp only [List.length_append,List.length_cons,List.length_nil]);omega)) ?_
  refine Qn 9 rfl (B2 [Iq _,.str _,.str _,Iq _,_,Iq _]) ?_
  refine Qn 10 rfl (Qc rfl (hlist)) ?_
  refine Qn 11 rfl (A2 rfl rfl rfl (by unfold maxLen;(try simp only [List.length_append,List.length_cons,List.length_nil]);omega)) ?_
  refine Qn 12 rfl (A2 rfl rfl rfl (by unfold maxLen;(try simp only [List.length_append,List.length_cons,List.length_nil]);omega)) ?_
  refine Qn 13 rfl Db ?_
  refine Hs.done _ _ (by kernel_rfl) ?_
  refine Af (AW.ret ?_)
  refine Qr (.str _) ?_
  rw [e];simp only [List.append_nil,List.append_assoc];rfl

end Go.Proofs.YtckhoadldibflaaGreatDoor
