/-
  Several texts in one: EW5, EW6, EW8, EW9, EW10, EW25, R24w, G14, Ab. No condition.
-/
import Derived.Test.YtckhoadldibflaaGreatDoorK01
import Derived.Test.YtckhoadldibflaaGreatDoorK16
import Derived.Test.YtckhoadldibflaaGreatDoorK02
import Derived.KernelRfl
import Derived.Test.YtckhoadldibflaaGreatDoorK10
import Derived.Test.YtckhoadldibflaaGreatDoorK08
import Derived.Test.YtckhoadldibflaaGreatDoorK11
import Derived.Test.YtckhoadldibflaaGreatDoorAx
import Derived.Test.YtckhoadldibflaaGreatDoorCards
import Derived.Test.YtckhoadldibflaaGreatDoorTie
import Derived.Test.YtckhoadldibflaaGreatDoorK03
import Derived.Test.YtckhoadldibflaaGreatDoorK07
import Derived.Deep.DeepHandedRow
import Derived.Lib.LaidTab
import Derived.OpenShut
set_option linter.unusedVariables false
set_option linter.unusedSimpArgs false
namespace Go.Proofs.YtckhoadldibflaaGreatDoor
open Go Go.Aw
set_option maxHeartbeats 400000
set_option maxRecDepth 20000

theorem c71 (op:Int)(ks:List Int):Ap Tryz.prog 120 [.int .i64 op,.sl 1 (ks.map fun k=>[.int .i64 k])] (.int .i64 (Fs op ks)):=by
 refine Ap.body (n:=38) tok Tryz.func120 rfl rfl rfl fun H=>?_
 refine Ae (Qp Al (Ag (Bk (Qp G4 ?_))));refine Qp (Ah (n:=ks.length) tok rfl rfl rfl (by simp)) ?_;refine Qp Ao (Ag (AW.block ?_));refine AW.sllen 8 rfl fun hlen=>?_
 simp only [Dx,maxLen] at hlen;refine AW.Aag (fun (p:Nat)=>(⟨[(0,.int .i64 op),(1,.sl 1 (ks.map fun k=>[.int .i64 k])),(8,.sl 1 (ks.map fun k=>[.int .i64 k])),(9,.int .i64 ks.length),(10,.int .i64 (p:Int))],H,38⟩:St)) (fun p=>p≤ks.length∧Fs op ks=A2 (fun k=>if Kj op k (ks.headD 0) then 0 else 9) (ks.drop p)) (fun p=>ks.length-p) (0) ?_ Cs ?_
 · exact ⟨E2 _,rfl⟩
 rintro p hR;refine Ae (Qp Bx (Re (Aq (fun hc1=>?_) fun hc1=>?_)))
 ·
  obtain ⟨a,ha⟩:=Cc hc1;have hlt:=Bu ha;have hm:=B4 ha;obtain ⟨a0,ha0⟩:∃a0,ks[0]? = some a0:=⟨_,List.getElem?_eq_getElem (by omega)⟩;have hhd:ks.headD 0=a0:=by cases ks <;> simp_all
  refine Bg (AW.seq (AW.block (Ae ?_)));refine Qp (Aa (c:=[Iq _]) tok rfl rfl rfl rfl rfl rfl (by omega) (Dv (f:=fun k=>[AV.int .i64 k]) ha)) ?_;refine Qp Bi (Qp Al (Bs (Qp A0 (Ag ?_))));refine AW.Aak (fun (_:Unit)=>(⟨[(0,.int .i64 op),(1,.sl 1 (ks.map fun k=>[.int .i64 k])),(8,.sl 1 (ks.map fun k=>[.int .i64 k])),(9,.int .i64 ks.length),(10,.int .i64 (p:Int)),(7,.bool (Kj op a a0))],H,38⟩:St)) (fun _=>True) ?_ ?_
  ·
   refine Ae (Qp Ao (Ag (AW.block ?_)));refine AW.Aak (fun (_:Unit)=>(⟨[(0,.int .i64 op),(1,.sl 1 (ks.map fun k=>[.int .i64 k])),(6,.int .i64 a),(7,.bool true),(8,.sl 1 (ks.map fun k=>[.int .i64 k])),(9,.int .i64 ks.length),(10,.int .i64 (p:Int)),(14,.int .i64 op),(15,.bool (op==5||op==6||op==7||op==8))],H,38⟩:St)) (fun _=>True) ?_ ?_
   ·
    refine Ae (Qp Av (Qp A0 (Ag (Aq (fun hc2=>?_) fun hc2=>?_))))
    ·
     refine Bg ?_;refine ⟨(),?_,GS.weaken ⟨rfl,rfl,rfl,rfl,rfl,rfl,rfl,rfl,congrArg AV.bool (by simp [Kj, *]),trivial⟩ (.refl _)⟩
     trivial
    refine Ae (Qp Av (Qp A0 (Ag (Aq (fun hc3=>?_) fun hc3=>?_))))
    ·
     refine Bg ?_;refine ⟨(),?_,GS.weaken ⟨rfl,rfl,rfl,rfl,rfl,rfl,rfl,rfl,congrArg AV.bool (by simp [Kj, *]),trivial⟩ (.refl _)⟩
     trivial
    refine Ae (Qp Av (Qp A0 (Ag (Aq (fun hc4=>?_) fun hc4=>?_))))
    ·
     refine Bg ?_;refine ⟨(),?_,GS.weaken ⟨rfl,rfl,rfl,rfl,rfl,rfl,rfl,rfl,congrArg AV.bool (by simp [Kj, *]),trivial⟩ (.refl _)⟩
     trivial
    refine AW.region (Qp Av (Qp A0 (Ag ?_)));refine ⟨(),?_,GS.weaken ⟨rfl,rfl,rfl,rfl,rfl,rfl,rfl,rfl,congrArg AV.bool (by simp [Kj, *]),trivial⟩ (.refl _)⟩
    trivial
   rintro _ _;refine Aq (fun hc5=>?_) fun hc5=>?_
   ·
    refine AW.region (Qp Ao (Qp Av (Qp A0 (Rk ?_))));refine ⟨(),?_,GS.weaken ⟨rfl,rfl,rfl,rfl,rfl,congrArg AV.bool (by simp [Kj, *]),trivial⟩ (.refl _)⟩
    trivial
   refine AW.Aak (fun (_:Unit)=>(⟨[(0,.int .i64 op),(1,.sl 1 (ks.map fun k=>[.int .i64 k])),(6,.int .i64 a),(7,.bool true),(8,.sl 1 (ks.map fun k=>[.int .i64 k])),(9,.int .i64 ks.length),(10,.int .i64 (p:Int)),(14,.int .i64 op),(22,.bool (op==10||op==11||op==12))],H,38⟩:St)) (fun _=>True) ?_ ?_
   ·
    refine Ae (Qp Av (Qp A0 (Ag (Aq (fun hc6=>?_) fun hc6=>?_))))
    ·
     refine Bg ?_;refine ⟨(),?_,GS.weaken ⟨rfl,rfl,rfl,rfl,rfl,rfl,rfl,rfl,congrArg AV.bool (by simp [Kj, *]),trivial⟩ (.refl _)⟩
     trivial
    refine Ae (Qp Av (Qp A0 (Ag (Aq (fun hc7=>?_) fun hc7=>?_))))
    ·
     refine Bg ?_;refine ⟨(),?_,GS.weaken ⟨rfl,rfl,rfl,rfl,rfl,rfl,rfl,rfl,congrArg AV.bool (by simp [Kj, *]),trivial⟩ (.refl _)⟩
     trivial
    refine AW.region (Qp Av (Qp A0 (Ag ?_)));refine ⟨(),?_,GS.weaken ⟨rfl,rfl,rfl,rfl,rfl,rfl,rfl,rfl,congrArg AV.bool (by simp [Kj, *]),trivial⟩ (.refl _)⟩
    trivial
   rintro _ _;refine Aq (fun hc8=>?_) fun hc8=>?_
   ·
    refine AW.region (Qp Ao (Qp Av (Qp A0 (Rk ?_))));refine ⟨(),?_,GS.weaken ⟨rfl,rfl,rfl,rfl,rfl,congrArg AV.bool (by simp [Kj, *]),trivial⟩ (.refl _)⟩
    trivial
   refine Ae (Qp Av (Qp A0 (Ag (Aq (fun hc9=>?_) fun hc9=>?_))))
   ·
    refine AW.region (Qp Ao (Qp G4 ?_));refine Qp (Aa (c:=[Iq _]) tok rfl rfl rfl rfl rfl rfl (by omega) (Dv (f:=fun k=>[AV.int .i64 k]) ha0)) ?_;refine Qp Bi (Qp Av (Qp A0 (Rk ?_)));refine ⟨(),?_,GS.weaken ⟨rfl,rfl,rfl,rfl,rfl,congrArg AV.bool (by simp [Kj, *]),trivial⟩ (.refl _)⟩
    trivial
   refine Rf ?_;refine ⟨(),?_,GS.weaken ⟨rfl,rfl,rfl,rfl,rfl,congrArg AV.bool (by simp [Kj, *]),trivial⟩ (.refl _)⟩
   trivial
  rintro _ _;refine Ae (Qp A9 (Qp Et (Ag (Aq (fun hc10=>?_) fun hc10=>?_))))
  ·
   have hok:Kj op a a0=false:=by simpa using hc10
   refine Ae (Qp Al (Ra (Be (Db (Be ?_)))));refine Qr (Iq _) ?_;simp only [Ai,AV.int.injEq,true_and];rw [hR.2,A5 ha,A2,hhd];simp [hok]
  have hok:Kj op a a0=true:=by simpa using hc10
  refine Rf (AW.region (Qp E9 (Qp Ao (Ag ?_))));refine ⟨p+1,?_,?_,Cs⟩
  · exact ⟨hlt,by rw [hR.2,A5 ha,A2,hhd];simp [hok]⟩
  first | omega | (simp only;omega)
 have hd:=E3 hc1;refine AW.exit ?_;refine Bq (Ri (Ae (Qp Al (Rb ?_))));refine Qr (Iq _) ?_;simp only [Ai,AV.int.injEq,true_and];rw [hR.2,hd];rfl




end Go.Proofs.YtckhoadldibflaaGreatDoor

namespace Go.Proofs.YtckhoadldibflaaGreatDoor
open Go Go.Aw

theorem gUZ9 {e:Ex}(h:Cf e=0):Jl e=0:=by
 unfold Cf at h;split at h
 · cases h
 split at h
 · cases h
 exact h


set_option maxHeartbeats 1600000
set_option maxRecDepth 20000

def cT (types:List e8Sc)(vars:List Va):List AV:=[.sl 2 (types.map Mt),.sl 2 (vars.map O2)]
def uNZ9 (types:List e8Sc)(vars:List Va):Prop:=∀v∈vars,0≤v.type∧v.type<(types.length:Int)
theorem tyok_of {types:List e8Sc}{vars:List Va}(h:A2 (So types.length) vars=0):uNZ9 types vars:=by
 intro v hv;have:=Sa h v hv;unfold So at this;split at this
 · cases this
 rename_i h1;simp at h1;omega
theorem c86 (types:List e8Sc)(vars:List Va)(hv:uNZ9 types vars)(e:Ex)(hn:Ge e=0):Ap Tryz.prog 119 [.agg (cT types vars),.agg (cE e)] (.tuple [.int .i64 (Kk types vars e).1,.int .i64 (Kk types vars e).2]):=by
 have hvr:=xW hn;have hfr:=lL hn;refine Ap.body (n:=70) tok Tryz.func119 rfl rfl rfl fun H=>?_
 refine Ae (Qp (Gc [_,_]) (Qp jP (Qp Al (Qp Al (Ag (Bk (Qp S4 (Qp Bi ?_))))))));refine Qp Av (Ag (Aq (fun hc1=>?_) fun hc1=>?_))
 ·
  refine Ae (Qp S5 (Qp S5 (Qp Bi (Qp Al (Qp Al (Rc ?_))))));refine Mf (Iq _) (Iq _) ?_;simp only [Ai,Kk]
  try simp only [hfl]
  try simp only [hka]
  (first | rw [if_pos hc1] | skip)
  first | done | rfl
 refine Bg (Bk (Qp nP (Qp Bi (Qp (Qf [_]) (Qp Cw ?_)))));refine Qp (Ah (n:=vars.length) tok rfl rfl rfl (by simp)) ?_;refine Qp H6 (Ag (Aq (fun hc2=>?_) fun hc2=>?_))
 ·
  refine Ae (Qp Al (Qp Al (Rc ?_)));refine Mf (Iq _) (Iq _) ?_;simp only [Ai,Kk]
  try simp only [hfl]
  try simp only [hka]
  (first | rw [iN hc1] | skip);(first | rw [if_pos hc2] | skip)
  first | done | rfl
 refine Bg (Bk (Qp S4 (Qp Bi (Qp Av (Qp A9 (Qg [] Qw S4 (Qg [(24,_)] Qw Bi (Qg [(25,_)] Qw Av ?_))))))));refine Qp B9 (Ag (Aq (fun hc3=>?_) fun hc3=>?_))
 ·
  refine Ae (Qp Al (Qp Al (Rc ?_)));refine Mf (Iq _) (Iq _) ?_;simp only [Ai,Kk]
  try simp only [hfl]
  try simp only [hka]
  (first | rw [iN hc1] | skip);(first | rw [iN hc2] | skip);(first | rw [if_pos hc3] | skip)
  first | done | rfl
 refine (cU (l:=vars) hvr.1 (by simp at hc2;omega)).elim fun v hv1=>?_
 have hvt:=hv v (B4 hv1);refine (cU (l:=types) hvt.1 hvt.2).elim fun s hs1=>?_
 have hfl:Zv types vars e.var=s.fields:=by simp [Zv,hv1,hs1]
 refine Bg (AW.seq ?_);refine Ol ?_;refine Qn 0 rfl (Qf [_,_]) (Qn 1 rfl Cw (Qn 2 rfl (Qf [_]) (Qn 3 rfl Cw (Qn 4 rfl nP (Qn 5 rfl Bi ?_)))));refine Qn 6 rfl (Aa (c:=Jz) tok rfl rfl rfl rfl rfl rfl (hvr.1) (Dv hv1)) ?_;refine Qn 7 rfl (Qf [Iq _]) (Qn 8 rfl Bi ?_);refine Qn 9 rfl (Aa (c:=Ub) tok rfl rfl rfl rfl rfl rfl (hvt.1) (Dv hs1)) ?_;refine Qn 10 rfl (Qf [_]) (Qn 11 rfl Cw (Qn 12 rfl eN ?_));refine Hs ?_;refine Bh (Bk (Qp nU (Qp Bi (Qp G4 ?_))));refine Qp (Ah (n:=s.fields.length) tok rfl rfl rfl (by simp)) ?_;refine Qp H6 (Ag (Aq (fun hc4=>?_) fun hc4=>?_))
 ·
  refine Ae (Qp Al (Qp Al (Rc ?_)));refine Mf (Iq _) (Iq _) ?_;simp only [Ai,Kk]
  try simp only [hfl]
  try simp only [hka]
  (first | rw [iN hc1] | skip);(first | rw [iN hc2] | skip);(first | rw [iN hc3] | skip);(first | rw [if_pos hc4] | skip)
  first | done | rfl
 refine (cU (l:=s.fields) hfr (by simp at hc4;omega)).elim fun f hf1=>?_
 have hka:Yo s.fields e.field=f.kind:=by simp [Yo,hf1]
 refine Bg (Ae (Qp G4 (Qp nU (Qp Bi ?_))));refine Qp (Aa (c:=Jz) tok rfl rfl rfl rfl rfl rfl (hfr) (Dv hf1)) ?_;refine Qp (Qf [Iq _]) (Qp Bi (Qp Al (Ag (Bk (Qp S4 (Qp Bi (Qp Av (Qp A9 ?_))))))));refine Qg [] Qw Ao (Qg [] Qw S5 (Qg [(56,_)] Qw S5 (Qg [(57,_)] Qw Bi ?_)));refine AOL.g (y:=.bool _) _ [(55,_),(58,_)] rfl (qZ.all ⟨Ent.Aad _ _,Ent.Aad _ _,trivial⟩) (fun hG=>Ik rfl rfl) rfl ?_;refine Qg [(59,_)] Qw A9 (Qg [] Qw dN (Qg [(61,_)] Qw Bi (Qg [] Qw Ao (Qg [(63,_)] Qw (E4 Mj) ?_))));refine AOL.g (y:=.bool _) _ [(62,_),(64,_)] rfl (qZ.all ⟨Ent.Aad _ _,Ent.Aad _ _,trivial⟩) (fun hG=>Qc rfl (c99 _ ⟨_,_,_⟩)) rfl ?_;refine Qg [(65,_)] Qw Et (Qg [(60,_),(66,_)] Qw B9 (Qp E0 (Ag (Aq (fun hc5=>?_) fun hc5=>?_))))
 ·
  refine Ae (Qp Al (Qp Al (Rc ?_)));refine Mf (Iq _) (Iq _) ?_;simp only [Ai,Kk]
  try simp only [hfl]
  try simp only [hka]
  (first | rw [iN hc1] | skip);(first | rw [iN hc2] | skip);(first | rw [iN hc3] | skip);(first | rw [iN hc4] | skip);(first | rw [if_pos hc5] | skip)
  first | done | rfl
 refine Bg (Ae (Qp Ao (Qp Al (Qp Al (Rb ?_)))));refine Mf (Iq _) (Iq _) ?_;simp only [Ai,Kk]
 try simp only [hfl]
 try simp only [hka]
 (first | rw [iN hc1] | skip);(first | rw [iN hc2] | skip);(first | rw [iN hc3] | skip);(first | rw [iN hc4] | skip);(first | rw [iN hc5] | skip)
 first | done | rfl
theorem c58 (types:List e8Sc)(vars:List Va)(hv:uNZ9 types vars)(e:Ex)(hn:Jl e=0)(hs:Bw e≤1048576):Ap Tryz.prog 69 [.agg (cT types vars),.agg (cE e)] (.tuple [.int .i64 (Ee types vars e).1,.int .i64 (Ee types vars e).2]):=by
 revert hn hs
 induction e using Ex.ind
 rename_i e ih;intro hn hs;have hz:=mR hn;have hal:=Q4 e hs;refine Ap.body (n:=57) tok Tryz.func69 rfl rfl rfl fun H=>?_
 refine Ae (Qp (Gc [_,_]) (Qp jP (Qp Al (Qp Al (Ag (Bk (Qp Zy (Qp Cw ?_))))))));refine Qp (Ah (n:=e.args.length) tok rfl rfl rfl (by simp)) ?_;refine Qp Av (Ag (Aq (fun hc1=>?_) fun hc1=>?_))
 ·
  refine Ae (Qp (B0 [_,_]) (Qp Nh ?_));refine Qp (Qc rfl (c86 types vars hv e hz.1)) ?_;refine Qp Iu (Qp Iu (Qp Al (Qp Al (Rc ?_))));refine Mf (Iq _) (Iq _) ?_;rw [Lg types vars e,if_pos (by simpa [List.isEmpty_iff] using hc1)];rfl
 refine Bg (Ae (Qp Ua ?_));refine AOL.ghost (GS.row (t:=6) 3 1 rfl) ?_;refine Ag (Bk (Qp Zy (Qp Cw ?_)));refine Qp (Ah (n:=e.args.length) tok rfl rfl rfl (by simp)) ?_;refine Qp Ao (Ag (AW.block ?_));refine AW.Aag (fun (p:Nat×List (List AV)×Value)=>(⟨[(2,.ptr (cT types vars)),(3,.ptr (cE e)),(6,.row p.2.2 1 p.2.1),(22,.sl 8 (e.args.map M5)),(23,.int .i64 e.args.length),(24,.int .i64 (p.1:Int))],.row p.2.2 p.2.1.length 3 1::H,57⟩:St)) (fun p=>p.1≤e.args.length∧A2 (fun a=>(Ee types vars a).2) e.args=A2 (fun a=>(Ee types vars a).2) (e.args.drop p.1)∧p.2.1=((e.args.take p.1).map (fun a=>(Ee types vars a).1)).map (fun k=>[AV.int .i64 k])) (fun p=>e.args.length-p.1) ((0,[],.slice none 0 0)) ?_ Cs ?_
 · exact ⟨E2 _,by simp,by simp⟩
 rintro p hR;refine Ae (Qp Bx (Re (Aq (fun hc2=>?_) fun hc2=>?_)))
 ·
  obtain ⟨a,ha⟩:=Cc hc2;have hlt:=Bu ha;have hm:=B4 ha;have hsc:∀c∈p.2.1,Bb c=true:=by rw [hR.2.2];exact dI fun _=>rfl
  refine Bg (AW.seq (AW.block (Ae ?_)));refine Qp (Aa (c:=Ie) tok rfl rfl rfl rfl rfl rfl (by omega) (Jq ha)) ?_;refine Qp Nh ?_;refine Ed gix fun b8=>?_
  refine Bt 0 Ie (_::_::_) ?_;refine AOL.ghost (GS.freeze (t:=8) 0 rfl rfl) ?_;refine Bs (Qp (B0 [_,_]) (Qp Nh ?_));refine Qp (Qc rfl (ih a hm (hz.2 a hm) (by have:=Hu hm;omega))) ?_;refine Qp N4 (Qp Iu (Qp Iu (Qp Al (Qp Al (Ag (Bk (Qp Ao (Qp Br ?_))))))));refine Ag (Aq (fun hc3=>?_) fun hc3=>?_)
  ·
   refine Ae (Qp Ao (Qp Al (Qp Al (Rc (Rj ?_)))));refine Be ?_;refine ⟨.inr rfl,He,.cons (.tmp _ _ rfl) <| .cons (.tmp _ _ rfl) <| .nil,.cons _ (.refl _),?_⟩;have hne:¬e.args.isEmpty=true:=by simpa [List.isEmpty_iff] using hc1
   have hfe:A2 (fun a=>(Ee types vars a).2) e.args=(Ee types vars a).2:=by rw [hR.2.1,A5 ha,A2,if_pos hc3]
   rw [Lg types vars e,if_neg hne,hfe,if_pos hc3];rfl
  refine Bg (AW.region ?_);refine Qp (A1 (v:=.row _ _ _) rfl) ?_;refine Qp Ao ?_;refine Qp (Aj (es:=[[Iq _]]) tok rfl rfl rfl rfl rfl rfl rfl rfl rfl) ?_;refine Qe (Dh (k:=0) tok rfl rfl rfl rfl rfl rfl rfl rfl (Gu rfl) (hsc) (by simp [hR.2.2];omega) (by simp [hR.2.2,maxLen];omega)) ?_;rintro _ _ ⟨v40,rfl,rfl⟩;refine Qp (A6 (v:=.row _ _ _) rfl) ?_;refine Rk (AW.region (Qp E9 (Qp Ao (Ag ?_))));refine ⟨(p.1+1,p.2.1 ++ [[.int .i64 (Ee types vars a).1]],v40),?_,?_,Cs⟩
  · simp only;exact ⟨hlt,by rw [hR.2.1,A5 ha,A2,if_neg (by simpa using hc3)],by rw [Eu ha,hR.2.2];simp⟩
  first | omega | (simp only;omega)
 have hte:=Dm hc2;have hd:=E3 hc2;have hf:A2 (fun a=>(Ee types vars a).2) e.args=0:=by rw [hR.2.1,hd];rfl
 obtain ⟨k,es,rv⟩:=p;simp only at hR hte;have h6:es=(e.args.map (fun a=>(Ee types vars a).1)).map (fun k=>[AV.int .i64 k]):=by rw [hR.2.2,hte]
 subst h6;refine AW.exit ?_;refine Bq (Ri (Bk (Qp S4 (Qp Bi ?_))));refine AOL.ghost (GS.unrow 6 rfl) ?_;refine Qp G4 ?_;refine Qp (Qc rfl (c71 e.op (e.args.map (fun a=>(Ee types vars a).1)))) ?_;refine Qp Al (Bs (Qp Ao (Qp Br (Ag (Aq (fun hc4=>?_) fun hc4=>?_)))))
 ·
  refine Ae (Qp Ao (Qp Al (Qp Al (Rc ?_))));refine ⟨.inr rfl,He,.cons (.tmp _ _ rfl) <| .cons (.tmp _ _ rfl) <| .nil,.cons _ (.refl _),?_⟩;have hne:¬e.args.isEmpty=true:=by simpa [List.isEmpty_iff] using hc1
  rw [Lg types vars e,if_neg hne,hf,if_neg (show ¬((0:Int) != 0)=true by decide),if_pos hc4];rfl
 refine Bg (Bk (Qp S4 (Qp Bi (Qp Av (Qp A9 (Qg [] Qw S4 (Qg [(53,_)] Qw Bi (Qg [(54,_)] Qw Av ?_))))))));refine Qp B9 (Ag (Aq (fun hc5=>?_) fun hc5=>?_))
 ·
  refine Ae (Qp Al (Qp Al (Rc ?_)));refine ⟨.inr rfl,He,.cons (.tmp _ _ rfl) <| .cons (.tmp _ _ rfl) <| .nil,.cons _ (.refl _),?_⟩;have hne:¬e.args.isEmpty=true:=by simpa [List.isEmpty_iff] using hc1
  rw [Lg types vars e,if_neg hne,hf,if_neg (show ¬((0:Int) != 0)=true by decide),iN hc4];unfold zW;first | (rw [if_pos hc5];rfl) | (rw [iN hc5];rfl)
 refine Bg (Ae (Qp Al (Qp Al (Rb ?_))));refine ⟨.inr rfl,He,.cons (.tmp _ _ rfl) <| .cons (.tmp _ _ rfl) <| .nil,.cons _ (.refl _),?_⟩;have hne:¬e.args.isEmpty=true:=by simpa [List.isEmpty_iff] using hc1
 rw [Lg types vars e,if_neg hne,hf,if_neg (show ¬((0:Int) != 0)=true by decide),iN hc4];unfold zW;first | (rw [if_pos hc5];rfl) | (rw [iN hc5];rfl)
theorem c31 (types:List e8Sc)(hl:types.length≤1048576)(hs:∀s∈types,Zj s)(vars:List Va)(hvl:vars.length≤1048576)(e:Ex)(hse:Bw e≤1048576):Ap Tryz.prog 27 [.sl 2 (types.map Mt),.sl 2 (vars.map O2),.agg (cE e)] (.tuple [.int .i64 (T9 types vars e).1,.int .i64 (T9 types vars e).2]):=by
 refine Ap.body (n:=49) tok Tryz.func27 rfl rfl rfl fun H=>?_
 refine Ae (Qp jP (Qp Al (Qp Al (Ag (Bk (Qp G4 ?_))))));refine Qp (Qc rfl (e8c57 types hl hs)) ?_;refine Qp Al (Bs (Qp Ao (Qp Br (Ag (Aq (fun hc1=>?_) fun hc1=>?_)))))
 ·
  refine Ae (Qp Ao (Qp Al (Qp Al (Rc ?_))));refine Mf (Iq _) (Iq _) ?_;rw [T9,if_pos hc1];rfl
 refine Bg (Bk (Qp G4 ?_));refine Qp (Ah (n:=vars.length) tok rfl rfl rfl (by simp)) ?_;refine Qp Ej (Ag (Aq (fun hc2=>?_) fun hc2=>?_))
 ·
  refine Ae (Qp Al (Qp Al (Rc ?_)));refine Mf (Iq _) (Iq _) ?_;have hve:T1 types vars=5:=by rw [T1,if_pos hc2]
  rw [T9,iN hc1,hve,if_pos (by decide)];rfl
 refine Bg (Bk (Qp G4 ?_));refine Qp (Ah (n:=vars.length) tok rfl rfl rfl (by simp)) ?_;refine Qp Ao (Ag (AW.block ?_));refine AW.Aag (fun (p:Nat)=>(⟨[(0,.sl 2 (types.map Mt)),(1,.sl 2 (vars.map O2)),(5,.ptr (cE e)),(20,.sl 2 (vars.map O2)),(21,.int .i64 vars.length),(22,.int .i64 (p:Int))],H,49⟩:St)) (fun p=>p≤vars.length∧A2 (So types.length) vars=A2 (So types.length) (vars.drop p)) (fun p=>vars.length-p) (0) ?_ Cs ?_
 · exact ⟨E2 _,rfl⟩
 rintro p hR;refine Ae (Qp Bx (Re (Aq (fun hc3=>?_) fun hc3=>?_)))
 ·
  obtain ⟨a,ha⟩:=Cc hc3;have hlt:=Bu ha;have hm:=B4 ha;refine Bg (AW.seq (AW.block (Ae ?_)));refine Qp (Aa (c:=Jz) tok rfl rfl rfl rfl rfl rfl (by omega) (Dv ha)) ?_;refine Qp (B0 Jz) ?_;refine Ed [.str [],.int .i64 0] fun b10=>?_
  refine Bt 0 Jz (_::_) ?_;refine AOL.ghost (GS.freeze (t:=10) 0 rfl rfl) ?_;refine Bs (Qp (Qf [Iq _]) (Qp Bi (Qp Bx (Qp A9 (Qg [] Qw (Qf [Iq _]) (Qg [(30,_)] Qw Bi (Qg [] Qw G4 ?_)))))));refine AOL.g (y:=Iq _) _ [(32,_)] rfl (qZ.all ⟨Ent.Aad _ _,trivial⟩) (fun hG=>Ah (n:=types.length) tok rfl rfl rfl (by simp)) rfl ?_;refine AOL.g (y:=.bool _) _ [(31,_),(33,_)] rfl (qZ.all ⟨Ent.Aad _ _,Ent.Aad _ _,trivial⟩) (fun hG=>aK rfl rfl) rfl ?_;refine Qp B9 (Ag (Aq (fun hc4=>?_) fun hc4=>?_))
  ·
   have he:So types.length a=6:=by unfold So;rw [if_pos hc4]
   refine Ae (Qp Al (Qp Al (Ra (Be (Db (Be ?_))))));refine Mf (Iq _) (Iq _) ?_;have hve:T1 types vars=6:=by rw [T1,iN hc2,hR.2,A5 ha,A2,he,if_pos (by decide)]
   rw [T9,iN hc1,hve,if_pos (by decide)];rfl
  have he:So types.length a=0:=by unfold So;rw [if_neg (by simpa using hc4)]
  refine Rf (AW.region (Qp E9 (Qp Ao (Ag ?_))));refine ⟨p+1,?_,?_,Cs⟩
  · exact ⟨hlt,by rw [hR.2,A5 ha,A2,if_neg (by rw [he];decide)]⟩
  omega
 have hd:=E3 hc3;have hf0:A2 (So types.length) vars=0:=by rw [hR.2,hd];rfl
 have hty:=tyok_of hf0;have hvz:T1 types vars=0:=by rw [T1,if_neg (by simpa using hc2),hf0]
 refine AW.exit ?_;refine Bq (Ri (Bk (Qp Nh ?_)));refine Qp (Qc rfl (oM e hse)) ?_;refine Qp Al (Bs (Qp Ao (Qp Br (Ag (Aq (fun hc5=>?_) fun hc5=>?_)))))
 ·
  refine Ae (Qp Ao (Qp Al (Qp Al (Rc ?_))));refine Mf (Iq _) (Iq _) ?_;rw [T9,iN hc1,hvz,if_neg (show ¬((0:Int) != 0)=true by decide),if_pos hc5];rfl
 refine Bg (Ae (Qp G4 (Qp G4 (Qp (E4 [_,_]) (Qp Nh ?_)))));refine Qp (Qc rfl (c58 types vars hty e (gUZ9 (by simpa using hc5)) hse)) ?_;refine Qp Iu (Qp Iu (Qp Al (Qp Al (Rb ?_))));refine Mf (Iq _) (Iq _) ?_;rw [T9,iN hc1,hvz,if_neg (show ¬((0:Int) != 0)=true by decide),iN hc5];rfl
set_option maxHeartbeats 12800000
set_option maxRecDepth 20000

theorem zSZ9 {T:List e8Sc}{t:Syn}(h:((Dr T t).2.2 != 0)=true):Ap Tryz.prog 16 [.agg (cQy (Dr T t).1),.agg (cQy Qk)] (.bool true):=by
 rw [qp_bad h];exact vI Qk Xa
theorem exi_cnt {T:List e8Sc}{t:Syn}{q:Qy}(hg:QGood T t q)(ht:QryOK t):Ap Tryz.prog 25 [.agg (cPt (aA T t (D1 T t)))] (.tuple [.int .i64 ((D1 T t).length:Int),.int .i64 (I9 (aA T t (D1 T t))).scopes,.int .i64 0]):=by
 have h:=tI (aA T t (D1 T t)) (eK ht.med1 ht.pat _);rw [Bl hg.p,cnt_is ht.pat hg.v] at h;exact h
theorem jYZ9 {T:List e8Sc}{t:Syn}{V:List Va}(h:0<(Rv T t V).1.length):Rv T t V=Wh T V (A3 t 0).text:=by
 cases hc:(A3 t 0).text != [] with
 | true=>exact dY hc
 | false=>rw [wI hc] at h;exact absurd h (by decide)
theorem kTZ9 {T:List e8Sc}{t:Syn}{q:Qy}(hg:QGood T t q)(hrv:RvOK T (D1 T t)){a:Va}(ha:a∈D1 T t)(h:0<(Rv T t (D1 T t)).1.length):(Rv T t (D1 T t)).1[a.type.toNat]? = some (Dl ((T[a.type.toNat]?).getD cR) (A3 t 0).text)∧0≤Dl ((T[a.type.toNat]?).getD cR) (A3 t 0).text:=by
 have hk:=hg.k;rw [jYZ9 h] at hk ⊢;exact (vX hrv (by simpa using hk)).2 a ha
theorem Aac {T:List e8Sc}{t:Syn}{q:Qy}(hg:QGood T t q)(hrv:RvOK T (D1 T t)):(Rv T t (D1 T t)).1.length=0∨(Rv T t (D1 T t)).1.length=T.length:=by
 by_cases h:0<(Rv T t (D1 T t)).1.length
 ·
  right;have hk:=hg.k;rw [jYZ9 h] at hk ⊢;exact (vX hrv (by simpa using hk)).1
 left;omega
theorem gk {x:Bool}{n:Nat}{r:List (Bool×Bool)}(hG:K7 ((x,false)::(decide ((0:Int)<(n:Int)),true)::r)):0<n:=by
 have h:decide ((0:Int)<(n:Int))=true:=hG _ (Oy _ (Sx ..));have:=Ir h;omega
theorem cI_at {l:List Int}{k:Nat}{a:Int}(h:l[k]? = some a):(l.map cI)[k]? = some [.int .i64 a]:=by rw [List.getElem?_map,h];rfl
theorem tQZ9 {T:List e8Sc}{V:List Va}{l:List Syn}{k:Nat}{a:Syn}(h:l[k]? = some a):((l.map (Cp T V)).map M5)[k]? = some (cE (Cp T V a)):=by rw [List.getElem?_map,List.getElem?_map,h];exact congrArg some (Qt _)
theorem exi_3 {v r k n:Nat}(hr:1≤r)(hk:k=0∨k=n):¬(((((0:Int) != 0)||((v:Int) != (v:Int)))||((r:Int)==0))||(((k:Int) != 0)&&((k:Int) != (n:Int))))=true:=by
 rcases hk with rfl | rfl <;> simp <;> omega
theorem exi_5 {T:List e8Sc}{t:Syn}{q:Qy}(hg:QGood T t q)(hrv:RvOK T (D1 T t)){a:Va}(ha:a∈D1 T t){sc:e8Sc}(hsc:T[a.type.toNat]? = some sc):¬((decide (a.type<0)||decide ((T.length:Int)≤a.type))||(decide ((0:Int)<((Rv T t (D1 T t)).1.length:Int))&&(decide (Dl ((T[a.type.toNat]?).getD cR) (A3 t 0).text<0)||decide ((sc.fields.length:Int)≤Dl ((T[a.type.toNat]?).getD cR) (A3 t 0).text))))=true:=by
 have hvt:=hrv.ty a ha;have hp:=(pl_le (sc.fields.map (·.name)) (A3 t 0).text).2;rw [Dx] at hp;have hp2:Dl ((T[a.type.toNat]?).getD cR) (A3 t 0).text<(sc.fields.length:Int):=by rw [hsc];exact hp
 by_cases hk:0<(Rv T t (D1 T t)).1.length
 ·
  have h0:=(kTZ9 hg hrv ha hk).2;simp;omega
 simp;omega
theorem Wj (T:List e8Sc)(hl:T.length≤1048576)(hs:∀s∈T,Zj s)(t:Syn):Ap Tryz.prog 7 [.sl 2 (T.map Mt),.agg (cSyn t)] (.bool true):=by
 refine Ap.body (n:=154) tok Tryz.func7 rfl rfl rfl fun H=>?_
 refine Ae (Qp (Gc Au) (Qp A0 (Ag (Bk (Qp (B0 Au) ?_)))));refine Qp (Qc rfl (f_few t)) ?_;refine Qp Et (Qp A9 (Qg [] Qw G4 ?_));refine Qg [(20,_)] Qw (Qc rfl (sK T hl hs)) ?_;refine Qg [(21,_)] Qw Et (Qp B9 (Ag (Aq (fun hc1=>?_) fun hc1=>?_)))
 ·
  refine Ae ?_;refine Qp (Qc rfl (Lz)) ?_;refine Qp A0 (Rc ?_);refine Qr (.bool _) ?_;rfl
 have hf:I7 t=true:=by rw [Ka] at hc1;simpa using hc1.1
 refine Bg (Ae (Qp G4 (Qp (B0 Au) ?_)));refine Qp (Qc rfl (O5 T hl hs t (Kv hf))) ?_;refine Qp N4 ?_;refine Qp (B5 (v:=.agg It) rfl rfl) ?_;refine Qp Iu (Qp Iu ?_);refine Ed rY fun b5=>?_
 refine Bt 0 It (_::_) ?_;refine Qp Al (Qp Al ?_);refine AOL.ghost (GS.freeze (t:=5) 0 rfl rfl) ?_;refine Ag ?_;refine AW.Aak (fun (_:Unit)=>(⟨[(0,.sl 2 (T.map Mt)),(5,.ptr (cQy (X4 T t (D1 T t))))],H,154⟩:St)) (fun _=>((Dr T t).2.2 != 0)=false∧I7 t=true) ?_ ?_
 ·
  refine Ae (Qp Ao (Qp Br (Ag (Aq (fun hc2=>?_) fun hc2=>?_))))
  ·
   refine Ae ?_;refine Qp (Qc rfl (Lz)) ?_;refine Qp A9 (Qg [] Qw (B0 It) (Qg [] Qw (E4 It) ?_));refine AOL.g (y:=.bool _) _ [(36,_),(37,_)] rfl (qZ.all ⟨Ent.Aad _ _,Ent.Aad _ _,trivial⟩) (fun hG=>Qc rfl (zSZ9 hc2)) rfl ?_;refine Qp E0 (Qp A0 (Rc ?_));refine Qr (.bool _) ?_;rfl
  have hqq:(Dr T t).1=(X4 T t (D1 T t)):=(Mc hc2).2.2.1.trans (Mc hc2).2.2.2.is;refine Bg ?_;refine ⟨(),?_,GS.weaken ⟨rfl,congrArg (fun q:Qy=>AV.ptr (cQy q)) hqq,trivial⟩ (.refl _)⟩;exact ⟨hc2,hf⟩
 rintro _ ⟨hc2,hf⟩;obtain ⟨hA,hwr,hq1,hg⟩:=Mc hc2;have ht:QryOK t:=⟨Kv hf,K9 hwr⟩;have hl3:=ht.len;have hkl:=Hy ht.m;have hrv:RvOK T (D1 T t):=mS (lB hA) (I4 (A3 t 1));have hvl:=hrv.vl;have hkx:=Aac hg hrv;have hkn:(Rv T t (D1 T t)).1.length≤1048576:=by omega
 have hrl:1≤(t.kids.drop 2).length∧(t.kids.drop 2).length≤1048576:=by rw [Ji];omega
 refine Ae (Qp (Qf gky) (Qp (B0 C5) ?_));refine Qp (Qc rfl (exi_cnt hg ht)) ?_;refine Qp N4 (Qp Iu (Qp Iu (Qp Iu (Qp Al (Qp Al (Qp Al (Ag (Bk ?_))))))));refine Qp Ao (Qp Br (Qp A9 (Qg [] Qw Ao (Qg [] Qw (Qf pB) (Qg [(51,_)] Qw Cw ?_)))));refine AOL.g (y:=Iq _) _ [(52,_)] rfl (qZ.all ⟨Ent.Aad _ _,trivial⟩) (fun hG=>Ah (n:=(D1 T t).length) tok rfl rfl rfl (by first | (simp;done) | (simp [X4];done))) rfl ?_;refine AOL.g (y:=.bool _) _ [(50,_),(53,_)] rfl (qZ.all ⟨Ent.Aad _ _,Ent.Aad _ _,trivial⟩) (fun hG=>Ik rfl rfl) rfl ?_;refine Qp B9 (Qp A9 (Qg [] Qw (Qf [_]) (Qg [(57,_)] Qw Cw ?_)));refine AOL.g (y:=Iq _) _ [(58,_)] rfl (qZ.all ⟨Ent.Aad _ _,trivial⟩) (fun hG=>Ah (n:=(t.kids.drop 2).length) tok rfl rfl rfl (by first | (simp;done) | (simp [X4];done))) rfl ?_;refine Qg [(59,_)] Qw Av (Qp B9 (Qp A9 (Qg [] Qw (Qf gjy) (Qg [(63,_)] Qw Cw ?_))));refine AOL.g (y:=Iq _) _ [(64,_)] rfl (qZ.all ⟨Ent.Aad _ _,trivial⟩) (fun hG=>Ah (n:=(Rv T t (D1 T t)).1.length) tok rfl rfl rfl (by first | (simp;done) | (simp [X4];done))) rfl ?_;refine Qg [(65,_)] Qw Br (Qg [(66,_)] Qw A9 (Qg [] Qw (Qf gjy) (Qg [(68,_)] Qw Cw ?_)));refine AOL.g (y:=Iq _) _ [(69,_)] rfl (qZ.all ⟨Ent.Aad _ _,trivial⟩) (fun hG=>Ah (n:=(Rv T t (D1 T t)).1.length) tok rfl rfl rfl (by first | (simp;done) | (simp [X4];done))) rfl ?_;refine Qg [] Qw G4 ?_;refine AOL.g (y:=Iq _) _ [(71,_)] rfl (qZ.all ⟨Ent.Aad _ _,trivial⟩) (fun hG=>Ah (n:=T.length) tok rfl rfl rfl (by first | (simp;done) | (simp [X4];done))) rfl ?_;refine AOL.g (y:=.bool _) _ [(70,_),(72,_)] rfl (qZ.all ⟨Ent.Aad _ _,Ent.Aad _ _,trivial⟩) (fun hG=>Ik rfl rfl) rfl ?_;refine Qg [(67,_),(73,_)] Qw E0 (Qp B9 (Ag (Aq (fun hc3=>?_) fun hc3=>?_)))
 · exact absurd hc3 (exi_3 hrl.1 hkx)
 refine Bg (Bk (Qp Al (Ag (AW.block ?_))));refine AW.Aag (fun (k:Nat)=>(⟨[(0,.sl 2 (T.map Mt)),(5,.ptr (cQy (X4 T t (D1 T t)))),(11,.int .i64 (k:Int))],H,154⟩:St)) (fun k=>k≤(D1 T t).length) (fun k=>(D1 T t).length-k) (0) ?_ Cs ?_
 · exact E2 _
 rintro k hR;refine Bk (Qp Ao (Qp (Qf pB) (Qp Cw ?_)));refine Qp (Ah (n:=(D1 T t).length) tok rfl rfl rfl (by first | (simp;done) | (simp [X4];done))) ?_;refine Qp Bx (Ag (Aq (fun hc4=>?_) fun hc4=>?_))
 ·
  obtain ⟨a,ha⟩:=Cc hc4;have hlt:=Bu ha;have hm:=B4 ha;have hvt:=hrv.ty a hm;refine (Xz hrv hm).elim fun sc hsc=>?_
  have hfl:=hrv.fl sc (B4 hsc);refine Bg (AW.seq (AW.block (Ae (Qp (Qf pB) (Qp Cw (Qp Ao ?_))))));refine Qp (Aa (c:=Jz) tok rfl rfl rfl rfl rfl rfl (by omega) (Dv ha)) ?_;refine Qp (Qf [Iq _]) (Qp Bi (Qp Al (Re ?_)));refine Ol ?_;refine Qn 0 rfl Ao (Qn 1 rfl Bx (Qn 2 rfl A9 (Qo 3 rfl [] Qw Ao (Qo 4 rfl [] Qw G4 ?_))));refine Gz.pure _ _ 5 _ _ rfl (by kernel_rfl) (by kernel_rfl) rfl (.opt _ (Iq _) [(93,_)] rfl (qZ.all ⟨Ent.Aad _ _,trivial⟩) (fun hG=>Ah (n:=T.length) tok rfl rfl rfl (by first | (simp;done) | (simp [X4];done))) rfl) ?_;refine Gz.pure _ _ 6 _ _ rfl (by kernel_rfl) (by kernel_rfl) rfl (.opt _ (.bool _) [(92,_),(94,_)] rfl (qZ.all ⟨Ent.Aad _ _,Ent.Aad _ _,trivial⟩) (fun hG=>aK rfl rfl) rfl) ?_;refine Qn 7 rfl B9 (Qn 8 rfl A9 (Qo 9 rfl [] Qw (Qf gjy) (Qo 10 rfl [(98,_)] Qw Cw ?_)));refine Gz.pure _ _ 11 _ _ rfl (by kernel_rfl) (by kernel_rfl) rfl (.opt _ (Iq _) [(99,_)] rfl (qZ.all ⟨Ent.Aad _ _,trivial⟩) (fun hG=>Ah (n:=(Rv T t (D1 T t)).1.length) tok rfl rfl rfl (by first | (simp;done) | (simp [X4];done))) rfl) ?_;refine Qo 12 rfl [(100,_)] Qw Ej (Qo 13 rfl [(101,_)] Qw A9 (Qo 14 rfl [] Qw (Qf gjy) (Qo 15 rfl [(103,_)] Qw Cw (Qo 16 rfl [] Qw Ao ?_))));refine Gz.pure _ _ 17 _ _ rfl (by kernel_rfl) (by kernel_rfl) rfl (.opt _ (.ptr _) [(104,_),(105,_)] rfl (qZ.all ⟨Ent.Aad _ _,Ent.Aad _ _,trivial⟩) (fun hG=>Aa (c:=[Iq _]) tok rfl rfl rfl rfl rfl rfl (hvt.1) (cI_at (kTZ9 hg hrv hm (gk hG)).1)) rfl) ?_;refine Qo 18 rfl [(106,_)] Qw Bi (Qo 19 rfl [(107,_)] Qw Bx (Qo 20 rfl [(108,_)] Qw A9 (Qo 21 rfl [] Qw (Qf gjy) (Qo 22 rfl [(110,_)] Qw Cw (Qo 23 rfl [] Qw Ao ?_)))));refine Gz.pure _ _ 24 _ _ rfl (by kernel_rfl) (by kernel_rfl) rfl (.opt _ (.ptr _) [(111,_),(112,_)] rfl (qZ.all ⟨Ent.Aad _ _,Ent.Aad _ _,trivial⟩) (fun hG=>Aa (c:=[Iq _]) tok rfl rfl rfl rfl rfl rfl (hvt.1) (cI_at (kTZ9 hg hrv hm (gk hG)).1)) rfl) ?_;refine Qo 25 rfl [(113,_)] Qw Bi (Qo 26 rfl [] Qw G4 (Qo 27 rfl [] Qw Ao ?_));refine Gz.pure _ _ 28 _ _ rfl (by kernel_rfl) (by kernel_rfl) rfl (.opt _ (.ptr _) [(115,_),(116,_)] rfl (qZ.all ⟨Ent.Aad _ _,Ent.Aad _ _,trivial⟩) (fun hG=>Aa (c:=Ub) tok rfl rfl rfl rfl rfl rfl (hvt.1) (Dv hsc)) rfl) ?_;refine Qo 29 rfl [(117,_)] Qw (Qf [_]) (Qo 30 rfl [(118,_)] Qw Cw ?_);refine Gz.pure _ _ 31 _ _ rfl (by kernel_rfl) (by kernel_rfl) rfl (.opt _ (Iq _) [(119,_)] rfl (qZ.all ⟨Ent.Aad _ _,trivial⟩) (fun hG=>Ah (n:=sc.fields.length) tok rfl rfl rfl (by first | (simp;done) | (simp [X4];done))) rfl) ?_;refine Gz.pure _ _ 32 _ _ rfl (by kernel_rfl) (by kernel_rfl) rfl (.opt _ (.bool _) [(114,_),(120,_)] rfl (qZ.all ⟨Ent.Aad _ _,Ent.Aad _ _,trivial⟩) (fun hG=>aK rfl rfl) rfl) ?_;refine Qo 33 rfl [(109,_),(121,_)] Qw B9 (Qo 34 rfl [(102,_),(122,_)] Qw E0 (Qn 35 rfl B9 ?_));refine Hs ?_;refine Bh (Aq (fun hc5=>?_) fun hc5=>?_)
  · exact absurd hc5 (exi_5 hg hrv hm hsc)
  refine Rf (AW.region (Qp Ao (Qp E9 (Qp Al (Ag ?_)))));refine ⟨k+1,?_,?_,Cs⟩
  · exact hlt
  omega
 refine AW.exit ?_;refine Bq (Ri (Bk (Qp Al (Ag (AW.block ?_)))));refine AW.Aag (fun (k:Nat)=>(⟨[(0,.sl 2 (T.map Mt)),(5,.ptr (cQy (X4 T t (D1 T t)))),(13,.int .i64 (k:Int))],H,154⟩:St)) (fun k=>k≤(t.kids.drop 2).length) (fun k=>(t.kids.drop 2).length-k) (0) ?_ Cs ?_
 · exact E2 _
 rintro k hR;refine Bk (Qp Ao (Qp (Qf [_]) (Qp Cw ?_)));refine Qp (Ah (n:=(t.kids.drop 2).length) tok rfl rfl rfl (by first | (simp;done) | (simp [X4];done))) ?_;refine Qp Bx (Ag (Aq (fun hc6=>?_) fun hc6=>?_))
 ·
  obtain ⟨x,hax⟩:=Cc hc6;have hltx:=Bu hax;have hmx:=B4 hax;have hxk:t.kids[k+2]? = some x:=by have h:=hax;rw [List.getElem?_drop,Nat.add_comm] at h;exact h
  have hsx:Bw (Cp T (D1 T t) x)≤1048576:=by have h:=M4 (T:=T) (V:=(D1 T t)) x;have:=Hz (E6 ht.m (B4 hxk));omega
  have hcx:(Cf (Cp T (D1 T t) x) != 0)=false:=by have h:=Ul hg.r x hmx;cases hq:Cf (Cp T (D1 T t) x) != 0 with | false=>rfl | true=>rw [mJ hq] at h;simp only at h;rw [h] at hq;cases hq
  refine Bg (AW.seq (AW.block (Bk (Qp (Qf [_]) (Qp Cw (Qp Ao ?_))))));refine Qp (Aa (c:=Ie) tok rfl rfl rfl rfl rfl rfl (by omega) (tQZ9 hax)) ?_;refine Qp Nh ?_;refine Qp (Qc rfl (oM (Cp T (D1 T t) x) hsx)) ?_;refine Qp Br (Ag (Aq (fun hc7=>?_) fun hc7=>?_))
  · rw [hcx] at hc7;cases hc7
  refine Bg (AW.seq ?_);refine Ol ?_;refine Qn 0 rfl G4 (Qn 1 rfl (Qf pB) (Qn 2 rfl Cw (Qn 3 rfl (Qf [_]) (Qn 4 rfl Cw (Qn 5 rfl Ao ?_)))));refine Qn 6 rfl (Aa (c:=Ie) tok rfl rfl rfl rfl rfl rfl (by omega) (tQZ9 hax)) ?_;refine Qn 7 rfl Nh ?_;refine Qn 8 rfl (Qc rfl (c31 T hl hs (D1 T t) hrv.vl (Cp T (D1 T t) x) hsx)) ?_;refine Qn 9 rfl N4 (Qn 10 rfl Iu (Qn 11 rfl Iu (Qn 12 rfl Al (Qn 13 rfl Al ?_))));refine Hs ?_;refine Bh (Ae (Qp Ao (Qp Av (Ag (Aq (fun hc8=>?_) fun hc8=>?_)))))
  ·
   have hn6:=xP hrv hA (ht.ret hxk) ((Fp hg.w).2 x (B4 hxk)) hcx;exact absurd (by simpa using hc8) hn6
  refine Rf (AW.region (Qp Ao (Qp E9 (Qp Al (Ag ?_)))));refine ⟨k+1,?_,?_,Cs⟩
  · exact hltx
  omega
 refine AW.exit ?_;refine Bq (Ri (Ae ?_));refine Qp (Qc rfl (Lz)) ?_;refine Qp A0 (Rb ?_);refine Qr (.bool _) ?_;rfl
open Go Go.Aw Go.ChangeShapes Go.WideShapes Go.ChangeAt Go.RowKit
set_option maxRecDepth 100000

theorem laid:laidOutB Tryz.prog=true:=by kernel_rfl
theorem own:ownKnob Tryz.prog.godebug=none:=by kernel_rfl
def oXZ9:AV→Value
 | .str s=>.string ⟨s.toArray⟩
 | .int k n=>.int k n
 | .bool b=>.bool b
 | _=>.int .i64 0
def opsOf (l:List (Am×Int)):List AV:=l.flatMap fun x=>[.str x.1,.int .i64 x.2]
def vSZ9:List AV→List (Am×Int)
 | .str s :: .int _ n::r=>(s,n)::vSZ9 r
 | _=>[]
def SpZ9 (W:World)(gl:Nat)(l:List AV):Prop:=Rep g0 W (.pointer (some ⟨gl,0,none⟩)) (.ptr l)
def dJZ9:AV→Bool
 | .str s=>decide (s.length≤maxLen)
 | .int _ _=>true
 | .bool _=>true
 | _=>false
theorem qKZ9 {g:Gh}{w:World}{x:AV}(h:dJZ9 x=true):Rep g w (oXZ9 x) x:=by
 cases x <;> simp only [dJZ9,Bz,H5] at h
 all_goals first | exact .int _ _ | exact .bool _ | exact Su h
theorem UhZ9 {W:World}{n:String}{gl:Nat}{cs:Array Value}{l:List AV}(hn:Tryz.prog.globalNamed n=some gl)(hv:W.var? Tryz.prog n=some cs)(hc:cs.toList=l.map oXZ9)(hp:l.all dJZ9=true):SpZ9 W gl l:=by
 have hcell:∀j,W.cell? ⟨gl,j,none⟩=cs[j]? :=fun j=>World.var?_cell hn hv j
 refine .ptr gl 0 _ (fun j=>(l[j]?.map oXZ9).getD default) (fun j x hj=>?_) (fun j x hj=>?_)
 ·
  refine ⟨trivial,?_⟩;rw [F9,hcell j,←Array.getElem?_toList,hc,List.getElem?_map,hj];simp
 simp only [hj,Ow,Option.getD_some];exact qKZ9 (Z2.1 hp _ (B4 hj))
theorem Z3Z9 {H:Type}{enc:TypeId×Value→H}{P:Program}{w:World}{base:Nat}{sp:Nat→Bool}{held:Bool}{A8:Nat}{t e:TypeId}{n:Nat}{cs:List Value}{ss:List Am}{p:List MemPlace}
    (ht:P.underlying t=some (.array n e)) (he:P.underlying e=some .string) (hce:P.cellsOf e=1) (hct:P.cellsOf t=n)
    (h:DataW.trod enc P w base sp held A8 t cs=some (.agg (ss.map fun s=>.lit (.string s)),p)):cs=ss.map fun s=>Value.string ⟨s.toArray⟩:=by
  cases A8 with
  | zero=>simp [DataW.trod] at h
  | succ A8=>
    simp only [DataW.trod,ht,hce,hct,Nat.mul_one] at h;split at h
    · rename_i hl
      obtain ⟨xs,hm,hx⟩:=qL.1 h
      have hxs:xs.map (·.1)=ss.map fun s=>(DataW.lit (.string s):DataW H):=by
        have:=congrArg Prod.fst hx;simpa using this
      have hxl:xs.length=n:=by simpa using Lib.mapM_length hm
      have hzl:ss.length=n:=by
        have:=congrArg List.length hxs;simp at this;omega
      apply lR
      intro i;by_cases hi:i<n
      · obtain ⟨b,hb,hf⟩:=Lib.mapM_at hm i i (by simp [hi])
        obtain ⟨z,hc,rfl,_⟩:=DataW.trod_string he hf
        have h1:cs[i]? = some (.string z):=by
          have:=congrArg (·[0]?) hc;simpa [List.getElem?_take,List.getElem?_drop] using this
        have h2:(xs.map (·.1))[i]? = some (DataW.lit (.string z.data.toList):DataW H):=by simp [hb]
        rw [hxs] at h2;simp only [List.getElem?_map,qL,DataW.lit.injEq,Lit.string.injEq] at h2;obtain ⟨z',hz',rfl⟩:=h2;simp [h1,hz']
      rw [List.getElem?_eq_none (by omega),List.getElem?_eq_none (by simp;omega)]
    cases h
theorem uCZ9 {α β:Type}(f g:α→β):∀(ss:List α) (cs:List β),cs.length=2*ss.length→(∀i x,ss[i]? = some x→(cs.drop (i*2)).take 2 = [f x,g x])→cs=ss.flatMap fun x=>[f x,g x]
  | [],cs,hl,_=>by simpa using hl
  | x::ss,cs,hl,h=>by
    have h0:=h 0 x rfl
    match cs,hl with
    | a::b::r,hl=>
      simp at h0;obtain ⟨rfl,rfl⟩:=h0
      have:=uCZ9 f g ss r (by simp at hl;omega) (fun i y hy=>by
        have:=h (i+1) y (by simpa using hy)
        rwa [show (i+1)*2=i*2+1+1 by omega,List.drop_succ_cons,List.drop_succ_cons] at this)
      simp [←this]
    | [],hl=>simp at hl
    | [_],hl=>simp at hl;omega
theorem KqZ9 {H:Type}{enc:TypeId×Value→H}{P:Program}{w:World}{base:Nat}{sp:Nat→Bool}{held:Bool}{A8:Nat}{t e:TypeId}{n:Nat}{cs:List Value}{ss:List (Am×Int)}{p:List MemPlace}{f0 f1:Field}
    (ht:P.underlying t=some (.array n e)) (he:P.underlying e=some (.struct #[f0,f1])) (o0:f0.offset=0) (o1:f1.offset=1) (t0:P.underlying f0.type=some .string) (t1:P.underlying f1.type=some (.int .i64)) (c0:P.cellsOf f0.type=1) (c1:P.cellsOf f1.type=1) (hce:P.cellsOf e=2) (hct:P.cellsOf t=n*2)
    (h:DataW.trod enc P w base sp held A8 t cs=some (.agg (ss.map fun s=>.agg [.lit (.string s.1),.lit (.int .i64 s.2)]),p)):cs=ss.flatMap fun s=>[Value.string ⟨s.1.toArray⟩,.int .i64 s.2]:=by
  cases A8 with
  | zero=>simp [DataW.trod] at h
  | succ A8=>
    simp only [DataW.trod,ht,hce,hct] at h;split at h
    · rename_i hl
      obtain ⟨xs,hm,hx⟩:=qL.1 h
      have hxs:xs.map (·.1)=ss.map fun s=>(DataW.agg [.lit (.string s.1),.lit (.int .i64 s.2)]:DataW H):=by
        have:=congrArg Prod.fst hx;simpa using this
      have hxl:xs.length=n:=by simpa using Lib.mapM_length hm
      have hzl:ss.length=n:=by
        have:=congrArg List.length hxs;simp at this;omega
      apply uCZ9
      · omega
      intro i x hi;have hin:i<n:=by have:=(List.getElem?_eq_some_iff.1 hi).1;omega
      obtain ⟨b,hb,hf⟩:=Lib.mapM_at hm i i (by simp [hin]);obtain ⟨y0,y1,m,rfl,hlen,h0,h1⟩:=trod_struct2 he hf;obtain ⟨z,hz,rfl,_⟩:=DataW.trod_string t0 h0;obtain ⟨k,hk,rfl,_⟩:=DataW.trod_int t1 h1;have h2:(xs.map (·.1))[i]? = some (DataW.agg [.lit (.string z.data.toList),.lit (.int .i64 k)]:DataW H):=by simp [hb]
      rw [hxs] at h2;simp [hi] at h2;obtain ⟨e1,e2⟩:=h2;rw [o0,c0] at hz;rw [o1,c1] at hk;have hl2:((cs.drop (i*2)).take 2).length=2:=by rw [hlen,hce]
      match hq:(cs.drop (i*2)).take 2,hl2 with
      | [a,b],_=>
        rw [hq] at hz hk;simp at hz hk;subst hz hk;simp [e1,e2]
    cases h
theorem uFZ9 {α β:Type}(k:Nat)(f:α→List β)(hf:∀x,(f x).length=k):∀(ss:List α) (cs:List β),cs.length=k*ss.length→(∀i x,ss[i]? = some x→(cs.drop (i*k)).take k=f x)→cs=ss.flatMap f
  | [],cs,hl,_=>by simpa using hl
  | x::ss,cs,hl,h=>by
    have h0:=h 0 x rfl;rw [Nat.zero_mul,Tm] at h0
    have ih:=uFZ9 k f hf ss (cs.drop k) (by rw [Ji,hl,Ep,Nat.mul_succ];omega) fun i y hy=>by
      have:=h (i+1) y (by simpa using hy)
      rwa [List.drop_drop,show k+i*k=(i+1)*k by rw [Nat.succ_mul,Nat.add_comm]]
    rw [aE,←ih,←h0,List.take_append_drop]
theorem WsZ9 {H:Type}{enc:TypeId×Value→H}{P:Program}{w:World}{base:Nat}{sp:Nat→Bool}{held:Bool}{A8:Nat}{t e:TypeId}{n:Nat}{cs:List Value}{ss:List Shp}{p:List MemPlace}{f0 f1 f2 f3 f4 f5:Field}
    (ht:P.underlying t=some (.array n e)) (he:P.underlying e=some (.struct #[f0,f1,f2,f3,f4,f5])) (ho:f0.offset=0∧f1.offset=1∧f2.offset=2∧f3.offset=3∧f4.offset=4∧f5.offset=5)
    (t0:P.underlying f0.type=some (.int .i64)) (t1:P.underlying f1.type=some (.int .i64)) (t2:P.underlying f2.type=some .bool) (t3:P.underlying f3.type=some .bool) (t4:P.underlying f4.type=some .bool) (t5:P.underlying f5.type=some .bool)
    (hcc:P.cellsOf f0.type=1∧P.cellsOf f1.type=1∧P.cellsOf f2.type=1∧P.cellsOf f3.type=1∧P.cellsOf f4.type=1∧P.cellsOf f5.type=1) (hce:P.cellsOf e=6) (hct:P.cellsOf t=n*6)
    (h:DataW.trod enc P w base sp held A8 t cs=some (.agg (ss.map fun s=>.agg [.lit (.int .i64 s.least),.lit (.int .i64 s.most),.lit (.bool s.typed),.lit (.bool s.cond),.lit (.bool s.scope),.lit (.bool s.span)]),p)) :
    cs=ss.flatMap fun s=>[Value.int .i64 s.least,.int .i64 s.most,.bool s.typed,.bool s.cond,.bool s.scope,.bool s.span]:=by
  cases A8 with
  | zero=>simp [DataW.trod] at h
  | succ A8=>
    simp only [DataW.trod,ht,hce,hct] at h;split at h
    · rename_i hl
      obtain ⟨xs,hm,hx⟩:=qL.1 h
      have hxs:xs.map (·.1)=ss.map fun s=>(DataW.agg [.lit (.int .i64 s.least),.lit (.int .i64 s.most),.lit (.bool s.typed),.lit (.bool s.cond),.lit (.bool s.scope),.lit (.bool s.span)]:DataW H):=by
        have:=congrArg Prod.fst hx;simpa using this
      have hxl:xs.length=n:=by simpa using Lib.mapM_length hm
      have hzl:ss.length=n:=by
        have:=congrArg List.length hxs;simp at this;omega
      apply uFZ9 6 _ (fun _=>rfl)
      · omega
      intro i x hi;have hin:i<n:=by have:=(List.getElem?_eq_some_iff.1 hi).1;omega
      obtain ⟨b,hb,hf⟩:=Lib.mapM_at hm i i (by simp [hin]);obtain ⟨ys,m,_,rfl,hlen,hyl,hfs⟩:=DataW.trod_struct he hf
      match ys,hyl with
      | [y0,y1,y2,y3,y4,y5],_=>
        obtain ⟨o0,o1,o2,o3,o4,o5⟩:=ho;obtain ⟨c0,c1,c2,c3,c4,c5⟩:=hcc;obtain ⟨k0,e0,rfl,_⟩:=DataW.trod_int t0 (show _=some y0 by simpa using hfs 0 f0 rfl);obtain ⟨k1,e1,rfl,_⟩:=DataW.trod_int t1 (show _=some y1 by simpa using hfs 1 f1 rfl);obtain ⟨k2,e2,rfl⟩:=DataW.trod_bool t2 (show _=some y2 by simpa using hfs 2 f2 rfl);obtain ⟨k3,e3,rfl⟩:=DataW.trod_bool t3 (show _=some y3 by simpa using hfs 3 f3 rfl);obtain ⟨k4,e4,rfl⟩:=DataW.trod_bool t4 (show _=some y4 by simpa using hfs 4 f4 rfl);obtain ⟨k5,e5,rfl⟩:=DataW.trod_bool t5 (show _=some y5 by simpa using hfs 5 f5 rfl);have h2:(xs.map (·.1))[i]? = some (DataW.agg [.lit (.int .i64 k0),.lit (.int .i64 k1),.lit (.bool k2),.lit (.bool k3),.lit (.bool k4),.lit (.bool k5)]:DataW H):=by simp [hb]
        rw [hxs] at h2;simp [hi] at h2;obtain ⟨q0,q1,q2,q3,q4,q5⟩:=h2;rw [o0,c0] at e0;rw [o1,c1] at e1;rw [o2,c2] at e2;rw [o3,c3] at e3;rw [o4,c4] at e4;rw [o5,c5] at e5;have hl2:((cs.drop (i*6)).take 6).length=6:=by rw [hlen,hce]
        match hq:(cs.drop (i*6)).take 6,hl2 with
        | [a,b,c,d,e,f],_=>
          rw [hq] at e0 e1 e2 e3 e4 e5;simp at e0 e1 e2 e3 e4 e5;subst e0 e1 e2 e3 e4 e5;simp [q0,q1,q2,q3,q4,q5]
    cases h
theorem vTZ9 {W : World} {r : List (String × DataW Unit)} {ps : List MemPlace} (h : DataW.LaidVars Tryz.prog W (("tidegate/lexer.signs", Rows.laid_tidegate_lexer_signs) :: r) ps) : SpZ9 W 4 Jo ∧ ∃ q, DataW.LaidVars Tryz.prog W r q := by
 obtain ⟨g',t',cs,A8,p,q,hg',ht',hvar,hd,hr,_⟩:=h;obtain rfl := Option.some.inj ((show Tryz.prog.globalNamed "tidegate/lexer.signs" = some 4 by kernel_rfl).symm.trans hg');obtain rfl:=Option.some.inj ((show (Tryz.prog.globals[4]?).map (·.type)=some 306 by kernel_rfl).symm.trans ht');have:=Z3Z9 (ss:=Jo.filterMap fun | .str s=>some s | _=>none) (n:=17) (e:=9) (by kernel_rfl) (by kernel_rfl) (by kernel_rfl) (by kernel_rfl) hd;exact ⟨UhZ9 (n := "tidegate/lexer.signs") (by kernel_rfl) hvar (by rw [this]; rfl) (by decide), q, hr⟩
theorem ors_of {W : World} {r : List (String × DataW Unit)} {ps : List MemPlace} (h : DataW.LaidVars Tryz.prog W (("tidegate/parser.ors", Rows.laid_tidegate_parser_ors) :: r) ps) : SpZ9 W 1 O8 ∧ ∃ q, DataW.LaidVars Tryz.prog W r q := by
 obtain ⟨g',t',cs,A8,p,q,hg',ht',hvar,hd,hr,_⟩:=h;obtain rfl := Option.some.inj ((show Tryz.prog.globalNamed "tidegate/parser.ors" = some 1 by kernel_rfl).symm.trans hg');obtain rfl:=Option.some.inj ((show (Tryz.prog.globals[1]?).map (·.type)=some 270 by kernel_rfl).symm.trans ht');have := KqZ9 (ss := vSZ9 O8) (n := 1) (e := 269) (by kernel_rfl) (show Tryz.prog.underlying 269 = some (.struct #[⟨ "text", 9, 0, false, "", "tidegate/parser", 0⟩, ⟨ "op", 3, 1, false, "", "tidegate/parser", 16⟩]) by kernel_rfl) rfl rfl (by kernel_rfl) (by kernel_rfl) (by kernel_rfl) (by kernel_rfl) (by kernel_rfl) (by kernel_rfl) hd;exact ⟨UhZ9 (n := "tidegate/parser.ors") (by kernel_rfl) hvar (by rw [this]; rfl) (by decide), q, hr⟩
theorem ands_of {W : World} {r : List (String × DataW Unit)} {ps : List MemPlace} (h : DataW.LaidVars Tryz.prog W (("tidegate/parser.ands", Rows.laid_tidegate_parser_ands) :: r) ps) : SpZ9 W 3 Nb ∧ ∃ q, DataW.LaidVars Tryz.prog W r q := by
 obtain ⟨g',t',cs,A8,p,q,hg',ht',hvar,hd,hr,_⟩:=h;obtain rfl := Option.some.inj ((show Tryz.prog.globalNamed "tidegate/parser.ands" = some 3 by kernel_rfl).symm.trans hg');obtain rfl:=Option.some.inj ((show (Tryz.prog.globals[3]?).map (·.type)=some 270 by kernel_rfl).symm.trans ht');have := KqZ9 (ss := vSZ9 Nb) (n := 1) (e := 269) (by kernel_rfl) (show Tryz.prog.underlying 269 = some (.struct #[⟨ "text", 9, 0, false, "", "tidegate/parser", 0⟩, ⟨ "op", 3, 1, false, "", "tidegate/parser", 16⟩]) by kernel_rfl) rfl rfl (by kernel_rfl) (by kernel_rfl) (by kernel_rfl) (by kernel_rfl) (by kernel_rfl) (by kernel_rfl) hd;exact ⟨UhZ9 (n := "tidegate/parser.ands") (by kernel_rfl) hvar (by rw [this]; rfl) (by decide), q, hr⟩
theorem sums_of {W : World} {r : List (String × DataW Unit)} {ps : List MemPlace} (h : DataW.LaidVars Tryz.prog W (("tidegate/parser.sums", Rows.laid_tidegate_parser_sums) :: r) ps) : SpZ9 W 6 Na ∧ ∃ q, DataW.LaidVars Tryz.prog W r q := by
 obtain ⟨g',t',cs,A8,p,q,hg',ht',hvar,hd,hr,_⟩:=h;obtain rfl := Option.some.inj ((show Tryz.prog.globalNamed "tidegate/parser.sums" = some 6 by kernel_rfl).symm.trans hg');obtain rfl:=Option.some.inj ((show (Tryz.prog.globals[6]?).map (·.type)=some 316 by kernel_rfl).symm.trans ht');have := KqZ9 (ss := vSZ9 Na) (n := 2) (e := 269) (by kernel_rfl) (show Tryz.prog.underlying 269 = some (.struct #[⟨ "text", 9, 0, false, "", "tidegate/parser", 0⟩, ⟨ "op", 3, 1, false, "", "tidegate/parser", 16⟩]) by kernel_rfl) rfl rfl (by kernel_rfl) (by kernel_rfl) (by kernel_rfl) (by kernel_rfl) (by kernel_rfl) (by kernel_rfl) hd;exact ⟨UhZ9 (n := "tidegate/parser.sums") (by kernel_rfl) hvar (by rw [this]; rfl) (by decide), q, hr⟩
theorem rEZ9 {W : World} {r : List (String × DataW Unit)} {ps : List MemPlace} (h : DataW.LaidVars Tryz.prog W (("tidegate/parser.totals", Rows.laid_tidegate_parser_totals) :: r) ps) : SpZ9 W 8 Ii ∧ ∃ q, DataW.LaidVars Tryz.prog W r q := by
 obtain ⟨g',t',cs,A8,p,q,hg',ht',hvar,hd,hr,_⟩:=h;obtain rfl := Option.some.inj ((show Tryz.prog.globalNamed "tidegate/parser.totals" = some 8 by kernel_rfl).symm.trans hg');obtain rfl:=Option.some.inj ((show (Tryz.prog.globals[8]?).map (·.type)=some 321 by kernel_rfl).symm.trans ht');have := KqZ9 (ss := vSZ9 Ii) (n := 4) (e := 269) (by kernel_rfl) (show Tryz.prog.underlying 269 = some (.struct #[⟨ "text", 9, 0, false, "", "tidegate/parser", 0⟩, ⟨ "op", 3, 1, false, "", "tidegate/parser", 16⟩]) by kernel_rfl) rfl rfl (by kernel_rfl) (by kernel_rfl) (by kernel_rfl) (by kernel_rfl) (by kernel_rfl) (by kernel_rfl) hd;exact ⟨UhZ9 (n := "tidegate/parser.totals") (by kernel_rfl) hvar (by rw [this]; rfl) (by decide), q, hr⟩
theorem pQZ9 {W : World} {r : List (String × DataW Unit)} {ps : List MemPlace} (h : DataW.LaidVars Tryz.prog W (("tidegate/pattern.shapes", Rows.laid_tidegate_pattern_shapes) :: r) ps) : SpZ9 W 0 Sp ∧ ∃ q, DataW.LaidVars Tryz.prog W r q := by
 obtain ⟨g',t',cs,A8,p,q,hg',ht',hvar,hd,hr,_⟩:=h;obtain rfl := Option.some.inj ((show Tryz.prog.globalNamed "tidegate/pattern.shapes" = some 0 by kernel_rfl).symm.trans hg');obtain rfl:=Option.some.inj ((show (Tryz.prog.globals[0]?).map (·.type)=some 181 by kernel_rfl).symm.trans ht');have := WsZ9 (ss := shpL) (n := 11) (e := 180) (by kernel_rfl) (show Tryz.prog.underlying 180 = some (.struct #[⟨ "least", 3, 0, false, "", "tidegate/pattern", 0⟩, ⟨ "most", 3, 1, false, "", "tidegate/pattern", 8⟩, ⟨ "typed", 4, 2, false, "", "tidegate/pattern", 16⟩, ⟨ "cond", 4, 3, false, "", "tidegate/pattern", 17⟩, ⟨ "scope", 4, 4, false, "", "tidegate/pattern", 18⟩, ⟨ "span", 4, 5, false, "", "tidegate/pattern", 19⟩]) by kernel_rfl) ⟨rfl, rfl, rfl, rfl, rfl, rfl⟩ (by kernel_rfl) (by kernel_rfl) (by kernel_rfl) (by kernel_rfl) (by kernel_rfl) (by kernel_rfl) ⟨by kernel_rfl, by kernel_rfl, by kernel_rfl, by kernel_rfl, by kernel_rfl, by kernel_rfl⟩ (by kernel_rfl) (by kernel_rfl) hd;exact ⟨UhZ9 (n := "tidegate/pattern.shapes") (by kernel_rfl) hvar (by rw [this]; rfl) (by decide), q, hr⟩
def UmZ9:List Int:=[1,10,100,1000,10000,100000,1000000,10000000,100000000,1000000000,10000000000,100000000000,1000000000000,10000000000000,100000000000000,1000000000000000,10000000000000000,100000000000000000,1000000000000000000,10000000000000000000]
theorem oTZ9 {W:World}{n:String}{d:DataW Unit}{r:List (String×DataW Unit)}{ps:List MemPlace}(h:DataW.LaidVars Tryz.prog W ((n,d)::r) ps):∃q,DataW.LaidVars Tryz.prog W r q:=by
 obtain ⟨g',t',cs,A8,p,q,hg',ht',hvar,hd,hr,_⟩:=h;exact ⟨q,hr⟩
theorem pow_of {W : World} {r : List (String × DataW Unit)} {ps : List MemPlace} (h : DataW.LaidVars Tryz.prog W (("internal/strconv.uint64pow10", Rows.laid_internal_strconv_uint64pow10) :: r) ps) : Lib.TabIs Tryz.prog W "internal/strconv.uint64pow10" .u64 UmZ9 ∧ ∃ q, DataW.LaidVars Tryz.prog W r q := by
 obtain ⟨g',t',cs,A8,p,q,hg',ht',hvar,hd,hr,_⟩:=h;obtain rfl := Option.some.inj ((show Tryz.prog.globalNamed "internal/strconv.uint64pow10" = some 7 by kernel_rfl).symm.trans hg');obtain rfl:=Option.some.inj ((show (Tryz.prog.globals[7]?).map (·.type)=some 318 by kernel_rfl).symm.trans ht');have:=Lib.cells_of_tab (k:=.u64) (zs:=UmZ9) (n:=20) (e:=298) (by kernel_rfl) (by kernel_rfl) (by kernel_rfl) (by kernel_rfl) hd;refine ⟨?_,q,hr⟩;unfold Lib.TabIs;rw [hvar,←this]
theorem wXZ9 {W : World} (h : Lib.TabIs Tryz.prog W "internal/strconv.uint64pow10" .u64 UmZ9) : ∃ T fr, W.heap[7]? = some (.cells (UmZ9.map fun z => Value.int .u64 z).toArray T fr) := by
 have e : Tryz.prog.globalNamed "internal/strconv.uint64pow10" = some 7 := by kernel_rfl
 unfold Lib.TabIs World.var? at h;rw [e] at h
 have hk:∀(X:Array Value) (o:Option Obj),(match o with | some (Obj.cells cs _ _)=>some cs | _=>none)=some X→∃T fr,o=some (Obj.cells X T fr):=by
  intro X o h
  match o,h with
  | some (Obj.cells cs T fr),h=>exact ⟨T,fr,by rw [Option.some.inj h]⟩
 exact hk _ _ h
theorem yR {W:World}(h:laidMet Tryz.prog Rows.resolveTypesRow.laid W)(hS:W.ShapedOpen Tryz.prog):GlobOK g0 W:=by
  obtain ⟨ps,h,_⟩:=h;obtain ⟨ps,h⟩:=oTZ9 h;obtain ⟨ps,h⟩:=oTZ9 h;obtain ⟨ht,ps,h⟩:=pow_of h;obtain ⟨hsigns,ps,h⟩:=vTZ9 h;obtain ⟨hors,ps,h⟩:=ors_of h;obtain ⟨hands,ps,h⟩:=ands_of h;obtain ⟨hsums,ps,h⟩:=sums_of h;obtain ⟨htotals,ps,h⟩:=rEZ9 h;obtain ⟨hshapes,ps,h⟩:=pQZ9 h;refine ⟨fun p hp=>?_,fun p hp=>?_⟩
  · simp only [globals,G2,gF,or_false] at hp
    rcases hp with rfl | rfl | rfl | rfl | rfl | rfl | rfl | rfl
    · exact ⟨_,rfl,hsigns⟩
    · exact ⟨_,rfl,hors⟩
    · exact ⟨_,rfl,hands⟩
    · exact ⟨_,rfl,hsums⟩
    · exact ⟨_,rfl,htotals⟩
    · skip
      refine ⟨Sq,rfl,?_⟩;have hcell : ∀ j, W.cell? ⟨7, j, none⟩ = (UmZ9.map fun z => Value.int .u64 z).toArray[j]? := fun j => World.var?_cell (show Tryz.prog.globalNamed "internal/strconv.uint64pow10" = some 7 by kernel_rfl) ht j
      have hs:Sq=UmZ9.map fun z=>AV.int .u64 z:=rfl
      rw [hs];refine .ptr 7 0 _ (fun j=>Value.int .u64 (UmZ9.getD j 0)) (fun j x hj=>?_) (fun j x hj=>?_)
      · rw [List.getElem?_map] at hj
        cases hq:UmZ9[j]? with
        | none=>rw [hq] at hj;cases hj
        | some y=>
          refine ⟨trivial,?_⟩;rw [F9,hcell j];simp [hq,N2]
      · rw [List.getElem?_map] at hj
        cases hq:UmZ9[j]? with
        | none=>rw [hq] at hj;cases hj
        | some y=>
          rw [hq] at hj;simp only [Ow,Option.some.injEq] at hj;subst hj;have e:UmZ9.getD j 0=y:=by rw [N2,hq];rfl
          rw [e];exact .int _ _
    · exact ⟨_,rfl,hshapes⟩
    · obtain ⟨m,hm⟩:=Tryz.laysM144.s1_3 W hS
      refine ⟨[.int .i64 m],⟨m,rfl⟩,.ptr 5 0 _ (fun _=>.int .i64 m) (fun j x hj=>?_) (fun j x hj=>?_)⟩
      · have hj0:j=0:=by have:=(List.getElem?_eq_some_iff.1 hj).1;simp at this;omega
        subst hj0;exact ⟨trivial,hm⟩
      · have hj0:j=0:=by have:=(List.getElem?_eq_some_iff.1 hj).1;simp at this;omega
        subst hj0;simp only [List.getElem?_cons_zero,Option.some.injEq] at hj;subst hj;exact .int _ _
  · obtain rfl:=My.1 hp
    exact ⟨rfl,wXZ9 ht⟩
def kDZ9 (k:IntKind)(l:List Int):Obj→Obj
 | .cells _ t frozen=>.cells (l.map fun z=>Value.int k z).toArray t frozen
 | o=>o
def ofTab (d:DataW Unit):List Int:=match d with
 | .agg l=>l.map fun | .lit (.int _ n)=>n | _=>0
 | _=>[]
def M0Z9 (l:List AV):Obj→Obj
 | .cells _ t frozen=>.cells (l.map oXZ9).toArray t frozen
 | o=>o
noncomputable def laidWorld (os:Os):World:=
 { World.holding Tryz.prog os ⟨#[],#[],[]⟩ with heap:=((((((((((World.holding Tryz.prog os ⟨#[],#[],[]⟩).heap.modify 4 (M0Z9 Jo)).modify 1 (M0Z9 O8)).modify 3 (M0Z9 Nb)).modify 6 (M0Z9 Na)).modify 8 (M0Z9 Ii)).modify 0 (M0Z9 Sp)).modify 7 (kDZ9 .u64 UmZ9)).modify 9 (kDZ9 .u8 (ofTab Rows.laid_math_bits_deBruijn32tab))).modify 10 (kDZ9 .u8 (ofTab Rows.laid_math_bits_deBruijn64tab))) }
end Go.Proofs.YtckhoadldibflaaGreatDoor

namespace Go.Aw
open Go
section
variable {H:Type} {enc:TypeId×Value→H} {P:Program} {w:World} {sp:Nat→Bool} {hd:Bool} {B:DataW H→Nat} {BA:List (DataW H)→Nat}
end
end Go.Aw
