/-
  Walks of layer 14: the law of other names. No condition.
-/
import Derived.Test.YtckhoadldibflaaGreatDoorK01
import Derived.Test.YtckhoadldibflaaGreatDoorK19
import Derived.Test.YtckhoadldibflaaGreatDoorK16
import Derived.Test.YtckhoadldibflaaGreatDoorK11
import Derived.KernelRfl
namespace Go.Proofs.YtckhoadldibflaaGreatDoor
open Go Go.Aw
set_option maxHeartbeats 12800000
set_option maxRecDepth 20000
set_option linter.unusedVariables false
set_option linter.unusedSimpArgs false

theorem z_n5 {t:Syn}(h:(t.kind==5)=true):t.name ++ [122]=zN Bz t.kind t.name:=by rw [show t.kind=5 by simpa using h];rfl
theorem z_n0 {t:Syn}(h:(t.kind==5)=false):t.name=zN Bz t.kind t.name:=(pW (by simpa using h)).symm
theorem z_x1 {t:Syn}(h:(((t.kind==14)||(t.kind==15))||(t.kind==16))=true):t.text ++ [122]=zX Bz t.kind t.text:=by unfold zX;rw [if_pos h];rfl
theorem z_x0 {t:Syn}(h:(((t.kind==14)||(t.kind==15))||(t.kind==16))=false):t.text=zX Bz t.kind t.text:=by unfold zX;rw [Bl h]
theorem rn_enc (l:List Syn):(l.map Z8).map Cl=l.map (fun a=>cSyn (Z8 a)):=by rw [List.map_map];exact List.map_congr_left fun a _=>Ba _
theorem qWZ9 (t:Syn)(ht:E7 t):Ap Tryz.prog 17 [.agg (cSyn t)] (.agg (cSyn (Z8 t))):=by
 induction t using Syn.ind
 rename_i t ih;have hkl:=Hy ht;have htx:=Yn ht;have hmx:1048577≤maxLen:=by decide
 refine Ap.body (n:=50) tok Tryz.func17 rfl rfl rfl fun H=>?_
 refine Ae (Qp (Gc Au) ?_);refine Ed Kz fun b2=>?_
 refine Bs (Qp (B0 Au) ?_);refine Ed Kz fun b3=>?_
 refine Bt 0 Au (_::_::_) ?_;refine Bs (Qp B7 ?_);refine Bt 0 Au (_::_::_) ?_;refine AOL.ghost (GS.cellRow 0 4 25 6 rfl rfl rfl rfl) ?_;refine Ag ?_;refine AW.Aak (fun (n:Am)=>(⟨[(1,.ptr (cSyn t)),(2,.val (.pointer (some ⟨b2,0,none⟩))),(3,.val (.pointer (some ⟨b3,0,none⟩)))],.row (.slice none 0 0) 0 25 6 :: .box b3 25 [.int .i64 t.kind,.str (t.text),.str (n),.int .i64 t.num,.row (.slice none 0 0) 6 [],.int .i64 t.pos] :: .box b2 25 Kz::H,50⟩:St)) (fun n=>n=(zN Bz t.kind t.name)) ?_ ?_
 ·
  refine Ae (Qp (Qf Au) (Qp Bi (Qp Av (Ag (Aq (fun hc1=>?_) fun hc1=>?_)))))
  ·
   refine AW.region (Qp B7 ?_);refine AOL.Aae (Ad (k:=1) (c:=.str _) tok rfl rfl rfl rfl) rfl rfl ?_;refine Qp (M1 rfl rfl rfl (by simp;omega)) ?_;refine Qp B7 ?_;refine Bt 1 Au (_::_::_::_) ?_;refine Ag ?_;refine ⟨(t.name ++ [122]),?_,Cs⟩;exact z_n5 hc1
  refine Bg ?_;refine ⟨t.name,?_,Cs⟩;exact z_n0 hc1
 rintro n hN;subst hN;refine AW.Aak (fun (x:Am)=>(⟨[(1,.ptr (cSyn t)),(2,.val (.pointer (some ⟨b2,0,none⟩))),(3,.val (.pointer (some ⟨b3,0,none⟩)))],.row (.slice none 0 0) 0 25 6 :: .box b3 25 [.int .i64 t.kind,.str (x),.str ((zN Bz t.kind t.name)),.int .i64 t.num,.row (.slice none 0 0) 6 [],.int .i64 t.pos] :: .box b2 25 Kz::H,50⟩:St)) (fun x=>x=(zX Bz t.kind t.text)) ?_ ?_
 ·
  refine Ae (Qp (Qf Au) (Qp Bi (Qp Av (Qp A9 (Qg [] Qw (Qf Au) (Qg [(18,_)] Qw Bi (Qg [(19,_)] Qw Av (Qp B9 (Qp A9 ?_)))))))));refine Qg [] Qw (Qf Au) (Qg [(23,_)] Qw Bi (Qg [(24,_)] Qw Av (Qp B9 (Ag (Aq (fun hc2=>?_) fun hc2=>?_)))))
  ·
   refine AW.region (Qp B7 ?_);refine AOL.Aae (Ad (k:=1) (c:=.str _) tok rfl rfl rfl rfl) rfl rfl ?_;refine Qp (M1 rfl rfl rfl (by simp;omega)) ?_;refine Qp B7 ?_;refine Bt 1 Au (_::_::_::_) ?_;refine Ag ?_;refine ⟨(t.text ++ [122]),?_,Cs⟩;exact z_x1 hc2
  refine Bg ?_;refine ⟨t.text,?_,Cs⟩;exact z_x0 hc2
 rintro x hX;subst hX;refine Bk (Qp Al (Ag (AW.block ?_)));refine AW.Aag (fun (q:Nat×List (List AV)×Value)=>(⟨[(1,.ptr (cSyn t)),(2,.val (.pointer (some ⟨b2,0,none⟩))),(3,.val (.pointer (some ⟨b3,0,none⟩))),(4,.int .i64 (q.1:Int))],.row q.2.2 q.2.1.length 25 6 :: .box b3 25 [.int .i64 t.kind,.str ((zX Bz t.kind t.text)),.str ((zN Bz t.kind t.name)),.int .i64 t.num,.row q.2.2 6 q.2.1,.int .i64 t.pos] :: .box b2 25 Kz::H,50⟩:St)) (fun q=>q.1≤t.kids.length∧q.2.1=(t.kids.take q.1).map (fun a=>cSyn (Z8 a))∧q.2.1.length≤q.1) (fun q=>t.kids.length-q.1) ((0,[],.slice none 0 0)) ?_ Cs ?_
 · exact ⟨E2 _,rfl,C4 _⟩
 rintro q hR;refine Bk (Qp Ao (Qp (Qf Kg) (Qp Cw ?_)));refine Qp (Ah (n:=t.kids.length) tok rfl rfl rfl (by simp)) ?_;refine Qp Bx (Ag (Aq (fun hc3=>?_) fun hc3=>?_))
 ·
  obtain ⟨a,ha⟩:=Cc hc3;have hlt:=Bu ha;have hm:=B4 ha;have hsc:∀c∈q.2.1,Bb c=true:=by rw [hR.2.1];exact fun c hc=>by obtain ⟨x,_,rfl⟩:=Mu.1 hc;rfl
  have hql:=hR.2.2;refine Bg (AW.seq (AW.block ?_));refine AW.draw mixed (fun H'=>_∈H') (B4 (i:=1) rfl) (by kernel_rfl) ?_;refine Qn 0 rfl B7 ?_;refine Qn 1 rfl (OpP.Aah (fun k=>Ad (k:=k) (c:=.row _ _ _) tok rfl rfl rfl rfl) (fun _ h=>h)) ?_;refine Qn 2 rfl (Qf Kg) (Qn 3 rfl Cw (Qn 4 rfl Ao ?_));refine Qn 5 rfl (Aa (c:=Au) tok rfl rfl rfl rfl rfl rfl (by omega) (Gp ha)) ?_;refine Qn 6 rfl (B0 Au) ?_;refine Qn 7 rfl (Qc rfl (ih a hm (E6 ht hm))) ?_;refine Qn 8 rfl (Aj (es:=[Au]) tok rfl rfl rfl rfl rfl rfl rfl rfl rfl) ?_;refine Gz.eff _ _ 9 _ _ rfl (by kernel_rfl) rfl rfl (Dh (k:=0) tok rfl rfl rfl rfl rfl rfl rfl rfl (Gu rfl) (hsc) (by simp;omega) (by simp [maxLen];omega)) (by rintro _ _ ⟨v47,rfl,rfl⟩;simp) ?_;rintro _ _ ⟨v47,rfl,rfl⟩;refine Qn 10 rfl B7 ?_;refine Gz.last _ _ 11 _ _ rfl (by kernel_rfl) rfl rfl (Bf (k:=1) (v:=.row _ _ _) (cs':=Au) (H2:=_::_::_::_) tok rfl rfl rfl rfl (rfl) rfl rfl rfl rfl) (by kernel_rfl) ?_;rintro _ _ ⟨rfl,rfl⟩;refine I6 (Bh (AW.region (Qp Ao (Qp E9 (Qp Al (Ag ?_))))));refine ⟨(q.1+1,q.2.1 ++ [cSyn (Z8 a)],v47),?_,?_,Cs⟩
  · exact ⟨hlt,by simp only;rw [Eu ha,hR.2.1];simp,by simp;omega⟩
  simp only;omega
 have hte:=Dm hc3;have hall:=hR.2.1;rw [hte] at hall;refine AW.exit ?_;refine Bq (Ri (Ae ?_));refine AOL.ghost (GS.cell (H2:=_::_::_::_) 1 4 rfl rfl rfl rfl Lh) ?_;refine AOL.Aae (Ax (k:=1) (l:=Au) tok rfl rfl rfl rfl rfl) rfl rfl ?_;refine Bt 2 Au (_::_::_::_) ?_;refine Rb ?_;refine ⟨.inr rfl,[.agg Au],.cons (.box _ _ _ 2 _ _ _ _ rfl rfl rfl rfl rfl rfl) <| .nil,.cons _ (.cons _ (.cons _ (.refl _))),?_⟩;exact Eq.trans (congrArg (fun l:List (List AV)=>AV.agg [.int .i64 t.kind,.str (zX Bz t.kind t.text),.str (zN Bz t.kind t.name),.int .i64 t.num,.sl 6 l,.int .i64 t.pos]) (hall.trans (rn_enc t.kids).symm)) (congrArg (fun q:Syn=>AV.agg (cSyn q)) (Yk Bz id t)).symm
theorem ev_w:∀t:Syn,A4 t .pats=0→∀e∈I4 t,wC e≤wC t:=by
  intro t
  induction t using Syn.ind with
  | h t ih=>
    intro hc e he;rw [jW] at he;rcases S0.1 he with he | he
    · split at he
      · rw [My.1 he];exact C4 _
      · split at he
        · rename_i h10
          rw [My.1 he];have h2:=H0 hc (.inl (by simpa using h10));have:=aT (B4 (D8 (t:=t) (k:=1) (by omega)));have:=Ln t;omega
        cases he
    · obtain ⟨a,ha,h⟩:=List.mem_flatMap.1 he
      have:=ih a (Lq ha) (Le hc ha) e h;have:=aT (Lq ha);have:=Ln t;omega
structure RnOK (T:List e8Sc) (t:Syn):Prop where
 f:I7 t=true
 g:((Dr T t).2.2 != 0)=false
theorem RnOK.q {T:List e8Sc}{t:Syn}(h:RnOK T t):QryOK t:=⟨Kv h.f,K9 (Mc h.g).2.1⟩
theorem RnOK.med {T:List e8Sc}{t:Syn}(h:RnOK T t):medQ (Dr T t).1:=qp_med (Kv h.f)
theorem RnOK.nm {T:List e8Sc}{t:Syn}(h:RnOK T t):∀v∈(Dr T t).1.vars,v.name.length≤1048576:=fun v hv=>by
 obtain ⟨_,_,h3,hg⟩:=Mc h.g;rw [h3,hg.is] at hv;have hV:=X0 (T:=T) (I4 (A3 t 1)) [] hg.v;have hv2:v∈(Hi T [] (I4 (A3 t 1))).1:=hv;rw [hV,Je] at hv2;obtain ⟨e,he,rfl⟩:=Mu.1 hv2;have h1:=ev_w (A3 t 1) h.q.pat e he;have h2:=Ln e;have h4:=h.q.med1;unfold E7 at h4;show e.name.length≤_;omega
theorem RnOK.chk {T:List e8Sc}{t:Syn}(h:RnOK T t):mF (Dr T t).1.pattern=0:=by
 obtain ⟨_,_,h3,hg⟩:=Mc h.g;rw [h3,hg.is,chk_eq];have h4:J7 (aA T t (D1 T t))=0:=by simpa using hg.p
 exact h4
theorem RnOK.ren {T:List e8Sc}{t:Syn}(h:RnOK T t)(h3:((Dr T (Z8 t)).2.2 != 0)=false):Dr T (Z8 t)=(yX Bz (Dr T t).1,0,0):=by
 rcases wD h.f h.g with h1 | h1
 · rw [h1] at h3;cases h3
 exact h1
theorem RnOK.bad {T:List e8Sc}{t:Syn}(h:RnOK T t)(h3:((Dr T (Z8 t)).2.2 != 0)=true):(true&&((Dr T (Z8 t)).2.2==3))=true:=by
 rcases wD h.f h.g with h1 | h1
 · rw [h1];rfl
 rw [h1] at h3;cases h3
theorem RnOK.with {T:List e8Sc}(hl:T.length≤1048576)(hs:∀s∈T,Zj s){t:Syn}(h:RnOK T t)(hb:Bare t):Ap Tryz.prog 14 [.sl 2 (T.map Mt),.agg (cSyn (Fu t))] (.tuple [.agg (cQy (Dr T t).1),.int .i64 0,.int .i64 0]):=by
 have h1:=O5 T hl hs (Fu t) (yC h.f h.q hb);rw [w_qryP h.f hb h.g] at h1;exact h1
theorem six_len {l:List Syn}:∀e∈l.map Cl,e.length=6:=fun e he=>by
 obtain ⟨x,_,rfl⟩:=Mu.1 he;rw [Ba];rfl
theorem XyZ9 {l:List Syn}{x y:Syn}{r:List Syn}(h:l=x::y::r)(J:List AV):(l.map Cl).flatten++J=cSyn x++(cSyn y++((r.map Cl).flatten++J)):=by
 subst h;rw [Dn,Dn,Ca,Ca,Ba,Ba];simp only [J6]
theorem U0 (T:List e8Sc)(hl:T.length≤1048576)(hs:∀s∈T,Zj s)(t:Syn):Ap Tryz.prog 4 [.sl 2 (T.map Mt),.agg (cSyn t)] (.bool true):=by
 refine Ap.body (n:=157) tok Tryz.func4 rfl rfl rfl fun H=>?_
 refine Ae (Qp (Gc Au) (Qp A0 (Ag (Bk (Qp (B0 Au) ?_)))));refine Qp (Qc rfl (f_few t)) ?_;refine Qp Et (Qp A9 (Qg [] Qw G4 ?_));refine Qg [(20,_)] Qw (Qc rfl (sK T hl hs)) ?_;refine Qg [(21,_)] Qw Et (Qp B9 (Ag (Aq (fun hc1=>?_) fun hc1=>?_)))
 ·
  refine Ae ?_;refine Qp (Qc rfl (Lz)) ?_;refine Qp A0 (Rc ?_);refine Qr (.bool _) ?_;rfl
 have hf:I7 t=true:=by rw [Ka] at hc1;simpa using hc1.1
 refine Bg (Ae (Qp G4 (Qp (B0 Au) ?_)));refine Qp (Qc rfl (O5 T hl hs t (Kv hf))) ?_;refine Qp N4 ?_;refine Qp (B5 (v:=.agg It) rfl rfl) ?_;refine Qp Iu (Qp Iu ?_);refine Ed rY fun b5=>?_
 refine Bt 0 It (_::_) ?_;refine Qp Al (Qp Al ?_);refine AOL.ghost (GS.freeze (t:=5) 0 rfl rfl) ?_;refine Bs (Qp G4 (Qp (B0 Au) ?_));refine Qp (Qc rfl (qWZ9 t (Kv hf))) ?_;refine Qp (Qc rfl (O5 T hl hs (Z8 t) (z_med hf))) ?_;refine Qp N4 ?_;refine Qp (B5 (v:=.agg It) rfl rfl) ?_;refine Qp Iu (Qp Iu ?_);refine Ed rY fun b8=>?_
 refine Bt 0 It (_::_) ?_;refine Qp Al (Qp Al (Ag (Bk (Qp Ao (Qp Br (Ag (Aq (fun hc2=>?_) fun hc2=>?_)))))))
 ·
  refine Ae ?_;refine Qp (Qc rfl (Lz)) ?_;refine Qp A0 (Rc ?_);refine ⟨.inr rfl,[.bool _],.cons (.tmp _ _ rfl) <| .nil,.cons _ (.refl _),?_⟩;rfl
 have hrn:RnOK T t:=⟨hf,hc2⟩;refine Bg ?_;refine AW.Aak (fun (_:Unit)=>(⟨[(0,.sl 2 (T.map Mt)),(3,.ptr (cSyn t)),(5,.ptr (cQy (Dr T t).1)),(8,.val (.pointer (some ⟨b8,0,none⟩)))],.box b8 40 (cQy (yX Bz (Dr T t).1))::H,157⟩:St)) (fun _=>RnOK T t) ?_ ?_
 ·
  refine Ae (Qp Ao (Qp Br (Ag (Aq (fun hc3=>?_) fun hc3=>?_))))
  ·
   refine Ae ?_;refine Qp (Qc rfl (Lz)) ?_;refine Qp A9 (Qg [] Qw Ao (Qg [(47,_)] Qw Av (Qp E0 (Qp A0 (Rc ?_)))));refine ⟨.inr rfl,[.bool _],.cons (.tmp _ _ rfl) <| .nil,.cons _ (.refl _),?_⟩;exact congrArg AV.bool (hrn.bad hc3)
  refine AW.ghost (GS.Aai (H2:=_::_) 0 rfl (congrArg (fun q:Qy×Int×Int=>cQy q.1) (hrn.ren hc3)) rfl) ?_;refine Bg ?_;refine ⟨(),?_,Cs⟩;exact hrn
 rintro _ hrn;have hf:=hrn.f;have hmq:=hrn.med;have hvq:=hmq.v;have hkl3:=hrn.q.len;have hkln:=Hy hrn.q.m;refine Bk (Qp B7 ?_);refine AOL.Aae (Ad (k:=0) (c:=.sl _ _) tok rfl rfl rfl rfl) rfl rfl ?_;refine Qp (Ah (n:=(Dr T t).1.vars.length) tok rfl rfl rfl (by simp [yX])) ?_;refine Qp (Qf pB) (Qp Cw ?_);refine Qp (Ah (n:=(Dr T t).1.vars.length) tok rfl rfl rfl (by simp)) ?_;refine Qp Br (Ag (Aq (fun hc4=>?_) fun hc4=>?_))
 · simp at hc4
 refine Bg (Bk (Qp Al (Ag (AW.block ?_))));refine AW.Aag (fun (k:Nat)=>(⟨[(0,.sl 2 (T.map Mt)),(3,.ptr (cSyn t)),(5,.ptr (cQy (Dr T t).1)),(8,.val (.pointer (some ⟨b8,0,none⟩))),(11,.int .i64 (k:Int))],.box b8 40 (cQy (yX Bz (Dr T t).1))::H,157⟩:St)) (fun k=>k≤(Dr T t).1.vars.length) (fun k=>(Dr T t).1.vars.length-k) (0) ?_ Cs ?_
 · exact E2 _
 rintro k hR;refine Bk (Qp Ao (Qp (Qf pB) (Qp Cw ?_)));refine Qp (Ah (n:=(Dr T t).1.vars.length) tok rfl rfl rfl (by simp)) ?_;refine Qp Bx (Ag (Aq (fun hc5=>?_) fun hc5=>?_))
 ·
  obtain ⟨a,ha⟩:=Cc hc5;have hlt:=Bu ha;have hm:=B4 ha;have hzk:((yX Bz (Dr T t).1).vars.map O2)[k]? = some (O2 (zV Bz a)):=by show (((Dr T t).1.vars.map (zV Bz)).map O2)[k]? = _;rw [List.getElem?_map,List.getElem?_map,ha];rfl
  have hnm:=hrn.nm a hm;have hmx:1048577≤maxLen:=by decide
  refine Bg (AW.seq (AW.block (AW.seq ?_)));refine AW.draw mixed (fun H'=>_∈H') (B4 (i:=0) rfl) (by kernel_rfl) ?_;refine Qn 0 rfl B7 ?_;refine Qn 1 rfl (OpP.Aah (fun k=>Ad (k:=k) (c:=.sl _ _) tok rfl rfl rfl rfl) (fun _ h=>h)) ?_;refine Qn 2 rfl Ao ?_;refine Qn 3 rfl (Aa (c:=Jz) tok rfl rfl rfl rfl rfl rfl (by omega) (hzk)) ?_;refine Qn 4 rfl (Qf Jz) (Qn 5 rfl Hc (Qn 6 rfl (Qf pB) (Qn 7 rfl Cw (Qn 8 rfl Ao ?_))));refine Qn 9 rfl (Aa (c:=Jz) tok rfl rfl rfl rfl rfl rfl (by omega) (Dv ha)) ?_;refine Qn 10 rfl (Qf Jz) (Qn 11 rfl Hc ?_);refine Qn 12 rfl (M1 rfl rfl rfl (by simp;omega)) ?_;refine Qn 13 rfl (Dk rfl rfl) ?_;refine Qn 14 rfl A9 (Qo 15 rfl [] Qw B7 ?_);refine Gz.pure _ _ 16 _ _ rfl (by kernel_rfl) (by kernel_rfl) rfl (.opt _ (.sl _ _) [(79,_)] rfl (qZ.all ⟨Ent.Aad _ _,trivial⟩) (fun hG=>OpP.Aah (fun k=>Ad (k:=k) (c:=.sl _ _) tok rfl rfl rfl rfl) (fun _ h=>h)) rfl) ?_;refine Qo 17 rfl [] Qw Ao ?_;refine Gz.pure _ _ 18 _ _ rfl (by kernel_rfl) (by kernel_rfl) rfl (.opt _ (.ptr _) [(80,_),(81,_)] rfl (qZ.all ⟨Ent.Aad _ _,Ent.Aad _ _,trivial⟩) (fun hG=>Aa (c:=Jz) tok rfl rfl rfl rfl rfl rfl (by omega) (hzk)) rfl) ?_;refine Qo 19 rfl [(82,_)] Qw (Qf [Iq _]) (Qo 20 rfl [(83,_)] Qw Bi (Qo 21 rfl [] Qw (Qf pB) (Qo 22 rfl [(85,_)] Qw Cw (Qo 23 rfl [] Qw Ao ?_))));refine Gz.pure _ _ 24 _ _ rfl (by kernel_rfl) (by kernel_rfl) rfl (.opt _ (.ptr _) [(86,_),(87,_)] rfl (qZ.all ⟨Ent.Aad _ _,Ent.Aad _ _,trivial⟩) (fun hG=>Aa (c:=Jz) tok rfl rfl rfl rfl rfl rfl (by omega) (Dv ha)) rfl) ?_;refine Qo 25 rfl [(88,_)] Qw (Qf [Iq _]) (Qo 26 rfl [(89,_)] Qw Bi ?_);refine Gz.pure _ _ 27 _ _ rfl (by kernel_rfl) (by kernel_rfl) rfl (.opt _ (.bool _) [(84,_),(90,_)] rfl (qZ.all ⟨Ent.Aad _ _,Ent.Aad _ _,trivial⟩) (fun hG=>Ik rfl rfl) rfl) ?_;refine Qn 28 rfl B9 ?_;refine Hs ?_;refine Bh (Aq (fun hc6=>?_) fun hc6=>?_)
  · simp [zV,Bz] at hc6
  refine Rf (AW.region (Qp Ao (Qp E9 (Qp Al (Ag ?_)))));refine ⟨k+1,?_,?_,Cs⟩
  · exact hlt
  omega
 refine AW.exit ?_;refine Bq (Ri (Ae (Qp (Qf pB) (Qp Cw (Qp B7 ?_)))));refine Bt 0 It (_::_) ?_;refine Ag (Bk ?_);refine AOL.Aae (Ax (k:=0) (l:=It) tok rfl rfl rfl rfl rfl) rfl rfl ?_;refine Qp (B0 It) ?_;refine Qp (Qc rfl (vI (Dr T t).1 hmq)) ?_;refine Qp Et (Qp A9 (Qg [] Qw (Qf Kg) (Qg [(101,_)] Qw Cw ?_)));refine AOL.g (y:=Iq _) _ [(102,_)] rfl (qZ.all ⟨Ent.Aad _ _,trivial⟩) (fun hG=>Ah (n:=t.kids.length) tok rfl rfl rfl (by simp)) rfl ?_;refine Qg [(103,_)] Qw Bx (Qp B9 (Ag (Aq (fun hc7=>?_) fun hc7=>?_)))
 ·
  simp at hc7;omega
 have ht:=hrn.q;refine (M9 ht).elim fun x0 h0=>h0.elim fun x1 h1=>h1.elim fun xr h2=>?_
 have hks:=h2.1;have hk1:=h2.2;have hkl:=Hy ht.m;have hlk:(1:Int)<((t.kids.map Cl).length:Int):=by rw [Dx,hks];simp;omega
 have hkw:(Fu t).kids=x0::Mq x1::xr:=by show t.kids.set 1 (Mq (A3 t 1))=_;rw [hks,hk1];rfl
 refine Bg (Ae (Qp (B0 Au) ?_));refine Ed Kz fun b12=>?_
 refine Bt 0 Au (_::_::_) ?_;refine Bs ?_;refine Qe (F4 (es:=[]) tok rfl rfl rfl rfl rfl rfl rfl rfl rfl) ?_;rintro _ _ ⟨v107,rfl,rfl⟩;refine Qp (Qf Kg) (Qp Cw ?_);refine Qe (gA (k:=0) tok rfl rfl rfl rfl rfl rfl rfl rfl (Sv _) (by rw [hks];simp) (by simp;omega) (by simp [maxLen];omega)) ?_;rintro _ _ ⟨b110,cap,J,rfl,hcap,hcapm,rfl⟩;refine Qp B7 ?_;refine Bt 1 Au (_::_::_::_) ?_;refine Re (AW.seq ?_);refine AW.ghost (GS.Aai 0 rfl (XyZ9 hks J) rfl) ?_;refine AW.region (Qp B7 ?_);refine AOL.Aae (Ad (k:=1) (c:=.val _) tok rfl rfl rfl rfl) rfl rfl ?_;refine Qp (C2 (o':=6) tok rfl rfl rfl rfl rfl (by decide) (hlk) (rfl)) ?_;refine Qp B7 ?_;refine AOL.Aae (Ad (k:=0) (c:=Iq _) tok rfl rfl rfl rfl) rfl rfl ?_;refine Qp Av (Qp A9 (Qg [] Qw B7 ?_));refine AOL.gk (y:=.val _) _ [(119,_)] rfl (qZ.all ⟨Ent.Aad _ _,trivial⟩) (fun hG=>Ad (k:=1) (c:=.val _) tok rfl rfl rfl rfl) rfl rfl ?_;refine AOL.g (y:=.val _) _ [(120,_)] rfl (qZ.all ⟨Ent.Aad _ _,trivial⟩) (fun hG=>C2 (o':=6) tok rfl rfl rfl rfl rfl (by decide) (hlk) (rfl)) rfl ?_;refine Qg [(121,_)] Qw B7 ?_;refine AOL.gk (y:=.sl _ _) _ [(122,_)] rfl (qZ.all ⟨Ent.Aad _ _,trivial⟩) (fun hG=>Ad (k:=0) (c:=.sl _ _) tok rfl rfl rfl rfl) rfl rfl ?_;refine AOL.g (y:=Iq _) _ [(123,_)] rfl (qZ.all ⟨Ent.Aad _ _,trivial⟩) (fun hG=>Ah (n:=x1.kids.length) tok rfl rfl rfl (by simp)) rfl ?_;refine Qg [(124,_)] Qw Av (Qp E0 (Ag (Aq (fun hc8=>?_) fun hc8=>?_)))
 ·
  have hbr:Bare t:=by rw [Gs] at hc8;exact ⟨by rw [hk1];simpa using hc8.1,by rw [hk1];have:=hc8.2;simp at this;exact this⟩
  refine Ae (Qp B7 ?_);refine AOL.Aae (Ad (k:=1) (c:=.val _) tok rfl rfl rfl rfl) rfl rfl ?_;refine Qp (E4 Au) ?_;refine Qp (Aj (es:=[Au]) tok rfl rfl rfl rfl rfl rfl rfl rfl rfl) ?_;refine Qp (C2 (o':=6) tok rfl rfl rfl rfl rfl (by decide) (hlk) (rfl)) ?_;refine Qp B7 ?_;refine Rt (Bf (k:=0) (v:=.sl _ _) (cs':=cSyn x0++(cSyn (Mq x1)++((xr.map Cl).flatten++J))) (H2:=_::_::_::_) tok rfl rfl rfl rfl rfl rfl (Nat.ble_eq_true_of_le (by simp [cSyn];try omega)) (rfl) rfl) ?_;refine Re ?_;refine AW.ghost (GS.freezeSlCell (z:=6) (es:=(Fu t).kids.map Cl) (H2:=_::_::_) 0 0 4 rfl rfl rfl (XyZ9 hkw J) (by rw [Dx,Dx];show t.kids.length=(t.kids.set 1 _).length;rw [aG]) hcap hcapm six_len rfl rfl) ?_;refine AW.region (Qp G4 ?_);refine AOL.Aae (Ax (k:=0) (l:=Au) tok rfl rfl rfl rfl rfl) rfl rfl ?_;refine Qp (Qc rfl (hrn.with hl hs hbr)) ?_;refine Qp N4 ?_;refine Qp (B5 (v:=.agg It) rfl rfl) ?_;refine Qp Iu (Qp Iu ?_);refine Ed rY fun b13=>?_
  refine Bt 0 It (_::_::_::_) ?_;refine Qp Al (Qp Al ?_);refine AOL.ghost (GS.freeze (t:=13) 0 rfl rfl) ?_;refine Bs ?_;refine Qp (Qc rfl (Lz)) ?_;refine Qp A9 (Qg [] Qw Ao (Qg [(142,_)] Qw Av (Qp E0 (Qp A9 (Qg [] Qw (B0 It) (Qg [] Qw (B0 It) ?_))))));refine AOL.g (y:=.bool _) _ [(146,_),(147,_)] rfl (qZ.all ⟨Ent.Aad _ _,Ent.Aad _ _,trivial⟩) (fun hG=>Qc rfl (vI (Dr T t).1 hmq)) rfl ?_;refine Qp E0 (Qp A0 (Rc ?_));refine ⟨.inr rfl,[.bool _],.cons (.tmp _ _ rfl) <| .nil,.cons _ (.cons _ (.refl _)),?_⟩;rfl
 refine Bg (Ae ?_);refine Qp (Qc rfl (Lz)) ?_;refine Qp A9 (Qg [] Qw (Qf gky) (Qg [(152,_)] Qw (B0 C5) ?_));refine Qg [(153,_)] Qw (Qc rfl (vJ (Dr T t).1.pattern hmq.p)) ?_;refine Qg [(154,_)] Qw Av (Qp E0 (Qp A0 (Rb ?_)));refine ⟨.inr rfl,[.bool _],.cons (.tmp _ _ rfl) <| .nil,.cons _ (.cons _ (.cons _ (.refl _))),?_⟩;exact congrArg AV.bool (by rw [hrn.chk];rfl)
end Go.Proofs.YtckhoadldibflaaGreatDoor
