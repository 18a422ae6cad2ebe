/-
  Several texts in one: R43w, R29, R30, R40w, R44w, R45w, R46w, R31, R41w. No condition.
-/
import Derived.Test.YtckhoadldibflaaGreatDoorK01
import Derived.Test.YtckhoadldibflaaGreatDoorK11
import Derived.Test.YtckhoadldibflaaGreatDoorK10
import Derived.Test.YtckhoadldibflaaGreatDoorK08
import Derived.KernelRfl
import Derived.Test.YtckhoadldibflaaGreatDoorK09
import Derived.Test.YtckhoadldibflaaGreatDoorK07
set_option linter.unusedVariables false
set_option linter.unusedSimpArgs false
set_option maxHeartbeats 12800000
set_option maxRecDepth 20000
namespace Go.Proofs.YtckhoadldibflaaGreatDoor
open Go Go.Aw
theorem siL_eq:∀a b:List Int,a.length=b.length->siL a b=(a==b)
  | [],[],_=>rfl
  | [],b::s,h=>by simp at h
  | a::r,[],h=>by simp at h
  | a::r,b::s,h=>by
    rw [siL];have:=siL_eq r s (by simpa using h);show (if (a != b)=true then false else siL r s)=_;rw [this];by_cases hc:a=b
    . subst hc;simp
    . have h1:(a != b)=true:=by simpa using hc
      rw [if_pos h1];exact (F0.2 fun h2=>hc (List.cons.inj h2).1).symm
theorem siB_eq (a b:List Int):siB a b=(a==b):=by
 unfold siB;by_cases h:a.length=b.length
 . rw [if_neg (by simp [h]),siL_eq a b h]
 rw [if_pos (by simp;omega)];exact (F0.2 fun h2=>h (by rw [h2])).symm
theorem ky_ref {T:List e8Sc}{q:Qy}:(((Oz T q.vars (R0 T q)).2&&siB (Oz T q.vars (R0 T q)).1 q.key)&&(Il (R0 T q)==0))=kyO T q:=by
 unfold kyO Q3;rw [siB_eq,K5]
theorem cd_on {l:List Pt}{k:Nat}{a:Pt}(ha:l[k]? = some a){es:List (List AV)}(h:es=((l.take k).filter Ko).map fun x=>cE x.cond)(hc:Ko a=true):es ++ [cE a.cond]=((l.take (k+1)).filter Ko).map fun x=>cE x.cond:=by
 rw [Cf ha,List.filter_append,Em,h,L6,if_pos hc];rfl
theorem cd_off {l:List Pt}{k:Nat}{a:Pt}(ha:l[k]? = some a){es:List (List AV)}(h:es=((l.take k).filter Ko).map fun x=>cE x.cond)(hc:Ko a=false):es=((l.take (k+1)).filter Ko).map fun x=>cE x.cond:=by
 rw [Cf ha,List.filter_append,Em,h,L6,if_neg (by rw [hc];decide)];simp
theorem cd_all {p:Pt}{es:List (List AV)}(h:es=((Dd p).filter Ko).map fun x=>cE x.cond):es=(Jw p).map F5:=by
 rw [h];unfold Jw;rw [List.map_map];exact List.map_congr_left fun a _=>(Ky _).symm
theorem cd_sc {l:List Pt}{es:List (List AV)}(h:es=l.map fun x=>cE x.cond):∀c∈es,A7 c=true:=by
 rw [h];intro c hc;obtain ⟨x,_,rfl⟩:=Db.1 hc;rfl
theorem cd_len {l:List Pt}{k:Nat}{es:List (List AV)}(h:es=((l.take k).filter Ko).map fun x=>cE x.cond):es.length<=k:=by
 rw [h,B7];exact Fl (List.length_filter_le _ _) (List.length_take_le ..)
abbrev iR (q:Av×Bool):AV:=AV.tuple [.str q.1,.bool q.2]
theorem tO (T:List e8Sc)(hT:TsOK T)(hsn:∀s∈T,Ly s)(q:Qy)(hrv:RvOK T q.vars)(hvp:0<q.vars.length)(hkl:q.key.length<=1048576)(hne:((q.key.length:Int)==0)=false):Ak Tryz.prog 77 [.sl 2 (T.map Js),.agg (cQy q)] (.tuple [.str (Tk T q).1,.bool (Tk T q).2]):=by
 have htl:=hT.tl;have hv0:=kv0 hvp;have hk0:0<=Wf q/\Wf q<(T.length:Int):=hrv.ty _ (An hv0);have hs0:=ks0 hk0;have hTp:0<T.length:=by omega
 refine Cw 75 Tryz.func77 rfl fun H=>?_
 refine Aa (Qp (Eh Hw) (Qp Dj (Qp Ao (Aq (Ba (Qp (Qf ghy) (Qp Cg ?_)))))));refine Qp (Da q.key.length rfl rfl (by simp)) ?_;refine Qp Ez ?_;refine Qp (Da T.length rfl rfl (by simp)) ?_;refine Qp Bq (Ap (fun hc1=>?_) fun hc1=>?_)
 .
  refine Aa (Qp Dj (Qp Ao (Rc ?_)));refine Ku (.str _) (.bool _) ?_;exact Ye iR (ky_2 hne hc1)
 have hky:=kk0 hk0 hc1;refine A5 (Aa (Qp (Qf rY) (Qp Cg ?_)));refine Qp (Cp E4 rfl rfl (by decide) (Bp hv0)) ?_;refine Qp (Qf [Iq _]) (Qp Be (Qp Ah (Re (AW.seq ?_))));refine Id ?_;refine Qn 0 rfl (Qf ghy) (Qn 1 rfl Cg (Qn 2 rfl Ai ?_));refine Qn 3 rfl (Cp [Iq _] rfl rfl (hk0.1) (Bp hky)) ?_;refine Qn 4 rfl Be (Qn 5 rfl Bt (Qn 6 rfl A8 (Qo 7 rfl [] Qw (Qf ghy) (Qo 8 rfl [(28,_)] Qw Cg (Qo 9 rfl [] Qw Ai ?_)))));refine Qo 10 rfl [(29,_),(30,_)] (Yv rfl Es Es) (Cp [Iq _] rfl rfl (hk0.1) (Bp hky)) ?_;refine Qo 11 rfl [(31,_)] Qw Be (Qo 12 rfl [] Qw Ez (Qo 13 rfl [] Qw Ai ?_));refine Qo 14 rfl [(33,_),(34,_)] (Yv rfl Es Es) (Cp Jl rfl rfl (hk0.1) (Bp hs0)) ?_;refine Qo 15 rfl [(35,_)] Qw (Qf [_]) (Qo 16 rfl [(36,_)] Qw Cg ?_);refine Yo 17 rfl [(37,_)] Qw (fun hG=>Da ((kyF T q).length) rfl rfl (by rw [B7];rfl)) ?_;refine Qo 18 rfl [(32,_),(38,_)] Yw Fc ?_;refine Qn 19 rfl Cr ?_;refine Fs ?_;refine A2 (E9 (fun hc2=>?_) fun hc2=>?_)
 .
  refine Aa (Qp Dj (Qp Ao (Rc ?_)));refine Ku (.str _) (.bool _) ?_;exact Ye iR (ky_3 hne hc1 hc2)
 have hfi:=kf0 hc2;have hnl:(R0 T q).length<=1048576:=(hsn _ (An hs0)).2.2 _ (An hfi.2);refine A5 (AW.seq ?_);refine Id ?_;refine Qn 0 rfl Ez (Qn 1 rfl Ai ?_);refine Qn 2 rfl (Cp Jl rfl rfl (hk0.1) (Bp hs0)) ?_;refine Qn 3 rfl (Qf [_]) (Qn 4 rfl Cg (Qn 5 rfl (Qf ghy) (Qn 6 rfl Cg (Qn 7 rfl Ai ?_))));refine Qn 8 rfl (Cp [Iq _] rfl rfl (hk0.1) (Bp hky)) ?_;refine Qn 9 rfl Be ?_;refine Qn 10 rfl (Cp E4 rfl rfl (hfi.1) (Bp hfi.2)) ?_;refine Qn 11 rfl (Qf E4) (Qn 12 rfl Dk (Qn 13 rfl Dj ?_));refine Fs ?_;refine A2 (Aa (Qp Ez (Qp (Qf rY) (Qp Cg (Qp D3 ?_)))));refine Qp (Qc rfl (n4_key T q.vars hrv (R0 T q) hTp)) ?_;refine Qp Ml (Qp Qxs (Qp bG (Qp Xk (Qp Ao (B2 (Qp D3 (Qp A8 (Qp A8 (Qg [] Qw Ez ?_)))))))));refine Qg [] Qw (Qf ghy) (Qg [(66,_)] Qw Cg ?_);refine Yh [(65,_),(67,_)] Yw (fun hG=>Qc rfl (pM (Oz T q.vars (R0 T q)).1 q.key (by have:=nM T q.vars (R0 T q);omega) hkl)) ?_;refine Qp Ej (Qp A8 (Qg [] Qw D3 ?_));refine Qg [(71,_)] Qw (Qc rfl (c21 (R0 T q) hnl)) ?_;refine Qg [(72,_)] Qw Aj (Qp Ej (Qp Dj (Qp Ao (Rb ?_))));refine Ku (.str _) (.bool _) ?_;exact Eq.trans (congrArg (fun b=>AV.tuple [.str (R0 T q),.bool b]) ky_ref) (congrArg (fun q:Av×Bool=>AV.tuple [.str q.1,.bool q.2]) (ky_4 hne hc1 hc2)).symm
theorem n4_conds (q:Qy)(hq:medQ q):Ak Tryz.prog 79 [.agg (cQy q)] (.sl 8 ((Jw q.pattern++q.returns).map F5)):=by
 have hnl:=Pq q.pattern;have hpn:=hq.p.n;have hrl:=hq.r;refine Cw 49 Tryz.func79 rfl fun H=>?_
 refine Aa (Qp (Eh Hw) (Qp (Cm (z:=8) rfl) (B2 (Qp Qh ?_))));refine AOL.ghost (GS.row (t:=3) 36 8 rfl) ?_;refine B2 (Qp (Qf giy) (Qp (B1 Cy) (Qp (Qc rfl (Z7 q.pattern hq.p.n)) (Qp Xk (Aq (Ba (Qp Ah (Aq (AW.block ?_)))))))));refine AW.Aan (fun (z:Nat×List (List AV)×Value)=>(⟨[(1,.ptr (cQy q)),(2,.sl 8 []),(3,.row z.2.2 8 z.2.1),(4,.sl 14 ((Dd q.pattern).map Jd)),(5,.int .i64 (z.1:Int))],.row z.2.2 z.2.1.length 36 8::H,49⟩:St)) (fun z=>z.1<=(Dd q.pattern).length/\z.2.1=(((Dd q.pattern).take z.1).filter Ko).map (fun x=>cE x.cond)) (fun z=>(Dd q.pattern).length-z.1) ((0,[],.slice none 0 0)) ?_ Bx ?_
 . exact ⟨A3 _,rfl⟩
 rintro z hR;refine Ba (Qp Ai (Qp Ez ?_));refine Qp (Da ((Dd q.pattern).length) rfl rfl (by simp)) ?_;refine Qp Bt (Ap (fun hc1=>?_) fun hc1=>?_)
 .
  obtain ⟨a,ha⟩:=B3 hc1;have hlt:=Bf ha;have hm:=An ha;have hsc:=cd_sc hR.2;have hel:=cd_len hR.2;refine A5 (AW.seq (AW.block (Aa (Qp Ez (Qp Ai ?_)))));refine Qp (Cp Cy rfl rfl (by omega) (Jz ha)) ?_;refine Qp (Qf Cy) (Qp Be (Qp Aj (Qp A8 (Qg [] Qw Ez (Qg [] Qw Ai ?_)))));refine Yh [(22,_),(23,_)] (Yv rfl Es Es) (fun hG=>Cp Cy rfl rfl (by omega) (Jz ha)) ?_;refine Qg [(24,_)] Qw (Qf Cy) (Qg [(25,_)] Qw Be (Qg [(26,_)] Qw Aj (Qp Cr (Qp A8 (Qg [] Qw Ez (Qg [] Qw Ai ?_))))));refine Yh [(30,_),(31,_)] (Yv rfl Es Es) (fun hG=>Cp Cy rfl rfl (by omega) (Jz ha)) ?_;refine Qg [(32,_)] Qw (Qf Cy) (Qg [(33,_)] Qw Be (Qg [(34,_)] Qw Aj (Qp Cr (Ap (fun hc2=>AW.region (Qp (A0 (v:=.row _ _ _) rfl) (Qp Ez (Qp Ai ?_)))) fun hc2=>Rf (AW.region (Qp Ai (Qp Dt (Qp Ah (Aq ?_)))))))))
  .
   refine Qp (Cp Cy rfl rfl (by omega) (Jz ha)) ?_;refine Qp Pj (Qp Kt (Qp (G0 [Hh] rfl) ?_));refine Qe (Pk 0 rfl (Dl rfl) (hsc) (by simp;omega) (by simp [maxLen];omega)) ?_;rintro _ _ ⟨v44,rfl,rfl⟩;refine Qp (Bb (v:=.row _ _ _) rfl) (Rk (AW.region (Qp Ai (Qp Dt (Qp Ah (Aq ?_))))));refine ⟨(z.1+1,z.2.1 ++ [cE a.cond],v44),?_,?_,Bx⟩
   . exact ⟨hlt,cd_on ha hR.2 hc2⟩
   simp only;omega
  refine ⟨(z.1+1,z.2.1,z.2.2),?_,?_,Bx⟩
  . exact ⟨hlt,cd_off ha hR.2 hc2⟩
  simp only;omega
 have hte:=B9 hc1;have hsa:=cd_sc hR.2;have hel:=cd_len hR.2;have hkl:=hR.1;have hall:=hR.2;rw [hte] at hall;have hall2:=cd_all hall;refine AW.exit ?_;refine Bn (Ri (Aa ?_));refine Qp (A0 (v:=.row _ _ _) rfl) (Qp (Qf [_]) (Qp Cg ?_));refine Qe (Pk 0 rfl (uM _) (hsa) (by simp;omega) (by simp [maxLen];omega)) ?_;rintro _ _ ⟨v48,rfl,rfl⟩;refine AOL.ghost (GS.unrow 48 rfl) ?_;refine Qp Xk (Rb ?_);refine Yx [.sl _ _] Ze S1 ?_;exact congrArg (AV.sl 8) ((congrArg (· ++ q.returns.map F5) hall2).trans Em.symm)
structure NdOK (q:Pt):Prop where
 op:0<=q.op/\q.op<8
 ck:bN q=0
theorem Lp {p:Pt}(h:(Gj p != 0)=false):∀q∈Dd p,NdOK q:=fun q hq=>by
 have h1:=chk_0 h;have h2:=whl_0 h1;have h3:=U1 (rst_0 h2).2.2 q hq;have h4:Ch nH (Dd p)=0:=by rw [<-whl_2 h2];simpa using h1
 have h5:=U1 h4 q hq;have h6:=ck_op h3;refine ⟨⟨h6.1,?_⟩,h3⟩;unfold nH at h5;split at h5
 . cases h5
 rename_i h7;simp only [Dp] at h7;omega
theorem NdOK.cases {q:Pt}(h:NdOK q):q.op=0\/q.op=1\/q.op=2\/q.op=3\/q.op=4\/q.op=5\/q.op=6\/q.op=7:=by have:=h.op;omega
theorem NdOK.flags {q:Pt}(h:NdOK q):Jo q=(Jg q.op).typed/\Ko q=(Jg q.op).cond:=by
 unfold Jo Ko;rcases h.cases with h | h | h | h | h | h | h | h <;> rw [h] <;> exact ⟨rfl,rfl⟩
theorem NdOK.parts {q:Pt}(h:NdOK q):((Jg q.op).least<=(q.args.length:Int)/\(q.args.length:Int)<=(Jg q.op).most)/\ckB q (Jg q.op)=false/\((Jg q.op).cond=true->C2 q.cond=0)/\ckU q (Jg q.op)=false:=by
 have hc:=h.ck;have ho:(decide (q.op<0)||decide (11<=q.op))=false:=by have:=h.op;simp;omega
 have h1:(decide ((q.args.length:Int)<(Jg q.op).least)||decide ((Jg q.op).most<(q.args.length:Int)))=false:=by
  cases hq:(decide ((q.args.length:Int)<(Jg q.op).least)||decide ((Jg q.op).most<(q.args.length:Int))) with
  | false=>rfl
  | true=>rw [ck_2 ho hq] at hc;cases hc
 have h2:ckB q (Jg q.op)=false:=by
  cases hq:ckB q (Jg q.op) with
  | false=>rfl
  | true=>rw [ck_3 ho h1 hq] at hc;cases hc
 have h3:(Jg q.op).cond=true->C2 q.cond=0:=fun hs=>by
  cases hq:C2 q.cond != 0 with
  | false=>simpa using hq
  | true=>rw [ck_4 ho h1 h2 hs hq] at hc;rw [hc] at hq;cases hq
 have h4:((Jg q.op).cond&&(C2 q.cond != 0))=false:=by
  cases hs:(Jg q.op).cond with
  | false=>rfl
  | true=>rw [h3 hs];rfl
 rw [ck_n ho h1 h2 h4] at hc;refine ⟨?_,h2,h3,?_⟩
 . simp at h1;exact h1
 cases hq:ckU q (Jg q.op) with
 | false=>rfl
 | true=>rw [hq,if_pos rfl] at hc;cases hc
theorem NdOK.rng {q:Pt}(h:NdOK q)(ht:(Jg q.op).typed=true):(0<=q.type/\q.type<=15)/\0<=q.var/\q.var<=15:=by
 have hb:=h.parts.2.1;unfold ckB wth at hb;rw [ht] at hb;simp at hb;omega
def stpN (s:Nx)(q:Pt):Nx:=⟨if (Jg q.op).typed then s.next+1 else s.next,if (Jg q.op).scope then s.scopes+1 else s.scopes⟩
def NumF:List Pt->Nx->Prop
 | [],_=>True
 | q::r,s=>(((Jg q.op).typed=true->q.var=s.next)/\((Jg q.op).scope=true->q.scope=s.scopes))/\NumF r (stpN s q)
theorem wY:∀(l:List Pt) (c:Cnt),(l.foldl Hj c).ok=true->NumF l ⟨c.vars,c.scopes⟩
  | [],c,_=>trivial
  | q::r,c,h=>by
    rw [List.foldl_cons] at h;have ih:=wY r (Hj c q) h
    have hok:(Hj c q).ok=true:=by
      cases hq:(Hj c q).ok with
      | true=>rfl
      | false=>rw [Xr r _ hq] at h;cases h
    unfold Hj at hok;simp only [Cz,Ff,Bk,beq_iff_eq] at hok;refine ⟨⟨fun ht=>?_,fun hs=>?_⟩,ih⟩
    . rcases hok.1.2 with h1 | h1
      . rw [ht] at h1;cases h1
      exact h1
    . rcases hok.2 with h1 | h1
      . rw [hs] at h1;cases h1
      exact h1
theorem fU:∀(l:List Pt) (s:Nx),NumF l s->∀(i:Nat) (q:Pt),(l.filter fun q=>(Jg q.op).typed)[i]? = some q->q.var=s.next+i
  | [],s,_,i,q,h=>by simp at h
  | x::r,s,hn,i,q,h=>by
    obtain ⟨⟨h1,h2⟩,h3⟩:=hn;rw [L6] at h;cases ht:(Jg x.op).typed with
    | false=>
      rw [ht,if_neg (by decide)] at h;have:=fU r _ h3 i q h;unfold stpN at this;rw [ht] at this;simpa using this
    | true=>
      rw [ht,if_pos rfl] at h;cases i with
      | zero=>simp at h;subst h;rw [h1 ht];simp
      | succ i=>
        rw [List.getElem?_cons_succ] at h;have:=fU r _ h3 i q h;unfold stpN at this;rw [ht] at this;simp only [if_true] at this;rw [this];omega
theorem chk_num {p:Pt}(h:(Gj p != 0)=false):NumF (Dd p) ⟨0,0⟩:=by
 refine wY (Dd p) ⟨0,0,true⟩ ?_;show (N6 p).ok=true;have h1:=chk_0 h;cases hq:(N6 p).ok with
 | true=>rfl
 | false=>rw [chk_2 h1 (by rw [hq];rfl)] at h;cases h
theorem uT {l:List Pt}(h:∀q∈l,NdOK q):l.filter Jo=l.filter fun q=>(Jg q.op).typed:=List.filter_congr fun q hq=>(h q hq).flags.1
theorem aU {p:Pt}(h:(Gj p != 0)=false){i:Nat}{x:Int×Int}(hx:(Jn p)[i]? = some x):x.1=(i:Int):=by
 unfold Jn at hx;rw [List.getElem?_map,uT (Lp h)] at hx;obtain ⟨q,hq,rfl⟩:=Sr.1 hx;have:=fU _ _ (chk_num h) i q hq;simpa using this
theorem ty_nodup {p:Pt}(h:(Gj p != 0)=false):((Jn p).map (·.1)).Nodup:=by
 refine List.pairwise_iff_getElem.2 fun i j hi hj hij=>?_
 rw [B7] at hi hj;rw [List.getElem_map,List.getElem_map];have h1:=aU h (List.getElem?_eq_getElem hi);have h2:=aU h (List.getElem?_eq_getElem hj);rw [h1,h2];omega
theorem ty_len {p:Pt}(h:(Gj p != 0)=false):(Jn p).length<=16:=by
 rcases Nd 16 (Jn p).length with hl | hl
 .
  have h1:=aU h (List.getElem?_eq_getElem (l:=Jn p) (i:=16) hl);obtain ⟨q,hq,he⟩:=Db.1 (show (Jn p)[16]∈((Dd p).filter Jo).map fun q=>(q.var,q.type) from List.getElem_mem hl);have hm:=Ig.1 hq;have hn:=Lp h q hm.1;have:=(hn.rng (by rw [<-hn.flags.1];exact hm.2)).2;rw [<-he] at h1;simp only at h1;omega
 exact hl
section
variable {T:List e8Sc} {V:List Va}
structure CdOK (T:List e8Sc) (V:List Va) (e:Ex):Prop where
 n:C0 e=0
 k:Kp T V e=true
 m:Nq T V e=true
structure PtOK (T:List e8Sc) (V:List Va) (q:Pt):Prop where
 n:NdOK q
 c:Ko q=true->CdOK T V q.cond
 t:Jo q=true->q.type<(T.length:Int)
end
theorem uW {T:List e8Sc}{L:List Int}:∀(l:List Va) (seen:List Av) (i:Nat),nG T L seen i l=0->seen.Nodup->
    (seen++l.map (·.name)).Nodup/\∀(k:Nat) (v:Va),l[k]? = some v->Q3 v.name=true/\0<=v.type/\v.type<(T.length:Int)/\(L[i+k]?).getD 0=v.type
  | [],seen,i,_,hn=>⟨by simpa using hn,fun k v h=>by simp at h⟩
  | v::r,seen,i,h,hn=>by
    rw [nG] at h;split at h
    . rename_i h1;rw [h] at h1;cases h1
    . rename_i h1
      have h0:vrE T L seen i v=0:=by simpa using h1
      unfold vrE at h0;split at h0
      . cases h0
      split at h0
      . cases h0
      split at h0
      . cases h0
      split at h0
      . cases h0
      rename_i g1 g2 g3 g4;have c1:Q3 v.name=true:=by simpa using g1
      have c2:v.name∉seen:=by simpa using g2
      simp only [Ff,Dp,not_or] at g3;have c4:(L[i]?).getD 0=v.type:=by simpa using g4
      have ih:=uW r (seen ++ [v.name]) (i+1) h (Uj.2 ⟨hn,by simp,fun a ha b hb=>by rw [Hv.1 hb];exact fun e=>c2 (e▸ha)⟩);refine ⟨by simpa using ih.1,fun k x hx=>?_⟩;cases k with
      | zero=>
        simp at hx;subst hx;exact ⟨c1,by omega,by omega,by simpa using c4⟩
      | succ k=>
        rw [List.getElem?_cons_succ] at hx;have:=ih.2 k x hx;rw [show i+(k+1)=i+1+k by omega];exact this
structure ShOK (T:List e8Sc) (q:Qy):Prop where
 t:(C7 T != 0)=false
 p:(Gj q.pattern != 0)=false
 v:vE T q=0
 k:(Tk T q).2=true
 r:q.returns≠[]
 e:∀e∈q.returns,C2 e=0
 u:P0 T q.vars (Jw q.pattern++q.returns) (rZ T q)=(0,true)
 n:Q3 q.name=true
theorem sh_ok {T:List e8Sc}{q:Qy}(h1:(C7 T != 0)=false)(h:((Ti T q).2 != 0)=false):ShOK T q/\Ti T q=((Tk T q).1,0):=by
 have key:∀{c:Bool} {f:Int} {x:Av×Int},((if c then (([]:Av),f) else x).2 != 0)=false->(c=true->(f != 0)=true)->c=false/\(if c then (([]:Av),f) else x)=x:=fun {c f x} h hf=>by
  cases c with
  | false=>exact ⟨rfl,rfl⟩
  | true=>rw [if_pos rfl] at h;rw [hf rfl] at h;cases h
 obtain ⟨a1,b1⟩:=key h fun _=>rfl
 unfold Ti at h ⊢;rw [b1] at h ⊢;obtain ⟨a2,b2⟩:=key h fun h=>h
 rw [b2] at h ⊢;obtain ⟨a3,b3⟩:=key h fun h=>h
 rw [b3] at h ⊢;unfold sh1 at h ⊢;obtain ⟨a4,b4⟩:=key h fun _=>rfl
 rw [b4] at h ⊢;obtain ⟨a5,b5⟩:=key h fun _=>rfl
 rw [b5] at h ⊢;unfold sh2 at h ⊢;obtain ⟨a6,b6⟩:=key h fun h=>h
 rw [b6] at h ⊢;unfold sh3 at h ⊢;obtain ⟨a7,b7⟩:=key h fun h=>h
 rw [b7] at h ⊢;obtain ⟨a8,b8⟩:=key h fun _=>rfl
 rw [b8];refine ⟨⟨h1,a2,by simpa using a3,by simpa using a4,fun e=>by rw [e] at a5;simp at a5,?_,?_,by simpa using a1⟩,rfl⟩
 . exact U1 (by simpa [rtE] using a6)
 show usR T q=(0,true);have e1:(usR T q).1=0:=by simpa using a7
 have e2:(usR T q).2=true:=by simpa using a8
 rw [<-e1,<-e2]
section
variable {T:List e8Sc} {q:Qy}
theorem ShOK.nd (h:ShOK T q):∀x∈Dd q.pattern,NdOK x:=Lp h.p
theorem ShOK.vl (h:ShOK T q):(Jn q.pattern).length=q.vars.length/\nG T ((Jn q.pattern).map (·.2)) [] 0 q.vars=0:=by
 have hv:=h.v;unfold vE at hv;split at hv
 . cases hv
 rename_i h1;exact ⟨by have h2:=h1;simp at h2;omega,hv⟩
theorem ShOK.va (h:ShOK T q):(Lh q.vars).Nodup/\∀(k:Nat) (v:Va),q.vars[k]? = some v->Q3 v.name=true/\0<=v.type/\v.type<(T.length:Int)/\∃x,(Jn q.pattern)[k]? = some x/\x.1=(k:Int)/\x.2=v.type:=by
 have h1:=uW q.vars [] 0 h.vl.2 List.nodup_nil;refine ⟨by simpa using h1.1,fun k v hk=>?_⟩;obtain ⟨a,b,c,d⟩:=h1.2 k v hk;have hl:k<(Jn q.pattern).length:=by rw [h.vl.1];exact (List.getElem?_eq_some_iff.1 hk).1
 have hx:=List.getElem?_eq_getElem hl;refine ⟨a,b,c,_,hx,aU h.p hx,?_⟩;rw [Dz,List.getElem?_map,hx] at d;exact d
theorem ShOK.ts (h:ShOK T q):TsOK T:=dT h.t
theorem ShOK.rv (h:ShOK T q):RvOK T q.vars:=⟨h.ts.tl,h.ts.fl,by have:=ty_len h.p;have:=h.vl.1;omega,fun v hv=>by
 obtain ⟨k,hk⟩:=J9.1 hv;have:=h.va.2 k v hk;exact ⟨this.2.1,this.2.2.1⟩⟩
theorem ShOK.conds (h:ShOK T q):∀e∈Jw q.pattern++q.returns,CdOK T q.vars e:=by
  have hn:∀e∈Jw q.pattern++q.returns,C0 e=0:=fun e he=>by
    rcases Hg.1 he with he | he
    . unfold Jw at he
      obtain ⟨x,hx,rfl⟩:=Db.1 he;obtain ⟨hx1,hx2⟩:=Ig.1 hx;have hk:=h.nd x hx1;exact (Mo (hk.parts.2.2.1 (by rw [<-hk.flags.2];exact hx2))).2.2
    exact (Mo (h.e e he)).2.2
  have hu:=h.u;rw [gN hn] at hu;cases hk:(Jw q.pattern++q.returns).all (Kp T q.vars) with
  | false=>rw [hk] at hu;cases hu
  | true=>
    rw [hk,if_pos rfl] at hu;have h2:(rZ T q&&(Jw q.pattern++q.returns).all (Nq T q.vars))=true:=congrArg Prod.snd hu;rw [Cz] at h2;exact fun e he=>⟨hn e he,E3.1 hk e he,E3.1 h2.2 e he⟩
theorem ShOK.tn (h:ShOK T q):rZ T q=true:=by
  have hn:∀e∈Jw q.pattern++q.returns,C0 e=0:=fun e he=>(h.conds e he).n
  have hu:=h.u;rw [gN hn] at hu;cases hk:(Jw q.pattern++q.returns).all (Kp T q.vars) with
  | false=>rw [hk] at hu;cases hu
  | true=>
    rw [hk,if_pos rfl] at hu;have h2:(rZ T q&&(Jw q.pattern++q.returns).all (Nq T q.vars))=true:=congrArg Prod.snd hu;rw [Cz] at h2;exact h2.1
theorem ShOK.pt (h:ShOK T q):∀x∈Dd q.pattern,PtOK T q.vars x:=fun x hx=>⟨h.nd x hx,fun hc=>h.conds _ (List.mem_append_left _ (Db.2 ⟨x,Ig.2 ⟨hx,hc⟩,rfl⟩)),fun ht=>by
 have hm:(x.var,x.type)∈Jn q.pattern:=Db.2 ⟨x,Ig.2 ⟨hx,ht⟩,rfl⟩;obtain ⟨k,hk⟩:=J9.1 hm;have hl:k<q.vars.length:=by rw [<-h.vl.1];exact (List.getElem?_eq_some_iff.1 hk).1
 obtain ⟨_,b,c,y,hy,_,e⟩:=h.va.2 k _ (List.getElem?_eq_getElem hl);rw [hk] at hy;cases hy
 simp only at e;omega⟩
theorem qT_kid0 (s:Av):Cd (qT T q) 0=⟨4,(Ti T q).1,[],0,[],0⟩:=rfl
theorem qT_kid1:Cd (qT T q) 1=Kr T q.vars q.pattern:=rfl
theorem qT_drop:(qT T q).kids.drop 2=q.returns.map (Io T q.vars):=rfl
end
theorem rv_of {T:List e8Sc}{q:Qy}(hT:TsOK T)(hc:(Gj q.pattern != 0)=false)(h:vE T q=0):RvOK T q.vars/\(Jn q.pattern).length=q.vars.length:=by
 have hvl:(Jn q.pattern).length=q.vars.length/\nG T ((Jn q.pattern).map (·.2)) [] 0 q.vars=0:=by
  unfold vE at h;split at h
  . cases h
  rename_i h1;exact ⟨by have h2:=h1;simp at h2;omega,h⟩
 have h1:=uW q.vars [] 0 hvl.2 List.nodup_nil;refine ⟨⟨hT.tl,hT.fl,by have:=ty_len hc;have:=hvl.1;omega,fun v hv=>?_⟩,hvl.1⟩;obtain ⟨k,hk⟩:=J9.1 hv;obtain ⟨_,b,c,_⟩:=h1.2 k v hk;exact ⟨b,c⟩
theorem ty_pos:∀p:Pt,(∀x∈Dd p,NdOK x)->0<(Jn p).length:=by
  intro p
  induction p using Pt.ind with
  | h p ih=>
    intro hp;have hme:=hp p (Yg p);by_cases ho:p.op=0
    . rw [mR,Ax]
      have:Wr p = [(p.var,p.type)]:=if_pos (by unfold Jo;rw [ho];rfl);rw [this];simp;omega
    . have hl:0<p.args.length:=by
        have h1:=hme.parts.1.1;rcases hme.cases with h | h | h | h | h | h | h | h <;> first | exact absurd h ho | (rw [h] at h1;simp [Jg,shpL] at h1;omega)
      obtain ⟨a,ha⟩:∃a,p.args[0]? = some a:=⟨_,List.getElem?_eq_getElem hl⟩;have hm:=An ha;have h2:=ih a hm fun x hx=>hp x (lV hm hx)
      rw [oX ha,Ax,Ax];omega
section
variable {T:List e8Sc} {q:Qy}
theorem sn_1 (h:(F7 q.name != 0)=true):Ti T q=([],8):=if_pos (Yi h)
theorem sn_2 (h:(F7 q.name != 0)=false)(h2:(Gj q.pattern != 0)=true):Ti T q=([],Gj q.pattern):=(Bl (Yi h)).trans (if_pos h2)
theorem sn_3 (h:(F7 q.name != 0)=false)(h2:(Gj q.pattern != 0)=false)(h3:(vE T q != 0)=true):Ti T q=([],vE T q):=(Bl (Yi h)).trans ((Bl h2).trans (if_pos h3))
theorem Y1 (h:(F7 q.name != 0)=false)(h2:(Gj q.pattern != 0)=false)(h3:(vE T q != 0)=false):Ti T q=sh1 T q:=(Bl (Yi h)).trans ((Bl h2).trans (Bl h3))
theorem sn_4 (h:(!(Tk T q).2)=true):sh1 T q=([],16):=if_pos h
theorem sn_5 (h:(!(Tk T q).2)=false)(h2:((q.returns.length:Int)==0)=true):sh1 T q=([],15):=(Bl h).trans (if_pos h2)
theorem iG (h:(!(Tk T q).2)=false)(h2:((q.returns.length:Int)==0)=false):sh1 T q=sh2 T q:=(Bl h).trans (Bl h2)
theorem sn_6 {e:Int}(h:rtE q=e)(he:(e != 0)=true):sh2 T q=([],e):=by unfold sh2;rw [h,if_pos he]
theorem rF (h:rtE q=0):sh2 T q=sh3 T q:=by unfold sh2;rw [h];rfl
theorem sn_7 {u:Int×Bool}(h:usR T q=u)(hu:(u.1 != 0)=true):sh3 T q=([],u.1):=by unfold sh3;rw [h,if_pos hu]
theorem sn_8 {b:Bool}(h:usR T q=(0,b))(hb:(!b)=true):sh3 T q=([],8):=by unfold sh3;rw [h];exact (Bl (rfl:((0:Int) != 0)=false)).trans (if_pos hb)
theorem sn_9 {b:Bool}(h:usR T q=(0,b))(hb:(!b)=false):sh3 T q=((Tk T q).1,0):=by unfold sh3;rw [h];exact (Bl (rfl:((0:Int) != 0)=false)).trans (Bl hb)
theorem ex_at2 {l m:List Ex}{k:Nat}{a:Ex}(h:(l++m)[k]? = some a):(l.map F5++m.map F5)[k]? = some (cE a):=by rw [<-Em];exact bP h
theorem kZ {p:Pt}(hp:medP p):∀e∈Jw p,Bz e<=1048576:=fun e he=>by
 obtain ⟨x,hx,rfl⟩:=Db.1 he;exact hp.cond x (Ig.1 hx).1
end
abbrev I9 (q:Av×Int):AV:=AV.tuple [.str q.1,.int .i64 q.2]
theorem rz_shown (T:List e8Sc)(hT:TsOK T)(hsn:∀s∈T,Ly s)(q:Qy)(hq:medQ q)(hql:q.name.length<=1048576)(hvn:∀v∈q.vars,v.name.length<=1048576):Ak Tryz.prog 72 [.sl 2 (T.map Js),.agg (cQy q)] (.tuple [.str (Ti T q).1,.int .i64 (Ti T q).2]):=by
 have hll:(Jw q.pattern++q.returns).length=(Jw q.pattern).length+q.returns.length:=Ax;have hcl:=eE q.pattern;have hpn:=hq.p.n;have hrl:=hq.r;refine Cw 97 Tryz.func72 rfl fun H=>?_
 refine Aa (Qp (Vk (v:=.sl _ _) (cs:=[_]) rfl rfl rfl) (Qp (Eh Hw) (Qp Dj (Qp Ah (Aq (Ba (Qp (Qf Hw) (Qp Dk (Qp (Qc rfl (c20 q.name hql)) (Qp Bq (Ap (fun hc1=>Aa (Qp Dj (Qp Ah (Rc (Ku (.str _) (Iq _) ?_))))) fun hc1=>?_)))))))))))
 . exact Ye I9 (sn_1 hc1)
 refine A5 (Ba (Qp (Qf giy) (Qp (B1 Cy) (Qp (Qc rfl (qX q.pattern hq.p)) (Qp Ah (B2 (Qp Ai (Qp Bq (Ap (fun hc2=>Aa (Qp Ai (Qp Dj (Qp Ah (Rc (Ku (.str _) (Iq _) ?_)))))) fun hc2=>A5 (Ba (Qp Cg (Qp (B1 Hw) (Qp (Qc rfl (rz_vars T hT.tl q (ty_nodup hc2) (fun i x hx=>aU hc2 hx) hq.p.n hq.v hvn)) ?_)))))))))))))
 . exact Ye I9 (sn_2 hc1 hc2)
 refine Qp Ah (B2 (Qp Ai (Qp Bq (Ap (fun hc3=>Aa (Qp Ai (Qp Dj (Qp Ah (Rc (Ku (.str _) (Iq _) ?_)))))) fun hc3=>?_))))
 . exact Ye I9 (sn_3 hc1 hc2 hc3)
 have hrv:=rv_of hT hc2 (by simpa using hc3);have hvp:0<q.vars.length:=by have:=ty_pos q.pattern (Lp hc2);have:=hrv.2;omega
 refine A5 (Aa (Qp Cg (Qp (B1 Hw) (Qp (Qc rfl (rz_keyed T hT hsn q hrv.1 hvp hq.k)) (Qp Ml (Qp kT (Qp bG (Qp Dj (Qp Ao (Aq (Ba (Qp A8 (Qp E7 (Ap (fun hc4=>Aa (Qp Dj (Qp Ah (Rc (Ku (.str _) (Iq _) ?_))))) fun hc4=>A5 (Ba (Qp (Qf [_]) (Qp Cg ?_)))))))))))))))))
 . exact Ye I9 ((Y1 hc1 hc2 hc3).trans (sn_4 hc4))
 refine Qp (Da q.returns.length rfl rfl (by simp)) ?_;refine Qp Aj (Ap (fun hc5=>Aa (Qp Dj (Qp Ah (Rc (Ku (.str _) (Iq _) ?_))))) fun hc5=>A5 (Ba (Qp (Qf [_]) (Qp Cg ?_))))
 . exact Ye I9 ((Y1 hc1 hc2 hc3).trans (sn_5 hc4 hc5))
 refine Qp (Da q.returns.length rfl rfl (by simp)) ?_;refine Qp Ai (Aq (AW.block ?_));refine AW.Aan (fun (k:Nat)=>(⟨[(2,.ptr [.sl 2 (T.map Js)]),(3,.ptr (cQy q)),(8,.str (Tk T q).1),(48,.sl 8 (q.returns.map F5)),(49,.int .i64 q.returns.length),(50,.int .i64 (k:Int))],H,97⟩:St)) (fun k=>k<=q.returns.length/\(q.returns.take k).any (fun x=>C2 x != 0)=false) (fun k=>q.returns.length-k) (0) ?_ Bx ?_
 . exact ⟨A3 _,by simp⟩
 rintro k hR;refine Aa (Qp Bt (Re (E9 (fun hc6=>?_) fun hc6=>?_)))
 .
  obtain ⟨a,ha⟩:=B3 hc6;have hlt:=Bf ha;have hm:=An ha;refine A5 (AW.seq (AW.block (Aa ?_)));refine Qp (Cp Hh rfl rfl (by omega) (bP ha)) ?_;refine Qp Kt (Dx yY fun b11=>?_);refine Bw 0 Hh (_::_) ?_;refine Ji 11 0 rfl ?_;refine B2 (Qp Kt (Qp (Qc rfl (e8c21 a (hq.e a hm))) (Qp Ah (B2 (Qp Ai (Qp Bq (Ap (fun hc7=>Aa (Qp Ai (Qp Dj (Qp Ah (Ra (Au (Cn (Au (Ku (.str _) (Iq _) ?_))))))))) fun hc7=>Rf (AW.region (Qp Dt (Qp Ai (Aq ?_)))))))))))
  . exact Ye I9 (((Y1 hc1 hc2 hc3).trans (iG hc4 hc5)).trans (sn_6 (U2 ha hR.2 hc7) hc7))
  refine ⟨k+1,?_,?_,Bx⟩
  . exact ⟨hlt,Hr hR.2 ha hc7⟩
  omega
 have hte:=B9 hc6;have hrt:=hR.2;rw [hte] at hrt;refine AW.exit ?_;refine Bn (Ri (Aa (Qp Cg (Qp (Qf rY) (Qp Cg (Qp (D0 [_,_]) ?_))))));refine Dx [.sl 2 [],.sl 2 []] fun b13=>?_
 refine Bw 0 [_,_] (_::_) ?_;refine Ji 13 0 rfl ?_;refine B2 (Qp (Qf rY) (Qp Cg (Qp (Ci (l:=[]) (l':=[.ptr _]) rfl rfl) ?_)));refine Qp (Qc rfl (qY q.vars hq.v 126 (by kernel_rfl) [.ptr [.sl 2 (T.map Js)]] (fun v=>F7 ((T[v.type.toNat]?).getD Yu).name != 0) (fun a ha=>rz_sh1 T hsn a (hrv.1.ty a ha)))) ?_;refine Qp E7 (Qp Ao (Re (AW.seq ?_)));refine Id ?_;refine Qn 0 rfl (Qf giy) (Qn 1 rfl (B1 Cy) (Qn 3 rfl (Qf [_]) (Qn 4 rfl Cg (Qn 7 rfl Ai ?_))));refine hJ 2 rfl (Dr rfl (rz_conds q.pattern hq.p.n _)) ?_;rintro _ _ ⟨v71,rfl,rfl⟩;refine hJ 5 rfl (Pk 0 rfl (uM _) (uM _) (by simp;omega) (by simp [maxLen];omega)) ?_;rintro _ _ ⟨v74,rfl,rfl⟩;refine Qn 6 rfl (H7 (n:=(Jw q.pattern++q.returns).length) tok rfl rfl rfl (by simp)) ?_;refine Fs ?_;refine A2 (AW.block ?_);refine AW.ghost (GS.unrow 74 rfl) ?_;refine AW.Aan (fun (z:Nat×Bool)=>(⟨[(8,.str (Tk T q).1),(13,.ptr (cNm T q.vars)),(14,.bool z.2),(74,.sl 8 ((Jw q.pattern).map F5++q.returns.map F5)),(75,.int .i64 (Jw q.pattern++q.returns).length),(76,.int .i64 (z.1:Int))],H,97⟩:St)) (fun z=>z.1<=(Jw q.pattern++q.returns).length/\usR T q=P0 T q.vars ((Jw q.pattern++q.returns).drop z.1) z.2) (fun z=>(Jw q.pattern++q.returns).length-z.1) ((0,!(q.vars.any fun v=>F7 ((T[v.type.toNat]?).getD Yu).name != 0))) ?_ (GS.weaken ⟨rfl,rfl,rfl,rfl,rfl,rfl,trivial⟩ (.cons _ (.refl _))) ?_
 . exact ⟨A3 _,by simp only;rw [tnB_any];rfl⟩
 rintro z hz;refine Aa (Qp Bt (Re (E9 (fun hc8=>?_) fun hc8=>?_)))
 .
  obtain ⟨a,ha⟩:=B3 hc8;have hlt:=Bf ha;have hm:=An ha;have hsa:Bz a<=1048576:=(Hg.1 hm).elim (kZ hq.p a) (hq.e a);refine A5 (AW.seq (AW.block (Aa ?_)));refine Qp (Cp Hh rfl rfl (by omega) (ex_at2 ha)) ?_;refine Qp Kt (Dx yY fun b16=>?_);refine Bw 0 Hh (_::_) ?_;refine Ji 16 0 rfl ?_;refine B2 (Qp (B1 [_,_]) (Qp Kt (Qp (Qc rfl (rf_uses T q.vars hrv.1 hsn a hsa)) (Qp Ml (Qp Km (Qp bG (Qp Ah (Qp Ao (Aq (Ba (Qp Ai (Qp Bq ?_))))))))))));refine Ap (fun hc9=>Aa (Qp Ai (Qp Dj (Qp Ah (Rc (Rj (Au (Ku (.str _) (Iq _) ?_)))))))) fun hc9=>A5 (AW.region (Qp A8 (Qp A8 (Qg [] Qw A8 (Qp Ej (Qp Ao (Rk (AW.region (Qp Dt (Qp Ai (Aq ?_)))))))))))
  . exact Ye I9 ((((Y1 hc1 hc2 hc3).trans (iG hc4 hc5)).trans (rF (F9 hrt))).trans (sn_7 (hz.2.trans (yD ha hc9)) hc9))
  refine ⟨(z.1+1,z.2&&(Tj T q.vars a).2),?_,?_,Bx⟩
  . exact ⟨hlt,hz.2.trans (yE ha hc9)⟩
  simp only;omega
 have hde:=Ek hc8;have hall:=hz.2;rw [hde,P0] at hall;refine AW.exit ?_;refine Bn (Ri (Ba (Qp A8 (Qp E7 (Ap (fun hc10=>?_) fun hc10=>?_)))))
 .
  refine Aa (Qp Dj (Qp Ah (Rc (Ku (.str _) (Iq _) ?_))));exact Ye I9 ((((Y1 hc1 hc2 hc3).trans (iG hc4 hc5)).trans (rF (F9 hrt))).trans (sn_8 hall hc10))
 refine A5 (Aa (Qp D3 (Qp Dj (Qp Ah (Rb (Ku (.str _) (Iq _) ?_))))));exact Ye I9 ((((Y1 hc1 hc2 hc3).trans (iG hc4 hc5)).trans (rF (F9 hrt))).trans (sn_9 hall hc10))
theorem fl_T {b:Pt->Bool}{l:List Pt}{k n:Nat}{a:Pt}(ha:l[k]? = some a)(h:n=((l.take k).filter b).length)(hb:b a=true):n+1=((l.take (k+1)).filter b).length:=by
 rw [Cf ha,List.filter_append,Ax,<-h,L6,if_pos hb];rfl
theorem fl_F {b:Pt->Bool}{l:List Pt}{k n:Nat}{a:Pt}(ha:l[k]? = some a)(h:n=((l.take k).filter b).length)(hb:b a=false):n=((l.take (k+1)).filter b).length:=by
 rw [Cf ha,List.filter_append,Ax,<-h,L6,if_neg (by rw [hb];decide)];rfl
theorem fl_le {b:Pt->Bool}{l:List Pt}{k n:Nat}(h:n=((l.take k).filter b).length):n<=k:=by
 rw [h];exact Fl (List.length_filter_le _ _) (List.length_take_le ..)
theorem n9_Count (p:Pt)(hp:medP p)(hc:kW p=0):Ak Tryz.prog 136 [.agg (cPt p)] (.tuple [.int .i64 ((((Dd p).filter My).length:Nat):Int),.int .i64 ((((Dd p).filter (fun x=>Ps x||O1 x)).length:Nat):Int),.int .i64 0]):=by
 have hnl:=Pq p;have hpn:=hp.n;refine Cw 46 Tryz.func136 rfl fun H=>?_
 refine Aa (Qp (Eh Cy) (Qp Ah (Qp Ah (Qp Ah (Aq (Ba (Qp (B1 Cy) ?_)))))));refine Qp (Qc rfl (pL p hp)) (Qp Ah (B2 (Qp Ai (Qp Bq (Ap (fun hc1=>?_) fun hc1=>A5 (Aa (Qp Ah (Qp Ah (B2 (Qp (B1 Cy) (Qp (Qc rfl (Z7 p hp.n)) (Qp Xk (Aq (Ba (Qp Ah (Aq (AW.block ?_)))))))))))))))))
 . rw [hc] at hc1;cases hc1
 refine AW.Aan (fun (z:Nat×Nat×Nat)=>(⟨[(1,.ptr (cPt p)),(6,.int .i64 (z.2.1:Int)),(7,.int .i64 (z.2.2:Int)),(8,.sl 14 ((Dd p).map Jd)),(9,.int .i64 (z.1:Int))],H,46⟩:St)) (fun z=>z.1<=(Dd p).length/\z.2.1=(((Dd p).take z.1).filter My).length/\z.2.2=(((Dd p).take z.1).filter (fun x=>Ps x||O1 x)).length) (fun z=>(Dd p).length-z.1) ((0,0,0)) ?_ Bx ?_
 . exact ⟨A3 _,rfl,rfl⟩
 rintro z hR;refine Ba (Qp Ai (Qp Ez ?_));refine Qp (Da ((Dd p).length) rfl rfl (by simp)) ?_;refine Qp Bt (Ap (fun hc2=>?_) fun hc2=>?_)
 .
  obtain ⟨a,ha⟩:=B3 hc2;have hlt:=Bf ha;have hm:=An ha;have hb1:=fl_le hR.2.1;have hb2:=fl_le hR.2.2;refine A5 (AW.seq (AW.block ?_));refine AW.Aar (fun (n:Nat)=>(⟨[(1,.ptr (cPt p)),(6,.int .i64 (n:Int)),(7,.int .i64 (z.2.2:Int)),(8,.sl 14 ((Dd p).map Jd)),(9,.int .i64 (z.1:Int))],H,46⟩:St)) (fun n=>n=(((Dd p).take (z.1+1)).filter My).length) ?_ ?_
  .
   refine Aa (Qp Ez (Qp Ai ?_));refine Qp (Cp Cy rfl rfl (by omega) (Jz ha)) ?_;refine Qp (B1 Cy) (Qp (Qc rfl (lU a)) (Ap (fun hc3=>AW.region (Qp Ai (Qp Dt (Qp Ah (Aq ?_))))) fun hc3=>A5 ?_))
   .
    refine ⟨z.2.1+1,?_,Bx⟩;exact fl_T ha hR.2.1 hc3
   refine ⟨z.2.1,?_,Bx⟩;exact fl_F ha hR.2.1 hc3
  rintro n hn;refine Aa (Qp Ez (Qp Ai ?_));refine Qp (Cp Cy rfl rfl (by omega) (Jz ha)) ?_;refine Qp (B1 Cy) (Qp (Qc rfl (fR a)) (Qp A8 (Qg [] Qw Ez (Qg [] Qw Ai ?_))));refine Yh [(36,_),(37,_)] (Yv rfl Es Es) (fun hG=>Cp Cy rfl rfl (by omega) (Jz ha)) ?_;refine Qg [(38,_)] Qw (B1 Cy) (Qg [(39,_)] Qw (Qc rfl (Wl a)) (Qp Cr (Ap (fun hc4=>AW.region (Qp Ai (Qp Dt (Qp Ah (Rk (AW.region (Qp Ai (Qp Dt (Qp Ah (Aq ?_)))))))))) fun hc4=>Rf (AW.region (Qp Ai (Qp Dt (Qp Ah (Aq ?_))))))))
  .
   refine ⟨(z.1+1,n,z.2.2+1),?_,?_,Bx⟩
   . exact ⟨hlt,hn,fl_T ha hR.2.2 hc4⟩
   simp only;omega
  refine ⟨(z.1+1,n,z.2.2),?_,?_,Bx⟩
  . exact ⟨hlt,hn,fl_F ha hR.2.2 hc4⟩
  simp only;omega
 have hte:=B9 hc2;have h1:=hR.2.1;have h2:=hR.2.2;rw [hte] at h1 h2;refine AW.exit ?_;refine Bn (Ri (Aa (Qp Ai (Qp Ai (Qp Ah (Qp Ah (Qp Ah ?_)))))));refine Rb ?_;refine Yx [Iq _,Iq _,Iq _] Zg S0 ?_;exact Eq.trans rfl (congrArg (fun q:Nat×Nat=>AV.tuple [.int .i64 (q.1:Int),.int .i64 (q.2:Int),.int .i64 0]) (show (z.2.1,z.2.2)=(((Dd p).filter My).length,((Dd p).filter (fun x=>Ps x||O1 x)).length) by rw [h1,h2]))
theorem vt_eq {p:Pt}(h:∀x∈Dd p,NdOK x):(Dd p).filter My=(Dd p).filter Jo:=List.filter_congr fun x hx=>by
 have ho:=(h x hx).op;unfold My Jo Ps;have:(x.op==9)=false:=by simp;omega
 rw [this,Hf]
theorem vt_len {p:Pt}(h:∀x∈Dd p,NdOK x):((Dd p).filter My).length=(Jn p).length:=by
 rw [vt_eq h];unfold Jn;rw [B7]
theorem at_in {b:Pt->Bool}{l:List Pt}{w v:Nat}(h:v=((l.take w).filter b).length)(hv:v<(l.filter b).length):∃a,l[w]? = some a:=by
 rcases Nd w l.length with hw | hw
 . exact ⟨_,List.getElem?_eq_getElem hw⟩
 rw [gX hw] at h;omega
theorem ty_at {p a:Pt}{w v:Nat}(h:v=(((Dd p).take w).filter Jo).length)(ha:(Dd p)[w]? = some a)(hb:Jo a=true):(Jn p)[v]? = some (a.var,a.type):=by
 have e:(Dd p).filter Jo=((Dd p).take w).filter Jo++a::((Dd p).drop (w+1)).filter Jo:=by
  conv=>lhs;rw [<-Xa w (Dd p),Bd ha]
  rw [List.filter_append,L6,if_pos hb]
 unfold Jn;rw [e,Em,Bj,List.getElem?_append_right (by rw [B7];omega),B7,<-h,Nat.sub_self];rfl
theorem ve9' {T:List e8Sc}{L:List Int}{ks:List Av}{k:Nat}{a:Va}{t:Int}(hL:(L[k]?).getD 0=t)(h:(Il a.name != 0)=false)(h1:ks.contains a.name=false)(h2:(decide (a.type<0)||decide ((T.length:Int)<=a.type))=false)(h3:(a.type != t)=true):vrE T L ks k a=9:=ve9 (by rw [K5];exact h) h1 h2 (by rw [hL,bne_comm];exact h3)
theorem ve0' {T:List e8Sc}{L:List Int}{ks:List Av}{k:Nat}{a:Va}{t:Int}(hL:(L[k]?).getD 0=t)(h:(Il a.name != 0)=false)(h1:ks.contains a.name=false)(h2:(decide (a.type<0)||decide ((T.length:Int)<=a.type))=false)(h3:(a.type != t)=false):vrE T L ks k a=0:=ve0 (by rw [K5];exact h) h1 h2 (by rw [hL,bne_comm];exact h3)
theorem aA {s:Av}{b:Bool}(h:(Il s != 0)=b):(F7 s != 0)=b:=by rw [K5];exact h
theorem typ_F {a:Pt}(h:((a.op != 0)&&(a.op != 5))=false):Jo a=true:=by
  unfold Jo;cases h0:a.op==0 with
  | true=>rfl
  | false=>
    have:(a.op != 0)=true:=by simp [bne,h0]
    rw [this,Ee] at h;simpa [bne] using h
theorem typ_T {a:Pt}(h:((a.op != 0)&&(a.op != 5))=true):Jo a=false:=by
 unfold Jo;simp only [Cz] at h;have h0:(a.op==0)=false:=by simpa [bne] using h.1
 have h5:(a.op==5)=false:=by simpa [bne] using h.2
 rw [h0,h5];rfl
theorem pJ (T:List e8Sc)(htl:T.length<=1048576)(q:Qy)(hq:medQ q)(hvn:∀v∈q.vars,v.name.length<=1048576)(hc:(Gj q.pattern != 0)=false):Ak Tryz.prog 76 [.sl 2 (T.map Js),.agg (cQy q)] (.int .i64 (vE T q)):=by
 have hnl:=Pq q.pattern;have hpn:=hq.p.n;have hvl:=hq.v;have hnd:=Lp hc;have hvt:=vt_len hnd;have hte:=vt_eq hnd;have hck:kW q.pattern=0:=by rw [kX];simpa using hc
 refine Cw 85 Tryz.func76 rfl fun H=>?_
 refine Aa (Qp (Eh Hw) (Qp Ah (B2 (Qp (Qf giy) (Qp (B1 Cy) (Qp (Qc rfl (n9_Count q.pattern hq.p hck)) (Qp Ml (Qp Km (Qp Km (Qp Km (Qp Ah (Qp Ah (Qp Ah (Aq (Ba (Qp (Qf rY) (Qp Cg ?_)))))))))))))))));refine Qp (Da q.vars.length rfl rfl (by simp)) ?_;refine Qp Ai (Qp Bq (Ap (fun hc1=>?_) fun hc1=>?_))
 .
  have hc1n:(((Jn q.pattern).length:Int) != (q.vars.length:Int))=true:=by rw [<-hvt,bne_comm];exact hc1
  refine Aa (Qp Ah (Rc (Qr (Iq _) ?_)));exact Ye (AV.int .i64) (vE_15 hc1n)
 have hc1n:(((Jn q.pattern).length:Int) != (q.vars.length:Int))=false:=by rw [<-hvt,bne_comm];exact hc1
 have hlv:(Jn q.pattern).length=q.vars.length:=by have:=hc1n;simp at this;omega
 refine A5 (Aa (Qp (Qf giy) (Qp (B1 Cy) (Qp (Qc rfl (Z7 q.pattern hq.p.n)) (Qp Xk (B2 (Qp Ah (Aq (Ba (Qp Ah (Aq (AW.block ?_))))))))))));refine AW.Aan (fun (z:Nat×Nat)=>(⟨[(0,.sl 2 (T.map Js)),(3,.ptr (cQy q)),(5,.int .i64 ((((Dd q.pattern).filter My).length:Nat):Int)),(8,.sl 14 ((Dd q.pattern).map Jd)),(9,.int .i64 (z.2:Int)),(10,.int .i64 (z.1:Int))],H,85⟩:St)) (fun z=>z.1<=q.vars.length/\z.2<=(Dd q.pattern).length/\z.1=(((Dd q.pattern).take z.2).filter Jo).length/\nG T ((Jn q.pattern).map (·.2)) [] 0 q.vars=nG T ((Jn q.pattern).map (·.2)) ((q.vars.take z.1).map (·.name)) z.1 (q.vars.drop z.1)) (fun z=>q.vars.length-z.1) ((0,0)) ?_ Bx ?_
 . exact ⟨A3 _,A3 _,rfl,rfl⟩
 rintro z hR;refine Ba (Qp Ai (Qp Ai (Qp Bt (Ap (fun hc2=>?_) fun hc2=>?_))))
 .
  have hzv:z.1<q.vars.length:=by have:=Do hc2;omega
  obtain ⟨va,hav⟩:∃va,q.vars[z.1]? = some va:=⟨_,List.getElem?_eq_getElem hzv⟩;have hmv:=An hav;refine A5 (AW.seq (AW.block (AW.seq (AW.block ?_))));refine AW.Aan (fun (w:Nat)=>(⟨[(0,.sl 2 (T.map Js)),(3,.ptr (cQy q)),(5,.int .i64 ((((Dd q.pattern).filter My).length:Nat):Int)),(8,.sl 14 ((Dd q.pattern).map Jd)),(9,.int .i64 (w:Int)),(10,.int .i64 (z.1:Int))],H,85⟩:St)) (fun w=>w<=(Dd q.pattern).length/\z.1=(((Dd q.pattern).take w).filter Jo).length) (fun w=>(Dd q.pattern).length-w) (z.2) ?_ Bx ?_
  . exact ⟨hR.2.1,hR.2.2.1⟩
  rintro w hw;obtain ⟨a,ha⟩:=at_in hw.2 (by rw [<-hte,hvt];omega);have hwl:w<(Dd q.pattern).length:=(List.getElem?_eq_some_iff.1 ha).1;refine Ba (Qp Ez (Qp Ai ?_));refine Qp (Cp Cy rfl rfl (by omega) (Jz ha)) ?_;refine Qp (Qf Cy) (Qp Be (Qp Bq (Qp A8 (Qg [] Qw Ez (Qg [] Qw Ai ?_)))));refine Yh [(39,_),(40,_)] (Yv rfl Es Es) (fun hG=>Cp Cy rfl rfl (by omega) (Jz ha)) ?_;refine Qg [(41,_)] Qw (Qf Cy) (Qg [(42,_)] Qw Be (Qg [(43,_)] Qw Bq (Qp Ej (Ap (fun hc3=>?_) fun hc3=>?_))))
  .
   have htF:=typ_T hc3;refine A5 (AW.block (AW.region (Qp Ai (Qp Dt (Qp Ah (Rk ?_))))));refine ⟨w+1,?_,?_,Bx⟩
   . exact ⟨hwl,fl_F ha hw.2 htF⟩
   omega
  have htT:=typ_F hc3;have htx:=ty_at hw.2 ha htT;have hLx:(((Jn q.pattern).map (·.2))[z.1]?).getD 0=a.type:=by rw [List.getElem?_map,htx];rfl
  refine AW.exit ?_;refine Bn (Ri (Aa (Qp (Qf rY) (Qp Cg (Qp Ai ?_)))));refine Qp (Cp E4 rfl rfl (by omega) (Bp hav)) ?_;refine Qp (B1 E4) (Dx gjy fun b11=>?_);refine Bw 0 E4 (_::_) ?_;refine Ji 11 0 rfl ?_;refine Aq (Ba (Qp (Qf E4) (Qp Dk (Qp (Qc rfl (c21 va.name (hvn va hmv))) (Qp Bq (Ap (fun hc4=>Aa (Qp Ah (Rc (Rj (Au (Qr (Iq _) ?_)))))) fun hc4=>A5 (AW.seq (AW.seq ?_))))))))
  . exact Ye (AV.int .i64) ((iH hc1n).trans (hR.2.2.2.trans (cD hav (ve8 (aA hc4)) (by decide))))
  refine Id ?_;refine Qn 0 rfl (Qf rY) (Qn 1 rfl Cg (Qn 2 rfl Ai ?_));refine Qn 3 rfl (Ll (l:=0) (h:=z.1) tok rfl rfl rfl rfl rfl (rfl) (⟨_,rfl⟩) (by omega) (by rw [B7];omega) ((by rw [Nb,<-Nc]))) ?_;refine Qn 4 rfl (Qf E4) (Qn 5 rfl Dk ?_);refine Qn 6 rfl (Qc rfl (n4_varR (l:=q.vars.take z.1) rfl (by rw [Fm];omega) va.name)) ?_;refine Qn 7 rfl Fc ?_;refine Fs ?_;refine A2 (E9 (fun hc5=>?_) fun hc5=>?_)
  .
   have hc5n:((q.vars.take z.1).map (·.name)).contains va.name=true:=by rw [<-pl_has];exact hc5
   refine Aa (Qp Ah (Rc (Rj (Au (Qr (Iq _) ?_)))));exact Ye (AV.int .i64) ((iH hc1n).trans (hR.2.2.2.trans (cD hav (ve7 (aA hc4) hc5n) (by decide))))
  have hc5n:((q.vars.take z.1).map (·.name)).contains va.name=false:=by rw [<-pl_has];exact hc5
  refine A5 (Ba (Qp (Qf [Iq _]) (Qp Be (Qp Bt (Qp A8 (Qg [] Qw (Qf [Iq _]) (Qg [(69,_)] Qw Be (Qg [] Qw Ez ?_))))))));refine Yh [(71,_)] Qw (fun hG=>Da T.length rfl rfl (by simp)) ?_;refine Qg [(70,_),(72,_)] Yw Fc (Qp Cr (Ap (fun hc6=>Aa (Qp Ah (Rc (Rj (Au (Qr (Iq _) ?_)))))) fun hc6=>A5 (AW.seq (AW.seq ?_))))
  . exact Ye (AV.int .i64) ((iH hc1n).trans (hR.2.2.2.trans (cD hav (ve6 (aA hc4) hc5n hc6) (by decide))))
  refine Id ?_;refine Qn 0 rfl (Qf [Iq _]) (Qn 1 rfl Be (Qn 2 rfl Ez (Qn 3 rfl Ai ?_)));refine Qn 4 rfl (Cp Cy rfl rfl (by omega) (Jz ha)) ?_;refine Qn 5 rfl (Qf giz) (Qn 6 rfl Be (Qn 7 rfl Bq ?_));refine Fs ?_;refine A2 (E9 (fun hc7=>Aa (Qp Ah (Rc (Rj (Au (Qr (Iq _) ?_)))))) fun hc7=>A5 (AW.region (Qp Ai (Qp Dt (Qp Ah (Rk (AW.region (Qp Ai (Qp Dt (Qp Ah (Aq ?_)))))))))))
  . exact Ye (AV.int .i64) ((iH hc1n).trans (hR.2.2.2.trans (cD hav (ve9' hLx hc4 hc5n hc6 hc7) (by decide))))
  refine ⟨(z.1+1,w+1),?_,?_,Bx⟩
  . exact ⟨hzv,hwl,fl_T ha hw.2 htT,hR.2.2.2.trans ((vr_on hav (ve0' hLx hc4 hc5n hc6 hc7)).trans (by rw [Cf hav];simp))⟩
  simp only;omega
 have hz1:z.1=q.vars.length:=by have:=Di hc2;have:=hR.1;omega
 have hall:=hR.2.2.2;rw [hz1,List.drop_length,nG] at hall;refine AW.exit ?_;refine Bn (Ri (Aa (Qp Ah (Rb ?_))));refine Qr (Iq _) ?_;exact Ye (AV.int .i64) ((iH hc1n).trans hall)
def Vj (V:List Va)(e:Ex):Av:=if decide (1<=e.op)&&decide (e.op<=4) then Y8 V e.var else []
section
variable {T:List e8Sc} {V:List Va} {e:Ex}
theorem tx_y (h:1<=e.op/\e.op<=4):Vj V e=Y8 V e.var:=if_pos (by simp [h.1,h.2])
theorem tx_n (h:¬(1<=e.op/\e.op<=4)):Vj V e = []:=if_neg (by simpa using h)
theorem dU (hn:C0 e=0)(h:e.op<=4):e.args = []:=by
 obtain ⟨h1,_,h2⟩:=Wq (D1 hn).1;have:e.op=0\/e.op=1\/e.op=2\/e.op=3\/e.op=4:=by omega
 have h3:e.args.length=0:=by rcases this with h | h | h | h | h <;> (rw [h] at h2;simp [Iy] at h2;first | exact h2 | (rw [h2];rfl) | omega)
 exact gY h3
theorem rs_1 (hn:C0 e=0)(h0:(e.op==0)=false)(h:(e.op==1)=true):Io T V e=⟨14,Vj V e,iB T V e.var e.field,0,[]++e.args.map (Io T V),0⟩:=by
 have ho:e.op=1:=by simpa using h
 rw [L0,tx_y (by omega),dU hn (by omega)];exact (Bl h0).trans (if_pos h)
theorem rs_2 (hn:C0 e=0)(h0:(e.op==0)=false)(h1:(e.op==1)=false)(h:(e.op==2)=true):Io T V e=⟨14,Vj V e,F6,0,[]++e.args.map (Io T V),0⟩:=by
 have ho:e.op=2:=by simpa using h
 rw [L0,tx_y (by omega),dU hn (by omega)];exact (Bl h0).trans ((Bl h1).trans (if_pos h))
theorem rs_3 (hn:C0 e=0)(h0:(e.op==0)=false)(h1:(e.op==1)=false)(h2:(e.op==2)=false)(h:(e.op==3)=true):Io T V e=⟨15,Vj V e,[],0,[]++e.args.map (Io T V),0⟩:=by
 have ho:e.op=3:=by simpa using h
 rw [L0,tx_y (by omega),dU hn (by omega)];exact (Bl h0).trans ((Bl h1).trans ((Bl h2).trans (if_pos h)))
theorem rs_4 (hn:C0 e=0)(h0:(e.op==0)=false)(h1:(e.op==1)=false)(h2:(e.op==2)=false)(h3:(e.op==3)=false)(h:(e.op==4)=true):Io T V e=⟨16,Vj V e,iB T V e.var e.field,e.kind,if (e.kind != 1) then [Ro e.val] else [],0⟩:=by
 have ho:e.op=4:=by simpa using h
 rw [L0,tx_y (by omega)];exact (Bl h0).trans ((Bl h1).trans ((Bl h2).trans ((Bl h3).trans (if_pos h))))
theorem rs_4y (hn:C0 e=0)(h0:(e.op==0)=false)(h1:(e.op==1)=false)(h2:(e.op==2)=false)(h3:(e.op==3)=false)(h:(e.op==4)=true)(hk:(e.kind != 1)=true):Io T V e=⟨16,Vj V e,iB T V e.var e.field,e.kind,[Ro e.val]++e.args.map (Io T V),0⟩:=by
 have ho:e.op=4:=by simpa using h
 rw [rs_4 hn h0 h1 h2 h3 h,if_pos hk,dU hn (by omega)];rfl
theorem rs_4n (hn:C0 e=0)(h0:(e.op==0)=false)(h1:(e.op==1)=false)(h2:(e.op==2)=false)(h3:(e.op==3)=false)(h:(e.op==4)=true)(hk:(e.kind != 1)=false):Io T V e=⟨16,Vj V e,iB T V e.var e.field,e.kind,[]++e.args.map (Io T V),0⟩:=by
 have ho:e.op=4:=by simpa using h
 rw [rs_4 hn h0 h1 h2 h3 h,Bl hk,dU hn (by omega)];rfl
theorem rs_12 (h0:(e.op==0)=false)(h1:(e.op==1)=false)(h2:(e.op==2)=false)(h3:(e.op==3)=false)(h4:(e.op==4)=false)(h:(e.op==12)=true):Io T V e=⟨18,Vj V e,[],0,[]++e.args.map (Io T V),0⟩:=by
 have ho:e.op=12:=by simpa using h
 rw [L0,tx_n (by omega)];exact (Bl h0).trans ((Bl h1).trans ((Bl h2).trans ((Bl h3).trans ((Bl h4).trans (if_pos h)))))
theorem rs_n (hn:C0 e=0)(h0:(e.op==0)=false)(h1:(e.op==1)=false)(h2:(e.op==2)=false)(h3:(e.op==3)=false)(h4:(e.op==4)=false)(h:(e.op==12)=false):Io T V e=⟨17,Vj V e,[],e.op,[]++e.args.map (Io T V),0⟩:=by
 have ho:=(Wq (D1 hn).1).1;have k0:e.op≠0:=by simpa using h0
 have k1:e.op≠1:=by simpa using h1
 have k2:e.op≠2:=by simpa using h2
 have k3:e.op≠3:=by simpa using h3
 have k4:e.op≠4:=by simpa using h4
 rw [L0,tx_n (by omega)];exact (Bl h0).trans ((Bl h1).trans ((Bl h2).trans ((Bl h3).trans ((Bl h4).trans (Bl h)))))
theorem sk_on {ks:List Syn}{es:List (List AV)}{k:Nat}{a:Ex}(ha:e.args[k]? = some a)(h:es=(ks++(e.args.take k).map (Io T V)).map C3):es ++ [cSyn (Io T V a)]=(ks++(e.args.take (k+1)).map (Io T V)).map C3:=by
 rw [Cf ha,h,Em,Em,Em,Em,Eg,P9,P9,Bi (Io T V a)]
end
theorem lS (T:List e8Sc)(V:List Va)(hrv:RvOK T V)(e:Ex)(hs:Bz e<=1048576)(hn:C0 e=0)(hk:Kp T V e=true):Ak Tryz.prog 83 [.agg (cNm T V),.agg (cE e)] (.agg (cSyn (Io T V e))):=by
 induction e using Ex.ind
 rename_i e ih;have hal:=Mb e hs;have hp:=Q4 hn;have hna:=(D1 hn).2;rw [Rz,Cz] at hk;have hko:=hk.1;have hka:=E3.1 hk.2;have hkp:=Z1 hko (D1 hn).1;refine Cw 117 Tryz.func83 rfl fun H=>?_
 refine Aa (Qp (Eh [_,_]) (Qp iM (Dx F1 fun b4=>B2 (Dx [.int .i64 0,.str [],.str [],.int .i64 0,.val (.slice none 0 0),.int .i64 0] fun b5=>Aq ?_))));refine AW.Aar (fun (tx:List UInt8)=>(⟨[(2,.ptr (cNm T V)),(3,.ptr (cE e)),(4,.val (.pointer (some ⟨b4,0,none⟩))),(5,.val (.pointer (some ⟨b5,0,none⟩)))],.box b5 25 [.int .i64 0,.str tx,.str [],.int .i64 0,.val (.slice none 0 0),.int .i64 0] :: .box b4 25 F1::H,117⟩:St)) (fun tx=>tx=Vj V e) ?_ ?_
 .
  refine Aa (Qp Pj (Qp Be (Qp Fc (Qp A8 (Qg [] Qw Pj (Qg [(11,_)] Qw Be (Qg [(12,_)] Qw Mk (Qp Ej (Ap (fun hc1=>?_) fun hc1=>A5 ?_)))))))))
  .
   have ho14:e.op=1\/e.op=2\/e.op=3\/e.op=4:=by simp at hc1;omega
   have hv1:e.var<(V.length:Int):=hkp.1 ho14;refine AW.region (Qp (Qf [_]) (Qp Cg (Qp bF (Qp Be ?_))));refine Qp (Cp E4 rfl rfl (hp.1) (Bp (Pc hp.1 hv1))) (Qp (Qf E4) (Qp Dk (Qp Co ?_)));refine Bw 0 Ag (_::_::_) (Aq ?_);refine ⟨Y8 V e.var,?_,Bx⟩;exact (if_pos hc1).symm
  refine ⟨[],?_,Bx⟩;exact (Bl hc1).symm
 rintro tx htx;subst htx;refine AW.Aar (fun (y:Int×List UInt8×Int×List Syn×List (List AV)×Value)=>(⟨[(2,.ptr (cNm T V)),(3,.ptr (cE e)),(4,.val (.pointer (some ⟨b4,0,none⟩))),(5,.val (.pointer (some ⟨b5,0,none⟩)))],.row y.2.2.2.2.2 y.2.2.2.2.1.length 25 6 :: .box b5 25 [.int .i64 y.1,.str (Vj V e),.str y.2.1,.int .i64 y.2.2.1,.row y.2.2.2.2.2 6 y.2.2.2.2.1,.int .i64 0] :: .box b4 25 F1::H,117⟩:St)) (fun y=>Io T V e=⟨y.1,Vj V e,y.2.1,y.2.2.1,y.2.2.2.1++e.args.map (Io T V),0⟩/\y.2.2.2.2.1=y.2.2.2.1.map C3/\y.2.2.2.2.1.length<=1) ?_ ?_
 .
  refine Aa (Qp Pj (Qp Be (Aq (AW.block (Aa (Qp Aj (Qp Ao (Ap (fun hc2=>Aa (Qp Vy (Qp (B1 Mf) (Qp (Qc rfl (pI e.val)) ?_)))) fun hc2=>?_))))))))
  .
   refine Bw 1 Ag (_::_::_) (Ra ?_);refine Yx [.agg Ag] (Zb 1) S2 ?_;exact Ye (fun q:Syn=>AV.agg (cSyn q)) (sh_0 hc2)
  refine Aa (Qp Aj (Qp Ao (Ap (fun hc3=>?_) fun hc3=>Aa (Qp Aj (Qp Ao (Ap (fun hc4=>AW.region (Qp Co ?_)) fun hc4=>Aa (Qp Aj (Qp Ao (Ap (fun hc5=>AW.region (Qp Co ?_)) fun hc5=>Aa (Qp Aj (Qp Ao (Ap (fun hc6=>?_) fun hc6=>Aa (Qp Aj (Qp Ao (Ap (fun hc8=>AW.region (Qp Co ?_)) fun hc8=>?_)))))))))))))))
  .
   have hfd:=Ya hn hko (.inl (by simpa using hc3));have hfn:=eY hfd;have hsi:=Yy hrv hfn.1 hfn.2.1;refine Id ?_;refine Qn 0 rfl (Qf [_,_]) (Qn 1 rfl Cg (Qn 2 rfl (Qf [_]) (Qn 3 rfl Cg (Qn 4 rfl bF (Qn 5 rfl Be ?_)))));refine Qn 6 rfl (Cp E4 rfl rfl (hfn.1) (Bp (Pc hfn.1 hfn.2.1))) (Qn 7 rfl (Qf [Iq _]) (Qn 8 rfl Be (Qn 9 rfl (Cp Jl rfl rfl (hsi.1) (Bp hsi.2.1)) (Qn 10 rfl (Qf [_]) (Qn 11 rfl Cg (Qn 12 rfl kS (Qn 13 rfl Be ?_)))))));refine Qn 14 rfl (Cp E4 rfl rfl (hfn.2.2.1) (Bp (oG hfn.2.2.1 hfn.2.2.2))) (Qn 15 rfl (Qf E4) (Qn 16 rfl Dk (Qn 17 rfl Co ?_)));refine Ma 18 rfl (Hx 0 (Iq _) Ag (_::_::_) rfl) ?_;refine Qn 19 rfl Co ?_;refine Ma 20 rfl (Hx 0 (.str _) Ag (_::_::_) rfl) ?_;refine Fs ?_;refine Gv (A2 ?_);refine ⟨(14,(iB T V e.var e.field),0,[],[],.slice none 0 0),?_,GS.trans (GS.cellRow 0 4 25 6 rfl rfl rfl rfl) Bx⟩;exact ⟨rs_1 hn hc2 hc3,rfl,A3 _⟩
  .
   refine Bw 0 Ag (_::_::_) (Qp Co ?_);refine Bw 0 Ag (_::_::_) (Rk ?_);refine ⟨(14,F6,0,[],[],.slice none 0 0),?_,GS.trans (GS.cellRow 0 4 25 6 rfl rfl rfl rfl) Bx⟩;exact ⟨rs_2 hn hc2 hc3 hc4,rfl,A3 _⟩
  .
   refine Bw 0 Ag (_::_::_) (Rk ?_);refine ⟨(15,[],0,[],[],.slice none 0 0),?_,GS.trans (GS.cellRow 0 4 25 6 rfl rfl rfl rfl) Bx⟩;exact ⟨rs_3 hn hc2 hc3 hc4 hc5,rfl,A3 _⟩
  .
   have hfd:=Ya hn hko (.inr (by simpa using hc6));have hfn:=eY hfd;have hsi:=Yy hrv hfn.1 hfn.2.1;refine AW.Aar (fun (_:Unit)=>(⟨[(2,.ptr (cNm T V)),(3,.ptr (cE e)),(4,.val (.pointer (some ⟨b4,0,none⟩))),(5,.val (.pointer (some ⟨b5,0,none⟩)))],.box b5 25 [.int .i64 16,.str (Vj V e),.str (iB T V e.var e.field),.int .i64 e.kind,.val (.slice none 0 0),.int .i64 0] :: .box b4 25 F1::H,117⟩:St)) (fun _=>True) ?_ ?_
   .
    refine Id ?_;refine Qn 0 rfl (Qf [_,_]) (Qn 1 rfl Cg (Qn 2 rfl (Qf [_]) (Qn 3 rfl Cg (Qn 4 rfl bF (Qn 5 rfl Be ?_)))));refine Qn 6 rfl (Cp E4 rfl rfl (hfn.1) (Bp (Pc hfn.1 hfn.2.1))) (Qn 7 rfl (Qf [Iq _]) (Qn 8 rfl Be (Qn 9 rfl (Cp Jl rfl rfl (hsi.1) (Bp hsi.2.1)) (Qn 10 rfl (Qf [_]) (Qn 11 rfl Cg (Qn 12 rfl kS (Qn 13 rfl Be ?_)))))));refine Qn 14 rfl (Cp E4 rfl rfl (hfn.2.2.1) (Bp (oG hfn.2.2.1 hfn.2.2.2))) (Qn 15 rfl (Qf E4) (Qn 16 rfl Dk (Qn 17 rfl gZ (Qn 18 rfl Be (Qn 19 rfl Co ?_)))));refine Ma 20 rfl (Hx 0 (Iq _) Ag (_::_::_) rfl) ?_;refine Qn 21 rfl Co ?_;refine Ma 22 rfl (Hx 0 (.str _) Ag (_::_::_) rfl) ?_;refine Qn 23 rfl Co ?_;refine Ma 24 rfl (Hx 0 (Iq _) Ag (_::_::_) rfl) ?_;refine Fs ?_;refine A2 ?_;refine ⟨(),?_,Bx⟩
    trivial
   rintro _ _;refine Aa (Qp gZ (Qp Be (Qp Bq (Ap (fun hc7=>AW.region (Qp Vy (Qp (B1 Mf) (Qp (Qc rfl (pI e.val)) (Qe (D7 (es:=[Ag]) tok rfl rfl rfl rfl rfl rfl rfl rfl rfl) ?_))))) fun hc7=>Rf ?_))))
   .
    rintro _ _ ⟨v92,rfl,rfl⟩;refine Qp Co ?_;refine Bw 1 Ag (_::_::_::_) (Rk ?_);refine ⟨(16,(iB T V e.var e.field),e.kind,[Ro e.val],[cSyn (Ro e.val)],v92),?_,GS.trans (GS.perm (List.Perm.refl _)) Bx⟩;exact ⟨rs_4y hn hc2 hc3 hc4 hc5 hc6 hc7,by simp [Bi],B6 _⟩
   refine ⟨(16,(iB T V e.var e.field),e.kind,[],[],.slice none 0 0),?_,GS.trans (GS.cellRow 0 4 25 6 rfl rfl rfl rfl) Bx⟩;exact ⟨rs_4n hn hc2 hc3 hc4 hc5 hc6 hc7,rfl,A3 _⟩
  .
   refine Bw 0 Ag (_::_::_) (Rk ?_);refine ⟨(18,[],0,[],[],.slice none 0 0),?_,GS.trans (GS.cellRow 0 4 25 6 rfl rfl rfl rfl) Bx⟩;exact ⟨rs_12 hc2 hc3 hc4 hc5 hc6 hc8,rfl,A3 _⟩
  refine Id ?_;refine Qn 0 rfl Pj (Qn 1 rfl Be (Qn 2 rfl Co ?_));refine Ma 3 rfl (Hx 0 (Iq _) Ag (_::_::_) rfl) ?_;refine Qn 4 rfl Co ?_;refine Ma 5 rfl (Hx 0 (Iq _) Ag (_::_::_) rfl) ?_;refine Fs ?_;refine Gv (A2 ?_);refine ⟨(17,[],e.op,[],[],.slice none 0 0),?_,GS.trans (GS.cellRow 0 4 25 6 rfl rfl rfl rfl) Bx⟩;exact ⟨rs_n hn hc2 hc3 hc4 hc5 hc6 hc8,rfl,A3 _⟩
 rintro ⟨k0,nm0,n0,ks0,es0,v0⟩ hz0;refine Ba (Qp Ah (Aq (AW.block ?_)));refine AW.Aan (fun (z:Nat×List (List AV)×Value)=>(⟨[(2,.ptr (cNm T V)),(3,.ptr (cE e)),(4,.val (.pointer (some ⟨b4,0,none⟩))),(5,.val (.pointer (some ⟨b5,0,none⟩))),(6,.int .i64 (z.1:Int))],.row z.2.2 z.2.1.length 25 6 :: .box b5 25 [.int .i64 k0,.str (Vj V e),.str nm0,.int .i64 n0,.row z.2.2 6 z.2.1,.int .i64 0] :: .box b4 25 F1::H,117⟩:St)) (fun z=>z.1<=e.args.length/\z.2.1=(ks0++(e.args.take z.1).map (Io T V)).map C3/\z.2.1.length<=z.1+1) (fun z=>e.args.length-z.1) ((0,es0,v0)) ?_ Bx ?_
 . exact ⟨A3 _,by have:=hz0.2.1;simpa using this,by have:=hz0.2.2;simpa using this⟩
 rintro z hR;refine Ba (Qp Ai (Qp Y7 (Qp Cg ?_)));refine Qp (Da e.args.length rfl rfl (by simp)) ?_;refine Qp Bt (Ap (fun hc9=>?_) fun hc9=>?_)
 .
  obtain ⟨a,ha⟩:=B3 hc9;have hlt:=Bf ha;have hm:=An ha;have hsc:∀c∈z.2.1,A7 c=true:=by rw [hR.2.1];exact scLe _
  have hql:=hR.2.2;refine A5 (AW.seq (AW.block (N3 1 rfl (Qn 0 rfl Co (Qn 1 rfl (Kn (.row _ _ _) rfl) (Qn 2 rfl (B1 [_,_]) (Qn 3 rfl Y7 (Qn 4 rfl Cg (Qn 5 rfl Ai ?_)))))))));refine Qn 6 rfl (Cp Hh rfl rfl (by omega) (e_at ha)) ?_;refine Qn 7 rfl Kt ?_;refine Qn 8 rfl (Qc rfl (ih a hm (by have:=Gu hm;omega) (hna a hm) (hka a hm))) ?_;refine Qn 9 rfl (G0 [Ag] rfl) ?_;refine Ur 10 rfl (Pk 0 rfl (Dl rfl) (hsc) (by simp;omega) (by simp [maxLen];omega)) (by rintro _ _ ⟨v114,rfl,rfl⟩;simp) ?_;rintro _ _ ⟨v114,rfl,rfl⟩;refine Qn 11 rfl Co ?_;refine bH 12 rfl (Hx 1 (.row _ _ _) Ag (_::_::_::_) rfl) ?_;rintro _ _ ⟨rfl,rfl⟩;refine Gv (A2 (AW.region (Qp Ai (Qp Dt (Qp Ah (Aq ?_))))));refine ⟨(z.1+1,z.2.1 ++ [cSyn (Io T V a)],v114),?_,?_,Bx⟩
  . exact ⟨hlt,sk_on ha hR.2.1,by simp;omega⟩
  simp only;omega
 have hte:=B9 hc9;have hall:=hR.2.1;rw [hte] at hall;refine AW.exit ?_;refine Bn (Ri (Aa ?_));refine AOL.ghost (GS.cell (H2:=_::_::_::_) 1 4 rfl rfl rfl rfl Dv) ?_;refine Nu 1 Ag rfl ?_;refine Bw 2 Ag (_::_::_::_) (Rb ?_);refine Yx [.agg Ag] (Zb 2) S3 ?_;exact Eq.trans (congrArg (fun l:List (List AV)=>AV.agg [.int .i64 k0,.str (Vj V e),.str nm0,.int .i64 n0,.sl 6 l,.int .i64 0]) hall) (congrArg (fun q:Syn=>AV.agg (cSyn q)) hz0.1).symm
theorem pK (T:List e8Sc)(V:List Va)(hrv:RvOK T V)(p:Pt)(hs:Bz p.cond<=1048576)(hn:C0 p.cond=0)(hk:Kp T V p.cond=true)(ht:0<=p.type/\p.type<(T.length:Int))(hv:0<=p.var/\p.var<(V.length:Int)):Ak Tryz.prog 139 [.agg (cNm T V),.agg (cPt p)] (.agg (cSyn (jG T V p))):=by
 refine Cw 33 Tryz.func139 rfl fun H=>?_
 refine Aa (Qp (Eh [_,_]) (Qp (Eh Cy) (Dx F1 fun b4=>Re ?_)));refine Id ?_;refine Qn 0 rfl (Qf [_,_]) (Qn 1 rfl Cg (Qn 2 rfl (Qf giz) (Qn 3 rfl Be ?_)));refine Qn 4 rfl (Cp Jl rfl rfl (ht.1) (Bp (kJ ht))) (Qn 5 rfl (Qf Jl) (Qn 6 rfl Dk (Qn 7 rfl (Qf [_]) (Qn 8 rfl Cg (Qn 9 rfl (Qf ghx) (Qn 10 rfl Be ?_))))));refine Qn 11 rfl (Cp E4 rfl rfl (hv.1) (Bp (Pc hv.1 hv.2))) (Qn 12 rfl (Qf E4) (Qn 13 rfl Dk (Qn 14 rfl (D0 Ag) ?_)));refine hJ 15 rfl (Gp (l:=F1) (by kernel_rfl)) ?_;rintro _ _ ⟨b5,rfl,rfl⟩;refine Ma 16 rfl (Hx 0 (.agg _) Ag (_::_::_) rfl) ?_;refine Fs ?_;refine A2 (AW.seq (AW.seq ?_));refine Id ?_;refine Qn 0 rfl Pj (Qn 1 rfl Kt (Qn 2 rfl (Qc rfl (n4_yes)) (Qn 3 rfl (Qc rfl (nY p.cond Lb hs)) (Qn 4 rfl E7 ?_))));refine Fs ?_;refine A2 (E9 (fun hc1=>AW.region (Qp (B1 [_,_]) (Qp Pj (Qp Kt (Qp (Qc rfl (lS T V hrv p.cond hs hn hk)) (Qp (G0 [Ag] rfl) (Qp Co ?_))))))) fun hc1=>A5 (Aa (Nu 0 Ag rfl ?_)))
 .
  refine Bw 0 Ag (_::_::_) (B2 (Nu 0 Ag rfl ?_));refine Bw 1 Ag (_::_::_) (Rb ?_);refine Yx [.agg Ag] (Zb 1) S2 ?_;exact Eq.trans (congrArg (fun c:List AV=>AV.agg [.int .i64 5,.str ((T[p.type.toNat]?).getD Yu).name,.str (Y8 V p.var),.int .i64 0,.sl 6 [c],.int .i64 0]) (Bi (Io T V p.cond)).symm) (congrArg (fun q:Syn=>AV.agg (cSyn q)) (evT_y hc1)).symm
 refine Bw 1 Ag (_::_::_) (Rb ?_);refine Yx [.agg Ag] (Zb 1) S2 ?_;exact Ye (fun q:Syn=>AV.agg (cSyn q)) (evT_n hc1)
section
variable {T:List e8Sc} {V:List Va} {p:Pt}
theorem tr_k {k:Int}(h:p.op=k)(h1:1<=k/\k<=4):Kr T V p=⟨k+5,[],[],0,p.args.map (Kr T V),0⟩:=by
 have e:∀j:Int,j≠k->(p.op==j)=false:=fun j hj=>by rw [h];simpa using fun q=>hj q.symm
 rw [sp_x (e 0 (by omega)) (e 5 (by omega)) (e 6 (by omega)) (e 7 (by omega)),h,Bh]
theorem tr_5 (h:(p.op==5)=true):Kr T V p=⟨10,[],[],0,p.args.map (Kr T V) ++ [jG T V p],0⟩:=by
 have ho:p.op=5:=by simpa using h
 rw [sp_5 (by rw [ho];rfl) h,ho];rfl
theorem tr_6 (h:(p.op==6)=true):Kr T V p=⟨11,[],[],p.span,p.args.map (Kr T V),0⟩:=by
 have ho:p.op=6:=by simpa using h
 rw [sp_6 (by rw [ho];rfl) (by rw [ho];rfl) h,ho,Bh];rfl
theorem tr_7 (ho:p.op=7):Kr T V p=⟨12,[],[],0,p.args.map (Kr T V) ++ [Io T V p.cond],0⟩:=by
 rw [sp_7 (by rw [ho];rfl) (by rw [ho];rfl) (by rw [ho];rfl) (by rw [ho];rfl),ho];rfl
theorem zC {es:List (List AV)}(h:es=p.args.map (fun a=>cSyn (Kr T V a))):es=(p.args.map (Kr T V)).map C3:=by rw [h,List.map_map];exact List.map_congr_left fun a _=>(Bi _).symm
theorem kp_1 {es:List (List AV)}(x:Syn)(h:es=p.args.map (fun a=>cSyn (Kr T V a))):es ++ [cSyn x]=(p.args.map (Kr T V) ++ [x]).map C3:=by rw [Em,<-zC h,P9,Bi]
end
theorem n4_tree (T:List e8Sc)(V:List Va)(hrv:RvOK T V)(p:Pt)(hp:∀x∈Dd p,ShN T V x)(hpn:Gy p<=1048576):Ak Tryz.prog 82 [.agg (cNm T V),.agg (cPt p)] (.agg (cSyn (Kr T V p))):=by
 induction p using Pt.ind
 rename_i p ih;have hal:=M8 p;have hme:=hp p (Yg p);have hop:=hme.1;refine Cw 74 Tryz.func82 rfl fun H=>?_
 refine Aa (Qp (Eh [_,_]) (Qp (Eh Cy) (Dx F1 fun b4=>Aq (Ba (Qp (Qf Cy) (Qp Be (Qp Aj (Ap (fun hc1=>?_) fun hc1=>A5 (Aa (Dx [.int .i64 0,.str [],.str [],.int .i64 0,.val (.slice none 0 0),.int .i64 0] fun b5=>Aq (Ba (Qp Ah (Aq (AW.block ?_))))))))))))))
 .
  have ho:p.op=0:=by simpa using hc1
  have htv:=hme.2.1 (by unfold Jo;rw [ho];rfl);have hcd:=hme.2.2 (by unfold Ko;rw [ho];rfl);refine Aa (Qp (B1 [_,_]) (Qp (B1 Cy) (Qp (Qc rfl (pK T V hrv p hcd.1 hcd.2.1 hcd.2.2 htv.1 htv.2)) ?_)));refine Bw 0 Ag (_::_) (Rc ?_);refine Yx [.agg Ag] (Zb 0) S1 ?_;exact Ye (fun q:Syn=>AV.agg (cSyn q)) (shP_0 hc1)
 refine AW.ghost (GS.cellRow 0 4 25 6 rfl rfl rfl rfl) ?_
 skip
 refine AW.Aan (fun (q:Nat×List (List AV)×Value)=>(⟨[(2,.ptr (cNm T V)),(3,.ptr (cPt p)),(4,.val (.pointer (some ⟨b4,0,none⟩))),(5,.val (.pointer (some ⟨b5,0,none⟩))),(6,.int .i64 (q.1:Int))],.row q.2.2 q.2.1.length 25 6 :: .box b5 25 [.int .i64 0,.str [],.str [],.int .i64 0,.row q.2.2 6 q.2.1,.int .i64 0] :: .box b4 25 F1::H,74⟩:St)) (fun q=>q.1<=p.args.length/\q.2.1=(p.args.take q.1).map (fun a=>cSyn (Kr T V a))/\q.2.1.length<=q.1) (fun q=>p.args.length-q.1) ((0,[],.slice none 0 0)) ?_ Bx ?_
 . exact ⟨A3 _,rfl,B6 _⟩
 rintro q hR;refine Ba (Qp Ai (Qp (Qf bS) (Qp Cg ?_)));refine Qp (Da p.args.length rfl rfl (by simp)) ?_;refine Qp Bt (Ap (fun hc2=>?_) fun hc2=>?_)
 .
  obtain ⟨a,ha⟩:=B3 hc2;have hlt:=Bf ha;have hm:=An ha;have hsc:∀c∈q.2.1,A7 c=true:=by rw [hR.2.1];exact fun c hc=>by obtain ⟨x,_,rfl⟩:=Db.1 hc;rfl
  have hql:=hR.2.2;refine A5 (AW.seq (AW.block (N3 1 rfl (Qn 0 rfl Co (Qn 1 rfl (Kn (.row _ _ _) rfl) (Qn 2 rfl (B1 [_,_]) (Qn 3 rfl (Qf bS) (Qn 4 rfl Cg (Qn 5 rfl Ai ?_)))))))));refine Qn 6 rfl (Cp Cy rfl rfl (by omega) (Jz ha)) ?_;refine Qn 7 rfl (B1 Cy) ?_;refine Qn 8 rfl (Qc rfl (ih a hm (fun x hx=>hp x (lV hm hx)) (by have:=K6 hm;omega))) ?_;refine Qn 9 rfl (G0 [Ag] rfl) ?_;refine Ur 10 rfl (Pk 0 rfl (Dl rfl) (hsc) (by simp;omega) (by simp [maxLen];omega)) (by rintro _ _ ⟨v30,rfl,rfl⟩;simp) ?_;rintro _ _ ⟨v30,rfl,rfl⟩;refine Qn 11 rfl Co ?_;refine bH 12 rfl (Hx 1 (.row _ _ _) Ag (_::_::_::_) rfl) ?_;rintro _ _ ⟨rfl,rfl⟩;refine Gv (A2 (AW.region (Qp Ai (Qp Dt (Qp Ah (Aq ?_))))));refine ⟨(q.1+1,q.2.1 ++ [cSyn (Kr T V a)],v30),?_,?_,Bx⟩
  . exact ⟨hlt,by simp only;rw [Cf ha,hR.2.1];simp,by simp;omega⟩
  simp only;omega
 have hte:=B9 hc2;have hall:=hR.2.1;rw [hte] at hall;have hsc:∀c∈q.2.1,A7 c=true:=by rw [hR.2.1];exact fun c hc=>by obtain ⟨x,_,rfl⟩:=Db.1 hc;rfl
 have hql:=hR.2.2;refine AW.exit ?_;refine Bn (Ri ?_);refine AW.Aar (fun (y:Int×Int×List Syn×List (List AV)×Value)=>(⟨[(2,.ptr (cNm T V)),(3,.ptr (cPt p)),(4,.val (.pointer (some ⟨b4,0,none⟩))),(5,.val (.pointer (some ⟨b5,0,none⟩)))],.row y.2.2.2.2 y.2.2.2.1.length 25 6 :: .box b5 25 [.int .i64 y.1,.str [],.str [],.int .i64 y.2.1,.row y.2.2.2.2 6 y.2.2.2.1,.int .i64 0] :: .box b4 25 F1::H,74⟩:St)) (fun y=>Kr T V p=⟨y.1,[],[],y.2.1,y.2.2.1,0⟩/\y.2.2.2.1=y.2.2.1.map C3) ?_ ?_
 .
  refine Aa (Qp (Qf Cy) (Qp Be (Aq (AW.block (Aa (Qp Aj (Qp Ao (Ap (fun hc3=>AW.region (Qp Co ?_)) fun hc3=>?_))))))))
  .
   refine Bw 1 Ag (_::_::_::_) (Rk ?_);refine ⟨(6,0,p.args.map (Kr T V),q.2.1,q.2.2),?_,Bx⟩;exact ⟨tr_k (k:=1) (by simpa using hc3) (by decide),zC hall⟩
  refine Aa (Qp Aj (Qp Ao (Ap (fun hc4=>AW.region (Qp Co ?_)) fun hc4=>Aa (Qp Aj (Qp Ao (Ap (fun hc5=>AW.region (Qp Co ?_)) fun hc5=>Aa (Qp Aj (Qp Ao (Ap (fun hc6=>AW.region (Qp Co ?_)) fun hc6=>Aa (Qp Aj (Qp Ao (Ap (fun hc7=>?_) fun hc7=>Aa (Qp Aj (Qp Ao (Ap (fun hc8=>?_) fun hc8=>?_)))))))))))))))
  .
   refine Bw 1 Ag (_::_::_::_) (Rk ?_);refine ⟨(7,0,p.args.map (Kr T V),q.2.1,q.2.2),?_,Bx⟩;exact ⟨tr_k (k:=2) (by simpa using hc4) (by decide),zC hall⟩
  .
   refine Bw 1 Ag (_::_::_::_) (Rk ?_);refine ⟨(8,0,p.args.map (Kr T V),q.2.1,q.2.2),?_,Bx⟩;exact ⟨tr_k (k:=3) (by simpa using hc5) (by decide),zC hall⟩
  .
   refine Bw 1 Ag (_::_::_::_) (Rk ?_);refine ⟨(9,0,p.args.map (Kr T V),q.2.1,q.2.2),?_,Bx⟩;exact ⟨tr_k (k:=4) (by simpa using hc6) (by decide),zC hall⟩
  .
   have ho:p.op=5:=by simpa using hc7
   have htv:=hme.2.1 (by unfold Jo;rw [ho];rfl);have hcd:=hme.2.2 (by unfold Ko;rw [ho];rfl);refine AW.drawI mixed (fun j H'=>(j==1)=true->_∈H') (fun _ _=>(An (i:=1) rfl)) (by kernel_rfl) ?_;refine CanonI.pure _ _ 0 _ _ rfl (by kernel_rfl) (by kernel_rfl) rfl (.run rfl (Fx tok rfl rfl rfl rfl rfl rfl)) ?_;refine CanonI.pure _ _ 1 _ _ rfl (by kernel_rfl) (by kernel_rfl) rfl (.run rfl (Dc.mem (fun k=>Cl (k:=k) (c:=.row _ _ _) tok rfl rfl rfl rfl) (fun _ h=>(h rfl)))) ?_;refine CanonI.pure _ _ 2 _ _ rfl (by kernel_rfl) (by kernel_rfl) rfl (.run rfl (G4 (l:=[_,_]) tok rfl rfl rfl rfl rfl)) ?_;refine CanonI.pure _ _ 3 _ _ rfl (by kernel_rfl) (by kernel_rfl) rfl (.run rfl (G4 (l:=Cy) tok rfl rfl rfl rfl rfl)) ?_;refine CanonI.pure _ _ 4 _ _ rfl (by kernel_rfl) (by kernel_rfl) rfl (.run rfl (Qc rfl (pK T V hrv p hcd.1 hcd.2.1 hcd.2.2 htv.1 htv.2))) ?_;refine CanonI.pure _ _ 5 _ _ rfl (by kernel_rfl) (by kernel_rfl) rfl (.run rfl (G0 [Ag] rfl)) ?_;refine CanonI.pure _ _ 7 _ _ rfl (by kernel_rfl) (by kernel_rfl) rfl (.run rfl (Fx tok rfl rfl rfl rfl rfl rfl)) ?_;refine CanonI.phase (fun _ _=>True) _ _ 6 _ _ rfl (by kernel_rfl) rfl rfl (Pk 0 rfl (Dl rfl) (hsc) (by simp;omega) (by simp [maxLen];omega)) (fun j _ _ hr _ _ hj=>?_) (fun _ _ _ _=>trivial) ?_
   .
    rcases (by simpa only [Ff,beq_iff_eq,or_assoc] using hj:j=1) with rfl
    exact Bool.noConfusion ((show Lv _ 7 _ 1=true by kernel_rfl).symm.trans hr)
   rintro _ _ ⟨v64,rfl,rfl⟩;refine CanonI.eff _ _ 8 _ _ rfl (by kernel_rfl) rfl rfl (Hx 1 (Iq _) Ag (_::_::_::_) rfl) (fun _ _ _ _=>trivial) ?_;rintro _ _ ⟨rfl,rfl⟩;refine CanonI.pure _ _ 9 _ _ rfl (by kernel_rfl) (by kernel_rfl) rfl (.run rfl (Fx tok rfl rfl rfl rfl rfl rfl)) ?_;refine CanonI.eff _ _ 10 _ _ rfl (by kernel_rfl) rfl rfl (Hx 1 (.row _ _ _) Ag (_::_::_::_) rfl) (fun _ _ _ _=>trivial) ?_;rintro _ _ ⟨rfl,rfl⟩;refine CanonI.done _ _ (by kernel_rfl) ?_;refine Gv (A2 ?_);refine ⟨(10,0,p.args.map (Kr T V) ++ [jG T V p],q.2.1 ++ [cSyn (jG T V p)],v64),?_,Bx⟩;exact ⟨tr_5 hc7,kp_1 _ hall⟩
  .
   refine Id ?_;refine Qn 0 rfl (Qf gky) (Qn 1 rfl Be (Qn 2 rfl Co ?_));refine Ma 3 rfl (Hx 1 (Iq _) Ag (_::_::_::_) rfl) ?_;refine Qn 4 rfl Co ?_;refine Ma 5 rfl (Hx 1 (Iq _) Ag (_::_::_::_) rfl) ?_;refine Fs ?_;refine Gv (A2 ?_);refine ⟨(11,p.span,p.args.map (Kr T V),q.2.1,q.2.2),?_,Bx⟩;exact ⟨tr_6 hc8,zC hall⟩
  have ho:p.op=7:=by simp at hc1 hc3 hc4 hc5 hc6 hc7 hc8;omega
  have hcd:=hme.2.2 (by unfold Ko;rw [ho];rfl);refine AW.drawI mixed (fun j H'=>(j==1)=true->_∈H') (fun _ _=>(An (i:=1) rfl)) (by kernel_rfl) ?_;refine CanonI.pure _ _ 0 _ _ rfl (by kernel_rfl) (by kernel_rfl) rfl (.run rfl (Fx tok rfl rfl rfl rfl rfl rfl)) ?_;refine CanonI.pure _ _ 1 _ _ rfl (by kernel_rfl) (by kernel_rfl) rfl (.run rfl (Dc.mem (fun k=>Cl (k:=k) (c:=.row _ _ _) tok rfl rfl rfl rfl) (fun _ h=>(h rfl)))) ?_;refine CanonI.pure _ _ 2 _ _ rfl (by kernel_rfl) (by kernel_rfl) rfl (.run rfl (G4 (l:=[_,_]) tok rfl rfl rfl rfl rfl)) ?_;refine CanonI.pure _ _ 3 _ _ rfl (by kernel_rfl) (by kernel_rfl) rfl (.run rfl (Dw (cs':=Hh) tok rfl rfl rfl rfl rfl rfl)) ?_;refine CanonI.pure _ _ 4 _ _ rfl (by kernel_rfl) (by kernel_rfl) rfl (.run rfl (G4 (l:=Hh) tok rfl rfl rfl rfl rfl)) ?_;refine CanonI.pure _ _ 5 _ _ rfl (by kernel_rfl) (by kernel_rfl) rfl (.run rfl (Qc rfl (lS T V hrv p.cond hcd.1 hcd.2.1 hcd.2.2))) ?_;refine CanonI.pure _ _ 6 _ _ rfl (by kernel_rfl) (by kernel_rfl) rfl (.run rfl (G0 [Ag] rfl)) ?_;refine CanonI.pure _ _ 8 _ _ rfl (by kernel_rfl) (by kernel_rfl) rfl (.run rfl (Fx tok rfl rfl rfl rfl rfl rfl)) ?_;refine CanonI.phase (fun _ _=>True) _ _ 7 _ _ rfl (by kernel_rfl) rfl rfl (Pk 0 rfl (Dl rfl) (hsc) (by simp;omega) (by simp [maxLen];omega)) (fun j _ _ hr _ _ hj=>?_) (fun _ _ _ _=>trivial) ?_
  .
   rcases (by simpa only [Ff,beq_iff_eq,or_assoc] using hj:j=1) with rfl
   exact Bool.noConfusion ((show Lv _ 7 _ 1=true by kernel_rfl).symm.trans hr)
  rintro _ _ ⟨v41,rfl,rfl⟩;refine CanonI.eff _ _ 9 _ _ rfl (by kernel_rfl) rfl rfl (Hx 1 (Iq _) Ag (_::_::_::_) rfl) (fun _ _ _ _=>trivial) ?_;rintro _ _ ⟨rfl,rfl⟩;refine CanonI.pure _ _ 10 _ _ rfl (by kernel_rfl) (by kernel_rfl) rfl (.run rfl (Fx tok rfl rfl rfl rfl rfl rfl)) ?_;refine CanonI.eff _ _ 11 _ _ rfl (by kernel_rfl) rfl rfl (Hx 1 (.row _ _ _) Ag (_::_::_::_) rfl) (fun _ _ _ _=>trivial) ?_;rintro _ _ ⟨rfl,rfl⟩;refine CanonI.done _ _ (by kernel_rfl) ?_;refine Gv (A2 ?_);refine ⟨(12,0,p.args.map (Kr T V) ++ [Io T V p.cond],q.2.1 ++ [cSyn (Io T V p.cond)],v41),?_,Bx⟩;exact ⟨tr_7 ho,kp_1 _ hall⟩
 rintro ⟨k0,n0,ks0,es0,v0⟩ hz0;refine Aa ?_;refine AOL.ghost (GS.cell (H2:=_::_::_::_) 1 4 rfl rfl rfl rfl Dv) ?_;refine Nu 1 Ag rfl ?_;refine Bw 2 Ag (_::_::_::_) (Rb ?_);refine Yx [.agg Ag] (Zb 2) S3 ?_;exact Eq.trans (congrArg (fun l:List (List AV)=>AV.agg [.int .i64 k0,.str [],.str [],.int .i64 n0,.sl 6 l,.int .i64 0]) hz0.2) (congrArg (fun q:Syn=>AV.agg (cSyn q)) hz0.1).symm
def fiT (f:Fi):Syn:=⟨2,f.name,[],f.kind,[],0⟩
def tyT (s:e8Sc):Syn:=⟨1,s.name,[],0,s.fields.map fiT,0⟩
def Hc (s:e8Sc):Bool:=Q3 s.name&&s.fields.all fun f=>Q3 f.name
def Uf (p:Pg):Syn:=⟨0,[],[],0,p.types.map tyT++p.queries.map (qT p.types),0⟩
def Na (T:List e8Sc):List Av->List Qy->Int
 | _,[]=>0
 | seen,q::r=>if ((G5 T q).2 != 0) then (G5 T q).2 else if seen.contains q.name then 7 else Na T (seen ++ [q.name]) r
def src3 (p:Pg):Syn×Int:=if ((B0 (Uf p) (.only 0)).2 != 0) then (Hb,(B0 (Uf p) (.only 0)).2) else (Uf p,0)
def rH (p:Pg):Syn×Int:=if (Na p.types [] p.queries != 0) then (Hb,Na p.types [] p.queries) else src3 p
def src1 (p:Pg):Syn×Int:=if !(p.types.all Hc) then (Hb,8) else if decide ((16:Int)<(p.queries.length:Int)) then (Hb,5) else rH p
def Hk (p:Pg):Syn×Int:=if (C7 p.types != 0) then (Hb,C7 p.types) else src1 p
structure SrcOK (p:Pg):Prop where
 t:(C7 p.types != 0)=false
 b:p.types.all Hc=true
 l:p.queries.length<=16
 g:Na p.types [] p.queries=0
 w:((B0 (Uf p) (.only 0)).2 != 0)=false
theorem xU {T:List e8Sc}{q:Qy}(h:((G5 T q).2 != 0)=false):ShOK T q/\(Ti T q).1=(Tk T q).1/\((B0 (qT T q) (.only 3)).2 != 0)=false/\G5 T q=(qT T q,0):=by
 have key:∀{c:Bool} {f:Int} {x:Syn×Int},((if c then (Hb,f) else x).2 != 0)=false->(c=true->(f != 0)=true)->c=false/\(if c then (Hb,f) else x)=x:=fun {c f x} h hf=>by
  cases c with
  | false=>exact ⟨rfl,rfl⟩
  | true=>rw [if_pos rfl] at h;rw [hf rfl] at h;cases h
 unfold G5 at h ⊢;obtain ⟨a1,b1⟩:=key h fun h=>h
 rw [b1] at h ⊢;obtain ⟨a2,b2⟩:=key h fun h=>h
 rw [b2] at h ⊢;obtain ⟨a3,b3⟩:=key h fun h=>h
 rw [b3];obtain ⟨s1,s2⟩:=sh_ok a1 a2;exact ⟨s1,by rw [s2],a3,rfl⟩
theorem xX {T:List e8Sc}:∀(l:List Qy) (seen:List Av),Na T seen l=0->seen.Nodup->(seen++l.map (·.name)).Nodup/\∀q∈l,((G5 T q).2 != 0)=false
  | [],seen,_,hn=>⟨by simpa using hn,fun q h=>by cases h⟩
  | q::r,seen,h,hn=>by
    rw [Na] at h;split at h
    . rename_i h1;rw [h] at h1;cases h1
    . rename_i h1
      split at h
      . cases h
      . rename_i h2
        have hc:q.name∉seen:=by simpa using h2
        have ih:=xX r (seen ++ [q.name]) h (Uj.2 ⟨hn,by simp,fun a ha b hb=>by rw [Hv.1 hb];exact fun e=>hc (e▸ha)⟩);refine ⟨by simpa using ih.1,fun x hx=>?_⟩;rcases Dn.1 hx with rfl | hx
        . simpa using h1
        exact ih.2 x hx
theorem ShOK.shn {T:List e8Sc}{q:Qy}(h:ShOK T q)(hq:medQ q):∀x∈Dd q.pattern,ShN T q.vars x:=fun x hx=>by
 have hp:=h.pt x hx;refine ⟨hp.n.op,fun ht=>?_,fun hc=>⟨hq.p.cond x hx,(hp.c hc).n,(hp.c hc).k⟩⟩;have hr:=hp.n.rng (by rw [<-hp.n.flags.1];exact ht);obtain ⟨i,hi⟩:=J9.1 (show (x.var,x.type)∈Jn q.pattern from Db.2 ⟨x,Ig.2 ⟨hx,ht⟩,rfl⟩);have h1:=aU h.p hi;have h2:=(List.getElem?_eq_some_iff.1 hi).1;have h3:=h.vl.1;simp only at h1;exact ⟨⟨hr.1.1,hp.t ht⟩,hr.2.1,by omega⟩
section
variable {T:List e8Sc} {q:Qy}
theorem sw_1 (h:(C7 T != 0)=true):G5 T q=(Hb,C7 T):=if_pos h
theorem sw_2 (h:(C7 T != 0)=false)(h2:((Ti T q).2 != 0)=true):G5 T q=(Hb,(Ti T q).2):=(Bl h).trans (if_pos h2)
theorem sw_3 (h:(C7 T != 0)=false)(h2:((Ti T q).2 != 0)=false)(h3:((B0 (qT T q) (.only 3)).2 != 0)=true):G5 T q=(Hb,(B0 (qT T q) (.only 3)).2):=(Bl h).trans ((Bl h2).trans (if_pos h3))
theorem sw_4 (h:(C7 T != 0)=false)(h2:((Ti T q).2 != 0)=false)(h3:((B0 (qT T q) (.only 3)).2 != 0)=false):G5 T q=(qT T q,0):=(Bl h).trans ((Bl h2).trans (Bl h3))
def Ta (T:List e8Sc)(q:Qy)(k:Nat):List (List AV):=((⟨4,(Ti T q).1,[],0,[],0⟩:Syn)::Kr T q.vars q.pattern::(q.returns.take k).map (Io T q.vars)).map C3
theorem qk_0:([[.int .i64 4,.str (Ti T q).1,.str [],.int .i64 0,.sl 6 [],.int .i64 0],cSyn (Kr T q.vars q.pattern)]:List (List AV))=Ta T q 0:=by
 unfold Ta;rw [Ul,Ca,Bj,Bj,Ca,Bi,Bi];rfl
theorem qk_on {k:Nat}{a:Ex}(ha:q.returns[k]? = some a):Ta T q k ++ [cSyn (Io T q.vars a)]=Ta T q (k+1):=by
 unfold Ta;rw [Cf ha,Em,P9,Bj,Bj,Bj,Bj,Em,P9,Bi (Io T q.vars a)];rfl
theorem qk_len {k:Nat}(h:k<=q.returns.length):(Ta T q k).length=k+2:=by
 unfold Ta;simp;omega
theorem qk_sc (k:Nat):∀c∈Ta T q k,A7 c=true:=scLe _
end
abbrev Uu (q:Syn×Int):AV:=AV.tuple [.agg (cSyn q.1),.int .i64 q.2]
theorem xO (T:List e8Sc)(hl:T.length<=1048576)(hsn:∀s∈T,Ly s)(q:Qy)(hq:medQ q)(hql:q.name.length<=1048576)(hvn:∀v∈q.vars,v.name.length<=1048576)(hmed:ShOK T q->It (qT T q)):Ak Tryz.prog 29 [.sl 2 (T.map Js),.agg (cQy q)] (.tuple [.agg (cSyn (G5 T q).1),.int .i64 (G5 T q).2]):=by
 have hrl:=hq.r;refine Cw 71 Tryz.func29 rfl fun H=>?_
 refine Aa (Qp (Eh Hw) (Dx F1 fun b4=>Qp Ah (Aq (Ba (Qp Ez (Qp (Qc rfl (e8c57 T hl hsn)) (Qp Ah (B2 (Qp Ai (Qp Bq (Ap (fun hc1=>Aa (Qp (D0 Ag) (Qp Ai ?_))) fun hc1=>?_)))))))))))
 .
  refine Bw 0 Ag (_::_) (Qp Ah (Rc ?_));refine Yx [.agg Ag,Iq _] (Zc 0) S1 ?_;exact Ye Uu (sw_1 hc1)
 refine A5 (Aa (Qp Ez (Qp (B1 Hw) (Qp (Qc rfl (rz_shown T (dT hc1) hsn q hq hql hvn)) (Qp Ml (Qp kT (Qp Km (Qp Dj (Qp Ah (Aq (Ba (Qp Ai (Qp Bq (Ap (fun hc2=>Aa (Qp (D0 Ag) (Qp Ai ?_))) fun hc2=>?_))))))))))))))
 .
  refine Bw 0 Ag (_::_) (Qp Ah (Rc ?_));refine Yx [.agg Ag,Iq _] (Zc 0) S1 ?_;exact Ye Uu (sw_2 hc1 hc2)
 have hok:ShOK T q:=(sh_ok hc1 hc2).1;refine A5 (Aa (Qp Ez (Qp (Qf rY) (Qp Cg (Qp (D0 [_,_]) (Dx [.sl 2 [],.sl 2 []] fun b9=>?_))))));refine Bw 0 [_,_] (_::_::_) ?_;refine Ji 9 0 rfl ?_;refine Aq ?_;refine AW.Aar (fun (w:Nat×Value)=>(⟨[(3,.ptr (cQy q)),(4,.val (.pointer (some ⟨b4,0,none⟩))),(9,.ptr (cNm T q.vars)),(10,.val (.pointer (some ⟨w.1,0,none⟩)))],.row w.2 2 25 6 :: .box w.1 25 [.int .i64 3,.str q.name,.str [],.int .i64 0,.row w.2 6 [[.int .i64 4,.str (Ti T q).1,.str [],.int .i64 0,.sl 6 [],.int .i64 0],cSyn (Kr T q.vars q.pattern)],.int .i64 0] :: .box b4 25 F1::H,71⟩:St)) (fun w=>True) ?_ ?_
 .
  refine Id ?_;refine Qn 0 rfl (Qf Hw) (Qn 1 rfl Dk (Qn 2 rfl D3 (Qn 3 rfl (D0 Ag) (Qn 4 rfl (B1 [_,_]) (Qn 5 rfl (Qf giy) (Qn 6 rfl (B1 Cy) (Qn 7 rfl (Qc rfl (uK T q.vars hok.rv hsn q.pattern (hok.shn hq) hq.p.n)) ?_)))))));refine Gi.two _ _ 8 10 _ _ _ _ rfl rfl (by kernel_rfl) rfl rfl rfl rfl (D7 (es:=[Ag,Ag]) tok rfl rfl rfl rfl rfl rfl rfl rfl rfl) (Gp (l:=F1) (by kernel_rfl)) (by rintro _ _ ⟨v43,rfl,rfl⟩;trivial) (by rintro _ _ ⟨b10,rfl,rfl⟩;trivial) ?_ ?_
  .
   rintro _ _ ⟨v43,rfl,rfl⟩;refine Qn 9 rfl (D0 Ag) ?_;refine hJ 10 rfl (Gp (l:=F1) (by kernel_rfl)) ?_;rintro _ _ ⟨b10,rfl,rfl⟩;refine Ma 11 rfl (Hx 0 (.agg _) Ag (_::_::_::_) rfl) ?_;refine Fs ?_;refine A2 ?_;refine ⟨(b10,v43),?_,GS.trans (GS.perm (List.Perm.swap _ _ _)) Bx⟩
   trivial
  rintro _ _ ⟨b10,rfl,rfl⟩;refine hJ 8 rfl (D7 (es:=[Ag,Ag]) tok rfl rfl rfl rfl rfl rfl rfl rfl rfl) ?_;rintro _ _ ⟨v43,rfl,rfl⟩;refine Qn 9 rfl (D0 Ag) ?_;refine Ma 11 rfl (Hx 1 (.agg _) Ag (_::_::_::_) rfl) ?_;refine Fs ?_;refine A2 ?_;refine ⟨(b10,v43),?_,GS.trans (GS.perm (List.Perm.refl _)) Bx⟩
  trivial
 rintro ⟨b10,v⟩ _;refine Ba (Qp (Qf [_]) (Qp Cg ?_));refine Qp (Da q.returns.length rfl rfl (by simp)) ?_;refine Qp Ai (Aq (AW.block ?_));refine AW.Aan (fun (z:Nat×List (List AV)×Value)=>(⟨[(3,.ptr (cQy q)),(4,.val (.pointer (some ⟨b4,0,none⟩))),(9,.ptr (cNm T q.vars)),(10,.val (.pointer (some ⟨b10,0,none⟩))),(46,.sl 8 (q.returns.map F5)),(47,.int .i64 q.returns.length),(48,.int .i64 (z.1:Int))],.row z.2.2 z.2.1.length 25 6 :: .box b10 25 [.int .i64 3,.str q.name,.str [],.int .i64 0,.row z.2.2 6 z.2.1,.int .i64 0] :: .box b4 25 F1::H,71⟩:St)) (fun z=>z.1<=q.returns.length/\z.2.1=Ta T q z.1) (fun z=>q.returns.length-z.1) ((0,[[.int .i64 4,.str (Ti T q).1,.str [],.int .i64 0,.sl 6 [],.int .i64 0],cSyn (Kr T q.vars q.pattern)],v)) ?_ Bx ?_
 . exact ⟨A3 _,qk_0⟩
 rintro z hR;refine Aa (Qp Bt (Re (E9 (fun hc3=>?_) fun hc3=>?_)))
 .
  obtain ⟨a,ha⟩:=B3 hc3;have hlt:=Bf ha;have hm:=An ha;have hsc:∀c∈z.2.1,A7 c=true:=by rw [hR.2];exact qk_sc _
  have hzl:z.2.1.length=z.1+2:=by rw [hR.2];exact qk_len hR.1
  refine A5 (AW.seq (AW.block (Aa ?_)));refine Qp (Cp Hh rfl rfl (by omega) (bP ha)) ?_;refine Qp Kt (Dx yY fun b12=>?_);refine Bw 0 Hh (_::_::_::_::_) ?_;refine Ji 12 0 rfl ?_;refine Aq (N3 1 rfl (Qn 0 rfl Co (Qn 1 rfl (Kn (.row _ _ _) rfl) (Qn 2 rfl (B1 [_,_]) (Qn 3 rfl Kt (Qn 4 rfl (Qc rfl (uI T q.vars hok.rv hsn a (hq.e a hm) (hok.conds a (Uk _ hm)).n (hok.conds a (Uk _ hm)).k)) (Qn 5 rfl (G0 [Ag] rfl) ?_)))))));refine Ur 6 rfl (Pk 0 rfl (Dl rfl) (hsc) (by simp;omega) (by simp [maxLen];omega)) (by rintro _ _ ⟨v58,rfl,rfl⟩;simp) ?_;rintro _ _ ⟨v58,rfl,rfl⟩;refine Qn 7 rfl Co ?_;refine bH 8 rfl (Hx 1 (.row _ _ _) Ag (_::_::_::_) rfl) ?_;rintro _ _ ⟨rfl,rfl⟩;refine Gv (A2 (AW.region (Qp Dt (Qp Ai (Aq ?_)))));refine ⟨(z.1+1,z.2.1 ++ [cSyn (Io T q.vars a)],v58),?_,?_,Bx⟩
  . exact ⟨hlt,(congrArg (· ++ [cSyn (Io T q.vars a)]) hR.2).trans (qk_on ha)⟩
  simp only;omega
 obtain ⟨z1,z2,z3⟩:=z;have hz1:z1=q.returns.length:=by have:=Di hc3;have:=hR.1;simp only at this;omega
 have hz2:z2=((⟨4,(Ti T q).1,[],0,[],0⟩:Syn)::Kr T q.vars q.pattern::q.returns.map (Io T q.vars)).map C3:=by have h:=hR.2;simp only [hz1,Ta,Ld] at h;exact h
 subst hz2;refine AW.exit ?_;refine Bn (Ri (Ba ?_));refine AOL.ghost (GS.cell (H2:=_::_::_::_) 1 4 rfl rfl rfl rfl Dv) ?_;refine Nu 1 Ag rfl (Qp (Qc rfl (wS (qT T q) (hmed hok))) (Qp Ml (Qp kT (Qp Km (Qp Dj (Qp Ah (B2 (Qp Ai (Qp Bq (Ap (fun hc4=>Aa (Qp (D0 Ag) (Qp Ai ?_))) fun hc4=>A5 (Aa (Nu 1 Ag rfl ?_))))))))))))
 .
  refine Bw 2 Ag (_::_::_::_) (Qp Ah (Rc ?_));refine Yx [.agg Ag,Iq _] (Zc 2) S3 ?_;exact Ye Uu (sw_3 hc1 hc2 hc4)
 refine Bw 2 Ag (_::_::_::_) (Qp Ah (Rb ?_));refine Yx [.agg Ag,Iq _] (Zc 2) S3 ?_;exact Ye Uu (sw_4 hc1 hc2 hc4)
end Go.Proofs.YtckhoadldibflaaGreatDoor
