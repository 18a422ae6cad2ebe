/-
  Several texts in one: R29, R30, R31, Q2, Qa, Qb, Qc, Qd, Qe. No condition.
-/
import Derived.Test.YtckhoadldibflaaGreatDoorK10
import Derived.Test.YtckhoadldibflaaGreatDoorK07
import Derived.Test.YtckhoadldibflaaGreatDoorK05
set_option linter.unusedVariables false
set_option linter.unusedSimpArgs false
set_option maxRecDepth 100000
namespace Go.Proofs.YtckhoadldibflaaGreatDoor
open Go Go.Aw
structure NdOK (q:Pt):Prop where
 op:0<=q.op/\q.op<8
 ck:gA q=0
theorem Xi {p:Pt}(h:(Jr p != 0)=false):∀q∈F2 p,NdOK q:=fun q hq=>by
 have h1:=chk_0 h;have h2:=whl_0 h1;have h3:=aD (rst_0 h2).2.2 q hq;have h4:Da rG (F2 p)=0:=by rw [<-whl_2 h2];simpa using h1
 have h5:=aD h4 q hq;have h6:=ck_op h3;refine ⟨⟨h6.1,?_⟩,h3⟩;unfold rG at h5;split at h5
 . cases h5
 rename_i h7;simp only [Ck] at h7;omega
theorem NdOK.cases {q:Pt}(h:NdOK q):q.op=0\/q.op=1\/q.op=2\/q.op=3\/q.op=4\/q.op=5\/q.op=6\/q.op=7:=by have:=h.op;omega
theorem NdOK.flags {q:Pt}(h:NdOK q):M5 q=(Ku q.op).typed/\Tu q=(Ku q.op).cond:=by
 unfold M5 Tu;rcases h.cases with h | h | h | h | h | h | h | h <;> rw [h] <;> exact ⟨rfl,rfl⟩
theorem NdOK.parts {q:Pt}(h:NdOK q):((Ku q.op).least<=(q.args.length:Int)/\(q.args.length:Int)<=(Ku q.op).most)/\ckB q (Ku q.op)=false/\((Ku q.op).cond=true->Gk q.cond=0)/\ckU q (Ku q.op)=false:=by
 have hc:=h.ck;have ho:(decide (q.op<0)||decide (11<=q.op))=false:=by have:=h.op;simp;omega
 have h1:(decide ((q.args.length:Int)<(Ku q.op).least)||decide ((Ku q.op).most<(q.args.length:Int)))=false:=by
  cases hq:(decide ((q.args.length:Int)<(Ku q.op).least)||decide ((Ku q.op).most<(q.args.length:Int))) with
  | false=>rfl
  | true=>rw [ck_2 ho hq] at hc;cases hc
 have h2:ckB q (Ku q.op)=false:=by
  cases hq:ckB q (Ku q.op) with
  | false=>rfl
  | true=>rw [ck_3 ho h1 hq] at hc;cases hc
 have h3:(Ku q.op).cond=true->Gk q.cond=0:=fun hs=>by
  cases hq:Gk q.cond != 0 with
  | false=>simpa using hq
  | true=>rw [ck_4 ho h1 h2 hs hq] at hc;rw [hc] at hq;cases hq
 have h4:((Ku q.op).cond&&(Gk q.cond != 0))=false:=by
  cases hs:(Ku q.op).cond with
  | false=>rfl
  | true=>rw [h3 hs];rfl
 rw [ck_n ho h1 h2 h4] at hc;refine ⟨?_,h2,h3,?_⟩
 . simp at h1;exact h1
 cases hq:ckU q (Ku q.op) with
 | false=>rfl
 | true=>rw [hq,if_pos rfl] at hc;cases hc
theorem NdOK.use {q:Pt}(h:NdOK q):((Ku q.op).cond=false->q.cond=rC)/\((Ku q.op).typed=false->q.type=0/\q.var=0)/\((Ku q.op).scope=false->q.scope=0)/\((Ku q.op).span=false->q.span=0):=by
 have hu:=h.parts.2.2.2;unfold ckU unu at hu;simp only [Eb,Bd,Bool.and_eq_false_iff,G1,beq_iff_eq] at hu;obtain ⟨⟨⟨⟨h1,h2⟩,h3⟩,h4⟩,h5⟩:=hu;refine ⟨fun hs=>?_,fun hs=>⟨?_,?_⟩,fun hs=>?_,fun hs=>?_⟩
 .
  rw [hs] at h1;rcases h1 with h1 | h1
  . cases h1
  exact (dF _ _).1 h1
 .
  rw [hs] at h2;rcases h2 with h2 | h2
  . cases h2
  exact h2
 .
  rw [hs] at h3;rcases h3 with h3 | h3
  . cases h3
  exact h3
 .
  rw [hs] at h4;rcases h4 with h4 | h4
  . cases h4
  exact h4
 rw [hs] at h5;rcases h5 with h5 | h5
 . cases h5
 exact h5
theorem NdOK.rng {q:Pt}(h:NdOK q)(ht:(Ku q.op).typed=true):(0<=q.type/\q.type<=15)/\0<=q.var/\q.var<=15:=by
 have hb:=h.parts.2.1;unfold ckB wth at hb;rw [ht] at hb;simp at hb;omega
def qS (s:Nx)(q:Pt):Nx:=⟨if (Ku q.op).typed then s.next+1 else s.next,if (Ku q.op).scope then s.scopes+1 else s.scopes⟩
def fJ:List Pt->Nx->Prop
 | [],_=>True
 | q::r,s=>(((Ku q.op).typed=true->q.var=s.next)/\((Ku q.op).scope=true->q.scope=s.scopes))/\fJ r (qS s q)
theorem num_app:∀(l m:List Pt) (s:Nx),fJ (l++m) s↔fJ l s/\fJ m (l.foldl qS s)
 | [],m,s=>by simp [fJ]
 | q::r,m,s=>by rw [Co,fJ,fJ,num_app r m,List.foldl_cons,and_assoc,and_assoc,and_assoc]
theorem num_cnt:∀(l:List Pt) (c:Cnt),(l.foldl K2 c).ok=true->fJ l ⟨c.vars,c.scopes⟩
  | [],c,_=>trivial
  | q::r,c,h=>by
    rw [List.foldl_cons] at h;have ih:=num_cnt r (K2 c q) h
    have hok:(K2 c q).ok=true:=by
      cases hq:(K2 c q).ok with
      | true=>rfl
      | false=>rw [sA r _ hq] at h;cases h
    unfold K2 at hok;simp only [Cd,G1,A4,beq_iff_eq] at hok;refine ⟨⟨fun ht=>?_,fun hs=>?_⟩,ih⟩
    . rcases hok.1.2 with h1 | h1
      . rw [ht] at h1;cases h1
      exact h1
    . rcases hok.2 with h1 | h1
      . rw [hs] at h1;cases h1
      exact h1
theorem jV:∀(l:List Pt) (s:Nx),fJ l s->∀(i:Nat) (q:Pt),(l.filter fun q=>(Ku q.op).typed)[i]? = some q->q.var=s.next+i
  | [],s,_,i,q,h=>by simp at h
  | x::r,s,hn,i,q,h=>by
    obtain ⟨⟨h1,h2⟩,h3⟩:=hn;rw [Us] at h;cases ht:(Ku x.op).typed with
    | false=>
      rw [ht,if_neg (by decide)] at h;have:=jV r _ h3 i q h;unfold qS at this;rw [ht] at this;simpa using this
    | true=>
      rw [ht,if_pos rfl] at h;cases i with
      | zero=>simp at h;subst h;rw [h1 ht];simp
      | succ i=>
        rw [List.getElem?_cons_succ] at h;have:=jV r _ h3 i q h;unfold qS at this;rw [ht] at this;simp only [if_true] at this;rw [this];omega
theorem chk_num {p:Pt}(h:(Jr p != 0)=false):fJ (F2 p) ⟨0,0⟩:=by
 refine num_cnt (F2 p) ⟨0,0,true⟩ ?_;show (Pf p).ok=true;have h1:=chk_0 h;cases hq:(Pf p).ok with
 | true=>rfl
 | false=>rw [chk_2 h1 (by rw [hq];rfl)] at h;cases h
theorem zY {l:List Pt}(h:∀q∈l,NdOK q):l.filter M5=l.filter fun q=>(Ku q.op).typed:=List.filter_congr fun q hq=>(h q hq).flags.1
theorem dO {p:Pt}(h:(Jr p != 0)=false){i:Nat}{x:Int×Int}(hx:(Ls p)[i]? = some x):x.1=(i:Int):=by
 unfold Ls at hx;rw [List.getElem?_map,zY (Xi h)] at hx;obtain ⟨q,hq,rfl⟩:=Uq.1 hx;have:=jV _ _ (chk_num h) i q hq;simpa using this
theorem ty_nodup {p:Pt}(h:(Jr p != 0)=false):((Ls p).map (·.1)).Nodup:=by
 refine List.pairwise_iff_getElem.2 fun i j hi hj hij=>?_
 rw [Bt] at hi hj;rw [List.getElem_map,List.getElem_map];have h1:=dO h (List.getElem?_eq_getElem hi);have h2:=dO h (List.getElem?_eq_getElem hj);rw [h1,h2];omega
theorem zW {p:Pt}(h:(Jr p != 0)=false):(Ls p).length<=16:=by
 rcases Rg 16 (Ls p).length with hl | hl
 .
  have h1:=dO h (List.getElem?_eq_getElem (l:=Ls p) (i:=16) hl);obtain ⟨q,hq,he⟩:=Cl.1 (show (Ls p)[16]∈((F2 p).filter M5).map fun q=>(q.var,q.type) from List.getElem_mem hl);have hm:=Ka.1 hq;have hn:=Xi h q hm.1;have:=(hn.rng (by rw [<-hn.flags.1];exact hm.2)).2;rw [<-he] at h1;simp only at h1;omega
 exact hl
section
variable {T:List e8Sc} {V:List Va}
structure CdOK (T:List e8Sc) (V:List Va) (e:Ex):Prop where
 n:Hg e=0
 k:U0 T V e=true
 m:Zi T V e=true
theorem mD (hv:VrOK T V){p:Pt}(hc:CdOK T V p.cond):Mh T V (Uv T V p)=p.cond:=by
 unfold Mh Uv;simp only;by_cases hs:Ge p.cond Mc=true
 . rw [hs];exact ((dF _ _).1 hs).symm
 have hs':Ge p.cond Mc=false:=by simpa using hs
 rw [hs'];show F1 T V (Ny T V p.cond)=p.cond;exact oX hv _ hc.n hc.k hc.m
theorem gN (hT:(Jx T).Nodup){p:Pt}(h0:0<=p.type)(h1:p.type<(T.length:Int)):Sr (Jx T) (Uv T V p).text=p.type/\(Jx T).contains (Uv T V p).text=true:=by
 obtain ⟨s,hs⟩:=pE h0 h1
 have hx:(Jx T)[p.type.toNat]? = some (Uv T V p).text:=by
  unfold Uv;simp only;rw [List.getElem?_map,hs];rfl
 obtain ⟨h2,_,h3⟩:=cL hT hx;exact ⟨by rw [h2];omega,h3⟩
theorem pt_eq {p q:Pt}(h1:p.op=q.op)(h2:p.args=q.args)(h3:p.type=q.type)(h4:p.var=q.var)(h5:p.scope=q.scope)(h6:p.span=q.span)(h7:p.cond=q.cond):p=q:=by
 cases p;cases q;simp_all
structure PtOK (T:List e8Sc) (V:List Va) (q:Pt):Prop where
 n:NdOK q
 c:Tu q=true->CdOK T V q.cond
 t:M5 q=true->q.type<(T.length:Int)
theorem fW {p:Pt}(h:p.op≠0)(ks:List Syn):lR T V p ks=⟨p.op+5,[],[],if (p.op==6) then p.span else 0,ks++(if (p.op==5) then [Uv T V p] else if (p.op==7) then [Ny T V p.cond] else []),0⟩:=by
 unfold lR;rw [if_neg (by simpa using h)]
theorem gI {p:Pt}(hn:NdOK p)(h:p.op=4\/p.op=5\/p.op=6\/p.op=7):p.args.length=1:=by
 have:=hn.parts.1;rcases h with h | h | h | h <;> (rw [h] at this;simp [Ku,shpL] at this;omega)
theorem pk_back {p:Pt}(hn:NdOK p):D7 (Nf T V p)=p.args.map (Nf T V):=by
 rw [N6];rcases hn.cases with h | h | h | h | h | h | h | h
 .
  have h0:p.args = []:=by have:=hn.parts.1;rw [h] at this;simp [Ku,shpL] at this;exact this
  unfold lR;rw [if_pos (by rw [h];rfl),h0];rfl
 . rw [fW (by omega),h];simp [D7]
 . rw [fW (by omega),h];simp [D7]
 . rw [fW (by omega),h];simp [D7]
 . rw [fW (by omega),h];simp [D7]
 .
  have:=gI hn (.inr (.inl h));rw [fW (by omega),h];simp [D7,this]
 . rw [fW (by omega),h];simp [D7]
 have:=gI hn (.inr (.inr (.inr h)));rw [fW (by omega),h];simp [D7,this]
theorem cO {p:Pt}(hn:NdOK p):(p.op=5->Bi (Nf T V p) 1=Uv T V p)/\(p.op=7->Bi (Nf T V p) 1=Ny T V p.cond):=by
 refine ⟨fun h=>?_,fun h=>?_⟩
 .
  have:=gI hn (.inr (.inl h));rw [N6,fW (by omega),h];unfold Bi;rw [Ez,List.getElem?_append_right (by rw [Bt,this];exact Br _),Bt,this];rfl
 have:=gI hn (.inr (.inr (.inr h)));rw [N6,fW (by omega),h];unfold Bi;rw [Ez,List.getElem?_append_right (by rw [Bt,this];exact Br _),Bt,this];rfl
theorem Xr (p:Pt):(Nf T V p).kind=p.op+5:=by
 rw [N6];by_cases h:p.op=0
 .
  unfold lR;rw [if_pos (by rw [h];rfl),h];rfl
 rw [fW h]
theorem nx_back {p:Pt}(hn:NdOK p)(s:Nx):Yi (Nf T V p) s=qS s p:=by
 unfold Yi qS;rw [Xr];rcases hn.cases with h | h | h | h | h | h | h | h <;> rw [h] <;> rfl
theorem ptn_back (hv:VrOK T V)(hT:(Jx T).Nodup){p:Pt}(hp:PtOK T V p){s:Nx}(hs:((Ku p.op).typed=true->p.var=s.next)/\((Ku p.op).scope=true->p.scope=s.scopes)):Ow T V (Nf T V p) s []=⟨p.op,[],p.type,p.var,p.scope,p.span,p.cond⟩:=by
 have hn:=hp.n;obtain ⟨u1,u2,u3,u4⟩:=hn.use;have hk:=Xr (T:=T) (V:=V) p;have ht:=hn.flags;rcases hn.cases with h | h | h | h | h | h | h | h
 .
  have e:Nf T V p=Uv T V p:=by rw [N6];unfold lR;rw [if_pos (by rw [h];rfl)]
  have hty:(Ku p.op).typed=true:=by rw [h];rfl
  have hr:=hn.rng hty;rw [ptn_5 (by rw [hk,h];rfl),e,(gN hT hr.1.1 (hp.t (by rw [ht.1];exact hty))).1,mD hv (hp.c (by rw [ht.2,h];rfl))];rw [h,hs.1 hty,u3 (by rw [h];rfl),u4 (by rw [h];rfl)]
 all_goals try (rw [ptn_o (by rw [hk,h];rfl) (by rw [hk,h];rfl) (by rw [hk,h];rfl) (by rw [hk,h];rfl),hk];rw [(u2 (by rw [h];rfl)).1,(u2 (by rw [h];rfl)).2,u3 (by rw [h];rfl),u4 (by rw [h];rfl),u1 (by rw [h];rfl),h];rfl)
 .
  have hty:(Ku p.op).typed=true:=by rw [h];rfl
  have hr:=hn.rng hty;rw [ptn_10 (by rw [hk,h];rfl) (by rw [hk,h];rfl),(cO hn).1 h,(gN hT hr.1.1 (hp.t (by rw [ht.1];exact hty))).1,mD hv (hp.c (by rw [ht.2,h];rfl))];rw [h,hs.1 hty,hs.2 (by rw [h];rfl),u4 (by rw [h];rfl)]
 .
  rw [ptn_11 (by rw [hk,h];rfl) (by rw [hk,h];rfl) (by rw [hk,h];rfl)];have e:(Nf T V p).num=p.span:=by rw [N6,fW (by omega),h];rfl
  rw [e,(u2 (by rw [h];rfl)).1,(u2 (by rw [h];rfl)).2,hs.2 (by rw [h];rfl),u1 (by rw [h];rfl),h]
 have hc:=hp.c (by rw [ht.2,h];rfl);rw [ptn_12 (by rw [hk,h];rfl) (by rw [hk,h];rfl) (by rw [hk,h];rfl) (by rw [hk,h];rfl),(cO hn).2 h,oX hv _ hc.n hc.k hc.m];rw [(u2 (by rw [h];rfl)).1,(u2 (by rw [h];rfl)).2,u3 (by rw [h];rfl),u4 (by rw [h];rfl),h]
theorem pt_back (hv:VrOK T V)(hT:(Jx T).Nodup):∀p:Pt,(∀q∈F2 p,PtOK T V q)->∀s:Nx,fJ (F2 p) s->Kk T V (Nf T V p) s=(p,(F2 p).foldl qS s):=by
  intro p
  induction p using Pt.ind with
  | h p ih=>
    intro hp s hs;have hp0:=hp p (Rv p)
    have key:∀l:List Pt,(∀a∈l,a∈p.args)->∀s:Nx,fJ (l.flatMap F2) s->Gn T V (l.map (Nf T V)) s=(l,(l.flatMap F2).foldl qS s):=by
      intro l
      induction l with
      | nil=>intro _ s _;rw [A5,Gn];rfl
      | cons x r ih2=>
        intro hl s hs;rw [Ld] at hs ⊢;obtain ⟨h1,h2⟩:=(num_app _ _ _).1 hs;have hx:=ih x (hl x (by simp)) (fun q hq=>hp q (jR (hl x (by simp)) hq)) s h1;rw [Ao,Gn,hx,ih2 (fun a ha=>hl a (by simp [ha])) _ h2,List.foldl_append]
    rw [Mx] at hs ⊢;have hk:=key p.args (fun a ha=>ha) (qS s p) hs.2;rw [aV,pk_back hp0.n,nx_back hp0.n,hk,ptn_back hv hT hp0 hs.1,List.foldl_cons];exact Prod.ext (pt_eq rfl rfl rfl rfl rfl rfl rfl) rfl
theorem ev_back:∀p:Pt,(∀q∈F2 p,NdOK q)->O2 (Nf T V p)=((F2 p).filter M5).map (Uv T V):=by
  intro p
  induction p using Pt.ind with
  | h p ih=>
    intro hp;have hp0:=hp p (Rv p)
    have hf:(D7 (Nf T V p)).flatMap O2=((p.args.flatMap F2).filter M5).map (Uv T V):=by
      rw [pk_back hp0]
      have key:∀l:List Pt,(∀a∈l,a∈p.args)->(l.map (Nf T V)).flatMap O2=((l.flatMap F2).filter M5).map (Uv T V):=by
        intro l
        induction l with
        | nil=>intro _;rfl
        | cons x r ih2=>
          intro hl;rw [Ao,Ld,Ld,List.filter_append,Dt,ih x (hl x (by simp)) (fun q hq=>hp q (jR (hl x (by simp)) hq)),ih2 fun a ha=>hl a (by simp [ha])]
      exact key p.args fun a ha=>ha
    rw [ev_pk,hf,Mx,Us,Xr];have ht:=hp0.flags.1;rcases hp0.cases with h | h | h | h | h | h | h | h
    . have e:Nf T V p=Uv T V p:=by rw [N6];unfold lR;rw [if_pos (by rw [h];rfl)]
      rw [if_pos (by rw [h];rfl),if_pos (by rw [ht,h];rfl),e];rfl
    all_goals try (rw [if_neg (by rw [h];decide),if_neg (by rw [h];decide),if_neg (by rw [ht,h];decide)];rfl)
    rw [if_neg (by rw [h];decide),if_pos (by rw [h];rfl),if_pos (by rw [ht,h];rfl),(cO hp0).1 h];rfl
theorem pat_walk (hv:VrOK T V):∀p:Pt,(∀q∈F2 p,PtOK T V q)->(G4 T V (Nf T V p)).err=0:=by
  intro p
  induction p using Pt.ind with
  | h p ih=>
    intro hp;have hp0:=hp p (Rv p)
    have hev:Tu p=true->G4 T V (Uv T V p)=Oe:=fun hc=>by
      have hcd:=hp0.c hc;rw [Ob (by rw [T7 (by show ¬((5:Int)=14\/(5:Int)=15\/(5:Int)=16);decide)];rfl)];refine Ty fun a ha=>?_
      unfold Uv at ha;simp only at ha;split at ha
      . rw [Ft.1 ha];exact oY hv _ hcd.n hcd.k
      cases ha
    have hk:=Xr (T:=T) (V:=V) p;have hcb:=hp0.n.flags.2;by_cases h0:p.op=0
    . have e:Nf T V p=Uv T V p:=by rw [N6];unfold lR;rw [if_pos (by rw [h0];rfl)]
      rw [e,hev (by rw [hcb,h0];rfl)];rfl
    . rw [Ob (by rw [T7 (by rw [hk];have:=hp0.n.op;omega)];rfl),Ty]
      . rfl
      intro a ha;rw [N6,fW h0] at ha;simp only at ha;rcases Is.1 ha with ha | ha
      . obtain ⟨x,hx,rfl⟩:=Cl.1 ha
        exact ih x hx fun q hq=>hp q (jR hx hq)
      . split at ha
        . rename_i h5
          rw [Ft.1 ha,hev (by rw [hcb,show p.op=5 by simpa using h5];rfl)];rfl
        . split at ha
          . rename_i h7
            have hcd:=hp0.c (by rw [hcb,show p.op=7 by simpa using h7];rfl);rw [Ft.1 ha];exact oY hv _ hcd.n hcd.k
          cases ha
end
theorem vrG_ok {T:List e8Sc}{L:List Int}:∀(l:List Va) (seen:List Ag) (i:Nat),vrG T L seen i l=0->seen.Nodup->
    (seen++l.map (·.name)).Nodup/\∀(k:Nat) (v:Va),l[k]? = some v->X7 v.name=true/\0<=v.type/\v.type<(T.length:Int)/\(L[i+k]?).getD 0=v.type
  | [],seen,i,_,hn=>⟨by simpa using hn,fun k v h=>by simp at h⟩
  | v::r,seen,i,h,hn=>by
    rw [vrG] at h;split at h
    . rename_i h1;rw [h] at h1;cases h1
    . rename_i h1
      have h0:vrE T L seen i v=0:=by simpa using h1
      unfold vrE at h0;split at h0
      . cases h0
      split at h0
      . cases h0
      split at h0
      . cases h0
      split at h0
      . cases h0
      rename_i g1 g2 g3 g4;have c1:X7 v.name=true:=by simpa using g1
      have c2:v.name∉seen:=by simpa using g2
      simp only [G1,Ck,not_or] at g3;have c4:(L[i]?).getD 0=v.type:=by simpa using g4
      have ih:=vrG_ok r (seen ++ [v.name]) (i+1) h (Mf.2 ⟨hn,by simp,fun a ha b hb=>by rw [Ft.1 hb];exact fun e=>c2 (e▸ha)⟩);refine ⟨by simpa using ih.1,fun k x hx=>?_⟩;cases k with
      | zero=>
        simp at hx;subst hx;exact ⟨c1,by omega,by omega,by simpa using c4⟩
      | succ k=>
        rw [List.getElem?_cons_succ] at hx;have:=ih.2 k x hx;rw [show i+(k+1)=i+1+k by omega];exact this
theorem decS_ok {T:List e8Sc}:∀(l:List Syn) (V:List Va),V.length+l.length<=16->(∀e∈l,(Jx T).contains e.text=true)->(K8 V++l.map (·.name)).Nodup->L2 T V l=(V++l.map (Oo T),Oe)
  | [],V,_,_,_=>by rw [L2,A5,A8]
  | t::r,V,h1,h2,h3=>by
    have ht:=h2 t (by simp)
    have hn:(K8 V).contains t.name=false:=by
      cases hq:(K8 V).contains t.name with
      | false=>rfl
      | true=>
        rw [Mf] at h3;exact absurd rfl (h3.2.2 t.name (by simpa using hq) t.name (by simp))
    have hd:Mg T V t=0:=dec_4 (by rw [Bb] at h1;simp;omega) (by rw [ht];rfl) hn
    rw [Mt,if_neg (by rw [hd];decide),decS_ok r (V ++ [Oo T t]) (by rw [Au,Hl];rw [Bb] at h1;omega) (fun e he=>h2 e (by simp [he])) (by
      rw [show K8 (V ++ [Oo T t])=K8 V ++ [t.name] by simp [Oo]];rw [Ao] at h3;simpa using h3)]
    simp
structure ShOK (T:List e8Sc) (q:Qy):Prop where
 t:(Ef T != 0)=false
 p:(Jr q.pattern != 0)=false
 v:VrE T q=0
 k:(eV T q).2=true
 r:q.returns≠[]
 e:∀e∈q.returns,Gk e=0
 u:Sm T q.vars (Tv q.pattern++q.returns) (tnB T q)=(0,true)
 n:X7 q.name=true
theorem sh_ok {T:List e8Sc}{q:Qy}(h1:(Ef T != 0)=false)(h:((Yk T q).2 != 0)=false):ShOK T q/\Yk T q=((eV T q).1,0):=by
 have key:∀{c:Bool} {f:Int} {x:Ag×Int},((if c then (([]:Ag),f) else x).2 != 0)=false->(c=true->(f != 0)=true)->c=false/\(if c then (([]:Ag),f) else x)=x:=fun {c f x} h hf=>by
  cases c with
  | false=>exact ⟨rfl,rfl⟩
  | true=>rw [if_pos rfl] at h;rw [hf rfl] at h;cases h
 obtain ⟨a1,b1⟩:=key h fun _=>rfl
 unfold Yk at h ⊢;rw [b1] at h ⊢;obtain ⟨a2,b2⟩:=key h fun h=>h
 rw [b2] at h ⊢;obtain ⟨a3,b3⟩:=key h fun h=>h
 rw [b3] at h ⊢;unfold sh1 at h ⊢;obtain ⟨a4,b4⟩:=key h fun _=>rfl
 rw [b4] at h ⊢;obtain ⟨a5,b5⟩:=key h fun _=>rfl
 rw [b5] at h ⊢;unfold sh2 at h ⊢;obtain ⟨a6,b6⟩:=key h fun h=>h
 rw [b6] at h ⊢;unfold sh3 at h ⊢;obtain ⟨a7,b7⟩:=key h fun h=>h
 rw [b7] at h ⊢;obtain ⟨a8,b8⟩:=key h fun _=>rfl
 rw [b8];refine ⟨⟨h1,a2,by simpa using a3,by simpa using a4,fun e=>by rw [e] at a5;simp at a5,?_,?_,by simpa using a1⟩,rfl⟩
 . exact aD (by simpa [rtE] using a6)
 show usR T q=(0,true);have e1:(usR T q).1=0:=by simpa using a7
 have e2:(usR T q).2=true:=by simpa using a8
 rw [<-e1,<-e2]
section
variable {T:List e8Sc} {q:Qy}
theorem ShOK.nd (h:ShOK T q):∀x∈F2 q.pattern,NdOK x:=Xi h.p
theorem ShOK.vl (h:ShOK T q):(Ls q.pattern).length=q.vars.length/\vrG T ((Ls q.pattern).map (·.2)) [] 0 q.vars=0:=by
 have hv:=h.v;unfold VrE at hv;split at hv
 . cases hv
 rename_i h1;exact ⟨by have h2:=h1;simp at h2;omega,hv⟩
theorem ShOK.va (h:ShOK T q):(K8 q.vars).Nodup/\∀(k:Nat) (v:Va),q.vars[k]? = some v->X7 v.name=true/\0<=v.type/\v.type<(T.length:Int)/\∃x,(Ls q.pattern)[k]? = some x/\x.1=(k:Int)/\x.2=v.type:=by
 have h1:=vrG_ok q.vars [] 0 h.vl.2 Uo;refine ⟨by simpa using h1.1,fun k v hk=>?_⟩;obtain ⟨a,b,c,d⟩:=h1.2 k v hk;have hl:k<(Ls q.pattern).length:=by rw [h.vl.1];exact (List.getElem?_eq_some_iff.1 hk).1
 have hx:=List.getElem?_eq_getElem hl;refine ⟨a,b,c,_,hx,dO h.p hx,?_⟩;rw [D2,List.getElem?_map,hx] at d;exact d
theorem ShOK.ts (h:ShOK T q):TsOK T:=xF h.t
theorem ShOK.rv (h:ShOK T q):RvOK T q.vars:=⟨h.ts.tl,h.ts.fl,by have:=zW h.p;have:=h.vl.1;omega,fun v hv=>by
 obtain ⟨k,hk⟩:=Gp.1 hv;have:=h.va.2 k v hk;exact ⟨this.2.1,this.2.2.1⟩⟩
theorem iX:∀(l:List Fi) (seen:List Ag),L4 seen l=0->seen.Nodup->(seen++l.map (·.name)).Nodup
  | [],seen,_,hn=>by simpa using hn
  | f::r,seen,h,hn=>by
    rw [L4] at h;split at h
    . rename_i h1;rw [h] at h1;cases h1
    . rename_i h1
      have h0:Jm seen f=0:=by simpa using h1
      have hc:f.name∉seen:=fun hm=>by
        have hm':seen.contains f.name=true:=by simpa using hm
        unfold Jm at h0;split at h0
        . cases h0
        first | cases h0 | (rw [if_pos hm'] at h0;cases h0)
      have:=iX r (seen ++ [f.name]) h (Mf.2 ⟨hn,by simp,fun a ha b hb=>by rw [Ft.1 hb];exact fun e=>hc (e▸ha)⟩);simpa using this
theorem nS {s:e8Sc}(h:N5 s=0):(s.fields.map (·.name)).Nodup:=by
 unfold N5 at h;split at h
 . cases h
 split at h
 . cases h
 simpa using iX s.fields [] h Uo
theorem ShOK.vr (h:ShOK T q):VrOK T q.vars:=⟨h.rv,h.va.1,fun s hs=>nS ((oG h.t).2.2 s hs)⟩
theorem ShOK.conds (h:ShOK T q):∀e∈Tv q.pattern++q.returns,CdOK T q.vars e:=by
  have hn:∀e∈Tv q.pattern++q.returns,Hg e=0:=fun e he=>by
    rcases Is.1 he with he | he
    . unfold Tv at he
      obtain ⟨x,hx,rfl⟩:=Cl.1 he;obtain ⟨hx1,hx2⟩:=Ka.1 hx;have hk:=h.nd x hx1;exact (Rp (hk.parts.2.2.1 (by rw [<-hk.flags.2];exact hx2))).2.2
    exact (Rp (h.e e he)).2.2
  have hu:=h.u;rw [wI hn] at hu;cases hk:(Tv q.pattern++q.returns).all (U0 T q.vars) with
  | false=>rw [hk] at hu;cases hu
  | true=>
    rw [hk,if_pos rfl] at hu;have h2:(tnB T q&&(Tv q.pattern++q.returns).all (Zi T q.vars))=true:=congrArg Prod.snd hu;rw [Cd] at h2;exact fun e he=>⟨hn e he,Fu.1 hk e he,Fu.1 h2.2 e he⟩
theorem ShOK.tn (h:ShOK T q):tnB T q=true:=by
  have hn:∀e∈Tv q.pattern++q.returns,Hg e=0:=fun e he=>(h.conds e he).n
  have hu:=h.u;rw [wI hn] at hu;cases hk:(Tv q.pattern++q.returns).all (U0 T q.vars) with
  | false=>rw [hk] at hu;cases hu
  | true=>
    rw [hk,if_pos rfl] at hu;have h2:(tnB T q&&(Tv q.pattern++q.returns).all (Zi T q.vars))=true:=congrArg Prod.snd hu;rw [Cd] at h2;exact h2.1
theorem ShOK.pt (h:ShOK T q):∀x∈F2 q.pattern,PtOK T q.vars x:=fun x hx=>⟨h.nd x hx,fun hc=>h.conds _ (List.mem_append_left _ (Cl.2 ⟨x,Ka.2 ⟨hx,hc⟩,rfl⟩)),fun ht=>by
 have hm:(x.var,x.type)∈Ls q.pattern:=Cl.2 ⟨x,Ka.2 ⟨hx,ht⟩,rfl⟩;obtain ⟨k,hk⟩:=Gp.1 hm;have hl:k<q.vars.length:=by rw [<-h.vl.1];exact (List.getElem?_eq_some_iff.1 hk).1
 obtain ⟨_,b,c,y,hy,_,e⟩:=h.va.2 k _ (List.getElem?_eq_getElem hl);rw [hk] at hy;cases hy
 simp only at e;omega⟩
theorem ShOK.dec (h:ShOK T q):L2 T [] (O2 (Nf T q.vars q.pattern))=(q.vars,Oe):=by
  rw [ev_back q.pattern h.nd];have hl:=h.vl.1;have hl2:((F2 q.pattern).filter M5).length=q.vars.length:=by rw [<-hl];unfold Ls;rw [Bt]
  have hat:∀(k:Nat) (x:Pt),((F2 q.pattern).filter M5)[k]? = some x->∃v:Va,q.vars[k]? = some v/\x.type=v.type/\x.var=(k:Int)/\0<=v.type/\v.type<(T.length:Int):=fun k x hx=>by
    have hlt:k<q.vars.length:=by rw [<-hl2];exact (List.getElem?_eq_some_iff.1 hx).1
    obtain ⟨_,b,c,y,hy,d,e⟩:=h.va.2 k _ (List.getElem?_eq_getElem hlt);have:(Ls q.pattern)[k]? = some (x.var,x.type):=by unfold Ls;rw [List.getElem?_map,hx];rfl
    rw [this] at hy;cases hy
    exact ⟨_,List.getElem?_eq_getElem hlt,e,d,b,c⟩
  have hmap:(((F2 q.pattern).filter M5).map (Uv T q.vars)).map (Oo T)=q.vars:=by
    rw [Kr];refine Ws fun k=>?_
    rw [List.getElem?_map];cases hx:((F2 q.pattern).filter M5)[k]? with
    | none=>
      have:=List.getElem?_eq_none_iff.1 hx;rw [List.getElem?_eq_none (by omega)];rfl
    | some x=>
      obtain ⟨v,hv,e1,e2,e3,e4⟩:=hat k x hx;rw [hv];show some (Oo T (Uv T q.vars x))=some v;unfold Oo;rw [(gN h.ts.nd (by omega) (by omega)).1,e1];have:(Uv T q.vars x).name=v.name:=by unfold Uv Ym;simp only;rw [e2,So,hv];rfl
      rw [this]
  rw [decS_ok _ [] (by rw [Bt,hl2,Bp,D2,<-hl];exact zW h.p) (fun e he=>by
    obtain ⟨x,hx,rfl⟩:=Cl.1 he;obtain ⟨k,hk⟩:=Gp.1 hx;obtain ⟨v,hv,e1,e2,e3,e4⟩:=hat k x hk;exact (gN h.ts.nd (by omega) (by omega)).2) (by
    have:(((F2 q.pattern).filter M5).map (Uv T q.vars)).map (·.name)=K8 q.vars:=by
      have e:K8 q.vars=((((F2 q.pattern).filter M5).map (Uv T q.vars)).map (Oo T)).map (·.name):=congrArg (fun V:List Va=>V.map (·.name)) hmap.symm;rw [e,Kr,Kr,Kr];rfl
    rw [this];simpa using h.va.1),hmap,C5]
theorem qG:Bi (qT T q) 1=Nf T q.vars q.pattern:=rfl
theorem qT_drop:(qT T q).kids.drop 2=q.returns.map (Ny T q.vars):=rfl
theorem q_back (h:ShOK T q)(hs:(Yk T q).1=(eV T q).1):Ec T (qT T q)=(q,Oe):=by
 have hd:=h.dec;have hvr:To T (qT T q)=q.vars:=by unfold To;rw [qG,hd]
 have hvf:vfR T (qT T q)=Oe:=by unfold vfR;rw [qG,hd]
 have hky:yF T (qT T q) q.vars=(q.key,true):=by
  have hk:=h.k;have e0:(Bi (qT T q) 0).text=(eV T q).1:=hs;unfold eV at hk e0;by_cases c1:((q.key.length:Int)==0)=true
  .
   rw [if_pos c1] at e0;rw [ky_no (by rw [e0];rfl)];have:q.key = []:=by simpa using c1
   rw [this]
  rw [if_neg c1] at hk e0;by_cases c2:((q.key.length:Int) != (T.length:Int))=true
  . rw [if_pos c2] at hk;cases hk
  rw [if_neg c2] at hk e0;by_cases c3:(decide (tP q<0)||decide (((kyF T q).length:Int)<=tP q))=true
  . rw [if_pos c3] at hk;cases hk
  rw [if_neg c3] at hk e0;have ho:kyO T q=true:=hk;unfold kyO at ho;rw [Cd,Cd] at ho
  have hne:((Bi (qT T q) 0).text != [])=true:=by
   rw [e0];have:=(gJ ho.2).1;simp only at *;cases hq:cQ T q with
   | nil=>rw [hq] at this;simp at this
   | cons a r=>rfl
  rw [pQ hne,e0];show Uy T q.vars (cQ T q)=_;have h1:=ho.1.1;have h2:(Uy T q.vars (cQ T q)).1=q.key:=by simpa using ho.1.2
  rw [<-h1,<-h2]
 have hvo:=h.vr
 have hw:(G4 T q.vars (qT T q)).err=0:=by
  rw [Ob (by rw [T7 (by show ¬((3:Int)=14\/(3:Int)=15\/(3:Int)=16);decide)];rfl),Ty]
  . rfl
  intro a ha;rcases Db.1 (show a∈(⟨4,(Yk T q).1,[],0,[],0⟩:Syn)::Nf T q.vars q.pattern::q.returns.map (Ny T q.vars) from ha) with rfl | ha
  . rw [Ob (by rw [T7 (by show ¬((4:Int)=14\/(4:Int)=15\/(4:Int)=16);decide)];rfl)];rfl
  rcases Db.1 ha with rfl | ha
  . exact pat_walk hvo q.pattern h.pt
  obtain ⟨x,hx,rfl⟩:=Cl.1 ha;have hc:=h.conds x (Up _ hx);exact oY hvo x hc.n hc.k
 have hpt:ptR T (qT T q) q.vars=q.pattern:=by
  unfold ptR;rw [qG,pt_back hvo h.ts.nd q.pattern h.pt _ (chk_num h.p)]
 have hex:∀x∈q.returns,F1 T q.vars (Ny T q.vars x)=x:=fun x hx=>by
  have hc:=h.conds x (Up _ hx);exact oX hvo x hc.n hc.k hc.m
 rw [qr_b (by rw [hvf];rfl),hvr,qr_c (by rw [hky];rfl),qr_d (by rw [hw];rfl),qr_e (by rw [hpt];exact h.p)];unfold QR4
 rw [qT_drop,Ty (fun a ha=>by
  obtain ⟨x,hx,rfl⟩:=Cl.1 ha;rw [rt_no (by rw [hex x hx,h.e x hx];rfl)];rfl)]
 show (qyR T (qT T q) q.vars,Oe)=(q,Oe);unfold qyR
 rw [hky,hpt,qT_drop,Kr,show List.map (F1 T q.vars ∘ Ny T q.vars) q.returns=q.returns from by
  conv=>rhs;rw [<-List.map_id q.returns]
  exact Qv fun x hx=>hex x hx]
 rfl
end
def fiT (f:Fi):Syn:=⟨2,f.name,[],f.kind,[],0⟩
def tyT (s:e8Sc):Syn:=⟨1,s.name,[],0,s.fields.map fiT,0⟩
def Mm (s:e8Sc):Bool:=X7 s.name&&s.fields.all fun f=>X7 f.name
def Iy (p:Pg):Syn:=⟨0,[],[],0,p.types.map tyT++p.queries.map (qT p.types),0⟩
def P4 (T:List e8Sc):List Ag->List Qy->Int
 | _,[]=>0
 | seen,q::r=>if ((Li T q).2 != 0) then (Li T q).2 else if seen.contains q.name then 7 else P4 T (seen ++ [q.name]) r
def src3 (p:Pg):Syn×Int:=if ((Bg (Iy p) (.only 0)).2 != 0) then (Gz,(Bg (Iy p) (.only 0)).2) else (Iy p,0)
def vY (p:Pg):Syn×Int:=if (P4 p.types [] p.queries != 0) then (Gz,P4 p.types [] p.queries) else src3 p
def src1 (p:Pg):Syn×Int:=if !(p.types.all Mm) then (Gz,8) else if decide ((16:Int)<(p.queries.length:Int)) then (Gz,5) else vY p
def Gc (p:Pg):Syn×Int:=if (Ef p.types != 0) then (Gz,Ef p.types) else src1 p
structure SrcOK (p:Pg):Prop where
 t:(Ef p.types != 0)=false
 b:p.types.all Mm=true
 l:p.queries.length<=16
 g:P4 p.types [] p.queries=0
 w:((Bg (Iy p) (.only 0)).2 != 0)=false
theorem src_ok {p:Pg}(h:((Gc p).2 != 0)=false):SrcOK p/\Gc p=(Iy p,0):=by
 have key:∀{c:Bool} {f:Int} {x:Syn×Int},((if c then (Gz,f) else x).2 != 0)=false->(c=true->(f != 0)=true)->c=false/\(if c then (Gz,f) else x)=x:=fun {c f x} h hf=>by
  cases c with
  | false=>exact ⟨rfl,rfl⟩
  | true=>rw [if_pos rfl] at h;rw [hf rfl] at h;cases h
 unfold Gc at h ⊢;obtain ⟨a1,b1⟩:=key h fun h=>h
 rw [b1] at h ⊢;unfold src1 at h ⊢;obtain ⟨a2,b2⟩:=key h fun _=>rfl
 rw [b2] at h ⊢;obtain ⟨a3,b3⟩:=key h fun _=>rfl
 rw [b3] at h ⊢;unfold vY at h ⊢;obtain ⟨a4,b4⟩:=key h fun h=>h
 rw [b4] at h ⊢;unfold src3 at h ⊢;obtain ⟨a5,b5⟩:=key h fun h=>h
 rw [b5];exact ⟨⟨a1,by simpa using a2,by have:=G3 a3;omega,by simpa using a4,a5⟩,rfl⟩
theorem qO {T:List e8Sc}{q:Qy}(h:((Li T q).2 != 0)=false):ShOK T q/\(Yk T q).1=(eV T q).1/\((Bg (qT T q) (.only 3)).2 != 0)=false/\Li T q=(qT T q,0):=by
 have key:∀{c:Bool} {f:Int} {x:Syn×Int},((if c then (Gz,f) else x).2 != 0)=false->(c=true->(f != 0)=true)->c=false/\(if c then (Gz,f) else x)=x:=fun {c f x} h hf=>by
  cases c with
  | false=>exact ⟨rfl,rfl⟩
  | true=>rw [if_pos rfl] at h;rw [hf rfl] at h;cases h
 unfold Li at h ⊢;obtain ⟨a1,b1⟩:=key h fun h=>h
 rw [b1] at h ⊢;obtain ⟨a2,b2⟩:=key h fun h=>h
 rw [b2] at h ⊢;obtain ⟨a3,b3⟩:=key h fun h=>h
 rw [b3];obtain ⟨s1,s2⟩:=sh_ok a1 a2;exact ⟨s1,by rw [s2],a3,rfl⟩
theorem qR {T:List e8Sc}:∀(l:List Qy) (seen:List Ag),P4 T seen l=0->seen.Nodup->(seen++l.map (·.name)).Nodup/\∀q∈l,((Li T q).2 != 0)=false
  | [],seen,_,hn=>⟨by simpa using hn,fun q h=>by cases h⟩
  | q::r,seen,h,hn=>by
    rw [P4] at h;split at h
    . rename_i h1;rw [h] at h1;cases h1
    . rename_i h1
      split at h
      . cases h
      . rename_i h2
        have hc:q.name∉seen:=by simpa using h2
        have ih:=qR r (seen ++ [q.name]) h (Mf.2 ⟨hn,by simp,fun a ha b hb=>by rw [Ft.1 hb];exact fun e=>hc (e▸ha)⟩);refine ⟨by simpa using ih.1,fun x hx=>?_⟩;rcases Db.1 hx with rfl | hx
        . simpa using h1
        exact ih.2 x hx
theorem sY:∀(l:List Fi) (fs:List Fi),fs.length+l.length<=8->(fs.map (·.name)++l.map (·.name)).Nodup->Hd fs (l.map fiT)=(fs++l,Oe)
  | [],fs,_,_=>by rw [A5,Hd,A8]
  | f::r,fs,h1,h2=>by
    have hc:(fs.map (·.name)).contains f.name=false:=by
      cases hq:(fs.map (·.name)).contains f.name with
      | false=>rfl
      | true=>
        rw [Mf] at h2;exact absurd rfl (h2.2.2 f.name (by simpa using hq) f.name (by simp))
    rw [Bb] at h1;rw [Ao,Hd,if_neg (by simp;omega),if_neg (by rw [show (fiT f).text=f.name from rfl,hc];decide)]
    refine (sY r (fs ++ [⟨f.name,f.kind⟩]) (by rw [Au,Hl];omega) (by
      rw [Dt,C1];simpa using h2)).trans ?_
    simp
theorem nV:∀(m:List Syn) (out:List e8Sc),(∀a∈m,a.kind≠1)->Gg out m=(out,Oe)
 | [],out,_=>rfl
 | k::r,out,h=>by rw [Gg,if_pos (by simpa using h k (by simp))];exact nV r out fun a ha=>h a (by simp [ha])
theorem wH:∀(l:List e8Sc) (out:List e8Sc) (m:List Syn),out.length+l.length<=16->(Jx out++Jx l).Nodup->(∀s∈l,N5 s=0)->Gg out (l.map tyT++m)=Gg (out++l) m
  | [],out,m,_,_,_=>by rw [A5,C5,A8]
  | s::r,out,m,h1,h2,h3=>by
    have hc:(Jx out).contains s.name=false:=by
      cases hq:(Jx out).contains s.name with
      | false=>rfl
      | true=>
        rw [Mf] at h2;exact absurd rfl (h2.2.2 s.name (by simpa using hq) s.name (by simp))
    rw [Bb] at h1
    have hf:Hd [] (tyT s).kids=(s.fields,Oe):=by
      have:=sY s.fields [] (by have:=qL (h3 s (by simp));simp;omega) (by simpa using nS (h3 s (by simp)));simpa [tyT] using this
    rw [Ao,Co,Gg,if_neg (by show ¬((1:Int) != 1)=true;decide),if_neg (by simp;omega),if_neg (by rw [show (tyT s).text=s.name from rfl,hc];decide),hf];rw [if_neg (show ¬(((s.fields,Oe):List Fi×Fa).2.err != 0)=true from (by decide:¬((0:Int) != 0)=true))]
    refine (wH r (out ++ [⟨s.name,s.fields⟩]) m (by rw [Au,Hl];omega) (by
      rw [show Jx (out ++ [⟨s.name,s.fields⟩])=Jx out ++ [s.name] by simp,C1];simpa using h2) fun x hx=>h3 x (by simp [hx])).trans ?_
    rw [C1];rfl
theorem kF {T:List e8Sc}:∀(l:List Syn) (qs:List Qy) (m:List Syn),(∀a∈l,a.kind≠3)->En T qs (l++m)=En T qs m
 | [],qs,m,_=>rfl
 | k::r,qs,m,h=>by rw [Co,En,if_pos (by simpa using h k (by simp))];exact kF r qs m fun a ha=>h a (by simp [ha])
theorem uW {T:List e8Sc}:∀(l:List Qy) (qs:List Qy),qs.length+l.length<=16->(qs.map (·.name)++l.map (·.name)).Nodup->(∀q∈l,((Li T q).2 != 0)=false)->En T qs (l.map (qT T))=(qs++l,Oe)
  | [],qs,_,_,_=>by rw [A5,En,A8]
  | q::r,qs,h1,h2,h3=>by
    have hc:(qs.map (·.name)).contains q.name=false:=by
      cases hq:(qs.map (·.name)).contains q.name with
      | false=>rfl
      | true=>
        rw [Mf] at h2;exact absurd rfl (h2.2.2 q.name (by simpa using hq) q.name (by simp))
    rw [Bb] at h1;obtain ⟨s1,s2,s3,s4⟩:=qO (h3 q (by simp));have hq:=q_back s1 s2;rw [Ao,En,if_neg (by show ¬((3:Int) != 3)=true;decide),if_neg (by simp;omega),if_neg (by rw [show (qT T q).text=q.name from rfl,hc];decide),hq,if_neg (show ¬(((q,Oe):Qy×Fa).2.err != 0)=true from (by decide:¬((0:Int) != 0)=true))];rw [uW r (qs ++ [q]) (by rw [Au,Hl];omega) (by rw [Dt,C1];simpa using h2) fun x hx=>h3 x (by simp [hx])];rw [C1];rfl
theorem p_back {p:Pg}(h:SrcOK p):bM (Iy p)=(p,0,0):=by
 obtain ⟨h1,h2,h3⟩:=oG h.t;obtain ⟨g1,g2⟩:=qR p.queries [] h.g Uo
 have ht:Ih (Iy p)=(p.types,Oe):=by
  unfold Ih;show Gg [] (p.types.map tyT++p.queries.map (qT p.types))=_;rw [wH p.types [] _ (by simpa using h1) (by simpa using h2) h3,C5];refine nV _ _ fun a ha=>?_
  obtain ⟨q,_,rfl⟩:=Cl.1 ha;show (3:Int)≠1;decide
 have hq:En p.types [] (Iy p).kids=(p.queries,Oe):=by
  show En p.types [] (p.types.map tyT++p.queries.map (qT p.types))=_
  rw [kF _ _ _ fun a ha=>by
   obtain ⟨s,_,rfl⟩:=Cl.1 ha;show (1:Int)≠3;decide]
  rw [uW p.queries [] (by have:=h.l;simpa using this) (by simpa using g1) g2,C5]
 have e1:(Ih (Iy p)).1=p.types:=by rw [ht]
 have:=pp_y (t:=Iy p) h.w (by rw [ht];rfl) (qs:=p.queries) (by rw [e1];exact hq);rw [this,e1]
theorem id_inj:∀a b:Ag,id a=id b->a=b:=fun a b h=>h
theorem zX_id (k:Int)(x:Ag):zX id k x=x:=by unfold zX;split <;> rfl
theorem zN_id (k:Int)(x:Ag):zN id k x=x:=by unfold zN;split <;> rfl
theorem zT_er:∀t:Syn,zT id (fun _=>0) t=Dy t:=by
  intro t
  induction t using Syn.ind with
  | h t ih=>
    rw [lJ,Fc,zX_id,zN_id];rw [show t.kids.map (zT id (fun _=>0))=t.kids.map Dy from Qv ih]
theorem zV_id (V:List Va):V.map (zV id)=V:=by
 conv=>rhs;rw [<-List.map_id V]
 exact Qv fun v _=>rfl
theorem rnQ_id (q:Qy):rnQ id q=q:=by unfold rnQ;rw [zV_id]
theorem erk (t:Syn):(Dy t).kind=t.kind:=by rw [Fc]
theorem ertx (t:Syn):(Dy t).text=t.text:=by rw [Fc]
theorem ernm (t:Syn):(Dy t).num=t.num:=by rw [Fc]
theorem erq {T:List e8Sc}{t:Syn}(ht:QryOK t):(Ec T (Dy t)).2.err=(Ec T t).2.err/\(Ec T (Dy t)).1=(Ec T t).1:=by
 have:=z_query (T:=T) (t:=t) (c:=fun _=>0) id_inj ht;rw [zT_er,rnQ_id] at this;exact this
theorem er_fld:∀(l:List Syn) (fs:List Fi),(Hd fs (l.map Dy)).1=(Hd fs l).1/\(Hd fs (l.map Dy)).2.err=(Hd fs l).2.err
  | [],fs=>⟨rfl,rfl⟩
  | x::r,fs=>by
    rw [Ao,Hd,Hd,ertx,ernm];split
    . exact ⟨rfl,rfl⟩
    . split
      . exact ⟨rfl,rfl⟩
      exact er_fld r _
theorem oS:∀(l:List Syn) (out:List e8Sc),(Gg out (l.map Dy)).1=(Gg out l).1/\(Gg out (l.map Dy)).2.err=(Gg out l).2.err
  | [],out=>⟨rfl,rfl⟩
  | k::r,out=>by
    have hf:=er_fld k.kids [];rw [Ao,Gg,Gg,erk,ertx,Ik,hf.1,hf.2];split
    . exact oS r out
    . split
      . exact ⟨rfl,rfl⟩
      . split
        . exact ⟨rfl,rfl⟩
        . split
          . exact ⟨rfl,hf.2⟩
          exact oS r _
theorem xR {T:List e8Sc}:∀(l:List Syn) (qs:List Qy),(∀a∈l,a.kind=3->QryOK a)->(En T qs (l.map Dy)).1=(En T qs l).1/\(En T qs (l.map Dy)).2.err=(En T qs l).2.err
  | [],qs,_=>⟨rfl,rfl⟩
  | k::r,qs,h=>by
    have ih:=fun qs=>xR (T:=T) r qs fun a ha=>h a (by simp [ha])
    rw [Ao,En,En,erk,ertx];split
    . exact ih qs
    . rename_i h3
      have hq:=erq (T:=T) (h k (by simp) (by simpa using h3));rw [hq.1,hq.2];split
      . exact ⟨rfl,rfl⟩
      . split
        . exact ⟨rfl,rfl⟩
        . split
          . exact ⟨rfl,hq.1⟩
          exact ih _
theorem Pe.as {u rest:Ag}{L M:List Tok}(h:Pe u L rest)(e:L=M):Pe u M rest:=e▸h
theorem kE (rest:Ag):Pe [44,32] [N8] rest:=(Pe.sign (by kernel_rfl) _).app (.space rest)
theorem pe_lbrace (rest:Ag):Pe [32,123] [tg Gt] rest:=(Pe.space _).app (Pe.sign (by kernel_rfl) rest)
theorem pe_rbrace (rest:Ag):Pe [125,10] [tg Fg] rest:=(Pe.sign (c:=125) (by kernel_rfl) _).app (.lf rest)
theorem pe_colon (rest:Ag):Pe [58,32] [tg H6] rest:=(Pe.sign (c:=58) (by kernel_rfl) _).app (.space rest)
theorem pe_semi (rest:Ag):Pe [59,10] [tg dS] rest:=(Pe.sign (c:=59) (by kernel_rfl) _).app (.lf rest)
theorem pe_lp (rest:Ag):Pe [40] [Kd] rest:=.lpar rest
theorem nO (rest:Ag):Pe [41] [Jt] rest:=Pe.sign (by kernel_rfl) rest
theorem pe_dot (rest:Ag):Pe [46] [tg Ir] rest:=Pe.sign (by kernel_rfl) rest
theorem sp (w:Ag):Ol (32::w):=Ug (by decide) (by decide)
theorem nl (w:Ag):Ol (10::w):=Ug (by decide) (by decide)
theorem lp (w:Ag):Ol (40::w):=Ug (by decide) (by decide)
theorem rp (w:Ag):Ol (41::w):=Ug (by decide) (by decide)
theorem cm (w:Ag):Ol (44::w):=Ug (by decide) (by decide)
def wordK:List Ag:=[Dj,C0,Oa,E4,Dw,Me,Gv,F7,G0,Ho,Ha,K9,Je,M6,dU,dT,Tl,X5,Yq,Yp,Yn,Sn,Ni,K5,K4,kZ,wO,F6]
theorem H5 {w rest:Ag}(h:w∈wordK)(hr:Ol rest):Pe w [tw w] rest:=by
 have key:wordK.all (fun w=>((Dx w).1.map erT == [tw w])&&((Dx w).2.2==0) && !(w.contains 35))=true:=by kernel_rfl
 rw [Fu] at key;have:=key w h;simp only [Cd,beq_iff_eq,A4,List.contains_eq_mem,It] at this;exact .const this.1.1 this.1.2 this.2 hr
theorem pe_itoa {n:Int}(h1 : -1099511627776<=n)(h2:n<=1099511627776){rest:Ag}(hr:Ol rest):Pe (Lib.itoa n) (cZ n) rest:=by
 unfold Lib.itoa cZ;split
 . exact (Pe.sign (c:=45) (by kernel_rfl) _).app (u:=[45]) (L:=[tg Oi]) (.dec (by omega) hr)
 exact .dec (by omega) hr
theorem aU:∀l:List Syn,(∀a∈l,∀rest,Ol rest->Pe (Ae a) (Af a) rest)->∀rest,Ol rest->Pe (D6 (l.map Ae)) (Hz (l.map Af)) rest
  | [],_,rest,_=>.nil rest
  | [a],h,rest,hr=>h a (by simp) rest hr
  | a::b::r,h,rest,hr=>by
    have ih:=aU (b::r) (fun x hx=>h x (F9 _ hx)) rest hr;exact ((h a (by simp) _ (cm _)).app (kE _)).app ih
theorem pe_flat:∀l:List Syn,(∀a∈l,∀rest,Pe (Ae a) (Af a) rest)->∀rest,Pe ((l.map Ae).flatten) ((l.map Af).flatten) rest
 | [],_,rest=>.nil rest
 | a::r,h,rest=>(h a (by simp) _).app (pe_flat r (fun x hx=>h x (F9 _ hx)) rest)
theorem qD {p t:Syn}(h:∀rest,Ol rest->Pe (Ae t) (Af t) rest){rest:Ag}(hr:Ol rest):Pe (Hk p t (Ae t)) (Gj p t (Af t)) rest:=by
 unfold Hk Gj;split
 . exact ((pe_lp _).app (h _ (rp _))).app (nO _)
 exact h _ hr
theorem H1 {t:Syn}(h:L8 t=true)(hk:(Nu t.kind).1=true)(h4:t.kind≠4):X7 t.text=true:=by
 unfold L8 at h;rw [hk] at h;have e:(t.kind != 4)=true:=by simpa using h4
 rw [e] at h;simp only [Gq,Bool.true_or,Dg,A4] at h;split at h
 . cases h
 rename_i h1;simpa using h1
theorem aN {t:Syn}(h:L8 t=true)(hk:(Nu t.kind).2=true)(h14:t.kind≠14):X7 t.name=true:=by
 unfold L8 at h;split at h
 . cases h
 rw [hk] at h;have e:(t.kind==14)=false:=by simpa using h14
 rw [e] at h;simpa using h
theorem nL {t:Syn}(h:L8 t=true)(hk:t.kind=14):X7 t.name=true\/t.name=F6:=by
 unfold L8 at h;split at h
 . cases h
 rw [hk] at h;have e:(Nu 14).2=true:=by decide
 rw [e] at h;simpa using h
def PT (t:Syn):Prop:=∀rest,Ol rest->Pe (Ae t) (Af t) rest
def PA (t:Syn):Prop:=∀rest,Pe (Ae t) (Af t) rest
section
variable {t:Syn} {p:Pl}
theorem pe_lit (h:Al t p=0)(hk:t.kind=13):PT t:=by
 obtain ⟨_,_,_,hf⟩:=Ct (Cq h).1;intro rest hr;rw [Fl,Cz];have e1:∀ws,Do t ws=U1 t:=fun ws=>by unfold Do;rw [hk];rfl
 have e2:∀ws,Eg t ws=pT t:=fun ws=>by unfold Eg;rw [hk];rfl
 rw [e1,e2];unfold Dl at hf;rw [hk] at hf
 replace hf:I3 t=0:=hf
 unfold I3 at hf;unfold U1 pT;split at hf
 .
  rename_i h1;rw [if_pos h1,if_pos h1];split at hf
  . cases hf
  rename_i h2;simp only [G1,Ck,not_or] at h2;exact pe_itoa (by omega) (by omega) hr
 rename_i h1;rw [if_neg h1,if_neg h1];split at hf
 .
  rename_i h2;rw [if_pos h2,if_pos h2];split
  . exact H5 (by decide) hr
  exact H5 (by decide) hr
 rename_i h2;rw [if_neg h2,if_neg h2];split at hf
 .
  split at hf
  . cases hf
  rename_i h3;simp only [Ck] at h3;unfold Sj;rw [if_neg (by simp only [Ck];exact h3)];exact Pe.quote (by omega) rest
 cases hf
theorem pe_ref (h:Al t p=0)(hk:t.kind=14):PT t:=by
 obtain ⟨_,_,hn,_⟩:=Ct (Cq h).1;intro rest hr;rw [Fl,Cz];have e1:∀ws,Do t ws=t.text ++ [46]++t.name:=fun ws=>by unfold Do;rw [hk];rfl
 have e2:∀ws,Eg t ws = [tw t.text] ++ [tg Ir] ++ [tw t.name]:=fun ws=>by unfold Eg;rw [hk];rfl
 rw [e1,e2];refine ((Pe.name (H1 hn (by rw [hk];rfl) (by omega)) (Ug (by decide) (by decide))).app (pe_dot _)).app ?_;rcases nL hn hk with h1 | h1
 . exact .name h1 hr
 rw [h1];exact H5 (by decide) hr
theorem pe_count (h:Al t p=0)(hk:t.kind=15):PT t:=by
 obtain ⟨_,_,hn,_⟩:=Ct (Cq h).1;intro rest hr;rw [Fl,Cz];have e1:∀ws,Do t ws=Gv ++ [40]++t.text ++ [41]:=fun ws=>by unfold Do;rw [hk];rfl
 have e2:∀ws,Eg t ws = [tw Gv] ++ [Kd] ++ [tw t.text] ++ [Jt]:=fun ws=>by unfold Eg;rw [hk];rfl
 rw [e1,e2];exact (((H5 (by decide) (lp _)).app (pe_lp _)).app (.name (H1 hn (by rw [hk];rfl) (by omega)) (rp _))).app (nO _)
theorem pe_field (h:Al t p=0)(hk:t.kind=2):PT t:=by
 obtain ⟨_,_,hn,hf⟩:=Ct (Cq h).1;intro rest hr;rw [Fl,Cz];have e1:∀ws,Do t ws=t.text ++ [58,32]++Im t.num:=fun ws=>by unfold Do;rw [hk];rfl
 have e2:∀ws,Eg t ws = [tw t.text] ++ [tg H6] ++ [tw (Im t.num)]:=fun ws=>by unfold Eg;rw [hk];rfl
 rw [e1,e2];refine ((Pe.name (H1 hn (by rw [hk];rfl) (by omega)) (Ug (by decide) (by decide))).app (pe_colon _)).app ?_;unfold Im;split
 . exact H5 (by decide) hr
 split
 . exact H5 (by decide) hr
 exact H5 (by decide) hr
theorem agg_word (n:Int):Nl n∈wordK:=by
 unfold Nl
 repeat' split
 all_goals decide
theorem call_word (n:Int):Fz n∈wordK:=by
 unfold Fz
 repeat' split
 all_goals decide
theorem pe_total (h:Al t p=0)(hk:t.kind=16)(ih:∀a∈t.kids,PT a):PT t:=by
  obtain ⟨_,hs,hn,hf⟩:=Ct (Cq h).1;intro rest hr;rw [Fl,Cz];have e1:∀ws,Do t ws=Nl t.num ++ [40]++t.text ++ [46]++t.name++(if ws == [] then [] else [44,32]++ws.getD 0 []) ++ [41]:=fun ws=>by unfold Do;rw [hk];rfl
  have e2:∀ws,Eg t ws = [tw (Nl t.num)] ++ [Kd] ++ [tw t.text] ++ [tg Ir] ++ [tw t.name]++(if ws == [] then [] else [N8]++ws.getD 0 []) ++ [Jt]:=fun ws=>by unfold Eg;rw [hk];rfl
  rw [e1,e2]
  have e3:∀rest:Ag,Pe (Nl t.num ++ [40]++t.text ++ [46]) ([tw (Nl t.num)] ++ [Kd] ++ [tw t.text] ++ [tg Ir]) rest:=fun rest=>
    (((H5 (agg_word _) (lp _)).app (pe_lp _)).app (.name (H1 hn (by rw [hk];rfl) (by omega)) (Ug (by decide) (by decide)))).app (pe_dot rest)
  have n2:=aN hn (by rw [hk];rfl) (by omega)
  match hq:t.kids with
  | []=>exact (((e3 _).app (.name n2 (rp _))).app (.nil _)).app (nO rest)
  | a::r=>
    have ha:=ih a (by rw [hq];simp);exact (((e3 _).app (.name n2 (cm _))).app ((kE _).app (ha _ (rp _)))).app (nO rest)
theorem pe_event (h:Al t p=0)(hk:t.kind=5)(ih:∀a∈t.kids,PT a):PT t:=by
  obtain ⟨_,hs,hn,hf⟩:=Ct (Cq h).1;intro rest hr;rw [Fl,Cz];have e1:∀ws,Do t ws=t.text ++ [32]++t.name++(if ws == [] then [] else [32]++Me ++ [32]++ws.getD 0 []):=fun ws=>by unfold Do;rw [hk];rfl
  have e2:∀ws,Eg t ws = [tw t.text] ++ [] ++ [tw t.name]++(if ws == [] then [] else [tw Me]++ws.getD 0 []):=fun ws=>by unfold Eg;rw [hk];rfl
  rw [e1,e2];have n1:=H1 hn (by rw [hk];rfl) (by omega);have n2:=aN hn (by rw [hk];rfl) (by omega)
  match hq:t.kids with
  | []=>exact (((Pe.name n1 (sp _)).app (.space _)).app (.name n2 hr)).app (.nil rest)
  | a::r=>
    have ha:=ih a (by rw [hq];simp);have e4:Pe ([32]++Me ++ [32]++Ae a) ([tw Me]++Af a) rest:=((((Pe.space _).app (H5 (w:=Me) (by decide) (sp _))).app (.space _)).app (ha _ hr)).as (by simp);exact (((Pe.name n1 (sp _)).app (.space _)).app (.name n2 (sp _))).app e4
theorem pe_bin (h:Al t p=0)(hk:t.kind=17)(ih:∀a∈t.kids,PT a):PT t:=by
 obtain ⟨_,hs,hn,hf⟩:=Ct (Cq h).1;intro rest hr;rw [Fl,Cz];have e1:∀ws,Do t ws=Hk t (Bi t 0) (ws.getD 0 []) ++ [32]++Mk t.num ++ [32]++Hk t (Bi t 1) (ws.getD 1 []):=fun ws=>by unfold Do;rw [hk];rfl
 have e2:∀ws,Eg t ws=Gj t (Bi t 0) (ws.getD 0 []) ++ [] ++ [Em t.num] ++ []++Gj t (Bi t 1) (ws.getD 1 []):=fun ws=>by unfold Eg;rw [hk];rfl
 rw [e1,e2];unfold Dn at hs;rw [hk] at hs
 replace hs:((t.kids.length:Int)==2)=true:=hs
 obtain ⟨a,b,hq⟩:=Vk (by simpa using hs);have ha:=ih a (by rw [hq];simp);have hb:=ih b (by rw [hq];simp);have k0:Bi t 0=a:=by unfold Bi;rw [hq];rfl
 have k1:Bi t 1=b:=by unfold Bi;rw [hq];rfl
 rw [k0,k1,hq]
 have eo:∀w:Ag,Pe (Mk t.num) [Em t.num] (32::w):=fun w=>by
  rcases fZ hf hk with h | h | h | h | h | h | h <;> rw [h] <;> exact Pe.const (by kernel_rfl) (by kernel_rfl) (by decide) (sp _)
 exact ((((qD ha (sp _)).app (.space _)).app (eo _)).app (.space _)).app (qD hb hr)
theorem pe_not (h:Al t p=0)(hk:t.kind=18)(ih:∀a∈t.kids,PT a):PT t:=by
 obtain ⟨_,hs,hn,hf⟩:=Ct (Cq h).1;intro rest hr;rw [Fl,Cz];have e1:∀ws,Do t ws=F7 ++ [32]++Hk t (Bi t 0) (ws.getD 0 []):=fun ws=>by unfold Do;rw [hk];rfl
 have e2:∀ws,Eg t ws = [tw F7] ++ []++Gj t (Bi t 0) (ws.getD 0 []):=fun ws=>by unfold Eg;rw [hk];rfl
 rw [e1,e2];unfold Dn at hs;rw [hk] at hs
 replace hs:((t.kids.length:Int)==1)=true:=hs
 obtain ⟨a,hq⟩:=Td (by simpa using hs);have ha:=ih a (by rw [hq];simp);have k0:Bi t 0=a:=by unfold Bi;rw [hq];rfl
 rw [k0,hq];exact ((H5 (by decide) (sp _)).app (.space _)).app (qD ha hr)
theorem pe_call (h:Al t p=0)(hk:6<=t.kind/\t.kind<=12)(ih:∀a∈t.kids,PT a):PT t:=by
 obtain ⟨_,hs,hn,hf⟩:=Ct (Cq h).1;intro rest hr;rw [Fl,Cz];have no:∀k:Int,k<6\/12<k->¬(t.kind==k)=true:=fun k h=>by simp only [beq_iff_eq];omega
 have e1:∀ws,Do t ws=Fz t.kind ++ [40]++D6 ws++(if (t.kind==11) then [44,32]++Lib.itoa t.num else []) ++ [41]:=fun ws=>by
  unfold Do;rw [if_neg (no 0 (by omega)),if_neg (no 1 (by omega)),if_neg (no 2 (by omega)),if_neg (no 3 (by omega)),if_neg (no 5 (by omega)),if_neg (no 13 (by omega)),if_neg (no 14 (by omega)),if_neg (no 15 (by omega)),if_neg (no 16 (by omega)),if_neg (no 17 (by omega)),if_neg (no 18 (by omega))]
 have e2:∀ws,Eg t ws = [tw (Fz t.kind)] ++ [Kd]++Hz ws++(if (t.kind==11) then [N8]++cZ t.num else []) ++ [Jt]:=fun ws=>by
  unfold Eg;rw [if_neg (no 0 (by omega)),if_neg (no 1 (by omega)),if_neg (no 2 (by omega)),if_neg (no 3 (by omega)),if_neg (no 5 (by omega)),if_neg (no 13 (by omega)),if_neg (no 14 (by omega)),if_neg (no 15 (by omega)),if_neg (no 16 (by omega)),if_neg (no 17 (by omega)),if_neg (no 18 (by omega))]
 rw [e1,e2];have e3:∀rest,Pe (Fz t.kind ++ [40]) ([tw (Fz t.kind)] ++ [Kd]) rest:=fun rest=>(H5 (call_word _) (lp _)).app (pe_lp rest)
 by_cases h11:t.kind=11
 .
  rw [if_pos (by simpa using h11),if_pos (by simpa using h11)];unfold Dl Mz at hf;rw [h11] at hf
  have hf2:(decide (t.num<0)||decide (1099511627776<t.num))=false:=by
   cases hq:(decide (t.num<0)||decide (1099511627776<t.num)) with
   | false=>rfl
   | true=>rw [hq] at hf;cases hf
  simp only [Eb,It] at hf2;exact ((((e3 _).app (aU t.kids ih _ (cm _))).app ((kE _).app (pe_itoa (by omega) (by omega) (rp _)))).app (nO rest))
 rw [if_neg (by simpa using h11),if_neg (by simpa using h11)];exact (((e3 _).app (aU t.kids ih _ (rp _))).app (.nil _)).app (nO rest)
theorem pe_type (h:Al t p=0)(hk:t.kind=1)(ih:∀a∈t.kids,PT a):PA t:=by
  obtain ⟨_,hs,hn,hf⟩:=Ct (Cq h).1;intro rest;rw [Fl,Cz];have e1:∀ws,Do t ws=Dj ++ [32]++t.text ++ [32,123]++(if ws == [] then [] else [32]++D6 ws ++ [32]) ++ [125,10]:=fun ws=>by unfold Do;rw [hk];rfl
  have e2:∀ws,Eg t ws = [tw Dj] ++ [] ++ [tw t.text] ++ [tg Gt]++Hz ws ++ [tg Fg]:=fun ws=>by unfold Eg;rw [hk];rfl
  rw [e1,e2]
  have e3:∀rest,Pe (Dj ++ [32]++t.text ++ [32,123]) ([tw Dj] ++ [] ++ [tw t.text] ++ [tg Gt]) rest:=fun rest=>
    (((H5 (by decide) (sp _)).app (.space _)).app (.name (H1 hn (by rw [hk];rfl) (by omega)) (sp _))).app (pe_lbrace rest)
  refine ((e3 _).app ?_).app (pe_rbrace rest)
  match hq:t.kids with
  | []=>exact .nil _
  | a::r=>
    have:=aU t.kids ih ([32]++([125,10]++rest)) (sp _);rw [hq] at this;exact (((Pe.space _).app this).app (.space _)).as (by simp)
theorem pe_query (h:Al t p=0)(hk:t.kind=3)(ih:∀(j:Nat) a,1<=j->t.kids[j]? = some a->PT a):PA t:=by
  obtain ⟨_,hs,hn,hf⟩:=Ct (Cq h).1;intro rest;rw [Fl,Cz];have e1:∀ws,Do t ws=C0 ++ [32]++t.text++(if (Bi t 0).text == [] then [] else [32]++Oa ++ [32]++(Bi t 0).text) ++ [10]++E4 ++ [32]++ws.getD 1 [] ++ [10]++Dw ++ [32]++D6 (ws.drop 2) ++ [59,10]:=fun ws=>by unfold Do;rw [hk];rfl
  have e2:∀ws,Eg t ws = [tw C0] ++ [] ++ [tw t.text]++(if (Bi t 0).text == [] then [] else [tw Oa] ++ [tw (Bi t 0).text]) ++ [] ++ [tw E4] ++ []++ws.getD 1 [] ++ [] ++ [tw Dw] ++ []++Hz (ws.drop 2) ++ [tg dS]:=fun ws=>by unfold Eg;rw [hk];rfl
  rw [e1,e2];unfold Dn at hs;rw [hk] at hs
  replace hs:decide (3<=(t.kids.length:Int))=true:=hs
  simp only [Ck] at hs
  match hq:t.kids with
  | []=>rw [hq] at hs;simp at hs
  | [a]=>rw [hq] at hs;simp at hs
  | a::b::r=>
    have k0:Bi t 0=a:=by unfold Bi;rw [hq];rfl
    rw [k0];obtain ⟨ca,pa⟩:=Ei h (j:=0) (a:=a) (by rw [hq];rfl)
    have hka:a.kind=4:=Fx (n:=4) (by
      have:Dm t 0 = .only 4:=by unfold Dm;rw [hk];rfl
      rw [this] at pa;exact pa)
    have na:=(Ct (Cq ca).1).2.2.1;have hb:=ih 1 b (Br _) (by rw [hq];rfl)
    have hr:∀x∈r,PT x:=fun x hx=>by
      obtain ⟨j,hj⟩:=Gp.1 hx;exact ih (j+2) x (by omega) (by rw [hq];simpa using hj)
    have n1:=H1 hn (by rw [hk];rfl) (by omega)
    have e3:∀rest,Pe (C0 ++ [32]++t.text++(if a.text == [] then [] else [32]++Oa ++ [32]++a.text) ++ [10]) ([tw C0] ++ [] ++ [tw t.text]++(if a.text == [] then [] else [tw Oa] ++ [tw a.text]) ++ []) rest:=fun rest=>by
      split
      . exact ((((H5 (by decide) (sp _)).app (.space _)).app (.name n1 (nl _))).app (.nil _)).app (.lf rest)
      . rename_i h1
        have n2:X7 a.text=true:=by
          unfold L8 at na;rw [hka] at na;have e5:(!(a.text == []))=true:=by rw [A4];simpa using h1
          rw [e5] at na;simp only [M7,Dg] at na;cases hq2:X7 a.text with
          | true=>rfl
          | false=>rw [hq2] at na;cases na
        have e4:Pe ([32]++Oa ++ [32]++a.text) ([tw Oa] ++ [tw a.text]) ([10]++rest):=((((Pe.space _).app (H5 (w:=Oa) (by decide) (sp _))).app (.space _)).app (.name n2 (nl _))).as rfl;exact ((((H5 (by decide) (sp _)).app (.space _)).app (.name n1 (sp _))).app e4).app (.lf rest)
    exact (((((((((e3 _).app (H5 (by decide) (sp _))).app (.space _)).app (hb _ (nl _))).app (.lf _)).app (H5 (by decide) (sp _))).app (.space _)).app (aU r hr _ (Ug (by decide) (by decide)))).app (pe_semi rest))
end
theorem pe_all (t:Syn):∀p,Al t p=0->1<=t.kind->t.kind<=18->t.kind≠4->PT t/\(t.kind=1\/t.kind=3->PA t):=by
 refine Syn.ind (P:=fun t=>∀p,Al t p=0->1<=t.kind->t.kind<=18->t.kind≠4->PT t/\(t.kind=1\/t.kind=3->PA t)) (fun t ih p h h1 h2 h4=>?_) t
 have kid:∀(j:Nat) a,t.kids[j]? = some a->a.kind≠4->PT a:=fun j a ha h4=>by
  obtain ⟨c,k⟩:=Ei h ha;have kk:=tJ k;exact (ih a (Aj ha) _ c kk.1 kk.2 h4).1
 have kid':t.kind≠3->∀a∈t.kids,PT a:=fun h3 a ha=>by
  obtain ⟨j,hj⟩:=Gp.1 ha;refine kid j a hj ?_;obtain ⟨c,k⟩:=Ei h hj;unfold Dm at k;rw [if_neg (show ¬(t.kind==3)=true by simpa using h3)] at k
  repeat' split at k
  all_goals first | (have:=Fx k;omega) | (have:=N2 k;omega) | (have:=Zl k;omega)
 have all:PA t->PT t/\(t.kind=1\/t.kind=3->PA t):=fun h=>⟨fun rest _=>h rest,fun _=>h⟩
 have one:t.kind≠1->t.kind≠3->PT t->PT t/\(t.kind=1\/t.kind=3->PA t):=fun a b h=>⟨h,fun e=>by omega⟩
 by_cases k1:t.kind=1
 . exact all (pe_type h k1 (kid' (by omega)))
 by_cases k3:t.kind=3
 .
  refine all (pe_query h k3 fun j a hj ha=>kid j a ha ?_);obtain ⟨c,k⟩:=Ei h ha;unfold Dm at k;rw [k3] at k;have e:((j:Int)==0)=false:=by simp;omega
  simp only [e] at k
  replace k:(if ((j:Int)==1)=true then Pl.pats else Pl.exps).at a.kind=true:=k
  split at k
  . have:=Zl k;omega
  have:=N2 k;omega
 refine one k1 k3 ?_;by_cases k2:t.kind=2
 . exact pe_field h k2
 by_cases k5:t.kind=5
 . exact pe_event h k5 (kid' k3)
 by_cases k13:t.kind=13
 . exact pe_lit h k13
 by_cases k14:t.kind=14
 . exact pe_ref h k14
 by_cases k15:t.kind=15
 . exact pe_count h k15
 by_cases k16:t.kind=16
 . exact pe_total h k16 (kid' k3)
 by_cases k17:t.kind=17
 . exact pe_bin h k17 (kid' k3)
 by_cases k18:t.kind=18
 . exact pe_not h k18 (kid' k3)
 exact pe_call h (by omega) (kid' k3)
def wt (t:Tok):Nat:=70+5*t.text.length
def pot:List Tok->Nat->Nat
 | [],_=>0
 | _::_,0=>0
 | t::r,n+1=>wt t+pot r n
def pt (st:PS):Nat:=pot st.toks st.pos
variable {l:List Tok} {e d:Int} {a b st:PS} {w:Ag}
variable {l:List Tok} {e d:Int} {a b st:PS} {w:Ag} {p:Pl}
variable {l:List Tok} {e d:Int} {a b st:PS} {w:Ag} {p:Pl}
variable {l:List Tok} {e d:Int} {a b st:PS} {w:Ag} {p:Pl}
end Go.Proofs.YtckhoadldibflaaGreatDoor
