/-
  Several texts in one: R60, Q2, R61, R1w, R2w, R3w, R4w, R5w, R6w, At, R7w, EW1. No condition.
-/
import Derived.Test.YtibcelnfkhdjaaaGreatDoorK06
import Derived.Test.YtibcelnfkhdjaaaGreatDoorK03
import Derived.Test.YtibcelnfkhdjaaaGreatDoorK02
import Derived.KernelRfl
import Derived.Test.YtibcelnfkhdjaaaGreatDoorK04
import Derived.Test.YtibcelnfkhdjaaaGreatDoorK01
import Derived.Test.YtibcelnfkhdjaaaGreatDoorTab
set_option linter.unusedVariables false
set_option linter.unusedSimpArgs false
set_option maxHeartbeats 6400000
set_option maxRecDepth 100000
namespace Go.Proofs.YtibcelnfkhdjaaaGreatDoor
open Go Go.Aw
def oG (c:Syn):Bool:=((c.kind==13)&&(c.name==Gg))&&(c.num==1)
def stN (t:Syn)(ks:List Syn):Syn:=⟨t.kind,t.text,t.name,t.num,if (t.kind==5)&&ks.any oG then [] else ks,0⟩
mutual
def Ft:Syn->Syn
 | ⟨k,x,n,m,kids,p⟩=>stN ⟨k,x,n,m,kids,p⟩ (stL kids)
def stL:List Syn->List Syn
 | []=>[]
 | x::r=>Ft x::stL r
end
theorem stL_map:∀l:List Syn,stL l=l.map Ft
 | []=>by rw [stL,A0]
 | x::r=>by rw [stL,stL_map r,Ao]
theorem Iu (t:Syn):Ft t=stN t (t.kids.map Ft):=by cases t;rw [Ft,stL_map]
theorem st_tr (c:Syn):oG (Ft c)=oG c:=by rw [Iu];rfl
theorem Zl (c:Syn):(Ft c).kind=c.kind:=by rw [Iu];rfl
theorem X0 {t:Syn}(h:t.kind≠5)(ks:List Syn):stN t ks=⟨t.kind,t.text,t.name,t.num,ks,0⟩:=by
 unfold stN;rw [show (t.kind==5)=false by simpa using h];rfl
theorem bB {a b:Syn}(h1:a.kind=b.kind)(h2:a.text=b.text)(h3:a.name=b.name)(h4:a.num=b.num)(h5:a.kids=b.kids)(h6:a.pos=b.pos):a=b:=by
 cases a;cases b;simp_all
theorem F2 {t:Syn}(hf:C9 t=0)(hk:t.kind≠13):((Ku t.kind).1=false->t.text = [])/\((Ku t.kind).2=false->t.name = []):=by
 unfold C9 at hf;rw [if_neg (by simpa using hk)] at hf;split at hf
 . rename_i h1;rw [hf] at h1;cases h1
 split at hf
 . cases hf
 rename_i h2;have h3:((!(Ku t.kind).1 && !(t.text == []))||(!(Ku t.kind).2 && !(t.name == [])))=false:=by simpa using h2
 rw [Ey] at h3;exact ⟨fun h=>by have h4:=h3.1;rw [h] at h4;simpa using h4,fun h=>by have h4:=h3.2;rw [h] at h4;simpa using h4⟩
theorem Uk {t:Syn}(hs:Ct t=true)(hk:t.kind=13\/t.kind=14\/t.kind=15\/t.kind=2\/t.kind=4):t.kids = []:=by
 unfold Ct at hs;rcases hk with hk | hk | hk | hk | hk <;> (rw [hk] at hs;exact bG (by simpa using hs))
theorem rW {t:Syn}(hf:C9 t=0)(hk:t.kind=13):iJ (Wr t)=⟨13,t.text,t.name,t.num,[],0⟩:=by
 unfold C9 at hf;rw [if_pos (by simpa using hk)] at hf;unfold I8 at hf;unfold iJ Wr;by_cases h1:t.name=Ig
 .
  rw [h1] at hf ⊢;rw [if_pos (by rfl)] at hf;split at hf
  . cases hf
  split at hf
  . cases hf
  rename_i h3;have:t.text = []:=by simpa using h3
  rw [this];rfl
 by_cases h2:t.name=Gg
 .
  rw [h2] at hf ⊢;rw [if_neg (by decide),if_pos (by rfl)] at hf;split at hf
  . cases hf
  split at hf
  . cases hf
  rename_i h3;have:t.text = []:=by simpa using h3
  rw [this];rfl
 by_cases h3:t.name=Ha
 .
  rw [h3] at hf ⊢;rw [if_neg (by decide),if_neg (by decide),if_pos (by rfl)] at hf;split at hf
  . cases hf
  split at hf
  . cases hf
  rename_i h4;have:t.num=0:=by simpa using h4
  rw [this];rfl
 rw [if_neg (by simpa using h1),if_neg (by simpa using h2),if_neg (by simpa using h3)] at hf;cases hf
theorem sX {l:List Ac}{x:Ac}(h:x∈l):l[l.idxOf x]? = some x:=by
  induction l with
  | nil=>cases h
  | cons a r ih=>
    rw [List.idxOf_cons];by_cases he:a=x
    . rw [show (a==x)=true by simpa using he,he];rfl
    . rw [show (a==x)=false by simpa using he]
      exact ih ((Cu.1 h).resolve_left fun e=>he e.symm)
section
variable {T:List e8Sc} {V:List Va}
theorem vn_fwd {x:Ac}(h:(H5 V).contains x=true):gB V (Js (H5 V) x)=x:=by
 have h1:=sX (List.contains_iff_mem.1 h);rw [List.getElem?_map] at h1;obtain ⟨va,h2,h3⟩:=Sn.1 h1;unfold gB Js;rw [if_pos h,Ma,h2];exact h3
theorem lD {s:e8Sc}{n:Ac}(h:0<=Ei s n):((s.fields[(Ei s n).toNat]?).getD fi0).name=n:=by
  unfold Ei Tx at h ⊢;cases hc:(s.fields.map (·.name)).contains n with
  | false=>rw [hc,if_neg (by decide)] at h;exact absurd h (by decide)
  | true=>
    have h1:=sX (List.contains_iff_mem.1 hc);rw [List.getElem?_map] at h1;obtain ⟨va,h2,h3⟩:=Sn.1 h1;rw [if_pos rfl,Ma,h2];exact h3
theorem tn_fwd {x:Ac}(h:(H4 T).contains x=true):((T[(Js (H4 T) x).toNat]?).getD Zt).name=x:=by
 have h1:=sX (List.contains_iff_mem.1 h);rw [List.getElem?_map] at h1;obtain ⟨va,h2,h3⟩:=Sn.1 h1;unfold Js;rw [if_pos h,Ma,h2];exact h3
theorem ex_fwd:∀t:Syn,Ag t .exps=0->(Fr T V t).err=0->Pa T V (Dv T V t)=Ft t:=by
  intro t
  induction t using Syn.ind with
  | h t ih=>
    intro hc hw;obtain ⟨o1,o2,o3,o4⟩:=Bz (Bx hc).1;have hr:=L6 o1;obtain ⟨hl,hwk⟩:=Gr hw;have h6:t.kind=13\/t.kind=14\/t.kind=15\/t.kind=16\/t.kind=17\/t.kind=18:=by omega
    rw [Hg,Iu,X0 (by omega)];rcases h6 with hk | hk | hk | hk | hk | hk
    . have h0:=Uk o2 (.inl hk)
      rw [cN (by rw [hk];rfl),Lj];unfold shN;rw [if_pos (by rfl),rW o4 hk,hk,h0];rfl
    . have h0:=Uk o2 (.inr (.inl hk))
      have hn0:=E5 o4 (by omega);have hv:=vn_fwd (M3 hl (.inl hk));by_cases ht:(t.name==Ej)=true
      . rw [jD (by rw [hk];rfl) (by rw [hk];rfl) ht,Lj]
        unfold shN;rw [if_neg (by simp),if_neg (by simp),if_pos (by rfl)];simp only;rw [hv,hk,h0,hn0,eq_of_beq ht];rfl
      . have ht':(t.name==Ej)=false:=by simpa using ht
        have hf:=Vj hl (.inl hk) fun e=>by rw [e.2] at ht';simp at ht'
        have hfn:pY T V (Js (H5 V) t.text) (Ei (Qt T V (Js (H5 V) t.text)) t.name)=t.name:=lD hf;rw [jE (by rw [hk];rfl) (by rw [hk];rfl) ht' rfl,Lj];unfold shN;rw [if_neg (by simp),if_pos (by rfl)];simp only;rw [hv,hfn,hk,h0,hn0];rfl
    . have h0:=Uk o2 (.inr (.inr (.inl hk)))
      have hn0:=E5 o4 (by omega);have hnm:=(F2 o4 (by omega)).2 (by rw [hk];rfl);have hv:=vn_fwd (M3 hl (.inr (.inl hk)));rw [jF (by rw [hk];rfl) (by rw [hk];rfl) (by rw [hk];rfl),Lj];unfold shN;rw [if_neg (by simp),if_neg (by simp),if_neg (by simp),if_pos (by rfl)];simp only;rw [hv,hk,h0,hn0,hnm];rfl
    . have hv:=vn_fwd (M3 hl (.inr (.inr hk)))
      have hf:=Vj hl (.inr hk) fun e=>by omega
      have hfn:pY T V (Js (H5 V) t.text) (Ei (Qt T V (Js (H5 V) t.text)) t.name)=t.name:=lD hf;have hs:=o2;unfold Ct at hs;rw [hk] at hs;by_cases h1:t.num=1
      . have h0:t.kids = []:=by
          rw [h1] at hs;exact bG (by simpa using hs)
        rw [jH (by rw [hk];rfl) (by rw [hk];rfl) (by rw [hk];rfl) (by rw [hk];rfl) rfl (by rw [h0];rfl),Lj];unfold shN;rw [if_neg (by simp),if_neg (by simp),if_neg (by simp),if_neg (by simp),if_pos (by rfl)];simp only;rw [hv,hfn,hk,h0,h1];rfl
      . have hl1:t.kids.length=1:=by
          have h7:(t.kids.length:Int)=1:=by simpa [h1] using hs
          omega
        obtain ⟨a,ha⟩:∃a,t.kids = [a]:=List.length_eq_one_iff.1 hl1;have hak:Aq t 0=a:=by unfold Aq;rw [ha];rfl
        have hkc:=Dl hc (j:=0) (a:=a) (by rw [ha];rfl);have e13:Cr t 0 = .only 13:=by unfold Cr;rw [hk];rfl
        rw [e13] at hkc;have ho:=Bz (Bx hkc.1).1;have hka:a.kind=13:=Dz ho.1
        have hsa:Ft a=⟨13,a.text,a.name,a.num,[],0⟩:=by
          rw [Iu,X0 (by omega),Uk ho.2.1 (.inl hka),hka];rfl
        rw [jG (by rw [hk];rfl) (by rw [hk];rfl) (by rw [hk];rfl) (by rw [hk];rfl) rfl (by rw [ha];rfl),Lj];unfold shN;rw [if_neg (by simp),if_neg (by simp),if_neg (by simp),if_neg (by simp),if_pos (by rfl)];simp only;rw [if_pos (by simpa using h1),hv,hfn,hak,rW ho.2.2.2 hka,ha,Ao,A0,hsa,hk]
    . have htx:=(F2 o4 (by omega)).1 (by rw [hk];rfl)
      have hnm:=(F2 o4 (by omega)).2 (by rw [hk];rfl);have hb:=U4 o4 hk
      have hka:(t.kids.map (Dv T V)).map (Pa T V)=t.kids.map Ft:=by
        rw [Hd];refine Kw fun a ha=>?_
        obtain ⟨j,hj⟩:=Fh.1 ha;exact ih a ha (iY hc (.inl hk) hj) (hwk a ha)
      rw [jJ (by rw [hk];rfl) (by rw [hk];rfl) (by rw [hk];rfl) (by rw [hk];rfl) (by rw [hk];rfl),Lj];unfold shN;rw [if_neg (by simp;omega),if_neg (by simp;omega),if_neg (by simp;omega),if_neg (by simp;omega),if_neg (by simp;omega),if_neg (by simp;omega)];simp only;rw [hka,hk,htx,hnm]
    . have htx:=(F2 o4 (by omega)).1 (by rw [hk];rfl)
      have hnm:=(F2 o4 (by omega)).2 (by rw [hk];rfl);have hn0:=E5 o4 (by omega)
      have hka:(t.kids.map (Dv T V)).map (Pa T V)=t.kids.map Ft:=by
        rw [Hd];refine Kw fun a ha=>?_
        obtain ⟨j,hj⟩:=Fh.1 ha;exact ih a ha (iY hc (.inr hk) hj) (hwk a ha)
      rw [jI (by rw [hk];rfl) (by rw [hk];rfl) (by rw [hk];rfl) (by rw [hk];rfl) (by rw [hk];rfl),Lj];unfold shN;rw [if_neg (by simp),if_neg (by simp),if_neg (by simp),if_neg (by simp),if_neg (by simp),if_pos (by rfl)];simp only;rw [hka,hk,htx,hnm,hn0]
theorem tr_iff {c:Syn}(hc:Ag c .exps=0):Dv T V c=Jp↔oG c=true:=by
 obtain ⟨o1,o2,o3,o4⟩:=Bz (Bx hc).1;have hr:=L6 o1;by_cases hk:c.kind=13
 .
  rw [Hg,cN (by rw [hk];rfl)];have h1:=rW o4 hk;unfold oG;rw [hk]
  constructor
  .
   intro h;have hv:Wr c=⟨1,1,[]⟩:=congrArg (·.val) h;rw [hv] at h1;have e1:c.name=Gg:=(congrArg (·.name) h1).symm;have e2:c.num=1:=(congrArg (·.num) h1).symm;rw [e1,e2];rfl
  intro h;have h2:c.name=Gg/\c.num=1:=by simpa using h
  have hv:Wr c=⟨1,1,[]⟩:=by
   unfold Wr;rw [h2.1,h2.2];rfl
  rw [hv];rfl
 have h0:oG c=false:=by
  unfold oG;rw [show (c.kind==13)=false by simpa using hk];rfl
 rw [h0];refine ⟨fun h=>?_,fun h=>by cases h⟩;exfalso;have hop:(Dv T V c).op=0:=by rw [h];rfl
 rw [Hg] at hop;unfold Ml at hop;rw [if_neg (by simpa using hk)] at hop;split at hop
 . split at hop <;> cases hop
 split at hop
 . cases hop
 split at hop
 . cases hop
 split at hop
 . cases hop
 rename_i h14 h15 h16 h18;simp only [beq_iff_eq] at h14 h15 h16 h18;have hb:=U4 o4 (by omega);have hop':c.num=0:=hop;omega
theorem ev_fwd {e:Syn}{pl:Pl}(h5:e.kind=5)(hc:Ag e pl=0)(hw:(Fr T V e).err=0){p:Pt}(hp:p.type=Js (H4 T) e.text)(ht:(H4 T).contains e.text=true)(hv:gB V p.var=e.name)(hcd:p.cond=Iv T V e):Wm T V p=Ft e:=by
  obtain ⟨o1,o2,o3,o4⟩:=Bz (Bx hc).1;have hn0:=E5 o4 (by omega);obtain ⟨hl,hwk⟩:=Gr hw;unfold Wm;rw [hp,tn_fwd ht,hv,hcd,Iu];unfold stN;rw [h5,hn0];have hs:=o2;unfold Ct at hs;rw [h5] at hs
  have hl1:e.kids.length<=1:=by
    have h7:(e.kids.length:Int)<=1:=by simpa using hs
    omega
  cases hks:e.kids with
  | nil=>
    have hcr:Iv T V e=Jp:=by unfold Iv;rw [hks];rfl
    rw [hcr,show Fx Jp Jp=true from (Qq _ _).2 rfl];rfl
  | cons a r=>
    have hr0:r = []:=by
      rw [hks,A8] at hl1;exact bG (by omega)
    subst hr0;have ha:a∈e.kids:=by rw [hks];simp
    have hkc:=(Dl hc (j:=0) (a:=a) (by rw [hks];rfl)).1;have eC:Cr e 0 = .exps:=by unfold Cr;rw [h5];rfl
    rw [eC] at hkc
    have hcr:Iv T V e=Dv T V a:=by
      unfold Iv Aq;rw [hks];rfl
    rw [hcr,ex_fwd a hkc (hwk a ha),Ao,A0];show _=(⟨5,e.text,e.name,0,if ((5:Int)==5) && [Ft a].any oG then [] else [Ft a],0⟩:Syn);rw [O5,List.any_nil,st_tr,Sl];cases hi:oG a with
    | true=>
      rw [(tr_iff hkc).2 hi,show Fx Jp Jp=true from (Qq _ _).2 rfl];rfl
    | false=>
      have hne:Fx (Dv T V a) Jp=false:=by
        cases hq:Fx (Dv T V a) Jp with
        | false=>rfl
        | true=>
          have:=(tr_iff hkc).1 ((Qq _ _).1 hq);rw [hi] at this;cases this
      rw [hne];rfl
end
theorem Pe.as {u rest:Ac}{L M:List Tok}(h:Pe u L rest)(e:L=M):Pe u M rest:=e▸h
theorem mO (rest:Ac):Pe [44,32] [O0] rest:=(Pe.sign (by kernel_rfl) _).app (.space rest)
theorem pe_lbrace (rest:Ac):Pe [32,123] [tg Em] rest:=(Pe.space _).app (Pe.sign (by kernel_rfl) rest)
theorem pe_rbrace (rest:Ac):Pe [125,10] [tg En] rest:=(Pe.sign (c:=125) (by kernel_rfl) _).app (.lf rest)
theorem pe_colon (rest:Ac):Pe [58,32] [tg G9] rest:=(Pe.sign (c:=58) (by kernel_rfl) _).app (.space rest)
theorem pe_semi (rest:Ac):Pe [59,10] [tg X2] rest:=(Pe.sign (c:=59) (by kernel_rfl) _).app (.lf rest)
theorem pe_lp (rest:Ac):Pe [40] [Kz] rest:=.lpar rest
theorem qO (rest:Ac):Pe [41] [Kd] rest:=Pe.sign (by kernel_rfl) rest
theorem pe_dot (rest:Ac):Pe [46] [tg Hx] rest:=Pe.sign (by kernel_rfl) rest
theorem sp (w:Ac):Ph (32::w):=Vx (by decide) (by decide)
theorem nl (w:Ac):Ph (10::w):=Vx (by decide) (by decide)
theorem lp (w:Ac):Ph (40::w):=Vx (by decide) (by decide)
theorem rp (w:Ac):Ph (41::w):=Vx (by decide) (by decide)
theorem cm (w:Ac):Ph (44::w):=Vx (by decide) (by decide)
def wordK:List Ac:=[B6,B5,O2,Dx,Dc,Lv,Hj,Gq,Ig,Gg,Ha,L4,Jx,N5,gE,gD,Ux,Zn,Z8,Z7,Z6,T0,Oc,Lx,Lw,nR,Aaf,Ej]
theorem In {w rest:Ac}(h:w∈wordK)(hr:Ph rest):Pe w [tw w] rest:=by
 have key:wordK.all (fun w=>((Cy w).1.map erT == [tw w])&&((Cy w).2.2==0) && !(w.contains 35))=true:=by kernel_rfl
 rw [F3] at key;have:=key w h;simp only [Ce,beq_iff_eq,A2,List.contains_eq_mem,Jh] at this;exact .const this.1.1 this.1.2 this.2 hr
theorem pe_itoa {n:Int}(h1 : -1099511627776<=n)(h2:n<=1099511627776){rest:Ac}(hr:Ph rest):Pe (Lib.itoa n) (fI n) rest:=by
 unfold Lib.itoa fI;split
 . exact (Pe.sign (c:=45) (by kernel_rfl) _).app (u:=[45]) (L:=[tg Pc]) (.dec (by omega) hr)
 exact .dec (by omega) hr
theorem cZ:∀l:List Syn,(∀a∈l,∀rest,Ph rest->Pe (Ad a) (Ae a) rest)->∀rest,Ph rest->Pe (D8 (l.map Ad)) (Il (l.map Ae)) rest
  | [],_,rest,_=>.nil rest
  | [a],h,rest,hr=>h a (by simp) rest hr
  | a::b::r,h,rest,hr=>by
    have ih:=cZ (b::r) (fun x hx=>h x (Gs _ hx)) rest hr;exact ((h a (by simp) _ (cm _)).app (mO _)).app ih
theorem pe_flat:∀l:List Syn,(∀a∈l,∀rest,Pe (Ad a) (Ae a) rest)->∀rest,Pe ((l.map Ad).flatten) ((l.map Ae).flatten) rest
 | [],_,rest=>.nil rest
 | a::r,h,rest=>(h a (by simp) _).app (pe_flat r (fun x hx=>h x (Gs _ hx)) rest)
theorem tR {p t:Syn}(h:∀rest,Ph rest->Pe (Ad t) (Ae t) rest){rest:Ac}(hr:Ph rest):Pe (Hy p t (Ad t)) (Hb p t (Ae t)) rest:=by
 unfold Hy Hb;split
 . exact ((pe_lp _).app (h _ (rp _))).app (qO _)
 exact h _ hr
theorem Gf {t:Syn}(h:Li t=true)(hk:(Ku t.kind).1=true)(h4:t.kind≠4):Ru t.text=true:=by
 unfold Li at h;rw [hk] at h;have e:(t.kind != 4)=true:=by simpa using h4
 rw [e] at h;simp only [Gu,Bool.true_or,Dt,A2] at h;split at h
 . cases h
 rename_i h1;simpa using h1
theorem Un {t:Syn}(h:Li t=true)(hk:(Ku t.kind).2=true)(h14:t.kind≠14):Ru t.name=true:=by
 unfold Li at h;split at h
 . cases h
 rw [hk] at h;have e:(t.kind==14)=false:=by simpa using h14
 rw [e] at h;simpa using h
theorem fF {t:Syn}(h:Li t=true)(hk:t.kind=14):Ru t.name=true\/t.name=Ej:=by
 unfold Li at h;split at h
 . cases h
 rw [hk] at h;have e:(Ku 14).2=true:=by decide
 rw [e] at h;simpa using h
def PT (t:Syn):Prop:=∀rest,Ph rest->Pe (Ad t) (Ae t) rest
def PA (t:Syn):Prop:=∀rest,Pe (Ad t) (Ae t) rest
section
variable {t:Syn} {p:Pl}
theorem pe_lit (h:Ag t p=0)(hk:t.kind=13):PT t:=by
 obtain ⟨_,_,_,hf⟩:=Bz (Bx h).1;intro rest hr;rw [Ew,C3];have e1:∀ws,Dn t ws=aN t:=fun ws=>by unfold Dn;rw [hk];rfl
 have e2:∀ws,E3 t ws=tG t:=fun ws=>by unfold E3;rw [hk];rfl
 rw [e1,e2];unfold C9 at hf;rw [hk] at hf
 replace hf:I8 t=0:=hf
 unfold I8 at hf;unfold aN tG;split at hf
 .
  rename_i h1;rw [if_pos h1,if_pos h1];split at hf
  . cases hf
  rename_i h2;simp only [Hm,Cb,not_or] at h2;exact pe_itoa (by omega) (by omega) hr
 rename_i h1;rw [if_neg h1,if_neg h1];split at hf
 .
  rename_i h2;rw [if_pos h2,if_pos h2];split
  . exact In (by decide) hr
  exact In (by decide) hr
 rename_i h2;rw [if_neg h2,if_neg h2];split at hf
 .
  split at hf
  . cases hf
  rename_i h3;simp only [Cb] at h3;unfold Rz;rw [if_neg (by simp only [Cb];exact h3)];exact Pe.quote (by omega) rest
 cases hf
theorem pe_ref (h:Ag t p=0)(hk:t.kind=14):PT t:=by
 obtain ⟨_,_,hn,_⟩:=Bz (Bx h).1;intro rest hr;rw [Ew,C3];have e1:∀ws,Dn t ws=t.text ++ [46]++t.name:=fun ws=>by unfold Dn;rw [hk];rfl
 have e2:∀ws,E3 t ws = [tw t.text] ++ [tg Hx] ++ [tw t.name]:=fun ws=>by unfold E3;rw [hk];rfl
 rw [e1,e2];refine ((Pe.name (Gf hn (by rw [hk];rfl) (by omega)) (Vx (by decide) (by decide))).app (pe_dot _)).app ?_;rcases fF hn hk with h1 | h1
 . exact .name h1 hr
 rw [h1];exact In (by decide) hr
theorem pe_count (h:Ag t p=0)(hk:t.kind=15):PT t:=by
 obtain ⟨_,_,hn,_⟩:=Bz (Bx h).1;intro rest hr;rw [Ew,C3];have e1:∀ws,Dn t ws=Hj ++ [40]++t.text ++ [41]:=fun ws=>by unfold Dn;rw [hk];rfl
 have e2:∀ws,E3 t ws = [tw Hj] ++ [Kz] ++ [tw t.text] ++ [Kd]:=fun ws=>by unfold E3;rw [hk];rfl
 rw [e1,e2];exact (((In (by decide) (lp _)).app (pe_lp _)).app (.name (Gf hn (by rw [hk];rfl) (by omega)) (rp _))).app (qO _)
theorem pe_field (h:Ag t p=0)(hk:t.kind=2):PT t:=by
 obtain ⟨_,_,hn,hf⟩:=Bz (Bx h).1;intro rest hr;rw [Ew,C3];have e1:∀ws,Dn t ws=t.text ++ [58,32]++Kp t.num:=fun ws=>by unfold Dn;rw [hk];rfl
 have e2:∀ws,E3 t ws = [tw t.text] ++ [tg G9] ++ [tw (Kp t.num)]:=fun ws=>by unfold E3;rw [hk];rfl
 rw [e1,e2];refine ((Pe.name (Gf hn (by rw [hk];rfl) (by omega)) (Vx (by decide) (by decide))).app (pe_colon _)).app ?_;unfold Kp;split
 . exact In (by decide) hr
 split
 . exact In (by decide) hr
 exact In (by decide) hr
theorem agg_word (n:Int):Og n∈wordK:=by
 unfold Og
 repeat' split
 all_goals decide
theorem call_word (n:Int):Hf n∈wordK:=by
 unfold Hf
 repeat' split
 all_goals decide
theorem pe_total (h:Ag t p=0)(hk:t.kind=16)(ih:∀a∈t.kids,PT a):PT t:=by
  obtain ⟨_,hs,hn,hf⟩:=Bz (Bx h).1;intro rest hr;rw [Ew,C3];have e1:∀ws,Dn t ws=Og t.num ++ [40]++t.text ++ [46]++t.name++(if ws == [] then [] else [44,32]++ws.getD 0 []) ++ [41]:=fun ws=>by unfold Dn;rw [hk];rfl
  have e2:∀ws,E3 t ws = [tw (Og t.num)] ++ [Kz] ++ [tw t.text] ++ [tg Hx] ++ [tw t.name]++(if ws == [] then [] else [O0]++ws.getD 0 []) ++ [Kd]:=fun ws=>by unfold E3;rw [hk];rfl
  rw [e1,e2]
  have e3:∀rest:Ac,Pe (Og t.num ++ [40]++t.text ++ [46]) ([tw (Og t.num)] ++ [Kz] ++ [tw t.text] ++ [tg Hx]) rest:=fun rest=>
    (((In (agg_word _) (lp _)).app (pe_lp _)).app (.name (Gf hn (by rw [hk];rfl) (by omega)) (Vx (by decide) (by decide)))).app (pe_dot rest)
  have n2:=Un hn (by rw [hk];rfl) (by omega)
  match hq:t.kids with
  | []=>exact (((e3 _).app (.name n2 (rp _))).app (.nil _)).app (qO rest)
  | a::r=>
    have ha:=ih a (by rw [hq];simp);exact (((e3 _).app (.name n2 (cm _))).app ((mO _).app (ha _ (rp _)))).app (qO rest)
theorem pe_event (h:Ag t p=0)(hk:t.kind=5)(ih:∀a∈t.kids,PT a):PT t:=by
  obtain ⟨_,hs,hn,hf⟩:=Bz (Bx h).1;intro rest hr;rw [Ew,C3];have e1:∀ws,Dn t ws=t.text ++ [32]++t.name++(if ws == [] then [] else [32]++Lv ++ [32]++ws.getD 0 []):=fun ws=>by unfold Dn;rw [hk];rfl
  have e2:∀ws,E3 t ws = [tw t.text] ++ [] ++ [tw t.name]++(if ws == [] then [] else [tw Lv]++ws.getD 0 []):=fun ws=>by unfold E3;rw [hk];rfl
  rw [e1,e2];have n1:=Gf hn (by rw [hk];rfl) (by omega);have n2:=Un hn (by rw [hk];rfl) (by omega)
  match hq:t.kids with
  | []=>exact (((Pe.name n1 (sp _)).app (.space _)).app (.name n2 hr)).app (.nil rest)
  | a::r=>
    have ha:=ih a (by rw [hq];simp);have e4:Pe ([32]++Lv ++ [32]++Ad a) ([tw Lv]++Ae a) rest:=((((Pe.space _).app (In (w:=Lv) (by decide) (sp _))).app (.space _)).app (ha _ hr)).as (by simp);exact (((Pe.name n1 (sp _)).app (.space _)).app (.name n2 (sp _))).app e4
theorem pe_bin (h:Ag t p=0)(hk:t.kind=17)(ih:∀a∈t.kids,PT a):PT t:=by
 obtain ⟨_,hs,hn,hf⟩:=Bz (Bx h).1;intro rest hr;rw [Ew,C3];have e1:∀ws,Dn t ws=Hy t (Aq t 0) (ws.getD 0 []) ++ [32]++Tc t.num ++ [32]++Hy t (Aq t 1) (ws.getD 1 []):=fun ws=>by unfold Dn;rw [hk];rfl
 have e2:∀ws,E3 t ws=Hb t (Aq t 0) (ws.getD 0 []) ++ [] ++ [E9 t.num] ++ []++Hb t (Aq t 1) (ws.getD 1 []):=fun ws=>by unfold E3;rw [hk];rfl
 rw [e1,e2];unfold Ct at hs;rw [hk] at hs
 replace hs:((t.kids.length:Int)==2)=true:=hs
 obtain ⟨a,b,hq⟩:=Xi (by simpa using hs);have ha:=ih a (by rw [hq];simp);have hb:=ih b (by rw [hq];simp);have k0:Aq t 0=a:=by unfold Aq;rw [hq];rfl
 have k1:Aq t 1=b:=by unfold Aq;rw [hq];rfl
 rw [k0,k1,hq]
 have eo:∀w:Ac,Pe (Tc t.num) [E9 t.num] (32::w):=fun w=>by
  rcases U4 hf hk with h | h | h | h | h | h | h <;> rw [h] <;> exact Pe.const (by kernel_rfl) (by kernel_rfl) (by decide) (sp _)
 exact ((((tR ha (sp _)).app (.space _)).app (eo _)).app (.space _)).app (tR hb hr)
theorem pe_not (h:Ag t p=0)(hk:t.kind=18)(ih:∀a∈t.kids,PT a):PT t:=by
 obtain ⟨_,hs,hn,hf⟩:=Bz (Bx h).1;intro rest hr;rw [Ew,C3];have e1:∀ws,Dn t ws=Gq ++ [32]++Hy t (Aq t 0) (ws.getD 0 []):=fun ws=>by unfold Dn;rw [hk];rfl
 have e2:∀ws,E3 t ws = [tw Gq] ++ []++Hb t (Aq t 0) (ws.getD 0 []):=fun ws=>by unfold E3;rw [hk];rfl
 rw [e1,e2];unfold Ct at hs;rw [hk] at hs
 replace hs:((t.kids.length:Int)==1)=true:=hs
 obtain ⟨a,hq⟩:=Uj (by simpa using hs);have ha:=ih a (by rw [hq];simp);have k0:Aq t 0=a:=by unfold Aq;rw [hq];rfl
 rw [k0,hq];exact ((In (by decide) (sp _)).app (.space _)).app (tR ha hr)
theorem pe_call (h:Ag t p=0)(hk:6<=t.kind/\t.kind<=12)(ih:∀a∈t.kids,PT a):PT t:=by
 obtain ⟨_,hs,hn,hf⟩:=Bz (Bx h).1;intro rest hr;rw [Ew,C3];have no:∀k:Int,k<6\/12<k->¬(t.kind==k)=true:=fun k h=>by simp only [beq_iff_eq];omega
 have e1:∀ws,Dn t ws=Hf t.kind ++ [40]++D8 ws++(if (t.kind==11) then [44,32]++Lib.itoa t.num else []) ++ [41]:=fun ws=>by
  unfold Dn;rw [if_neg (no 0 (by omega)),if_neg (no 1 (by omega)),if_neg (no 2 (by omega)),if_neg (no 3 (by omega)),if_neg (no 5 (by omega)),if_neg (no 13 (by omega)),if_neg (no 14 (by omega)),if_neg (no 15 (by omega)),if_neg (no 16 (by omega)),if_neg (no 17 (by omega)),if_neg (no 18 (by omega))]
 have e2:∀ws,E3 t ws = [tw (Hf t.kind)] ++ [Kz]++Il ws++(if (t.kind==11) then [O0]++fI t.num else []) ++ [Kd]:=fun ws=>by
  unfold E3;rw [if_neg (no 0 (by omega)),if_neg (no 1 (by omega)),if_neg (no 2 (by omega)),if_neg (no 3 (by omega)),if_neg (no 5 (by omega)),if_neg (no 13 (by omega)),if_neg (no 14 (by omega)),if_neg (no 15 (by omega)),if_neg (no 16 (by omega)),if_neg (no 17 (by omega)),if_neg (no 18 (by omega))]
 rw [e1,e2];have e3:∀rest,Pe (Hf t.kind ++ [40]) ([tw (Hf t.kind)] ++ [Kz]) rest:=fun rest=>(In (call_word _) (lp _)).app (pe_lp rest)
 by_cases h11:t.kind=11
 .
  rw [if_pos (by simpa using h11),if_pos (by simpa using h11)];unfold C9 Ns at hf;rw [h11] at hf
  have hf2:(decide (t.num<0)||decide (1099511627776<t.num))=false:=by
   cases hq:(decide (t.num<0)||decide (1099511627776<t.num)) with
   | false=>rfl
   | true=>rw [hq] at hf;cases hf
  simp only [Ey,Jh] at hf2;exact ((((e3 _).app (cZ t.kids ih _ (cm _))).app ((mO _).app (pe_itoa (by omega) (by omega) (rp _)))).app (qO rest))
 rw [if_neg (by simpa using h11),if_neg (by simpa using h11)];exact (((e3 _).app (cZ t.kids ih _ (rp _))).app (.nil _)).app (qO rest)
theorem pe_type (h:Ag t p=0)(hk:t.kind=1)(ih:∀a∈t.kids,PT a):PA t:=by
  obtain ⟨_,hs,hn,hf⟩:=Bz (Bx h).1;intro rest;rw [Ew,C3];have e1:∀ws,Dn t ws=B6 ++ [32]++t.text ++ [32,123]++(if ws == [] then [] else [32]++D8 ws ++ [32]) ++ [125,10]:=fun ws=>by unfold Dn;rw [hk];rfl
  have e2:∀ws,E3 t ws = [tw B6] ++ [] ++ [tw t.text] ++ [tg Em]++Il ws ++ [tg En]:=fun ws=>by unfold E3;rw [hk];rfl
  rw [e1,e2]
  have e3:∀rest,Pe (B6 ++ [32]++t.text ++ [32,123]) ([tw B6] ++ [] ++ [tw t.text] ++ [tg Em]) rest:=fun rest=>
    (((In (by decide) (sp _)).app (.space _)).app (.name (Gf hn (by rw [hk];rfl) (by omega)) (sp _))).app (pe_lbrace rest)
  refine ((e3 _).app ?_).app (pe_rbrace rest)
  match hq:t.kids with
  | []=>exact .nil _
  | a::r=>
    have:=cZ t.kids ih ([32]++([125,10]++rest)) (sp _);rw [hq] at this;exact (((Pe.space _).app this).app (.space _)).as (by simp)
theorem pe_query (h:Ag t p=0)(hk:t.kind=3)(ih:∀(j:Nat) a,1<=j->t.kids[j]? = some a->PT a):PA t:=by
  obtain ⟨_,hs,hn,hf⟩:=Bz (Bx h).1;intro rest;rw [Ew,C3];have e1:∀ws,Dn t ws=B5 ++ [32]++t.text++(if (Aq t 0).text == [] then [] else [32]++O2 ++ [32]++(Aq t 0).text) ++ [10]++Dx ++ [32]++ws.getD 1 [] ++ [10]++Dc ++ [32]++D8 (ws.drop 2) ++ [59,10]:=fun ws=>by unfold Dn;rw [hk];rfl
  have e2:∀ws,E3 t ws = [tw B5] ++ [] ++ [tw t.text]++(if (Aq t 0).text == [] then [] else [tw O2] ++ [tw (Aq t 0).text]) ++ [] ++ [tw Dx] ++ []++ws.getD 1 [] ++ [] ++ [tw Dc] ++ []++Il (ws.drop 2) ++ [tg X2]:=fun ws=>by unfold E3;rw [hk];rfl
  rw [e1,e2];unfold Ct at hs;rw [hk] at hs
  replace hs:decide (3<=(t.kids.length:Int))=true:=hs
  simp only [Cb] at hs
  match hq:t.kids with
  | []=>rw [hq] at hs;simp at hs
  | [a]=>rw [hq] at hs;simp at hs
  | a::b::r=>
    have k0:Aq t 0=a:=by unfold Aq;rw [hq];rfl
    rw [k0];obtain ⟨ca,pa⟩:=Dl h (j:=0) (a:=a) (by rw [hq];rfl)
    have hka:a.kind=4:=Dz (n:=4) (by
      have:Cr t 0 = .only 4:=by unfold Cr;rw [hk];rfl
      rw [this] at pa;exact pa)
    have na:=(Bz (Bx ca).1).2.2.1;have hb:=ih 1 b (Be _) (by rw [hq];rfl)
    have hr:∀x∈r,PT x:=fun x hx=>by
      obtain ⟨j,hj⟩:=Fh.1 hx;exact ih (j+2) x (by omega) (by rw [hq];simpa using hj)
    have n1:=Gf hn (by rw [hk];rfl) (by omega)
    have e3:∀rest,Pe (B5 ++ [32]++t.text++(if a.text == [] then [] else [32]++O2 ++ [32]++a.text) ++ [10]) ([tw B5] ++ [] ++ [tw t.text]++(if a.text == [] then [] else [tw O2] ++ [tw a.text]) ++ []) rest:=fun rest=>by
      split
      . exact ((((In (by decide) (sp _)).app (.space _)).app (.name n1 (nl _))).app (.nil _)).app (.lf rest)
      . rename_i h1
        have n2:Ru a.text=true:=by
          unfold Li at na;rw [hka] at na;have e5:(!(a.text == []))=true:=by rw [A2];simpa using h1
          rw [e5] at na;simp only [T4,Dt] at na;cases hq2:Ru a.text with
          | true=>rfl
          | false=>rw [hq2] at na;cases na
        have e4:Pe ([32]++O2 ++ [32]++a.text) ([tw O2] ++ [tw a.text]) ([10]++rest):=((((Pe.space _).app (In (w:=O2) (by decide) (sp _))).app (.space _)).app (.name n2 (nl _))).as rfl;exact ((((In (by decide) (sp _)).app (.space _)).app (.name n1 (sp _))).app e4).app (.lf rest)
    exact (((((((((e3 _).app (In (by decide) (sp _))).app (.space _)).app (hb _ (nl _))).app (.lf _)).app (In (by decide) (sp _))).app (.space _)).app (cZ r hr _ (Vx (by decide) (by decide)))).app (pe_semi rest))
end
theorem pe_all (t:Syn):∀p,Ag t p=0->1<=t.kind->t.kind<=18->t.kind≠4->PT t/\(t.kind=1\/t.kind=3->PA t):=by
 refine Syn.ind (P:=fun t=>∀p,Ag t p=0->1<=t.kind->t.kind<=18->t.kind≠4->PT t/\(t.kind=1\/t.kind=3->PA t)) (fun t ih p h h1 h2 h4=>?_) t
 have kid:∀(j:Nat) a,t.kids[j]? = some a->a.kind≠4->PT a:=fun j a ha h4=>by
  obtain ⟨c,k⟩:=Dl h ha;have kk:=wV k;exact (ih a (Ak ha) _ c kk.1 kk.2 h4).1
 have kid':t.kind≠3->∀a∈t.kids,PT a:=fun h3 a ha=>by
  obtain ⟨j,hj⟩:=Fh.1 ha;refine kid j a hj ?_;obtain ⟨c,k⟩:=Dl h hj;unfold Cr at k;rw [if_neg (show ¬(t.kind==3)=true by simpa using h3)] at k
  repeat' split at k
  all_goals first | (have:=Dz k;omega) | (have:=L6 k;omega) | (have:=aR k;omega)
 have all:PA t->PT t/\(t.kind=1\/t.kind=3->PA t):=fun h=>⟨fun rest _=>h rest,fun _=>h⟩
 have one:t.kind≠1->t.kind≠3->PT t->PT t/\(t.kind=1\/t.kind=3->PA t):=fun a b h=>⟨h,fun e=>by omega⟩
 by_cases k1:t.kind=1
 . exact all (pe_type h k1 (kid' (by omega)))
 by_cases k3:t.kind=3
 .
  refine all (pe_query h k3 fun j a hj ha=>kid j a ha ?_);obtain ⟨c,k⟩:=Dl h ha;unfold Cr at k;rw [k3] at k;have e:((j:Int)==0)=false:=by simp;omega
  simp only [e] at k
  replace k:(if ((j:Int)==1)=true then Pl.pats else Pl.exps).at a.kind=true:=k
  split at k
  . have:=aR k;omega
  have:=L6 k;omega
 refine one k1 k3 ?_;by_cases k2:t.kind=2
 . exact pe_field h k2
 by_cases k5:t.kind=5
 . exact pe_event h k5 (kid' k3)
 by_cases k13:t.kind=13
 . exact pe_lit h k13
 by_cases k14:t.kind=14
 . exact pe_ref h k14
 by_cases k15:t.kind=15
 . exact pe_count h k15
 by_cases k16:t.kind=16
 . exact pe_total h k16 (kid' k3)
 by_cases k17:t.kind=17
 . exact pe_bin h k17 (kid' k3)
 by_cases k18:t.kind=18
 . exact pe_not h k18 (kid' k3)
 exact pe_call h (by omega) (kid' k3)
section
variable {T:List e8Sc} {V:List Va}
def EvAt (T:List e8Sc)(V:List Va)(l:List Syn)(n:Int):Prop:=∀(i:Nat) (e:Syn),l[i]? = some e->gB V (n+i)=e.name/\(H4 T).contains e.text=true
theorem wB {l m:List Syn}{n:Int}(h:EvAt T V (l++m) n):EvAt T V l n/\EvAt T V m (n+l.length):=by
 refine ⟨fun i e he=>h i e ?_,fun i e he=>?_⟩
 . rw [List.getElem?_append_left (List.getElem?_eq_some_iff.1 he).1];exact he
 have:=h (l.length+i) e (by rw [List.getElem?_append_right (by omega),Nat.add_sub_cancel_left];exact he);rw [Int.natCast_add,<-Int.add_assoc] at this;exact this
def evO (t:Syn):List Syn:=if (t.kind==5) then [t] else if (t.kind==10) then [Aq t 1] else []
theorem kS (t:Syn):Lb t=evO t++(Cn t).flatMap Lb:=wA t
theorem nx_own (t:Syn)(s:Nx):(Uq t s).next=s.next+((evO t).length:Int):=by
 unfold Uq evO;by_cases h5:t.kind=5
 . rw [h5];rfl
 by_cases h10:t.kind=10
 . rw [h10];rfl
 rw [show (t.kind==5)=false by simpa using h5,show (t.kind==10)=false by simpa using h10];simp
theorem nx_ev:∀(t:Syn) (s:Nx),(Iy T V t s).2.next=s.next+((Lb t).length:Int):=by
  intro t
  induction t using Syn.ind with
  | h t ih=>
    intro s
    have key:∀l:List Syn,(∀a∈l,a∈t.kids)->∀s:Nx,(E0 T V l s).2.next=s.next+((l.flatMap Lb).length:Int):=by
      intro l
      induction l with
      | nil=>intro _ s;rw [E0];simp
      | cons x r ih2=>
        intro hl s;rw [E0];show (E0 T V r (Iy T V x s).2).2.next=_;rw [ih2 (fun a ha=>hl a (by simp [ha])),ih x (hl x (by simp)),J9,Al];omega
    rw [On,kS,Al];show (E0 T V (Cn t) (Uq t s)).2.next=_;rw [key (Cn t) (fun a ha=>Kr ha),nx_own];omega
theorem dM {t:Syn}(hs:Ct t=true)(hk:t.kind=10\/t.kind=12):∃a b,t.kids = [a,b]:=by
 unfold Ct at hs;have h7:(t.kids.length:Int)=2:=by rcases hk with hk | hk <;> (rw [hk] at hs;simpa using hs)
 have hl:t.kids.length=2:=by omega
 match hq:t.kids with
 | []=>rw [hq] at hl;cases hl
 | [_]=>rw [hq] at hl;cases hl
 | [a,b]=>exact ⟨a,b,rfl⟩
 | _::_::_::_=>rw [hq] at hl;simp at hl
theorem kid_ev {t:Syn}{pl:Pl}(hc:Ag t pl=0)(hk:t.kind=10):Ag (Aq t 1) (.only 5)=0/\(Aq t 1).kind=5/\Aq t 1∈t.kids:=by
 obtain ⟨a,b,hq⟩:=dM (Bz (Bx hc).1).2.1 (.inl hk);have e:Aq t 1=b:=by unfold Aq;rw [hq];rfl
 have h1:=(Dl hc (j:=1) (a:=b) (by rw [hq];rfl)).1;have e5:Cr t 1 = .only 5:=by unfold Cr;rw [hk];rfl
 rw [e5] at h1;rw [e];exact ⟨h1,Dz (Bz (Bx h1).1).1,by rw [hq];simp⟩
theorem kid_wh {t:Syn}{pl:Pl}(hc:Ag t pl=0)(hk:t.kind=12):Ag (Aq t 1) .exps=0/\Aq t 1∈t.kids:=by
 obtain ⟨a,b,hq⟩:=dM (Bz (Bx hc).1).2.1 (.inr hk);have e:Aq t 1=b:=by unfold Aq;rw [hq];rfl
 have h1:=(Dl hc (j:=1) (a:=b) (by rw [hq];rfl)).1;have e5:Cr t 1 = .exps:=by unfold Cr;rw [hk];rfl
 rw [e5] at h1;rw [e];exact ⟨h1,by rw [hq];simp⟩
theorem pat_fwd:∀t:Syn,Ag t .pats=0->(Fr T V t).err=0->∀s:Nx,EvAt T V (Lb t) s.next->Oa T V (Iy T V t s).1=Ft t:=by
  intro t
  induction t using Syn.ind with
  | h t ih=>
    intro hc hw s hE;obtain ⟨o1,o2,o3,o4⟩:=Bz (Bx hc).1;have hr:=Ql hc;obtain ⟨hl,hwk⟩:=Gr hw
    have key:∀l:List Syn,(∀a∈l,a∈Cn t)->∀s:Nx,EvAt T V (l.flatMap Lb) s.next->(E0 T V l s).1.map (Oa T V)=l.map Ft:=by
      intro l
      induction l with
      | nil=>intro _ s _;rw [E0];rfl
      | cons x r ih2=>
        intro hl s hs;rw [J9] at hs;obtain ⟨h1,h2⟩:=wB hs;have hx:=hl x (by simp);have e1:=ih x (Kr hx) (M8 hc hx) (hwk x (Kr hx)) s h1;have e2:=ih2 (fun a ha=>hl a (by simp [ha])) (Iy T V x s).2 (by rw [nx_ev];exact h2);rw [E0];simp only [Ao];rw [e1,e2]
    rw [kS] at hE;obtain ⟨hO,hP⟩:=wB hE;have hks:=key (Cn t) (fun a ha=>ha) (Uq t s) (by rw [nx_own];exact hP);rw [On,Oz];show nE T V _ ((E0 T V (Cn t) (Uq t s)).1.map (Oa T V))=_;rw [hks];generalize (E0 T V (Cn t) (Uq t s)).1=ps;have h8:t.kind=5\/t.kind=10\/t.kind=11\/t.kind=12\/(t.kind=6\/t.kind=7\/t.kind=8\/t.kind=9):=by omega
    rcases h8 with hk | hk | hk | hk | hk
    . rw [yO (by rw [hk];rfl)]
      unfold nE;rw [if_pos (by rfl)];have h0:=hO 0 t (by unfold evO;rw [hk];rfl);exact ev_fwd hk hc hw rfl h0.2 (by simpa using h0.1) rfl
    . obtain ⟨c1,c2,c3⟩:=kid_ev hc hk
      have h0:=hO 0 (Aq t 1) (by unfold evO;rw [hk];rfl);rw [mR (by rw [hk];rfl) (by rw [hk];rfl),Zu (by show (5:Int)≠0;decide),Iu,X0 (by omega)];refine bB hk.symm ((F2 o4 (by omega)).1 (by rw [hk];rfl)).symm ((F2 o4 (by omega)).2 (by rw [hk];rfl)).symm (E5 o4 (by omega)).symm ?_ rfl;obtain ⟨a,b,hq⟩:=dM o2 (.inl hk);have e:Aq t 1=b:=by unfold Aq;rw [hq];rfl
      have epk:Cn t = [a]:=by unfold Cn;rw [hk,hq];rfl
      have e2:=ev_fwd (T:=T) (V:=V) c2 c1 (hwk _ c3) (p:=⟨5,ps,Js (H4 T) (Aq t 1).text,s.next,s.scopes,0,Iv T V (Aq t 1)⟩) rfl h0.2 (by simpa using h0.1) rfl;show (Cn t).map Ft ++ [Wm T V ⟨5,ps,Js (H4 T) (Aq t 1).text,s.next,s.scopes,0,Iv T V (Aq t 1)⟩]=_;rw [e2,epk,hq,e];rfl
    . rw [mS (by rw [hk];rfl) (by rw [hk];rfl) (by rw [hk];rfl),Zu (by show (6:Int)≠0;decide),Iu,X0 (by omega)]
      refine bB hk.symm ((F2 o4 (by omega)).1 (by rw [hk];rfl)).symm ((F2 o4 (by omega)).2 (by rw [hk];rfl)).symm rfl ?_ rfl;have epk:Cn t=t.kids:=by unfold Cn;rw [hk];rfl
      show (Cn t).map Ft ++ []=_;rw [epk,A1]
    . obtain ⟨c1,c3⟩:=kid_wh hc hk
      rw [mT (by rw [hk];rfl) (by rw [hk];rfl) (by rw [hk];rfl) (by rw [hk];rfl),Zu (by show (7:Int)≠0;decide),Iu,X0 (by omega)];refine bB hk.symm ((F2 o4 (by omega)).1 (by rw [hk];rfl)).symm ((F2 o4 (by omega)).2 (by rw [hk];rfl)).symm (E5 o4 (by omega)).symm ?_ rfl;obtain ⟨a,b,hq⟩:=dM o2 (.inr hk);have e:Aq t 1=b:=by unfold Aq;rw [hq];rfl
      have epk:Cn t = [a]:=by unfold Cn;rw [hk,hq];rfl
      have e2:=ex_fwd (T:=T) (V:=V) _ c1 (hwk _ c3);show (Cn t).map Ft ++ [Pa T V (Dv T V (Aq t 1))]=_;rw [e2,epk,hq,e];rfl
    . have n13:t.kind≠13:=by omega
      have hu:Ku t.kind=(false,false):=by rcases hk with hk | hk | hk | hk <;> (rw [hk];rfl)
      have epk:Cn t=t.kids:=by unfold Cn;rcases hk with hk | hk | hk | hk <;> (rw [hk];rfl)
      have hz:=E5 o4 (by omega);rw [yP (by simp;omega) (by simp;omega) (by simp;omega) (by simp;omega),Zu (by show t.kind-5≠0;omega),Iu,X0 (by omega)];refine bB (by show t.kind-5+5=t.kind;omega) ((F2 o4 n13).1 (by rw [hu])).symm ((F2 o4 n13).2 (by rw [hu])).symm ?_ ?_ rfl
      . show (if ((t.kind-5)==6)=true then (0:Int) else 0)=t.num
        rw [hz];split <;> rfl
      . show (Cn t).map Ft++(if ((t.kind-5)==5)=true then _ else if ((t.kind-5)==7)=true then _ else [])=_
        rw [if_neg (by simp;omega),if_neg (by simp;omega),epk,A1]
theorem ty_fwd:∀t:Syn,Ag t .pats=0->∀s:Nx,(L3 (Iy T V t s).1).map (·.2)=(Lb t).map fun e=>Js (H4 T) e.text:=by
  intro t
  induction t using Syn.ind with
  | h t ih=>
    intro hc s;have hr:=Ql hc
    have key:∀l:List Syn,(∀a∈l,a∈Cn t)->∀s:Nx,((E0 T V l s).1.flatMap L3).map (·.2)=(l.flatMap Lb).map fun e=>Js (H4 T) e.text:=by
      intro l
      induction l with
      | nil=>intro _ s;rw [E0];rfl
      | cons x r ih2=>
        intro hl s;have hx:=hl x (by simp);rw [E0];simp only [J9,Di];rw [ih x (Kr hx) (M8 hc hx) s,ih2 (fun a ha=>hl a (by simp [ha])) (Iy T V x s).2]
    rw [On,tyP_eq,kS,Di,Di];have hk2:=key (Cn t) (fun a ha=>ha) (Uq t s);show _++((E0 T V (Cn t) (Uq t s)).1.flatMap L3).map (·.2)=_;rw [hk2];refine congrArg (· ++ _) ?_;have h8:t.kind=5\/t.kind=10\/t.kind=11\/t.kind=12\/(t.kind=6\/t.kind=7\/t.kind=8\/t.kind=9):=by omega
    unfold evO;rcases h8 with hk | hk | hk | hk | hk
    . rw [yO (by rw [hk];rfl),hk];rfl
    . rw [mR (by rw [hk];rfl) (by rw [hk];rfl),hk];rfl
    . rw [mS (by rw [hk];rfl) (by rw [hk];rfl) (by rw [hk];rfl),hk];rfl
    . rw [mT (by rw [hk];rfl) (by rw [hk];rfl) (by rw [hk];rfl) (by rw [hk];rfl),hk];rfl
    . rw [yP (by simp;omega) (by simp;omega) (by simp;omega) (by simp;omega)]
      rcases hk with hk | hk | hk | hk <;> (rw [hk];rfl)
def CoIs (T:List e8Sc)(V:List Va)(e:Ex):Prop:=e=Jp\/∃x,Ag x .exps=0/\(Fr T V x).err=0/\e=Dv T V x
theorem cd_fwd {e:Syn}{pl:Pl}(h5:e.kind=5)(hc:Ag e pl=0)(hw:(Fr T V e).err=0):CoIs T V (Iv T V e):=by
  cases hks:e.kids with
  | nil=>exact .inl (by unfold Iv;rw [hks];rfl)
  | cons a r=>
    have hkc:=(Dl hc (j:=0) (a:=a) (by rw [hks];rfl)).1;have eC:Cr e 0 = .exps:=by unfold Cr;rw [h5];rfl
    rw [eC] at hkc;refine .inr ⟨a,hkc,(Gr hw).2 a (by rw [hks];simp),?_⟩;unfold Iv Aq;rw [hks,if_pos (by simp)];rfl
theorem co_fwd:∀t:Syn,Ag t .pats=0->(Fr T V t).err=0->∀s:Nx,∀e∈U0 (Iy T V t s).1,CoIs T V e:=by
  intro t
  induction t using Syn.ind with
  | h t ih=>
    intro hc hw s;have hr:=Ql hc;obtain ⟨hl,hwk⟩:=Gr hw
    have key:∀l:List Syn,(∀a∈l,a∈Cn t)->∀s:Nx,∀e∈(E0 T V l s).1.flatMap U0,CoIs T V e:=by
      intro l
      induction l with
      | nil=>intro _ s e he;rw [E0] at he;cases he
      | cons x r ih2=>
        intro hl s e he;have hx:=hl x (by simp);rw [E0] at he;simp only [J9] at he;rcases G2.1 he with he | he
        . exact ih x (Kr hx) (M8 hc hx) (hwk x (Kr hx)) s e he
        exact ih2 (fun a ha=>hl a (by simp [ha])) (Iy T V x s).2 e he
    intro e he;rw [On,coP_eq] at he;rcases G2.1 he with he | he
    . have h8:t.kind=5\/t.kind=10\/t.kind=11\/t.kind=12\/(t.kind=6\/t.kind=7\/t.kind=8\/t.kind=9):=by omega
      rcases h8 with hk | hk | hk | hk | hk
      . rw [yO (by rw [hk];rfl)] at he
        rw [if_pos (by rfl)] at he;rw [D5.1 he];exact cd_fwd hk hc hw
      . obtain ⟨c1,c2,c3⟩:=kid_ev hc hk
        rw [mR (by rw [hk];rfl) (by rw [hk];rfl)] at he;rw [if_pos (by rfl)] at he;rw [D5.1 he];exact cd_fwd c2 c1 (hwk _ c3)
      . rw [mS (by rw [hk];rfl) (by rw [hk];rfl) (by rw [hk];rfl)] at he
        rw [if_neg (by simp [Wl])] at he;cases he
      . obtain ⟨c1,c3⟩:=kid_wh hc hk
        rw [mT (by rw [hk];rfl) (by rw [hk];rfl) (by rw [hk];rfl) (by rw [hk];rfl)] at he;rw [if_pos (by rfl)] at he;rw [D5.1 he];exact .inr ⟨_,c1,hwk _ c3,rfl⟩
      . rw [yP (by simp;omega) (by simp;omega) (by simp;omega) (by simp;omega)] at he
        rw [if_neg (by simp [Wl];omega)] at he;cases he
    exact key (Cn t) (fun a ha=>ha) (Uq t s) e he
theorem kno_fwd:∀t:Syn,Ag t .exps=0->(Fr T V t).err=0->Tt T V (Dv T V t)=true/\aP T V (Dv T V t)=true:=by
  intro t
  induction t using Syn.ind with
  | h t ih=>
    intro hc hw;obtain ⟨o1,o2,o3,o4⟩:=Bz (Bx hc).1;have hr:=L6 o1;obtain ⟨hl,hwk⟩:=Gr hw;have hpl:∀s:e8Sc,∀n,Ei s n<(s.fields.length:Int):=fun s n=>by have:=(pl_le (s.fields.map (·.name)) n).2;rw [Bg] at this;exact this
    have h6:t.kind=13\/t.kind=14\/t.kind=15\/t.kind=16\/(t.kind=17\/t.kind=18):=by omega
    rw [Hg];rcases h6 with hk | hk | hk | hk | hk
    . rw [cN (by rw [hk];rfl),N9,Tb]
      exact ⟨rfl,rfl⟩
    . have hin:=Le (M3 hl (.inl hk))
      rw [Bg] at hin;have d1:decide ((V.length:Int)<=Js (H5 V) t.text)=false:=Gc (by omega);by_cases ht:(t.name==Ej)=true
      . rw [jD (by rw [hk];rfl) (by rw [hk];rfl) ht,N9,Tb]
        refine ⟨?_,rfl⟩;unfold iL;simp only;rw [d1];rfl
      . have ht':(t.name==Ej)=false:=by simpa using ht
        have hf:=Vj hl (.inl hk) fun e=>by rw [e.2] at ht';simp at ht'
        have h9:=hpl (Qt T V (Js (H5 V) t.text)) t.name;have hfn:pY T V (Js (H5 V) t.text) (Ei (Qt T V (Js (H5 V) t.text)) t.name)=t.name:=lD hf;have d2:decide (((Qt T V (Js (H5 V) t.text)).fields.length:Int)<=Ei (Qt T V (Js (H5 V) t.text)) t.name)=false:=Gc (by omega);have hnm:Ru t.name=true:=(fF o3 hk).resolve_right fun e=>by rw [e] at ht';simp at ht'
        rw [jE (by rw [hk];rfl) (by rw [hk];rfl) ht' rfl,N9,Tb];unfold iL Zs;simp only;rw [d1,d2,hfn,hnm];exact ⟨rfl,rfl⟩
    . have hin:=Le (M3 hl (.inr (.inl hk)))
      rw [Bg] at hin;have d1:decide ((V.length:Int)<=Js (H5 V) t.text)=false:=Gc (by omega);rw [jF (by rw [hk];rfl) (by rw [hk];rfl) (by rw [hk];rfl),N9,Tb];refine ⟨?_,rfl⟩;unfold iL;simp only;rw [d1];rfl
    . have hin:=Le (M3 hl (.inr (.inr hk)))
      rw [Bg] at hin;have d1:decide ((V.length:Int)<=Js (H5 V) t.text)=false:=Gc (by omega);have hf:=Vj hl (.inr hk) fun e=>by omega
      have h9:=hpl (Qt T V (Js (H5 V) t.text)) t.name;have hfn:pY T V (Js (H5 V) t.text) (Ei (Qt T V (Js (H5 V) t.text)) t.name)=t.name:=lD hf;have d2:decide (((Qt T V (Js (H5 V) t.text)).fields.length:Int)<=Ei (Qt T V (Js (H5 V) t.text)) t.name)=false:=Gc (by omega);have hnm:Ru t.name=true:=Un o3 (by rw [hk];rfl) (by omega)
      have key:∀vl:Vl,Tt T V ⟨4,[],Js (H5 V) t.text,Ei (Qt T V (Js (H5 V) t.text)) t.name,t.num,vl⟩=true/\aP T V ⟨4,[],Js (H5 V) t.text,Ei (Qt T V (Js (H5 V) t.text)) t.name,t.num,vl⟩=true:=fun vl=>by
        rw [N9,Tb];unfold iL Zs;simp only;rw [d1,d2,hfn,hnm];exact ⟨rfl,rfl⟩
      cases h6:decide ((0:Int)<(t.kids.length:Int)) with
      | true=>rw [jG (by rw [hk];rfl) (by rw [hk];rfl) (by rw [hk];rfl) (by rw [hk];rfl) rfl h6];exact key _
      | false=>rw [jH (by rw [hk];rfl) (by rw [hk];rfl) (by rw [hk];rfl) (by rw [hk];rfl) rfl h6];exact key _
    . have ho:∃o,(if (t.kind==17)=true then t.num else (12:Int))=o/\5<=o:=by
        refine ⟨_,rfl,?_⟩;split
        . rename_i h17
          have:=U4 o4 (by simpa using h17);omega
        decide
      obtain ⟨o,he,h5⟩:=ho;rw [exp_num (by simp;omega) (by simp;omega) (by simp;omega) (by simp;omega) hr,he,N9,Tb]
      have hk1:∀a∈t.kids.map (Dv T V),Tt T V a=true/\aP T V a=true:=fun a ha=>by
        obtain ⟨x,hx,rfl⟩:=Cd.1 ha;obtain ⟨j,hj⟩:=Fh.1 hx;exact ih x hx (iY hc hk hj) (hwk x hx)
      refine ⟨?_,?_⟩
      . rw [Ce]
        refine ⟨?_,F3.2 fun a ha=>(hk1 a ha).1⟩;unfold iL;rw [if_neg (by simp;omega)]
      . rw [Ce]
        refine ⟨?_,F3.2 fun a ha=>(hk1 a ha).2⟩;unfold Zs;rw [if_neg (by simp;omega)]
end
theorem Te  : Au Tryz.prog 43 [] (.agg (rR Np)):=by
 refine G3 2 Tryz.func43 rfl fun H=>?_
 refine Ab (E8 oF fun b0=>Cf (Qp (Gz Jb) ?_));refine B4 0 Jb (_::_) (Rb ?_);refine Yx [.agg Jb] (Zb 0) S1 ?_;rfl
theorem yX  : Au Tryz.prog 158 [] (.agg (cE Jp)):=by
 refine G3 3 Tryz.func158 rfl fun H=>?_
 refine Ab (E8 ghx fun b0=>Cf (Qp (Gz Z0) (Qp (Gz Nd) ?_)));refine B4 0 Nd (_::_) (Rb ?_);refine Yx [.agg Nd] (Zb 0) S1 ?_;rfl
theorem yY (t:Syn):Au Tryz.prog 100 [.agg (cSyn t)] (.agg (cV (Wr t))):=by
 refine G3 18 Tryz.func100 rfl fun H=>?_
 refine Ab (Qp (Ji Aj) (E8 [.int .i64 0,.int .i64 0,.str []] fun b2=>?_));refine A7 (Cj (Qp (Qf sR) (Qp Hn (A7 (AW.block (Ab (Qp (Gk rfl rfl) (Qp Bl (Br (fun hc1=>Ab (Qp (Qf bK) (Qp B7 (Qp (Gz Z0) ?_)))) fun hc1=>Ab (Qp (Gk rfl rfl) (Qp Bl (Br (fun hc2=>Ab (Qp (Qf Zr) (Qp Hn (Qp (Gz Z0) ?_)))) fun hc2=>Rf (Ab (Qp (Qf bK) (Qp B7 (Qp (Gz Z0) ?_))))))))))))))))
 .
  refine B4 0 Z0 (_::_) (Ra ?_);refine Yx [.agg Z0] (Zb 0) S1 ?_;simp only [Af,Wr,hc1,↓reduceIte,Ah];rfl
 .
  refine B4 0 Z0 (_::_) (Ra ?_);refine Yx [.agg Z0] (Zb 0) S1 ?_;simp only [Af,Wr,hc1,hc2,↓reduceIte,Ah];rfl
 refine B4 0 Z0 (_::_) (Rb ?_);refine Yx [.agg Z0] (Zb 0) S1 ?_;simp only [Af,Wr,hc1,hc2,↓reduceIte,Ah];rfl
theorem rf_pos1 (f:Fi)(n:Ac):Au Tryz.prog 157 [.agg (cFi f),.ptr [.str n]] (.bool (f.name==n)):=by
 refine G3 8 Tryz.func157 rfl fun H=>?_
 refine Ab (Qp (Ji J6) (Qp Bl (Cf (Qp (Qf J6) (Qp Hn (Qp Hn (Qp (Gk rfl rfl) (Qp Bl (Rb (Qr (.bool _) ?_))))))))));rfl
theorem yV (l:List Fi)(hl:l.length<=1048576)(K:FuncId)(hK:Y0 Tryz.prog K=true)(cs:List AV)(p:Fi->Bool)(hf:∀a∈l,Au Tryz.prog K (.agg (cFi a)::cs) (.bool (p a))):Au Tryz.prog 59 [.sl 2 (l.map cFi),.fn (.func K) [] cs] (.int .i64 (aI p l)):=by
 refine G3 19 Tryz.func59 rfl fun H=>?_
 refine Ab (Qp A3 (A7 (Cj (Qp Ng ?_))));refine Qp (G6 l.length rfl rfl (by simp)) ?_;refine Qp Ax (A7 (AW.block ?_));refine AW.Aan (fun (k:Nat)=>(⟨[(0,.sl 2 (l.map cFi)),(1,.fn (.func K) [] cs),(6,.sl 2 (l.map cFi)),(7,.int .i64 l.length),(8,.int .i64 (k:Int))],H,19⟩:St)) (fun k=>k<=l.length/\(l.take k).any p=false) (fun k=>l.length-k) (0) ?_ Dp ?_
 . exact ⟨Bk _,by simp⟩
 rintro k hR;refine Ab (Qp C5 (Re (Hs (fun hc1=>?_) fun hc1=>?_)))
 .
  obtain ⟨a,ha⟩:=De hc1;have hlt:=Ch ha;have hm:=Ak ha;refine B8 (AW.seq (AW.block (Ab (Qp Ax (Qp A3 (Cf (Qp (Ai (v:=.fn _ _ _) rfl) (Qp Ng (Qp Ax ?_)))))))));refine Qp (F5 J6 rfl rfl (by omega) (C2 ha)) ?_;refine Qp (C8 J6) (Qp (Tl hK rfl rfl rfl (hf a (Ak ha))) (Br (fun hc2=>Ab (Qp Ax (Qp A3 (Ra (Bc (Ep (Bc (Qr (Iq _) ?_)))))))) fun hc2=>Rf (AW.region (Qp Ii (Qp Ax (A7 ?_))))))
  . exact Ye (AV.int .i64) (lL ha hR.2 hc2)
  refine ⟨k+1,?_,?_,Dp⟩
  . exact ⟨hlt,R0 hR.2 ha hc2⟩
  omega
 have hte:=F1 hc1;have hall:=hR.2;rw [hte] at hall;refine AW.exit ?_;refine B9 (Ri (Ab (Qp A3 (Rb ?_))));refine Qr (Iq _) ?_;exact Ye (AV.int .i64) (eZ hall)
theorem Oo (s:e8Sc)(hs:s.fields.length<=1048576)(n:Ac):Au Tryz.prog 92 [.agg (Oh s),.str n] (.int .i64 (Ei s n)):=by
 refine G3 9 Tryz.func92 rfl fun H=>?_
 refine Ab (Qp (Ji Pn) (Qp (Zx (v:=.str _) (cs:=[.str _]) rfl rfl rfl) (Qp A3 (Cf (Qp (Qf [_]) (Qp Eg (Qp (Ca (l:=[]) (l':=[.ptr _]) rfl rfl) ?_)))))));refine Qp (Qc rfl (yV s.fields hs 157 (by kernel_rfl) [.ptr [.str n]] (fun f=>f.name==n) (fun a _=>rf_pos1 a n))) ?_;refine Qp A3 (Rb (Qr (Iq _) ?_));exact Eq.trans rfl (congrArg (fun q:Int=>AV.int .i64 q) (lM (fun f:Fi=>f.name) n s.fields))
theorem rf_each (bp TT:Nat)(cs:List AV)(l:List Syn)(hl:l.length<=1048576)(K:FuncId)(hK:Y0 Tryz.prog K=true)(fs:List AV)(f:Syn->Fa)(hf:∀a∈l,Bp Tryz.prog K bp TT cs cs (fs ++ [.agg (cSyn a)]) (.agg (rR (f a)))):Bp Tryz.prog 45 bp TT cs cs [.sl 6 (l.map Df),.fn (.func K) fs []] (.agg (rR (Ia f l))):=by
 intro H;refine Jz 23 Tryz.func45 rfl ?_;refine Ab (E8 oF fun b4=>A7 (Cj (Qp Ng ?_)));refine Qp (G6 l.length rfl rfl (by simp)) ?_;refine Qp Ax (A7 (AW.block ?_));refine AW.Aan (fun (k:Nat)=>(⟨[(0,.sl 6 (l.map Df)),(1,.fn (.func K) fs []),(4,.val (.pointer (some ⟨b4,0,none⟩))),(8,.sl 6 (l.map Df)),(9,.int .i64 l.length),(10,.int .i64 (k:Int))],.box b4 72 oF :: .box bp TT cs::H,23⟩:St)) (fun k=>k<=l.length/\(l.take k).any (fun x=>(f x).err != 0)=false) (fun k=>l.length-k) (0) ?_ Dp ?_
 . exact ⟨Bk _,by simp⟩
 rintro k hR;refine Ab (Qp C5 (Re (Hs (fun hc1=>?_) fun hc1=>?_)))
 .
  obtain ⟨a,ha⟩:=De hc1;have hlt:=Ch ha;have hm:=Ak ha;refine B8 (AW.seq (AW.block (Ab ?_)));refine Qp (F5 Aj rfl rfl (by omega) (Je ha)) ?_;refine Qp (C8 Aj) ?_;refine E8 Kb fun b6=>?_
  refine B4 0 Aj (_::_::_::_) ?_;refine Me 6 0 rfl ?_;refine Cf (Qp (Ai (v:=.fn _ _ _) rfl) (Qp (C8 Aj) (Rt (Ms hK rfl rfl (A1 _) ((hf a hm).at (k:=1) (H2:=_::_::_) rfl rfl)) (E8 oF fun b7=>?_))));refine B4 0 Jb (_::_::_::_) ?_;refine Me 7 0 rfl ?_;refine Cf (Qp (Qf [Iq _]) (Qp B7 (Qp Cq (Br (fun hc2=>Ab (Qp (C8 Jb) ?_)) fun hc2=>Rf (AW.region (Qp Ii (Qp Ax (A7 ?_))))))))
  .
   refine B4 0 Jb (_::_::_) (Ra (Bc (Ep (Bc ?_))));refine ⟨.inr rfl,[.agg Jb],Zb 0,_,S1,?_⟩;exact ⟨Ye (fun q:Fa=>AV.agg (rR q)) (kL ha hR.2 hc2),rfl⟩
  refine ⟨k+1,?_,?_,Dp⟩
  . exact ⟨hlt,R0 hR.2 ha hc2⟩
  omega
 have hte:=F1 hc1;have hall:=hR.2;rw [hte] at hall;refine AW.exit ?_;refine B9 (Ri (Ab ?_));refine Qp (Qc rfl (Te)) ?_;refine B4 0 Jb (_::_::_) (Rb ?_);refine ⟨.inr rfl,[.agg Jb],Zb 0,_,S1,?_⟩;exact ⟨Ye (fun q:Fa=>AV.agg (rR q)) (eD hall),rfl⟩
abbrev Q8 (q:Fa):AV:=AV.agg (rR q)
theorem rf_look (T:List e8Sc)(V:List Va)(s:Nx)(bp:Nat)(hrv:RvOK T V)(t:Syn)(ht:aZ t):Bp Tryz.prog 93 bp 126 (dU T V s) (dU T V s) [.val (.pointer (some ⟨bp,0,none⟩)),.agg (cSyn t)] (.agg (rR (Jk T V t))):=by
 intro H;refine Jz 72 Tryz.func93 rfl ?_;refine Ab (Qp (Ji Aj) (E8 oF fun b4=>A7 (Cj (Qp (Qf Aj) (Qp B7 (Qp Cq (Qp Cw (Qg [] Qw (Qf Aj) (Qg [(11,_)] Qw B7 (Qg [(12,_)] Qw Cq ?_))))))))));refine Qp Mu (Qp Cw (Qg [] Qw (Qf Aj) (Qg [(16,_)] Qw B7 (Qg [(17,_)] Qw Cq (Qp Mu (Br (fun hc1=>Ab (Qp (Qc rfl (Te)) ?_)) fun hc1=>B8 (AW.seq (T6 1 rfl (Qn 0 rfl B3 (Qn 1 rfl (Aa rfl) (Qn 2 rfl Dg (Qn 3 rfl (Nc (.smapv _) rfl) (Qn 4 rfl (Qf Zr) (Qn 5 rfl Hn ?_))))))))))))))
 .
  refine B4 0 Jb (_::_::_) (Rc ?_);refine ⟨.inr rfl,[.agg Jb],Zb 0,_,S1,?_⟩;exact ⟨Ye Q8 (look_1 hc1),rfl⟩
 refine Qn 6 rfl (jX (es:=Ty (H5 V)) tok rfl rfl rfl rfl rfl (by kernel_rfl) rfl rfl (Xz _ _ rfl) (smI_is _ _)) ?_;refine Qn 7 rfl Wz (Qn 8 rfl Wt (Qn 9 rfl oB (Qn 10 rfl A3 (Qn 11 rfl Bl ?_))));refine Jr ?_;refine Ap (Cj (Qp Cw (Qp Ke (Br (fun hc2=>Ab (Qp (Qf [Iq _]) (Qp B7 (Qp (Gz Jb) ?_)))) fun hc2=>?_))))
 .
  refine B4 0 Jb (_::_::_) (Rc ?_);refine ⟨.inr rfl,[.agg Jb],Zb 0,_,S1,?_⟩;exact ⟨Ye Q8 (look_2 hc1 hc2),rfl⟩
 have hct:(H5 V).contains t.text=true:=by simpa using hc2
 refine (inX_at hct).elim fun va hva=>?_
 have hix:=Le hct;have hix2:=hix.2;rw [Bg] at hix2;have hvm:=Ak hva;have hvt:=hrv.ty va hvm;refine (fX hrv hvm).elim fun sc hsc=>?_
 have hsr:=tY hva hsc;have hfl:=hrv.fl sc (Ak hsc);refine B8 (Cj (Qp (Qf Aj) (Qp B7 (Qp Bv (Qp Cw (Qg [] Qw (Qf Aj) (Qg [(40,_)] Qw B7 (Qg [(41,_)] Qw Bv ?_))))))));refine Qg [(42,_)] Qw Cw (Qg [] Qw (Qf sR) (Qg [(44,_)] Qw Hn (Qg [(45,_)] Qw (Gk rfl rfl) (Qg [(43,_),(46,_)] Qw Mu (Qp G4 (Br (fun hc3=>Ab (Qp (Qc rfl (Te)) ?_)) fun hc3=>B8 (AW.seq (AW.seq (T6 1 rfl (Qn 0 rfl B3 (Qn 1 rfl (Aa rfl) (Qn 2 rfl Dg (Qn 3 rfl (Nc (.sl _ _) rfl) (Qn 4 rfl B3 (Qn 5 rfl (Aa rfl) (Qn 6 rfl Dg (Qn 7 rfl (Nc (.sl _ _) rfl) ?_)))))))))))))))))
 .
  refine B4 0 Jb (_::_::_) (Rc ?_);refine ⟨.inr rfl,[.agg Jb],Zb 0,_,S1,?_⟩;exact ⟨Ye Q8 (tH hc1 hc2 hc3),rfl⟩
 refine Qn 8 rfl Ax (Qn 9 rfl (F5 J6 rfl rfl (hix.1) (C2 hva)) (Qn 10 rfl (Qf [Iq _]) (Qn 11 rfl B7 (Qn 12 rfl (F5 Pn rfl rfl (hvt.1) (C2 hsc)) (Qn 13 rfl (C8 Pn) (Qn 14 rfl (Qf sR) (Qn 15 rfl Hn (Qn 16 rfl (Qc rfl (Oo sc hfl t.name)) (Qn 17 rfl C5 ?_)))))))));refine Jr ?_;refine Ap (Hs (fun hc4=>Ab (Qp (Qf [Iq _]) (Qp B7 (Qp (Gz Jb) ?_)))) fun hc4=>B8 (Ab (Qp (Qc rfl (Te)) ?_)))
 .
  refine B4 0 Jb (_::_::_) (Rc ?_);refine ⟨.inr rfl,[.agg Jb],Zb 0,_,S1,?_⟩;exact ⟨Ye Q8 (look_4 hc1 hc2 hc3 (by rw [hsr];exact hc4)),rfl⟩
 refine B4 0 Jb (_::_::_) (Rb ?_);refine ⟨.inr rfl,[.agg Jb],Zb 0,_,S1,?_⟩;exact ⟨Ye Q8 (look_5 hc1 hc2 hc3 (by rw [hsr];exact hc4)),rfl⟩
theorem rf_walk (T:List e8Sc)(V:List Va)(s:Nx)(bp:Nat)(hrv:RvOK T V)(t:Syn)(ht:aZ t):Bp Tryz.prog 49 bp 126 (dU T V s) (dU T V s) [.val (.pointer (some ⟨bp,0,none⟩)),.agg (cSyn t)] (.agg (rR (Fr T V t))):=by
 intro H
 revert H
 induction t using Syn.ind
 rename_i t ih;intro H;refine Jz 18 Tryz.func49 rfl ?_;refine Ab (Qp (Ji Aj) (E8 oF fun b4=>A7 (Cj (Qp B3 (Qp (C8 Aj) ?_)))));refine AOL.Aaq (C0 (k:=1) (by kernel_rfl) rfl rfl (rf_look T V s bp hrv t ht)) rfl rfl ?_;refine E8 oF fun b5=>?_
 refine B4 0 Jb (_::_::_::_) ?_;refine Me 5 0 rfl ?_;refine Cf (Qp (Qf [Iq _]) (Qp B7 (Qp Cq (Br (fun hc1=>Ab (Qp (C8 Jb) ?_)) fun hc1=>B8 (Ab (Qp (Qf Po) (Qp Eg (Qp B3 (Qp (Ca (l:=[.val _]) (l':=[]) rfl rfl) ?_)))))))))
 .
  refine B4 0 Jb (_::_::_) (Rc ?_);refine ⟨.inr rfl,[.agg Jb],Zb 0,_,S1,?_⟩;exact ⟨Ye Q8 (walk_1 hc1),rfl⟩
 refine Rt (D2 rfl ((rf_each bp 126 _ t.kids (F4 (bA ht) (by decide)) 49 (by kernel_rfl) [.val (.pointer (some ⟨bp,0,none⟩))] (Fr T V) (fun a ha=>fun R=>ih a ha (N0 ht ha) R)).at (k:=1) (H2:=_::_::_) rfl rfl)) ?_;refine B4 0 Jb (_::_::_) (Rb ?_);refine ⟨.inr rfl,[.agg Jb],Zb 0,_,S1,?_⟩;exact ⟨Ye Q8 (O3 hc1),rfl⟩
theorem scE (l:List Ex):∀c∈l.map Ix,Av c=true:=fun c hc=>by
 obtain ⟨x,_,rfl⟩:=Cd.1 hc;rw [Pm];rfl
theorem rf_allE (bp TT:Nat)(cs:List AV)(l:List Syn)(hl:l.length<=1048576)(K:FuncId)(hK:Y0 Tryz.prog K=true)(fs:List AV)(f:Syn->Ex)(hf:∀a∈l,Bp Tryz.prog K bp TT cs cs (fs ++ [.agg (cSyn a)]) (.agg (cE (f a)))):Bp Tryz.prog 101 bp TT cs cs [.sl 6 (l.map Df),.fn (.func K) fs []] (.sl 8 ((l.map f).map Ix)):=by
 intro H;refine Jz 22 Tryz.func101 rfl ?_;refine Ab (Qp (Ck (z:=8) rfl) (Cf (Qp Tm ?_)));refine AOL.ghost (GS.row (t:=5) 53 8 rfl) ?_;refine A7 (Cj (Qp Ng ?_));refine Qp (G6 l.length rfl rfl (by simp)) ?_;refine Qp Ax (A7 (AW.block ?_));refine AW.Aan (fun (p:Nat×List (List AV)×Value)=>(⟨[(0,.sl 6 (l.map Df)),(1,.fn (.func K) fs []),(5,.row p.2.2 8 p.2.1),(8,.sl 6 (l.map Df)),(9,.int .i64 l.length),(10,.int .i64 (p.1:Int))],.row p.2.2 p.2.1.length 53 8 :: .box bp TT cs::H,22⟩:St)) (fun p=>p.1<=l.length/\p.2.1=((l.take p.1).map f).map Ix) (fun p=>l.length-p.1) ((0,[],.slice none 0 0)) ?_ Dp ?_
 . exact ⟨Bk _,rfl⟩
 rintro p hR;refine Ab (Qp C5 (Re (Hs (fun hc1=>?_) fun hc1=>?_)))
 .
  obtain ⟨a,ha⟩:=De hc1;have hlt:=Ch ha;have hm:=Ak ha;have hsc:∀c∈p.2.1,Av c=true:=by rw [hR.2];exact scE _
  refine B8 (AW.seq (AW.block (Ab ?_)));refine Qp (F5 Aj rfl rfl (by omega) (Je ha)) ?_;refine Qp (C8 Aj) ?_;refine E8 Kb fun b7=>?_
  refine B4 0 Aj (_::_::_::_) ?_;refine Me 7 0 rfl ?_;refine A7 (AW.region (Qp (Ai (v:=.row _ _ _) rfl) (Qp (Ai (v:=.fn _ _ _) rfl) (Qp (C8 Aj) (Rt (Ms hK rfl rfl (A1 _) ((hf a hm).at (k:=1) (H2:=_::_::_) rfl rfl)) (Qp (Kf [Nd] rfl) ?_))))));refine Qe (Zq 0 rfl (Ff rfl) (hsc) (by simp [hR.2];omega) (by simp [hR.2,maxLen];omega)) ?_;rintro _ _ ⟨v19,rfl,rfl⟩;refine Qp (An (v:=.row _ _ _) rfl) (Rk (AW.region (Qp Ii (Qp Ax (A7 ?_)))));refine ⟨(p.1+1,p.2.1 ++ [cE (f a)],v19),?_,?_,Dp⟩
  . exact ⟨hlt,by simp only;rw [El ha,hR.2];simp [Pm]⟩
  simp only;omega
 have hte:=F1 hc1;have hall:=hR.2;rw [hte] at hall;refine AW.exit ?_;refine B9 (Ri (Ab ?_));refine Qp (Ai (v:=.row _ _ _) rfl) ?_;refine AOL.ghost (GS.unrow 21 rfl) ?_;refine Qp rL (Rb ?_);refine ⟨.inr rfl,[.sl _ _],Ze,_,S1,?_⟩;exact ⟨Eq.trans rfl (congrArg (AV.sl 8) hall),rfl⟩
abbrev Of (q:Ex):AV:=AV.agg (cE q)
theorem tV (T:List e8Sc)(V:List Va)(s:Nx)(bp:Nat)(hrv:RvOK T V)(t:Syn)(ht:aZ t)(hw:(Fr T V t).err=0):Bp Tryz.prog 52 bp 126 (dU T V s) (dU T V s) [.val (.pointer (some ⟨bp,0,none⟩)),.agg (cSyn t)] (.agg (cE (Dv T V t))):=by
 intro H
 revert H
 induction t using Syn.ind
 rename_i t ih;intro H;refine Jz 101 Tryz.func52 rfl ?_;refine Ab (Qp (Ji Aj) (E8 ghx fun b4=>Re (T6 1 rfl (Qn 0 rfl B3 (Qn 1 rfl (Aa rfl) (Qn 2 rfl Dg (Qn 3 rfl (Nc (.smapv _) rfl) (Qn 4 rfl (Qf Zr) (Qn 5 rfl Hn ?_)))))))));refine Qn 6 rfl (vA (es:=Ty (H5 V)) tok rfl rfl rfl rfl rfl (by kernel_rfl) rfl rfl (Xz _ _ rfl)) ?_;refine Qn 7 rfl A3 ?_;refine Jr ?_;refine Ap (Cj (Qp (Qf Aj) (Qp B7 (A7 (AW.block (Ab (Qp Bv (Qp Bl (Br (fun hc1=>Ab (Qp (C8 Aj) (Qp (Qc rfl (yY t)) (Qp (Gz Nd) ?_)))) fun hc1=>Ab (Qp Bv (Qp Bl (Br (fun hc2=>Cj (Qp (Qf sR) (Qp Hn (Qp (Gk rfl rfl) (Br (fun hc3=>Ab (Qp Ax (Qp (Gz Nd) ?_))) fun hc3=>?_))))) fun hc2=>?_))))))))))))
 .
  refine B4 0 Nd (_::_::_) (Ra ?_);refine ⟨.inr rfl,[.agg Nd],Zb 0,_,S1,?_⟩;exact ⟨Ye Of ((Hg T V t).trans (cN hc1)),rfl⟩
 .
  refine B4 0 Nd (_::_::_) (Rc (Ep (Bc ?_)));refine ⟨.inr rfl,[.agg Nd],Zb 0,_,S1,?_⟩;exact ⟨Ye Of ((Hg T V t).trans (jD hc1 hc2 hc3)),rfl⟩
 .
  have hct:=M3 (Gr hw).1 (Or.inl (by simpa using hc2));refine (inX_at hct).elim fun va hva=>?_
  have hix:=Le hct;have hix2:=hix.2;rw [Bg] at hix2;have hvm:=Ak hva;have hvt:=hrv.ty va hvm;refine (fX hrv hvm).elim fun sc hsc=>?_
  have hsr:=tY hva hsc;have hfl:=hrv.fl sc (Ak hsc);refine B8 (AW.seq (T6 1 rfl (Qn 0 rfl Ax (Qn 1 rfl B3 (Qn 2 rfl (Aa rfl) (Qn 3 rfl Dg (Qn 4 rfl (Nc (.sl _ _) rfl) (Qn 5 rfl B3 (Qn 6 rfl (Aa rfl) (Qn 7 rfl Dg (Qn 8 rfl (Nc (.sl _ _) rfl) ?_)))))))))));refine Qn 9 rfl Ax (Qn 10 rfl (F5 J6 rfl rfl (hix.1) (C2 hva)) (Qn 11 rfl (Qf [Iq _]) (Qn 12 rfl B7 (Qn 13 rfl (F5 Pn rfl rfl (hvt.1) (C2 hsc)) (Qn 14 rfl (C8 Pn) (Qn 15 rfl (Qf sR) (Qn 16 rfl Hn (Qn 17 rfl (Qc rfl (Oo sc hfl t.name)) (Qn 18 rfl (Gz Nd) ?_)))))))));refine iR 19 rfl (Mf 0 (.agg _) Nd (_::_::_) rfl) ?_;rintro _ _ ⟨rfl,rfl⟩;refine Ap (AW.ret (Ep (Bc ?_)));refine ⟨.inr rfl,[.agg Nd],Zb 0,_,S1,?_⟩;exact ⟨Ye Of ((Hg T V t).trans (jE hc1 hc2 hc3 hsr)),rfl⟩
 refine Ab (Qp Bv (Qp Bl (Br (fun hc4=>Ab (Qp Ax (Qp (Gz Nd) ?_))) fun hc4=>Ab (Qp Bv (Qp Bl (Br (fun hc5=>?_) fun hc5=>Ab (Qp Bv (Qp Bl (Br (fun hc7=>Ab (Qp (Qf Po) (Qp Eg (Qp B3 (Qp (Ca (l:=[.val _]) (l':=[]) rfl rfl) ?_))))) fun hc7=>Rf (AW.seq ?_))))))))))
 .
  refine B4 0 Nd (_::_::_) (Ra ?_);refine ⟨.inr rfl,[.agg Nd],Zb 0,_,S1,?_⟩;exact ⟨Ye Of ((Hg T V t).trans (jF hc1 hc2 hc4)),rfl⟩
 .
  have hct:=M3 (Gr hw).1 (Or.inr (Or.inr (by simpa using hc5)));refine (inX_at hct).elim fun va hva=>?_
  have hix:=Le hct;have hix2:=hix.2;rw [Bg] at hix2;have hvm:=Ak hva;have hvt:=hrv.ty va hvm;refine (fX hrv hvm).elim fun sc hsc=>?_
  have hsr:=tY hva hsc;have hfl:=hrv.fl sc (Ak hsc);refine AW.seq (T6 1 rfl (Qn 0 rfl Ax (Qn 1 rfl B3 (Qn 2 rfl (Aa rfl) (Qn 3 rfl Dg (Qn 4 rfl (Nc (.sl _ _) rfl) (Qn 5 rfl B3 (Qn 6 rfl (Aa rfl) (Qn 7 rfl Dg (Qn 8 rfl (Nc (.sl _ _) rfl) ?_))))))))));refine Qn 9 rfl Ax (Qn 10 rfl (F5 J6 rfl rfl (hix.1) (C2 hva)) (Qn 11 rfl (Qf [Iq _]) (Qn 12 rfl B7 (Qn 13 rfl (F5 Pn rfl rfl (hvt.1) (C2 hsc)) (Qn 14 rfl (C8 Pn) (Qn 15 rfl (Qf sR) (Qn 16 rfl Hn (Qn 17 rfl (Qc rfl (Oo sc hfl t.name)) (Qn 18 rfl (Qf bK) (Qn 19 rfl B7 (Qn 20 rfl (Gz Nd) ?_)))))))))));refine aB 21 rfl (G5 (l:=ghx) (by kernel_rfl)) (by rintro _ _ ⟨b6,rfl,rfl⟩;simp) ?_;rintro _ _ ⟨b6,rfl,rfl⟩;refine iR 22 rfl (Mf 0 (.agg _) Nd (_::_::_::_) rfl) ?_;rintro _ _ ⟨rfl,rfl⟩;refine Ap (Cj (Qp (Qf Po) (Qp Eg ?_)));refine Qp (G6 t.kids.length rfl rfl (by simp)) ?_;refine Qp Jj (Br (fun hc6=>?_) fun hc6=>B8 (Ab (Tn 0 Nd rfl ?_)))
  .
   have h0:0<t.kids.length:=by have:=Ec hc6;omega
   refine AW.region (Qp (Qf Po) (Qp Eg ?_));refine Qp (F5 Aj rfl rfl (by decide) (Je (Hc h0))) ?_;refine Qp (C8 Aj) (Qp (Qc rfl (yY (Aq t 0))) (Qp Dg ?_));refine B4 0 Nd (_::_::_::_) (Cf (Tn 0 Nd rfl ?_));refine B4 1 Nd (_::_::_::_) (Ra ?_);refine ⟨.inr rfl,[.agg Nd],Zb 1,_,S2,?_⟩;exact ⟨Ye Of ((Hg T V t).trans (jG hc1 hc2 hc4 hc5 hsr hc6)),rfl⟩
  refine B4 1 Nd (_::_::_::_) (Ra ?_);refine ⟨.inr rfl,[.agg Nd],Zb 1,_,S2,?_⟩;exact ⟨Ye Of ((Hg T V t).trans (jH hc1 hc2 hc4 hc5 hsr hc6)),rfl⟩
 .
  refine Rt (D2 rfl ((rf_allE bp 126 _ t.kids (F4 (bA ht) (by decide)) 52 (by kernel_rfl) [.val (.pointer (some ⟨bp,0,none⟩))] (Dv T V) (fun a ha=>fun R=>ih a ha (N0 ht ha) ((Gr hw).2 a ha) R)).at (k:=1) (H2:=_::_::_) rfl rfl)) ?_;refine Qp (Gz Nd) ?_;refine B4 0 Nd (_::_::_) (Ra ?_);refine ⟨.inr rfl,[.agg Nd],Zb 0,_,S1,?_⟩;exact ⟨Ye Of ((Hg T V t).trans (jI hc1 hc2 hc4 hc5 hc7)),rfl⟩
 refine Oe ?_;refine Qn 0 rfl (Qf bK) (Qn 1 rfl B7 (Qn 2 rfl (Qf Po) (Qn 3 rfl Eg (Qn 4 rfl B3 (Qn 5 rfl (Ca (l:=[.val _]) (l':=[]) rfl rfl) ?_)))));refine Qz 6 rfl (D2 rfl ((rf_allE bp 126 _ t.kids (F4 (bA ht) (by decide)) 52 (by kernel_rfl) [.val (.pointer (some ⟨bp,0,none⟩))] (Dv T V) (fun a ha=>fun R=>ih a ha (N0 ht ha) ((Gr hw).2 a ha) R)).at (k:=1) (H2:=_::_::_) rfl rfl)) ?_;refine Qn 7 rfl (Gz Nd) ?_;refine Qz 8 rfl (Mf 0 (.agg _) Nd (_::_::_) rfl) ?_;refine Jr ?_;refine Ap (AW.ret ?_);refine ⟨.inr rfl,[.agg Nd],Zb 0,_,S1,?_⟩;exact ⟨Ye Of ((Hg T V t).trans (jJ hc1 hc2 hc4 hc5 hc7)),rfl⟩
theorem perm_last3 (a b c d:HO)(H:List HO):List.Perm (a::b::c::d::H) (b::c::d::a::H):=by
 have h1:List.Perm (a::b::c::d::H) (b::a::c::d::H):=List.Perm.swap ..;have h2:List.Perm (a::c::d::H) (c::a::d::H):=List.Perm.swap ..;have h3:List.Perm (a::d::H) (d::a::H):=List.Perm.swap ..;exact (h1.trans (h2.cons b)).trans ((h3.cons c).cons b)
theorem rf_decH (T:List e8Sc)(V:List Va)(t:Syn)(v:Value)(bp bn:Nat)(H:List HO):(.row v ((V ++ [K9 T t]).map U6).length 60 2 :: .box bp 126 [.sl 2 (T.map Oh),.smapv (Ty (H4 T)),.row v 2 ((V ++ [K9 T t]).map U6),.val (.map (some bn)),.int .i64 0,.int .i64 0] :: .smap bn (Ty (H5 (V ++ [K9 T t])))::H:List HO) = .row v (V.map U6 ++ [U6 (K9 T t)]).length 60 2 :: .box bp 126 [.sl 2 (T.map Oh),.smapv (Ty (H4 T)),.row v 2 (V.map U6 ++ [U6 (K9 T t)]),.val (.map (some bn)),.int .i64 0,.int .i64 0] :: .smap bn (Ty (H5 V ++ [t.name]))::H:=by
 simp [K9]
theorem Xv (T:List e8Sc)(hl:T.length<=1048576)(hd:(H4 T).Nodup)(H:List HO):Cc Tryz.prog 44 H [.sl 2 (T.map Oh)] (fun r H'=>∃b bn,r = .val (.pointer (some ⟨b,0,none⟩))/\H' = .box b 126 [.sl 2 (T.map Oh),.smapv (Ty (H4 T)),.val (.slice none 0 0),.val (.map (some bn)),.int .i64 0,.int .i64 0] :: .smap bn []::H):=by
 refine Jz 27 Tryz.func44 rfl ?_;refine AW.ghostPost (Ab (Qp Tm (Cf (Qp Ng (Qe (Jm) ?_)))));rintro _ _ ⟨b7,rfl,rfl⟩;refine Qe (Jm) ?_;rintro _ _ ⟨b8,rfl,rfl⟩;refine Qp (Kj (l0:=[.val (.slice none 0 0),.val (.map none),.val (.slice none 0 0),.val (.map none),.int .i64 0,.int .i64 0]) (l:=[_,_,_,_,Iq _,Iq _]) tok rfl rfl (by kernel_rfl) rfl) ?_;refine Qe (E_box (v:=.agg _) (cs:=[_,_,_,_,Iq _,Iq _]) rfl rfl (rfl)) ?_;rintro _ _ ⟨b10,rfl,rfl⟩;refine Qp Tm (A7 (Cj (Qp Ng ?_)));refine Qp (G6 T.length rfl rfl (by simp)) ?_;refine Qp Ax (A7 (AW.block ?_));refine AW.Aan (fun (k:Nat)=>(⟨[(3,.val (.pointer (some ⟨b10,0,none⟩))),(11,.sl 2 (T.map Oh)),(12,.int .i64 T.length),(13,.int .i64 (k:Int))],.box b10 126 [.sl 2 (T.map Oh),.val (.map (some b7)),.val (.slice none 0 0),.val (.map (some b8)),.int .i64 0,.int .i64 0] :: .smap b8 [] :: .smap b7 (Ty (H4 (T.take k)))::H,27⟩:St)) (fun k=>k<=T.length) (fun k=>T.length-k) (0) ?_ Dp ?_
 . exact Bk _
 rintro k hR;refine Ab (Qp C5 (Re (Hs (fun hc1=>?_) fun hc1=>?_)))
 .
  obtain ⟨a,ha⟩:=De hc1;have hlt:=Ch ha;have hm:=Ak ha;refine B8 (AW.seq (AW.block (Ab (Qp Ax ?_))));refine Qp (F5 Pn rfl rfl (by omega) (C2 ha)) ?_;refine Qp (C8 Pn) (E8 [.str [],.sl 2 []] fun b5=>Qp A3 ?_);refine B4 0 Pn (_::_::_::_::_) ?_;refine Me 5 0 rfl ?_;refine A7 (T6 0 rfl (Qn 0 rfl B3 (Qn 1 rfl (Aa rfl) (Qn 2 rfl Dg (Qn 3 rfl (Nc (.val _) rfl) (Qn 4 rfl (Qf Pn) (Qn 5 rfl Hn (Qn 6 rfl Ax ?_))))))));refine iR 7 rfl (uX (i:=2) (ks:=H4 (T.take k)) (H2:=_::_::_::_) tok rfl rfl rfl rfl rfl rfl rfl rfl (by simp;omega) (nm_new hd ha) rfl) ?_;rintro _ _ ⟨rfl,rfl⟩;refine Km (Ap (AW.region (Qp Ii (Qp Ax (A7 ?_)))));refine ⟨k+1,?_,?_,GS.trans (GS.heq (congrArg (fun ns:List Ac=>(_::_ :: .smap b7 (Ty ns)::_:List HO)) (nm_take ha))) Dp⟩
  . exact hlt
  omega
 have hte:=F1 hc1;refine AW.exit ?_;refine B9 (Ri (Ab (Qp B3 (Qp Tm (Rb ?_)))));refine ⟨_,GS.freezeSMapCell 2 0 1 rfl rfl rfl rfl rfl,.inr rfl,[.val _],.cons (.tmp _ _ rfl) <| .nil,_,.refl _,?_⟩;exact ⟨b10,b8,rfl,congrArg (fun Q:List e8Sc=>(.box b10 126 [.sl 2 (T.map Oh),.smapv (Ty (H4 Q)),.val (.slice none 0 0),.val (.map (some b8)),.int .i64 0,.int .i64 0] :: .smap b8 []::H:List HO)) hte⟩
abbrev bP (q:Fa):AV:=AV.agg (rR q)
theorem rf_declare (T:List e8Sc)(V:List Va)(hV:V.length<=16)(v:Value)(bp bn:Nat)(t:Syn)(H:List HO):Cc Tryz.prog 47 (.row v ((V).map U6).length 60 2 :: .box bp 126 [.sl 2 (T.map Oh),.smapv (Ty (H4 T)),.row v 2 ((V).map U6),.val (.map (some bn)),.int .i64 0,.int .i64 0] :: .smap bn (Ty (H5 (V)))::H) [.val (.pointer (some ⟨bp,0,none⟩)),.agg (cSyn t)] (fun r H'=>∃v',r = .agg (rR (dFa T V t))/\H' = .row v' ((dV T V t).map U6).length 60 2 :: .box bp 126 [.sl 2 (T.map Oh),.smapv (Ty (H4 T)),.row v' 2 ((dV T V t).map U6),.val (.map (some bn)),.int .i64 0,.int .i64 0] :: .smap bn (Ty (H5 (dV T V t)))::H):=by
 refine Jz 75 Tryz.func47 rfl ?_;refine Ab (Qp (Ji Aj) (E8 oF fun b4=>Re (T6 2 rfl (Qn 0 rfl B3 (Qn 1 rfl (Aa rfl) (Qn 2 rfl Dg (Qn 3 rfl (Nc (.smapv _) rfl) (Qn 4 rfl (Qf Zr) (Qn 5 rfl Hn ?_)))))))));refine Qn 6 rfl (jX (es:=Ty (H4 T)) tok rfl rfl rfl rfl rfl (by kernel_rfl) rfl rfl (Xz _ _ rfl) (smI_is _ _)) ?_;refine Qn 7 rfl Wz (Qn 8 rfl Wt (Qn 9 rfl oB (Qn 10 rfl A3 (Qn 11 rfl Bl ?_))));refine Jr ?_;refine Ap (AW.seq ?_);refine AW.draw mixed (fun H'=>_∈H'/\_∈H') ⟨(Ak (i:=2) rfl),(Ak (i:=3) rfl)⟩ (by kernel_rfl) ?_;refine Qn 0 rfl B3 (Qn 1 rfl (Aa rfl) (Qn 2 rfl Dg (Qn 3 rfl (D1.mem (fun k=>Fb (k:=k) (c:=.val _) tok rfl rfl rfl rfl) (fun _ h=>h.1)) ?_)));refine Qn 4 rfl (Qf sR) (Qn 5 rfl Hn ?_);refine Qn 6 rfl (D1.mem (fun k=>P_slookOk (i:=k) (es:=Ty (H5 V)) tok rfl rfl rfl rfl rfl (by kernel_rfl) rfl rfl (Xz _ _ rfl) (smI_is _ _)) (fun _ h=>h.2)) ?_;refine Qn 7 rfl Wz (Qn 8 rfl Wt (Qn 9 rfl oB (Qn 10 rfl A3 (Qn 11 rfl Bl ?_))));refine Jr ?_;refine Ap (AW.seq (AW.block (Ab (Qp B3 (Qp (Aa rfl) (Qp Dg (Ua 2 (.row _ _ _) rfl ?_)))))));refine Qp (Ho (n:=V.length) tok rfl rfl rfl (by simp)) ?_;refine Qp Bv (Qp Bl (Br (fun hc1=>Ab (Qp (Qf [Iq _]) (Qp B7 (Qp (Gz Jb) ?_)))) fun hc1=>Ab (Qp Cw (Qp Ke (Qp Bl (Br (fun hc2=>Ab (Qp (Qf [Iq _]) (Qp B7 (Qp (Gz Jb) ?_)))) fun hc2=>?_))))))
 .
  refine B4 0 Jb (_::_::_::_::_) (Ra ?_);refine ⟨.inr rfl,[.agg Jb],Zb 0,_,S1,?_⟩;have hx:=dFa_no (T:=T) (V:=V) (t:=t) (dec_1 hc1) (by decide);exact ⟨v,Ye bP hx.1,congrArg (fun Q:List Va=>(.row v ((Q).map U6).length 60 2 :: .box bp 126 [.sl 2 (T.map Oh),.smapv (Ty (H4 T)),.row v 2 ((Q).map U6),.val (.map (some bn)),.int .i64 0,.int .i64 0] :: .smap bn (Ty (H5 (Q)))::H:List HO)) hx.2.symm⟩
 .
  refine B4 0 Jb (_::_::_::_::_) (Ra ?_);refine ⟨.inr rfl,[.agg Jb],Zb 0,_,S1,?_⟩;have hx:=dFa_no (T:=T) (V:=V) (t:=t) (dec_2 hc1 hc2) (by decide);exact ⟨v,Ye bP hx.1,congrArg (fun Q:List Va=>(.row v ((Q).map U6).length 60 2 :: .box bp 126 [.sl 2 (T.map Oh),.smapv (Ty (H4 T)),.row v 2 ((Q).map U6),.val (.map (some bn)),.int .i64 0,.int .i64 0] :: .smap bn (Ty (H5 (Q)))::H:List HO)) hx.2.symm⟩
 refine Ab (Qp Cw (Qp Bl (Br (fun hc3=>Ab (Qp (Qf [Iq _]) (Qp B7 (Qp (Gz Jb) ?_)))) fun hc3=>Rf (AW.seq (T6 2 rfl (Qn 0 rfl B3 (Qn 1 rfl (Aa rfl) (Qn 2 rfl Dg (Qn 3 rfl (Nc (.val _) rfl) (Qn 4 rfl (Qf sR) (Qn 5 rfl Hn (Qn 6 rfl B3 (Qn 7 rfl (Aa rfl) (Qn 8 rfl Dg (Qn 9 rfl (Nc (.row _ _ _) rfl) ?_)))))))))))))))
 .
  refine B4 0 Jb (_::_::_::_::_) (Ra ?_);refine ⟨.inr rfl,[.agg Jb],Zb 0,_,S1,?_⟩;have hx:=dFa_no (T:=T) (V:=V) (t:=t) (dec_3 hc1 hc2 hc3) (by decide);exact ⟨v,Ye bP hx.1,congrArg (fun Q:List Va=>(.row v ((Q).map U6).length 60 2 :: .box bp 126 [.sl 2 (T.map Oh),.smapv (Ty (H4 T)),.row v 2 ((Q).map U6),.val (.map (some bn)),.int .i64 0,.int .i64 0] :: .smap bn (Ty (H5 (Q)))::H:List HO)) hx.2.symm⟩
 refine Qn 10 rfl (Ho (n:=V.length) tok rfl rfl rfl (by simp)) ?_;refine iR 11 rfl (uX (i:=3) (ks:=H5 V) (H2:=_::_::_::_::_) tok rfl rfl rfl rfl rfl rfl rfl rfl (by simp) hc3 rfl) ?_;rintro _ _ ⟨rfl,rfl⟩;refine Ap (AW.seq (T6 2 rfl (Qn 0 rfl B3 (Qn 1 rfl B3 (Qn 2 rfl (Aa rfl) (Qn 3 rfl Dg (Qn 4 rfl (Nc (.row _ _ _) rfl) (Qn 5 rfl (Qf sR) (Qn 6 rfl Hn (Qn 7 rfl Ax (Qn 8 rfl (Gz J6) (Qn 9 rfl (Kf [J6] rfl) ?_))))))))))));refine aB 10 rfl (Zq 1 rfl (Ff rfl) (scVa V) (by simp;omega) (by simp [maxLen];omega)) (by rintro _ _ ⟨v71,rfl,rfl⟩;simp) ?_;rintro _ _ ⟨v71,rfl,rfl⟩;refine Qn 11 rfl (Aa rfl) (Qn 12 rfl Dg ?_);refine iR 13 rfl (Mf 2 (.row _ _ _) [_,_,_,_,Iq _,Iq _] (_::_::_::_::_) rfl) ?_;rintro _ _ ⟨rfl,rfl⟩;refine Ap (Ab (Qp (Qc rfl (Te)) ?_));refine B4 0 Jb (_::_::_::_::_) (Rb ?_);refine ⟨.inr rfl,[.agg Jb],Zb 0,_,S1,?_⟩;have hx:=dFa_yes (T:=T) (V:=V) (t:=t) (dec_4 hc1 hc2 hc3);refine ⟨v71,Ye bP hx.1,Eq.trans ?_ (congrArg (fun Q:List Va=>(.row v71 ((Q).map U6).length 60 2 :: .box bp 126 [.sl 2 (T.map Oh),.smapv (Ty (H4 T)),.row v71 2 ((Q).map U6),.val (.map (some bn)),.int .i64 0,.int .i64 0] :: .smap bn (Ty (H5 (Q)))::H:List HO)) hx.2.symm)⟩;exact (rf_decH T V t v71 bp bn H).symm
theorem rf_eachD (T:List e8Sc)(V0:List Va)(hV0:V0.length<=16)(v0:Value)(bp bn:Nat)(l:List Syn)(hl:l.length<=1048576)(H:List HO):Cc Tryz.prog 45 (.row v0 ((V0).map U6).length 60 2 :: .box bp 126 [.sl 2 (T.map Oh),.smapv (Ty (H4 T)),.row v0 2 ((V0).map U6),.val (.map (some bn)),.int .i64 0,.int .i64 0] :: .smap bn (Ty (H5 (V0)))::H) [.sl 6 (l.map Df),.fn (.func 47) [.val (.pointer (some ⟨bp,0,none⟩))] []] (fun r H'=>∃v',r = .agg (rR (K8 T V0 l).2)/\H' = .row v' (((K8 T V0 l).1).map U6).length 60 2 :: .box bp 126 [.sl 2 (T.map Oh),.smapv (Ty (H4 T)),.row v' 2 (((K8 T V0 l).1).map U6),.val (.map (some bn)),.int .i64 0,.int .i64 0] :: .smap bn (Ty (H5 ((K8 T V0 l).1)))::H):=by
 refine Jz 23 Tryz.func45 rfl ?_;refine Ab (E8 oF fun b4=>A7 (Cj (Qp Ng ?_)));refine Qp (G6 l.length rfl rfl (by simp)) ?_;refine Qp Ax ?_;refine AOL.ghost (GS.perm (perm_last3 _ _ _ _ _)) ?_;refine A7 (AW.block ?_);refine AW.Aan (fun (q:Nat×List Va×Value)=>(⟨[(0,.sl 6 (l.map Df)),(1,.fn (.func 47) [.val (.pointer (some ⟨bp,0,none⟩))] []),(4,.val (.pointer (some ⟨b4,0,none⟩))),(8,.sl 6 (l.map Df)),(9,.int .i64 l.length),(10,.int .i64 (q.1:Int))],.row q.2.2 ((q.2.1).map U6).length 60 2 :: .box bp 126 [.sl 2 (T.map Oh),.smapv (Ty (H4 T)),.row q.2.2 2 ((q.2.1).map U6),.val (.map (some bn)),.int .i64 0,.int .i64 0] :: .smap bn (Ty (H5 (q.2.1))) :: .box b4 72 oF::H,23⟩:St)) (fun q=>q.1<=l.length/\q.2.1.length<=16/\K8 T V0 l=K8 T q.2.1 (l.drop q.1)) (fun q=>l.length-q.1) ((0,V0,v0)) ?_ Dp ?_
 . exact ⟨Bk _,hV0,rfl⟩
 rintro q hR;refine Ab (Qp C5 (Re (Hs (fun hc1=>?_) fun hc1=>?_)))
 .
  obtain ⟨a,ha⟩:=De hc1;have hlt:=Ch ha;have hm:=Ak ha;refine B8 (AW.seq (AW.block (Ab ?_)));refine Qp (F5 Aj rfl rfl (by omega) (Je ha)) ?_;refine Qp (C8 Aj) ?_;refine E8 Kb fun b6=>?_
  refine B4 0 Aj (_::_::_::_::_::_) ?_;refine Me 6 0 rfl ?_;refine Cf (Qp (Ai (v:=.fn _ _ _) rfl) (Qp (C8 Aj) ?_));refine Qe (Ms (by kernel_rfl) rfl rfl rfl (Cc.front3 (R:=_::_) 2 1 0 rfl rfl rfl rfl (rf_declare T q.2.1 hR.2.1 q.2.2 bp bn a _))) ?_;rintro _ _ ⟨v16,rfl,rfl⟩;refine E8 oF fun b7=>?_
  refine B4 0 Jb (_::_::_::_::_::_) ?_;refine Me 7 0 rfl ?_;refine Cf (Qp (Qf [Iq _]) (Qp B7 (Qp Cq (Br (fun hc2=>Ab (Qp (C8 Jb) ?_)) fun hc2=>Rf (AW.region (Qp Ii (Qp Ax (A7 ?_))))))))
  .
   refine B4 3 Jb (_::_::_::_::_) (Ra (Bc (Ep (Bc ?_))));refine ⟨.inr rfl,[.agg Jb],.cons (.box _ _ _ 3 _ _ _ _ rfl rfl rfl rfl rfl rfl) <| .nil,_,.cons_cons _ (.cons_cons _ (.cons_cons _ (.cons _ (.refl _)))),?_⟩;have hx:=hR.2.2.trans (decS_hit ha hc2);exact ⟨v16,by rw [hx];rfl,by rw [hx]⟩
  refine ⟨(q.1+1,dV T q.2.1 a,v16),?_,?_,Dp⟩
  . exact ⟨hlt,dV_len hR.2.1,hR.2.2.trans (decS_on ha hc2)⟩
  simp only;omega
 have hde:=Hk hc1;have hall:=hR.2.2;rw [hde] at hall;refine AW.exit ?_;refine B9 (Ri (Ab ?_));refine Qp (Qc rfl (Te)) ?_;refine B4 3 Jb (_::_::_::_::_) (Rb ?_);refine ⟨.inr rfl,[.agg Jb],.cons (.box _ _ _ 3 _ _ _ _ rfl rfl rfl rfl rfl rfl) <| .nil,_,.cons_cons _ (.cons_cons _ (.cons_cons _ (.cons _ (.refl _)))),?_⟩;have hx:K8 T V0 l=(q.2.1,Np):=hall;exact ⟨q.2.2,by rw [hx];rfl,by rw [hx]⟩
theorem rf_events (t:Syn)(ht:aZ t)(hc:Ag t .pats=0):Au Tryz.prog 46 [.agg (cSyn t)] (.sl 6 ((Lb t).map Df)):=by
 induction t using Syn.ind
 rename_i t ih;refine G3 45 Tryz.func46 rfl fun H=>?_
 refine Ab (Qp (Ji Aj) (Qp (Ck (z:=6) rfl) (A7 (Cj (Qp (Qf Aj) (Qp B7 (A7 (AW.block (Ab (Qp Bv (Qp Bl (Br (fun hc1=>Ab (Qp (C8 Aj) (Qp (Kf [Aj] rfl) (Qp rL (Ra (Qr (.sl _ _) ?_)))))) fun hc1=>?_))))))))))))
 . exact Ye (AV.sl 6) (evs_1 hc1)
 have h5:t.kind≠5:=by simpa using hc1
 refine Ab (Qp Bv (Qp Bl (Br (fun hc2=>?_) fun hc2=>Ab (Qp Bv (Qp Bl (Br (fun hc3=>?_) fun hc3=>?_))))))
 .
  have h2:=M7 hc (.inl (by simpa using hc2));have hg0:=Hc (t:=t) (k:=0) (by omega);have hg1:=Hc (t:=t) (k:=1) (by omega);have hb2:=ev_kid (N0 ht (Ak hg0));refine AW.seq ?_;refine Oe ?_;refine Qn 0 rfl (Qf Po) (Qn 1 rfl Eg ?_);refine Qn 2 rfl (F5 Aj rfl rfl (by decide) (Je hg1)) ?_;refine Qn 3 rfl (C8 Aj) (Qn 5 rfl (Qf Po) (Qn 6 rfl Eg ?_));refine Qn 7 rfl (F5 Aj rfl rfl (by decide) (Je hg0)) ?_;refine Qn 8 rfl (C8 Aj) (Qn 9 rfl (Qc rfl (ih _ (Ak hg0) (N0 ht (Ak hg0)) (Y8 hc h5 hg0 fun _=>rfl))) ?_);refine Sef 4 rfl (Jl (es:=[Aj]) tok rfl rfl rfl rfl rfl rfl rfl rfl rfl) ?_;rintro _ _ ⟨v18,rfl,rfl⟩;refine Sef 10 rfl (Zq 0 rfl (scSyn _) (Ff rfl) (by simp at hb2 ⊢;omega) (by simp [maxLen] at hb2 ⊢;omega)) ?_;rintro _ _ ⟨v24,rfl,rfl⟩;refine Qn 11 rfl (An (v:=.row _ _ _) rfl) ?_;refine Jr ?_;refine Ap ?_;refine AW.ghost (GS.unrow 2 rfl) ?_;refine AW.ret (Ep (Bc ?_));refine Yx [.sl _ _] Ze S1 ?_;exact Ye (AV.sl 6) (evs_2 hc1 hc2 (by omega))
 .
  have h2:=M7 hc (.inr (by simpa using hc3));have hg0:=Hc (t:=t) (k:=0) (by omega);refine Ab (Qp (Qf Po) (Qp Eg ?_));refine Qp (F5 Aj rfl rfl (by decide) (Je hg0)) ?_;refine Qp (C8 Aj) (Qp (Qc rfl (ih _ (Ak hg0) (N0 ht (Ak hg0)) (Y8 hc h5 hg0 fun _=>rfl))) ?_);refine Qp rL (Ra (Qr (.sl _ _) ?_));exact Ye (fun q:List Syn=>AV.sl 6 (q.map Df)) (evs_3 hc1 hc2 hc3 (by omega))
 have hn:¬(t.kind=10\/t.kind=12):=fun hq=>hq.elim (by simpa using hc2) (by simpa using hc3)
 have hkl:=bA ht;refine Rf (Ab (Qp Tm ?_));refine AOL.ghost (GS.row (t:=3) 25 6 rfl) ?_;refine A7 (Cj (Qp (Qf Po) (Qp Eg ?_)));refine Qp (G6 t.kids.length rfl rfl (by simp)) ?_;refine Qp Ax (A7 (AW.block ?_));refine AW.Aan (fun (p:Nat×List (List AV)×Value)=>(⟨[(1,.ptr (cSyn t)),(3,.row p.2.2 6 p.2.1),(33,.sl 6 (t.kids.map Df)),(34,.int .i64 t.kids.length),(35,.int .i64 (p.1:Int))],.row p.2.2 p.2.1.length 25 6::H,45⟩:St)) (fun p=>p.1<=t.kids.length/\p.2.1=((t.kids.take p.1).flatMap Lb).map Df) (fun p=>t.kids.length-p.1) ((0,[],.slice none 0 0)) ?_ Dp ?_
 . exact ⟨Bk _,rfl⟩
 rintro p hR;refine Ab (Qp C5 (Re (Hs (fun hc4=>?_) fun hc4=>?_)))
 .
  obtain ⟨a,ha⟩:=De hc4;have hlt:=Ch ha;have hm:=Ak ha;have hsc:∀c∈p.2.1,Av c=true:=by rw [hR.2];exact scSyn _
  have hb1:p.2.1.length<=1000000:=by rw [hR.2];exact ev_part ht _
  have hb2:=ev_kid (N0 ht hm);refine B8 (AW.seq (AW.block (Ab ?_)));refine Qp (F5 Aj rfl rfl (by omega) (Je ha)) ?_;refine Qp (C8 Aj) ?_;refine E8 Kb fun b5=>?_
  refine B4 0 Aj (_::_::_) ?_;refine Me 5 0 rfl ?_;refine A7 (AW.region (Qp (Ai (v:=.row _ _ _) rfl) (Qp (C8 Aj) (Qp (Qc rfl (ih a hm (N0 ht hm) (Y8 hc h5 ha fun hq=>absurd hq hn))) ?_))));refine Qe (Zq 0 rfl (scSyn _) (hsc) (by simp at hb1 hb2 ⊢;omega) (by simp [maxLen] at hb1 hb2 ⊢;omega)) ?_;rintro _ _ ⟨v42,rfl,rfl⟩;refine Qp (An (v:=.row _ _ _) rfl) (Rk (AW.region (Qp Ii (Qp Ax (A7 ?_)))));refine ⟨(p.1+1,p.2.1++(Lb a).map Df,v42),?_,?_,Dp⟩
  . exact ⟨hlt,by simp only;rw [El ha,hR.2];simp⟩
  simp only;omega
 have hte:=F1 hc4;have hall:=hR.2;rw [hte] at hall;refine AW.exit ?_;refine B9 (Ri (Ab ?_));refine Qp (Ai (v:=.row _ _ _) rfl) ?_;refine AOL.ghost (GS.unrow 44 rfl) ?_;refine Qp rL (Rb ?_);refine Yx [.sl _ _] Ze S1 ?_;exact (congrArg (AV.sl 6) hall).trans (congrArg (fun q:List Syn=>AV.sl 6 (q.map Df)) (evs_4 hc1 hc2 hc3)).symm
theorem rf_ops  : Au Tryz.prog 94 [] (.mapv opL):=by
 refine G3 3 Tryz.func94 rfl fun H=>?_
 refine Ab (Qp Tm (Cf (Qe (dR) ?_)));rintro _ _ ⟨b1,rfl,rfl⟩;refine Rt (Fk (i:=0) (x:=Iq _) (H2:=_::_) tok rfl rfl rfl rfl rfl rfl rfl rfl rfl rfl) (Rt (Fk (i:=0) (x:=Iq _) (H2:=_::_) tok rfl rfl rfl rfl rfl rfl rfl rfl rfl rfl) (Rt (Fk (i:=0) (x:=Iq _) (H2:=_::_) tok rfl rfl rfl rfl rfl rfl rfl rfl rfl rfl) (Rt (Fk (i:=0) (x:=Iq _) (H2:=_::_) tok rfl rfl rfl rfl rfl rfl rfl rfl rfl rfl) (Rt (Fk (i:=0) (x:=Iq _) (H2:=_::_) tok rfl rfl rfl rfl rfl rfl rfl rfl rfl rfl) (Rt (Fk (i:=0) (x:=Iq _) (H2:=_::_) tok rfl rfl rfl rfl rfl rfl rfl rfl rfl rfl) (Rt (Fk (i:=0) (x:=Iq _) (H2:=_::_) tok rfl rfl rfl rfl rfl rfl rfl rfl rfl rfl) (Rt (Fk (i:=0) (x:=Iq _) (H2:=_::_) tok rfl rfl rfl rfl rfl rfl rfl rfl rfl rfl) ?_)))))));refine AOL.ghost (GS.freezeMap (t:=1) 0 rfl rfl) ?_;refine Qp (Ai (v:=.mapv _) rfl) (Qp (An (v:=.mapv _) rfl) (Rb (Qr (.mapv _) ?_)));rfl
theorem yW (T:List e8Sc)(V:List Va)(s:Nx)(hs:0<=s.scopes/\s.scopes<=3000000)(p:Pt)(bp pp:Nat)(H:List HO):Cc Tryz.prog 96 (.box pp 55 (cPt p) :: .box bp 126 (dU T V s)::H) [.val (.pointer (some ⟨bp,0,none⟩)),.val (.pointer (some ⟨pp,0,none⟩))] (fun r H'=>r = .tuple []/\H' = .box pp 55 (cPt { p with scope:=s.scopes }) :: .box bp 126 (dU T V ⟨s.next,s.scopes+1⟩)::H):=by
 refine Jz 18 Tryz.func96 rfl ?_;refine Ab (Qp B3 (Qp B3 ?_));refine Qp (Aa rfl) ?_;refine Qp Dg ?_;refine Ua 1 (Iq _) rfl ?_;refine Qp (Aa rfl) ?_;refine Qp Dg ?_;refine B4 0 Hp (_::_::_) ?_;refine A7 (AW.region (Qp B3 ?_));refine Qp (Aa rfl) ?_;refine Qp Dg ?_;refine Ua 1 (Iq _) rfl ?_;refine Qp Ii ?_;refine Qp (Aa rfl) ?_;refine Qp Dg ?_;refine B4 1 [_,_,_,_,Iq _,Iq _] (_::_::_) ?_;refine AOL.nil ?_;refine ⟨.inl rfl,[],.nil,_,.refl _,?_⟩;exact ⟨rfl,rfl⟩
theorem rf_bind (T:List e8Sc)(V:List Va)(s:Nx)(hs:0<=s.next/\s.next<=3000000)(p:Pt)(bp pp:Nat)(hrv:RvOK T V)(t:Syn)(ht:aZ t)(hw:0<t.kids.length->(Fr T V (Aq t 0)).err=0)(H:List HO):Cc Tryz.prog 95 (.box pp 55 (cPt p) :: .box bp 126 (dU T V s)::H) [.val (.pointer (some ⟨bp,0,none⟩)),.val (.pointer (some ⟨pp,0,none⟩)),.agg (cSyn t)] (fun r H'=>r = .tuple []/\H' = .box pp 55 (cPt { p with type:=Js (H4 T) t.text,var:=s.next,cond:=Iv T V t }) :: .box bp 126 (dU T V ⟨s.next+1,s.scopes⟩)::H):=by
 refine Jz 47 Tryz.func95 rfl ?_;refine Ab (Qp (Ji Aj) (Re (T6 1 rfl (Qn 0 rfl B3 (Qn 1 rfl B3 (Qn 2 rfl B3 (Qn 3 rfl B3 (Qn 4 rfl (Aa rfl) (Qn 5 rfl Dg (Qn 6 rfl (Nc (.smapv _) rfl) (Qn 7 rfl (Qf Zr) (Qn 8 rfl Hn ?_))))))))))));refine Qn 9 rfl (vA (es:=Ty (H4 T)) tok rfl rfl rfl rfl rfl (by kernel_rfl) rfl rfl (Xz _ _ rfl)) ?_;refine Qn 10 rfl B3 (Qn 11 rfl (Aa rfl) (Qn 12 rfl Dg (Qn 13 rfl (Nc (Iq _) rfl) (Qn 14 rfl (Qc rfl (yX)) (Qn 15 rfl (Aa rfl) (Qn 16 rfl Dg ?_))))));refine aB 17 rfl (Mf 0 (Iq _) Hp (_::_::_) rfl) (by rintro _ _ ⟨rfl,rfl⟩;simp) ?_;rintro _ _ ⟨rfl,rfl⟩;refine Qn 18 rfl (Aa rfl) (Qn 19 rfl Dg ?_);refine aB 20 rfl (Mf 0 (Iq _) Hp (_::_::_) rfl) (by rintro _ _ ⟨rfl,rfl⟩;simp) ?_;rintro _ _ ⟨rfl,rfl⟩;refine Qn 21 rfl (Aa rfl) (Qn 22 rfl Dg ?_);refine iR 23 rfl (Mf 0 (.agg _) Hp (_::_::_) rfl) ?_;rintro _ _ ⟨rfl,rfl⟩;refine Ap (Ab (Qp B3 (Qp (Aa rfl) (Qp Dg (Ua 1 (Iq _) rfl (Qp Ii (Qp (Aa rfl) (Qp Dg ?_))))))));refine B4 1 [_,_,_,_,Iq _,Iq _] (_::_::_) (Cf (Qp (Qf Po) (Qp Eg ?_)));refine Qp (G6 t.kids.length rfl rfl (by simp)) ?_;refine Qp Jj (Br (fun hc1=>?_) fun hc1=>AW.skip ?_)
 .
  have h0:0<t.kids.length:=by have:=Ec hc1;omega
  refine AW.region (Qp B3 (Qp B3 (Qp (Qf Po) (Qp Eg ?_))));refine Qp (F5 Aj rfl rfl (by decide) (Je (Hc h0))) ?_;refine Qp (C8 Aj) ?_;refine AOL.Aaq (C0 (k:=1) (by kernel_rfl) rfl rfl (tV T V ⟨s.next+1,s.scopes⟩ bp hrv (Aq t 0) (tE ht h0) (hw h0))) rfl rfl ?_;refine Qp (Aa rfl) (Qp Dg ?_);refine B4 0 Hp (_::_::_) (AOL.nil ?_);refine ⟨.inl rfl,[],.nil,_,.refl _,?_⟩;exact ⟨rfl,congrArg (fun q:Ex=>(.box pp 55 (cPt { p with type:=Js (H4 T) t.text,var:=s.next,cond:=q }) :: .box bp 126 (dU T V ⟨s.next+1,s.scopes⟩)::H:List HO)) (cond_1 hc1).symm⟩
 refine ⟨.inl rfl,[],.nil,_,.refl _,?_⟩;exact ⟨rfl,congrArg (fun q:Ex=>(.box pp 55 (cPt { p with type:=Js (H4 T) t.text,var:=s.next,cond:=q }) :: .box bp 126 (dU T V ⟨s.next+1,s.scopes⟩)::H:List HO)) (cond_2 hc1).symm⟩
theorem rf_allP (T:List e8Sc)(V:List Va)(s:Nx)(bp:Nat)(l:List Syn)(hl:l.length<=1048576)(hs:NxOK s (I7 l))(hf:∀a∈l,∀s:Nx,NxOK s (K7 a)->Bp Tryz.prog 50 bp 126 (dU T V s) (dU T V (Iy T V a s).2) [.val (.pointer (some ⟨bp,0,none⟩)),.agg (cSyn a)] (.agg (cPt (Iy T V a s).1))):Bp Tryz.prog 97 bp 126 (dU T V s) (dU T V (E0 T V l s).2) [.sl 6 (l.map Df),.fn (.func 50) [.val (.pointer (some ⟨bp,0,none⟩))] []] (.sl 14 ((E0 T V l s).1.map Xa)):=by
 intro H;refine Jz 22 Tryz.func97 rfl ?_;refine Ab (Qp (Ck (z:=14) rfl) (Cf (Qp Tm ?_)));refine AOL.ghost (GS.row (t:=5) 55 14 rfl) ?_;refine A7 (Cj (Qp Ng ?_));refine Qp (G6 l.length rfl rfl (by simp)) ?_;refine Qp Ax (A7 (AW.block ?_));refine AW.Aan (fun (q:Nat×List (List AV)×Value×Nx)=>(⟨[(0,.sl 6 (l.map Df)),(1,.fn (.func 50) [.val (.pointer (some ⟨bp,0,none⟩))] []),(5,.row q.2.2.1 14 q.2.1),(8,.sl 6 (l.map Df)),(9,.int .i64 l.length),(10,.int .i64 (q.1:Int))],.row q.2.2.1 q.2.1.length 55 14 :: .box bp 126 (dU T V q.2.2.2)::H,22⟩:St)) (fun q=>q.1<=l.length/\NxOK q.2.2.2 (I7 (l.drop q.1))/\q.2.1=(E0 T V (l.take q.1) s).1.map Xa/\q.2.2.2=(E0 T V (l.take q.1) s).2/\q.2.1.length<=q.1) (fun q=>l.length-q.1) ((0,[],.slice none 0 0,s)) ?_ Dp ?_
 . exact ⟨Bk _,hs,rfl,rfl,Be _⟩
 rintro q hR;refine Ab (Qp C5 (Re (Hs (fun hc1=>?_) fun hc1=>?_)))
 .
  obtain ⟨a,ha⟩:=De hc1;have hlt:=Ch ha;have hm:=Ak ha;have hsc:∀c∈q.2.1,Av c=true:=by rw [hR.2.2.1];exact scPt _
  have hnx:=nx_on (T:=T) (V:=V) ha hR.2.1;have hql:=hR.2.2.2.2;refine B8 (AW.seq (AW.block (Ab ?_)));refine Qp (F5 Aj rfl rfl (by omega) (Je ha)) ?_;refine Qp (C8 Aj) ?_;refine E8 Kb fun b7=>?_
  refine B4 0 Aj (_::_::_::_) ?_;refine Me 7 0 rfl ?_;refine A7 (AW.region (Qp (Ai (v:=.row _ _ _) rfl) (Qp (Ai (v:=.fn _ _ _) rfl) (Qp (C8 Aj) ?_))));refine Rt (Ms (by kernel_rfl) rfl rfl rfl ((hf a hm q.2.2.2 hnx.1).at (k:=1) (H2:=_::_::_) rfl rfl)) ?_;refine Qp (Kf [Hp] rfl) ?_;refine Qe (Zq 0 rfl (Ff rfl) (hsc) (by simp;omega) (by simp [maxLen];omega)) ?_;rintro _ _ ⟨v19,rfl,rfl⟩;refine Qp (An (v:=.row _ _ _) rfl) (Rk (AW.region (Qp Ii (Qp Ax (A7 ?_)))));refine ⟨(q.1+1,q.2.1 ++ [cPt (Iy T V a q.2.2.2).1],v19,(Iy T V a q.2.2.2).2),?_,?_,Dp⟩
  . exact ⟨hlt,hnx.2,by simp only;rw [yM ha,hR.2.2.1,<-hR.2.2.2.1];simp [rZ],by simp only;rw [yM ha,<-hR.2.2.2.1],by simp;omega⟩
  simp only;omega
 have hte:=F1 hc1;have hall:=hR.2.2.1;have hst:=hR.2.2.2.1;rw [hte] at hall hst;refine AW.exit ?_;refine B9 (Ri (Ab ?_));refine Qp (Ai (v:=.row _ _ _) rfl) ?_;refine AOL.ghost (GS.unrow 21 rfl) ?_;refine Qp rL (Rb ?_);refine ⟨.inr rfl,[.sl _ _],Ze,_,S1,?_⟩;exact ⟨Eq.trans rfl (congrArg (AV.sl 14) hall),congrArg (fun x:Nx=>(.box bp 126 (dU T V x)::H:List HO)) hst⟩
theorem rf_pattern (T:List e8Sc)(V:List Va)(s:Nx)(bp:Nat)(hrv:RvOK T V)(t:Syn)(ht:aZ t)(hc:Ag t .pats=0)(hw:(Fr T V t).err=0)(hs:NxOK s (K7 t)):Bp Tryz.prog 50 bp 126 (dU T V s) (dU T V (Iy T V t s).2) [.val (.pointer (some ⟨bp,0,none⟩)),.agg (cSyn t)] (.agg (cPt (Iy T V t s).1)):=by
 intro H
 revert H
 revert s
 induction t using Syn.ind
 rename_i t ih;intro s hs H;have hrg:=Ql hc;have hnx:=nxn_ok hs;refine Jz 59 Tryz.func50 rfl ?_;refine Ab (Qp (Ji Aj) (E8 ggz fun b4=>Re ?_));refine Oe ?_;refine Qn 0 rfl (Qc rfl (rf_ops)) (Qn 1 rfl (Qf Aj) (Qn 2 rfl B7 (Qn 3 rfl (bO tok rfl rfl rfl rfl rfl rfl (op_get hrg.1 hrg.2)) (Qn 4 rfl (Gz Hp) ?_))));refine Sef 5 rfl (G5 (l:=ggz) (by kernel_rfl)) ?_;rintro _ _ ⟨b5,rfl,rfl⟩;refine Qz 6 rfl (Mf 0 (.agg _) Hp (_::_::_::_) rfl) ?_;refine Jr ?_;refine Ap (Ab (Qp (Qf Po) (Qp Eg (Qp rL (A7 ?_)))));refine AW.Aat (fun (q:Pt×Nx×List Syn)=>(⟨[(0,.val (.pointer (some ⟨bp,0,none⟩))),(4,.val (.pointer (some ⟨b4,0,none⟩))),(5,.val (.pointer (some ⟨b5,0,none⟩))),(6,.sl 6 (q.2.2.map Df))],.box b5 55 (cPt q.1) :: .box bp 126 (dU T V q.2.1) :: .box b4 55 (cPt pt0)::H,59⟩:St)) (fun q=>q.1=Pu T V t s []/\q.2.1=Uq t s/\q.2.2=Cn t) ?_ ?_
 .
  refine Ab (Qp (Qf Aj) (Qp B7 (A7 (AW.block (Ab (Qp Bv (Qp Bl (Br (fun hc1=>Ab (Qp B3 (Qp (C8 Aj) ?_))) fun hc1=>Ab (Qp Bv (Qp Bl (Br (fun hc2=>?_) fun hc2=>Ab (Qp Bv (Qp Bl (Br (fun hc3=>Ab (Qp B3 ?_)) fun hc3=>Ab (Qp Bv (Qp Bl (Br (fun hc4=>?_) fun hc4=>Rf ?_)))))))))))))))))
  .
   refine Rt (D2 rfl (Cc.front2 (R:=_::_) 2 0 rfl rfl rfl (rf_bind T V s ⟨hs.a,by have:=hs.c;omega⟩ ⟨t.kind-5,[],0,0,0,0,wD⟩ bp b5 hrv t ht (fun h=>cM hw h) _))) ?_;refine A7 (AW.region (Qp (Ck (z:=6) rfl) (Rk ?_)));refine ⟨(⟨t.kind-5,[],Js (H4 T) t.text,s.next,0,0,Iv T V t⟩,⟨s.next+1,s.scopes⟩,[]),?_,GS.trans (GS.refl _) Dp⟩;exact ⟨pn_5 hc1,(nxn_5 hc1).symm,(pk_5 hc1).symm⟩
  .
   have h2:=M7 hc (.inl (by simpa using hc2));have h1:1<t.kids.length:=by omega
   refine Ab (Qp B3 ?_);refine Rt (D2 rfl (Cc.front2 (R:=_::_) 2 0 rfl rfl rfl (yW T V s ⟨hs.b,by have:=hs.d;omega⟩ ⟨t.kind-5,[],0,0,0,0,wD⟩ bp b5 _))) ?_;refine Cf (Qp B3 (Qp (Qf Po) (Qp Eg ?_)));refine Qp (F5 Aj rfl rfl (by decide) (Je (Hc h1))) ?_;refine Qp (C8 Aj) ?_;refine Rt (D2 rfl (Cc.front2 (R:=_::_) 1 0 rfl rfl rfl (rf_bind T V ⟨s.next,s.scopes+1⟩ ⟨hs.a,by have:=hs.c;simp only;omega⟩ ⟨t.kind-5,[],0,0,s.scopes,0,wD⟩ bp b5 hrv (Aq t 1) (tE ht h1) (fun h=>cM (cM hw h1) h) _))) ?_;refine A7 (AW.region (Qp (Qf Po) (Qp Eg ?_)));refine Qp (Qx (l:=0) (h:=1) tok rfl rfl rfl rfl rfl (rfl) (⟨_,rfl⟩) (by decide) (by rw [Bg];omega) ((by rw [T3,<-List.map_take]))) ?_;refine Qp rL (Rk ?_);refine ⟨(⟨t.kind-5,[],Js (H4 T) (Aq t 1).text,s.next,s.scopes,0,Iv T V (Aq t 1)⟩,⟨s.next+1,s.scopes+1⟩,t.kids.take 1),?_,GS.trans (GS.refl _) Dp⟩;exact ⟨pn_10 hc1 hc2,(nxn_10 hc2).symm,(pk_10 hc1 hc2).symm⟩
  .
   refine Rt (D2 rfl (Cc.front2 (R:=_::_) 2 0 rfl rfl rfl (yW T V s ⟨hs.b,by have:=hs.d;omega⟩ ⟨t.kind-5,[],0,0,0,0,wD⟩ bp b5 _))) ?_;refine A7 (AW.region (Qp (Qf bK) (Qp B7 (Qp Dg ?_))));refine B4 0 Hp (_::_::_::_) (Rk ?_);refine ⟨(⟨t.kind-5,[],0,0,s.scopes,t.num,wD⟩,⟨s.next,s.scopes+1⟩,t.kids),?_,GS.trans (GS.refl _) Dp⟩;exact ⟨pn_11 hc1 hc2 hc3,(nxn_11 hc3).symm,(pk_o hc1 hc2 (by have h:t.kind=11:=(by simpa using hc3);simp [h])).symm⟩
  .
   have h2:=M7 hc (.inr (by simpa using hc4));have h1:1<t.kids.length:=by omega
   refine Ab (Qp B3 (Qp (Qf Po) (Qp Eg ?_)));refine Qp (F5 Aj rfl rfl (by decide) (Je (Hc h1))) ?_;refine Qp (C8 Aj) ?_;refine AOL.Aaq (C0 (k:=2) (by kernel_rfl) rfl rfl (tV T V s bp hrv (Aq t 1) (tE ht h1) (cM hw h1))) rfl rfl ?_;refine Qp Dg ?_;refine B4 0 Hp (_::_::_::_) (A7 (AW.region (Qp (Qf Po) (Qp Eg ?_))));refine Qp (Qx (l:=0) (h:=1) tok rfl rfl rfl rfl rfl (rfl) (⟨_,rfl⟩) (by decide) (by rw [Bg];omega) ((by rw [T3,<-List.map_take]))) ?_;refine Qp rL (Rk ?_);refine ⟨(⟨t.kind-5,[],0,0,0,0,Dv T V (Aq t 1)⟩,s,t.kids.take 1),?_,GS.trans (GS.perm (List.Perm.cons _ (List.Perm.swap _ _ _))) Dp⟩;exact ⟨pn_12 hc1 hc2 hc3 hc4,(nxn_o hc1 hc2 hc3).symm,(pk_12 hc1 hc4).symm⟩
  refine ⟨(⟨t.kind-5,[],0,0,0,0,wD⟩,s,t.kids),?_,GS.trans (GS.perm (List.Perm.cons _ (List.Perm.swap _ _ _))) Dp⟩;exact ⟨(yP hc1 hc2 hc3 hc4).symm,(nxn_o hc1 hc2 hc3).symm,(pk_o hc1 hc2 hc4).symm⟩
 rintro ⟨p,s1,ks⟩ hQ;obtain ⟨h1,h2,h3⟩:=hQ;simp only at h1 h2 h3;subst h1 h2 h3;have hnk:NxOK (Uq t s) (I7 (Cn t)):=by have h:=iW t;have h9:=hnx.1;exact ⟨h9.a,h9.b,by have:=h9.c;omega,by have:=h9.d;omega⟩
 refine Ab (Qp Ng (Qp B3 (Qp (Ca (l:=[.val _]) (l':=[]) rfl rfl) (Rcl ((rf_allP T V _ bp (Cn t) (pk_len ht) hnk (fun a ha s hs=>fun R=>ih a (Kr ha) (N0 ht (Kr ha)) (M8 hc ha) ((Gr hw).2 a (Kr ha)) s hs R)).at (k:=1) (H2:=_::_::_::_) rfl rfl) ?_))));refine Qp Dg ?_;refine B4 0 Hp (_::_::_::_) (Cf (Tn 0 Hp rfl ?_));refine B4 2 Hp (_::_::_::_) (Rb ?_);refine ⟨.inr rfl,[.agg Hp],.cons (.box _ _ _ 2 _ _ _ _ rfl rfl rfl rfl rfl rfl) <| .nil,_,.cons _ (.cons_cons _ (.cons _ (.refl _))),?_⟩;exact ⟨Eq.trans rfl (congrArg (fun q:Pt×Nx=>AV.agg (cPt q.1)) (On t s).symm),congrArg (fun q:Pt×Nx=>(.box bp 126 (dU T V q.2)::H:List HO)) (On t s).symm⟩
end Go.Proofs.YtibcelnfkhdjaaaGreatDoor
namespace Go.Aw
open Go
section
variable {P:Program} {T:List (Nat×TD)} {d:Option Nat} {ty:TypeId} {pos:String} {aft:Array Edge} {gd:Option (Nat×Bool)} {ρ:Operand->AV}
end
end Go.Aw
namespace Go.Proofs.YtibcelnfkhdjaaaGreatDoor
open Go Go.Aw
theorem zF (H:List HO)(n:Nat)(h0:0<n)(hn:n<=1048576):Cc Tryz.prog 91 H [.sl 1 [[.int .i64 (-1)]],.int .i64 (n:Int)] (fun r H'=>∃b,r = .val (.slice (some ⟨b,0,none⟩) n n)/\H' = .box b 3 (bI (mD n))::H):=by
 have hmx:1048576<=maxLen:=by decide
 refine Jz 48 Tryz.func91 rfl ?_;refine Ab (Qp (Ck (z:=1) rfl) (A7 (Cj (Qp Ax (Qp C5 (Br (fun hc1=>?_) fun hc1=>?_))))))
 .
  have:=Ec hc1;omega
 refine B8 (Ab (Qp Ng (Qp (G6 1 rfl rfl (rfl)) (Qp (jV (m:=1) tok rfl rfl rfl rfl rfl (rfl)) (Qp Ax (Qp (jV (m:=(n:Int)) tok rfl rfl rfl rfl rfl (u64_in hn)) (Qp (Qc rfl (kMul1 n hn)) (Qp Wz (Qp (Bm (v:=.int .u64 _) rfl rfl) (Qp (Bm (v:=.int .u64 _) rfl rfl) (Qp (An (v:=.int .u64 _) rfl) (Qp (An (v:=.int .u64 _) rfl) (A7 (Cj (Qp (Ai (v:=.int .u64 _) rfl) (Qp Jj (Qp Cw (Qg [] Qw (Ai (v:=.int .u64 _) rfl) (Qg [(24,_)] Qw Jj (Qp G4 (Br (fun hc2=>?_) fun hc2=>B8 (Ab (Qp (Ai (v:=.int .u64 _) rfl) (Qp (jV (m:=(n:Int)) tok rfl rfl rfl rfl rfl (i64_in hn)) ?_))))))))))))))))))))))))
 . exact absurd hc2 (by simp;omega)
 refine Qe (uV (n:=n) tok rfl rfl rfl rfl rfl rfl rfl (by show 8*n<=_;omega) (by omega)) ?_;rintro _ _ ⟨b30,rfl,rfl⟩;refine Qp Tm ?_;refine AOL.ghost (GS.cells 0 rfl ((bI_zero n).trans (congrArg bI (show List.replicate n 0=Sb n 0 by simp [Sb])))) ?_;refine Cf (Qp B3 (Qp Ng ?_));refine Rt (E_copySl (k:=0) (m:=1) (cs':=bI (Sb n 1)) (H2:=_::_) tok rfl rfl rfl rfl rfl rfl rfl (by simp) (Ff rfl) (Nat.min_eq_left (by show 1<=n;omega)) (by rw [kC,mZ (by omega)];omega) (repL_first h0) rfl) ?_;refine Qp A3 (Re (AW.block ?_));refine AW.Aan (fun (k:Nat)=>(⟨[(7,.val (.slice (some ⟨b30,0,none⟩) n n)),(8,.int .i64 (k:Int))],.box b30 3 (bI (Sb n k))::H,48⟩:St)) (fun k=>1<=k/\k<=n) (fun k=>n-k) (1) ?_ Dp ?_
 . exact ⟨Be _,h0⟩
 rintro k hR;refine Cj (Qp Ax (Qp B3 (Qp (P_len_val tok rfl rfl rfl) (Qp C5 (Br (fun hc3=>?_) fun hc3=>?_)))))
 .
  have hlt:k<n:=by have:=Ec hc3;omega
  refine B8 (AW.block ?_);refine Oe ?_;refine Qn 0 rfl Ax (Qn 1 rfl B3 (Qn 2 rfl Ax ?_));refine Qn 3 rfl (gN (l:=k) (h:=n) (o':=k) tok rfl rfl rfl rfl rfl (⟨_,rfl⟩) (rfl) (by omega) (by omega) (by omega) (by omega) (by simp)) ?_;refine Qn 4 rfl B3 (Qn 5 rfl Ax ?_);refine Qn 6 rfl (gN (l:=0) (h:=k) (o':=0) tok rfl rfl rfl rfl rfl (rfl) (⟨_,rfl⟩) (by omega) (by omega) (by omega) (by omega) (rfl)) ?_;refine Qz 7 rfl (E_copyVal (k:=0) (m:=min k (n-k)) (cs':=bI (Sb n (k+min k (n-k)))) (H2:=_::_) tok rfl rfl rfl rfl rfl rfl rfl (bI_sc _) (by first | rfl | (simp only [Nat.sub_zero];done) | (simp only [Nat.sub_zero];rfl)) (by rw [kC,mZ hR.2];omega) (by rw [kC,mZ hR.2];omega) (repL_copy (by omega) (by omega)) rfl) ?_;refine Qn 8 rfl Ii (Qn 9 rfl A3 ?_);refine Jr ?_;refine Km (Ap ?_);refine ⟨k+min k (n-k),?_,?_,Dp⟩
  . omega
  omega
 have hkn:k=n:=by have:=He hc3;omega
 refine AW.exit ?_;refine B9 (Ri (Ab (Qp B3 (Qp Tm (Rb ?_)))));refine ⟨.inr rfl,[.val _],Ze,_,S0,?_⟩;exact ⟨b30,rfl,congrArg (fun l=>HO.box b30 3 (bI l)::H) ((congrArg (Sb n) hkn).trans (repL_full n))⟩
abbrev vD (q:List Int×Bool):AV:=AV.tuple [.sl 1 (q.1.map cI),.bool q.2]
theorem rf_key (T:List e8Sc)(V:List Va)(s:Nx)(bp:Nat)(hrv:RvOK T V)(n:Ac)(hT:0<T.length):Bp Tryz.prog 48 bp 126 (dU T V s) (dU T V s) [.val (.pointer (some ⟨bp,0,none⟩)),.str n] (.tuple [.sl 1 ((Pf T V n).1.map cI),.bool (Pf T V n).2]):=by
 intro H;have htl:=hrv.tl;have hvl:=hrv.vl;refine Jz 47 Tryz.func48 rfl ?_;refine Ab (Qp (Ck (z:=1) rfl) (Qp Bl (Cf (Qp (Kf ([[Iq _]]) rfl) (Qp B3 (Qp (Aa rfl) (Qp Dg (Ua 0 (.sl _ _) rfl ?_))))))));refine Qp (G6 T.length rfl rfl (by simp)) ?_;refine Qe (D2 rfl (zF _ T.length hT hrv.tl)) ?_;rintro _ _ ⟨b15,rfl,rfl⟩;refine Qp Tm (A7 (Cj (Qp B3 (Qp (Aa rfl) (Qp Dg (Ua 1 (.sl _ _) rfl ?_))))));refine Qp (G6 V.length rfl rfl (by simp)) ?_;refine Qp Ax (A7 (AW.block ?_));refine AW.Aan (fun (q:Nat×List Int)=>(⟨[(0,.val (.pointer (some ⟨bp,0,none⟩))),(1,.str n),(6,.val (.slice (some ⟨b15,0,none⟩) T.length T.length)),(19,.sl 2 (V.map U6)),(20,.int .i64 V.length),(21,.int .i64 (q.1:Int))],.box b15 3 (bI q.2) :: .box bp 126 (dU T V s)::H,47⟩:St)) (fun q=>q.1<=V.length/\q.2.length=T.length/\Pf T V n=Tr T n (V.drop q.1) q.2) (fun q=>V.length-q.1) ((0,mD T.length)) ?_ Dp ?_
 . exact ⟨Bk _,by simp [mD],rfl⟩
 rintro q hR;refine Ab (Qp C5 (Re (Hs (fun hc1=>?_) fun hc1=>?_)))
 .
  obtain ⟨a,ha⟩:=De hc1;have hlt:=Ch ha;have hm:=Ak ha;have hvt:=hrv.ty a hm;refine (fX hrv hm).elim fun sc hsc=>?_
  have hfl:=hrv.fl sc (Ak hsc);have hb:a.type.toNat<q.2.length:=by have:=hR.2.1;omega
  refine B8 (AW.seq (AW.block (Ab ?_)));refine Qp (F5 J6 rfl rfl (by omega) (C2 ha)) ?_;refine Qp (C8 J6) (E8 gjy fun b8=>?_);refine B4 0 J6 (_::_::_::_) ?_;refine Me 8 0 rfl ?_;refine Re (T6 1 rfl (Qn 0 rfl B3 (Qn 1 rfl (Qf [Iq _]) (Qn 2 rfl B7 (Qn 3 rfl B3 (Qn 4 rfl (Aa rfl) (Qn 5 rfl Dg (Qn 6 rfl (Nc (.sl _ _) rfl) ?_))))))));refine Qn 7 rfl (Qf [Iq _]) (Qn 8 rfl B7 (Qn 9 rfl (F5 Pn rfl rfl (hvt.1) (C2 hsc)) (Qn 10 rfl (C8 Pn) (Qn 11 rfl Iw (Qn 12 rfl (Qc rfl (Oo sc hfl n)) (Qn 13 rfl (F7 (o':=a.type.toNat) tok rfl rfl rfl rfl rfl (hvt.1) (hvt.2) (off0 _)) ?_))))));refine iR 14 rfl (I0 (k:=0) (v:=Iq _) (cs':=bI (q.2.set a.type.toNat (Ei sc n))) (H2:=_::_::_) tok rfl rfl rfl rfl rfl rfl (bI_fits hb) (bI_set hb) rfl) ?_;rintro _ _ ⟨rfl,rfl⟩;refine Ap (Ab (Qp B3 (Qp (Qf [Iq _]) (Qp B7 (Qp (F7 (o':=a.type.toNat) tok rfl rfl rfl rfl rfl (hvt.1) (hvt.2) (off0 _)) (AOL.Aaq (Fb (k:=0) (c:=.int .i64 (Ei sc n)) tok rfl rfl rfl (oS hb)) rfl rfl (Qp C5 (Br (fun hc2=>Ab (Qp (Ck (z:=1) rfl) (Qp Bl (Ra (Bc (Ep (Bc ?_))))))) fun hc2=>Rf (AW.region (Qp Ii (Qp Ax (A7 ?_))))))))))))
  .
   refine ⟨.inr rfl,[.sl _ _,.bool _],Zf,_,S1,?_⟩;exact ⟨Ye vD (hR.2.2.trans (key_hit ha hsc hc2)),rfl⟩
  refine ⟨(q.1+1,q.2.set a.type.toNat (Ei sc n)),?_,?_,Dp⟩
  . exact ⟨hlt,by simp only [Ya];exact hR.2.1,hR.2.2.trans (key_on ha hsc hc2)⟩
  simp only;omega
 have hde:=Hk hc1;have hall:=hR.2.2;rw [hde] at hall;refine AW.exit ?_;refine B9 (Ri (Ab ?_));refine AOL.ghost (GS.freezeSl (t:=6) (z:=1) (es:=q.2.map cI) 0 rfl rfl (bI_flat _) (by rw [Bg];exact hR.2.1.symm) (Be _) (by unfold maxLen;omega) (xW (fun _=>rfl) _) slot_is) ?_;refine Qp Ng (Qp rL (Qp Bl (Rb ?_)));refine ⟨.inr rfl,[.sl _ _,.bool _],Zf,_,S0,?_⟩;exact ⟨Ye vD ((hall.trans (by rw [Tr]):Pf T V n=(q.2,true))),rfl⟩
theorem e8c52 (op:Int):Au Tryz.prog 162 [.int .i64 op] (.tuple [.bool (Lg op).1,.bool (Lg op).2]):=by
 refine G3 11 Tryz.func162 rfl fun H=>?_
 refine Ab (Qp Bl (Qp Bl (A7 (Cj (Qp Ax (A7 (AW.block (AW.seq ?_))))))));refine Ab (Qp Bv (Qp Bl (Br (fun hc1=>B8 (Hs (fun hc2=>Ab (Qp Bl (Qp Bl (Ra (Py (.bool _) (.bool _) ?_))))) fun hc2=>Cj (Qp Bv (Qp Bl (Br (fun hc3=>B8 (Hs (fun hc4=>Ab (Qp Bl (Qp Bl (Ra (Py (.bool _) (.bool _) ?_))))) fun hc4=>Rf (Ab (Qp Bl (Qp Bl (Rb (Py (.bool _) (.bool _) ?_))))))) fun hc3=>?_))))) fun hc1=>?_)))
 . simp_all [Af,Lg]
 . simp_all [Af,Lg]
 . simp_all [Af,Lg]
 .
  refine AW.region (Qp Bv (Qp Bl (Br (fun hc5=>Ab (Qp Bl (Qp Bl (Ra (Py (.bool _) (.bool _) ?_))))) fun hc5=>Rf (Ab (Qp Bl (Qp Bl (Rb (Py (.bool _) (.bool _) ?_))))))))
  . simp_all [Af,Lg]
  simp_all [Af,Lg]
 refine AW.region (Qp Bv (Qp Bl (Br (fun hc6=>Ab (Qp Bl (Qp Bl (Ra (Py (.bool _) (.bool _) ?_))))) fun hc6=>Cj (Qp Bv (Qp Bl (Br (fun hc7=>B8 (Hs (fun hc8=>Ab (Qp Bl (Qp Bl (Ra (Py (.bool _) (.bool _) ?_))))) fun hc8=>Rf (Ab (Qp Bl (Qp Bl (Rb (Py (.bool _) (.bool _) ?_))))))) fun hc7=>?_))))))
 . simp_all [Af,Lg]
 . simp_all [Af,Lg]
 . simp_all [Af,Lg]
 refine AW.region (Qp Bv (Qp Bl (Br (fun hc9=>Ab (Qp Bl (Qp Bl (Ra (Py (.bool _) (.bool _) ?_))))) fun hc9=>Rf (Ab (Qp Bl (Qp Bl (Rb (Py (.bool _) (.bool _) ?_))))))))
 . simp_all [Af,Lg]
 simp_all [Af,Lg]
theorem c81 (op:Int):Au Tryz.prog 161 [.int .i64 op] (.tuple [.int .i64 (U3 op),.bool (decide (0<=op/\op<=12))]):=by
 refine G3 17 Tryz.func161 rfl fun H=>?_
 refine Ab (Qp A3 (Qp Bl (Re (AW.block (Ab (Qp Ax (Qp C5 (Qp Cw (Qg [] Qw Ax (Qg [(8,_)] Qw Jj (Qp G4 (Qp Bl (Br (fun hc1=>Ab (Qp A3 (Qp Bl (Ra (Py (Iq _) (.bool _) ?_))))) fun hc1=>?_)))))))))))))
 .
  simp only [Hm,Ey,Cb,Jh,beq_iff_eq,Hz] at *;simp only [Af,U3,AV.tuple.injEq,List.cons.injEq,AV.int.injEq,AV.bool.injEq,true_and,and_true];refine ⟨?_,?_⟩
  .
   repeat' split
   all_goals omega
  simp <;> omega
 refine Ab (Qp Ax (Qp C5 (Qp Bl (Br (fun hc2=>Ab (Qp A3 (Qp Bl (Ra (Py (Iq _) (.bool _) ?_))))) fun hc2=>Ab (Qp Ax (Qp Bv (Qp Bl (Br (fun hc3=>Ab (Qp A3 (Qp Bl (Ra (Py (Iq _) (.bool _) ?_))))) fun hc3=>Rf (Ab (Qp A3 (Qp Bl (Rb (Py (Iq _) (.bool _) ?_)))))))))))))
 .
  simp only [Hm,Ey,Cb,Jh,beq_iff_eq,Hz] at *;simp only [Af,U3,AV.tuple.injEq,List.cons.injEq,AV.int.injEq,AV.bool.injEq,true_and,and_true];refine ⟨?_,?_⟩
  .
   repeat' split
   all_goals omega
  simp <;> omega
 .
  simp only [Hm,Ey,Cb,Jh,beq_iff_eq,Hz] at *;simp only [Af,U3,AV.tuple.injEq,List.cons.injEq,AV.int.injEq,AV.bool.injEq,true_and,and_true];refine ⟨?_,?_⟩
  .
   repeat' split
   all_goals omega
  simp <;> omega
 simp only [Hm,Ey,Cb,Jh,beq_iff_eq,Hz] at *;simp only [Af,U3,AV.tuple.injEq,List.cons.injEq,AV.int.injEq,AV.bool.injEq,true_and,and_true];refine ⟨?_,?_⟩
 .
  repeat' split
  all_goals omega
 simp <;> omega
theorem c107 (v:Vl):Au Tryz.prog 216 [.agg (cV v)] (.int .i64 (bD v)):=by
 refine G3 36 Tryz.func216 rfl fun H=>?_
 refine Ab (Qp (Ji Z0) (Qp A3 (Re (AW.block (Ab (Qp Qf5 (Qp B7 (Qp Bv ?_))))))));refine Qp Cw (Qg [] Qw Qf6 (Qg [(8,_)] Qw B7 (Qg [(9,_)] Qw C5 (Qg [(10,_)] Qw Cw (Qg [] Qw Qf6 (Qg [(12,_)] Qw B7 (Qg [(13,_)] Qw Jj (Qg [(11,_),(14,_)] Qw G4 (Qp Mu ?_)))))))));refine Qp Bl (Br (fun hc1=>Ab (Qp A3 (Ra (Qr (Iq _) ?_)))) fun hc1=>Ab (Qp Qf5 (Qp B7 (Qp Bv (Qp Cw (Qg [] Qw Qf6 (Qg [(22,_)] Qw B7 (Qg [(23,_)] Qw Cq (Qp Mu (Qp Cw ?_))))))))))
 .
  try simp only [Mr,Dt] at *
  (simp only [Af,bD];rw [if_pos hc1];done)
 refine Qg [] Qw Qf6 (Qg [(27,_)] Qw B7 (Qg [(28,_)] Qw Cq (Qp Mu (Qp Bl (Br (fun hc2=>Ab (Qp A3 (Ra (Qr (Iq _) ?_)))) fun hc2=>?_)))))
 .
  try simp only [Mr,Dt] at *
  (simp only [Af,bD];rw [iN hc1];rw [if_pos hc2];done)
 refine Ab (Qp Qf7 (Qp Hn (Qp (D7 tok rfl rfl rfl rfl) (Qp Jj (Qp Bl (Br (fun hc3=>Ab (Qp A3 (Ra (Qr (Iq _) ?_)))) fun hc3=>Rf (Ab (Qp A3 (Rb (Qr (Iq _) ?_))))))))))
 .
  try simp only [Mr,Dt] at *
  (simp only [Af,bD];rw [iN hc1];rw [iN hc2];rw [if_pos hc3];done)
 try simp only [Mr,Dt] at *
 (simp only [Af,bD];rw [iN hc1];rw [iN hc2];rw [iN hc3];done)
theorem c94 (v:Vl):Au Tryz.prog 202 [.agg (cV v)] (.int .i64 (H6 v)):=by
  refine G3 18 Tryz.func202 rfl fun H=>?_
  refine AW.seq (AW.region (Qp (Ji Z0) (Qp A3 (AOL.nil (Ap (AW.seq (AW.seq (AW.region (Qp Qf5 (Qp B7 (AOL.nil (Ap (AW.block (AW.seq (AW.seq (AW.region (Qp Bv (Qp Bl (AOL.nil (Ap (Hs (fun hc1=>?_) fun hc1=>?_)))))))))))))))))))))
  . skip
    refine B8 (Hs (fun hc2=>?_) fun hc2=>?_)
    . skip
      refine AW.seq (AW.region (Qp Qf7 (Qp Hn ?_)));refine Qp (Gl rfl rfl) ?_;refine AOL.nil (Ap (Hs (fun hc3=>?_) fun hc3=>?_))
      . skip
        refine AW.seq (AW.region (Qp A3 (AOL.nil (Ap (AW.ret (Ep (Bc ?_)))))));refine Qr (Iq _) ?_
        try simp only [Mr,Dt] at *
        try simp only [A2,Bf] at *
        simp only [Af,H6, *,Ah,↓reduceIte,Bool.true_or,T4,Ky,Sl,Gu,Dt,O6,Su,A6,Bs]
      . skip
        refine Rf (AW.seq (AW.region (Qp (C8 Z0) ?_)));refine Qp (Qc rfl (c107 v)) ?_;refine Qp A3 (AOL.nil (Ap (AW.ret ?_)));refine Qr (Iq _) ?_
        try simp only [Mr,Dt] at *
        try simp only [A2,Bf] at *
        simp only [Af,H6, *,Ah,↓reduceIte,Bool.true_or,T4,Ky,Sl,Gu,Dt,O6,Su,A6,Bs]
    . skip
      refine AW.seq (AW.region (Qp Bv (Qp Bl (AOL.nil (Ap (Hs (fun hc4=>?_) fun hc4=>?_))))))
      . skip
        refine AW.seq (AW.region (Qp Qf6 (Qp B7 (Qp Cq (AOL.nil (Ap (Hs (fun hc5=>?_) fun hc5=>?_)))))))
        . skip
          refine AW.seq (AW.region (Qp A3 (AOL.nil (Ap (AW.ret (Ep (Bc ?_)))))));refine Qr (Iq _) ?_
          try simp only [Mr,Dt] at *
          (try simp only [A2,Bf] at *
           (simp_all [Af,H6];done))
        . skip
          refine Rf (AW.seq (AW.region (Qp (C8 Z0) ?_)));refine Qp (Qc rfl (c107 v)) ?_;refine Qp A3 (AOL.nil (Ap (AW.ret ?_)));refine Qr (Iq _) ?_
          try simp only [Mr,Dt] at *
          (try simp only [A2,Bf] at *
           (simp_all [Af,H6];done))
      . skip
        refine AW.seq (AW.region (Qp A3 (AOL.nil (Ap (AW.ret (Ep (Bc ?_)))))));refine Qr (Iq _) ?_
        try simp only [Mr,Dt] at *
        (try simp only [A2,Bf] at *
         (simp_all [Af,H6];done))
  . skip
    refine AW.region (Qp Bv (Qp Bl (AOL.nil (Ap (Hs (fun hc6=>?_) fun hc6=>?_)))))
    . skip
      refine AW.seq (AW.region (Qp Qf7 (Qp Hn ?_)));refine Qp (Gl rfl rfl) ?_;refine AOL.nil (Ap (Hs (fun hc7=>?_) fun hc7=>?_))
      . skip
        refine AW.seq (AW.region (Qp A3 (AOL.nil (Ap (AW.ret (Ep (Bc ?_)))))));refine Qr (Iq _) ?_
        try simp only [Mr,Dt] at *
        try simp only [A2,Bf] at *
        simp only [Af,H6, *,Ah,↓reduceIte,Bool.true_or,T4,Ky,Sl,Gu,Dt,O6,Su,A6,Bs]
      . skip
        refine Rf (AW.seq (AW.region (Qp (C8 Z0) ?_)));refine Qp (Qc rfl (c107 v)) ?_;refine Qp A3 (AOL.nil (Ap (AW.ret ?_)));refine Qr (Iq _) ?_
        try simp only [Mr,Dt] at *
        try simp only [A2,Bf] at *
        simp only [Af,H6, *,Ah,↓reduceIte,Bool.true_or,T4,Ky,Sl,Gu,Dt,O6,Su,A6,Bs]
    . skip
      refine AW.seq (AW.region (Qp Bv (Qp Bl (AOL.nil (Ap (Hs (fun hc8=>?_) fun hc8=>?_))))))
      . skip
        refine AW.seq (AW.region (Qp Qf6 (Qp B7 (Qp Cq (AOL.nil (Ap (Hs (fun hc9=>?_) fun hc9=>?_)))))))
        . skip
          refine AW.seq (AW.region (Qp A3 (AOL.nil (Ap (AW.ret (Ep (Bc ?_)))))));refine Qr (Iq _) ?_
          try simp only [Mr,Dt] at *
          try simp only [A2,Bf] at *
          simp only [Af,H6, *,Ah,↓reduceIte,Bool.true_or,T4,Ky,Sl,Gu,Dt,O6,Su,A6,Bs]
        . skip
          refine Rf (AW.seq (AW.region (Qp (C8 Z0) ?_)));refine Qp (Qc rfl (c107 v)) ?_;refine Qp A3 (AOL.nil (Ap (AW.ret ?_)));refine Qr (Iq _) ?_
          try simp only [Mr,Dt] at *
          try simp only [A2,Bf] at *
          simp only [Af,H6, *,Ah,↓reduceIte,Bool.true_or,T4,Ky,Sl,Gu,Dt,O6,Su,A6,Bs]
      . skip
        refine AW.seq (AW.region (Qp A3 (AOL.nil (Ap (AW.ret (Ep (Bc ?_)))))));refine Qr (Iq _) ?_
        try simp only [Mr,Dt] at *
        try simp only [A2,Bf] at *
        simp only [Af,H6, *,Ah,↓reduceIte,Bool.true_or,T4,Ky,Sl,Gu,Dt,O6,Su,A6,Bs]
theorem c99 (k:Int)(v:Vl):Au Tryz.prog 203 [.int .i64 k,.agg (cV v)] (.bool (sG k v)):=by
 refine G3 16 Tryz.func203 rfl fun H=>?_
 refine Ab (Qp (Ji Z0) (Qp Bl (Cf (Qp Qf5 (Qp B7 (Qp Bv (Qp Cw (Qg [] Qw Ax (Qg [(9,_)] Qw Bv (Qp G4 (Qp Cw (Qg [] Qw Ax (Qg [(13,_)] Qw Bv (Qp G4 (Qp Bl (Rb (Qr (.bool _) ?_)))))))))))))))))
 try simp only [Mr,Dt] at *
 (simp only [Af,sG];done)
end Go.Proofs.YtibcelnfkhdjaaaGreatDoor
