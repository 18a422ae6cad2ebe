/-
  Several texts in one: R10, R11, R12, R13, R14, R16, R17, R20, R23, R27, R1w, R2w, R3w, R4w, R5w, R6w, At. No condition.
-/
import Derived.Test.YtckhoadldibflaaGreatDoorK04
import Derived.Test.YtckhoadldibflaaGreatDoorK01
import Derived.Test.YtckhoadldibflaaGreatDoorK03
import Derived.KernelRfl
set_option linter.unusedVariables false
set_option linter.unusedSimpArgs false
set_option maxHeartbeats 6400000
set_option maxRecDepth 20000
namespace Go.Proofs.YtckhoadldibflaaGreatDoor
open Go Go.Aw
structure Qy where
 name:Av
 vars:List Va
 key:List Int
 pattern:Pt
 returns:List Ex
def qJ:Qy:=⟨[],[],[],pt0,[]⟩
@[reducible] def cQyW (q : Qy) (rs : AV) : List AV := [.str q.name, .sl 2 (q.vars.map Ox), .sl 1 (q.key.map cI), .int .i64 q.pattern.op, .sl 14 (q.pattern.args.map Jd), .int .i64 q.pattern.type, .int .i64 q.pattern.var, .int .i64 q.pattern.scope, .int .i64 q.pattern.span, .int .i64 q.pattern.cond.op, .sl 8 (q.pattern.cond.args.map F5), .int .i64 q.pattern.cond.var, .int .i64 q.pattern.cond.field, .int .i64 q.pattern.cond.kind, .int .i64 q.pattern.cond.val.kind, .int .i64 q.pattern.cond.val.num, .str q.pattern.cond.val.text, rs]
@[reducible] def cQy (q : Qy) : List AV := cQyW q (.sl 8 (q.returns.map F5))
section
variable {T:List e8Sc} {V:List Va}
theorem zD (t:Syn)(xs:List Ex):Bz (S9 T V t xs)<=1+(xs.map Bz).sum:=by
 unfold S9;split
 . rw [Gb];simp
 split
 . split <;> · rw [Gb];simp
 split
 . rw [Gb];simp
 split
 . rw [Gb];simp
 split <;> · rw [Gb];exact B6 _
theorem Zt:∀t:Syn,Bz (Gs T V t)<=Jb t:=by
  intro t
  induction t using Syn.ind with
  | h t ih=>
    rw [K1,Hm];refine Fl (zD t _) ?_
    have:∀l:List Syn,(∀a∈l,Bz (Gs T V a)<=Jb a)->((l.map (Gs T V)).map Bz).sum<=G6 l:=by
      intro l
      induction l with
      | nil=>intro _;exact A3 _
      | cons x r ih2=>intro h;rw [Bj,Bj,Ed,H9];have:=h x (by simp);have:=ih2 fun a ha=>h a (by simp [ha]);omega
    have:=this _ ih;omega
theorem iV (t:Syn):Bz (N7 T V t)<=Jb t:=by
 unfold N7;split
 .
  rename_i h;have h0:0<t.kids.length:=by have:=Do h;omega
  have:=kY (An (Ie h0));have h2:=Zt (T:=T) (V:=V) (Cd t 0);rw [Hm];omega
 rw [show Bz Lb=1 from rfl,Hm];omega
theorem ptn_size {t:Syn}{s:Nx}(xs:List Pt)(hc:Cb t .pats=0):Bz (Q6 T V t s xs).cond<=Jb t:=by
 have h1:1<=Jb t:=by rw [Hm];omega
 have hk:∀j,j<t.kids.length->Jb (Cd t j)<=Jb t:=fun j h=>by
  have:=kY (An (Ie h));have h9:=Hm t;omega
 unfold Q6;split
 . exact iV t
 split
 .
  rename_i hq;have h2:=Vb hc (.inl (by simpa using hq));exact Fl (iV (Cd t 1)) (hk 1 (by omega))
 split
 . exact h1
 split
 .
  rename_i hq;have h2:=Vb hc (.inr (by simpa using hq));exact Fl (Zt (Cd t 1)) (hk 1 (by omega))
 exact h1
theorem ptt_size:∀t:Syn,Cb t .pats=0->∀s:Nx,Gy (J6 T V t s).1<=Jb t/\∀q∈Dd (J6 T V t s).1,Bz q.cond<=Jb t:=by
  intro t
  induction t using Syn.ind with
  | h t ih=>
    intro hc s
    have key:∀l:List Syn,(∀a∈l,a∈Hi t)->∀s:Nx,((G2 T V l s).1.map Gy).sum<=G6 l/\∀q∈(G2 T V l s).1.flatMap Dd,Bz q.cond<=G6 l:=by
      intro l
      induction l with
      | nil=>intro _ s;rw [G2];exact ⟨A3 _,fun q h=>by simp at h⟩
      | cons x r ih2=>
        intro hl s;have hx:=ih x (gB (hl x (by simp))) (qB hc (hl x (by simp))) s;have hr:=ih2 (fun a ha=>hl a (by simp [ha])) (J6 T V x s).2;rw [G2,H9];refine ⟨by simp only [Bj,Ed];have:=hx.1;have:=hr.1;omega,fun q hq=>?_⟩;simp only [P6] at hq;rcases Hg.1 hq with hq | hq
        . have:=hx.2 q hq;omega
        have:=hr.2 q hq;omega
    have hk:=key (Hi t) (fun a ha=>ha) (aB t s);have hp:=cU t;rw [gC];refine ⟨by rw [J5,Hm];simp only;have:=hk.1;omega,fun q hq=>?_⟩;rw [Oe] at hq;rcases Dn.1 hq with rfl | hq
    . simp only;exact ptn_size [] hc
    have:=hk.2 q hq;rw [Hm];omega
theorem ptt_med {t:Syn}(ht:Vp t)(hc:Cb t .pats=0)(s:Nx):medP (J6 T V t s).1:=by
 have h:=ptt_size (T:=T) (V:=V) t hc s;have hm:=Ue ht;exact ⟨by have:=h.1;omega,fun q hq=>by have:=h.2 q hq;omega⟩
end
structure TsOK (T:List e8Sc):Prop where
 tl:T.length<=1048576
 fl:∀s∈T,s.fields.length<=1048576
 nd:(Nz T).Nodup
theorem decV_ok {T:List e8Sc}{t:Syn}(h:(Nz T).contains t.text=true):0<=(Zm T t).type/\(Zm T t).type<(T.length:Int):=by
 have:=Nw h;rw [B7] at this;exact this
theorem iX {T:List e8Sc}{V:List Va}{t:Syn}(h:(M3 T V t != 0)=false):(Nz T).contains t.text=true/\(Lh V).contains t.name=false/\V.length≠16:=by
 have h0:M3 T V t=0:=by simpa using h
 unfold M3 at h0;split at h0
 . cases h0
 rename_i h1;split at h0
 . cases h0
 rename_i h2;split at h0
 . cases h0
 rename_i h3;exact ⟨by simpa using h2,by simpa using h3,fun e=>h1 (by simp [e])⟩
theorem nU {T:List e8Sc}:∀(l:List Syn) (V:List Va),V.length<=16->(∀v∈V,0<=v.type/\v.type<(T.length:Int))->(Qq T V l).1.length<=16/\∀v∈(Qq T V l).1,0<=v.type/\v.type<(T.length:Int)
  | [],V,h1,h2=>⟨h1,h2⟩
  | t::r,V,h1,h2=>by
    rw [Uw];cases hq:M3 T V t != 0 with
    | true=>rw [if_pos rfl];exact ⟨h1,h2⟩
    | false=>
      rw [Bl rfl];have hd:=iX hq;refine nU r _ (by rw [Ax,Ot];have:=hd.2.2;omega) fun v hv=>?_
      rcases Hg.1 hv with hv | hv
      . exact h2 v hv
      rw [Hv.1 hv];exact decV_ok hd.1
theorem dec_rv {T:List e8Sc}(hT:TsOK T)(l:List Syn):RvOK T (Qq T [] l).1:=by
 have h:=nU (T:=T) l [] (by simp) (fun v hv=>(Xb hv).elim);exact ⟨hT.tl,hT.fl,by have:=h.1;omega,h.2⟩
theorem zU {t:Syn}(h:Cb t .pats=0)(h5:t.kind≠5):0<t.kids.length:=by
 have hs:=(Ls (Lr h).1).2.1;have hr:=aF h;unfold Fy at hs;have:t.kind=6\/t.kind=7\/t.kind=8\/t.kind=9\/t.kind=10\/t.kind=11\/t.kind=12:=by omega
 rcases this with hk | hk | hk | hk | hk | hk | hk <;> · rw [hk] at hs;simp at hs;omega
theorem ev_some:∀t:Syn,Cb t .pats=0->Xx t≠[]:=by
  intro t
  induction t using Syn.ind with
  | h t ih=>
    intro hc;rw [Zr];split
    . simp
    . rename_i h5
      have h5':t.kind≠5:=by simpa using h5
      have hl:=zU hc h5';have hk:=Ie hl;have hm:=An hk;have h0:=ih _ hm (U9 hc h5' hk fun _=>rfl);split
      . simp
      . split
        . rw [lC hl];exact h0
        . intro he
          rw [List.flatMap_eq_nil_iff] at he;exact h0 (he _ hm)
theorem dec_pos {T:List e8Sc}{l:List Syn}(hl:l≠[])(h:((Qq T [] l).2.err != 0)=false):0<T.length:=by
  cases l with
  | nil=>exact (hl rfl).elim
  | cons t r=>
    rw [Uw] at h;cases hq:M3 T [] t != 0 with
    | true=>rw [if_pos hq] at h;simp only at h;rw [hq] at h;cases h
    | false=>
      have:=Nw (iX hq).1;rw [B7] at this;omega
section
variable (T:List e8Sc) (t:Syn)
def Vh:List Va:=(Qq T [] (Xx (Cd t 1))).1
def vfR:Fa:=(Qq T [] (Xx (Cd t 1))).2
def kyR (V:List Va):List Int×Bool:=if ((Cd t 0).text != []) then Oz T V (Cd t 0).text else ([],true)
def rtF (V:List Va)(x:Syn):Fa:=if (C2 (Gs T V x) != 0) then ⟨x.pos,C2 (Gs T V x)⟩ else Xy
def ptR (V:List Va):Pt:=(J6 T V (Cd t 1) ⟨0,0⟩).1
def qyR (V:List Va):Qy:=⟨t.text,V,(kyR T t V).1,ptR T t V,(t.kids.drop 2).map (Gs T V)⟩
def QR4 (V:List Va):Qy×Fa:=if ((Mp (rtF T V) (t.kids.drop 2)).err != 0) then (qJ,Mp (rtF T V) (t.kids.drop 2)) else (qyR T t V,Xy)
def QR3 (V:List Va):Qy×Fa:=if (Gj (ptR T t V) != 0) then (qJ,⟨(Cd t 1).pos,Gj (ptR T t V)⟩) else QR4 T t V
def QR2 (V:List Va):Qy×Fa:=if ((H5 T V t).err != 0) then (qJ,H5 T V t) else QR3 T t V
def QR1 (V:List Va):Qy×Fa:=if (!(kyR T t V).2) then (qJ,⟨(Cd t 0).pos,16⟩) else QR2 T t V
def Ix:Qy×Fa:=if ((vfR T t).err != 0) then (qJ,vfR T t) else QR1 T t (Vh T t)
end
section
variable {T:List e8Sc} {t:Syn} {V:List Va}
theorem qr_1 (h:((vfR T t).err != 0)=true):Ix T t=(qJ,vfR T t):=if_pos h
theorem qr_b (h:((vfR T t).err != 0)=false):Ix T t=QR1 T t (Vh T t):=Bl h
theorem tL (h:((Cd t 0).text != [])=true):kyR T t V=Oz T V (Cd t 0).text:=if_pos h
theorem ky_no (h:((Cd t 0).text != [])=false):kyR T t V=([],true):=Bl h
theorem qr_2 (h:(!(kyR T t V).2)=true):QR1 T t V=(qJ,⟨(Cd t 0).pos,16⟩):=if_pos h
theorem qr_c (h:(!(kyR T t V).2)=false):QR1 T t V=QR2 T t V:=Bl h
theorem qr_3 (h:((H5 T V t).err != 0)=true):QR2 T t V=(qJ,H5 T V t):=if_pos h
theorem qr_d (h:((H5 T V t).err != 0)=false):QR2 T t V=QR3 T t V:=Bl h
theorem qr_4 (h:(Gj (ptR T t V) != 0)=true):QR3 T t V=(qJ,⟨(Cd t 1).pos,Gj (ptR T t V)⟩):=if_pos h
theorem qr_e (h:(Gj (ptR T t V) != 0)=false):QR3 T t V=QR4 T t V:=Bl h
theorem rt_yes {x:Syn}(h:(C2 (Gs T V x) != 0)=true):rtF T V x=⟨x.pos,C2 (Gs T V x)⟩:=if_pos h
theorem rt_no {x:Syn}(h:(C2 (Gs T V x) != 0)=false):rtF T V x=Xy:=Bl h
theorem qr_5 {k:Nat}{x:Syn}(ha:(t.kids.drop 2)[k]? = some x)(hn:((t.kids.drop 2).take k).any (fun x=>(rtF T V x).err != 0)=false)(h:(C2 (Gs T V x) != 0)=true):QR4 T t V=(qJ,⟨x.pos,C2 (Gs T V x)⟩):=by
 have h1:=eL ha hn (by rw [rt_yes h];exact h);unfold QR4;rw [h1,rt_yes h];exact if_pos h
theorem qr_6 (hn:(t.kids.drop 2).any (fun x=>(rtF T V x).err != 0)=false):QR4 T t V=(qyR T t V,Xy):=by
 unfold QR4;rw [Zq hn];rfl
structure QryOK (t:Syn):Prop where
 m:Vp t
 c:Cb t (.only 3)=0
theorem QryOK.kind (h:QryOK t):t.kind=3:=Sd (Ls (Lr h.c).1).1
theorem QryOK.len (h:QryOK t):3<=t.kids.length:=by
 have hs:=(Ls (Lr h.c).1).2.1;unfold Fy at hs;rw [h.kind] at hs;simp at hs;omega
theorem QryOK.pat (h:QryOK t):Cb (Cd t 1) .pats=0:=by
 have hk:=(Po h.c (Ie (k:=1) (by have:=h.len;omega))).1;unfold G1 at hk;rw [h.kind] at hk;exact hk
theorem QryOK.med1 (h:QryOK t):Vp (Cd t 1):=lQ h.m (by have:=h.len;omega)
theorem QryOK.evl (h:QryOK t):(Xx (Cd t 1)).length<=1048576:=by
 have:=lD (Cd t 1);have:=Ue h.med1;omega
end
section
variable (T:List e8Sc) (t:Syn)
def cL:Qy×Int×Int:=if (C7 T != 0) then (qJ,0,C7 T) else if ((B0 t (.only 3)).2 != 0) then (qJ,0,3) else ((Ix T t).1,(Ix T t).2.pos,(Ix T t).2.err)
theorem qp_1 (h:(C7 T != 0)=true):cL T t=(qJ,0,C7 T):=if_pos h
theorem qp_2 (h:(C7 T != 0)=false)(h2:((B0 t (.only 3)).2 != 0)=true):cL T t=(qJ,0,3):=(Bl h).trans (if_pos h2)
theorem qp_3 (h:(C7 T != 0)=false)(h2:((B0 t (.only 3)).2 != 0)=false):cL T t=((Ix T t).1,(Ix T t).2.pos,(Ix T t).2.err):=(Bl h).trans (Bl h2)
end
theorem wr_check {t:Syn}{p:Pl}(h:((B0 t p).2 != 0)=false):Cb t p=0:=by
  cases hc:Cb t p != 0 with
  | false=>simpa using hc
  | true=>
    have:(B0 t p).2=Cb t p:=by unfold B0;rw [if_pos hc]
    rw [this,hc] at h;cases h
theorem Y2:∀(l:List e8Sc) (seen:List (List UInt8)),L4 seen l=0->seen.Nodup->(seen++l.map (·.name)).Nodup/\∀s∈l,Iu s=0
  | [],seen,h,hn=>⟨by simpa using hn,fun s hs=>(Xb hs).elim⟩
  | s::r,seen,h,hn=>by
    rw [L4] at h;split at h
    . rename_i h1;rw [h] at h1;cases h1
    . rename_i h1
      have h0:Ip seen s=0:=by simpa using h1
      have hc:s.name∉seen:=by
        intro hm;unfold Ip at h0;split at h0
        . rename_i h2;rw [h0] at h2;cases h2
        . rename_i h2
          rw [if_pos (by simpa using hm)] at h0;cases h0
      have hz:Iu s=0:=by
        unfold Ip at h0;split at h0
        . rename_i h2;rw [h0] at h2;cases h2
        rename_i h2;simpa using h2
      have ih:=Y2 r (seen ++ [s.name]) h (Uj.2 ⟨hn,by simp,fun a ha b hb=>by rw [Hv.1 hb];exact fun e=>hc (e▸ha)⟩);refine ⟨by simpa using ih.1,fun x hx=>?_⟩;rcases Dn.1 hx with rfl | hx
      . exact hz
      exact ih.2 x hx
theorem all_ok {T:List e8Sc}(h:(C7 T != 0)=false):T.length<=16/\(Nz T).Nodup/\∀s∈T,Iu s=0:=by
 have h0:C7 T=0:=by simpa using h
 unfold C7 at h0;split at h0
 . cases h0
 rename_i h1;have:=Y2 T [] h0 List.nodup_nil;exact ⟨by have:=h1;simp at this;omega,by simpa using this.1,this.2⟩
theorem xR {s:e8Sc}(h:Iu s=0):s.fields.length<=8:=by
 unfold Iu at h;split at h
 . cases h
 split at h
 . cases h
 rename_i h2;simp at h2;omega
theorem dT {T:List e8Sc}(h:(C7 T != 0)=false):TsOK T:=by
 obtain ⟨h1,h2,h3⟩:=all_ok h;exact ⟨by omega,fun s hs=>by have:=xR (h3 s hs);omega,h2⟩
def eX:List Fi->List Syn->List Fi×Fa
 | fs,[]=>(fs,Xy)
 | fs,x::r=>if ((fs.length:Int)==8) then (fs,⟨x.pos,5⟩) else if (fs.map (·.name)).contains x.text then (fs,⟨x.pos,7⟩) else eX (fs ++ [⟨x.text,x.num⟩]) r
def typGo:List e8Sc->List Syn->List e8Sc×Fa
  | out,[]=>(out,Xy)
  | out,k::r=>
    if (k.kind != 1) then typGo out r
    else if ((out.length:Int)==16) then ([],⟨k.pos,5⟩)
    else if (Nz out).contains k.text then ([],⟨k.pos,7⟩)
    else if ((eX [] k.kids).2.err != 0) then ([],(eX [] k.kids).2)
    else typGo (out ++ [⟨k.text,(eX [] k.kids).1⟩]) r
def sJ (t:Syn):List e8Sc×Fa:=typGo [] t.kids
section
variable {out:List e8Sc} {l:List Syn} {k:Nat} {a:Syn}
variable {fs:List Fi}
end
def TypP (t:Syn):List e8Sc×Int×Int:=if ((B0 t (.only 0)).2 != 0) then ([],0,3) else ((sJ t).1,(sJ t).2.pos,(sJ t).2.err)
structure Pg where
 types:List e8Sc
 queries:List Qy
def pg0:Pg:=⟨[],[]⟩
@[reducible] def cPg (p : Pg) : List AV := [.sl 2 (p.types.map Js), .sl 18 (p.queries.map cQy)]
def jZ (T:List e8Sc):List Qy->List Syn->List Qy×Fa
  | qs,[]=>(qs,Xy)
  | qs,k::r=>
    if (k.kind != 3) then jZ T qs r
    else if ((qs.length:Int)==16) then ([],⟨k.pos,5⟩)
    else if (qs.map (·.name)).contains k.text then ([],⟨k.pos,7⟩)
    else if ((Ix T k).2.err != 0) then ([],(Ix T k).2)
    else jZ T (qs ++ [(Ix T k).1]) r
section
variable {T:List e8Sc} {qs:List Qy} {l:List Syn} {k:Nat} {a:Syn}
end
def PrgT (t:Syn)(T:List e8Sc):Pg×Int×Int:=if ((jZ T [] t.kids).2.err != 0) then (pg0,(jZ T [] t.kids).2.pos,(jZ T [] t.kids).2.err) else (⟨T,(jZ T [] t.kids).1⟩,0,0)
def PrgP (t:Syn):Pg×Int×Int:=if ((B0 t (.only 0)).2 != 0) then (pg0,0,3) else if ((sJ t).2.err != 0) then (pg0,(sJ t).2.pos,(sJ t).2.err) else PrgT t (sJ t).1
section
variable {t:Syn}
end
mutual
def O2 (L:Nat):Pt->Nat
 | ⟨_,xs,_,_,_,_,_⟩=>Mx L xs 1
def Mx (L:Nat):List Pt->Nat->Nat
 | [],n=>n
 | a::r,n=>if n<=L then Mx L r (n+O2 L a) else n
end
theorem yA (L:Nat)(p:Pt):O2 L p=Mx L p.args 1:=by cases p;rw [O2]
theorem rM (L:Nat):∀(l:List Pt) (m:Nat),m<=Mx L l m
  | [],m=>by rw [Mx];exact B6 _
  | a::r,m=>by
    rw [Mx];split
    . exact Fl (Nat.le_add_right _ _) (rM L r _)
    exact B6 _
theorem uS {L:Nat}{l:List Pt}{n:Nat}(h:L<n):Mx L l n=n:=by
 cases l with
 | nil=>rw [Mx]
 | cons a r=>rw [Mx,if_neg (by omega)]
theorem rN (L:Nat)(p:Pt):O2 L p=Gy p\/(L<O2 L p/\O2 L p<=Gy p):=by
  induction p using Pt.ind with
  | h p ih=>
    rw [yA,J5]
    have:∀(l:List Pt) (n:Nat),(∀a∈l,O2 L a=Gy a\/(L<O2 L a/\O2 L a<=Gy a))->Mx L l n=n+(l.map Gy).sum\/(L<Mx L l n/\Mx L l n<=n+(l.map Gy).sum):=by
      intro l
      induction l with
      | nil=>intro n _;simp [Mx]
      | cons x r ihr=>
        intro n h;simp only [Mx,Bj,Ed];have h1:=h x (by simp);have h2:=ihr (n+O2 L x) fun a ha=>h a (by simp [ha])
        split
        . have hm:=rM L r (n+O2 L x)
          omega
        omega
    have:=this p.args 1 ih;omega
theorem tot_gt (L:Nat)(p:Pt):L<O2 L p↔L<Gy p:=by
 rcases rN L p with h | h
 . rw [h]
 omega
theorem qH {l:List Pt}{k:Nat}{a:Pt}(n:Nat)(h:l[k]? = some a):n+((l.drop k).map Gy).sum=(n+Gy a)+((l.drop (k+1)).map Gy).sum:=by
 rw [Bd h,Bj,Ed];omega
def Ps (p:Pt):Bool:=(p.op==5)||(p.op==9)
def O1 (p:Pt):Bool:=(p.op==6)||(p.op==10)
def My (p:Pt):Bool:=(p.op==0)||Ps p
def sR (p:Pt):Bool:=My p||(p.op==7)
def Xn (p:Pt):Bool:=
 if (p.op==0) then ((p.args.length:Int)==0)
 else if ((p.op==1)||(p.op==2))||(p.op==3) then decide (2<=(p.args.length:Int))
 else if (p.op==8) then ((p.args.length:Int)==2) else ((p.args.length:Int)==1)
def sL (u:Bool)(n m:Int):Bool:=u&&(decide (n<0)||decide (m<n))
def nbB (p:Pt):Bool:=((sL (My p) p.type 15||sL (My p) p.var 15)||sL (Ps p||O1 p) p.scope 63)||sL (O1 p) p.span 1099511627776
def nuB (p:Pt):Bool:=(((!My p&&((p.type != 0)||(p.var != 0)))||(!(Ps p||O1 p)&&(p.scope != 0)))||(!O1 p&&(p.span != 0)))||(!sR p && !F4 p.cond Zs)
def ndR (p:Pt):Int:=
 if decide (p.op<0)||decide (10<p.op) then 1
 else if !Xn p then 15
 else if nbB p then 2
 else if sR p&&(C2 p.cond != 0) then C2 p.cond
 else if nuB p then 3 else 0
section
variable {p:Pt}
theorem nd_1 (h:(decide (p.op<0)||decide (10<p.op))=true):ndR p=1:=if_pos h
theorem nd_2 (h:(decide (p.op<0)||decide (10<p.op))=false)(h2:(!Xn p)=true):ndR p=15:=(Bl h).trans (if_pos h2)
theorem nd_3 (h:(decide (p.op<0)||decide (10<p.op))=false)(h2:(!Xn p)=false)(h3:nbB p=true):ndR p=2:=(Bl h).trans ((Bl h2).trans (if_pos h3))
theorem nd_4 (h:(decide (p.op<0)||decide (10<p.op))=false)(h2:(!Xn p)=false)(h3:nbB p=false)(h4:sR p=true)(h5:(C2 p.cond != 0)=true):ndR p=C2 p.cond:=by
 refine (Bl h).trans ((Bl h2).trans ((Bl h3).trans (if_pos ?_)));rw [h4,h5];rfl
theorem nd_n (h:(decide (p.op<0)||decide (10<p.op))=false)(h2:(!Xn p)=false)(h3:nbB p=false)(h4:(sR p&&(C2 p.cond != 0))=false):ndR p=if nuB p then 3 else 0:=(Bl h).trans ((Bl h2).trans ((Bl h3).trans (Bl h4)))
end
theorem cT (u:Bool)(n m:Int):sL u n m = !wth u n m:=by
 unfold sL wth;cases u with
 | false=>rfl
 | true=>rw [Sq];simp <;> omega
theorem dI (u:Bool)(n:Int):(!unu u n)=(!u&&(n != 0)):=by
 unfold unu;cases u <;> rfl
theorem nu_bool:∀a b c d s x y z w:Bool,((((!a&&(x||y))||(!b&&z))||(!c&&w))||(!d && !s))=(((((!d && !s)||(!a&&x))||(!a&&y))||(!b&&z))||(!c&&w)):=by decide
theorem pW {p:Pt}(h:(decide (p.op<0)||decide (11<=p.op))=false):My p=(Jg p.op).typed/\(Ps p||O1 p)=(Jg p.op).scope/\O1 p=(Jg p.op).span/\sR p=(Jg p.op).cond:=by
 have hr:p.op=0\/p.op=1\/p.op=2\/p.op=3\/p.op=4\/p.op=5\/p.op=6\/p.op=7\/p.op=8\/p.op=9\/p.op=10:=by simp at h;omega
 unfold sR My Ps O1;rcases hr with h | h | h | h | h | h | h | h | h | h | h <;> rw [h] <;> exact ⟨rfl,rfl,rfl,rfl⟩
theorem nd_ck {p:Pt}(hl:p.args.length<=64):ndR p=bN p:=by
 unfold ndR bN;by_cases h:(decide (p.op<0)||decide (11<=p.op))=true
 . rw [if_pos h,if_pos (by simp at h ⊢;omega)]
 rw [if_neg h,if_neg (by simp at h ⊢;omega)];have hf:(decide (p.op<0)||decide (11<=p.op))=false:=by simpa using h
 have hr:p.op=0\/p.op=1\/p.op=2\/p.op=3\/p.op=4\/p.op=5\/p.op=6\/p.op=7\/p.op=8\/p.op=9\/p.op=10:=by simp at h;omega
 obtain ⟨f1,f2,f3,f4⟩:=pW hf;unfold ckR
 have e1:(!Xn p)=(decide ((p.args.length:Int)<(Jg p.op).least)||decide ((Jg p.op).most<(p.args.length:Int))):=by
  unfold Xn;rcases hr with h | h | h | h | h | h | h | h | h | h | h <;> rw [h] <;> simp [Jg,shpL] <;> (try (rw [Sq];simp)) <;> (try omega)
 have e2:nbB p=ckB p (Jg p.op):=by unfold nbB ckB;rw [f1,f2,f3,cT,cT,cT,cT]
 have e3:nuB p=ckU p (Jg p.op):=by
  unfold nuB ckU;rw [f1,f2,f3,f4,dI,dI,dI,dI];exact nu_bool _ _ _ _ _ _ _ _ _
 rw [e1,e2,e3,f4]
def cO (p:Pt):Int:=if decide ((64:Int)<(O2 64 p:Int)) then 5 else if decide ((12:Int)<(eI p:Int)) then 12 else Ch ndR (Dd p)
theorem oI {α:Type}{f g:α->Int}:∀{l:List α},(∀q∈l,f q=g q)->Ch f l=Ch g l
 | [],_=>rfl
 | a::r,h=>by rw [Ch,Ch,h a (by simp),oI fun q hq=>h q (by simp [hq])]
theorem rst_eq (p:Pt):cO p=Lj p:=by
 unfold cO Lj;have e:decide ((64:Int)<(O2 64 p:Int))=decide ((64:Int)<(Gy p:Int)):=by rw [decide_eq_decide];have:=tot_gt 64 p;omega
 rw [e];by_cases h:decide ((64:Int)<(Gy p:Int))=true
 . rw [if_pos h,if_pos h]
 rw [if_neg h,if_neg h,oI fun q hq=>nd_ck (by have:=nd_sub p q hq;have:=M8 q;simp at h;omega)]
theorem rr_1 {p:Pt}(h:decide ((64:Int)<(O2 64 p:Int))=true):cO p=5:=if_pos h
theorem rr_2 {p:Pt}(h:decide ((64:Int)<(O2 64 p:Int))=false)(h2:decide ((12:Int)<(eI p:Int))=true):cO p=12:=(Bl h).trans (if_pos h2)
theorem rr_3 {p:Pt}(h:decide ((64:Int)<(O2 64 p:Int))=false)(h2:decide ((12:Int)<(eI p:Int))=false):cO p=Ch ndR (Dd p):=(Bl h).trans (Bl h2)
theorem U2 {α:Type}{f:α->Int}:∀{l:List α} {k:Nat} {a:α},l[k]? = some a->(l.take k).any (fun x=>f x != 0)=false->(f a != 0)=true->Ch f l=f a
  | [],k,a,h,_,_=>by simp at h
  | b::r,0,a,h,_,hp=>by simp at h;subst h;rw [Ch,if_pos hp]
  | b::r,k+1,a,h,hn,hp=>by
    rw [W0,Ow,En] at hn;rw [Ch,if_neg (by rw [hn.1];decide)];exact U2 (by simpa using h) hn.2 hp
theorem F9 {α:Type}{f:α->Int}:∀{l:List α},l.any (fun x=>f x != 0)=false->Ch f l=0
  | [],_=>rfl
  | b::r,h=>by
    rw [Ow,En] at h;rw [Ch,if_neg (by rw [h.1];decide)];exact F9 h.2
def dA:Int->Int->List Pt->Int
  | _,_,[]=>0
  | v,s,q::r=>
    if My q&&(q.var != v) then 14
    else if (Ps q||O1 q)&&(q.scope != s) then 14
    else dA (if My q then v+1 else v) (if Ps q||O1 q then s+1 else s) r
def qC (l:List Pt):Bool:=!l.any (fun q=>decide (8<=q.op))
def kW (p:Pt):Int:=if (cO p != 0) then cO p else if !qC (Dd p) then 1 else dA 0 0 (Dd p)
theorem cr_1 {p:Pt}(h:(cO p != 0)=true):kW p=cO p:=if_pos h
theorem cr_2 {p:Pt}(h:(cO p != 0)=false)(h2:(!qC (Dd p))=true):kW p=1:=(Bl h).trans (if_pos h2)
theorem cr_3 {p:Pt}(h:(cO p != 0)=false)(h2:(!qC (Dd p))=false):kW p=dA 0 0 (Dd p):=(Bl h).trans (Bl h2)
theorem Xr:∀(l:List Pt) (c:Cnt),c.ok=false->(l.foldl Hj c).ok=false
 | [],c,h=>h
 | q::r,c,h=>by rw [List.foldl_cons];exact Xr r _ (by unfold Hj;simp [h])
theorem vZ:∀(l:List Pt) (c:Cnt),(∀q∈l,zM q)->c.ok=true->dA c.vars c.scopes l=if !(l.foldl Hj c).ok then 14 else 0
  | [],c,_,h=>by rw [dA,List.foldl_nil,h];rfl
  | q::r,c,hl,h=>by
    have hq:=hl q (by simp);obtain ⟨f1,f2,f3,f4⟩:=pW (p:=q) (by have:=hq.1;have:=hq.2;simp;omega);have ih:=vZ r (Hj c q) fun x hx=>hl x (by simp [hx])
    rw [dA,List.foldl_cons,f1,f2];by_cases h1:((Jg q.op).typed&&(q.var != c.vars))=true
    . rw [if_pos h1,Xr r _ (by unfold Hj;simp at h1 ⊢;simp [h1])];rfl
    . rw [if_neg h1]
      by_cases h2:((Jg q.op).scope&&(q.scope != c.scopes))=true
      . rw [if_pos h2,Xr r _ (by unfold Hj;simp at h2 ⊢;simp [h2])];rfl
      . rw [if_neg h2]
        exact ih (by unfold Hj;simp at h1 h2 ⊢;exact ⟨⟨h,by cases hs:(Jg q.op).typed with | false=>exact .inl rfl | true=>exact .inr (h1 hs)⟩,by cases hs:(Jg q.op).scope with | false=>exact .inl rfl | true=>exact .inr (h2 hs)⟩)
theorem kX (p:Pt):kW p=Gj p:=by
  unfold kW Gj;rw [rst_eq];cases h:Lj p != 0 with
  | true=>rw [if_pos rfl,whl_1 h,h,if_pos rfl]
  | false=>
    rw [Bl rfl];have hw:Ph p=if (Dd p).any (fun q=>decide (8<=q.op)) then 1 else 0:=Bl h
    unfold qC;rw [hw];cases (Dd p).any (fun q=>decide (8<=q.op)) with
    | true=>rfl
    | false=>exact vZ (Dd p) ⟨0,0,true⟩ (xN h) rfl
section
variable {v s:Int} {l:List Pt} {k:Nat} {a:Pt}
theorem goC_1 (ha:l[k]? = some a)(h:My a=true)(h2:(a.var != v)=true):dA v s (l.drop k)=14:=by rw [Bd ha,dA,if_pos (by rw [h,h2];rfl)]
theorem goC_2 (ha:l[k]? = some a)(h:(My a&&(a.var != v))=false)(h3:(Ps a||O1 a)=true)(h4:(a.scope != s)=true):dA v s (l.drop k)=14:=by rw [Bd ha,dA,Bl h,if_pos (by rw [h3,h4];rfl)]
theorem vY (ha:l[k]? = some a)(h:(My a&&(a.var != v))=false)(h3:((Ps a||O1 a)&&(a.scope != s))=false):dA v s (l.drop k)=dA (if My a then v+1 else v) (if Ps a||O1 a then s+1 else s) (l.drop (k+1)):=by rw [Bd ha,dA,Bl h,Bl h3]
theorem goC_yy (ha:l[k]? = some a)(h:My a=true)(h2:(a.var != v)=false)(h3:(Ps a||O1 a)=true)(h4:(a.scope != s)=false):dA v s (l.drop k)=dA (v+1) (s+1) (l.drop (k+1)):=by rw [vY ha (by rw [h2,Gx]) (by rw [h4,Gx]),if_pos h,if_pos h3]
theorem goC_yn (ha:l[k]? = some a)(h:My a=true)(h2:(a.var != v)=false)(h3:(Ps a||O1 a)=false):dA v s (l.drop k)=dA (v+1) s (l.drop (k+1)):=by rw [vY ha (by rw [h2,Gx]) (by rw [h3];rfl),if_pos h,Bl h3]
theorem goC_ny (ha:l[k]? = some a)(h:My a=false)(h3:(Ps a||O1 a)=true)(h4:(a.scope != s)=false):dA v s (l.drop k)=dA v (s+1) (l.drop (k+1)):=by rw [vY ha (by rw [h];rfl) (by rw [h4,Gx]),Bl h,if_pos h3]
theorem goC_nn (ha:l[k]? = some a)(h:My a=false)(h3:(Ps a||O1 a)=false):dA v s (l.drop k)=dA v s (l.drop (k+1)):=by rw [vY ha (by rw [h];rfl) (by rw [h3];rfl),Bl h,Bl h3]
end
def hdP (a b:Pt):Bool:=((((((a.op != b.op)||(a.type != b.type))||(a.var != b.var))||(a.scope != b.scope))||(a.span != b.span)) || !F4 a.cond b.cond)||((a.args.length:Int) != (b.args.length:Int))
mutual
def smP:Pt->Pt->Bool
 | ⟨o,xs,t,v,s,n,c⟩,b=>if hdP ⟨o,xs,t,v,s,n,c⟩ b then false else smPs xs b.args
def smPs:List Pt->List Pt->Bool
 | [],_=>true
 | a::r,l=>if !smP a (l.headD pt0) then false else smPs r l.tail
end
def siL:List Int->List Int->Bool
 | [],_=>true
 | a::r,l=>if a != l.headD 0 then false else siL r l.tail
def siB (a b:List Int):Bool:=if ((a.length:Int) != (b.length:Int)) then false else siL a b
theorem si_get {l:List Int}{k:Nat}{a:Int}(h:l[k]? = some a):(l.map cI)[k]? = some [.int .i64 a]:=by rw [List.getElem?_map,h];rfl
def fewX (e:Ex):Bool:=decide (Bz e<=200/\Ea e<=100)
def fewP (p:Pt):Bool:=if decide ((150:Int)<(O2 150 p:Int))||decide ((60:Int)<(eI p:Int)) then false else (Dd p).all fun q=>fewX q.cond
theorem Vo {p q:Pt}{k:Nat}(h:(Dd p)[k]? = some q):((Dd p).map Jd)[k]? = some (cPt q):=by rw [List.getElem?_map,h];exact congrArg some (Uz q)
@[reducible] def cNm (T : List e8Sc) (V : List Va) : List AV := [.sl 2 (T.map Js), .sl 2 (V.map Ox)]
theorem pl_has (ns:List Av)(n:Av):decide (0<=Ha ns n)=ns.contains n:=by
 unfold Ha;cases ns.contains n with
 | true=>rw [if_pos rfl];simp
 | false=>rfl
section
variable {T:List e8Sc} {V:List Va} {t:Syn}
end
def mS:List e8Sc->List Syn->List e8Sc×Fa
  | out,[]=>(out,Xy)
  | out,k::r=>
    if (k.kind==1) then
      if ((out.length:Int)==16) then ([],⟨k.pos,5⟩)
      else if (Nz out).contains k.text then ([],⟨k.pos,7⟩)
      else if ((eX [] k.kids).2.err != 0) then ([],(eX [] k.kids).2)
      else mS (out ++ [⟨k.text,(eX [] k.kids).1⟩]) r
    else (out,Xy)
section
variable {out:List e8Sc} {l:List Syn} {k:Nat} {a:Syn}
end
def TypQ (t:Syn):List e8Sc×Int×Int:=if ((B0 t (.only 0)).2 != 0) then ([],0,3) else ((mS [] t.kids).1,(mS [] t.kids).2.pos,(mS [] t.kids).2.err)
end Go.Proofs.YtckhoadldibflaaGreatDoor
namespace Go.Aw
open Go
end Go.Aw
namespace Go.Proofs.YtckhoadldibflaaGreatDoor
open Go Go.Aw
@[reducible] def cPtW (p : Pt) (rs : AV) : List AV := [.int .i64 p.op, rs, .int .i64 p.type, .int .i64 p.var, .int .i64 p.scope, .int .i64 p.span, .int .i64 p.cond.op, .sl 8 (p.cond.args.map F5), .int .i64 p.cond.var, .int .i64 p.cond.field, .int .i64 p.cond.kind, .int .i64 p.cond.val.kind, .int .i64 p.cond.val.num, .str p.cond.val.text]
def tyV (V:List Va)(i:Int):Int:=((V[i.toNat]?).getD va0).type
section
variable (T:List e8Sc) (V:List Va)
def rptN (t:Syn)(xs:List Pt):Pt:=
 if (t.kind==5) then ⟨0,xs,tyV V (Ha (Lh V) t.name),Ha (Lh V) t.name,0,0,N7 T V t⟩
 else if (t.kind==10) then ⟨5,xs,tyV V (Ha (Lh V) (Cd t 1).name),Ha (Lh V) (Cd t 1).name,0,0,N7 T V (Cd t 1)⟩
 else if (t.kind==11) then ⟨6,xs,0,0,0,t.num,Zs⟩
 else if (t.kind==12) then ⟨7,xs,0,0,0,0,Gs T V (Cd t 1)⟩
 else ⟨t.kind-5,xs,0,0,0,0,Zs⟩
mutual
def rptT:Syn->Pt
 | ⟨k,x,n,m,kids,p⟩=>rptN T V ⟨k,x,n,m,kids,p⟩ (if (k==5) then [] else if (k==10)||(k==12) then rptH kids else rptL kids)
def rptH:List Syn->List Pt
 | []=>[]
 | x::_=>[rptT x]
def rptL:List Syn->List Pt
 | []=>[]
 | x::r=>rptT x::rptL r
end
end
section
variable {T:List e8Sc} {V:List Va} {t:Syn}
end
def scoN (p:Pt)(n:Int)(xs:List Pt):Pt:=⟨p.op,xs,p.type,p.var,if (Ps p||O1 p) then n else p.scope,p.span,p.cond⟩
def scoF (p:Pt)(n:Int):Int:=if (Ps p||O1 p) then n+1 else n
mutual
def scoP:Pt->Int->Pt×Int
 | ⟨o,xs,t,v,s,e,c⟩,n=>(scoN ⟨o,xs,t,v,s,e,c⟩ n (scoL xs (scoF ⟨o,xs,t,v,s,e,c⟩ n)).1,(scoL xs (scoF ⟨o,xs,t,v,s,e,c⟩ n)).2)
def scoL:List Pt->Int->List Pt×Int
 | [],n=>([],n)
 | a::r,n=>((scoP a n).1::(scoL r (scoP a n).2).1,(scoL r (scoP a n).2).2)
end
def vaG (T:List e8Sc):List Va->List Syn->List Va×Fa
 | V,[]=>(V,Xy)
 | V,t::r=>if (M3 T V t != 0) then ([],⟨t.pos,M3 T V t⟩) else vaG T (V ++ [Zm T t]) r
section
variable {T:List e8Sc} {V:List Va} {l:List Syn} {k:Nat} {a:Syn}
end
section
variable {T:List e8Sc} {V:List Va}
end
section
variable {T:List e8Sc} {V:List Va}
end
def vqR (T:List e8Sc)(t:Syn):List Va:=if ((vfR T t).err != 0) then [] else Vh T t
section
variable {T:List e8Sc} {V:List Va} {t:Syn}
end
def prgGoF (T:List e8Sc):List Qy->List Syn->List Qy×Fa
  | qs,[]=>(qs,Xy)
  | qs,k::r=>
    if ((qs.length:Int)==16) then ([],⟨k.pos,5⟩)
    else if (qs.map (·.name)).contains k.text then ([],⟨k.pos,7⟩)
    else if ((Ix T k).2.err != 0) then ([],(Ix T k).2)
    else prgGoF T (qs ++ [(Ix T k).1]) r
section
variable {T:List e8Sc} {qs:List Qy} {l:List Syn} {k:Nat} {a:Syn}
end
structure medQ (q:Qy):Prop where
 v:q.vars.length<=1048576
 k:q.key.length<=1048576
 r:q.returns.length<=1048576
 p:medP q.pattern
 e:∀e∈q.returns,Bz e<=1048576
theorem oS {T:List e8Sc}{n:Av}:∀(l:List Va) (out:List Int),(Wg T n l out).1.length<=out.length
  | [],out=>B6 _
  | v::r,out=>by
    rw [Wg];split
    . exact A3 _
    . have:=oS (T:=T) (n:=n) r (out.set v.type.toNat (Hz ((T[v.type.toNat]?).getD Yu) n))
      rw [List.length_set] at this;exact this
structure medG (p:Pg):Prop where
 t:p.types.length<=1048576
 f:∀s∈p.types,s.fields.length<=1048576
 q:p.queries.length<=1048576
 m:∀q∈p.queries,medQ q
section
variable {T:List e8Sc} {V:List Va} {t:Syn}
end
structure QGood (T:List e8Sc) (t:Syn) (q:Qy):Prop where
 ok:Ix T t=(qyR T t (Vh T t),Xy)
 is:q=qyR T t (Vh T t)
 v:((vfR T t).err != 0)=false
 k:(!(kyR T t (Vh T t)).2)=false
 w:(H5 T (Vh T t) t).err=0
 p:(Gj (ptR T t (Vh T t)) != 0)=false
 r:(Mp (rtF T (Vh T t)) (t.kids.drop 2)).err=0
section
variable (T:List e8Sc) (V:List Va)
def Y8 (v:Int):Av:=((V[v.toNat]?).getD va0).name
def iB (v f:Int):Av:=(((Xg T V v).fields[f.toNat]?).getD fi0).name
def Tf (v f:Int):Bool:=((decide (v<0)||decide ((V.length:Int)<=v))||decide (f<0))||decide (((Xg T V v).fields.length:Int)<=f)
def X3 (v f:Int):Av×Bool:=if Tf T V v f then ([],false) else (iB T V v f,true)
def Wc (e:Ex):Bool:=if (e.op==1)||(e.op==4) then Tf T V e.var e.field else if (e.op==2)||(e.op==3) then decide ((V.length:Int)<=e.var) else false
def Qz (e:Ex):Bool:=if (e.op==1)||(e.op==4) then Q3 (iB T V e.var e.field) else true
mutual
def Tj:Ex->Int×Bool
 | ⟨o,xs,v,f,k,x⟩=>if Wc T V ⟨o,xs,v,f,k,x⟩ then (6,false) else P0 xs (Qz T V ⟨o,xs,v,f,k,x⟩)
def P0:List Ex->Bool->Int×Bool
 | [],b=>(0,b)
 | x::r,b=>if ((Tj x).1 != 0) then ((Tj x).1,false) else P0 r (b&&(Tj x).2)
end
theorem mT (e:Ex):Tj T V e=if Wc T V e then (6,false) else P0 T V e.args (Qz T V e):=by cases e;rw [Tj]
def X9 (e:Ex):Bool:=if decide (1<=e.op)&&decide (e.op<=4) then if decide ((V.length:Int)<=e.var) then false else !(((e.op==1)||(e.op==4))&&decide (((Xg T V e.var).fields.length:Int)<=e.field)) else true
mutual
def Kp:Ex->Bool
 | ⟨o,xs,v,f,k,x⟩=>X9 T V ⟨o,xs,v,f,k,x⟩&&knoL xs
def knoL:List Ex->Bool
 | []=>true
 | x::r=>Kp x&&knoL r
end
mutual
def Nq:Ex->Bool
 | ⟨o,xs,v,f,k,x⟩=>Qz T V ⟨o,xs,v,f,k,x⟩&&namL xs
def namL:List Ex->Bool
 | []=>true
 | x::r=>Nq x&&namL r
end
theorem oY:∀l:List Ex,knoL T V l=l.all (Kp T V)
 | []=>by rw [knoL];rfl
 | x::r=>by rw [knoL,oY r,Jr]
theorem pN:∀l:List Ex,namL T V l=l.all (Nq T V)
 | []=>by rw [namL];rfl
 | x::r=>by rw [namL,pN r,Jr]
theorem Rz (e:Ex):Kp T V e=(X9 T V e&&e.args.all (Kp T V)):=by cases e;rw [Kp,oY]
theorem Yf (e:Ex):Nq T V e=(Qz T V e&&e.args.all (Nq T V)):=by cases e;rw [Nq,pN]
def knm (k:Int):Av:=if (k==0) then Gd else if (k==1) then E6 else D4
def Ro (v:Vl):Syn:=⟨13,v.text,knm v.kind,v.num,[],0⟩
def shN (e:Ex)(ks:List Syn):Syn:=
 if (e.op==0) then Ro e.val
 else if (e.op==1) then ⟨14,Y8 V e.var,iB T V e.var e.field,0,[],0⟩
 else if (e.op==2) then ⟨14,Y8 V e.var,F6,0,[],0⟩
 else if (e.op==3) then ⟨15,Y8 V e.var,[],0,[],0⟩
 else if (e.op==4) then ⟨16,Y8 V e.var,iB T V e.var e.field,e.kind,if (e.kind != 1) then [Ro e.val] else [],0⟩
 else if (e.op==12) then ⟨18,[],[],0,ks,0⟩ else ⟨17,[],[],e.op,ks,0⟩
mutual
def Io:Ex->Syn
 | ⟨o,xs,v,f,k,x⟩=>shN T V ⟨o,xs,v,f,k,x⟩ (shL xs)
def shL:List Ex->List Syn
 | []=>[]
 | x::r=>Io x::shL r
end
theorem xS:∀l:List Ex,shL T V l=l.map (Io T V)
 | []=>by rw [shL,Ca]
 | x::r=>by rw [shL,xS r,Bj]
theorem L0 (e:Ex):Io T V e=shN T V e (e.args.map (Io T V)):=by cases e;rw [Io,xS]
def jG (p:Pt):Syn:=⟨5,((T[p.type.toNat]?).getD Yu).name,Y8 V p.var,0,if !(F4 p.cond Lb) then [Io T V p.cond] else [],0⟩
def shPN (p:Pt)(ks:List Syn):Syn:=
 if (p.op==0) then jG T V p
 else ⟨p.op+5,[],[],if (p.op==6) then p.span else 0,ks++(if (p.op==5) then [jG T V p] else if (p.op==7) then [Io T V p.cond] else []),0⟩
mutual
def Kr:Pt->Syn
 | ⟨o,xs,t,v,s,n,c⟩=>shPN T V ⟨o,xs,t,v,s,n,c⟩ (shPs xs)
def shPs:List Pt->List Syn
 | []=>[]
 | a::r=>Kr a::shPs r
end
theorem rC:∀l:List Pt,shPs T V l=l.map (Kr T V)
 | []=>by rw [shPs,Ca]
 | x::r=>by rw [shPs,rC r,Bj]
theorem uQ (p:Pt):Kr T V p=shPN T V p (p.args.map (Kr T V)):=by cases p;rw [Kr,rC]
end
def Jo (q:Pt):Bool:=(q.op==0)||(q.op==5)
def Ko (q:Pt):Bool:=((q.op==0)||(q.op==5))||(q.op==7)
def Jn (p:Pt):List (Int×Int):=((Dd p).filter Jo).map fun q=>(q.var,q.type)
def Jw (p:Pt):List Ex:=((Dd p).filter Ko).map (·.cond)
theorem tyP_eq (p:Pt):Jn p=(if Jo p then [(p.var,p.type)] else [])++p.args.flatMap Jn:=by
 unfold Jn;rw [Oe,L6]
 have:((p.args.flatMap Dd).filter Jo).map (fun q=>(q.var,q.type))=p.args.flatMap Jn:=by
  rw [List.filter_flatMap,List.map_flatMap];rfl
 split
 . rw [Bj,this];rfl
 rw [this];rfl
theorem coP_eq (p:Pt):Jw p=(if Ko p then [p.cond] else [])++p.args.flatMap Jw:=by
 unfold Jw;rw [Oe,L6]
 have:((p.args.flatMap Dd).filter Ko).map (·.cond)=p.args.flatMap Jw:=by
  rw [List.filter_flatMap,List.map_flatMap];rfl
 split
 . rw [Bj,this];rfl
 rw [this];rfl
def vrE (T:List e8Sc)(L:List Int)(seen:List Av)(i:Nat)(v:Va):Int:=
 if !(Q3 v.name) then 8 else if seen.contains v.name then 7 else if decide (v.type<0)||decide ((T.length:Int)<=v.type) then 6 else if ((L[i]?).getD 0 != v.type) then 9 else 0
def nG (T:List e8Sc)(L:List Int):List Av->Nat->List Va->Int
 | _,_,[]=>0
 | seen,i,v::r=>if (vrE T L seen i v != 0) then vrE T L seen i v else nG T L (seen ++ [v.name]) (i+1) r
def vE (T:List e8Sc)(q:Qy):Int:=if (((Jn q.pattern).length:Int) != (q.vars.length:Int)) then 15 else nG T ((Jn q.pattern).map (·.2)) [] 0 q.vars
def Wf (q:Qy):Int:=((q.vars[0]?).getD va0).type
def kyF (T:List e8Sc)(q:Qy):List Fi:=((T[(Wf q).toNat]?).getD Yu).fields
def tK (q:Qy):Int:=ixI q.key (Wf q)
def R0 (T:List e8Sc)(q:Qy):Av:=(((kyF T q)[(tK q).toNat]?).getD fi0).name
def kyO (T:List e8Sc)(q:Qy):Bool:=((Oz T q.vars (R0 T q)).2&&((Oz T q.vars (R0 T q)).1==q.key))&&Q3 (R0 T q)
def Tk (T:List e8Sc)(q:Qy):Av×Bool:=
 if ((q.key.length:Int)==0) then ([],true)
 else if ((q.key.length:Int) != (T.length:Int)) then ([],false)
 else if decide (tK q<0)||decide (((kyF T q).length:Int)<=tK q) then ([],false)
 else (R0 T q,kyO T q)
section
variable (T:List e8Sc) (q:Qy)
def rtE:Int:=Ch C2 q.returns
def rZ:Bool:=q.vars.all fun v=>Q3 ((T[v.type.toNat]?).getD Yu).name
def usR:Int×Bool:=P0 T q.vars (Jw q.pattern++q.returns) (rZ T q)
def sh3:Av×Int:=if ((usR T q).1 != 0) then ([],(usR T q).1) else if !(usR T q).2 then ([],8) else ((Tk T q).1,0)
def sh2:Av×Int:=if (rtE q != 0) then ([],rtE q) else sh3 T q
def sh1:Av×Int:=if !(Tk T q).2 then ([],16) else if ((q.returns.length:Int)==0) then ([],15) else sh2 T q
def Ti:Av×Int:=if !(Q3 q.name) then ([],8) else if (Gj q.pattern != 0) then ([],Gj q.pattern) else if (vE T q != 0) then ([],vE T q) else sh1 T q
def qT:Syn:=⟨3,q.name,[],0,⟨4,(Ti T q).1,[],0,[],0⟩::Kr T q.vars q.pattern::q.returns.map (Io T q.vars),0⟩
def G5:Syn×Int:=if (C7 T != 0) then (Hb,C7 T) else if ((Ti T q).2 != 0) then (Hb,(Ti T q).2) else if ((B0 (qT T q) (.only 3)).2 != 0) then (Hb,(B0 (qT T q) (.only 3)).2) else (qT T q,0)
end
section
variable {T:List e8Sc} {V:List Va}
theorem Q4 {e:Ex}(h:C0 e=0):0<=e.var/\0<=e.field:=⟨(node_var (D1 h).1).1,tR (D1 h).1⟩
theorem kno_own {e:Ex}(h:C0 e=0):X9 T V e = !(Wc T V e):=by
 obtain ⟨h1,h2⟩:=Q4 h;have d1:decide (e.var<0)=false:=decide_eq_false (by omega);have d2:decide (e.field<0)=false:=decide_eq_false (by omega);obtain ⟨o1,o2,_⟩:=Wq (D1 h).1;unfold X9 Wc Tf;rw [d1,d2,Fz,Hf];have hc:e.op=0\/e.op=1\/e.op=2\/e.op=3\/e.op=4\/5<=e.op:=by omega
 rcases hc with hc | hc | hc | hc | hc | hc
 . rw [hc];rfl
 .
  rw [hc];cases decide ((V.length:Int)<=e.var) <;> cases decide (((Xg T V e.var).fields.length:Int)<=e.field) <;> rfl
 .
  rw [hc];cases decide ((V.length:Int)<=e.var) <;> rfl
 .
  rw [hc];cases decide ((V.length:Int)<=e.var) <;> rfl
 .
  rw [hc];cases decide ((V.length:Int)<=e.var) <;> cases decide (((Xg T V e.var).fields.length:Int)<=e.field) <;> rfl
 rw [if_neg (by simp;omega),if_neg (by simp;omega),if_neg (by simp;omega)];rfl
theorem use_ref:∀e:Ex,C0 e=0->Tj T V e=if Kp T V e then (0,Nq T V e) else (6,false):=by
  intro e
  induction e using Ex.ind with
  | h e ih=>
    intro h;have hk:=kno_own (T:=T) (V:=V) h;have hz:=(D1 h).2
    have key:∀l:List Ex,(∀a∈l,a∈e.args)->∀b,P0 T V l b=if l.all (Kp T V) then (0,b&&l.all (Nq T V)) else (6,false):=by
      intro l
      induction l with
      | nil=>intro _ b;rw [P0];simp
      | cons x r ih2=>
        intro hl b;have hx:=ih x (hl x (by simp)) (hz x (hl x (by simp)));rw [P0,hx,Jr,Jr];cases hq:Kp T V x with
        | false=>rfl
        | true=>
          rw [if_pos rfl];rw [if_neg (show ¬((0:Int) != 0)=true by decide),ih2 (fun a ha=>hl a (by simp [ha]))];rw [Ee,Bool.and_assoc]
    rw [mT,Rz,Yf,hk];cases Wc T V e with
    | true=>rfl
    | false=>
      rw [if_neg (by decide),key e.args (fun a ha=>ha)];rfl
theorem gN {l:List Ex}(h:∀e∈l,C0 e=0):∀b,P0 T V l b=if l.all (Kp T V) then (0,b&&l.all (Nq T V)) else (6,false):=by
  induction l with
  | nil=>intro b;rw [P0];simp
  | cons x r ih=>
    intro b;rw [P0,use_ref x (h x (by simp)),Jr,Jr];cases hq:Kp T V x with
    | false=>rfl
    | true=>
      rw [if_pos rfl];rw [if_neg (show ¬((0:Int) != 0)=true by decide),ih (fun a ha=>h a (by simp [ha]))];rw [Ee,Bool.and_assoc]
end
theorem Sj  : Ak Tryz.prog 101 [] (.agg (sP Xy)):=by
 refine Cw 2 Tryz.func101 rfl fun H=>?_
 refine Aa (Dx oO fun b0=>B2 (Qp (D0 Jt) ?_));refine Bw 0 Jt (_::_) (Rb ?_);refine Yx [.agg Jt] (Zb 0) S1 ?_;rfl
theorem qU  : Ak Tryz.prog 195 [] (.agg (cE Lb)):=by
 refine Cw 3 Tryz.func195 rfl fun H=>?_
 refine Aa (Dx yY fun b0=>B2 (Qp (D0 Mf) (Qp (D0 Hh) ?_)));refine Bw 0 Hh (_::_) ?_;refine Rb ?_;refine Yx [.agg Hh] (Zb 0) S1 ?_;rfl
theorem qV (t:Syn):Ak Tryz.prog 173 [.agg (cSyn t)] (.agg (cV (rP t))):=by
 refine Cw 18 Tryz.func173 rfl fun H=>?_
 refine Aa (Qp (Eh Ag) (Dx [.int .i64 0,.int .i64 0,.str []] fun b2=>?_));refine Aq (Ba (Qp (Qf Xe) (Qp Dk (Aq (AW.block (Aa (Qp (A9 rfl rfl) (Qp Ao (Ap (fun hc1=>Aa (Qp (Qf M7) (Qp Be (Qp (D0 Mf) ?_)))) fun hc1=>Aa (Qp (A9 rfl rfl) (Qp Ao (Ap (fun hc2=>Aa (Qp (Qf Oy) (Qp Dk (Qp (D0 Mf) ?_)))) fun hc2=>Rf (Aa (Qp (Qf M7) (Qp Be (Qp (D0 Mf) ?_))))))))))))))))
 .
  refine Bw 0 Mf (_::_) (Ra ?_);refine Yx [.agg Mf] (Zb 0) S1 ?_;simp only [Ad,rP,hc1,↓reduceIte,Al];rfl
 .
  refine Bw 0 Mf (_::_) (Ra ?_);refine Yx [.agg Mf] (Zb 0) S1 ?_;simp only [Ad,rP,hc1,hc2,↓reduceIte,Al];rfl
 refine Bw 0 Mf (_::_) (Rb ?_);refine Yx [.agg Mf] (Zb 0) S1 ?_;simp only [Ad,rP,hc1,hc2,↓reduceIte,Al];rfl
theorem rf_pos1 (f:Fi)(n:Av):Ak Tryz.prog 234 [.agg (vM f),.ptr [.str n]] (.bool (f.name==n)):=by
 refine Cw 8 Tryz.func234 rfl fun H=>?_
 refine Aa (Qp (Eh E4) (Qp Ao (B2 (Qp (Qf E4) (Qp Dk (Qp Dk (Qp (A9 rfl rfl) (Qp Ao (Rb (Qr (.bool _) ?_))))))))));rfl
theorem qR (l:List Fi)(hl:l.length<=1048576)(K:FuncId)(hK:U3 Tryz.prog K=true)(cs:List AV)(p:Fi->Bool)(hf:∀a∈l,Ak Tryz.prog K (.agg (vM a)::cs) (.bool (p a))):Ak Tryz.prog 146 [.sl 2 (l.map vM),.fn (.func K) [] cs] (.int .i64 (Wd p l)):=by
 refine Cw 19 Tryz.func146 rfl fun H=>?_
 refine Aa (Qp Ah (Aq (Ba (Qp Ez ?_))));refine Qp (Da l.length rfl rfl (by simp)) ?_;refine Qp Ai (Aq (AW.block ?_));refine AW.Aan (fun (k:Nat)=>(⟨[(0,.sl 2 (l.map vM)),(1,.fn (.func K) [] cs),(6,.sl 2 (l.map vM)),(7,.int .i64 l.length),(8,.int .i64 (k:Int))],H,19⟩:St)) (fun k=>k<=l.length/\(l.take k).any p=false) (fun k=>l.length-k) (0) ?_ Bx ?_
 . exact ⟨A3 _,by simp⟩
 rintro k hR;refine Aa (Qp Bt (Re (E9 (fun hc1=>?_) fun hc1=>?_)))
 .
  obtain ⟨a,ha⟩:=B3 hc1;have hlt:=Bf ha;have hm:=An ha;refine A5 (AW.seq (AW.block (Aa (Qp Ai (Qp Ah (B2 (Qp (A0 (v:=.fn _ _ _) rfl) (Qp Ez (Qp Ai ?_)))))))));refine Qp (Cp E4 rfl rfl (by omega) (Bp ha)) ?_;refine Qp (B1 E4) (Qp (Pi hK rfl rfl rfl (hf a (An ha))) (Ap (fun hc2=>Aa (Qp Ai (Qp Ah (Ra (Au (Cn (Au (Qr (Iq _) ?_)))))))) fun hc2=>Rf (AW.region (Qp Dt (Qp Ai (Aq ?_))))))
  . exact Ye (AV.int .i64) (fD ha hR.2 hc2)
  refine ⟨k+1,?_,?_,Bx⟩
  . exact ⟨hlt,Hr hR.2 ha hc2⟩
  omega
 have hte:=B9 hc1;have hall:=hR.2;rw [hte] at hall;refine AW.exit ?_;refine Bn (Ri (Aa (Qp Ah (Rb ?_))));refine Qr (Iq _) ?_;exact Ye (AV.int .i64) (Z0 hall)
theorem Mu (s:e8Sc)(hs:s.fields.length<=1048576)(n:Av):Ak Tryz.prog 168 [.agg (Js s),.str n] (.int .i64 (Hz s n)):=by
 refine Cw 9 Tryz.func168 rfl fun H=>?_
 refine Aa (Qp (Eh Jl) (Qp (Vk (v:=.str _) (cs:=[.str _]) rfl rfl rfl) (Qp Ah (B2 (Qp (Qf [_]) (Qp Cg (Qp (Ci (l:=[]) (l':=[.ptr _]) rfl rfl) ?_)))))));refine Qp (Qc rfl (qR s.fields hs 234 (by kernel_rfl) [.ptr [.str n]] (fun f=>f.name==n) (fun a _=>rf_pos1 a n))) ?_;refine Qp Ah (Rb (Qr (Iq _) ?_));exact Eq.trans rfl (congrArg (fun q:Int=>AV.int .i64 q) (fE (fun f:Fi=>f.name) n s.fields))
theorem rf_each (bp TT:Nat)(cs:List AV)(l:List Syn)(hl:l.length<=1048576)(K:FuncId)(hK:U3 Tryz.prog K=true)(fs:List AV)(f:Syn->Fa)(hf:∀a∈l,By Tryz.prog K bp TT cs cs (fs ++ [.agg (cSyn a)]) (.agg (sP (f a)))):By Tryz.prog 94 bp TT cs cs [.sl 6 (l.map C3),.fn (.func K) fs []] (.agg (sP (Mp f l))):=by
 intro H;refine Is 23 Tryz.func94 rfl ?_;refine Aa (Dx oO fun b4=>Aq (Ba (Qp Ez ?_)));refine Qp (Da l.length rfl rfl (by simp)) ?_;refine Qp Ai (Aq (AW.block ?_));refine AW.Aan (fun (k:Nat)=>(⟨[(0,.sl 6 (l.map C3)),(1,.fn (.func K) fs []),(4,.val (.pointer (some ⟨b4,0,none⟩))),(8,.sl 6 (l.map C3)),(9,.int .i64 l.length),(10,.int .i64 (k:Int))],.box b4 94 oO :: .box bp TT cs::H,23⟩:St)) (fun k=>k<=l.length/\(l.take k).any (fun x=>(f x).err != 0)=false) (fun k=>l.length-k) (0) ?_ Bx ?_
 . exact ⟨A3 _,by simp⟩
 rintro k hR;refine Aa (Qp Bt (Re (E9 (fun hc1=>?_) fun hc1=>?_)))
 .
  obtain ⟨a,ha⟩:=B3 hc1;have hlt:=Bf ha;have hm:=An ha;refine A5 (AW.seq (AW.block (Aa ?_)));refine Qp (Cp Ag rfl rfl (by omega) (I4 ha)) ?_;refine Qp (B1 Ag) (Dx F1 fun b6=>?_);refine Bw 0 Ag (_::_::_::_) ?_;refine Ji 6 0 rfl ?_;refine B2 (Qp (A0 (v:=.fn _ _ _) rfl) (Qp (B1 Ag) (Rt (Ks hK rfl rfl (Bh _) ((hf a hm).at (k:=1) (H2:=_::_::_) rfl rfl)) (Dx oO fun b7=>?_))));refine Bw 0 Jt (_::_::_::_) ?_;refine Ji 7 0 rfl ?_;refine B2 (Qp (Qf [Iq _]) (Qp Be (Qp Bq (Ap (fun hc2=>Aa (Qp (B1 Jt) ?_)) fun hc2=>Rf (AW.region (Qp Dt (Qp Ai (Aq ?_))))))))
  .
   refine Bw 0 Jt (_::_::_) (Ra (Au (Cn (Au ?_))));refine ⟨.inr rfl,[.agg Jt],Zb 0,_,S1,?_⟩;exact ⟨Ye (fun q:Fa=>AV.agg (sP q)) (eL ha hR.2 hc2),rfl⟩
  refine ⟨k+1,?_,?_,Bx⟩
  . exact ⟨hlt,Hr hR.2 ha hc2⟩
  omega
 have hte:=B9 hc1;have hall:=hR.2;rw [hte] at hall;refine AW.exit ?_;refine Bn (Ri (Aa ?_));refine Qp (Qc rfl (Sj)) ?_;refine Bw 0 Jt (_::_::_) (Rb ?_);refine ⟨.inr rfl,[.agg Jt],Zb 0,_,S1,?_⟩;exact ⟨Ye (fun q:Fa=>AV.agg (sP q)) (Zq hall),rfl⟩
abbrev N4 (q:Fa):AV:=AV.agg (sP q)
theorem rf_look (T:List e8Sc)(V:List Va)(s:Nx)(bp:Nat)(hrv:RvOK T V)(t:Syn)(ht:Vp t):By Tryz.prog 169 bp 159 (Zj T V s) (Zj T V s) [.val (.pointer (some ⟨bp,0,none⟩)),.agg (cSyn t)] (.agg (sP (Ms T V t))):=by
 intro H;refine Is 72 Tryz.func169 rfl ?_;refine Aa (Qp (Eh Ag) (Dx oO fun b4=>Aq (Ba (Qp (Qf Ag) (Qp Be (Qp Bq (Qp A8 (Qg [] Qw (Qf Ag) (Qg [(11,_)] Qw Be (Qg [(12,_)] Qw Bq ?_))))))))));refine Qp Ej (Qp A8 (Qg [] Qw (Qf Ag) (Qg [(16,_)] Qw Be (Qg [(17,_)] Qw Bq (Qp Ej (Ap (fun hc1=>Aa (Qp (Qc rfl (Sj)) ?_)) fun hc1=>A5 (AW.seq (N3 1 rfl (Qn 0 rfl Ce (Qn 1 rfl (Af rfl) (Qn 2 rfl Co (Qn 3 rfl (Kn (.smapv _) rfl) (Qn 4 rfl (Qf Oy) (Qn 5 rfl Dk ?_))))))))))))))
 .
  refine Bw 0 Jt (_::_::_) (Rc ?_);refine ⟨.inr rfl,[.agg Jt],Zb 0,_,S1,?_⟩;exact ⟨Ye N4 (look_1 hc1),rfl⟩
 refine Qn 6 rfl (dQ (es:=Pw (Lh V)) tok rfl rfl rfl rfl rfl (by kernel_rfl) rfl rfl (Ud _ _ rfl) (uR _ _)) ?_;refine Qn 7 rfl Ml (Qn 8 rfl Km (Qn 9 rfl bG (Qn 10 rfl Ah (Qn 11 rfl Ao ?_))));refine Fs ?_;refine A2 (Ba (Qp A8 (Qp E7 (Ap (fun hc2=>Aa (Qp (Qf [Iq _]) (Qp Be (Qp (D0 Jt) ?_)))) fun hc2=>?_))))
 .
  refine Bw 0 Jt (_::_::_) (Rc ?_);refine ⟨.inr rfl,[.agg Jt],Zb 0,_,S1,?_⟩;exact ⟨Ye N4 (look_2 hc1 hc2),rfl⟩
 have hct:(Lh V).contains t.text=true:=by simpa using hc2
 refine (tC hct).elim fun va hva=>?_
 have hix:=Nw hct;have hix2:=hix.2;rw [B7] at hix2;have hvm:=An hva;have hvt:=hrv.ty va hvm;refine (aT hrv hvm).elim fun sc hsc=>?_
 have hsr:=uN hva hsc;have hfl:=hrv.fl sc (An hsc);refine A5 (Ba (Qp (Qf Ag) (Qp Be (Qp Aj (Qp A8 (Qg [] Qw (Qf Ag) (Qg [(40,_)] Qw Be (Qg [(41,_)] Qw Aj ?_))))))));refine Qg [(42,_)] Qw A8 (Qg [] Qw (Qf Xe) (Qg [(44,_)] Qw Dk (Qg [(45,_)] Qw (A9 rfl rfl) (Qg [(43,_),(46,_)] Qw Ej (Qp Cr (Ap (fun hc3=>Aa (Qp (Qc rfl (Sj)) ?_)) fun hc3=>A5 (AW.seq (AW.seq (N3 1 rfl (Qn 0 rfl Ce (Qn 1 rfl (Af rfl) (Qn 2 rfl Co (Qn 3 rfl (Kn (.sl _ _) rfl) (Qn 4 rfl Ce (Qn 5 rfl (Af rfl) (Qn 6 rfl Co (Qn 7 rfl (Kn (.sl _ _) rfl) ?_)))))))))))))))))
 .
  refine Bw 0 Jt (_::_::_) (Rc ?_);refine ⟨.inr rfl,[.agg Jt],Zb 0,_,S1,?_⟩;exact ⟨Ye N4 (look_3 hc1 hc2 hc3),rfl⟩
 refine Qn 8 rfl Ai (Qn 9 rfl (Cp E4 rfl rfl (hix.1) (Bp hva)) (Qn 10 rfl (Qf [Iq _]) (Qn 11 rfl Be (Qn 12 rfl (Cp Jl rfl rfl (hvt.1) (Bp hsc)) (Qn 13 rfl (B1 Jl) (Qn 14 rfl (Qf Xe) (Qn 15 rfl Dk (Qn 16 rfl (Qc rfl (Mu sc hfl t.name)) (Qn 17 rfl Bt ?_)))))))));refine Fs ?_;refine A2 (E9 (fun hc4=>Aa (Qp (Qf [Iq _]) (Qp Be (Qp (D0 Jt) ?_)))) fun hc4=>A5 (Aa (Qp (Qc rfl (Sj)) ?_)))
 .
  refine Bw 0 Jt (_::_::_) (Rc ?_);refine ⟨.inr rfl,[.agg Jt],Zb 0,_,S1,?_⟩;exact ⟨Ye N4 (look_4 hc1 hc2 hc3 (by rw [hsr];exact hc4)),rfl⟩
 refine Bw 0 Jt (_::_::_) (Rb ?_);refine ⟨.inr rfl,[.agg Jt],Zb 0,_,S1,?_⟩;exact ⟨Ye N4 (look_5 hc1 hc2 hc3 (by rw [hsr];exact hc4)),rfl⟩
theorem rf_walk (T:List e8Sc)(V:List Va)(s:Nx)(bp:Nat)(hrv:RvOK T V)(t:Syn)(ht:Vp t):By Tryz.prog 98 bp 159 (Zj T V s) (Zj T V s) [.val (.pointer (some ⟨bp,0,none⟩)),.agg (cSyn t)] (.agg (sP (H5 T V t))):=by
 intro H
 revert H
 induction t using Syn.ind
 rename_i t ih;intro H;refine Is 18 Tryz.func98 rfl ?_;refine Aa (Qp (Eh Ag) (Dx oO fun b4=>Aq (Ba (Qp Ce (Qp (B1 Ag) ?_)))));refine AOL.Aas (C9 (k:=1) (by kernel_rfl) rfl rfl (rf_look T V s bp hrv t ht)) rfl rfl ?_;refine Dx oO fun b5=>?_
 refine Bw 0 Jt (_::_::_::_) ?_;refine Ji 5 0 rfl ?_;refine B2 (Qp (Qf [Iq _]) (Qp Be (Qp Bq (Ap (fun hc1=>Aa (Qp (B1 Jt) ?_)) fun hc1=>A5 (Aa (Qp (Qf Iv) (Qp Cg (Qp Ce (Qp (Ci (l:=[.val _]) (l':=[]) rfl rfl) ?_)))))))))
 .
  refine Bw 0 Jt (_::_::_) (Rc ?_);refine ⟨.inr rfl,[.agg Jt],Zb 0,_,S1,?_⟩;exact ⟨Ye N4 (walk_1 hc1),rfl⟩
 refine Rt (Dr rfl ((rf_each bp 159 _ t.kids (Fl (aO ht) (by decide)) 98 (by kernel_rfl) [.val (.pointer (some ⟨bp,0,none⟩))] (H5 T V) (fun a ha=>fun R=>ih a ha (M9 ht ha) R)).at (k:=1) (H2:=_::_::_) rfl rfl)) ?_;refine Bw 0 Jt (_::_::_) (Rb ?_);refine ⟨.inr rfl,[.agg Jt],Zb 0,_,S1,?_⟩;exact ⟨Ye N4 (walk_2 hc1),rfl⟩
theorem scE (l:List Ex):∀c∈l.map F5,A7 c=true:=fun c hc=>by
 obtain ⟨x,_,rfl⟩:=Db.1 hc;rw [Ky];rfl
theorem xL (bp TT:Nat)(cs:List AV)(l:List Syn)(hl:l.length<=1048576)(K:FuncId)(hK:U3 Tryz.prog K=true)(fs:List AV)(f:Syn->Ex)(hf:∀a∈l,By Tryz.prog K bp TT cs cs (fs ++ [.agg (cSyn a)]) (.agg (cE (f a)))):By Tryz.prog 174 bp TT cs cs [.sl 6 (l.map C3),.fn (.func K) fs []] (.sl 8 ((l.map f).map F5)):=by
 intro H;refine Is 22 Tryz.func174 rfl ?_;refine Aa (Qp (Cm (z:=8) rfl) (B2 (Qp Qh ?_)));refine AOL.ghost (GS.row (t:=5) 36 8 rfl) ?_;refine Aq (Ba (Qp Ez ?_));refine Qp (Da l.length rfl rfl (by simp)) ?_;refine Qp Ai (Aq (AW.block ?_));refine AW.Aan (fun (p:Nat×List (List AV)×Value)=>(⟨[(0,.sl 6 (l.map C3)),(1,.fn (.func K) fs []),(5,.row p.2.2 8 p.2.1),(8,.sl 6 (l.map C3)),(9,.int .i64 l.length),(10,.int .i64 (p.1:Int))],.row p.2.2 p.2.1.length 36 8 :: .box bp TT cs::H,22⟩:St)) (fun p=>p.1<=l.length/\p.2.1=((l.take p.1).map f).map F5) (fun p=>l.length-p.1) ((0,[],.slice none 0 0)) ?_ Bx ?_
 . exact ⟨A3 _,rfl⟩
 rintro p hR;refine Aa (Qp Bt (Re (E9 (fun hc1=>?_) fun hc1=>?_)))
 .
  obtain ⟨a,ha⟩:=B3 hc1;have hlt:=Bf ha;have hm:=An ha;have hsc:∀c∈p.2.1,A7 c=true:=by rw [hR.2];exact scE _
  refine A5 (AW.seq (AW.block (Aa ?_)));refine Qp (Cp Ag rfl rfl (by omega) (I4 ha)) ?_;refine Qp (B1 Ag) (Dx F1 fun b7=>?_);refine Bw 0 Ag (_::_::_::_) ?_;refine Ji 7 0 rfl ?_;refine Aq (AW.region (Qp (A0 (v:=.row _ _ _) rfl) (Qp (A0 (v:=.fn _ _ _) rfl) (Qp (B1 Ag) (Rt (Ks hK rfl rfl (Bh _) ((hf a hm).at (k:=1) (H2:=_::_::_) rfl rfl)) (Qp (G0 [Hh] rfl) ?_))))));refine Qe (Pk 0 rfl (Dl rfl) (hsc) (by simp [hR.2];omega) (by simp [hR.2,maxLen];omega)) ?_;rintro _ _ ⟨v19,rfl,rfl⟩;refine Qp (Bb (v:=.row _ _ _) rfl) (Rk (AW.region (Qp Dt (Qp Ai (Aq ?_)))));refine ⟨(p.1+1,p.2.1 ++ [cE (f a)],v19),?_,?_,Bx⟩
  . exact ⟨hlt,by simp only;rw [Cf ha,hR.2];simp [Ky]⟩
  simp only;omega
 have hte:=B9 hc1;have hall:=hR.2;rw [hte] at hall;refine AW.exit ?_;refine Bn (Ri (Aa ?_));refine Qp (A0 (v:=.row _ _ _) rfl) ?_;refine AOL.ghost (GS.unrow 21 rfl) ?_;refine Qp Xk (Rb ?_);refine ⟨.inr rfl,[.sl _ _],Ze,_,S1,?_⟩;exact ⟨Eq.trans rfl (congrArg (AV.sl 8) hall),rfl⟩
abbrev Mm (q:Ex):AV:=AV.agg (cE q)
theorem mK (T:List e8Sc)(V:List Va)(s:Nx)(bp:Nat)(hrv:RvOK T V)(t:Syn)(ht:Vp t)(hw:(H5 T V t).err=0):By Tryz.prog 100 bp 159 (Zj T V s) (Zj T V s) [.val (.pointer (some ⟨bp,0,none⟩)),.agg (cSyn t)] (.agg (cE (Gs T V t))):=by
 intro H
 revert H
 induction t using Syn.ind
 rename_i t ih;intro H;refine Is 101 Tryz.func100 rfl ?_;refine Aa (Qp (Eh Ag) (Dx yY fun b4=>Re (N3 1 rfl (Qn 0 rfl Ce (Qn 1 rfl (Af rfl) (Qn 2 rfl Co (Qn 3 rfl (Kn (.smapv _) rfl) (Qn 4 rfl (Qf Oy) (Qn 5 rfl Dk ?_)))))))));refine Qn 6 rfl (nP (es:=Pw (Lh V)) tok rfl rfl rfl rfl rfl (by kernel_rfl) rfl rfl (Ud _ _ rfl)) ?_;refine Qn 7 rfl Ah ?_;refine Fs ?_;refine A2 (Ba (Qp (Qf Ag) (Qp Be (Aq (AW.block (Aa (Qp Aj (Qp Ao (Ap (fun hc1=>Aa (Qp (B1 Ag) (Qp (Qc rfl (qV t)) (Qp (D0 Hh) ?_)))) fun hc1=>Aa (Qp Aj (Qp Ao (Ap (fun hc2=>Ba (Qp (Qf Xe) (Qp Dk (Qp (A9 rfl rfl) (Ap (fun hc3=>Aa (Qp Ai (Qp (D0 Hh) ?_))) fun hc3=>?_))))) fun hc2=>?_))))))))))))
 .
  refine Bw 0 Hh (_::_::_) ?_;refine Ra ?_;refine ⟨.inr rfl,[.agg Hh],Zb 0,_,S1,?_⟩;exact ⟨Ye Mm ((K1 T V t).trans (leafx_1 hc1)),rfl⟩
 .
  refine Bw 0 Hh (_::_::_) ?_;refine Rc (Cn (Au ?_));refine ⟨.inr rfl,[.agg Hh],Zb 0,_,S1,?_⟩;exact ⟨Ye Mm ((K1 T V t).trans (leafx_2 hc1 hc2 hc3)),rfl⟩
 .
  have hct:=pE (Kl hw).1 (Or.inl (by simpa using hc2));refine (tC hct).elim fun va hva=>?_
  have hix:=Nw hct;have hix2:=hix.2;rw [B7] at hix2;have hvm:=An hva;have hvt:=hrv.ty va hvm;refine (aT hrv hvm).elim fun sc hsc=>?_
  have hsr:=uN hva hsc;have hfl:=hrv.fl sc (An hsc);refine A5 (AW.seq (N3 1 rfl (Qn 0 rfl Ai (Qn 1 rfl Ce (Qn 2 rfl (Af rfl) (Qn 3 rfl Co (Qn 4 rfl (Kn (.sl _ _) rfl) (Qn 5 rfl Ce (Qn 6 rfl (Af rfl) (Qn 7 rfl Co (Qn 8 rfl (Kn (.sl _ _) rfl) ?_)))))))))));refine Qn 9 rfl Ai (Qn 10 rfl (Cp E4 rfl rfl (hix.1) (Bp hva)) (Qn 11 rfl (Qf [Iq _]) (Qn 12 rfl Be (Qn 13 rfl (Cp Jl rfl rfl (hvt.1) (Bp hsc)) (Qn 14 rfl (B1 Jl) (Qn 15 rfl (Qf Xe) (Qn 16 rfl Dk (Qn 17 rfl (Qc rfl (Mu sc hfl t.name)) (Qn 18 rfl (D0 Hh) ?_)))))))));refine bH 19 rfl (Hx 0 (.agg _) Hh (_::_::_) rfl) ?_;rintro _ _ ⟨rfl,rfl⟩;refine A2 (AW.ret (Cn (Au ?_)));refine ⟨.inr rfl,[.agg Hh],Zb 0,_,S1,?_⟩;exact ⟨Ye Mm ((K1 T V t).trans (leafx_3 hc1 hc2 hc3 hsr)),rfl⟩
 refine Aa (Qp Aj (Qp Ao (Ap (fun hc4=>Aa (Qp Ai (Qp (D0 Hh) ?_))) fun hc4=>Aa (Qp Aj (Qp Ao (Ap (fun hc5=>?_) fun hc5=>Aa (Qp Aj (Qp Ao (Ap (fun hc7=>Aa (Qp (Qf Iv) (Qp Cg (Qp Ce (Qp (Ci (l:=[.val _]) (l':=[]) rfl rfl) ?_))))) fun hc7=>Rf (AW.seq ?_))))))))))
 .
  refine Bw 0 Hh (_::_::_) ?_;refine Ra ?_;refine ⟨.inr rfl,[.agg Hh],Zb 0,_,S1,?_⟩;exact ⟨Ye Mm ((K1 T V t).trans (leafx_4 hc1 hc2 hc4)),rfl⟩
 .
  have hct:=pE (Kl hw).1 (Or.inr (Or.inr (by simpa using hc5)));refine (tC hct).elim fun va hva=>?_
  have hix:=Nw hct;have hix2:=hix.2;rw [B7] at hix2;have hvm:=An hva;have hvt:=hrv.ty va hvm;refine (aT hrv hvm).elim fun sc hsc=>?_
  have hsr:=uN hva hsc;have hfl:=hrv.fl sc (An hsc);refine AW.seq (N3 1 rfl (Qn 0 rfl Ai (Qn 1 rfl Ce (Qn 2 rfl (Af rfl) (Qn 3 rfl Co (Qn 4 rfl (Kn (.sl _ _) rfl) (Qn 5 rfl Ce (Qn 6 rfl (Af rfl) (Qn 7 rfl Co (Qn 8 rfl (Kn (.sl _ _) rfl) ?_))))))))));refine Qn 9 rfl Ai (Qn 10 rfl (Cp E4 rfl rfl (hix.1) (Bp hva)) (Qn 11 rfl (Qf [Iq _]) (Qn 12 rfl Be (Qn 13 rfl (Cp Jl rfl rfl (hvt.1) (Bp hsc)) (Qn 14 rfl (B1 Jl) (Qn 15 rfl (Qf Xe) (Qn 16 rfl Dk (Qn 17 rfl (Qc rfl (Mu sc hfl t.name)) (Qn 18 rfl (Qf M7) (Qn 19 rfl Be (Qn 20 rfl (D0 Hh) ?_)))))))))));refine Ur 21 rfl (Gp (l:=yY) (by kernel_rfl)) (by rintro _ _ ⟨b6,rfl,rfl⟩;simp) ?_;rintro _ _ ⟨b6,rfl,rfl⟩;refine bH 22 rfl (Hx 0 (.agg _) Hh (_::_::_::_) rfl) ?_;rintro _ _ ⟨rfl,rfl⟩;refine A2 (Ba (Qp (Qf Iv) (Qp Cg ?_)));refine Qp (Da t.kids.length rfl rfl (by simp)) ?_;refine Qp De (Ap (fun hc6=>?_) fun hc6=>A5 (Aa ?_))
  .
   have h0:0<t.kids.length:=by have:=Do hc6;omega
   refine AW.region (Qp (Qf Iv) (Qp Cg ?_));refine Qp (Cp Ag rfl rfl (by decide) (I4 (Ie h0))) ?_;refine Qp (B1 Ag) (Qp (Qc rfl (qV (Cd t 0))) (Qp Co ?_));refine Bw 0 Hh (_::_::_::_) ?_;refine B2 ?_;refine Nu 0 Hh rfl ?_;refine Bw 1 Hh (_::_::_::_) ?_;refine Ra ?_;refine ⟨.inr rfl,[.agg Hh],Zb 1,_,S2,?_⟩;exact ⟨Ye Mm ((K1 T V t).trans (leafx_5 hc1 hc2 hc4 hc5 hsr hc6)),rfl⟩
  refine Nu 0 Hh rfl ?_;refine Bw 1 Hh (_::_::_::_) ?_;refine Ra ?_;refine ⟨.inr rfl,[.agg Hh],Zb 1,_,S2,?_⟩;exact ⟨Ye Mm ((K1 T V t).trans (leafx_6 hc1 hc2 hc4 hc5 hsr hc6)),rfl⟩
 .
  refine Rt (Dr rfl ((xL bp 159 _ t.kids (Fl (aO ht) (by decide)) 100 (by kernel_rfl) [.val (.pointer (some ⟨bp,0,none⟩))] (Gs T V) (fun a ha=>fun R=>ih a ha (M9 ht ha) ((Kl hw).2 a ha) R)).at (k:=1) (H2:=_::_::_) rfl rfl)) ?_;refine Qp (D0 Hh) ?_;refine Bw 0 Hh (_::_::_) ?_;refine Ra ?_;refine ⟨.inr rfl,[.agg Hh],Zb 0,_,S1,?_⟩;exact ⟨Ye Mm ((K1 T V t).trans (leafx_7 hc1 hc2 hc4 hc5 hc7)),rfl⟩
 refine Id ?_;refine Qn 0 rfl (Qf M7) (Qn 1 rfl Be (Qn 2 rfl (Qf Iv) (Qn 3 rfl Cg (Qn 4 rfl Ce (Qn 5 rfl (Ci (l:=[.val _]) (l':=[]) rfl rfl) ?_)))));refine Ma 6 rfl (Dr rfl ((xL bp 159 _ t.kids (Fl (aO ht) (by decide)) 100 (by kernel_rfl) [.val (.pointer (some ⟨bp,0,none⟩))] (Gs T V) (fun a ha=>fun R=>ih a ha (M9 ht ha) ((Kl hw).2 a ha) R)).at (k:=1) (H2:=_::_::_) rfl rfl)) ?_;refine Qn 7 rfl (D0 Hh) ?_;refine Ma 8 rfl (Hx 0 (.agg _) Hh (_::_::_) rfl) ?_;refine Fs ?_;refine A2 (AW.ret ?_);refine ⟨.inr rfl,[.agg Hh],Zb 0,_,S1,?_⟩;exact ⟨Ye Mm ((K1 T V t).trans (leafx_8 hc1 hc2 hc4 hc5 hc7)),rfl⟩
theorem tW (a b c d:HO)(H:List HO):List.Perm (a::b::c::d::H) (b::c::d::a::H):=by
 have h1:List.Perm (a::b::c::d::H) (b::a::c::d::H):=List.Perm.swap ..;have h2:List.Perm (a::c::d::H) (c::a::d::H):=List.Perm.swap ..;have h3:List.Perm (a::d::H) (d::a::H):=List.Perm.swap ..;exact (h1.trans (h2.cons b)).trans ((h3.cons c).cons b)
theorem rf_decH (T:List e8Sc)(V:List Va)(t:Syn)(v:Value)(bp bn:Nat)(H:List HO):(.row v ((V ++ [Zm T t]).map Ox).length 50 2 :: .box bp 159 [.sl 2 (T.map Js),.smapv (Pw (Nz T)),.row v 2 ((V ++ [Zm T t]).map Ox),.val (.map (some bn)),.int .i64 0,.int .i64 0] :: .smap bn (Pw (Lh (V ++ [Zm T t])))::H:List HO) = .row v (V.map Ox ++ [Ox (Zm T t)]).length 50 2 :: .box bp 159 [.sl 2 (T.map Js),.smapv (Pw (Nz T)),.row v 2 (V.map Ox ++ [Ox (Zm T t)]),.val (.map (some bn)),.int .i64 0,.int .i64 0] :: .smap bn (Pw (Lh V ++ [t.name]))::H:=by
 simp [Zm]
theorem Ua (T:List e8Sc)(hl:T.length<=1048576)(hd:(Nz T).Nodup)(H:List HO):Cj Tryz.prog 93 H [.sl 2 (T.map Js)] (fun r H'=>∃b bn,r = .val (.pointer (some ⟨b,0,none⟩))/\H' = .box b 159 [.sl 2 (T.map Js),.smapv (Pw (Nz T)),.val (.slice none 0 0),.val (.map (some bn)),.int .i64 0,.int .i64 0] :: .smap bn []::H):=by
 refine Is 27 Tryz.func93 rfl ?_;refine AW.ghostPost (Aa (Qp Qh (B2 (Qp Ez (Qe (Lk) ?_)))));rintro _ _ ⟨b7,rfl,rfl⟩;refine Qe (Lk) ?_;rintro _ _ ⟨b8,rfl,rfl⟩;refine Qp (Ju (l0:=[.val (.slice none 0 0),.val (.map none),.val (.slice none 0 0),.val (.map none),.int .i64 0,.int .i64 0]) (l:=[_,_,_,_,Iq _,Iq _]) tok rfl rfl (by kernel_rfl) rfl) ?_;refine Qe (E_box (v:=.agg _) (cs:=[_,_,_,_,Iq _,Iq _]) rfl rfl (rfl)) ?_;rintro _ _ ⟨b10,rfl,rfl⟩;refine Qp Qh (Aq (Ba (Qp Ez ?_)));refine Qp (Da T.length rfl rfl (by simp)) ?_;refine Qp Ai (Aq (AW.block ?_));refine AW.Aan (fun (k:Nat)=>(⟨[(3,.val (.pointer (some ⟨b10,0,none⟩))),(11,.sl 2 (T.map Js)),(12,.int .i64 T.length),(13,.int .i64 (k:Int))],.box b10 159 [.sl 2 (T.map Js),.val (.map (some b7)),.val (.slice none 0 0),.val (.map (some b8)),.int .i64 0,.int .i64 0] :: .smap b8 [] :: .smap b7 (Pw (Nz (T.take k)))::H,27⟩:St)) (fun k=>k<=T.length) (fun k=>T.length-k) (0) ?_ Bx ?_
 . exact A3 _
 rintro k hR;refine Aa (Qp Bt (Re (E9 (fun hc1=>?_) fun hc1=>?_)))
 .
  obtain ⟨a,ha⟩:=B3 hc1;have hlt:=Bf ha;have hm:=An ha;refine A5 (AW.seq (AW.block (Aa (Qp Ai ?_))));refine Qp (Cp Jl rfl rfl (by omega) (Bp ha)) ?_;refine Qp (B1 Jl) (Dx [.str [],.sl 2 []] fun b5=>Qp Ah ?_);refine Bw 0 Jl (_::_::_::_::_) ?_;refine Ji 5 0 rfl ?_;refine Aq (N3 0 rfl (Qn 0 rfl Ce (Qn 1 rfl (Af rfl) (Qn 2 rfl Co (Qn 3 rfl (Kn (.val _) rfl) (Qn 4 rfl (Qf Jl) (Qn 5 rfl Dk (Qn 6 rfl Ai ?_))))))));refine bH 7 rfl (nL (i:=2) (ks:=Nz (T.take k)) (H2:=_::_::_::_) tok rfl rfl rfl rfl rfl rfl rfl rfl (by simp;omega) (nm_new hd ha) rfl) ?_;rintro _ _ ⟨rfl,rfl⟩;refine Gv (A2 (AW.region (Qp Dt (Qp Ai (Aq ?_)))));refine ⟨k+1,?_,?_,GS.trans (GS.heq (congrArg (fun ns:List Av=>(_::_ :: .smap b7 (Pw ns)::_:List HO)) (wX ha))) Bx⟩
  . exact hlt
  omega
 have hte:=B9 hc1;refine AW.exit ?_;refine Bn (Ri (Aa (Qp Ce (Qp Qh (Rb ?_)))));refine ⟨_,GS.freezeSMapCell 2 0 1 rfl rfl rfl rfl rfl,.inr rfl,[.val _],.cons (.tmp _ _ rfl) <| .nil,_,.refl _,?_⟩;exact ⟨b10,b8,rfl,congrArg (fun Q:List e8Sc=>(.box b10 159 [.sl 2 (T.map Js),.smapv (Pw (Nz Q)),.val (.slice none 0 0),.val (.map (some b8)),.int .i64 0,.int .i64 0] :: .smap b8 []::H:List HO)) hte⟩
abbrev Xl (q:Fa):AV:=AV.agg (sP q)
theorem uG (T:List e8Sc)(V:List Va)(hV:V.length<=16)(v:Value)(bp bn:Nat)(t:Syn)(H:List HO):Cj Tryz.prog 96 (.row v ((V).map Ox).length 50 2 :: .box bp 159 [.sl 2 (T.map Js),.smapv (Pw (Nz T)),.row v 2 ((V).map Ox),.val (.map (some bn)),.int .i64 0,.int .i64 0] :: .smap bn (Pw (Lh (V)))::H) [.val (.pointer (some ⟨bp,0,none⟩)),.agg (cSyn t)] (fun r H'=>∃v',r = .agg (sP (dFa T V t))/\H' = .row v' ((dV T V t).map Ox).length 50 2 :: .box bp 159 [.sl 2 (T.map Js),.smapv (Pw (Nz T)),.row v' 2 ((dV T V t).map Ox),.val (.map (some bn)),.int .i64 0,.int .i64 0] :: .smap bn (Pw (Lh (dV T V t)))::H):=by
 refine Is 75 Tryz.func96 rfl ?_;refine Aa (Qp (Eh Ag) (Dx oO fun b4=>Re (N3 2 rfl (Qn 0 rfl Ce (Qn 1 rfl (Af rfl) (Qn 2 rfl Co (Qn 3 rfl (Kn (.smapv _) rfl) (Qn 4 rfl (Qf Oy) (Qn 5 rfl Dk ?_)))))))));refine Qn 6 rfl (dQ (es:=Pw (Nz T)) tok rfl rfl rfl rfl rfl (by kernel_rfl) rfl rfl (Ud _ _ rfl) (uR _ _)) ?_;refine Qn 7 rfl Ml (Qn 8 rfl Km (Qn 9 rfl bG (Qn 10 rfl Ah (Qn 11 rfl Ao ?_))));refine Fs ?_;refine A2 (AW.seq ?_);refine AW.draw mixed (fun H'=>_∈H'/\_∈H') ⟨(An (i:=2) rfl),(An (i:=3) rfl)⟩ (by kernel_rfl) ?_;refine Qn 0 rfl Ce (Qn 1 rfl (Af rfl) (Qn 2 rfl Co (Qn 3 rfl (Dc.mem (fun k=>Cl (k:=k) (c:=.val _) tok rfl rfl rfl rfl) (fun _ h=>h.1)) ?_)));refine Qn 4 rfl (Qf Xe) (Qn 5 rfl Dk ?_);refine Qn 6 rfl (Dc.mem (fun k=>yM (i:=k) (es:=Pw (Lh V)) tok rfl rfl rfl rfl rfl (by kernel_rfl) rfl rfl (Ud _ _ rfl) (uR _ _)) (fun _ h=>h.2)) ?_;refine Qn 7 rfl Ml (Qn 8 rfl Km (Qn 9 rfl bG (Qn 10 rfl Ah (Qn 11 rfl Ao ?_))));refine Fs ?_;refine A2 (AW.seq (AW.block (Aa (Qp Ce (Qp (Af rfl) (Qp Co (Sw 2 (.row _ _ _) rfl ?_)))))));refine Qp (H7 (n:=V.length) tok rfl rfl rfl (by simp)) ?_;refine Qp Aj (Qp Ao (Ap (fun hc1=>Aa (Qp (Qf [Iq _]) (Qp Be (Qp (D0 Jt) ?_)))) fun hc1=>Aa (Qp A8 (Qp E7 (Qp Ao (Ap (fun hc2=>Aa (Qp (Qf [Iq _]) (Qp Be (Qp (D0 Jt) ?_)))) fun hc2=>?_))))))
 .
  refine Bw 0 Jt (_::_::_::_::_) (Ra ?_);refine ⟨.inr rfl,[.agg Jt],Zb 0,_,S1,?_⟩;have hx:=sT (T:=T) (V:=V) (t:=t) (dec_1 hc1) (by decide);exact ⟨v,Ye Xl hx.1,congrArg (fun Q:List Va=>(.row v ((Q).map Ox).length 50 2 :: .box bp 159 [.sl 2 (T.map Js),.smapv (Pw (Nz T)),.row v 2 ((Q).map Ox),.val (.map (some bn)),.int .i64 0,.int .i64 0] :: .smap bn (Pw (Lh (Q)))::H:List HO)) hx.2.symm⟩
 .
  refine Bw 0 Jt (_::_::_::_::_) (Ra ?_);refine ⟨.inr rfl,[.agg Jt],Zb 0,_,S1,?_⟩;have hx:=sT (T:=T) (V:=V) (t:=t) (dec_2 hc1 hc2) (by decide);exact ⟨v,Ye Xl hx.1,congrArg (fun Q:List Va=>(.row v ((Q).map Ox).length 50 2 :: .box bp 159 [.sl 2 (T.map Js),.smapv (Pw (Nz T)),.row v 2 ((Q).map Ox),.val (.map (some bn)),.int .i64 0,.int .i64 0] :: .smap bn (Pw (Lh (Q)))::H:List HO)) hx.2.symm⟩
 refine Aa (Qp A8 (Qp Ao (Ap (fun hc3=>Aa (Qp (Qf [Iq _]) (Qp Be (Qp (D0 Jt) ?_)))) fun hc3=>Rf (AW.seq (N3 2 rfl (Qn 0 rfl Ce (Qn 1 rfl (Af rfl) (Qn 2 rfl Co (Qn 3 rfl (Kn (.val _) rfl) (Qn 4 rfl (Qf Xe) (Qn 5 rfl Dk (Qn 6 rfl Ce (Qn 7 rfl (Af rfl) (Qn 8 rfl Co (Qn 9 rfl (Kn (.row _ _ _) rfl) ?_)))))))))))))))
 .
  refine Bw 0 Jt (_::_::_::_::_) (Ra ?_);refine ⟨.inr rfl,[.agg Jt],Zb 0,_,S1,?_⟩;have hx:=sT (T:=T) (V:=V) (t:=t) (dec_3 hc1 hc2 hc3) (by decide);exact ⟨v,Ye Xl hx.1,congrArg (fun Q:List Va=>(.row v ((Q).map Ox).length 50 2 :: .box bp 159 [.sl 2 (T.map Js),.smapv (Pw (Nz T)),.row v 2 ((Q).map Ox),.val (.map (some bn)),.int .i64 0,.int .i64 0] :: .smap bn (Pw (Lh (Q)))::H:List HO)) hx.2.symm⟩
 refine Qn 10 rfl (H7 (n:=V.length) tok rfl rfl rfl (by simp)) ?_;refine bH 11 rfl (nL (i:=3) (ks:=Lh V) (H2:=_::_::_::_::_) tok rfl rfl rfl rfl rfl rfl rfl rfl (by simp) hc3 rfl) ?_;rintro _ _ ⟨rfl,rfl⟩;refine A2 (AW.seq (N3 2 rfl (Qn 0 rfl Ce (Qn 1 rfl Ce (Qn 2 rfl (Af rfl) (Qn 3 rfl Co (Qn 4 rfl (Kn (.row _ _ _) rfl) (Qn 5 rfl (Qf Xe) (Qn 6 rfl Dk (Qn 7 rfl Ai (Qn 8 rfl (D0 E4) (Qn 9 rfl (G0 [E4] rfl) ?_))))))))))));refine Ur 10 rfl (Pk 1 rfl (Dl rfl) (scVa V) (by simp;omega) (by simp [maxLen];omega)) (by rintro _ _ ⟨v71,rfl,rfl⟩;simp) ?_;rintro _ _ ⟨v71,rfl,rfl⟩;refine Qn 11 rfl (Af rfl) (Qn 12 rfl Co ?_);refine bH 13 rfl (Hx 2 (.row _ _ _) [_,_,_,_,Iq _,Iq _] (_::_::_::_::_) rfl) ?_;rintro _ _ ⟨rfl,rfl⟩;refine A2 (Aa (Qp (Qc rfl (Sj)) ?_));refine Bw 0 Jt (_::_::_::_::_) (Rb ?_);refine ⟨.inr rfl,[.agg Jt],Zb 0,_,S1,?_⟩;have hx:=dFa_yes (T:=T) (V:=V) (t:=t) (dec_4 hc1 hc2 hc3);refine ⟨v71,Ye Xl hx.1,Eq.trans ?_ (congrArg (fun Q:List Va=>(.row v71 ((Q).map Ox).length 50 2 :: .box bp 159 [.sl 2 (T.map Js),.smapv (Pw (Nz T)),.row v71 2 ((Q).map Ox),.val (.map (some bn)),.int .i64 0,.int .i64 0] :: .smap bn (Pw (Lh (Q)))::H:List HO)) hx.2.symm)⟩;exact (rf_decH T V t v71 bp bn H).symm
theorem rf_eachD (T:List e8Sc)(V0:List Va)(hV0:V0.length<=16)(v0:Value)(bp bn:Nat)(l:List Syn)(hl:l.length<=1048576)(H:List HO):Cj Tryz.prog 94 (.row v0 ((V0).map Ox).length 50 2 :: .box bp 159 [.sl 2 (T.map Js),.smapv (Pw (Nz T)),.row v0 2 ((V0).map Ox),.val (.map (some bn)),.int .i64 0,.int .i64 0] :: .smap bn (Pw (Lh (V0)))::H) [.sl 6 (l.map C3),.fn (.func 96) [.val (.pointer (some ⟨bp,0,none⟩))] []] (fun r H'=>∃v',r = .agg (sP (Qq T V0 l).2)/\H' = .row v' (((Qq T V0 l).1).map Ox).length 50 2 :: .box bp 159 [.sl 2 (T.map Js),.smapv (Pw (Nz T)),.row v' 2 (((Qq T V0 l).1).map Ox),.val (.map (some bn)),.int .i64 0,.int .i64 0] :: .smap bn (Pw (Lh ((Qq T V0 l).1)))::H):=by
 refine Is 23 Tryz.func94 rfl ?_;refine Aa (Dx oO fun b4=>Aq (Ba (Qp Ez ?_)));refine Qp (Da l.length rfl rfl (by simp)) ?_;refine Qp Ai ?_;refine AOL.ghost (GS.perm (tW _ _ _ _ _)) ?_;refine Aq (AW.block ?_);refine AW.Aan (fun (q:Nat×List Va×Value)=>(⟨[(0,.sl 6 (l.map C3)),(1,.fn (.func 96) [.val (.pointer (some ⟨bp,0,none⟩))] []),(4,.val (.pointer (some ⟨b4,0,none⟩))),(8,.sl 6 (l.map C3)),(9,.int .i64 l.length),(10,.int .i64 (q.1:Int))],.row q.2.2 ((q.2.1).map Ox).length 50 2 :: .box bp 159 [.sl 2 (T.map Js),.smapv (Pw (Nz T)),.row q.2.2 2 ((q.2.1).map Ox),.val (.map (some bn)),.int .i64 0,.int .i64 0] :: .smap bn (Pw (Lh (q.2.1))) :: .box b4 94 oO::H,23⟩:St)) (fun q=>q.1<=l.length/\q.2.1.length<=16/\Qq T V0 l=Qq T q.2.1 (l.drop q.1)) (fun q=>l.length-q.1) ((0,V0,v0)) ?_ Bx ?_
 . exact ⟨A3 _,hV0,rfl⟩
 rintro q hR;refine Aa (Qp Bt (Re (E9 (fun hc1=>?_) fun hc1=>?_)))
 .
  obtain ⟨a,ha⟩:=B3 hc1;have hlt:=Bf ha;have hm:=An ha;refine A5 (AW.seq (AW.block (Aa ?_)));refine Qp (Cp Ag rfl rfl (by omega) (I4 ha)) ?_;refine Qp (B1 Ag) (Dx F1 fun b6=>?_);refine Bw 0 Ag (_::_::_::_::_::_) ?_;refine Ji 6 0 rfl ?_;refine B2 (Qp (A0 (v:=.fn _ _ _) rfl) (Qp (B1 Ag) ?_));refine Qe (Ks (by kernel_rfl) rfl rfl rfl (Cj.front3 (R:=_::_) 2 1 0 rfl rfl rfl rfl (uG T q.2.1 hR.2.1 q.2.2 bp bn a _))) ?_;rintro _ _ ⟨v16,rfl,rfl⟩;refine Dx oO fun b7=>?_
  refine Bw 0 Jt (_::_::_::_::_::_) ?_;refine Ji 7 0 rfl ?_;refine B2 (Qp (Qf [Iq _]) (Qp Be (Qp Bq (Ap (fun hc2=>Aa (Qp (B1 Jt) ?_)) fun hc2=>Rf (AW.region (Qp Dt (Qp Ai (Aq ?_))))))))
  .
   refine Bw 3 Jt (_::_::_::_::_) (Ra (Au (Cn (Au ?_))));refine ⟨.inr rfl,[.agg Jt],.cons (.box _ _ _ 3 _ _ _ _ rfl rfl rfl rfl rfl rfl) <| .nil,_,.cons_cons _ (.cons_cons _ (.cons_cons _ (.cons _ (.refl _)))),?_⟩;have hx:=hR.2.2.trans (decS_hit ha hc2);exact ⟨v16,by rw [hx];rfl,by rw [hx]⟩
  refine ⟨(q.1+1,dV T q.2.1 a,v16),?_,?_,Bx⟩
  . exact ⟨hlt,dV_len hR.2.1,hR.2.2.trans (decS_on ha hc2)⟩
  simp only;omega
 have hde:=Ek hc1;have hall:=hR.2.2;rw [hde] at hall;refine AW.exit ?_;refine Bn (Ri (Aa ?_));refine Qp (Qc rfl (Sj)) ?_;refine Bw 3 Jt (_::_::_::_::_) (Rb ?_);refine ⟨.inr rfl,[.agg Jt],.cons (.box _ _ _ 3 _ _ _ _ rfl rfl rfl rfl rfl rfl) <| .nil,_,.cons_cons _ (.cons_cons _ (.cons_cons _ (.cons _ (.refl _)))),?_⟩;have hx:Qq T V0 l=(q.2.1,Xy):=hall;exact ⟨q.2.2,by rw [hx];rfl,by rw [hx]⟩
theorem Aag (t:Syn)(ht:Vp t)(hc:Cb t .pats=0):Ak Tryz.prog 95 [.agg (cSyn t)] (.sl 6 ((Xx t).map C3)):=by
 induction t using Syn.ind
 rename_i t ih;refine Cw 45 Tryz.func95 rfl fun H=>?_
 refine Aa (Qp (Eh Ag) (Qp (Cm (z:=6) rfl) (Aq (Ba (Qp (Qf Ag) (Qp Be (Aq (AW.block (Aa (Qp Aj (Qp Ao (Ap (fun hc1=>Aa (Qp (B1 Ag) (Qp (G0 [Ag] rfl) (Qp Xk (Ra (Qr (.sl _ _) ?_)))))) fun hc1=>?_))))))))))))
 . exact Ye (AV.sl 6) (evs_1 hc1)
 have h5:t.kind≠5:=by simpa using hc1
 refine Aa (Qp Aj (Qp Ao (Ap (fun hc2=>?_) fun hc2=>Aa (Qp Aj (Qp Ao (Ap (fun hc3=>?_) fun hc3=>?_))))))
 .
  have h2:=Vb hc (.inl (by simpa using hc2));have hg0:=Ie (t:=t) (k:=0) (by omega);have hg1:=Ie (t:=t) (k:=1) (by omega);have hb2:=ev_kid (M9 ht (An hg0));refine AW.seq ?_;refine Id ?_;refine Qn 0 rfl (Qf Iv) (Qn 1 rfl Cg ?_);refine Qn 2 rfl (Cp Ag rfl rfl (by decide) (I4 hg1)) ?_;refine Qn 3 rfl (B1 Ag) (Qn 5 rfl (Qf Iv) (Qn 6 rfl Cg ?_));refine Qn 7 rfl (Cp Ag rfl rfl (by decide) (I4 hg0)) ?_;refine Qn 8 rfl (B1 Ag) (Qn 9 rfl (Qc rfl (ih _ (An hg0) (M9 ht (An hg0)) (U9 hc h5 hg0 fun _=>rfl))) ?_);refine hJ 4 rfl (D7 (es:=[Ag]) tok rfl rfl rfl rfl rfl rfl rfl rfl rfl) ?_;rintro _ _ ⟨v18,rfl,rfl⟩;refine hJ 10 rfl (Pk 0 rfl (scSyn _) (Dl rfl) (by simp at hb2 ⊢;omega) (by simp [maxLen] at hb2 ⊢;omega)) ?_;rintro _ _ ⟨v24,rfl,rfl⟩;refine Qn 11 rfl (Bb (v:=.row _ _ _) rfl) ?_;refine Fs ?_;refine A2 ?_;refine AW.ghost (GS.unrow 2 rfl) ?_;refine AW.ret (Cn (Au ?_));refine Yx [.sl _ _] Ze S1 ?_;exact Ye (AV.sl 6) (evs_2 hc1 hc2 (by omega))
 .
  have h2:=Vb hc (.inr (by simpa using hc3));have hg0:=Ie (t:=t) (k:=0) (by omega);refine Aa (Qp (Qf Iv) (Qp Cg ?_));refine Qp (Cp Ag rfl rfl (by decide) (I4 hg0)) ?_;refine Qp (B1 Ag) (Qp (Qc rfl (ih _ (An hg0) (M9 ht (An hg0)) (U9 hc h5 hg0 fun _=>rfl))) ?_);refine Qp Xk (Ra (Qr (.sl _ _) ?_));exact Ye (fun q:List Syn=>AV.sl 6 (q.map C3)) (evs_3 hc1 hc2 hc3 (by omega))
 have hn:¬(t.kind=10\/t.kind=12):=fun hq=>hq.elim (by simpa using hc2) (by simpa using hc3)
 have hkl:=aO ht;refine Rf (Aa (Qp Qh ?_));refine AOL.ghost (GS.row (t:=3) 25 6 rfl) ?_;refine Aq (Ba (Qp (Qf Iv) (Qp Cg ?_)));refine Qp (Da t.kids.length rfl rfl (by simp)) ?_;refine Qp Ai (Aq (AW.block ?_));refine AW.Aan (fun (p:Nat×List (List AV)×Value)=>(⟨[(1,.ptr (cSyn t)),(3,.row p.2.2 6 p.2.1),(33,.sl 6 (t.kids.map C3)),(34,.int .i64 t.kids.length),(35,.int .i64 (p.1:Int))],.row p.2.2 p.2.1.length 25 6::H,45⟩:St)) (fun p=>p.1<=t.kids.length/\p.2.1=((t.kids.take p.1).flatMap Xx).map C3) (fun p=>t.kids.length-p.1) ((0,[],.slice none 0 0)) ?_ Bx ?_
 . exact ⟨A3 _,rfl⟩
 rintro p hR;refine Aa (Qp Bt (Re (E9 (fun hc4=>?_) fun hc4=>?_)))
 .
  obtain ⟨a,ha⟩:=B3 hc4;have hlt:=Bf ha;have hm:=An ha;have hsc:∀c∈p.2.1,A7 c=true:=by rw [hR.2];exact scSyn _
  have hb1:p.2.1.length<=1000000:=by rw [hR.2];exact ev_part ht _
  have hb2:=ev_kid (M9 ht hm);refine A5 (AW.seq (AW.block (Aa ?_)));refine Qp (Cp Ag rfl rfl (by omega) (I4 ha)) ?_;refine Qp (B1 Ag) (Dx F1 fun b5=>?_);refine Bw 0 Ag (_::_::_) ?_;refine Ji 5 0 rfl ?_;refine Aq (AW.region (Qp (A0 (v:=.row _ _ _) rfl) (Qp (B1 Ag) (Qp (Qc rfl (ih a hm (M9 ht hm) (U9 hc h5 ha fun hq=>absurd hq hn))) ?_))));refine Qe (Pk 0 rfl (scSyn _) (hsc) (by simp at hb1 hb2 ⊢;omega) (by simp [maxLen] at hb1 hb2 ⊢;omega)) ?_;rintro _ _ ⟨v42,rfl,rfl⟩;refine Qp (Bb (v:=.row _ _ _) rfl) (Rk (AW.region (Qp Dt (Qp Ai (Aq ?_)))));refine ⟨(p.1+1,p.2.1++(Xx a).map C3,v42),?_,?_,Bx⟩
  . exact ⟨hlt,by simp only;rw [Cf ha,hR.2];simp⟩
  simp only;omega
 have hte:=B9 hc4;have hall:=hR.2;rw [hte] at hall;refine AW.exit ?_;refine Bn (Ri (Aa ?_));refine Qp (A0 (v:=.row _ _ _) rfl) ?_;refine AOL.ghost (GS.unrow 44 rfl) ?_;refine Qp Xk (Rb ?_);refine Yx [.sl _ _] Ze S1 ?_;exact (congrArg (AV.sl 6) hall).trans (congrArg (fun q:List Syn=>AV.sl 6 (q.map C3)) (evs_4 hc1 hc2 hc3)).symm
theorem rf_ops  : Ak Tryz.prog 130 [] (.mapv opL):=by
 refine Cw 3 Tryz.func130 rfl fun H=>?_
 refine Aa (Qp Qh (B2 (Qe (Y9) ?_)));rintro _ _ ⟨b1,rfl,rfl⟩;refine Rt (Ei (i:=0) (x:=Iq _) (H2:=_::_) tok rfl rfl rfl rfl rfl rfl rfl rfl rfl rfl) (Rt (Ei (i:=0) (x:=Iq _) (H2:=_::_) tok rfl rfl rfl rfl rfl rfl rfl rfl rfl rfl) (Rt (Ei (i:=0) (x:=Iq _) (H2:=_::_) tok rfl rfl rfl rfl rfl rfl rfl rfl rfl rfl) (Rt (Ei (i:=0) (x:=Iq _) (H2:=_::_) tok rfl rfl rfl rfl rfl rfl rfl rfl rfl rfl) (Rt (Ei (i:=0) (x:=Iq _) (H2:=_::_) tok rfl rfl rfl rfl rfl rfl rfl rfl rfl rfl) (Rt (Ei (i:=0) (x:=Iq _) (H2:=_::_) tok rfl rfl rfl rfl rfl rfl rfl rfl rfl rfl) (Rt (Ei (i:=0) (x:=Iq _) (H2:=_::_) tok rfl rfl rfl rfl rfl rfl rfl rfl rfl rfl) (Rt (Ei (i:=0) (x:=Iq _) (H2:=_::_) tok rfl rfl rfl rfl rfl rfl rfl rfl rfl rfl) ?_)))))));refine AOL.ghost (GS.freezeMap (t:=1) 0 rfl rfl) ?_;refine Qp (A0 (v:=.mapv _) rfl) (Qp (Bb (v:=.mapv _) rfl) (Rb (Qr (.mapv _) ?_)));rfl
theorem qS (T:List e8Sc)(V:List Va)(s:Nx)(hs:0<=s.scopes/\s.scopes<=3000000)(p:Pt)(bp pp:Nat)(H:List HO):Cj Tryz.prog 171 (.box pp 38 (cPt p) :: .box bp 159 (Zj T V s)::H) [.val (.pointer (some ⟨bp,0,none⟩)),.val (.pointer (some ⟨pp,0,none⟩))] (fun r H'=>r = .tuple []/\H' = .box pp 38 (cPt { p with scope:=s.scopes }) :: .box bp 159 (Zj T V ⟨s.next,s.scopes+1⟩)::H):=by
 refine Is 18 Tryz.func171 rfl ?_;refine Aa (Qp Ce (Qp Ce ?_));refine Qp (Af rfl) ?_;refine Qp Co ?_;refine Sw 1 (Iq _) rfl ?_;refine Qp (Af rfl) ?_;refine Qp Co ?_;refine Bw 0 Cy (_::_::_) ?_;refine Aq (AW.region (Qp Ce ?_));refine Qp (Af rfl) ?_;refine Qp Co ?_;refine Sw 1 (Iq _) rfl ?_;refine Qp Dt ?_;refine Qp (Af rfl) ?_;refine Qp Co ?_;refine Bw 1 [_,_,_,_,Iq _,Iq _] (_::_::_) ?_;refine AOL.nil ?_;refine ⟨.inl rfl,[],.nil,_,.refl _,?_⟩;exact ⟨rfl,rfl⟩
theorem xM (T:List e8Sc)(V:List Va)(s:Nx)(hs:0<=s.next/\s.next<=3000000)(p:Pt)(bp pp:Nat)(hrv:RvOK T V)(t:Syn)(ht:Vp t)(hw:0<t.kids.length->(H5 T V (Cd t 0)).err=0)(H:List HO):Cj Tryz.prog 170 (.box pp 38 (cPt p) :: .box bp 159 (Zj T V s)::H) [.val (.pointer (some ⟨bp,0,none⟩)),.val (.pointer (some ⟨pp,0,none⟩)),.agg (cSyn t)] (fun r H'=>r = .tuple []/\H' = .box pp 38 (cPt { p with type:=Tv (Nz T) t.text,var:=s.next,cond:=N7 T V t }) :: .box bp 159 (Zj T V ⟨s.next+1,s.scopes⟩)::H):=by
 refine Is 47 Tryz.func170 rfl ?_;refine Aa (Qp (Eh Ag) (Re (N3 1 rfl (Qn 0 rfl Ce (Qn 1 rfl Ce (Qn 2 rfl Ce (Qn 3 rfl Ce (Qn 4 rfl (Af rfl) (Qn 5 rfl Co (Qn 6 rfl (Kn (.smapv _) rfl) (Qn 7 rfl (Qf Oy) (Qn 8 rfl Dk ?_))))))))))));refine Qn 9 rfl (nP (es:=Pw (Nz T)) tok rfl rfl rfl rfl rfl (by kernel_rfl) rfl rfl (Ud _ _ rfl)) ?_;refine Qn 10 rfl Ce (Qn 11 rfl (Af rfl) (Qn 12 rfl Co (Qn 13 rfl (Kn (Iq _) rfl) (Qn 14 rfl (Qc rfl (qU)) (Qn 15 rfl (Af rfl) (Qn 16 rfl Co ?_))))));refine Ur 17 rfl (Hx 0 (Iq _) Cy (_::_::_) rfl) (by rintro _ _ ⟨rfl,rfl⟩;simp) ?_;rintro _ _ ⟨rfl,rfl⟩;refine Qn 18 rfl (Af rfl) (Qn 19 rfl Co ?_);refine Ur 20 rfl (Hx 0 (Iq _) Cy (_::_::_) rfl) (by rintro _ _ ⟨rfl,rfl⟩;simp) ?_;rintro _ _ ⟨rfl,rfl⟩;refine Qn 21 rfl (Af rfl) (Qn 22 rfl Co ?_);refine bH 23 rfl (Hx 0 (.agg _) Cy (_::_::_) rfl) ?_;rintro _ _ ⟨rfl,rfl⟩;refine A2 (Aa (Qp Ce (Qp (Af rfl) (Qp Co (Sw 1 (Iq _) rfl (Qp Dt (Qp (Af rfl) (Qp Co ?_))))))));refine Bw 1 [_,_,_,_,Iq _,Iq _] (_::_::_) (B2 (Qp (Qf Iv) (Qp Cg ?_)));refine Qp (Da t.kids.length rfl rfl (by simp)) ?_;refine Qp De (Ap (fun hc1=>?_) fun hc1=>AW.skip ?_)
 .
  have h0:0<t.kids.length:=by have:=Do hc1;omega
  refine AW.region (Qp Ce (Qp Ce (Qp (Qf Iv) (Qp Cg ?_))));refine Qp (Cp Ag rfl rfl (by decide) (I4 (Ie h0))) ?_;refine Qp (B1 Ag) ?_;refine AOL.Aas (C9 (k:=1) (by kernel_rfl) rfl rfl (mK T V ⟨s.next+1,s.scopes⟩ bp hrv (Cd t 0) (lQ ht h0) (hw h0))) rfl rfl ?_;refine Qp (Af rfl) (Qp Co ?_);refine Bw 0 Cy (_::_::_) (AOL.nil ?_);refine ⟨.inl rfl,[],.nil,_,.refl _,?_⟩;exact ⟨rfl,congrArg (fun q:Ex=>(.box pp 38 (cPt { p with type:=Tv (Nz T) t.text,var:=s.next,cond:=q }) :: .box bp 159 (Zj T V ⟨s.next+1,s.scopes⟩)::H:List HO)) (cond_1 hc1).symm⟩
 refine ⟨.inl rfl,[],.nil,_,.refl _,?_⟩;exact ⟨rfl,congrArg (fun q:Ex=>(.box pp 38 (cPt { p with type:=Tv (Nz T) t.text,var:=s.next,cond:=q }) :: .box bp 159 (Zj T V ⟨s.next+1,s.scopes⟩)::H:List HO)) (cond_2 hc1).symm⟩
theorem rf_allP (T:List e8Sc)(V:List Va)(s:Nx)(bp:Nat)(l:List Syn)(hl:l.length<=1048576)(hs:NxOK s (G6 l))(hf:∀a∈l,∀s:Nx,NxOK s (Jb a)->By Tryz.prog 99 bp 159 (Zj T V s) (Zj T V (J6 T V a s).2) [.val (.pointer (some ⟨bp,0,none⟩)),.agg (cSyn a)] (.agg (cPt (J6 T V a s).1))):By Tryz.prog 172 bp 159 (Zj T V s) (Zj T V (G2 T V l s).2) [.sl 6 (l.map C3),.fn (.func 99) [.val (.pointer (some ⟨bp,0,none⟩))] []] (.sl 14 ((G2 T V l s).1.map Jd)):=by
 intro H;refine Is 22 Tryz.func172 rfl ?_;refine Aa (Qp (Cm (z:=14) rfl) (B2 (Qp Qh ?_)));refine AOL.ghost (GS.row (t:=5) 38 14 rfl) ?_;refine Aq (Ba (Qp Ez ?_));refine Qp (Da l.length rfl rfl (by simp)) ?_;refine Qp Ai (Aq (AW.block ?_));refine AW.Aan (fun (q:Nat×List (List AV)×Value×Nx)=>(⟨[(0,.sl 6 (l.map C3)),(1,.fn (.func 99) [.val (.pointer (some ⟨bp,0,none⟩))] []),(5,.row q.2.2.1 14 q.2.1),(8,.sl 6 (l.map C3)),(9,.int .i64 l.length),(10,.int .i64 (q.1:Int))],.row q.2.2.1 q.2.1.length 38 14 :: .box bp 159 (Zj T V q.2.2.2)::H,22⟩:St)) (fun q=>q.1<=l.length/\NxOK q.2.2.2 (G6 (l.drop q.1))/\q.2.1=(G2 T V (l.take q.1) s).1.map Jd/\q.2.2.2=(G2 T V (l.take q.1) s).2/\q.2.1.length<=q.1) (fun q=>l.length-q.1) ((0,[],.slice none 0 0,s)) ?_ Bx ?_
 . exact ⟨A3 _,hs,rfl,rfl,B6 _⟩
 rintro q hR;refine Aa (Qp Bt (Re (E9 (fun hc1=>?_) fun hc1=>?_)))
 .
  obtain ⟨a,ha⟩:=B3 hc1;have hlt:=Bf ha;have hm:=An ha;have hsc:∀c∈q.2.1,A7 c=true:=by rw [hR.2.2.1];exact scPt _
  have hnx:=nx_on (T:=T) (V:=V) ha hR.2.1;have hql:=hR.2.2.2.2;refine A5 (AW.seq (AW.block (Aa ?_)));refine Qp (Cp Ag rfl rfl (by omega) (I4 ha)) ?_;refine Qp (B1 Ag) (Dx F1 fun b7=>?_);refine Bw 0 Ag (_::_::_::_) ?_;refine Ji 7 0 rfl ?_;refine Aq (AW.region (Qp (A0 (v:=.row _ _ _) rfl) (Qp (A0 (v:=.fn _ _ _) rfl) (Qp (B1 Ag) ?_))));refine Rt (Ks (by kernel_rfl) rfl rfl rfl ((hf a hm q.2.2.2 hnx.1).at (k:=1) (H2:=_::_::_) rfl rfl)) ?_;refine Qp (G0 [Cy] rfl) ?_;refine Qe (Pk 0 rfl (Dl rfl) (hsc) (by simp;omega) (by simp [maxLen];omega)) ?_;rintro _ _ ⟨v19,rfl,rfl⟩;refine Qp (Bb (v:=.row _ _ _) rfl) (Rk (AW.region (Qp Dt (Qp Ai (Aq ?_)))));refine ⟨(q.1+1,q.2.1 ++ [cPt (J6 T V a q.2.2.2).1],v19,(J6 T V a q.2.2.2).2),?_,?_,Bx⟩
  . exact ⟨hlt,hnx.2,by simp only;rw [qF ha,hR.2.2.1,<-hR.2.2.2.1];simp [Uz],by simp only;rw [qF ha,<-hR.2.2.2.1],by simp;omega⟩
  simp only;omega
 have hte:=B9 hc1;have hall:=hR.2.2.1;have hst:=hR.2.2.2.1;rw [hte] at hall hst;refine AW.exit ?_;refine Bn (Ri (Aa ?_));refine Qp (A0 (v:=.row _ _ _) rfl) ?_;refine AOL.ghost (GS.unrow 21 rfl) ?_;refine Qp Xk (Rb ?_);refine ⟨.inr rfl,[.sl _ _],Ze,_,S1,?_⟩;exact ⟨Eq.trans rfl (congrArg (AV.sl 14) hall),congrArg (fun x:Nx=>(.box bp 159 (Zj T V x)::H:List HO)) hst⟩
theorem uH (T:List e8Sc)(V:List Va)(s:Nx)(bp:Nat)(hrv:RvOK T V)(t:Syn)(ht:Vp t)(hc:Cb t .pats=0)(hw:(H5 T V t).err=0)(hs:NxOK s (Jb t)):By Tryz.prog 99 bp 159 (Zj T V s) (Zj T V (J6 T V t s).2) [.val (.pointer (some ⟨bp,0,none⟩)),.agg (cSyn t)] (.agg (cPt (J6 T V t s).1)):=by
 intro H
 revert H
 revert s
 induction t using Syn.ind
 rename_i t ih;intro s hs H;have hrg:=aF hc;have hnx:=nxn_ok hs;refine Is 59 Tryz.func99 rfl ?_;refine Aa (Qp (Eh Ag) (Dx ghz fun b4=>Re ?_));refine Id ?_;refine Qn 0 rfl (Qc rfl (rf_ops)) (Qn 1 rfl (Qf Ag) (Qn 2 rfl Be (Qn 3 rfl (Xj tok rfl rfl rfl rfl rfl rfl (op_get hrg.1 hrg.2)) (Qn 4 rfl (D0 Cy) ?_))));refine hJ 5 rfl (Gp (l:=ghz) (by kernel_rfl)) ?_;rintro _ _ ⟨b5,rfl,rfl⟩;refine Ma 6 rfl (Hx 0 (.agg _) Cy (_::_::_::_) rfl) ?_;refine Fs ?_;refine A2 (Aa (Qp (Qf Iv) (Qp Cg (Qp Xk (Aq ?_)))));refine AW.Aar (fun (q:Pt×Nx×List Syn)=>(⟨[(0,.val (.pointer (some ⟨bp,0,none⟩))),(4,.val (.pointer (some ⟨b4,0,none⟩))),(5,.val (.pointer (some ⟨b5,0,none⟩))),(6,.sl 6 (q.2.2.map C3))],.box b5 38 (cPt q.1) :: .box bp 159 (Zj T V q.2.1) :: .box b4 38 (cPt pt0)::H,59⟩:St)) (fun q=>q.1=Q6 T V t s []/\q.2.1=aB t s/\q.2.2=Hi t) ?_ ?_
 .
  refine Aa (Qp (Qf Ag) (Qp Be (Aq (AW.block (Aa (Qp Aj (Qp Ao (Ap (fun hc1=>Aa (Qp Ce (Qp (B1 Ag) ?_))) fun hc1=>Aa (Qp Aj (Qp Ao (Ap (fun hc2=>?_) fun hc2=>Aa (Qp Aj (Qp Ao (Ap (fun hc3=>Aa (Qp Ce ?_)) fun hc3=>Aa (Qp Aj (Qp Ao (Ap (fun hc4=>?_) fun hc4=>Rf ?_)))))))))))))))))
  .
   refine Rt (Dr rfl (Cj.front2 (R:=_::_) 2 0 rfl rfl rfl (xM T V s ⟨hs.a,by have:=hs.c;omega⟩ ⟨t.kind-5,[],0,0,0,0,Zs⟩ bp b5 hrv t ht (fun h=>X8 hw h) _))) ?_;refine Aq (AW.region (Qp (Cm (z:=6) rfl) (Rk ?_)));refine ⟨(⟨t.kind-5,[],Tv (Nz T) t.text,s.next,0,0,N7 T V t⟩,⟨s.next+1,s.scopes⟩,[]),?_,GS.trans (GS.refl _) Bx⟩;exact ⟨pn_5 hc1,(nxn_5 hc1).symm,(pk_5 hc1).symm⟩
  .
   have h2:=Vb hc (.inl (by simpa using hc2));have h1:1<t.kids.length:=by omega
   refine Aa (Qp Ce ?_);refine Rt (Dr rfl (Cj.front2 (R:=_::_) 2 0 rfl rfl rfl (qS T V s ⟨hs.b,by have:=hs.d;omega⟩ ⟨t.kind-5,[],0,0,0,0,Zs⟩ bp b5 _))) ?_;refine B2 (Qp Ce (Qp (Qf Iv) (Qp Cg ?_)));refine Qp (Cp Ag rfl rfl (by decide) (I4 (Ie h1))) ?_;refine Qp (B1 Ag) ?_;refine Rt (Dr rfl (Cj.front2 (R:=_::_) 1 0 rfl rfl rfl (xM T V ⟨s.next,s.scopes+1⟩ ⟨hs.a,by have:=hs.c;simp only;omega⟩ ⟨t.kind-5,[],0,0,s.scopes,0,Zs⟩ bp b5 hrv (Cd t 1) (lQ ht h1) (fun h=>X8 (X8 hw h1) h) _))) ?_;refine Aq (AW.region (Qp (Qf Iv) (Qp Cg ?_)));refine Qp (Ll (l:=0) (h:=1) tok rfl rfl rfl rfl rfl (rfl) (⟨_,rfl⟩) (by decide) (by rw [B7];omega) ((by rw [Nb,<-Nc]))) ?_;refine Qp Xk (Rk ?_);refine ⟨(⟨t.kind-5,[],Tv (Nz T) (Cd t 1).text,s.next,s.scopes,0,N7 T V (Cd t 1)⟩,⟨s.next+1,s.scopes+1⟩,t.kids.take 1),?_,GS.trans (GS.refl _) Bx⟩;exact ⟨pn_10 hc1 hc2,(nxn_10 hc2).symm,(pk_10 hc1 hc2).symm⟩
  .
   refine Rt (Dr rfl (Cj.front2 (R:=_::_) 2 0 rfl rfl rfl (qS T V s ⟨hs.b,by have:=hs.d;omega⟩ ⟨t.kind-5,[],0,0,0,0,Zs⟩ bp b5 _))) ?_;refine Aq (AW.region (Qp (Qf M7) (Qp Be (Qp Co ?_))));refine Bw 0 Cy (_::_::_::_) (Rk ?_);refine ⟨(⟨t.kind-5,[],0,0,s.scopes,t.num,Zs⟩,⟨s.next,s.scopes+1⟩,t.kids),?_,GS.trans (GS.refl _) Bx⟩;exact ⟨pn_11 hc1 hc2 hc3,(nxn_11 hc3).symm,(pk_o hc1 hc2 (by have h:t.kind=11:=(by simpa using hc3);simp [h])).symm⟩
  .
   have h2:=Vb hc (.inr (by simpa using hc4));have h1:1<t.kids.length:=by omega
   refine Aa (Qp Ce (Qp (Qf Iv) (Qp Cg ?_)));refine Qp (Cp Ag rfl rfl (by decide) (I4 (Ie h1))) ?_;refine Qp (B1 Ag) ?_;refine AOL.Aas (C9 (k:=2) (by kernel_rfl) rfl rfl (mK T V s bp hrv (Cd t 1) (lQ ht h1) (X8 hw h1))) rfl rfl ?_;refine Qp Co ?_;refine Bw 0 Cy (_::_::_::_) (Aq (AW.region (Qp (Qf Iv) (Qp Cg ?_))));refine Qp (Ll (l:=0) (h:=1) tok rfl rfl rfl rfl rfl (rfl) (⟨_,rfl⟩) (by decide) (by rw [B7];omega) ((by rw [Nb,<-Nc]))) ?_;refine Qp Xk (Rk ?_);refine ⟨(⟨t.kind-5,[],0,0,0,0,Gs T V (Cd t 1)⟩,s,t.kids.take 1),?_,GS.trans (GS.perm (List.Perm.cons _ (List.Perm.swap _ _ _))) Bx⟩;exact ⟨pn_12 hc1 hc2 hc3 hc4,(nxn_o hc1 hc2 hc3).symm,(pk_12 hc1 hc4).symm⟩
  refine ⟨(⟨t.kind-5,[],0,0,0,0,Zs⟩,s,t.kids),?_,GS.trans (GS.perm (List.Perm.cons _ (List.Perm.swap _ _ _))) Bx⟩;exact ⟨(ptn_o hc1 hc2 hc3 hc4).symm,(nxn_o hc1 hc2 hc3).symm,(pk_o hc1 hc2 hc4).symm⟩
 rintro ⟨p,s1,ks⟩ hQ;obtain ⟨h1,h2,h3⟩:=hQ;simp only at h1 h2 h3;subst h1 h2 h3;have hnk:NxOK (aB t s) (G6 (Hi t)):=by have h:=cU t;have h9:=hnx.1;exact ⟨h9.a,h9.b,by have:=h9.c;omega,by have:=h9.d;omega⟩
 refine Aa (Qp Ez (Qp Ce (Qp (Ci (l:=[.val _]) (l':=[]) rfl rfl) (sH ((rf_allP T V _ bp (Hi t) (pk_len ht) hnk (fun a ha s hs=>fun R=>ih a (gB ha) (M9 ht (gB ha)) (qB hc ha) ((Kl hw).2 a (gB ha)) s hs R)).at (k:=1) (H2:=_::_::_::_) rfl rfl) ?_))));refine Qp Co ?_;refine Bw 0 Cy (_::_::_::_) (B2 (Nu 0 Cy rfl ?_));refine Bw 2 Cy (_::_::_::_) (Rb ?_);refine ⟨.inr rfl,[.agg Cy],.cons (.box _ _ _ 2 _ _ _ _ rfl rfl rfl rfl rfl rfl) <| .nil,_,.cons _ (.cons_cons _ (.cons _ (.refl _))),?_⟩;exact ⟨Eq.trans rfl (congrArg (fun q:Pt×Nx=>AV.agg (cPt q.1)) (gC t s).symm),congrArg (fun q:Pt×Nx=>(.box bp 159 (Zj T V q.2)::H:List HO)) (gC t s).symm⟩
end Go.Proofs.YtckhoadldibflaaGreatDoor
namespace Go.Aw
open Go
section
variable {P:Program} {T:List (Nat×TD)} {d:Option Nat} {ty:TypeId} {pos:String} {aft:Array Edge} {gd:Option (Nat×Bool)} {ρ:Operand->AV}
end
end Go.Aw
