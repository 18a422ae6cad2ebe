/-
  Several texts in one: R13, R14, R16, R17, R20, R23, R1w, R2w, R3w. No condition.
-/
import Derived.Test.YtckhoadldibflaaGreatDoorK07
import Derived.Test.YtckhoadldibflaaGreatDoorK01
import Derived.Test.YtckhoadldibflaaGreatDoorK06
import Derived.KernelRfl
set_option linter.unusedVariables false
set_option linter.unusedSimpArgs false
namespace Go.Proofs.YtckhoadldibflaaGreatDoor
open Go Go.Aw

mutual
def Lv (L:Nat):Pt→Nat
 | ⟨_,xs,_,_,_,_,_⟩=>J1 L xs 1
def J1 (L:Nat):List Pt→Nat→Nat
 | [],n=>n
 | a::r,n=>if n≤L then J1 L r (n+Lv L a) else n
end
theorem nN (L:Nat)(p:Pt):Lv L p=J1 L p.args 1:=by cases p;rw [Lv]
theorem iJ (L:Nat):∀(l:List Pt) (m:Nat),m≤J1 L l m
  | [],m=>by rw [J1];exact C4 _
  | a::r,m=>by
    rw [J1];split
    · exact Kx (Nat.le_add_right _ _) (iJ L r _)
    exact C4 _
theorem mI {L:Nat}{l:List Pt}{n:Nat}(h:L<n):J1 L l n=n:=by
 cases l with
 | nil=>rw [J1]
 | cons a r=>rw [J1,if_neg (by omega)]
theorem iR (L:Nat)(p:Pt):Lv L p=Gx p∨(L<Lv L p∧Lv L p≤Gx p):=by
  induction p using Pt.ind with
  | h p ih=>
    rw [nN,Jn]
    have:∀(l:List Pt) (n:Nat),(∀a∈l,Lv L a=Gx a∨(L<Lv L a∧Lv L a≤Gx a))→J1 L l n=n+(l.map Gx).sum∨(L<J1 L l n∧J1 L l n≤n+(l.map Gx).sum):=by
      intro l
      induction l with
      | nil=>intro n _;simp [J1]
      | cons x r ihr=>
        intro n h;simp only [J1,Dn,Ki];have h1:=h x (by simp);have h2:=ihr (n+Lv L x) fun a ha=>h a (by simp [ha])
        split
        · have hm:=iJ L r (n+Lv L x)
          omega
        omega
    have:=this p.args 1 ih;omega
theorem tot_gt (L:Nat)(p:Pt):L<Lv L p↔L<Gx p:=by
 rcases iR L p with h | h
 · rw [h]
 omega
theorem fY {l:List Pt}{k:Nat}{a:Pt}(n:Nat)(h:l[k]? = some a):n+((l.drop k).map Gx).sum=(n+Gx a)+((l.drop (k+1)).map Gx).sum:=by
 rw [A5 h,Dn,Ki];omega

def Py (p:Pt):Bool:=(p.op==5)||(p.op==9)
def Oi (p:Pt):Bool:=(p.op==6)||(p.op==10)
def O6 (p:Pt):Bool:=(p.op==0)||Py p
def kX (p:Pt):Bool:=O6 p||(p.op==7)
def Tv (p:Pt):Bool:=
 if (p.op==0) then ((p.args.length:Int)==0)
 else if ((p.op==1)||(p.op==2))||(p.op==3) then decide (2≤(p.args.length:Int))
 else if (p.op==8) then ((p.args.length:Int)==2) else ((p.args.length:Int)==1)
def kE (u:Bool)(n m:Int):Bool:=u&&(decide (n<0)||decide (m<n))
def nbB (p:Pt):Bool:=((kE (O6 p) p.type 15||kE (O6 p) p.var 15)||kE (Py p||Oi p) p.scope 63)||kE (Oi p) p.span 1099511627776
def nuB (p:Pt):Bool:=(((!O6 p&&((p.type != 0)||(p.var != 0)))||(!(Py p||Oi p)&&(p.scope != 0)))||(!Oi p&&(p.span != 0)))||(!kX p && !Fx p.cond Un)
def sT (p:Pt):Int:=
 if decide (p.op<0)||decide (10<p.op) then 1
 else if !Tv p then 15
 else if nbB p then 2
 else if kX p&&(Cf p.cond != 0) then Cf p.cond
 else if nuB p then 3 else 0
section
variable {p:Pt}
theorem nd_1 (h:(decide (p.op<0)||decide (10<p.op))=true):sT p=1:=if_pos h
theorem nd_2 (h:(decide (p.op<0)||decide (10<p.op))=false)(h2:(!Tv p)=true):sT p=15:=(Bl h).trans (if_pos h2)
theorem nd_3 (h:(decide (p.op<0)||decide (10<p.op))=false)(h2:(!Tv p)=false)(h3:nbB p=true):sT p=2:=(Bl h).trans ((Bl h2).trans (if_pos h3))
theorem nd_4 (h:(decide (p.op<0)||decide (10<p.op))=false)(h2:(!Tv p)=false)(h3:nbB p=false)(h4:kX p=true)(h5:(Cf p.cond != 0)=true):sT p=Cf p.cond:=by
 refine (Bl h).trans ((Bl h2).trans ((Bl h3).trans (if_pos ?_)));rw [h4,h5];rfl
theorem nd_n (h:(decide (p.op<0)||decide (10<p.op))=false)(h2:(!Tv p)=false)(h3:nbB p=false)(h4:(kX p&&(Cf p.cond != 0))=false):sT p=if nuB p then 3 else 0:=(Bl h).trans ((Bl h2).trans ((Bl h3).trans (Bl h4)))
end
theorem Xk (u:Bool)(n m:Int):kE u n m = !wth u n m:=by
 unfold kE wth;cases u with
 | false=>rfl
 | true=>rw [Bool.eq_iff_iff];simp <;> omega
theorem Xi (u:Bool)(n:Int):(!unu u n)=(!u&&(n != 0)):=by
 unfold unu;cases u <;> rfl
theorem nu_bool:∀a b c d s x y z w:Bool,((((!a&&(x||y))||(!b&&z))||(!c&&w))||(!d && !s))=(((((!d && !s)||(!a&&x))||(!a&&y))||(!b&&z))||(!c&&w)):=by decide
theorem fM {p:Pt}(h:(decide (p.op<0)||decide (11≤p.op))=false):O6 p=(K1 p.op).typed∧(Py p||Oi p)=(K1 p.op).scope∧Oi p=(K1 p.op).span∧kX p=(K1 p.op).cond:=by
 have hr:p.op=0∨p.op=1∨p.op=2∨p.op=3∨p.op=4∨p.op=5∨p.op=6∨p.op=7∨p.op=8∨p.op=9∨p.op=10:=by simp at h;omega
 unfold kX O6 Py Oi;rcases hr with h | h | h | h | h | h | h | h | h | h | h <;> rw [h] <;> exact ⟨rfl,rfl,rfl,rfl⟩
theorem nd_ck {p:Pt}(hl:p.args.length≤64):sT p=Wo p:=by
 unfold sT Wo;by_cases h:(decide (p.op<0)||decide (11≤p.op))=true
 · rw [if_pos h,if_pos (by simp at h ⊢;omega)]
 rw [if_neg h,if_neg (by simp at h ⊢;omega)];have hf:(decide (p.op<0)||decide (11≤p.op))=false:=by simpa using h
 have hr:p.op=0∨p.op=1∨p.op=2∨p.op=3∨p.op=4∨p.op=5∨p.op=6∨p.op=7∨p.op=8∨p.op=9∨p.op=10:=by simp at h;omega
 obtain ⟨f1,f2,f3,f4⟩:=fM hf;unfold ckR
 have e1:(!Tv p)=(decide ((p.args.length:Int)<(K1 p.op).least)||decide ((K1 p.op).most<(p.args.length:Int))):=by
  unfold Tv;rcases hr with h | h | h | h | h | h | h | h | h | h | h <;> rw [h] <;> simp [K1,shpL] <;> (try (rw [Bool.eq_iff_iff];simp)) <;> (try omega)
 have e2:nbB p=ckB p (K1 p.op):=by unfold nbB ckB;rw [f1,f2,f3,Xk,Xk,Xk,Xk]
 have e3:nuB p=ckU p (K1 p.op):=by
  unfold nuB ckU;rw [f1,f2,f3,f4,Xi,Xi,Xi,Xi];exact nu_bool _ _ _ _ _ _ _ _ _
 rw [e1,e2,e3,f4]
def Wp (p:Pt):Int:=if decide ((64:Int)<(Lv 64 p:Int)) then 5 else if decide ((12:Int)<(Zs p:Int)) then 12 else A2 sT (E1 p)
theorem iQ {α:Type}{f g:α→Int}:∀{l:List α},(∀q∈l,f q=g q)→A2 f l=A2 g l
 | [],_=>rfl
 | a::r,h=>by rw [A2,A2,h a (by simp),iQ fun q hq=>h q (by simp [hq])]
theorem rst_eq (p:Pt):Wp p=Ja p:=by
 unfold Wp Ja;have e:decide ((64:Int)<(Lv 64 p:Int))=decide ((64:Int)<(Gx p:Int)):=by rw [decide_eq_decide];have:=tot_gt 64 p;omega
 rw [e];by_cases h:decide ((64:Int)<(Gx p:Int))=true
 · rw [if_pos h,if_pos h]
 rw [if_neg h,if_neg h,iQ fun q hq=>nd_ck (by have:=sI p q hq;have:=Od q;simp at h;omega)]
theorem rr_1 {p:Pt}(h:decide ((64:Int)<(Lv 64 p:Int))=true):Wp p=5:=if_pos h
theorem rr_2 {p:Pt}(h:decide ((64:Int)<(Lv 64 p:Int))=false)(h2:decide ((12:Int)<(Zs p:Int))=true):Wp p=12:=(Bl h).trans (if_pos h2)
theorem rr_3 {p:Pt}(h:decide ((64:Int)<(Lv 64 p:Int))=false)(h2:decide ((12:Int)<(Zs p:Int))=false):Wp p=A2 sT (E1 p):=(Bl h).trans (Bl h2)
theorem aN {α:Type}{f:α→Int}:∀{l:List α} {k:Nat} {a:α},l[k]? = some a→(l.take k).any (fun x=>f x != 0)=false→(f a != 0)=true→A2 f l=f a
  | [],k,a,h,_,_=>by simp at h
  | b::r,0,a,h,_,hp=>by simp at h;subst h;rw [A2,if_pos hp]
  | b::r,k+1,a,h,hn,hp=>by
    rw [kW,aD,Ka] at hn;rw [A2,if_neg (by rw [hn.1];decide)];exact aN (by simpa using h) hn.2 hp
theorem X5 {α:Type}{f:α→Int}:∀{l:List α},l.any (fun x=>f x != 0)=false→A2 f l=0
  | [],_=>rfl
  | b::r,h=>by
    rw [aD,Ka] at h;rw [A2,if_neg (by rw [h.1];decide)];exact X5 h.2

def Wx:Int→Int→List Pt→Int
  | _,_,[]=>0
  | v,s,q::r=>
    if O6 q&&(q.var != v) then 14
    else if (Py q||Oi q)&&(q.scope != s) then 14
    else Wx (if O6 q then v+1 else v) (if Py q||Oi q then s+1 else s) r
def iL (l:List Pt):Bool:=!l.any (fun q=>decide (8≤q.op))
def mF (p:Pt):Int:=if (Wp p != 0) then Wp p else if !iL (E1 p) then 1 else Wx 0 0 (E1 p)
theorem cr_1 {p:Pt}(h:(Wp p != 0)=true):mF p=Wp p:=if_pos h
theorem cr_2 {p:Pt}(h:(Wp p != 0)=false)(h2:(!iL (E1 p))=true):mF p=1:=(Bl h).trans (if_pos h2)
theorem Aab {p:Pt}(h:(Wp p != 0)=false)(h2:(!iL (E1 p))=false):mF p=Wx 0 0 (E1 p):=(Bl h).trans (Bl h2)
theorem Zp:∀(l:List Pt) (c:Cnt),c.ok=false→(l.foldl G9 c).ok=false
 | [],c,h=>h
 | q::r,c,h=>by rw [List.foldl_cons];exact Zp r _ (by unfold G9;simp [h])
theorem pE:∀(l:List Pt) (c:Cnt),(∀q∈l,qD q)→c.ok=true→Wx c.vars c.scopes l=if !(l.foldl G9 c).ok then 14 else 0
  | [],c,_,h=>by rw [Wx,List.foldl_nil,h];rfl
  | q::r,c,hl,h=>by
    have hq:=hl q (by simp);obtain ⟨f1,f2,f3,f4⟩:=fM (p:=q) (by have:=hq.1;have:=hq.2;simp;omega);have ih:=pE r (G9 c q) fun x hx=>hl x (by simp [hx])
    rw [Wx,List.foldl_cons,f1,f2];by_cases h1:((K1 q.op).typed&&(q.var != c.vars))=true
    · rw [if_pos h1,Zp r _ (by unfold G9;simp at h1 ⊢;simp [h1])];rfl
    · rw [if_neg h1]
      by_cases h2:((K1 q.op).scope&&(q.scope != c.scopes))=true
      · rw [if_pos h2,Zp r _ (by unfold G9;simp at h2 ⊢;simp [h2])];rfl
      · rw [if_neg h2]
        exact ih (by unfold G9;simp at h1 h2 ⊢;exact ⟨⟨h,by cases hs:(K1 q.op).typed with | false=>exact .inl rfl | true=>exact .inr (h1 hs)⟩,by cases hs:(K1 q.op).scope with | false=>exact .inl rfl | true=>exact .inr (h2 hs)⟩)
theorem chk_eq (p:Pt):mF p=J7 p:=by
  unfold mF J7;rw [rst_eq];cases h:Ja p != 0 with
  | true=>rw [if_pos rfl,yS h,h,if_pos rfl]
  | false=>
    rw [Bl rfl];have hw:L3 p=if (E1 p).any (fun q=>decide (8≤q.op)) then 1 else 0:=Bl h
    unfold iL;rw [hw];cases (E1 p).any (fun q=>decide (8≤q.op)) with
    | true=>rfl
    | false=>exact pE (E1 p) ⟨0,0,true⟩ (dK h) rfl
section
variable {v s:Int} {l:List Pt} {k:Nat} {a:Pt}
theorem goC_1 (ha:l[k]? = some a)(h:O6 a=true)(h2:(a.var != v)=true):Wx v s (l.drop k)=14:=by rw [A5 ha,Wx,if_pos (by rw [h,h2];rfl)]
theorem goC_2 (ha:l[k]? = some a)(h:(O6 a&&(a.var != v))=false)(h3:(Py a||Oi a)=true)(h4:(a.scope != s)=true):Wx v s (l.drop k)=14:=by rw [A5 ha,Wx,Bl h,if_pos (by rw [h3,h4];rfl)]
theorem nE (ha:l[k]? = some a)(h:(O6 a&&(a.var != v))=false)(h3:((Py a||Oi a)&&(a.scope != s))=false):Wx v s (l.drop k)=Wx (if O6 a then v+1 else v) (if Py a||Oi a then s+1 else s) (l.drop (k+1)):=by rw [A5 ha,Wx,Bl h,Bl h3]
theorem goC_yy (ha:l[k]? = some a)(h:O6 a=true)(h2:(a.var != v)=false)(h3:(Py a||Oi a)=true)(h4:(a.scope != s)=false):Wx v s (l.drop k)=Wx (v+1) (s+1) (l.drop (k+1)):=by rw [nE ha (by rw [h2,Ox]) (by rw [h4,Ox]),if_pos h,if_pos h3]
theorem goC_yn (ha:l[k]? = some a)(h:O6 a=true)(h2:(a.var != v)=false)(h3:(Py a||Oi a)=false):Wx v s (l.drop k)=Wx (v+1) s (l.drop (k+1)):=by rw [nE ha (by rw [h2,Ox]) (by rw [h3];rfl),if_pos h,Bl h3]
theorem goC_ny (ha:l[k]? = some a)(h:O6 a=false)(h3:(Py a||Oi a)=true)(h4:(a.scope != s)=false):Wx v s (l.drop k)=Wx v (s+1) (l.drop (k+1)):=by rw [nE ha (by rw [h];rfl) (by rw [h4,Ox]),Bl h,if_pos h3]
theorem goC_nn (ha:l[k]? = some a)(h:O6 a=false)(h3:(Py a||Oi a)=false):Wx v s (l.drop k)=Wx v s (l.drop (k+1)):=by rw [nE ha (by rw [h];rfl) (by rw [h3];rfl),Bl h,Bl h3]
end

def hdP (a b:Pt):Bool:=((((((a.op != b.op)||(a.type != b.type))||(a.var != b.var))||(a.scope != b.scope))||(a.span != b.span)) || !Fx a.cond b.cond)||((a.args.length:Int) != (b.args.length:Int))
mutual
def smP:Pt→Pt→Bool
 | ⟨o,xs,t,v,s,n,c⟩,b=>if hdP ⟨o,xs,t,v,s,n,c⟩ b then false else S9 xs b.args
def S9:List Pt→List Pt→Bool
 | [],_=>true
 | a::r,l=>if !smP a (l.headD pt0) then false else S9 r l.tail
end
theorem eI (a b:Pt):smP a b=if hdP a b then false else S9 a.args b.args:=by cases a;rw [smP]
theorem hdP_len {a b:Pt}(h:hdP a b=false):a.args.length=b.args.length:=by
 unfold hdP at h;rw [Ka] at h;have:=h.2;simp at this;omega
theorem tP (a:Pt):smP a a=true:=by
  induction a using Pt.ind with
  | h a ih=>
    have hh:hdP a a=false:=by unfold hdP;simp [Ni]
    rw [eI,Bl hh]
    have:∀l:List Pt,(∀x∈l,smP x x=true)→S9 l l=true:=by
      intro l
      induction l with
      | nil=>intro _;rw [S9]
      | cons x r ih2=>intro h;rw [S9];exact Eq.trans (if_neg (show ¬(!smP x x)=true by rw [h x (by simp)];decide)) (ih2 fun y hy=>h y (by simp [hy]))
    exact this _ ih
def wU:List Int→List Int→Bool
 | [],_=>true
 | a::r,l=>if a != l.headD 0 then false else wU r l.tail
def siB (a b:List Int):Bool:=if ((a.length:Int) != (b.length:Int)) then false else wU a b
theorem tY (a:List Int):siB a a=true:=by
 unfold siB;rw [if_neg (by simp)]
 induction a with
 | nil=>rfl
 | cons x r ih=>rw [wU];exact Eq.trans (if_neg (show ¬(x != x)=true by simp)) ih
theorem uY {l:List Int}{k:Nat}{a:Int}(h:l[k]? = some a):(l.map cI)[k]? = some [.int .i64 a]:=by rw [List.getElem?_map,h];rfl
def fewX (e:Ex):Bool:=decide (Bw e≤200∧Ez e≤100)
def fewP (p:Pt):Bool:=if decide ((150:Int)<(Lv 150 p:Int))||decide ((60:Int)<(Zs p:Int)) then false else (E1 p).all fun q=>fewX q.cond
theorem S8 {p q:Pt}{k:Nat}(h:(E1 p)[k]? = some q):((E1 p).map Lw)[k]? = some (cPt q):=by rw [List.getElem?_map,h];exact congrArg some (Tw q)
@[reducible] def cNm (T : List e8Sc) (V : List Va) : List AV := [.sl 2 (T.map Mt), .sl 2 (V.map O2)]
theorem pl_has (ns:List Am)(n:Am):decide (0≤Kc ns n)=ns.contains n:=by
 unfold Kc;cases ns.contains n with
 | true=>rw [if_pos rfl];simp
 | false=>rfl
theorem pl_le (ns:List Am)(n:Am) : -1≤Kc ns n∧Kc ns n<(ns.length:Int):=by
  unfold Kc;cases h:ns.contains n with
  | true=>
    rw [if_pos rfl];have:ns.idxOf n<ns.length:=List.idxOf_lt_length_of_mem (by simpa using h);omega
  | false=>rw [Bl rfl];omega
section
variable {T:List e8Sc} {V:List Va} {t:Syn}
theorem oL (h:A4 t .exps=0)(hk:t.kind=17∨t.kind=18){k:Nat}{a:Syn}(ha:t.kids[k]? = some a):A4 a .exps=0:=by
 have hc:=(Gn h ha).1;unfold Ec at hc;rcases hk with hk | hk <;> (rw [hk] at hc;exact hc)
theorem exp_num {xs:List Ex}(h1:(t.kind==13)=false)(h2:(t.kind==14)=false)(h3:(t.kind==15)=false)(h4:(t.kind==16)=false)(hr:13≤t.kind∧t.kind≤18):Ip T V t xs=⟨if (t.kind==17) then t.num else 12,xs,0,0,0,v0⟩:=by
 have:t.kind=17∨t.kind=18:=by simp at h1 h2 h3 h4;omega
 rcases this with hk | hk
 · rw [oO h1 h2 h3 h4 (by rw [hk];rfl),hk];rfl
 rw [oV h1 h2 h3 h4 (by rw [hk];rfl),hk];rfl
end
def cH:List e8Sc→List Syn→List e8Sc×Fa
  | out,[]=>(out,O3)
  | out,k::r=>
    if (k.kind==1) then
      if ((out.length:Int)==16) then ([],⟨k.pos,5⟩)
      else if (Ky out).contains k.text then ([],⟨k.pos,7⟩)
      else if ((Yp [] k.kids).2.err != 0) then ([],(Yp [] k.kids).2)
      else cH (out ++ [⟨k.text,(Yp [] k.kids).1⟩]) r
    else (out,O3)
section
variable {out:List e8Sc} {l:List Syn} {k:Nat} {a:Syn}
end
def TypQ (t:Syn):List e8Sc×Int×Int:=if ((By t (.only 0)).2 != 0) then ([],0,3) else ((cH [] t.kids).1,(cH [] t.kids).2.pos,(cH [] t.kids).2.err)
end Go.Proofs.YtckhoadldibflaaGreatDoor

namespace Go.Aw
open Go
end Go.Aw
namespace Go.Proofs.YtckhoadldibflaaGreatDoor
open Go Go.Aw
@[reducible] def cPtW (p : Pt) (rs : AV) : List AV := [.int .i64 p.op, rs, .int .i64 p.type, .int .i64 p.var, .int .i64 p.scope, .int .i64 p.span, .int .i64 p.cond.op, .sl 8 (p.cond.args.map M5), .int .i64 p.cond.var, .int .i64 p.cond.field, .int .i64 p.cond.kind, .int .i64 p.cond.val.kind, .int .i64 p.cond.val.num, .str p.cond.val.text]
def tyV (V:List Va)(i:Int):Int:=((V[i.toNat]?).getD va0).type
section
variable (T:List e8Sc) (V:List Va)
def rptN (t:Syn)(xs:List Pt):Pt:=
 if (t.kind==5) then ⟨0,xs,tyV V (Kc (Id V) t.name),Kc (Id V) t.name,0,0,Ij T V t⟩
 else if (t.kind==10) then ⟨5,xs,tyV V (Kc (Id V) (A3 t 1).name),Kc (Id V) (A3 t 1).name,0,0,Ij T V (A3 t 1)⟩
 else if (t.kind==11) then ⟨6,xs,0,0,0,t.num,Un⟩
 else if (t.kind==12) then ⟨7,xs,0,0,0,0,Cp T V (A3 t 1)⟩
 else ⟨t.kind-5,xs,0,0,0,0,Un⟩
mutual
def rptT:Syn→Pt
 | ⟨k,x,n,m,kids,p⟩=>rptN T V ⟨k,x,n,m,kids,p⟩ (if (k==5) then [] else if (k==10)||(k==12) then rptH kids else rptL kids)
def rptH:List Syn→List Pt
 | []=>[]
 | x::_=>[rptT x]
def rptL:List Syn→List Pt
 | []=>[]
 | x::r=>rptT x::rptL r
end
end
section
variable {T:List e8Sc} {V:List Va} {t:Syn}
theorem evt_kid {p:Pl}(h:A4 t p=0)(h5:t.kind=5){a:Syn}(ha:t.kids[0]? = some a):A4 a .exps=0:=by
 have hc:=(Gn h ha).1;unfold Ec at hc;rw [h5] at hc;exact hc
end

def scoN (p:Pt)(n:Int)(xs:List Pt):Pt:=⟨p.op,xs,p.type,p.var,if (Py p||Oi p) then n else p.scope,p.span,p.cond⟩
def scoF (p:Pt)(n:Int):Int:=if (Py p||Oi p) then n+1 else n
mutual
def scoP:Pt→Int→Pt×Int
 | ⟨o,xs,t,v,s,e,c⟩,n=>(scoN ⟨o,xs,t,v,s,e,c⟩ n (scoL xs (scoF ⟨o,xs,t,v,s,e,c⟩ n)).1,(scoL xs (scoF ⟨o,xs,t,v,s,e,c⟩ n)).2)
def scoL:List Pt→Int→List Pt×Int
 | [],n=>([],n)
 | a::r,n=>((scoP a n).1::(scoL r (scoP a n).2).1,(scoL r (scoP a n).2).2)
end
def vaG (T:List e8Sc):List Va→List Syn→List Va×Fa
 | V,[]=>(V,O3)
 | V,t::r=>if (Io T V t != 0) then ([],⟨t.pos,Io T V t⟩) else vaG T (V ++ [Ou T t]) r
section
variable {T:List e8Sc} {V:List Va} {l:List Syn} {k:Nat} {a:Syn}
end
theorem X0 {T:List e8Sc}:∀(l:List Syn) (V:List Va),((Hi T V l).2.err != 0)=false→(Hi T V l).1=V++l.map (Ou T)
  | [],V,_=>by rw [C8,Cb];rfl
  | t::r,V,h=>by
    rw [Jj] at h ⊢;cases hq:Io T V t != 0 with
    | true=>rw [if_pos hq] at h;simp only at h;rw [hq] at h;cases h
    | false=>
      rw [Bl hq] at h;rw [Bl rfl,X0 r _ h,Dn,J6];rfl
section
variable {T:List e8Sc} {V:List Va}
theorem jW (t:Syn):I4 t=(if (t.kind==5) then [t] else if (t.kind==10) then [A3 t 1] else [])++(De t).flatMap I4:=by
  rw [Oc];unfold De;cases h5:t.kind==5 with
  | true=>rw [if_pos rfl,if_pos rfl,if_pos rfl];rfl
  | false=>
    rw [Bl rfl,Bl rfl,Bl rfl]
    have hH:rT t.kids=(t.kids.take 1).flatMap I4:=by
      cases t.kids with
      | nil=>rw [rT];rfl
      | cons x r=>rw [rT];simp
    cases h10:t.kind==10 with
    | true=>rw [if_pos rfl,if_pos rfl,hH];rfl
    | false=>
      rw [Bl rfl,Bl rfl];cases h12:t.kind==12 with
      | true=>rw [if_pos rfl,hH];rfl
      | false=>rw [Bl rfl];rfl
end
section
variable {T:List e8Sc} {V:List Va}
end
def vqR (T:List e8Sc)(t:Syn):List Va:=if ((nM T t).err != 0) then [] else D1 T t
section
variable {T:List e8Sc} {V:List Va} {t:Syn}
theorem QryOK.ret (h:QryOK t){k:Nat}{a:Syn}(ha:t.kids[k+2]? = some a):A4 a .exps=0:=by
 have hk:=(Gn h.c ha).1;unfold Ec at hk;rw [h.kind,if_neg (by decide),if_neg (by decide),if_pos (by decide),if_neg (by simp;omega),if_neg (by simp;omega)] at hk;exact hk
end
def prgGoF (T:List e8Sc):List Qy→List Syn→List Qy×Fa
  | qs,[]=>(qs,O3)
  | qs,k::r=>
    if ((qs.length:Int)==16) then ([],⟨k.pos,5⟩)
    else if (qs.map (·.name)).contains k.text then ([],⟨k.pos,7⟩)
    else if ((Cg T k).2.err != 0) then ([],(Cg T k).2)
    else prgGoF T (qs ++ [(Cg T k).1]) r
section
variable {T:List e8Sc} {qs:List Qy} {l:List Syn} {k:Nat} {a:Syn}
end
structure medQ (q:Qy):Prop where
 v:q.vars.length≤1048576
 k:q.key.length≤1048576
 r:q.returns.length≤1048576
 p:medP q.pattern
 e:∀e∈q.returns,Bw e≤1048576
theorem med_pt0:medP pt0:=⟨by decide,fun q hq=>by
 rw [Nu] at hq;rcases G2.1 hq with rfl | h
 · decide
 cases h⟩
theorem Xa:medQ Qk:=⟨by decide,by decide,by decide,med_pt0,fun e h=>by cases h⟩
theorem jV {T:List e8Sc}{n:Am}:∀(l:List Va) (out:List Int),(Nt T n l out).1.length≤out.length
  | [],out=>C4 _
  | v::r,out=>by
    rw [Nt];split
    · exact E2 _
    · have:=jV (T:=T) (n:=n) r (out.set v.type.toNat (Dl ((T[v.type.toNat]?).getD cR) n))
      rw [aG] at this;exact this
theorem zY {T:List e8Sc}{t:Syn}(hT:TsOK T)(ht:QryOK t):medQ (Cg T t).1:=by
 have hz:∀(c:Bool) (f:Fa) (x:Qy×Fa),medQ x.1→medQ (if c then (Qk,f) else x).1:=fun c f x h=>by
  cases c with
  | true=>exact Xa
  | false=>exact h
 refine hz _ _ _ ?_;refine hz _ _ _ ?_;refine hz _ _ _ ?_;refine hz _ _ _ ?_;refine hz _ _ _ ?_;have hrv:=mS hT (I4 (A3 t 1));refine ⟨hrv.vl,?_,?_,eK ht.med1 ht.pat _,fun e he=>?_⟩
 ·
  show (Rv T t (D1 T t)).1.length≤_;unfold Rv;split
  ·
   have h:=jV (T:=T) (n:=(A3 t 0).text) (D1 T t) (List.replicate T.length (-1));rw [aB] at h;exact Kx h hT.tl
  exact E2 _
 ·
  show ((t.kids.drop 2).map (Cp T (D1 T t))).length≤_;rw [Dx,Ji];have:=Hy ht.m;omega
 obtain ⟨x,hx,rfl⟩:=Mu.1 (show e∈(t.kids.drop 2).map (Cp T (D1 T t)) from he);have h1:=M4 (T:=T) (V:=D1 T t) x;have h2:=Hz (E6 ht.m (List.mem_of_mem_drop hx));omega
theorem qp_med {T:List e8Sc}{t:Syn}(hm:E7 t):medQ (Dr T t).1:=by
 unfold Dr;split
 · exact Xa
 rename_i h1;split
 · exact Xa
 rename_i h2;exact zY (lB (by simpa using h1)) ⟨hm,K9 (by simpa using h2)⟩
structure medG (p:Pg):Prop where
 t:p.types.length≤1048576
 f:∀s∈p.types,s.fields.length≤1048576
 q:p.queries.length≤1048576
 m:∀q∈p.queries,medQ q

theorem Y2 {α:Type}{f:α→Int}{n:Int}(h0:n≠0):∀{l:List α},(∀a∈l,f a≠n)→A2 f l≠n
  | [],_=>fun e=>h0 e.symm
  | a::r,h=>by
    rw [A2];split
    · exact h a (by simp)
    exact Y2 h0 fun b hb=>h b (by simp [hb])
section
variable {T:List e8Sc} {V:List Va} {t:Syn}
theorem Yg (h:(G7 T V t).err=0)(hk:t.kind=14∨t.kind=16)(ht:¬(t.kind=14∧t.name=Eh)):0≤Dl (bC T V (L7 (Id V) t.text)) t.name:=by
 have hc:=Nf h (hk.elim .inl fun h=>.inr (.inr h));have h1:(((t.kind != 14)&&(t.kind != 15))&&(t.kind != 16))=false:=by rcases hk with hk | hk <;> simp [hk]
 have h3:((t.kind==15)||((t.kind==14)&&(t.name==Eh)))=false:=by
  rcases hk with hk | hk
  · simp [hk];exact fun e=>ht ⟨hk,e⟩
  simp [hk]
 cases h4:decide (Dl (bC T V (L7 (Id V) t.text)) t.name<0) with
 | false=>have:=Lt h4;omega
 | true=>rw [sN h1 (by rw [hc];rfl) h3 h4] at h;cases h
theorem Ng {e:Ex}(h:e.args = []):Ee T V e=Kk T V e:=by rw [Lg,h];rfl
theorem xT:∀t:Syn,A4 t .exps=0→(D4 T V t).err=0→(Ee T V (Cp T V t)).2≠6:=by
  intro t
  induction t using Syn.ind with
  | h t ih=>
    intro hc hw;have hr:=Yh (Gq (F6 hc).1).1;have hl:=(Fp hw).1;have hfl:∀v,Zv T V v=(bC T V v).fields:=fun v=>rfl
    have hpl:∀s:e8Sc,∀n,Dl s n<(s.fields.length:Int):=fun s n=>by have:=(pl_le (s.fields.map (·.name)) n).2;rw [Dx] at this;exact this
    rw [Fq];by_cases h13:(t.kind==13)=true
    · rw [eE h13,Ng rfl];unfold Kk;simp
    have f13:(t.kind==13)=false:=by simpa using h13
    by_cases h14:(t.kind==14)=true
    · have hk:t.kind=14:=by simpa using h14
      have hin:=Hg (Nf hl (.inl hk));rw [Dx] at hin;by_cases ht:(t.name==Eh)=true
      · rw [oA f13 h14 ht,Ng rfl];unfold Kk
        rw [if_neg (by simp),if_neg (by simp;omega),if_pos (by simp)];simp
      · have ht':(t.name==Eh)=false:=by simpa using ht
        have hf:=Yg hl (.inl hk) fun e=>by rw [e.2] at ht';simp at ht'
        have h9:=hpl (bC T V (L7 (Id V) t.text)) t.name;rw [nV f13 h14 ht' rfl,Ng rfl];unfold Kk;rw [if_neg (by simp),if_neg (by simp;omega),if_neg (by simp),if_neg (by simp only [hfl];simp;omega),if_neg (by simp)];simp
    have f14:(t.kind==14)=false:=by simpa using h14
    by_cases h15:(t.kind==15)=true
    · have hk:t.kind=15:=by simpa using h15
      have hin:=Hg (Nf hl (.inr (.inl hk)));rw [Dx] at hin;rw [nK f13 f14 h15,Ng rfl];unfold Kk;rw [if_neg (by simp),if_neg (by simp;omega),if_pos (by simp)];simp
    have f15:(t.kind==15)=false:=by simpa using h15
    by_cases h16:(t.kind==16)=true
    · have hk:t.kind=16:=by simpa using h16
      have hin:=Hg (Nf hl (.inr (.inr hk)));rw [Dx] at hin;have hf:=Yg hl (.inr hk) fun e=>by omega
      have h9:=hpl (bC T V (L7 (Id V) t.text)) t.name
      have key:∀vl:Vl,(Ee T V ⟨4,[],L7 (Id V) t.text,Dl (bC T V (L7 (Id V) t.text)) t.name,t.num,vl⟩).2≠6:=fun vl=>by
        rw [Ng rfl];unfold Kk;rw [if_neg (by simp),if_neg (by simp;omega),if_neg (by simp),if_neg (by simp only [hfl];simp;omega)];split <;> simp
      cases h6:decide ((0:Int)<(t.kids.length:Int)) with
      | true=>rw [oD f13 f14 f15 h16 rfl h6];exact key _
      | false=>rw [nJ f13 f14 f15 h16 rfl h6];exact key _
    have f16:(t.kind==16)=false:=by simpa using h16
    have h78:t.kind=17∨t.kind=18:=by simp at f13 f14 f15 f16;omega
    rw [exp_num f13 f14 f15 f16 hr];generalize (if (t.kind==17)=true then t.num else (12:Int))=o
    have hne:∀a∈t.kids.map (Cp T V),(Ee T V a).2≠6:=fun a ha=>by
      obtain ⟨x,hx,rfl⟩:=Mu.1 ha;obtain ⟨j,hj⟩:=jN.1 hx;exact ih x hx (oL hc h78 hj) ((Fp hw).2 x hx)
    have hs:=(Gq (F6 hc).1).2.1
    have hk0:t.kids≠[]:=fun e=>by
      unfold Ei at hs;rcases h78 with hk | hk <;> (rw [hk,e] at hs;simp at hs)
    rw [Lg];simp only;rw [if_neg (by simpa using hk0)];generalize t.kids.map (Cp T V)=xs at hne;by_cases c1:(A2 (fun a=>(Ee T V a).2) xs != 0)=true
    · rw [if_pos c1];exact Y2 (by decide) hne
    · rw [if_neg c1]
      generalize xs.map (fun a=>(Ee T V a).1)=ks;by_cases c2:(Fs o ks != 0)=true
      · rw [if_pos c2]
        show Fs o ks≠6;unfold Fs;refine Y2 (by decide) fun k _=>?_
        split <;> decide
      rw [if_neg c2];show (0:Int)≠6;decide
theorem xP (hrv:RvOK T V)(hT:(Fw T != 0)=false)(hc:A4 t .exps=0)(hw:(D4 T V t).err=0)(hk:(Cf (Cp T V t) != 0)=false):(T9 T V (Cp T V t)).2≠6:=by
  unfold T9;rw [if_neg (by rw [hT];decide)]
  have hv:A2 (So T.length) V=0:=by
    cases h:A2 (So T.length) V != 0 with
    | false=>simpa using h
    | true=>
      have:∀l:List Va,(∀v∈l,0≤v.type∧v.type<(T.length:Int))→A2 (So T.length) l=0:=by
        intro l
        induction l with
        | nil=>intro _;rfl
        | cons a r ih=>
          intro hl;have ha:=hl a (by simp);have e:So T.length a=0:=by unfold So;rw [if_neg (by simp;omega)]
          rw [A2,e,if_neg (by decide)];exact ih fun v hv=>hl v (by simp [hv])
      rw [this V hrv.ty] at h;cases h
  split
  · unfold T1
    split
    · decide
    rw [hv];decide
  · rw [if_neg (by rw [hk];decide)]
    exact xT t hc hw
end

theorem jA:∀(l:List Pt) (c:Cnt),(l.foldl G9 c).vars=c.vars+(l.countP fun q=>(K1 q.op).typed)
  | [],c=>by simp
  | q::r,c=>by
    rw [List.foldl_cons,jA r,List.countP_cons];unfold G9;cases (K1 q.op).typed <;> simp <;> omega
theorem uX (T:List e8Sc)(V:List Va):∀t:Syn,A4 t .pats=0→∀s:Nx,((E1 (G3 T V t s).1).countP fun q=>(K1 q.op).typed)=(I4 t).length:=by
  intro t
  induction t using Syn.ind with
  | h t ih=>
    intro hc s;have hr:=Qx hc
    have key:∀l:List Syn,(∀a∈l,a∈De t)→∀s:Nx,(((Dq T V l s).1.flatMap E1).countP fun q=>(K1 q.op).typed)=(l.flatMap I4).length:=by
      intro l
      induction l with
      | nil=>intro _ s;rw [Dq];rfl
      | cons x r ih2=>
        intro hl s;have hx:=ih x (Lq (hl x (by simp))) (Le hc (hl x (by simp))) s;have hr2:=ih2 (fun a ha=>hl a (by simp [ha])) (G3 T V x s).2;rw [Dq];simp only [aE,List.countP_append,D9];rw [hx,hr2]
    have hk:=key (De t) (fun a ha=>ha) (Sg t s);rw [S7,Nu,List.countP_cons,jW,D9];simp only;rw [hk]
    have:(Kb T V t s []).op=t.kind-5:=by
      unfold Kb;by_cases h5:t.kind=5
      · rw [if_pos (by simpa using h5),h5];rfl
      · rw [if_neg (by simpa using h5)]
        by_cases h10:t.kind=10
        · rw [if_pos (by simpa using h10),h10];rfl
        · rw [if_neg (by simpa using h10)]
          by_cases h11:t.kind=11
          · rw [if_pos (by simpa using h11),h11];rfl
          · rw [if_neg (by simpa using h11)]
            by_cases h12:t.kind=12
            · rw [if_pos (by simpa using h12),h12];rfl
            rw [if_neg (by simpa using h12)]
    rw [this];have h8:t.kind=5∨t.kind=6∨t.kind=7∨t.kind=8∨t.kind=9∨t.kind=10∨t.kind=11∨t.kind=12:=by omega
    rcases h8 with h | h | h | h | h | h | h | h <;> rw [h] <;> simp [K1,shpL] <;> omega
theorem cnt_is {T:List e8Sc}{t:Syn}(hc:A4 (A3 t 1) .pats=0)(h:((nM T t).err != 0)=false):(I9 (aA T t (D1 T t))).vars=((D1 T t).length:Int):=by
 unfold I9;rw [jA,show aA T t (D1 T t)=(G3 T (D1 T t) (A3 t 1) ⟨0,0⟩).1 from rfl,uX T _ _ hc];have hV:=X0 (T:=T) (I4 (A3 t 1)) [] h
 have:(D1 T t).length=(I4 (A3 t 1)).length:=by
  show (Hi T [] (I4 (A3 t 1))).1.length=_;rw [hV];simp
 rw [this];simp

theorem oJ {T:List e8Sc}{n:Am}:∀(l:List Va) (out:List Int) (D:List Va),(∀v∈D++l,v.type.toNat<out.length)→(∀v∈D,out[v.type.toNat]? = some (Dl ((T[v.type.toNat]?).getD cR) n)∧0≤Dl ((T[v.type.toNat]?).getD cR) n)→(Nt T n l out).2=true→
    (Nt T n l out).1.length=out.length∧∀v∈D++l,(Nt T n l out).1[v.type.toNat]? = some (Dl ((T[v.type.toNat]?).getD cR) n)∧0≤Dl ((T[v.type.toNat]?).getD cR) n
  | [],out,D,_,hD,_=>⟨rfl,fun v hv=>hD v (by simpa using hv)⟩
  | x::r,out,D,hl,hD,h=>by
    rw [Nt] at h ⊢;cases hq:decide (Dl ((T[x.type.toNat]?).getD cR) n<0) with
    | true=>rw [hq] at h;rw [if_pos rfl] at h;cases h
    | false=>
      rw [hq,Bl rfl] at h;rw [Bl rfl];have hx:=hl x (by simp);have h0:=Lt hq
      have ih:=oJ r (out.set x.type.toNat (Dl ((T[x.type.toNat]?).getD cR) n)) (D ++ [x]) (fun v hv=>by rw [aG];exact hl v (by simpa using hv)) (fun v hv=>by
        rcases S0.1 hv with hv | hv
        · refine ⟨?_,(hD v hv).2⟩
          rw [List.getElem?_set];split
          · rename_i e
            rw [e]
          exact (hD v hv).1
        · rw [My.1 hv]
          exact ⟨by rw [List.getElem?_set_self hx],by omega⟩) h
      rw [aG] at ih;exact ⟨ih.1,fun v hv=>ih.2 v (by simpa using hv)⟩
theorem vX {T:List e8Sc}{V:List Va}{n:Am}(hrv:RvOK T V)(h:(Wh T V n).2=true):(Wh T V n).1.length=T.length∧∀v∈V,(Wh T V n).1[v.type.toNat]? = some (Dl ((T[v.type.toNat]?).getD cR) n)∧0≤Dl ((T[v.type.toNat]?).getD cR) n:=by
 have:=oJ (T:=T) (n:=n) V (List.replicate T.length (-1)) [] (fun v hv=>by have:=hrv.ty v (by simpa using hv);rw [aB];omega) (fun v hv=>(gF hv).elim) h;rw [aB] at this;exact ⟨this.1,fun v hv=>this.2 v (by simpa using hv)⟩

structure QGood (T:List e8Sc) (t:Syn) (q:Qy):Prop where
 ok:Cg T t=(X4 T t (D1 T t),O3)
 is:q=X4 T t (D1 T t)
 v:((nM T t).err != 0)=false
 k:(!(Rv T t (D1 T t)).2)=false
 w:(D4 T (D1 T t) t).err=0
 p:(J7 (aA T t (D1 T t)) != 0)=false
 r:(Fh (qJ T (D1 T t)) (t.kids.drop 2)).err=0
theorem iF {c:Bool}{f:Fa}{x:Qy×Fa}(h:((if c then (Qk,f) else x).2.err != 0)=false)(hf:c=true→(f.err != 0)=true):c=false∧(if c then (Qk,f) else x)=x:=by
 cases c with
 | false=>exact ⟨rfl,rfl⟩
 | true=>rw [if_pos rfl] at h;rw [hf rfl] at h;cases h
theorem cJ {T:List e8Sc}{t:Syn}(h:((Cg T t).2.err != 0)=false):QGood T t (Cg T t).1:=by
 obtain ⟨a1,b1⟩:=iF h fun h=>h
 have b1':Cg T t=QR1 T t (D1 T t):=b1;rw [b1'] at h ⊢;obtain ⟨a2,b2⟩:=iF h fun _=>rfl
 have b2':QR1 T t (D1 T t)=QR2 T t (D1 T t):=b2;rw [b2'] at h ⊢;obtain ⟨a3,b3⟩:=iF h fun h=>h
 have b3':QR2 T t (D1 T t)=QR3 T t (D1 T t):=b3;rw [b3'] at h ⊢;obtain ⟨a4,b4⟩:=iF (f:=⟨(A3 t 1).pos,J7 (aA T t (D1 T t))⟩) h fun h=>h
 have b4':QR3 T t (D1 T t)=yY T t (D1 T t):=b4;rw [b4'] at h ⊢;obtain ⟨a5,b5⟩:=iF h fun h=>h
 have b5':yY T t (D1 T t)=(X4 T t (D1 T t),O3):=b5;rw [b5'];exact ⟨b1'.trans (b2'.trans (b3'.trans (b4'.trans b5'))),rfl,a1,a2,by simpa using a3,a4,by simpa using a5⟩
theorem q_bad {T:List e8Sc}{t:Syn}(h:((Cg T t).2.err != 0)=true):(Cg T t).1=Qk:=by
 have hz:∀{c:Bool} {f:Fa} {x:Qy×Fa},((x.2.err != 0)=true→x.1=Qk)→((if c then (Qk,f) else x).2.err != 0)=true→(if c then (Qk,f) else x).1=Qk:=fun {c f x} hx h=>by
  cases c with
  | true=>rfl
  | false=>exact hx h
 exact hz (hz (hz (hz (hz (fun h=>by cases h))))) h
theorem qp_bad {T:List e8Sc}{t:Syn}(h:((Dr T t).2.2 != 0)=true):(Dr T t).1=Qk:=by
  cases h1:Fw T != 0 with
  | true=>rw [qp_1 _ _ h1]
  | false=>
    cases h2:(By t (.only 3)).2 != 0 with
    | true=>rw [qp_2 _ _ h1 h2]
    | false=>rw [eF _ _ h1 h2] at h ⊢;exact q_bad h
theorem Mc {T:List e8Sc}{t:Syn}(h:((Dr T t).2.2 != 0)=false):(Fw T != 0)=false∧((By t (.only 3)).2 != 0)=false∧(Dr T t).1=(Cg T t).1∧QGood T t (Cg T t).1:=by
  cases h1:Fw T != 0 with
  | true=>rw [qp_1 _ _ h1] at h;rw [h1] at h;cases h
  | false=>
    cases h2:(By t (.only 3)).2 != 0 with
    | true=>rw [qp_2 _ _ h1 h2] at h;cases h
    | false=>rw [eF _ _ h1 h2] at h ⊢;exact ⟨rfl,rfl,rfl,cJ h⟩
set_option maxHeartbeats 800000
set_option maxRecDepth 20000

theorem N9  : Ap Tryz.prog 101 [] (.agg (Uc O3)):=by
 refine Ap.body (n:=2) tok Tryz.func101 rfl rfl rfl fun H=>?_
 refine Ae (Ed gT fun b0=>Bs (Qp (E4 He) ?_));refine Bt 0 He (_::_) (Rb ?_);refine ⟨.inr rfl,[.agg He],.cons (.box _ _ _ 0 _ _ _ _ rfl rfl rfl rfl rfl rfl) <| .nil,.cons _ (.refl _),?_⟩;rfl
theorem xK  : Ap Tryz.prog 195 [] (.agg (cE Pn)):=by
 refine Ap.body (n:=3) tok Tryz.func195 rfl rfl rfl fun H=>?_
 refine Ae (Ed gix fun b0=>Bs (Qp (E4 Mj) (Qp (E4 Ie) ?_)));refine Bt 0 Ie (_::_) (Rb ?_);refine ⟨.inr rfl,[.agg Ie],.cons (.box _ _ _ 0 _ _ _ _ rfl rfl rfl rfl rfl rfl) <| .nil,.cons _ (.refl _),?_⟩;rfl
theorem iM (t:Syn):Ap Tryz.prog 173 [.agg (cSyn t)] (.agg (cV (Zx t))):=by
 refine Ap.body (n:=18) tok Tryz.func173 rfl rfl rfl fun H=>?_
 refine Ae (Qp (Gc Au) (Ed [.int .i64 0,.int .i64 0,.str []] fun b2=>Ag (Bk (Qp (Qf eX) (Qp Hc (Ag (AW.block (Ae ?_))))))));refine Qp (D5 rfl rfl) (Qp A0 (Ag (Aq (fun hc1=>Ae (Qp (Qf Uw) (Qp Bi (Qp (E4 Mj) ?_)))) fun hc1=>Ae (Qp (D5 rfl rfl) (Qp A0 (Ag (Aq (fun hc2=>Ae (Qp (Qf Wv) (Qp Hc (Qp (E4 Mj) ?_)))) fun hc2=>Rf (Ae (Qp (Qf Uw) (Qp Bi (Qp (E4 Mj) ?_)))))))))))
 ·
  refine Bt 0 Mj (_::_) (Ra ?_);refine ⟨.inr rfl,[.agg Mj],.cons (.box _ _ _ 0 _ _ _ _ rfl rfl rfl rfl rfl rfl) <| .nil,.cons _ (.refl _),?_⟩;simp only [Ai,Zx,hc1,↓reduceIte,Bz];rfl
 ·
  refine Bt 0 Mj (_::_) (Ra ?_);refine ⟨.inr rfl,[.agg Mj],.cons (.box _ _ _ 0 _ _ _ _ rfl rfl rfl rfl rfl rfl) <| .nil,.cons _ (.refl _),?_⟩;simp only [Ai,Zx,hc1,hc2,↓reduceIte,Bz];rfl
 refine Bt 0 Mj (_::_) (Rb ?_);refine ⟨.inr rfl,[.agg Mj],.cons (.box _ _ _ 0 _ _ _ _ rfl rfl rfl rfl rfl rfl) <| .nil,.cons _ (.refl _),?_⟩;simp only [Ai,Zx,hc1,hc2,↓reduceIte,Bz];rfl
theorem rf_pos1 (f:Fi)(n:Am):Ap Tryz.prog 234 [.agg (cFi f),.ptr [.str n]] (.bool (f.name==n)):=by
 refine Ap.body (n:=8) tok Tryz.func234 rfl rfl rfl fun H=>?_
 refine Ae (Qp (Gc Jz) (Qp A0 (Bs (Qp (Qf Jz) (Qp Hc (Qp Hc (Qp (D5 rfl rfl) (Qp A0 (Rb (Qr (.bool _) ?_))))))))));rfl
theorem vR (l:List Fi)(hl:l.length≤1048576)(K:FuncId)(hK:Sj Tryz.prog K=true)(cs:List AV)(p:Fi→Bool)(hf:∀a∈l,Ap Tryz.prog K (.agg (cFi a)::cs) (.bool (p a))):Ap Tryz.prog 146 [.sl 2 (l.map cFi),.fn (.func K) [] cs] (.int .i64 (aC p l)):=by
 refine Ap.body (n:=19) tok Tryz.func146 rfl rfl rfl fun H=>?_
 refine Ae (Qp Al (Ag (Bk (Qp G4 ?_))));refine Qp (Ah (n:=l.length) tok rfl rfl rfl (by simp)) ?_;refine Qp Ao (Ag (AW.block ?_));refine AW.Aag (fun (k:Nat)=>(⟨[(0,.sl 2 (l.map cFi)),(1,.fn (.func K) [] cs),(6,.sl 2 (l.map cFi)),(7,.int .i64 l.length),(8,.int .i64 (k:Int))],H,19⟩:St)) (fun k=>k≤l.length∧(l.take k).any p=false) (fun k=>l.length-k) (0) ?_ Cs ?_
 · exact ⟨E2 _,by simp⟩
 rintro k hR;refine Ae (Qp Bx (Re (Aq (fun hc1=>?_) fun hc1=>?_)))
 ·
  obtain ⟨a,ha⟩:=Cc hc1;have hlt:=Bu ha;have hm:=B4 ha;refine Bg (AW.seq (AW.block (Ae (Qp Ao (Qp Al (Bs (Qp (A1 (v:=.fn _ _ _) rfl) (Qp G4 (Qp Ao ?_)))))))));refine Qp (Aa (c:=Jz) tok rfl rfl rfl rfl rfl rfl (by omega) (Dv ha)) ?_;refine Qp (B0 Jz) (Qp (Nj hK rfl rfl rfl (hf a (B4 ha))) (Ag (Aq (fun hc2=>Ae (Qp Ao (Qp Al (Ra (Be (Db (Be (Qr (Iq _) ?_)))))))) fun hc2=>Rf (AW.region (Qp E9 (Qp Ao (Ag ?_)))))))
  · exact Eq.trans rfl (congrArg (fun q:Int=>AV.int .i64 q) (jO ha hR.2 hc2)).symm
  refine ⟨k+1,?_,?_,Cs⟩
  · exact ⟨hlt,Jg hR.2 ha hc2⟩
  omega
 have hte:=Dm hc1;have hall:=hR.2;rw [hte] at hall;refine AW.exit ?_;refine Bq (Ri (Ae (Qp Al (Rb ?_))));refine Qr (Iq _) ?_;exact Eq.trans rfl (congrArg (fun q:Int=>AV.int .i64 q) (aZ hall)).symm
theorem Ly (s:e8Sc)(hs:s.fields.length≤1048576)(n:Am):Ap Tryz.prog 168 [.agg (Mt s),.str n] (.int .i64 (Dl s n)):=by
 refine Ap.body (n:=9) tok Tryz.func168 rfl rfl rfl fun H=>?_
 refine Ae (Qp (Gc Ub) (Qp (Tr (v:=.str _) (cs:=[.str _]) rfl rfl rfl) (Qp Al (Bs (Qp (Qf [_]) (Qp Cw (Qp (Bn (l:=[]) (l':=[.ptr _]) rfl rfl) ?_)))))));refine Qp (Qc rfl (vR s.fields hs 234 (by kernel_rfl) [.ptr [.str n]] (fun f=>f.name==n) (fun a _=>rf_pos1 a n))) ?_;refine Qp Al (Rb (Qr (Iq _) ?_));exact Eq.trans rfl (congrArg (fun q:Int=>AV.int .i64 q) (Zc (fun f:Fi=>f.name) n s.fields))
theorem rf_each (bp TT:Nat)(cs:List AV)(l:List Syn)(hl:l.length≤1048576)(K:FuncId)(hK:Sj Tryz.prog K=true)(fs:List AV)(f:Syn→Fa)(hf:∀a∈l,Bc Tryz.prog K bp TT cs cs (fs ++ [.agg (cSyn a)]) (.agg (Uc (f a)))):Bc Tryz.prog 94 bp TT cs cs [.sl 6 (l.map Cl),.fn (.func K) fs []] (.agg (Uc (Fh f l))):=by
 intro H;refine Bp.body (n:=23) tok Tryz.func94 rfl rfl rfl ?_;refine Ae (Ed gT fun b4=>Ag (Bk (Qp G4 ?_)));refine Qp (Ah (n:=l.length) tok rfl rfl rfl (by simp)) ?_;refine Qp Ao (Ag (AW.block ?_));refine AW.Aag (fun (k:Nat)=>(⟨[(0,.sl 6 (l.map Cl)),(1,.fn (.func K) fs []),(4,.val (.pointer (some ⟨b4,0,none⟩))),(8,.sl 6 (l.map Cl)),(9,.int .i64 l.length),(10,.int .i64 (k:Int))],.box b4 94 gT :: .box bp TT cs::H,23⟩:St)) (fun k=>k≤l.length∧(l.take k).any (fun x=>(f x).err != 0)=false) (fun k=>l.length-k) (0) ?_ Cs ?_
 · exact ⟨E2 _,by simp⟩
 rintro k hR;refine Ae (Qp Bx (Re (Aq (fun hc1=>?_) fun hc1=>?_)))
 ·
  obtain ⟨a,ha⟩:=Cc hc1;have hlt:=Bu ha;have hm:=B4 ha;refine Bg (AW.seq (AW.block (Ae ?_)));refine Qp (Aa (c:=Au) tok rfl rfl rfl rfl rfl rfl (by omega) (Gp ha)) ?_;refine Qp (B0 Au) (Ed Kz fun b6=>?_);refine Bt 0 Au (_::_::_::_) ?_;refine AOL.ghost (GS.freeze (t:=6) 0 rfl rfl) ?_;refine Bs (Qp (A1 (v:=.fn _ _ _) rfl) (Qp (B0 Au) (Rt (Ix hK rfl rfl (Cb _) ((hf a hm).at (k:=1) (H2:=_::_::_) rfl rfl)) (Ed gT fun b7=>?_))));refine Bt 0 He (_::_::_::_) ?_;refine AOL.ghost (GS.freeze (t:=7) 0 rfl rfl) ?_;refine Bs (Qp (Qf [Iq _]) (Qp Bi (Qp Br (Ag (Aq (fun hc2=>Ae (Qp (B0 He) ?_)) fun hc2=>Rf (AW.region (Qp E9 (Qp Ao (Ag ?_)))))))))
  ·
   refine Bt 0 He (_::_::_) (Ra (Be (Db (Be ?_))));refine ⟨.inr rfl,[.agg He],.cons (.box _ _ _ 0 _ _ _ _ rfl rfl rfl rfl rfl rfl) <| .nil,_,.cons _ (.refl _),?_⟩;exact ⟨Eq.trans rfl (congrArg (fun q:Fa=>AV.agg (Uc q)) (Zr ha hR.2 hc2)).symm,rfl⟩
  refine ⟨k+1,?_,?_,Cs⟩
  · exact ⟨hlt,Jg hR.2 ha hc2⟩
  omega
 have hte:=Dm hc1;have hall:=hR.2;rw [hte] at hall;refine AW.exit ?_;refine Bq (Ri (Ae ?_));refine Qp (Qc rfl (N9)) ?_;refine Bt 0 He (_::_::_) (Rb ?_);refine ⟨.inr rfl,[.agg He],.cons (.box _ _ _ 0 _ _ _ _ rfl rfl rfl rfl rfl rfl) <| .nil,_,.cons _ (.refl _),?_⟩;exact ⟨Eq.trans rfl (congrArg (fun q:Fa=>AV.agg (Uc q)) (Vb hall)).symm,rfl⟩
set_option maxHeartbeats 1600000
set_option maxRecDepth 20000

theorem rf_look (T:List e8Sc)(V:List Va)(s:Nx)(bp:Nat)(hrv:RvOK T V)(t:Syn)(ht:E7 t):Bc Tryz.prog 169 bp 159 (Uk T V s) (Uk T V s) [.val (.pointer (some ⟨bp,0,none⟩)),.agg (cSyn t)] (.agg (Uc (G7 T V t))):=by
 intro H;refine Bp.body (n:=72) tok Tryz.func169 rfl rfl rfl ?_;refine Ae (Qp (Gc Au) (Ed gT fun b4=>Ag (Bk (Qp (Qf Au) (Qp Bi (Qp Br (Qp A9 (Qg [] Qw (Qf Au) (Qg [(11,_)] Qw Bi (Qg [(12,_)] Qw Br ?_))))))))));refine Qp E0 (Qp A9 (Qg [] Qw (Qf Au) (Qg [(16,_)] Qw Bi (Qg [(17,_)] Qw Br (Qp E0 (Ag (Aq (fun hc1=>Ae (Qp (Qc rfl (N9)) ?_)) fun hc1=>Bg (AW.seq ?_))))))))
 ·
  refine Bt 0 He (_::_::_) (Rc ?_);refine ⟨.inr rfl,[.agg He],.cons (.box _ _ _ 0 _ _ _ _ rfl rfl rfl rfl rfl rfl) <| .nil,_,.cons _ (.refl _),?_⟩;exact ⟨Eq.trans rfl (congrArg (fun q:Fa=>AV.agg (Uc q)) (dL hc1)).symm,rfl⟩
 refine AW.draw mixed (fun H'=>_∈H') (B4 (i:=1) rfl) (by kernel_rfl) ?_;refine Qn 0 rfl Bm (Qn 1 rfl (Af rfl) (Qn 2 rfl B7 (Qn 3 rfl (OpP.Aah (fun k=>Ad (k:=k) (c:=.smapv _) tok rfl rfl rfl rfl) (fun _ h=>h)) ?_)));refine Qn 4 rfl (Qf Wv) (Qn 5 rfl Hc ?_);refine Qn 6 rfl (Zb (es:=Mo (Id V)) tok rfl rfl rfl rfl rfl (by kernel_rfl) rfl rfl (Qb _ _ rfl) (mD _ _)) ?_;refine Qn 7 rfl N4 (Qn 8 rfl Iu (Qn 9 rfl eU (Qn 10 rfl Al (Qn 11 rfl A0 ?_))));refine Hs ?_;refine Bh (Bk (Qp A9 (Qp Et (Ag (Aq (fun hc2=>Ae (Qp (Qf [Iq _]) (Qp Bi (Qp (E4 He) ?_)))) fun hc2=>?_)))))
 ·
  refine Bt 0 He (_::_::_) (Rc ?_);refine ⟨.inr rfl,[.agg He],.cons (.box _ _ _ 0 _ _ _ _ rfl rfl rfl rfl rfl rfl) <| .nil,_,.cons _ (.refl _),?_⟩;exact ⟨Eq.trans rfl (congrArg (fun q:Fa=>AV.agg (Uc q)) (look_2 hc1 hc2)).symm,rfl⟩
 have hct:(Id V).contains t.text=true:=by simpa using hc2
 refine (lJ hct).elim fun va hva=>?_
 have hix:=Hg hct;have hix2:=hix.2;rw [Dx] at hix2;have hvm:=B4 hva;have hvt:=hrv.ty va hvm;refine (Xz hrv hvm).elim fun sc hsc=>?_
 have hsr:=lZ hva hsc;have hfl:=hrv.fl sc (B4 hsc);refine Bg (Bk (Qp (Qf Au) (Qp Bi (Qp Av (Qp A9 (Qg [] Qw (Qf Au) (Qg [(40,_)] Qw Bi (Qg [(41,_)] Qw Av (Qg [(42,_)] Qw A9 (Qg [] Qw (Qf eX) (Qg [(44,_)] Qw Hc (AOL.g (y:=.bool _) _ [(45,_)] rfl (qZ.all ⟨Ent.Aad _ _,trivial⟩) (fun hG=>D5 rfl rfl) rfl ?_))))))))))));refine Qg [(43,_),(46,_)] Qw E0 (Qp B9 (Ag (Aq (fun hc3=>Ae (Qp (Qc rfl (N9)) ?_)) fun hc3=>Bg (AW.seq (AW.seq ?_)))))
 ·
  refine Bt 0 He (_::_::_) (Rc ?_);refine ⟨.inr rfl,[.agg He],.cons (.box _ _ _ 0 _ _ _ _ rfl rfl rfl rfl rfl rfl) <| .nil,_,.cons _ (.refl _),?_⟩;exact ⟨Eq.trans rfl (congrArg (fun q:Fa=>AV.agg (Uc q)) (look_3 hc1 hc2 hc3)).symm,rfl⟩
 refine AW.draw mixed (fun H'=>_∈H') (B4 (i:=1) rfl) (by kernel_rfl) ?_;refine Qn 0 rfl Bm (Qn 1 rfl (Af rfl) (Qn 2 rfl B7 (Qn 3 rfl (OpP.Aah (fun k=>Ad (k:=k) (c:=.sl _ _) tok rfl rfl rfl rfl) (fun _ h=>h)) ?_)));refine Qn 4 rfl Bm (Qn 5 rfl (Af rfl) (Qn 6 rfl B7 (Qn 7 rfl (OpP.Aah (fun k=>Ad (k:=k) (c:=.sl _ _) tok rfl rfl rfl rfl) (fun _ h=>h)) ?_)));refine Qn 8 rfl Ao (Qn 9 rfl (Aa (c:=Jz) tok rfl rfl rfl rfl rfl rfl (hix.1) (Dv hva)) (Qn 10 rfl (Qf [Iq _]) (Qn 11 rfl Bi (Qn 12 rfl (Aa (c:=Ub) tok rfl rfl rfl rfl rfl rfl (hvt.1) (Dv hsc)) (Qn 13 rfl (B0 Ub) (Qn 14 rfl (Qf eX) (Qn 15 rfl Hc (Qn 16 rfl (Qc rfl (Ly sc hfl t.name)) (Qn 17 rfl Bx ?_)))))))));refine Hs ?_;refine Bh (Aq (fun hc4=>Ae (Qp (Qf [Iq _]) (Qp Bi (Qp (E4 He) ?_)))) fun hc4=>Bg (Ae (Qp (Qc rfl (N9)) ?_)))
 ·
  refine Bt 0 He (_::_::_) (Rc ?_);refine ⟨.inr rfl,[.agg He],.cons (.box _ _ _ 0 _ _ _ _ rfl rfl rfl rfl rfl rfl) <| .nil,_,.cons _ (.refl _),?_⟩;exact ⟨Eq.trans rfl (congrArg (fun q:Fa=>AV.agg (Uc q)) (sN hc1 hc2 hc3 (by rw [hsr];exact hc4))).symm,rfl⟩
 refine Bt 0 He (_::_::_) (Rb ?_);refine ⟨.inr rfl,[.agg He],.cons (.box _ _ _ 0 _ _ _ _ rfl rfl rfl rfl rfl rfl) <| .nil,_,.cons _ (.refl _),?_⟩;exact ⟨Eq.trans rfl (congrArg (fun q:Fa=>AV.agg (Uc q)) (look_5 hc1 hc2 hc3 (by rw [hsr];exact hc4))).symm,rfl⟩
theorem zP (T:List e8Sc)(V:List Va)(s:Nx)(bp:Nat)(hrv:RvOK T V)(t:Syn)(ht:E7 t):Bc Tryz.prog 98 bp 159 (Uk T V s) (Uk T V s) [.val (.pointer (some ⟨bp,0,none⟩)),.agg (cSyn t)] (.agg (Uc (D4 T V t))):=by
 intro H
 revert H
 induction t using Syn.ind
 rename_i t ih;intro H;refine Bp.body (n:=18) tok Tryz.func98 rfl rfl rfl ?_;refine Ae (Qp (Gc Au) (Ed gT fun b4=>Ag (Bk (Qp Bm (Qp (B0 Au) ?_)))));refine AOL.Aae (Cj (k:=1) (by kernel_rfl) rfl rfl (rf_look T V s bp hrv t ht)) rfl rfl ?_;refine Ed gT fun b5=>?_
 refine Bt 0 He (_::_::_::_) ?_;refine AOL.ghost (GS.freeze (t:=5) 0 rfl rfl) ?_;refine Bs (Qp (Qf [Iq _]) (Qp Bi (Qp Br (Ag (Aq (fun hc1=>Ae (Qp (B0 He) ?_)) fun hc1=>Bg (Ae (Qp (Qf Kg) (Qp Cw (Qp Bm (Qp (Bn (l:=[.val _]) (l':=[]) rfl rfl) ?_))))))))))
 ·
  refine Bt 0 He (_::_::_) (Rc ?_);refine ⟨.inr rfl,[.agg He],.cons (.box _ _ _ 0 _ _ _ _ rfl rfl rfl rfl rfl rfl) <| .nil,_,.cons _ (.refl _),?_⟩;exact ⟨Eq.trans rfl (congrArg (fun q:Fa=>AV.agg (Uc q)) (walk_1 hc1)).symm,rfl⟩
 refine Rt (Cu rfl ((rf_each bp 159 _ t.kids (Kx (Hy ht) (by decide)) 98 (by kernel_rfl) [.val (.pointer (some ⟨bp,0,none⟩))] (D4 T V) (fun a ha=>fun R=>ih a ha (E6 ht ha) R)).at (k:=1) (H2:=_::_::_) rfl rfl)) ?_;refine Bt 0 He (_::_::_) (Rb ?_);refine ⟨.inr rfl,[.agg He],.cons (.box _ _ _ 0 _ _ _ _ rfl rfl rfl rfl rfl rfl) <| .nil,_,.cons _ (.refl _),?_⟩;exact ⟨Eq.trans rfl (congrArg (fun q:Fa=>AV.agg (Uc q)) (U6 hc1)).symm,rfl⟩
set_option maxHeartbeats 3200000
set_option maxRecDepth 20000

theorem scE (l:List Ex):∀c∈l.map M5,Bb c=true:=fun c hc=>by
 obtain ⟨x,_,rfl⟩:=Mu.1 hc;rw [Qt];rfl
theorem pA (bp TT:Nat)(cs:List AV)(l:List Syn)(hl:l.length≤1048576)(K:FuncId)(hK:Sj Tryz.prog K=true)(fs:List AV)(f:Syn→Ex)(hf:∀a∈l,Bc Tryz.prog K bp TT cs cs (fs ++ [.agg (cSyn a)]) (.agg (cE (f a)))):Bc Tryz.prog 174 bp TT cs cs [.sl 6 (l.map Cl),.fn (.func K) fs []] (.sl 8 ((l.map f).map M5)):=by
 intro H;refine Bp.body (n:=22) tok Tryz.func174 rfl rfl rfl ?_;refine Ae (Qp (Ck (z:=8) rfl) (Bs (Qp Ua ?_)));refine AOL.ghost (GS.row (t:=5) 36 8 rfl) ?_;refine Ag (Bk (Qp G4 ?_));refine Qp (Ah (n:=l.length) tok rfl rfl rfl (by simp)) ?_;refine Qp Ao (Ag (AW.block ?_));refine AW.Aag (fun (p:Nat×List (List AV)×Value)=>(⟨[(0,.sl 6 (l.map Cl)),(1,.fn (.func K) fs []),(5,.row p.2.2 8 p.2.1),(8,.sl 6 (l.map Cl)),(9,.int .i64 l.length),(10,.int .i64 (p.1:Int))],.row p.2.2 p.2.1.length 36 8 :: .box bp TT cs::H,22⟩:St)) (fun p=>p.1≤l.length∧p.2.1=((l.take p.1).map f).map M5) (fun p=>l.length-p.1) ((0,[],.slice none 0 0)) ?_ Cs ?_
 · exact ⟨E2 _,rfl⟩
 rintro p hR;refine Ae (Qp Bx (Re (Aq (fun hc1=>?_) fun hc1=>?_)))
 ·
  obtain ⟨a,ha⟩:=Cc hc1;have hlt:=Bu ha;have hm:=B4 ha;have hsc:∀c∈p.2.1,Bb c=true:=by rw [hR.2];exact scE _
  refine Bg (AW.seq (AW.block (Ae ?_)));refine Qp (Aa (c:=Au) tok rfl rfl rfl rfl rfl rfl (by omega) (Gp ha)) ?_;refine Qp (B0 Au) (Ed Kz fun b7=>?_);refine Bt 0 Au (_::_::_::_) ?_;refine AOL.ghost (GS.freeze (t:=7) 0 rfl rfl) ?_;refine Ag (AW.region (Qp (A1 (v:=.row _ _ _) rfl) (Qp (A1 (v:=.fn _ _ _) rfl) (Qp (B0 Au) (Rt (Ix hK rfl rfl (Cb _) ((hf a hm).at (k:=1) (H2:=_::_::_) rfl rfl)) (Qp (Aj (es:=[Ie]) tok rfl rfl rfl rfl rfl rfl rfl rfl rfl) ?_))))));refine Qe (Dh (k:=0) tok rfl rfl rfl rfl rfl rfl rfl rfl (Gu rfl) (hsc) (by simp [hR.2];omega) (by simp [hR.2,maxLen];omega)) ?_;rintro _ _ ⟨v19,rfl,rfl⟩;refine Qp (A6 (v:=.row _ _ _) rfl) (Rk (AW.region (Qp E9 (Qp Ao (Ag ?_)))));refine ⟨(p.1+1,p.2.1 ++ [cE (f a)],v19),?_,?_,Cs⟩
  · exact ⟨hlt,by simp only;rw [Eu ha,hR.2];simp [Qt]⟩
  simp only;omega
 have hte:=Dm hc1;have hall:=hR.2;rw [hte] at hall;refine AW.exit ?_;refine Bq (Ri (Ae ?_));refine Qp (A1 (v:=.row _ _ _) rfl) ?_;refine AOL.ghost (GS.unrow 21 rfl) ?_;refine Qp eN (Rb ?_);refine ⟨.inr rfl,[.sl _ _],.cons (.tmp _ _ rfl) <| .nil,_,.cons _ (.refl _),?_⟩;exact ⟨Eq.trans rfl (congrArg (AV.sl 8) hall),rfl⟩
theorem eH (T:List e8Sc)(V:List Va)(s:Nx)(bp:Nat)(hrv:RvOK T V)(t:Syn)(ht:E7 t)(hw:(D4 T V t).err=0):Bc Tryz.prog 100 bp 159 (Uk T V s) (Uk T V s) [.val (.pointer (some ⟨bp,0,none⟩)),.agg (cSyn t)] (.agg (cE (Cp T V t))):=by
 intro H
 revert H
 induction t using Syn.ind
 rename_i t ih;intro H;refine Bp.body (n:=101) tok Tryz.func100 rfl rfl rfl ?_;refine Ae (Qp (Gc Au) (Ed gix fun b4=>Re ?_));refine AW.draw mixed (fun H'=>_∈H') (B4 (i:=1) rfl) (by kernel_rfl) ?_;refine Qn 0 rfl Bm (Qn 1 rfl (Af rfl) (Qn 2 rfl B7 (Qn 3 rfl (OpP.Aah (fun k=>Ad (k:=k) (c:=.smapv _) tok rfl rfl rfl rfl) (fun _ h=>h)) ?_)));refine Qn 4 rfl (Qf Wv) (Qn 5 rfl Hc ?_);refine Qn 6 rfl (gX (es:=Mo (Id V)) tok rfl rfl rfl rfl rfl (by kernel_rfl) rfl rfl (Qb _ _ rfl)) ?_;refine Qn 7 rfl Al ?_;refine Hs ?_;refine Bh (Bk (Qp (Qf Au) (Qp Bi (Ag (AW.block (Ae (Qp Av (Qp A0 ?_))))))));refine Ag (Aq (fun hc1=>Ae (Qp (B0 Au) (Qp (Qc rfl (iM t)) (Qp (E4 Ie) ?_)))) fun hc1=>Ae (Qp Av (Qp A0 (Ag (Aq (fun hc2=>Bk (Qp (Qf eX) (Qp Hc (Qp (D5 rfl rfl) (Ag (Aq (fun hc3=>Ae (Qp Ao (Qp (E4 Ie) ?_))) fun hc3=>?_)))))) fun hc2=>?_)))))
 ·
  refine Bt 0 Ie (_::_::_) (Ra ?_);refine ⟨.inr rfl,[.agg Ie],.cons (.box _ _ _ 0 _ _ _ _ rfl rfl rfl rfl rfl rfl) <| .nil,_,.cons _ (.refl _),?_⟩;exact ⟨Eq.trans rfl (congrArg (fun q:Ex=>AV.agg (cE q)) ((Fq T V t).trans (eE hc1))).symm,rfl⟩
 ·
  refine Bt 0 Ie (_::_::_) (Rc (Db (Be ?_)));refine ⟨.inr rfl,[.agg Ie],.cons (.box _ _ _ 0 _ _ _ _ rfl rfl rfl rfl rfl rfl) <| .nil,_,.cons _ (.refl _),?_⟩;exact ⟨Eq.trans rfl (congrArg (fun q:Ex=>AV.agg (cE q)) ((Fq T V t).trans (oA hc1 hc2 hc3))).symm,rfl⟩
 ·
  have hct:=Nf (Fp hw).1 (Or.inl (by simpa using hc2));refine (lJ hct).elim fun va hva=>?_
  have hix:=Hg hct;have hix2:=hix.2;rw [Dx] at hix2;have hvm:=B4 hva;have hvt:=hrv.ty va hvm;refine (Xz hrv hvm).elim fun sc hsc=>?_
  have hsr:=lZ hva hsc;have hfl:=hrv.fl sc (B4 hsc);refine Bg (AW.seq ?_);refine AW.draw mixed (fun H'=>_∈H') (B4 (i:=1) rfl) (by kernel_rfl) ?_;refine Qn 0 rfl Ao (Qn 1 rfl Bm (Qn 2 rfl (Af rfl) (Qn 3 rfl B7 (Qn 4 rfl (OpP.Aah (fun k=>Ad (k:=k) (c:=.sl _ _) tok rfl rfl rfl rfl) (fun _ h=>h)) ?_))));refine Qn 5 rfl Bm (Qn 6 rfl (Af rfl) (Qn 7 rfl B7 (Qn 8 rfl (OpP.Aah (fun k=>Ad (k:=k) (c:=.sl _ _) tok rfl rfl rfl rfl) (fun _ h=>h)) ?_)));refine Qn 9 rfl Ao (Qn 10 rfl (Aa (c:=Jz) tok rfl rfl rfl rfl rfl rfl (hix.1) (Dv hva)) (Qn 11 rfl (Qf [Iq _]) (Qn 12 rfl Bi (Qn 13 rfl (Aa (c:=Ub) tok rfl rfl rfl rfl rfl rfl (hvt.1) (Dv hsc)) (Qn 14 rfl (B0 Ub) (Qn 15 rfl (Qf eX) (Qn 16 rfl Hc (Qn 17 rfl (Qc rfl (Ly sc hfl t.name)) (Qn 18 rfl (E4 Ie) ?_)))))))));refine Gz.last _ _ 19 _ _ rfl (by kernel_rfl) rfl rfl (Bf (k:=0) (v:=.agg _) (cs':=Ie) (H2:=_::_::_) tok rfl rfl rfl rfl (rfl) rfl rfl rfl rfl) (by kernel_rfl) ?_;rintro _ _ ⟨rfl,rfl⟩;refine Bh (AW.ret (Db (Be ?_)));refine ⟨.inr rfl,[.agg Ie],.cons (.box _ _ _ 0 _ _ _ _ rfl rfl rfl rfl rfl rfl) <| .nil,_,.cons _ (.refl _),?_⟩;exact ⟨Eq.trans rfl (congrArg (fun q:Ex=>AV.agg (cE q)) ((Fq T V t).trans (nV hc1 hc2 hc3 hsr))).symm,rfl⟩
 refine Ae (Qp Av (Qp A0 (Ag (Aq (fun hc4=>Ae (Qp Ao (Qp (E4 Ie) ?_))) fun hc4=>Ae (Qp Av (Qp A0 (Ag (Aq (fun hc5=>?_) fun hc5=>Ae (Qp Av (Qp A0 (Ag (Aq (fun hc7=>Ae (Qp (Qf Kg) (Qp Cw (Qp Bm (Qp (Bn (l:=[.val _]) (l':=[]) rfl rfl) ?_))))) fun hc7=>Rf (AW.seq ?_)))))))))))))
 ·
  refine Bt 0 Ie (_::_::_) (Ra ?_);refine ⟨.inr rfl,[.agg Ie],.cons (.box _ _ _ 0 _ _ _ _ rfl rfl rfl rfl rfl rfl) <| .nil,_,.cons _ (.refl _),?_⟩;exact ⟨Eq.trans rfl (congrArg (fun q:Ex=>AV.agg (cE q)) ((Fq T V t).trans (nK hc1 hc2 hc4))).symm,rfl⟩
 ·
  have hct:=Nf (Fp hw).1 (Or.inr (Or.inr (by simpa using hc5)));refine (lJ hct).elim fun va hva=>?_
  have hix:=Hg hct;have hix2:=hix.2;rw [Dx] at hix2;have hvm:=B4 hva;have hvt:=hrv.ty va hvm;refine (Xz hrv hvm).elim fun sc hsc=>?_
  have hsr:=lZ hva hsc;have hfl:=hrv.fl sc (B4 hsc);refine AW.seq ?_;refine AW.draw mixed (fun H'=>_∈H') (B4 (i:=1) rfl) (by kernel_rfl) ?_;refine Qn 0 rfl Ao (Qn 1 rfl Bm (Qn 2 rfl (Af rfl) (Qn 3 rfl B7 (Qn 4 rfl (OpP.Aah (fun k=>Ad (k:=k) (c:=.sl _ _) tok rfl rfl rfl rfl) (fun _ h=>h)) ?_))));refine Qn 5 rfl Bm (Qn 6 rfl (Af rfl) (Qn 7 rfl B7 (Qn 8 rfl (OpP.Aah (fun k=>Ad (k:=k) (c:=.sl _ _) tok rfl rfl rfl rfl) (fun _ h=>h)) ?_)));refine Qn 9 rfl Ao (Qn 10 rfl (Aa (c:=Jz) tok rfl rfl rfl rfl rfl rfl (hix.1) (Dv hva)) (Qn 11 rfl (Qf [Iq _]) (Qn 12 rfl Bi (Qn 13 rfl (Aa (c:=Ub) tok rfl rfl rfl rfl rfl rfl (hvt.1) (Dv hsc)) (Qn 14 rfl (B0 Ub) (Qn 15 rfl (Qf eX) (Qn 16 rfl Hc (Qn 17 rfl (Qc rfl (Ly sc hfl t.name)) (Qn 18 rfl (Qf Uw) (Qn 19 rfl Bi (Qn 20 rfl (E4 Ie) ?_)))))))))));refine Gz.eff _ _ 21 _ _ rfl (by kernel_rfl) rfl rfl (Kq (l:=gix) (by kernel_rfl)) (by rintro _ _ ⟨b6,rfl,rfl⟩;simp) ?_;rintro _ _ ⟨b6,rfl,rfl⟩;refine Gz.last _ _ 22 _ _ rfl (by kernel_rfl) rfl rfl (Bf (k:=0) (v:=.agg _) (cs':=Ie) (H2:=_::_::_::_) tok rfl rfl rfl rfl (rfl) rfl rfl rfl rfl) (by kernel_rfl) ?_;rintro _ _ ⟨rfl,rfl⟩;refine Bh (Bk (Qp (Qf Kg) (Qp Cw ?_)));refine Qp (Ah (n:=t.kids.length) tok rfl rfl rfl (by simp)) ?_;refine Qp Ej (Ag (Aq (fun hc6=>?_) fun hc6=>Bg (Ae (AOL.Aae (Ax (k:=0) (l:=Ie) tok rfl rfl rfl rfl rfl) rfl rfl ?_))))
  ·
   have h0:0<t.kids.length:=by have:=Ir hc6;omega
   refine AW.region (Qp (Qf Kg) (Qp Cw ?_));refine Qp (Aa (c:=Au) tok rfl rfl rfl rfl rfl rfl (by decide) (Gp (D8 h0))) ?_;refine Qp (B0 Au) (Qp (Qc rfl (iM (A3 t 0))) (Qp B7 ?_));refine Bt 0 Ie (_::_::_::_) (Bs (AOL.Aae (Ax (k:=0) (l:=Ie) tok rfl rfl rfl rfl rfl) rfl rfl ?_));refine Bt 1 Ie (_::_::_::_) (Ra ?_);refine ⟨.inr rfl,[.agg Ie],.cons (.box _ _ _ 1 _ _ _ _ rfl rfl rfl rfl rfl rfl) <| .nil,_,.cons _ (.cons _ (.refl _)),?_⟩;exact ⟨Eq.trans rfl (congrArg (fun q:Ex=>AV.agg (cE q)) ((Fq T V t).trans (oD hc1 hc2 hc4 hc5 hsr hc6))).symm,rfl⟩
  refine Bt 1 Ie (_::_::_::_) (Ra ?_);refine ⟨.inr rfl,[.agg Ie],.cons (.box _ _ _ 1 _ _ _ _ rfl rfl rfl rfl rfl rfl) <| .nil,_,.cons _ (.cons _ (.refl _)),?_⟩;exact ⟨Eq.trans rfl (congrArg (fun q:Ex=>AV.agg (cE q)) ((Fq T V t).trans (nJ hc1 hc2 hc4 hc5 hsr hc6))).symm,rfl⟩
 ·
  refine Rt (Cu rfl ((pA bp 159 _ t.kids (Kx (Hy ht) (by decide)) 100 (by kernel_rfl) [.val (.pointer (some ⟨bp,0,none⟩))] (Cp T V) (fun a ha=>fun R=>ih a ha (E6 ht ha) ((Fp hw).2 a ha) R)).at (k:=1) (H2:=_::_::_) rfl rfl)) ?_;refine Qp (E4 Ie) ?_;refine Bt 0 Ie (_::_::_) (Ra ?_);refine ⟨.inr rfl,[.agg Ie],.cons (.box _ _ _ 0 _ _ _ _ rfl rfl rfl rfl rfl rfl) <| .nil,_,.cons _ (.refl _),?_⟩;exact ⟨Eq.trans rfl (congrArg (fun q:Ex=>AV.agg (cE q)) ((Fq T V t).trans (oV hc1 hc2 hc4 hc5 hc7))).symm,rfl⟩
 refine Ol ?_;refine Qn 0 rfl (Qf Uw) (Qn 1 rfl Bi (Qn 2 rfl (Qf Kg) (Qn 3 rfl Cw (Qn 4 rfl Bm (Qn 5 rfl (Bn (l:=[.val _]) (l':=[]) rfl rfl) ?_)))));refine O0 6 rfl (Cu rfl ((pA bp 159 _ t.kids (Kx (Hy ht) (by decide)) 100 (by kernel_rfl) [.val (.pointer (some ⟨bp,0,none⟩))] (Cp T V) (fun a ha=>fun R=>ih a ha (E6 ht ha) ((Fp hw).2 a ha) R)).at (k:=1) (H2:=_::_::_) rfl rfl)) ?_;refine Qn 7 rfl (E4 Ie) ?_;refine O0 8 rfl (Bf (k:=0) (v:=.agg _) (cs':=Ie) (H2:=_::_::_) tok rfl rfl rfl rfl (rfl) rfl rfl rfl rfl) ?_;refine Hs ?_;refine Bh (AW.ret ?_);refine ⟨.inr rfl,[.agg Ie],.cons (.box _ _ _ 0 _ _ _ _ rfl rfl rfl rfl rfl rfl) <| .nil,_,.cons _ (.refl _),?_⟩;exact ⟨Eq.trans rfl (congrArg (fun q:Ex=>AV.agg (cE q)) ((Fq T V t).trans (oO hc1 hc2 hc4 hc5 hc7))).symm,rfl⟩
end Go.Proofs.YtckhoadldibflaaGreatDoor
