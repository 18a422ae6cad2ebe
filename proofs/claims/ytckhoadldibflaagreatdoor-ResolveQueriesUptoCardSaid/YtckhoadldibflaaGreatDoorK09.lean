/-
  Several texts in one: R14, R16, R17, R20, R1w, R2w. No condition.
-/
import Derived.Test.YtckhoadldibflaaGreatDoorK08
import Derived.Test.YtckhoadldibflaaGreatDoorK01
import Derived.Test.YtckhoadldibflaaGreatDoorK06
import Derived.KernelRfl
set_option linter.unusedVariables false
set_option linter.unusedSimpArgs false
namespace Go.Proofs.YtckhoadldibflaaGreatDoor
open Go Go.Aw
@[reducible] def cNm (T : List e8Sc) (V : List Va) : List AV := [.sl 2 (T.map F1), .sl 2 (V.map Ls)]
theorem Wm (ns:List A1)(n:A1):decide (0≤B4 ns n)=ns.contains n:=by
 unfold B4;cases ns.contains n with
 | true=>rw [if_pos rfl];simp
 | false=>rfl
theorem dO (ns:List A1)(n:A1):decide (B4 ns n<0) = !ns.contains n:=by
 unfold B4;cases ns.contains n with
 | true=>rw [if_pos rfl];simp
 | false=>rfl
theorem Ux {ns:List A1}{n:A1}(h:ns.contains n=true):B4 ns n=M4 ns n:=by
 unfold B4 M4;rw [if_pos h,if_pos h]
section
variable {T:List e8Sc} {V:List Va} {t:Syn}
theorem mis_0 (h:(((t.kind==14)||(t.kind==15))||(t.kind==16))=false):Hn T V t=Mt:=fJ (by
 rw [Ke,Ke] at h;simp only [bne,h.1.1,h.1.2,h.2];rfl)
theorem jV (h:(((t.kind==14)||(t.kind==15))||(t.kind==16))=true):(((t.kind != 14)&&(t.kind != 15))&&(t.kind != 16))=false:=by
 simp only [bne];cases h1:t.kind==14 <;> cases h2:t.kind==15 <;> cases h3:t.kind==16 <;> simp_all
theorem mis_8 (h:(((t.kind==14)||(t.kind==15))||(t.kind==16))=true)(h2:decide (B4 (Fq V) t.text<0)=true):Hn T V t=⟨t.pos,8⟩:=by
 rw [dO] at h2;exact look_2 (jV h) h2
theorem mis_c (h:decide (B4 (Fq V) t.text<0)=false):(Fq V).contains t.text=true:=by
 rw [dO] at h;simpa using h
theorem mis_6 (h:(((t.kind==14)||(t.kind==15))||(t.kind==16))=true)(hc:(Fq V).contains t.text=true){sc:e8Sc}(hs:nL T V (M4 (Fq V) t.text)=sc)(h3:(((t.kind != 15)&&((t.kind==16)||(t.name != E6)))&&decide (B4 (sc.fields.map (·.name)) t.name<0))=true):Hn T V t=⟨t.pos,6⟩:=by
 subst hs;rw [G2] at h3;refine wW (jV h) (by rw [hc];rfl) ?_ h3.2;have h4:=h3.1;simp only [bne] at h4;cases h1:t.kind==14 <;> cases h2:t.kind==15 <;> cases h5:t.kind==16 <;> cases h6:t.name==E6 <;> simp_all
theorem mis_n (h:(((t.kind==14)||(t.kind==15))||(t.kind==16))=true)(hc:(Fq V).contains t.text=true){sc:e8Sc}(hs:nL T V (M4 (Fq V) t.text)=sc)(h3:(((t.kind != 15)&&((t.kind==16)||(t.name != E6)))&&decide (B4 (sc.fields.map (·.name)) t.name<0))=false):Hn T V t=Mt:=by
  subst hs;cases h7:decide (Gj (nL T V (M4 (Fq V) t.text)) t.name<0) with
  | false=>
    cases h8:((t.kind==15)||((t.kind==14)&&(t.name==E6))) with
    | true=>exact mC (jV h) (by rw [hc];rfl) h8
    | false=>exact uW (jV h) (by rw [hc];rfl) h8 h7
  | true=>
    refine mC (jV h) (by rw [hc];rfl) ?_;unfold Gj at h7;rw [h7,Dq] at h3;simp only [bne] at h3;cases h1:t.kind==14 <;> cases h2:t.kind==15 <;> cases h5:t.kind==16 <;> cases h6:t.name==E6 <;> simp_all
theorem pN {n:A1}(h:(Fq V).contains n=true):∃va,V[(B4 (Fq V) n).toNat]? = some va:=by rw [Ux h];exact fF h
theorem U4 {l:List A1}{n:A1}(h:l.contains n=true):0≤B4 l n∧B4 l n<(l.length:Int):=by rw [Ux h];exact Ka h
theorem Aai {n:A1}(h:(Fq V).contains n=true){va:Va}{sc:e8Sc}(hva:V[(B4 (Fq V) n).toNat]? = some va)(hsc:T[va.type.toNat]? = some sc):nL T V (M4 (Fq V) n)=sc:=by
 rw [Ux h] at hva;exact gF hva hsc
theorem exp_kid (h:Ba t .exps=0)(hk:t.kind=17∨t.kind=18){k:Nat}{a:Syn}(ha:t.kids[k]? = some a):Ba a .exps=0:=by
 have hc:=(Fj h ha).1;unfold Eh at hc;rcases hk with hk | hk <;> (rw [hk] at hc;exact hc)
theorem exp_num {xs:List Ex}(h1:(t.kind==13)=false)(h2:(t.kind==14)=false)(h3:(t.kind==15)=false)(h4:(t.kind==16)=false)(hr:13≤t.kind∧t.kind≤18):Ng T V t xs=⟨if (t.kind==17) then t.num else 12,xs,0,0,0,v0⟩:=by
 have:t.kind=17∨t.kind=18:=by simp at h1 h2 h3 h4;omega
 rcases this with hk | hk
 · rw [qK h1 h2 h3 h4 (by rw [hk];rfl),hk];rfl
 rw [qA h1 h2 h3 h4 (by rw [hk];rfl),hk];rfl
end
def Cq:List e8Sc→List Syn→List e8Sc×Fa
  | out,[]=>(out,Mt)
  | out,k::r=>
    if (k.kind==1) then
      if ((out.length:Int)==16) then ([],⟨k.pos,5⟩)
      else if (G8 out).contains k.text then ([],⟨k.pos,7⟩)
      else if ((Em [] k.kids).2.err != 0) then ([],(Em [] k.kids).2)
      else Cq (out ++ [⟨k.text,(Em [] k.kids).1⟩]) r
    else (out,Mt)
section
variable {out:List e8Sc} {l:List Syn} {k:Nat} {a:Syn}
theorem tyf_e (ha:l[k]? = some a)(h:(a.kind==1)=false):Cq out (l.drop k)=(out,Mt):=by rw [Ax ha,Cq,Bi h]
theorem tyf_5 (ha:l[k]? = some a)(h:(a.kind==1)=true)(h2:((out.length:Int)==16)=true):Cq out (l.drop k)=([],⟨a.pos,5⟩):=by rw [Ax ha,Cq,if_pos h,if_pos h2]
theorem tyf_7 (ha:l[k]? = some a)(h:(a.kind==1)=true)(h2:((out.length:Int)==16)=false)(h3:(G8 out).contains a.text=true):Cq out (l.drop k)=([],⟨a.pos,7⟩):=by rw [Ax ha,Cq,if_pos h,Bi h2,if_pos h3]
theorem tyf_n (ha:l[k]? = some a)(h:(a.kind==1)=true)(h2:((out.length:Int)==16)=false)(h3:(G8 out).contains a.text=false):Cq out (l.drop k)=if ((Em [] a.kids).2.err != 0) then ([],(Em [] a.kids).2) else Cq (out ++ [⟨a.text,(Em [] a.kids).1⟩]) (l.drop (k+1)):=by rw [Ax ha,Cq,if_pos h,Bi h2,Bi h3]
theorem tyf_f (ha:l[k]? = some a)(h:(a.kind==1)=true)(h2:((out.length:Int)==16)=false)(h3:(G8 out).contains a.text=false){fs:List Fi}{f:Fa}(hf:Em [] a.kids=(fs,f))(he:f.err≠0):Cq out (l.drop k)=([],f):=by
 rw [tyf_n ha h h2 h3,hf];exact if_pos (by simpa using he)
theorem tyf_on (ha:l[k]? = some a)(h:(a.kind==1)=true)(h2:((out.length:Int)==16)=false)(h3:(G8 out).contains a.text=false){fs:List Fi}(hf:Em [] a.kids=(fs,Mt)):Cq out (l.drop k)=Cq (out ++ [⟨a.text,fs⟩]) (l.drop (k+1)):=by
 rw [tyf_n ha h h2 h3,hf];rfl
end
def nW (t:Syn):List e8Sc×Int×Int:=if ((Bh t (.only 0)).2 != 0) then ([],0,3) else ((Cq [] t.kids).1,(Cq [] t.kids).2.pos,(Cq [] t.kids).2.err)
theorem tq_1 {t:Syn}(h:((Bh t (.only 0)).2 != 0)=true):nW t=([],0,3):=if_pos h
theorem tD {t:Syn}(h:((Bh t (.only 0)).2 != 0)=false){p:List e8Sc×Fa}(h2:Cq [] t.kids=p):nW t=(p.1,p.2.pos,p.2.err):=by subst h2;exact Bi h
theorem fG {t:Syn}(hc:Ba t (.only 0)=0):Cq [] t.kids=C8 t:=by
  have hk:=E5 (Gg (Gk hc).1).1
  have hkid:∀(j:Nat) (a:Syn),t.kids[j]? = some a→a.kind=1∨a.kind=3:=fun j a ha=>by
    have h:=(Fj hc ha).2;unfold Eh at h;rw [hk,if_pos (by decide)] at h;split at h <;> · have:=E5 h;omega
  have hnext:∀(j:Nat) (a b:Syn),t.kids[j]? = some a→t.kids[j+1]? = some b→a.kind≠1→b.kind≠1:=fun j a b ha hb hne he=>by
    have h:=(Fj hc hb).2;unfold Eh at h;rw [hk,if_pos (by decide)] at h;have hj:Bb t (j+1-1)=a:=by unfold Bb;rw [Nat.add_sub_cancel,Nv,ha];rfl
    rw [hj] at h;rw [if_neg (by simp;intro _;exact ⟨by omega,hne⟩)] at h;have:=E5 h;omega
  have tail:∀(n k:Nat) (out:List e8Sc),n=t.kids.length-k→(∀a,t.kids[k]? = some a→a.kind≠1)→Gd out (t.kids.drop k)=(out,Mt):=by
    intro n
    induction n with
    | zero=>intro k out hn _;rw [O7 (by omega),Gd]
    | succ n ih=>
      intro k out hn hne;have hl:k<t.kids.length:=by omega
      have ha:=List.getElem?_eq_getElem hl;rw [jU ha (by simpa using hne _ ha)];exact ih (k+1) out (by omega) fun b hb=>hnext k _ b ha hb (hne _ ha)
  have main:∀(n k:Nat) (out:List e8Sc),n=t.kids.length-k→Cq out (t.kids.drop k)=Gd out (t.kids.drop k):=by
    intro n
    induction n with
    | zero=>intro k out hn;rw [O7 (by omega),Gd,Cq]
    | succ n ih=>
      intro k out hn;have hl:k<t.kids.length:=by omega
      have ha:=List.getElem?_eq_getElem hl;by_cases h1:t.kids[k].kind=1
      · have e1:(t.kids[k].kind==1)=true:=by simpa using h1
        have e2:(t.kids[k].kind != 1)=false:=by simpa using h1
        rw [Ax ha,Cq,Gd,if_pos e1,Bi e2,ih (k+1) _ (by omega)]
      rw [tyf_e ha (by simpa using h1),tail _ k out rfl fun b hb=>by rw [ha] at hb;cases hb;exact h1]
  exact main _ 0 [] rfl
end Go.Proofs.YtckhoadldibflaaGreatDoor

namespace Go.Aw
open Go
theorem An.row1 {P:Program}{f:FuncId}{y r:AV}{z:Nat}{v:Value}{es:List (List AV)}(h:An P f [.sl z es,y] r):An P f [.row v z es,y] r:=by
 intro H g w vs hH ha;refine h H g w vs hH ⟨ha.1,fun i x hi=>?_⟩
 match i,hi with
 | 0,hi=>cases hi;exact (ha.2 0 _ rfl).inv_row.2
 | 1,hi=>cases hi;exact ha.2 1 _ rfl
 | i+2,hi=>simp at hi
end Go.Aw
namespace Go.Proofs.YtckhoadldibflaaGreatDoor
open Go Go.Aw
@[reducible] def cPtW (p : Pt) (rs : AV) : List AV := [.int .i64 p.op, rs, .int .i64 p.type, .int .i64 p.var, .int .i64 p.scope, .int .i64 p.span, .int .i64 p.cond.op, .sl 8 (p.cond.args.map M2), .int .i64 p.cond.var, .int .i64 p.cond.field, .int .i64 p.cond.kind, .int .i64 p.cond.val.kind, .int .i64 p.cond.val.num, .str p.cond.val.text]
def tyV (V:List Va)(i:Int):Int:=((V[i.toNat]?).getD va0).type
section
variable (T:List e8Sc) (V:List Va)
def L4 (t:Syn)(xs:List Pt):Pt:=
 if (t.kind==5) then ⟨0,xs,tyV V (B4 (Fq V) t.name),B4 (Fq V) t.name,0,0,H7 T V t⟩
 else if (t.kind==10) then ⟨5,xs,tyV V (B4 (Fq V) (Bb t 1).name),B4 (Fq V) (Bb t 1).name,0,0,H7 T V (Bb t 1)⟩
 else if (t.kind==11) then ⟨6,xs,0,0,0,t.num,Ps⟩
 else if (t.kind==12) then ⟨7,xs,0,0,0,0,Ds T V (Bb t 1)⟩
 else ⟨t.kind-5,xs,0,0,0,0,Ps⟩
mutual
def Mi:Syn→Pt
 | ⟨k,x,n,m,kids,p⟩=>L4 T V ⟨k,x,n,m,kids,p⟩ (if (k==5) then [] else if (k==10)||(k==12) then rptH kids else zS kids)
def rptH:List Syn→List Pt
 | []=>[]
 | x::_=>[Mi x]
def zS:List Syn→List Pt
 | []=>[]
 | x::r=>Mi x::zS r
end
theorem iW:∀l:List Syn,zS T V l=l.map (Mi T V)
 | []=>by rw [zS,Di]
 | x::r=>by rw [zS,iW r,E7]
theorem rptH_map:∀l:List Syn,rptH T V l=(l.take 1).map (Mi T V)
 | []=>by rw [rptH,List.take_nil,Di]
 | x::r=>by rw [rptH,lE,hJ,E7,Di]
theorem pZ (t:Syn):Mi T V t=L4 T V t ((C1 t).map (Mi T V)):=by
  cases t with | mk k x n m kids p=>
  rw [Mi];unfold C1;cases h1:(k==5) with
  | true=>simp only [h1,if_true];rfl
  | false=>
    simp only [h1,B0,if_false];cases h2:(k==10)||(k==12) with
    | true=>simp only [h2,if_true];rw [rptH_map]
    | false=>simp only [h2,B0,if_false];rw [iW]
theorem Nt (t:Syn)(xs:List Pt):L4 T V t xs = { L4 T V t [] with args:=xs }:=by
 unfold L4;split
 · rfl
 split
 · rfl
 split
 · rfl
 split <;> rfl
theorem kC (t:Syn):Mi T V t = { L4 T V t [] with args:=(C1 t).map (Mi T V) }:=by rw [pZ,Nt]
end
section
variable {T:List e8Sc} {V:List Va} {t:Syn}
theorem rn_5 (h1:(t.kind==5)=true):L4 T V t []=⟨0,[],tyV V (B4 (Fq V) t.name),B4 (Fq V) t.name,0,0,H7 T V t⟩:=if_pos h1
theorem rn_10 (h1:(t.kind==5)=false)(h2:(t.kind==10)=true):L4 T V t []=⟨5,[],tyV V (B4 (Fq V) (Bb t 1).name),B4 (Fq V) (Bb t 1).name,0,0,H7 T V (Bb t 1)⟩:=(Bi h1).trans (if_pos h2)
theorem rn_11 (h:t.kind=11):L4 T V t []=⟨6,[],0,0,0,t.num,Ps⟩:=by unfold L4;rw [h];rfl
theorem rn_12 (h:t.kind=12):L4 T V t []=⟨7,[],0,0,0,0,Ds T V (Bb t 1)⟩:=by unfold L4;rw [h];rfl
theorem wV {k:Int}(h:t.kind=k)(hk:k=6∨k=7∨k=8∨k=9):L4 T V t []=⟨k-5,[],0,0,0,0,Ps⟩:=by
 unfold L4;rw [h];rcases hk with rfl | rfl | rfl | rfl <;> rfl
theorem gZ {k:Int}(h:t.kind=k)(hk:k=6∨k=7∨k=8∨k=9∨k=11):C1 t=t.kids:=by
 unfold C1;rw [h];rcases hk with rfl | rfl | rfl | rfl | rfl <;> rfl
theorem pQ {p:Pl}(h:Ba t p=0)(h5:t.kind=5){a:Syn}(ha:t.kids[0]? = some a):Ba a .exps=0:=by
 have hc:=(Fj h ha).1;unfold Eh at hc;rw [h5] at hc;exact hc
theorem ev_sub {a:Syn}(h5:t.kind≠5)(ha:a∈C1 t):∀e∈Hj a,e∈Hj t:=by
 intro e he;rw [M5,if_neg (by simpa using h5)];unfold C1 at ha;rw [if_neg (by simpa using h5)] at ha;by_cases h10:t.kind=10
 ·
  rw [if_pos (by simp [h10])] at ha;rw [if_pos (by simpa using h10)];cases hk:t.kids with
  | nil=>rw [hk] at ha;simp at ha
  | cons x r=>rw [hk] at ha;simp at ha;subst ha;exact Pv _ (by rw [qE];exact he)
 rw [if_neg (by simpa using h10)];by_cases h12:t.kind=12
 ·
  rw [if_pos (by simp [h12])] at ha;rw [if_pos (by simpa using h12)];cases hk:t.kids with
  | nil=>rw [hk] at ha;simp at ha
  | cons x r=>rw [hk] at ha;simp at ha;subst ha;rw [qE];exact he
 rw [if_neg (by simp [h10,h12])] at ha;rw [if_neg (by simpa using h12)];exact List.mem_flatMap.2 ⟨a,ha,he⟩
theorem yX {i:Int}{va:Va}(h:V[i.toNat]? = some va):tyV V i=va.type:=by unfold tyV;rw [h];rfl
end

def scoN (p:Pt)(n:Int)(xs:List Pt):Pt:=⟨p.op,xs,p.type,p.var,if (M0 p||Lx p) then n else p.scope,p.span,p.cond⟩
def O8 (p:Pt)(n:Int):Int:=if (M0 p||Lx p) then n+1 else n
mutual
def Nd:Pt→Int→Pt×Int
 | ⟨o,xs,t,v,s,e,c⟩,n=>(scoN ⟨o,xs,t,v,s,e,c⟩ n (G1 xs (O8 ⟨o,xs,t,v,s,e,c⟩ n)).1,(G1 xs (O8 ⟨o,xs,t,v,s,e,c⟩ n)).2)
def G1:List Pt→Int→List Pt×Int
 | [],n=>([],n)
 | a::r,n=>((Nd a n).1::(G1 r (Nd a n).2).1,(G1 r (Nd a n).2).2)
end
theorem eM (p:Pt)(n:Int):Nd p n=(scoN p n (G1 p.args (O8 p n)).1,(G1 p.args (O8 p n)).2):=by cases p;rw [Nd]
theorem kV:∀(l r:List Pt) (n:Int),G1 (l++r) n=((G1 l n).1++(G1 r (G1 l n).2).1,(G1 r (G1 l n).2).2)
 | [],r,n=>by rw [J4,G1];rfl
 | x::l,r,n=>by rw [Kv,G1,kV l r,G1];rfl
theorem dB {l:List Pt}{k:Nat}{a:Pt}(h:l[k]? = some a)(n:Int):G1 (l.take (k+1)) n=((G1 (l.take k) n).1 ++ [(Nd a (G1 (l.take k) n).2).1],(Nd a (G1 (l.take k) n).2).2):=by
 rw [C2 h,kV,G1,G1]
theorem wQ:∀(p:Pt) (n:Int),n≤(Nd p n).2∧(Nd p n).2≤n+Gr p:=by
  intro p
  induction p using Pt.ind with
  | h p ih=>
    intro n
    have key:∀l:List Pt,(∀a∈l,a∈p.args)→∀n:Int,n≤(G1 l n).2∧(G1 l n).2≤n+(l.map Gr).sum:=by
      intro l
      induction l with
      | nil=>intro _ n;rw [G1];simp
      | cons x r ih2=>
        intro hl n;have hx:=ih x (hl x (by simp)) n;have hr:=ih2 (fun a ha=>hl a (by simp [ha])) (Nd x n).2;rw [G1,E7,J3];simp only;omega
    have hk:=key p.args (fun a ha=>ha) (O8 p n);rw [eM,Ix];have:n≤O8 p n∧O8 p n≤n+1:=by unfold O8;split <;> omega
    simp only;omega

def gS (T:List e8Sc):List Va→List Syn→List Va×Fa
 | V,[]=>(V,Mt)
 | V,t::r=>if (Hy T V t != 0) then ([],⟨t.pos,Hy T V t⟩) else gS T (V ++ [Ki T t]) r
theorem fX {T:List e8Sc}:∀(l:List Syn) (V:List Va),gS T V l=if ((K1 T V l).2.err != 0) then ([],(K1 T V l).2) else K1 T V l
  | [],V=>rfl
  | t::r,V=>by
    rw [gS,Kg];cases h:Hy T V t != 0 with
    | true=>rw [if_pos rfl,if_pos rfl];simp only;rw [h,if_pos rfl]
    | false=>rw [Bi rfl,Bi rfl];exact fX r _
theorem vaG_1 {T:List e8Sc}{t:Syn}(h:((gW T t).err != 0)=true):gS T [] (Hj (Bb t 1))=([],gW T t):=by rw [fX];exact if_pos h
theorem vaG_2 {T:List e8Sc}{t:Syn}(h:((gW T t).err != 0)=false):gS T [] (Hj (Bb t 1))=(Gq T t,gW T t):=by rw [fX];exact Bi h
section
variable {T:List e8Sc} {V:List Va} {l:List Syn} {k:Nat} {a:Syn}
theorem vV (ha:l[k]? = some a){e:Int}(h:Hy T V a=e)(he:e≠0):gS T V (l.drop k)=([],⟨a.pos,e⟩):=by
 subst h;rw [Ax ha,gS,if_pos (by simpa using he)]
theorem vg_on (ha:l[k]? = some a)(h:Hy T V a=0):gS T V (l.drop k)=gS T (V ++ [Ki T a]) (l.drop (k+1)):=by
 rw [Ax ha,gS,Bi (by rw [h];rfl)]
theorem ve_5 {n:Nat}(hn:V.length=n)(h:((n:Int)==16)=true):Hy T V a=5:=by subst hn;exact dec_1 h
theorem ve_8 {n:Nat}(hn:V.length=n)(h:((n:Int)==16)=false)(h2:decide (B4 (G8 T) a.text<0)=true):Hy T V a=8:=by subst hn;rw [dO] at h2;exact dec_2 h h2
theorem ve_7 {n:Nat}(hn:V.length=n)(h:((n:Int)==16)=false)(h2:decide (B4 (G8 T) a.text<0)=false)(h3:decide (0≤B4 (Fq V) a.name)=true):Hy T V a=7:=by subst hn;rw [dO] at h2;rw [Wm] at h3;exact dec_3 h h2 h3
theorem ve_0 {n:Nat}(hn:V.length=n)(h:((n:Int)==16)=false)(h2:decide (B4 (G8 T) a.text<0)=false)(h3:decide (0≤B4 (Fq V) a.name)=false):Hy T V a=0:=by subst hn;rw [dO] at h2;rw [Wm] at h3;exact dec_4 h h2 h3
theorem ve_v (h2:decide (B4 (G8 T) a.text<0)=false):(⟨a.name,B4 (G8 T) a.text⟩:Va)=Ki T a:=by
 rw [dO] at h2;rw [Ux (by simpa using h2)];rfl
end
theorem Zs {T:List e8Sc}:∀(l:List Syn) (V:List Va),((K1 T V l).2.err != 0)=false→(K1 T V l).1=V++l.map (Ki T)
  | [],V,_=>by rw [Di,Cm];rfl
  | t::r,V,h=>by
    rw [Kg] at h ⊢;cases hq:Hy T V t != 0 with
    | true=>rw [if_pos hq] at h;simp only at h;rw [hq] at h;cases h
    | false=>
      rw [Bi hq] at h;rw [Bi rfl,Zs r _ h,E7,J1];rfl
theorem aH {T:List e8Sc}:∀(l:List Syn) (V:List Va),(Fq V).Nodup→(Fq (K1 T V l).1).Nodup
  | [],V,h=>h
  | t::r,V,h=>by
    rw [Kg];cases hq:Hy T V t != 0 with
    | true=>rw [if_pos rfl];exact h
    | false=>
      rw [Bi rfl];refine aH r _ ?_;have h2:t.name∉Fq V:=by have:=(Ws hq).2.1;simpa using this
      show (List.map (·.name) (V ++ [Ki T t])).Nodup;rw [Tq];exact List.nodup_append.2 ⟨h,by simp,fun a ha b hb=>by rw [N6.1 hb];exact fun e=>h2 ((show a=t.name from e)▸ha)⟩
section
variable {T:List e8Sc} {V:List Va}
theorem yI {pre post:List Va}{v:Va}(hV:V=pre++v::post)(hn:(Fq V).Nodup):B4 (Fq V) v.name=(pre.length:Int)∧tyV V (pre.length:Int)=v.type∧(Fq V).contains v.name=true:=by
 subst hV;have hg:(pre++v::post)[pre.length]? = some v:=by rw [List.getElem?_append_right (C6 _),Nat.sub_self];rfl
 have hna:(Fq (pre++v::post))[pre.length]? = some v.name:=by rw [List.getElem?_map,hg];rfl
 have hm:(Fq (pre++v::post)).contains v.name=true:=by simp
 refine ⟨?_,?_,hm⟩
 ·
  unfold B4;rw [if_pos hm]
  have:(Fq (pre++v::post)).idxOf v.name=pre.length:=by
   have hnot:v.name∉Fq pre:=by
    intro h;rw [show Fq (pre++v::post)=Fq pre++Fq (v::post) from Tq ..] at hn;exact (List.nodup_append.1 hn).2.2 _ h _ (by simp) rfl
   rw [show Fq (pre++v::post)=Fq pre++v.name::Fq post by simp,List.idxOf_append,if_neg hnot];simp
  rw [this]
 exact yX (by rw [gK];exact hg)
theorem ev_pk (t:Syn):Hj t=(if (t.kind==5) then [t] else if (t.kind==10) then [Bb t 1] else [])++(C1 t).flatMap Hj:=by
  rw [M5];unfold C1;cases h5:t.kind==5 with
  | true=>rw [if_pos rfl,if_pos rfl,if_pos rfl];rfl
  | false=>
    rw [Bi rfl,Bi rfl,Bi rfl]
    have hH:qE t.kids=(t.kids.take 1).flatMap Hj:=by
      cases t.kids with
      | nil=>rw [qE];rfl
      | cons x r=>rw [qE];simp
    cases h10:t.kind==10 with
    | true=>rw [if_pos rfl,if_pos rfl,hH];rfl
    | false=>
      rw [Bi rfl,Bi rfl];cases h12:t.kind==12 with
      | true=>rw [if_pos rfl,hH];rfl
      | false=>rw [Bi rfl];rfl
theorem ptt_ref (hn:(Fq V).Nodup):∀t:Syn,Ba t .pats=0→∀(b:Int) (pre post:List Va),V=pre++(Hj t).map (Ki T)++post→Ih T V t ⟨pre.length,b⟩=((Nd (Mi T V t) b).1,⟨(pre.length:Int)+(Hj t).length,(Nd (Mi T V t) b).2⟩):=by
  intro t
  induction t using Syn.ind with
  | h t ih=>
    intro hc b pre post hV
    have key:∀l:List Syn,(∀a∈l,a∈C1 t)→∀(b:Int) (pre post:List Va),V=pre++(l.flatMap Hj).map (Ki T)++post→F0 T V l ⟨pre.length,b⟩=((G1 (l.map (Mi T V)) b).1,⟨(pre.length:Int)+(l.flatMap Hj).length,(G1 (l.map (Mi T V)) b).2⟩):=by
      intro l
      induction l with
      | nil=>intro _ b pre post _;rw [F0,Di,G1];simp
      | cons x r ih2=>
        intro hl b pre post hV;have hx:=ih x (Mx (hl x (by simp))) (Ue hc (hl x (by simp))) b pre ((r.flatMap Hj).map (Ki T)++post) (by rw [hV,bL,Tq];simp);have hr:=ih2 (fun a ha=>hl a (by simp [ha])) (Nd (Mi T V x) b).2 (pre++(Hj x).map (Ki T)) post (by rw [hV,bL,Tq];simp);rw [F0,hx];simp only;rw [Cb,D9,Int.natCast_add] at hr;rw [hr,E7,G1,bL,Cb];simp only [Int.natCast_add,Prod.mk.injEq,Nx.mk.injEq,and_true,true_and];omega
    have hr:=Lu hc;rw [eW,pZ,eM];have hpk:=key (C1 t) (fun a ha=>ha);rw [ev_pk] at hV ⊢;by_cases h5:t.kind=5
    · have e5:(t.kind==5)=true:=by simpa using h5
      have hp:C1 t = []:=xH e5;rw [hp] at hV ⊢;rw [if_pos e5] at hV ⊢;obtain ⟨m1,m2,m3⟩:=yI (v:=Ki T t) (pre:=pre) (post:=post) (by rw [hV];simp) hn;have hN:L4 T V t []=⟨0,[],M4 (G8 T) t.text,(pre.length:Int),0,0,H7 T V t⟩:=by rw [rn_5 e5,show B4 (Fq V) t.name=_ from m1,m2];rfl
      rw [Di,hN,F0,ptn_5 e5,nxn_5 e5];rfl
    · have e5:(t.kind==5)=false:=by simpa using h5
      rw [Bi e5] at hV ⊢;by_cases h10:t.kind=10
      · have e10:(t.kind==10)=true:=by simpa using h10
        rw [if_pos e10] at hV ⊢;obtain ⟨m1,m2,m3⟩:=yI (v:=Ki T (Bb t 1)) (pre:=pre) (post:=((C1 t).flatMap Hj).map (Ki T)++post) (by rw [hV];simp) hn;have hq:=hpk (b+1) (pre ++ [Ki T (Bb t 1)]) post (by rw [hV];simp);rw [Cb,K9,Int.natCast_add] at hq;have hN:∀xs,L4 T V t xs=⟨5,xs,M4 (G8 T) (Bb t 1).text,(pre.length:Int),0,0,H7 T V (Bb t 1)⟩:=fun xs=>by rw [Nt,rn_10 e5 e10,show B4 (Fq V) (Bb t 1).name=_ from m1,m2];rfl
        rw [nxn_10 e10];simp only;rw [show ((pre.length:Int)+((1:Nat):Int))=(pre.length:Int)+1 from rfl] at hq;rw [hq,hN,Rq,xI e5 e10];simp only [scoN,O8,M0,Lx,Cb,K9,Int.natCast_add,Prod.mk.injEq,Nx.mk.injEq,and_true,true_and];refine ⟨rfl,by omega,rfl⟩
      · have e10:(t.kind==10)=false:=by simpa using h10
        rw [Bi e10] at hV ⊢;rw [J4] at hV ⊢;by_cases h11:t.kind=11
        · have e11:(t.kind==11)=true:=by simpa using h11
          have hN:∀xs,L4 T V t xs=⟨6,xs,0,0,0,t.num,Ps⟩:=fun xs=>by rw [Nt,rn_11 h11]
          rw [zY e11];simp only;rw [hpk (b+1) pre post hV,hN,Rq,vG e5 e10 e11];rfl
        · have e11:(t.kind==11)=false:=by simpa using h11
          rw [zV e5 e10 e11,hpk b pre post hV];by_cases h12:t.kind=12
          · have hN:∀xs,L4 T V t xs=⟨7,xs,0,0,0,0,Ds T V (Bb t 1)⟩:=fun xs=>by rw [Nt,rn_12 h12]
            rw [hN,Rq,vX e5 e10 e11 (by simpa using h12)];rfl
          · have hk:t.kind=6∨t.kind=7∨t.kind=8∨t.kind=9:=by omega
            have hN:∀xs,L4 T V t xs=⟨t.kind-5,xs,0,0,0,0,Ps⟩:=fun xs=>by rw [Nt,wV rfl hk]
            rw [hN,Rq,ptn_o e5 e10 e11 (by simpa using h12)];rcases hk with hk | hk | hk | hk <;> rw [hk] <;> rfl
end
theorem pt_ref {T:List e8Sc}{t:Syn}(hc:Ba (Bb t 1) .pats=0)(h:((gW T t).err != 0)=false):(Nd (Mi T (Gq T t) (Bb t 1)) 0).1=ptR T t (Gq T t):=by
 have hV:=Zs (T:=T) (Hj (Bb t 1)) [] h;have:=ptt_ref (T:=T) (V:=Gq T t) (aH _ [] List.nodup_nil) (Bb t 1) hc 0 [] [] (by rw [Cm];exact hV);exact (congrArg Prod.fst this).symm
theorem ev_has {T:List e8Sc}{t:Syn}(h:((gW T t).err != 0)=false):∀e∈Hj (Bb t 1),(Fq (Gq T t)).contains e.name=true:=fun e he=>by
 have hV:Gq T t = []++(Hj (Bb t 1)).map (Ki T):=Zs (T:=T) (Hj (Bb t 1)) [] h;rw [hV];simp only [J4,List.map_map,List.contains_eq_mem,Hi];exact M9.2 ⟨e,he,rfl⟩
section
variable {T:List e8Sc} {V:List Va}
theorem lD:∀t:Syn,Gr (Mi T V t)≤Fk t:=by
  intro t
  induction t using Syn.ind with
  | h t ih=>
    rw [kC,Ix,E1];simp only
    have:∀l:List Syn,(∀a∈l,a∈C1 t)→((l.map (Mi T V)).map Gr).sum≤E8 l:=by
      intro l
      induction l with
      | nil=>intro _;exact Dh _
      | cons x r ih2=>intro h;rw [E7,E7,J3,Gn];have:=ih x (Mx (h x (by simp)));have:=ih2 fun a ha=>h a (by simp [ha]);omega
    have h1:=this (C1 t) fun a ha=>ha
    have h2:=T3 t;omega
end
def vqR (T:List e8Sc)(t:Syn):List Va:=if ((gW T t).err != 0) then [] else Gq T t
theorem va_v (T:List e8Sc)(t:Syn):(gS T [] (Hj (Bb t 1))).1=vqR T t:=by
 unfold vqR;cases h:(gW T t).err != 0 with
 | true=>rw [vaG_1 h];rfl
 | false=>rw [vaG_2 h];rfl
theorem va_f (T:List e8Sc)(t:Syn):(gS T [] (Hj (Bb t 1))).2=gW T t:=by
 cases h:(gW T t).err != 0 with
 | true=>rw [vaG_1 h]
 | false=>rw [vaG_2 h]
section
variable {T:List e8Sc} {V:List Va} {t:Syn}
theorem QryOK.look (h:QryOK t):Hn T V t=Mt:=fJ (by rw [h.kind];rfl)
theorem QryOK.key (h:QryOK t):D0 T V (Bb t 0)=Mt:=by
 have hk:=(Fj h.c (Cp (k:=0) (by have:=h.len;omega))).1;unfold Eh at hk;rw [h.kind,if_neg (by decide),if_neg (by decide),if_pos (by decide),if_pos (by decide)] at hk;have hh:=Gg (Gk hk).1;have h4:=E5 hh.1;have hs:=hh.2.1;unfold En at hs;rw [h4] at hs;have hz:(Bb t 0).kids = []:=by simp at hs;exact hs
 rw [Vr (by rw [fJ (by rw [h4];rfl)];rfl),hz];rfl
theorem QryOK.ret (h:QryOK t){k:Nat}{a:Syn}(ha:t.kids[k+2]? = some a):Ba a .exps=0:=by
 have hk:=(Fj h.c ha).1;unfold Eh at hk;rw [h.kind,if_neg (by decide),if_neg (by decide),if_pos (by decide),if_neg (by simp;omega),if_neg (by simp;omega)] at hk;exact hk
theorem any_one {f:Syn→Bool}(hl:0<t.kids.length)(h:f (Bb t 0)=false):(t.kids.take 1).any f=false:=by
 rw [C2 (k:=0) (Cp hl)];simp [h]
theorem qw_hit (hq:QryOK t){k:Nat}{a:Syn}(ha:t.kids[k]? = some a)(hn:(t.kids.take k).any (fun x=>(D0 T V x).err != 0)=false)(h:((D0 T V a).err != 0)=true):D0 T V t=D0 T V a:=
 (Vr (by rw [hq.look];rfl)).trans (Rh ha hn h)
theorem qw_no (hq:QryOK t)(hn:t.kids.any (fun x=>(D0 T V x).err != 0)=false):D0 T V t=Mt:=(Vr (by rw [hq.look];rfl)).trans (Nz hn)
end
def Hl (T:List e8Sc):List Qy→List Syn→List Qy×Fa
  | qs,[]=>(qs,Mt)
  | qs,k::r=>
    if ((qs.length:Int)==16) then ([],⟨k.pos,5⟩)
    else if (qs.map (·.name)).contains k.text then ([],⟨k.pos,7⟩)
    else if ((C0 T k).2.err != 0) then ([],(C0 T k).2)
    else Hl T (qs ++ [(C0 T k).1]) r
section
variable {T:List e8Sc} {qs:List Qy} {l:List Syn} {k:Nat} {a:Syn}
theorem pgf_5 (ha:l[k]? = some a)(h2:((qs.length:Int)==16)=true):Hl T qs (l.drop k)=([],⟨a.pos,5⟩):=by rw [Ax ha,Hl,if_pos h2]
theorem pgf_7 (ha:l[k]? = some a)(h2:((qs.length:Int)==16)=false)(h3:(qs.map (·.name)).contains a.text=true):Hl T qs (l.drop k)=([],⟨a.pos,7⟩):=by rw [Ax ha,Hl,Bi h2,if_pos h3]
theorem pgf_f (ha:l[k]? = some a)(h2:((qs.length:Int)==16)=false)(h3:(qs.map (·.name)).contains a.text=false)(h4:((C0 T a).2.err != 0)=true):Hl T qs (l.drop k)=([],(C0 T a).2):=by rw [Ax ha,Hl,Bi h2,Bi h3,if_pos h4]
theorem pgf_on (ha:l[k]? = some a)(h2:((qs.length:Int)==16)=false)(h3:(qs.map (·.name)).contains a.text=false)(h4:((C0 T a).2.err != 0)=false):Hl T qs (l.drop k)=Hl T (qs ++ [(C0 T a).1]) (l.drop (k+1)):=by rw [Ax ha,Hl,Bi h2,Bi h3,Bi h4]
theorem Uc:∀(l:List Syn) (out:List e8Sc),((Cq out l).2.err != 0)=false→(Cq out l).1.length≤out.length+l.length∧∀j,out.length+j<(Cq out l).1.length→∃a,l[j]? = some a∧a.kind=1
  | [],out,_=>by
    refine ⟨C6 _,fun j h=>?_⟩;have h':out.length+j<out.length:=h;omega
  | k::r,out,h=>by
    rw [Cq] at h ⊢;split
    · rename_i h1
      rw [if_pos h1] at h;split
      · rename_i h2;rw [if_pos h2] at h;cases h
      · rename_i h2
        rw [if_neg h2] at h;split
        · rename_i h3;rw [if_pos h3] at h;cases h
        · rename_i h3
          rw [if_neg h3] at h;split
          · rename_i h4;rw [if_pos h4] at h;simp only at h;rw [h4] at h;cases h
          · rename_i h4
            rw [if_neg h4] at h;have ih:=Uc r _ h;rw [Cb,K9] at ih;refine ⟨by rw [Cj];have:=ih.1;omega,fun j hj=>?_⟩;cases j with
            | zero=>exact ⟨k,rfl,by simpa using h1⟩
            | succ j=>exact ih.2 j (by omega)
    · refine ⟨Nat.le_add_right _ _,fun j h=>?_⟩
      have h':out.length+j<out.length:=h;omega
theorem Zy:∀(l:List Syn) (out:List e8Sc),((Cq out l).2.err != 0)=false→∀a,l[(Cq out l).1.length-out.length]? = some a→a.kind≠1
  | [],out,_,a,ha=>by simp at ha
  | k::r,out,h,a,ha=>by
    have hle:=Uc (k::r) out h;rw [Cq] at h ha hle;by_cases h1:(k.kind==1)=true
    · rw [if_pos h1] at h ha hle
      by_cases h2:((out.length:Int)==16)=true
      · rw [if_pos h2] at h;cases h
      · rw [if_neg h2] at h ha hle
        by_cases h3:(G8 out).contains k.text=true
        · rw [if_pos h3] at h;cases h
        · rw [if_neg h3] at h ha hle
          by_cases h4:((Em [] k.kids).2.err != 0)=true
          · rw [if_pos h4] at h;simp only at h;rw [h4] at h;cases h
          · rw [if_neg h4] at h ha hle
            have h6:=Uc r _ h;have h7:out.length+1≤(Cq (out ++ [⟨k.text,(Em [] k.kids).1⟩]) r).1.length:=typF_mono r _ h |> fun x=>by simpa using x
            refine Zy r _ h a ?_;rw [Cb,K9];rw [show (Cq (out ++ [⟨k.text,(Em [] k.kids).1⟩]) r).1.length-out.length=((Cq (out ++ [⟨k.text,(Em [] k.kids).1⟩]) r).1.length-(out.length+1))+1 by omega,List.getElem?_cons_succ] at ha;exact ha
    · rw [if_neg h1] at ha
      simp only [Nat.sub_self,List.getElem?_cons_zero] at ha;cases ha
      simpa using h1
where typF_mono:∀(l:List Syn) (out:List e8Sc),((Cq out l).2.err != 0)=false→out.length≤(Cq out l).1.length
  | [],out,_=>C6 _
  | k::r,out,h=>by
    rw [Cq] at h ⊢;split
    · rename_i h1
      rw [if_pos h1] at h;split
      · rename_i h2;rw [if_pos h2] at h;cases h
      · rename_i h2
        rw [if_neg h2] at h;split
        · rename_i h3;rw [if_pos h3] at h;cases h
        · rename_i h3
          rw [if_neg h3] at h;split
          · rename_i h4;rw [if_pos h4] at h;simp only at h;rw [h4] at h;cases h
          · rename_i h4
            rw [if_neg h4] at h;have:=typF_mono r _ h;rw [Cb,K9] at this;omega
    exact C6 _
end
theorem Yd {t:Syn}(hc:Ba t (.only 0)=0)(he:((C8 t).2.err != 0)=false)(T:List e8Sc):Hl T [] (t.kids.drop (C8 t).1.length)=Fm T [] t.kids:=by
  have hk:=E5 (Gg (Gk hc).1).1
  have hkid:∀(j:Nat) (a:Syn),t.kids[j]? = some a→a.kind=1∨a.kind=3:=fun j a ha=>by
    have h:=(Fj hc ha).2;unfold Eh at h;rw [hk,if_pos (by decide)] at h;split at h <;> · have:=E5 h;omega
  have hnext:∀(j:Nat) (a b:Syn),t.kids[j]? = some a→t.kids[j+1]? = some b→a.kind≠1→b.kind≠1:=fun j a b ha hb hne he=>by
    have h:=(Fj hc hb).2;unfold Eh at h;rw [hk,if_pos (by decide)] at h;have hj:Bb t (j+1-1)=a:=by unfold Bb;rw [Nat.add_sub_cancel,Nv,ha];rfl
    rw [hj] at h;rw [if_neg (by simp;intro _;exact ⟨by omega,hne⟩)] at h;have:=E5 h;omega
  rw [←fG hc] at he ⊢;obtain ⟨h1,h2⟩:=Uc t.kids [] he;have h3:=Zy t.kids [] he;simp only [Cw,Nat.sub_zero,Ie] at h1 h2 h3;generalize (Cq [] t.kids).1.length=n at h1 h2 h3
  have front:∀m,m≤n→Fm T [] t.kids=Fm T [] (t.kids.drop m):=by
    intro m
    induction m with
    | zero=>intro _;rfl
    | succ m ih=>
      intro hm;obtain ⟨a,ha,hk1⟩:=h2 m (by omega);rw [ih (by omega),kO ha (by rw [hk1];rfl)]
  rw [front n (C6 _)]
  have back:∀(m k:Nat) (qs:List Qy),m=t.kids.length-k→(∀a,t.kids[k]? = some a→a.kind≠1)→Hl T qs (t.kids.drop k)=Fm T qs (t.kids.drop k):=by
    intro m
    induction m with
    | zero=>intro k qs hm _;rw [O7 (by omega),Fm,Hl]
    | succ m ih=>
      intro k qs hm hne;have hl:k<t.kids.length:=by omega
      have ha:=List.getElem?_eq_getElem hl;have h1:=hne _ ha;have e3:(t.kids[k].kind != 3)=false:=by have:=hkid k _ ha;simp;omega
      have hn2:∀a,t.kids[k+1]? = some a→a.kind≠1:=fun b hb=>hnext k _ b ha hb h1
      rw [Ax ha,Hl,Fm,Bi e3];by_cases c1:((qs.length:Int)==16)=true
      · rw [if_pos c1,if_pos c1]
      · rw [if_neg c1,if_neg c1]
        by_cases c2:(qs.map (·.name)).contains t.kids[k].text=true
        · rw [if_pos c2,if_pos c2]
        · rw [if_neg c2,if_neg c2]
          by_cases c3:((C0 T t.kids[k]).2.err != 0)=true
          · rw [if_pos c3,if_pos c3]
          · rw [if_neg c3,if_neg c3]
            exact ih (k+1) _ (by omega) hn2
  exact back _ n [] rfl h3
theorem typQ_eq {t:Syn}(h:((Bh t (.only 0)).2 != 0)=false):nW t=X6 t:=by
 rw [tD h rfl,tp_2 h,fG (G4 h)]
theorem wB (t:Syn):nW t=X6 t:=by
 cases h:(Bh t (.only 0)).2 != 0 with
 | true=>rw [tq_1 h,tp_1 h]
 | false=>exact typQ_eq h
structure medQ (q:Qy):Prop where
 v:q.vars.length≤1048576
 k:q.key.length≤1048576
 r:q.returns.length≤1048576
 p:medP q.pattern
 e:∀e∈q.returns,Cg e≤1048576
theorem med_pt0:medP pt0:=⟨by decide,fun q hq=>by
 rw [Rm] at hq;rcases Hp.1 hq with rfl | h
 · decide
 cases h⟩
theorem gQ:medQ aV:=⟨by decide,by decide,by decide,med_pt0,fun e h=>by cases h⟩
theorem iS {T:List e8Sc}{n:A1}:∀(l:List Va) (out:List Int),(W0 T n l out).1.length≤out.length
  | [],out=>C6 _
  | v::r,out=>by
    rw [W0];split
    · exact Dh _
    · have:=iS (T:=T) (n:=n) r (out.set v.type.toNat (Gj ((T[v.type.toNat]?).getD sc0) n))
      rw [List.length_set] at this;exact this
theorem pY {T:List e8Sc}{t:Syn}(hT:TsOK T)(ht:QryOK t):medQ (C0 T t).1:=by
 have hz:∀(c:Bool) (f:Fa) (x:Qy×Fa),medQ x.1→medQ (if c then (aV,f) else x).1:=fun c f x h=>by
  cases c with
  | true=>exact gQ
  | false=>exact h
 refine hz _ _ _ ?_;refine hz _ _ _ ?_;refine hz _ _ _ ?_;refine hz _ _ _ ?_;refine hz _ _ _ ?_;have hrv:=mP hT (Hj (Bb t 1));refine ⟨hrv.vl,?_,?_,fD ht.med1 ht.pat _,fun e he=>?_⟩
 ·
  show (eZ T t (Gq T t)).1.length≤_;unfold eZ;split
  ·
   have h:=iS (T:=T) (n:=(Bb t 0).text) (Gq T t) (List.replicate T.length (-1));rw [gB] at h;exact Lq h hT.tl
  exact Dh _
 ·
  show ((t.kids.drop 2).map (Ds T (Gq T t))).length≤_;rw [D9,Jf];have:=E3 ht.m;omega
 obtain ⟨x,hx,rfl⟩:=M9.1 (show e∈(t.kids.drop 2).map (Ds T (Gq T t)) from he);have h1:=N7 (T:=T) (V:=Gq T t) x;have h2:=He (C4 ht.m (List.mem_of_mem_drop hx));omega
theorem qp_med {T:List e8Sc}{t:Syn}(hm:Es t):medQ (Pu T t).1:=by
 unfold Pu;split
 · exact gQ
 rename_i h1;split
 · exact gQ
 rename_i h2;exact pY (nT (by simpa using h1)) ⟨hm,G4 (by simpa using h2)⟩
structure medG (p:Pg):Prop where
 t:p.types.length≤1048576
 f:∀s∈p.types,s.fields.length≤1048576
 q:p.queries.length≤1048576
 m:∀q∈p.queries,medQ q
theorem Vz {T:List e8Sc}(hT:TsOK T):∀(l:List Syn) (qs:List Qy),(∀a∈l,a.kind=3→QryOK a)→qs.length≤16→(∀q∈qs,medQ q)→(Fm T qs l).1.length≤16∧∀q∈(Fm T qs l).1,medQ q
  | [],qs,_,h1,h2=>⟨h1,h2⟩
  | k::r,qs,hl,h1,h2=>by
    rw [Fm];split
    · exact Vz hT r qs (fun a ha=>hl a (by simp [ha])) h1 h2
    · rename_i hk
      split
      · exact ⟨Dh _,fun q h=>by cases h⟩
      · rename_i h3
        split
        · exact ⟨Dh _,fun q h=>by cases h⟩
        · split
          · exact ⟨Dh _,fun q h=>by cases h⟩
          · refine Vz hT r _ (fun a ha=>hl a (by simp [ha])) (by rw [Cb,K9];exact Yu h1 (by simpa using h3)) fun q hq=>?_
            rcases Wq.1 hq with hq | hq
            · exact h2 q hq
            rw [N6.1 hq];exact pY hT (hl k (by simp) (by simpa using hk))
theorem prg_med {t:Syn}(ht:Es t):medG (Tf t).1:=by
 have hz:medG pg0:=⟨by decide,fun s h=>(aM h).elim,by decide,fun q h=>(aM h).elim⟩;unfold Tf;split
 · exact hz
 rename_i h1;split
 · exact hz
 unfold wU;split
 · exact hz
 have hk:=aR t
 have h:=Vz (nX t) t.kids [] (fun a ha h3=>by
  obtain ⟨j,hj⟩:=lI.1 ha;exact ⟨C4 ht ha,Wv (G4 (by simpa using h1)) hj h3⟩) (Dh _) (fun q h=>by cases h)
 exact ⟨by have:=hk.1;simp only;omega,fun s hs=>by have:=hk.2.1 s hs;omega,by have:=h.1;simp only;omega,h.2⟩
set_option maxHeartbeats 800000
set_option maxRecDepth 20000

theorem Ms  : An Tryz.prog 101 [] (.agg (Pz Mt)):=by
 refine An.body (n:=2) tok Tryz.func101 rfl rfl rfl fun H=>?_
 refine Ad (Dt bC fun b0=>Bs (Qp (Du Ga) ?_));refine Bt 0 Ga (_::_) (Rb ?_);refine ⟨.inr rfl,[.agg Ga],.cons (.box _ _ _ 0 _ _ _ _ rfl rfl rfl rfl rfl rfl) <| .nil,.cons _ (.refl _),?_⟩;rfl
theorem Aab  : An Tryz.prog 195 [] (.agg (cE P9)):=by
 refine An.body (n:=3) tok Tryz.func195 rfl rfl rfl fun H=>?_
 refine Ad (Dt oB fun b0=>Bs (Qp (Du J2) (Qp (Du Ft) ?_)));refine Bt 0 Ft (_::_) (Rb ?_);refine ⟨.inr rfl,[.agg Ft],.cons (.box _ _ _ 0 _ _ _ _ rfl rfl rfl rfl rfl rfl) <| .nil,.cons _ (.refl _),?_⟩;rfl
theorem jN (t:Syn):An Tryz.prog 173 [.agg (cSyn t)] (.agg (cV (Wo t))):=by
 refine An.body (n:=18) tok Tryz.func173 rfl rfl rfl fun H=>?_
 refine Ad (Qp (Ed Aq) (Dt [.int .i64 0,.int .i64 0,.str []] fun b2=>Ae (Rd (Qp (Qf Po) (Qp C9 (Ae (AW.block (Ad ?_))))))));refine Qp (A4 rfl rfl) (Qp Au (Ae (Ao (fun hc1=>Ad (Qp (Qf J8) (Qp Bf (Qp (Du J2) ?_)))) fun hc1=>Ad (Qp (A4 rfl rfl) (Qp Au (Ae (Ao (fun hc2=>Ad (Qp (Qf Ik) (Qp C9 (Qp (Du J2) ?_)))) fun hc2=>Rf (Ad (Qp (Qf J8) (Qp Bf (Qp (Du J2) ?_)))))))))))
 ·
  refine Bt 0 J2 (_::_) (Ra ?_);refine ⟨.inr rfl,[.agg J2],.cons (.box _ _ _ 0 _ _ _ _ rfl rfl rfl rfl rfl rfl) <| .nil,.cons _ (.refl _),?_⟩;simp only [Ag,Wo,hc1,↓reduceIte,B0];rfl
 ·
  refine Bt 0 J2 (_::_) (Ra ?_);refine ⟨.inr rfl,[.agg J2],.cons (.box _ _ _ 0 _ _ _ _ rfl rfl rfl rfl rfl rfl) <| .nil,.cons _ (.refl _),?_⟩;simp only [Ag,Wo,hc1,hc2,↓reduceIte,B0];rfl
 refine Bt 0 J2 (_::_) (Rb ?_);refine ⟨.inr rfl,[.agg J2],.cons (.box _ _ _ 0 _ _ _ _ rfl rfl rfl rfl rfl rfl) <| .nil,.cons _ (.refl _),?_⟩;simp only [Ag,Wo,hc1,hc2,↓reduceIte,B0];rfl
theorem rf_pos1 (f:Fi)(n:A1):An Tryz.prog 234 [.agg (lY f),.ptr [.str n]] (.bool (f.name==n)):=by
 refine An.body (n:=8) tok Tryz.func234 rfl rfl rfl fun H=>?_
 refine Ad (Qp (Ed H6) (Qp Au (Bs (Qp (Qf H6) (Qp C9 (Qp C9 (Qp (A4 rfl rfl) (Qp Au (Rb (Qr (.bool _) ?_))))))))));rfl
theorem rf_index (l:List Fi)(hl:l.length≤1048576)(K:FuncId)(hK:Tm Tryz.prog K=true)(cs:List AV)(p:Fi→Bool)(hf:∀a∈l,An Tryz.prog K (.agg (lY a)::cs) (.bool (p a))):An Tryz.prog 146 [.sl 2 (l.map lY),.fn (.func K) [] cs] (.int .i64 (bQ p l)):=by
 refine An.body (n:=19) tok Tryz.func146 rfl rfl rfl fun H=>?_
 refine Ad (Qp Al (Ae (Rd (Qp Fh ?_))));refine Qp (Ai (n:=l.length) tok rfl rfl rfl (by simp)) ?_;refine Qp Am (Ae (AW.block ?_));refine AW.Aam (fun (k:Nat)=>(⟨[(0,.sl 2 (l.map lY)),(1,.fn (.func K) [] cs),(6,.sl 2 (l.map lY)),(7,.int .i64 l.length),(8,.int .i64 (k:Int))],H,19⟩:St)) (fun k=>k≤l.length∧(l.take k).any p=false) (fun k=>l.length-k) (0) ?_ Bv ?_
 · exact ⟨Dh _,by simp⟩
 rintro k hR;refine Ad (Qp Bp (Re (Ao (fun hc1=>?_) fun hc1=>?_)))
 ·
  obtain ⟨a,ha⟩:=By hc1;have hlt:=Bj ha;have hm:=B6 ha;refine A7 (AW.seq (AW.block (Ad (Qp Am (Qp Al (Bs (Qp (A0 (v:=.fn _ _ _) rfl) (Qp Fh (Qp Am ?_)))))))));refine Qp (Aa (c:=H6) tok rfl rfl rfl rfl rfl rfl (by omega) (Ct ha)) ?_;refine Qp (Bo H6) (Qp (Om hK rfl rfl rfl (hf a (B6 ha))) (Ae (Ao (fun hc2=>Ad (Qp Am (Qp Al (Ra (Av (B9 (Av (Qr (Iq _) ?_)))))))) fun hc2=>Rf (AW.region (Qp Dl (Qp Am (Ae ?_)))))))
  · exact Eq.trans rfl (congrArg (fun q:Int=>AV.int .i64 q) (lB ha hR.2 hc2)).symm
  refine ⟨k+1,?_,?_,Bv⟩
  · exact ⟨hlt,Gu hR.2 ha hc2⟩
  omega
 have hte:=Cn hc1;have hall:=hR.2;rw [hte] at hall;refine AW.exit ?_;refine Bk (Ri (Ad (Qp Al (Rb ?_))));refine Qr (Iq _) ?_;exact Eq.trans rfl (congrArg (fun q:Int=>AV.int .i64 q) (dC hall)).symm
theorem Mu (s:e8Sc)(hs:s.fields.length≤1048576)(n:A1):An Tryz.prog 168 [.agg (F1 s),.str n] (.int .i64 (Gj s n)):=by
 refine An.body (n:=9) tok Tryz.func168 rfl rfl rfl fun H=>?_
 refine Ad (Qp (Ed Ji) (Qp (Ts (v:=.str _) (cs:=[.str _]) rfl rfl rfl) (Qp Al (Bs (Qp (Qf [_]) (Qp B7 (Qp (B1 (l:=[]) (l':=[.ptr _]) rfl rfl) ?_)))))));refine Qp (Qc rfl (rf_index s.fields hs 234 (by kernel_rfl) [.ptr [.str n]] (fun f=>f.name==n) (fun a _=>rf_pos1 a n))) ?_;refine Qp Al (Rb (Qr (Iq _) ?_));exact Eq.trans rfl (congrArg (fun q:Int=>AV.int .i64 q) (Zr (fun f:Fi=>f.name) n s.fields))
theorem rf_each (bp TT:Nat)(cs:List AV)(l:List Syn)(hl:l.length≤1048576)(K:FuncId)(hK:Tm Tryz.prog K=true)(fs:List AV)(f:Syn→Fa)(hf:∀a∈l,Bl Tryz.prog K bp TT cs cs (fs ++ [.agg (cSyn a)]) (.agg (Pz (f a)))):Bl Tryz.prog 94 bp TT cs cs [.sl 6 (l.map Cr),.fn (.func K) fs []] (.agg (Pz (La f l))):=by
 intro H;refine B5.body (n:=23) tok Tryz.func94 rfl rfl rfl ?_;refine Ad (Dt bC fun b4=>Ae (Rd (Qp Fh ?_)));refine Qp (Ai (n:=l.length) tok rfl rfl rfl (by simp)) ?_;refine Qp Am (Ae (AW.block ?_));refine AW.Aam (fun (k:Nat)=>(⟨[(0,.sl 6 (l.map Cr)),(1,.fn (.func K) fs []),(4,.val (.pointer (some ⟨b4,0,none⟩))),(8,.sl 6 (l.map Cr)),(9,.int .i64 l.length),(10,.int .i64 (k:Int))],.box b4 94 bC :: .box bp TT cs::H,23⟩:St)) (fun k=>k≤l.length∧(l.take k).any (fun x=>(f x).err != 0)=false) (fun k=>l.length-k) (0) ?_ Bv ?_
 · exact ⟨Dh _,by simp⟩
 rintro k hR;refine Ad (Qp Bp (Re (Ao (fun hc1=>?_) fun hc1=>?_)))
 ·
  obtain ⟨a,ha⟩:=By hc1;have hlt:=Bj ha;have hm:=B6 ha;refine A7 (AW.seq (AW.block (Ad ?_)));refine Qp (Aa (c:=Aq) tok rfl rfl rfl rfl rfl rfl (by omega) (Bz ha)) ?_;refine Qp (Bo Aq) (Dt L7 fun b6=>?_);refine Bt 0 Aq (_::_::_::_) ?_;refine AOL.ghost (GS.freeze (t:=6) 0 rfl rfl) ?_;refine Bs (Qp (A0 (v:=.fn _ _ _) rfl) (Qp (Bo Aq) (Rt (Jo hK rfl rfl (Cm _) ((hf a hm).at (k:=1) (H2:=_::_::_) rfl rfl)) (Dt bC fun b7=>?_))));refine Bt 0 Ga (_::_::_::_) ?_;refine AOL.ghost (GS.freeze (t:=7) 0 rfl rfl) ?_;refine Bs (Qp (Qf [Iq _]) (Qp Bf (Qp Bu (Ae (Ao (fun hc2=>Ad (Qp (Bo Ga) ?_)) fun hc2=>Rf (AW.region (Qp Dl (Qp Am (Ae ?_)))))))))
  ·
   refine Bt 0 Ga (_::_::_) (Ra (Av (B9 (Av ?_))));refine ⟨.inr rfl,[.agg Ga],.cons (.box _ _ _ 0 _ _ _ _ rfl rfl rfl rfl rfl rfl) <| .nil,_,.cons _ (.refl _),?_⟩;exact ⟨Eq.trans rfl (congrArg (fun q:Fa=>AV.agg (Pz q)) (Rh ha hR.2 hc2)).symm,rfl⟩
  refine ⟨k+1,?_,?_,Bv⟩
  · exact ⟨hlt,Gu hR.2 ha hc2⟩
  omega
 have hte:=Cn hc1;have hall:=hR.2;rw [hte] at hall;refine AW.exit ?_;refine Bk (Ri (Ad ?_));refine Qp (Qc rfl (Ms)) ?_;refine Bt 0 Ga (_::_::_) (Rb ?_);refine ⟨.inr rfl,[.agg Ga],.cons (.box _ _ _ 0 _ _ _ _ rfl rfl rfl rfl rfl rfl) <| .nil,_,.cons _ (.refl _),?_⟩;exact ⟨Eq.trans rfl (congrArg (fun q:Fa=>AV.agg (Pz q)) (Nz hall)).symm,rfl⟩
set_option maxHeartbeats 1600000
set_option maxRecDepth 20000

theorem rf_look (T:List e8Sc)(V:List Va)(s:Nx)(bp:Nat)(hrv:RvOK T V)(t:Syn)(ht:Es t):Bl Tryz.prog 169 bp 159 (Vs T V s) (Vs T V s) [.val (.pointer (some ⟨bp,0,none⟩)),.agg (cSyn t)] (.agg (Pz (Hn T V t))):=by
 intro H;refine B5.body (n:=72) tok Tryz.func169 rfl rfl rfl ?_;refine Ad (Qp (Ed Aq) (Dt bC fun b4=>Ae (Rd (Qp (Qf Aq) (Qp Bf (Qp Bu (Qp A9 (Qg [] Qw (Qf Aq) (Qg [(11,_)] Qw Bf (Qg [(12,_)] Qw Bu ?_))))))))));refine Qp Ea (Qp A9 (Qg [] Qw (Qf Aq) (Qg [(16,_)] Qw Bf (Qg [(17,_)] Qw Bu (Qp Ea (Ae (Ao (fun hc1=>Ad (Qp (Qc rfl (Ms)) ?_)) fun hc1=>A7 (AW.seq ?_))))))))
 ·
  refine Bt 0 Ga (_::_::_) (Rc ?_);refine ⟨.inr rfl,[.agg Ga],.cons (.box _ _ _ 0 _ _ _ _ rfl rfl rfl rfl rfl rfl) <| .nil,_,.cons _ (.refl _),?_⟩;exact ⟨Eq.trans rfl (congrArg (fun q:Fa=>AV.agg (Pz q)) (fJ hc1)).symm,rfl⟩
 refine AW.draw mixed (fun H'=>_∈H') (B6 (i:=1) rfl) (by kernel_rfl) ?_;refine Qn 0 rfl Bw (Qn 1 rfl (Aj rfl) (Qn 2 rfl Cc (Qn 3 rfl (OpP.Aap (fun k=>Af (k:=k) (c:=.smapv _) tok rfl rfl rfl rfl) (fun _ h=>h)) ?_)));refine Qn 4 rfl (Qf Ik) (Qn 5 rfl C9 ?_);refine Qn 6 rfl (aI (es:=M3 (Fq V)) tok rfl rfl rfl rfl rfl (by kernel_rfl) rfl rfl (Rg _ _ rfl) (oL _ _)) ?_;refine Qn 7 rfl Lm (Qn 8 rfl Ib (Qn 9 rfl gX (Qn 10 rfl Al (Qn 11 rfl Au ?_))));refine Ej ?_;refine A5 (Rd (Qp A9 (Qp Ew (Ae (Ao (fun hc2=>Ad (Qp (Qf [Iq _]) (Qp Bf (Qp (Du Ga) ?_)))) fun hc2=>?_)))))
 ·
  refine Bt 0 Ga (_::_::_) (Rc ?_);refine ⟨.inr rfl,[.agg Ga],.cons (.box _ _ _ 0 _ _ _ _ rfl rfl rfl rfl rfl rfl) <| .nil,_,.cons _ (.refl _),?_⟩;exact ⟨Eq.trans rfl (congrArg (fun q:Fa=>AV.agg (Pz q)) (look_2 hc1 hc2)).symm,rfl⟩
 have hct:(Fq V).contains t.text=true:=by simpa using hc2
 refine (fF hct).elim fun va hva=>?_
 have hix:=Ka hct;have hix2:=hix.2;rw [D9] at hix2;have hvm:=B6 hva;have hvt:=hrv.ty va hvm;refine (Rr hrv hvm).elim fun sc hsc=>?_
 have hsr:=gF hva hsc;have hfl:=hrv.fl sc (B6 hsc);refine A7 (Rd (Qp (Qf Aq) (Qp Bf (Qp Ap (Qp A9 (Qg [] Qw (Qf Aq) (Qg [(40,_)] Qw Bf (Qg [(41,_)] Qw Ap (Qg [(42,_)] Qw A9 (Qg [] Qw (Qf Po) (Qg [(44,_)] Qw C9 (AOL.Aal (y:=.bool _) _ [(45,_)] rfl (uB.all ⟨Ent.Aak _ _,trivial⟩) (fun hG=>A4 rfl rfl) rfl ?_))))))))))));refine Qg [(43,_),(46,_)] Qw Ea (Qp Cf (Ae (Ao (fun hc3=>Ad (Qp (Qc rfl (Ms)) ?_)) fun hc3=>A7 (AW.seq (AW.seq ?_)))))
 ·
  refine Bt 0 Ga (_::_::_) (Rc ?_);refine ⟨.inr rfl,[.agg Ga],.cons (.box _ _ _ 0 _ _ _ _ rfl rfl rfl rfl rfl rfl) <| .nil,_,.cons _ (.refl _),?_⟩;exact ⟨Eq.trans rfl (congrArg (fun q:Fa=>AV.agg (Pz q)) (mC hc1 hc2 hc3)).symm,rfl⟩
 refine AW.draw mixed (fun H'=>_∈H') (B6 (i:=1) rfl) (by kernel_rfl) ?_;refine Qn 0 rfl Bw (Qn 1 rfl (Aj rfl) (Qn 2 rfl Cc (Qn 3 rfl (OpP.Aap (fun k=>Af (k:=k) (c:=.sl _ _) tok rfl rfl rfl rfl) (fun _ h=>h)) ?_)));refine Qn 4 rfl Bw (Qn 5 rfl (Aj rfl) (Qn 6 rfl Cc (Qn 7 rfl (OpP.Aap (fun k=>Af (k:=k) (c:=.sl _ _) tok rfl rfl rfl rfl) (fun _ h=>h)) ?_)));refine Qn 8 rfl Am (Qn 9 rfl (Aa (c:=H6) tok rfl rfl rfl rfl rfl rfl (hix.1) (Ct hva)) (Qn 10 rfl (Qf [Iq _]) (Qn 11 rfl Bf (Qn 12 rfl (Aa (c:=Ji) tok rfl rfl rfl rfl rfl rfl (hvt.1) (Ct hsc)) (Qn 13 rfl (Bo Ji) (Qn 14 rfl (Qf Po) (Qn 15 rfl C9 (Qn 16 rfl (Qc rfl (Mu sc hfl t.name)) (Qn 17 rfl Bp ?_)))))))));refine Ej ?_;refine A5 (Ao (fun hc4=>Ad (Qp (Qf [Iq _]) (Qp Bf (Qp (Du Ga) ?_)))) fun hc4=>A7 (Ad (Qp (Qc rfl (Ms)) ?_)))
 ·
  refine Bt 0 Ga (_::_::_) (Rc ?_);refine ⟨.inr rfl,[.agg Ga],.cons (.box _ _ _ 0 _ _ _ _ rfl rfl rfl rfl rfl rfl) <| .nil,_,.cons _ (.refl _),?_⟩;exact ⟨Eq.trans rfl (congrArg (fun q:Fa=>AV.agg (Pz q)) (wW hc1 hc2 hc3 (by rw [hsr];exact hc4))).symm,rfl⟩
 refine Bt 0 Ga (_::_::_) (Rb ?_);refine ⟨.inr rfl,[.agg Ga],.cons (.box _ _ _ 0 _ _ _ _ rfl rfl rfl rfl rfl rfl) <| .nil,_,.cons _ (.refl _),?_⟩;exact ⟨Eq.trans rfl (congrArg (fun q:Fa=>AV.agg (Pz q)) (uW hc1 hc2 hc3 (by rw [hsr];exact hc4))).symm,rfl⟩
theorem rf_walk (T:List e8Sc)(V:List Va)(s:Nx)(bp:Nat)(hrv:RvOK T V)(t:Syn)(ht:Es t):Bl Tryz.prog 98 bp 159 (Vs T V s) (Vs T V s) [.val (.pointer (some ⟨bp,0,none⟩)),.agg (cSyn t)] (.agg (Pz (D0 T V t))):=by
 intro H
 revert H
 induction t using Syn.ind
 rename_i t ih;intro H;refine B5.body (n:=18) tok Tryz.func98 rfl rfl rfl ?_;refine Ad (Qp (Ed Aq) (Dt bC fun b4=>Ae (Rd (Qp Bw (Qp (Bo Aq) ?_)))));refine AOL.Aan (Cy (k:=1) (by kernel_rfl) rfl rfl (rf_look T V s bp hrv t ht)) rfl rfl ?_;refine Dt bC fun b5=>?_
 refine Bt 0 Ga (_::_::_::_) ?_;refine AOL.ghost (GS.freeze (t:=5) 0 rfl rfl) ?_;refine Bs (Qp (Qf [Iq _]) (Qp Bf (Qp Bu (Ae (Ao (fun hc1=>Ad (Qp (Bo Ga) ?_)) fun hc1=>A7 (Ad (Qp (Qf Ef) (Qp B7 (Qp Bw (Qp (B1 (l:=[.val _]) (l':=[]) rfl rfl) ?_))))))))))
 ·
  refine Bt 0 Ga (_::_::_) (Rc ?_);refine ⟨.inr rfl,[.agg Ga],.cons (.box _ _ _ 0 _ _ _ _ rfl rfl rfl rfl rfl rfl) <| .nil,_,.cons _ (.refl _),?_⟩;exact ⟨Eq.trans rfl (congrArg (fun q:Fa=>AV.agg (Pz q)) (oI hc1)).symm,rfl⟩
 refine Rt (Dc rfl ((rf_each bp 159 _ t.kids (Lq (E3 ht) (by decide)) 98 (by kernel_rfl) [.val (.pointer (some ⟨bp,0,none⟩))] (D0 T V) (fun a ha=>fun R=>ih a ha (C4 ht ha) R)).at (k:=1) (H2:=_::_::_) rfl rfl)) ?_;refine Bt 0 Ga (_::_::_) (Rb ?_);refine ⟨.inr rfl,[.agg Ga],.cons (.box _ _ _ 0 _ _ _ _ rfl rfl rfl rfl rfl rfl) <| .nil,_,.cons _ (.refl _),?_⟩;exact ⟨Eq.trans rfl (congrArg (fun q:Fa=>AV.agg (Pz q)) (Vr hc1)).symm,rfl⟩
end Go.Proofs.YtckhoadldibflaaGreatDoor
