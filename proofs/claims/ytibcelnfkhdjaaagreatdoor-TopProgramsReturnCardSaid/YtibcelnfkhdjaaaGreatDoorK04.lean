/-
  Several texts in one: R4, R5, R6, Shelm, R7, R8, Rar, R9, R10, R11, R12, R13, R14, R16, R17, R20, R23, R27, S12, B12, P15. No condition.
-/
import Derived.Test.YtibcelnfkhdjaaaGreatDoorK03
import Derived.Shelf.Bits.Mul64
import Derived.Test.YtibcelnfkhdjaaaGreatDoorProg
import Derived.IntWalk
import Derived.Test.YtibcelnfkhdjaaaGreatDoorK01
import Derived.ControlIn
set_option linter.unusedVariables false
set_option linter.unusedSimpArgs false
namespace Go.Aw
open Go
theorem GS.heq {sl:List (Nat×AV)}{H H2:List HO}{n:Nat}(h:H=H2):GS ⟨sl,H,n⟩ ⟨sl,H2,n⟩:=by subst h;exact GS.refl _
end Go.Aw
namespace Go.Proofs.YtibcelnfkhdjaaaGreatDoor
open Go Go.Aw
theorem nm_take {T:List e8Sc}{k:Nat}{s:e8Sc}(h:T[k]? = some s):H4 (T.take k) ++ [s.name]=H4 (T.take (k+1)):=by
 rw [El h];simp
theorem nm_new {T:List e8Sc}(hd:(H4 T).Nodup){k:Nat}{s:e8Sc}(h:T[k]? = some s):(H4 (T.take k)).contains s.name=false:=by
 rw [zqal52];intro hc
 have h2:(H4 (T.take (k+1))).Nodup:=by
  have:(H4 (T.take (k+1))).Sublist (H4 T):=(List.take_sublist _ _).map _;exact hd.sublist this
 rw [<-nm_take h,Ih] at h2;exact h2.2.2 _ (List.contains_iff_mem.1 hc) _ (by simp) rfl
section
variable {T:List e8Sc} {V:List Va} {t:Syn}
def dFa (T:List e8Sc)(V:List Va)(t:Syn):Fa:=if (Lo T V t != 0) then ⟨t.pos,Lo T V t⟩ else Np
def dV (T:List e8Sc)(V:List Va)(t:Syn):List Va:=if (Lo T V t != 0) then V else V ++ [K9 T t]
theorem dec_1 (h1:((V.length:Int)==16)=true):Lo T V t=5:=if_pos h1
theorem dec_2 (h1:((V.length:Int)==16)=false)(h2:(!((H4 T).contains t.text))=true):Lo T V t=8:=(Bu h1).trans (if_pos h2)
theorem dec_3 (h1:((V.length:Int)==16)=false)(h2:(!((H4 T).contains t.text))=false)(h3:(H5 V).contains t.name=true):Lo T V t=7:=(Bu h1).trans ((Bu h2).trans (if_pos h3))
theorem dec_4 (h1:((V.length:Int)==16)=false)(h2:(!((H4 T).contains t.text))=false)(h3:(H5 V).contains t.name=false):Lo T V t=0:=(Bu h1).trans ((Bu h2).trans (Bu h3))
theorem dFa_no {e:Int}(h:Lo T V t=e)(he:e≠0):dFa T V t=⟨t.pos,e⟩/\dV T V t=V:=by
 unfold dFa dV;rw [h,if_pos (by simpa using he),if_pos (by simpa using he)];exact ⟨rfl,rfl⟩
theorem dFa_yes (h:Lo T V t=0):dFa T V t=Np/\dV T V t=V ++ [K9 T t]:=by
 unfold dFa dV;rw [h,if_neg (by decide),if_neg (by decide)];exact ⟨rfl,rfl⟩
theorem J1 (r:List Syn):K8 T V (t::r)=if (Lo T V t != 0) then (V,⟨t.pos,Lo T V t⟩) else K8 T (V ++ [K9 T t]) r:=by rw [K8]
theorem decS_hit {l:List Syn}{k:Nat}(h:l[k]? = some t)(he:((dFa T V t).err != 0)=true):K8 T V (l.drop k)=(dV T V t,dFa T V t):=by
 have hx:(Lo T V t != 0)=true:=by
  unfold dFa at he;cases hq:Lo T V t != 0 with
  | true=>rfl
  | false=>rw [hq,if_neg (by decide)] at he;exact absurd he (by decide)
 rw [A4 h,J1,if_pos hx];unfold dFa dV;rw [if_pos hx,if_pos hx]
theorem decS_on {l:List Syn}{k:Nat}(h:l[k]? = some t)(he:((dFa T V t).err != 0)=false):K8 T V (l.drop k)=K8 T (dV T V t) (l.drop (k+1)):=by
 have hx:(Lo T V t != 0)=false:=by
  unfold dFa at he;cases hq:Lo T V t != 0 with
  | false=>rfl
  | true=>rw [hq,if_pos rfl] at he;simp only at he;rw [hq] at he;cases he
 rw [A4 h,J1,Bu hx];unfold dV;rw [Bu hx]
theorem dV_len (h:V.length<=16):(dV T V t).length<=16:=by
  unfold dV;cases hq:Lo T V t != 0 with
  | true=>rw [if_pos rfl];exact h
  | false=>
    rw [Bu rfl,Al,E6]
    have:V.length≠16:=fun h16=>by
      have:=dec_1 (T:=T) (t:=t) (V:=V) (by simp [h16]);rw [this] at hq;exact absurd hq (by decide)
    omega
theorem scVa (l:List Va):∀c∈l.map U6,Av c=true:=fun c hc=>by
 obtain ⟨x,_,rfl⟩:=Cd.1 hc;rfl
end
section
variable {t:Syn}
theorem Ql (h:Ag t .pats=0):5<=t.kind/\t.kind<=12:=aR (Bz (Bx h).1).1
theorem M7 (h:Ag t .pats=0)(hk:t.kind=10\/t.kind=12):t.kids.length=2:=by
 have hs:=(Bz (Bx h).1).2.1;unfold Ct at hs;rcases hk with hk | hk <;> · rw [hk] at hs;simp at hs;omega
theorem Y8 (h:Ag t .pats=0)(h5:t.kind≠5){j:Nat}{a:Syn}(ha:t.kids[j]? = some a)(hj:(t.kind=10\/t.kind=12)->j=0):Ag a .pats=0:=by
 have hr:=Ql h;have hk:=(Dl h ha).1
 have he:Cr t j = .pats:=by
  unfold Cr;rw [if_neg (by simp;omega),if_neg (by simp;omega),if_neg (by simp;omega)];by_cases h10:t.kind=10
  .
   have:=hj (.inl h10);subst this;rw [if_pos (by simpa using h10),if_neg (by decide)]
  rw [if_neg (by simpa using h10)];by_cases h12:t.kind=12
  .
   have:=hj (.inr h12);subst this;rw [if_pos (by simpa using h12),if_neg (by decide)]
  rw [if_neg (by simpa using h12),if_neg (by simp;omega),if_neg (by simp;omega)]
 rw [he] at hk;exact hk
theorem pat_ev (h:Ag t .pats=0)(hk:t.kind=10):Ag (Aq t 1) (.only 5)=0:=by
 have h2:=M7 h (.inl hk);have hg:=Hc (t:=t) (k:=1) (by omega);have hk1:=(Dl h hg).1
 have he:Cr t 1 = .only 5:=by
  unfold Cr;rw [hk];rfl
 rw [he] at hk1;exact hk1
theorem pat_cond (h:Ag t .pats=0)(hk:t.kind=12):Ag (Aq t 1) .exps=0:=by
 have h2:=M7 h (.inr hk);have hg:=Hc (t:=t) (k:=1) (by omega);have hk1:=(Dl h hg).1
 have he:Cr t 1 = .exps:=by
  unfold Cr;rw [hk];rfl
 rw [he] at hk1;exact hk1
theorem J0 (x:Syn)(r:List Syn):I7 (x::r)=K7 x+I7 r:=by rw [I7]
theorem sI (t:Syn):(Lb t).length<=K7 t:=by
  induction t using Syn.ind with
  | h t ih=>
    rw [aF,Jn]
    have hh:(evH t.kids).length<=I7 t.kids:=by
      cases hk:t.kids with
      | nil=>rw [evH];simp
      | cons x r=>rw [evH,J0];have:=ih x (by rw [hk];simp);omega
    have hf:∀l:List Syn,(∀a∈l,(Lb a).length<=K7 a)->(l.flatMap Lb).length<=I7 l:=by
      intro l
      induction l with
      | nil=>intro _;simp
      | cons x r ih2=>intro hl;rw [J9,Al,J0];have:=hl x (by simp);have:=ih2 fun a ha=>hl a (by simp [ha]);omega
    split
    . simp
    . split
      . rw [A8];omega
      . split
        . omega
        have:=hf _ ih;omega
theorem dX:∀(l:List Syn) (k:Nat),I7 (l.take k)<=I7 l
 | [],k=>by simp
 | x::r,0=>by rw [List.take_zero,I7];omega
 | x::r,k+1=>by rw [bH,J0,J0];have:=dX r k;omega
theorem evF_len (l:List Syn):(l.flatMap Lb).length<=I7 l:=by
 induction l with
 | nil=>simp
 | cons x r ih=>rw [J9,Al,J0];have:=sI x;omega
theorem ev_part (ht:aZ t)(k:Nat):(((t.kids.take k).flatMap Lb).map Df).length<=1000000:=by
 rw [Bg];have h1:=evF_len (t.kids.take k);have h2:=dX t.kids k;have h3:=cntL_w t.kids;have h4:=nQ t;unfold aZ at ht;omega
theorem ev_kid (ht:aZ t):((Lb t).map Df).length<=1000000:=by
 rw [Bg];exact F4 (sI t) (Vz ht)
theorem scSyn (l:List Syn):∀c∈l.map Df,Av c=true:=fun c hc=>by
 obtain ⟨x,_,rfl⟩:=Cd.1 hc;rw [Bi];rfl
theorem evs_1 (h1:(t.kind==5)=true):(Lb t).map Df = [cSyn t]:=by
 rw [aF,if_pos h1,Ao,A0,Bi]
theorem evs_2 (h1:(t.kind==5)=false)(h2:(t.kind==10)=true)(hl:0<t.kids.length):(Lb t).map Df = [cSyn (Aq t 1)]++(Lb (Aq t 0)).map Df:=by
 rw [aF,Bu h1,if_pos h2,Ao,Bi,sH hl];rfl
theorem evs_3 (h1:(t.kind==5)=false)(h2:(t.kind==10)=false)(h3:(t.kind==12)=true)(hl:0<t.kids.length):Lb t=Lb (Aq t 0):=by
 rw [aF,Bu h1,Bu h2,if_pos h3,sH hl];rfl
theorem evs_4 (h1:(t.kind==5)=false)(h2:(t.kind==10)=false)(h3:(t.kind==12)=false):Lb t=t.kids.flatMap Lb:=by
 rw [aF,Bu h1,Bu h2,Bu h3]
end
def opL:List (Int×AV):=[(5,.int .i64 0),(6,.int .i64 1),(7,.int .i64 2),(8,.int .i64 3),(9,.int .i64 4),(10,.int .i64 5),(11,.int .i64 6),(12,.int .i64 7)]
theorem op_get {k:Int}(h0:5<=k)(h1:k<=12):aO opL k=some (.int .i64 (k-5)):=by
 have:k=5\/k=6\/k=7\/k=8\/k=9\/k=10\/k=11\/k=12:=by omega
 rcases this with rfl | rfl | rfl | rfl | rfl | rfl | rfl | rfl <;> rfl
structure NxOK (s:Nx) (n:Nat):Prop where
 a:0<=s.next
 b:0<=s.scopes
 c:s.next+n<=3000000
 d:s.scopes+n<=3000000
section
variable {T:List e8Sc} {V:List Va} {t:Syn}
theorem cond_1 (h:decide ((0:Int)<(t.kids.length:Int))=true):Iv T V t=Dv T V (Aq t 0):=if_pos h
theorem cond_2 (h:decide ((0:Int)<(t.kids.length:Int))=false):Iv T V t=Jp:=Bu h
theorem ptn_args (s:Nx)(xs:List Pt):Pu T V t s xs = { Pu T V t s [] with args:=xs }:=by
 unfold Pu;split
 . rfl
 split
 . rfl
 split
 . rfl
 split <;> rfl
theorem On (t:Syn)(s:Nx):Iy T V t s=({ Pu T V t s [] with args:=(E0 T V (Cn t) (Uq t s)).1 },(E0 T V (Cn t) (Uq t s)).2):=by
 rw [jL,ptn_args]
theorem yO {s:Nx}(h1:(t.kind==5)=true):Pu T V t s []=⟨0,[],Js (H4 T) t.text,s.next,0,0,Iv T V t⟩:=if_pos h1
theorem mR {s:Nx}(h1:(t.kind==5)=false)(h2:(t.kind==10)=true):Pu T V t s []=⟨5,[],Js (H4 T) (Aq t 1).text,s.next,s.scopes,0,Iv T V (Aq t 1)⟩:=(Bu h1).trans (if_pos h2)
theorem mS {s:Nx}(h1:(t.kind==5)=false)(h2:(t.kind==10)=false)(h3:(t.kind==11)=true):Pu T V t s []=⟨6,[],0,0,s.scopes,t.num,wD⟩:=(Bu h1).trans ((Bu h2).trans (if_pos h3))
theorem mT {s:Nx}(h1:(t.kind==5)=false)(h2:(t.kind==10)=false)(h3:(t.kind==11)=false)(h4:(t.kind==12)=true):Pu T V t s []=⟨7,[],0,0,0,0,Dv T V (Aq t 1)⟩:=(Bu h1).trans ((Bu h2).trans ((Bu h3).trans (if_pos h4)))
theorem yP {s:Nx}(h1:(t.kind==5)=false)(h2:(t.kind==10)=false)(h3:(t.kind==11)=false)(h4:(t.kind==12)=false):Pu T V t s []=⟨t.kind-5,[],0,0,0,0,wD⟩:=(Bu h1).trans ((Bu h2).trans ((Bu h3).trans (Bu h4)))
theorem pn_5 {s:Nx}(h1:(t.kind==5)=true):(⟨t.kind-5,[],Js (H4 T) t.text,s.next,0,0,Iv T V t⟩:Pt)=Pu T V t s []:=by
 have:t.kind=5:=by simpa using h1
 rw [yO h1,this];rfl
theorem pn_10 {s:Nx}(h1:(t.kind==5)=false)(h2:(t.kind==10)=true):(⟨t.kind-5,[],Js (H4 T) (Aq t 1).text,s.next,s.scopes,0,Iv T V (Aq t 1)⟩:Pt)=Pu T V t s []:=by
 have:t.kind=10:=by simpa using h2
 rw [mR h1 h2,this];rfl
theorem pn_11 {s:Nx}(h1:(t.kind==5)=false)(h2:(t.kind==10)=false)(h3:(t.kind==11)=true):(⟨t.kind-5,[],0,0,s.scopes,t.num,wD⟩:Pt)=Pu T V t s []:=by
 have:t.kind=11:=by simpa using h3
 rw [mS h1 h2 h3,this];rfl
theorem pn_12 {s:Nx}(h1:(t.kind==5)=false)(h2:(t.kind==10)=false)(h3:(t.kind==11)=false)(h4:(t.kind==12)=true):(⟨t.kind-5,[],0,0,0,0,Dv T V (Aq t 1)⟩:Pt)=Pu T V t s []:=by
 have:t.kind=12:=by simpa using h4
 rw [mT h1 h2 h3 h4,this];rfl
theorem nxn_5 {s:Nx}(h1:(t.kind==5)=true):Uq t s=⟨s.next+1,s.scopes⟩:=by
 have:t.kind=5:=by simpa using h1
 unfold Uq;rw [this];rfl
theorem nxn_10 {s:Nx}(h2:(t.kind==10)=true):Uq t s=⟨s.next+1,s.scopes+1⟩:=by
 have:t.kind=10:=by simpa using h2
 unfold Uq;rw [this];rfl
theorem nxn_11 {s:Nx}(h3:(t.kind==11)=true):Uq t s=⟨s.next,s.scopes+1⟩:=by
 have:t.kind=11:=by simpa using h3
 unfold Uq;rw [this];rfl
theorem nxn_o {s:Nx}(h1:(t.kind==5)=false)(h2:(t.kind==10)=false)(h3:(t.kind==11)=false):Uq t s=s:=by
 unfold Uq;rw [h1,h2,h3];rfl
theorem pk_5 (h1:(t.kind==5)=true):Cn t = []:=if_pos h1
theorem pk_10 (h1:(t.kind==5)=false)(h2:(t.kind==10)=true):Cn t=t.kids.take 1:=by
 unfold Cn;rw [Bu h1,h2];rfl
theorem pk_12 (h1:(t.kind==5)=false)(h4:(t.kind==12)=true):Cn t=t.kids.take 1:=by
 unfold Cn;rw [Bu h1,h4];simp
theorem pk_o (h1:(t.kind==5)=false)(h2:(t.kind==10)=false)(h4:(t.kind==12)=false):Cn t=t.kids:=by
 unfold Cn;rw [Bu h1,h2,h4];rfl
theorem Kr {a:Syn}(h:a∈Cn t):a∈t.kids:=by
 unfold Cn at h;split at h
 . cases h
 split at h
 . exact List.mem_of_mem_take h
 exact h
theorem M8 (hc:Ag t .pats=0){a:Syn}(h:a∈Cn t):Ag a .pats=0:=by
 have h5:t.kind≠5:=fun e=>by rw [pk_5 (by simpa using e)] at h;cases h
 obtain ⟨j,hj⟩:=Fh.1 h;unfold Cn at hj;rw [if_neg (by simpa using h5)] at hj;split at hj
 .
  rename_i hq;have hj0:j=0:=by have:=(List.getElem?_eq_some_iff.1 hj).1;simp at this;omega
  subst hj0;rw [List.getElem?_take_of_lt (by omega)] at hj;exact Y8 hc h5 hj fun _=>rfl
 rename_i hq;exact Y8 hc h5 hj fun e=>absurd (by simpa using e) hq
theorem iW (t:Syn):I7 (Cn t)<=I7 t.kids:=by
 unfold Cn;split
 . rw [I7];omega
 split
 . exact dX _ _
 exact Be _
theorem pk_len (ht:aZ t):(Cn t).length<=1048576:=by
 have h1:=kI (Cn t);have h2:=iW t;have h3:=Vz ht;rw [Jn] at h3;omega
theorem nxn_ok {s:Nx}(h:NxOK s (K7 t)):NxOK (Uq t s) (I7 t.kids)/\s.next<=(Uq t s).next/\s.scopes<=(Uq t s).scopes/\(Uq t s).next<=s.next+1/\(Uq t s).scopes<=s.scopes+1:=by
 obtain ⟨a,b,c,d⟩:=h;rw [Jn] at c d;unfold Uq;refine ⟨⟨?_,?_,?_,?_⟩,?_,?_,?_,?_⟩ <;> simp only <;> split <;> omega
theorem ptt_step:∀t:Syn,∀s:Nx,NxOK s (K7 t)->s.next<=(Iy T V t s).2.next/\s.scopes<=(Iy T V t s).2.scopes/\(Iy T V t s).2.next<=s.next+K7 t/\(Iy T V t s).2.scopes<=s.scopes+K7 t:=by
  intro t
  induction t using Syn.ind with
  | h t ih=>
    intro s hs;obtain ⟨h1,h2,h3,h4,h5⟩:=nxn_ok hs;rw [jL,Jn]
    have key:∀l:List Syn,(∀a∈l,a∈t.kids)->∀s:Nx,NxOK s (I7 l)->s.next<=(E0 T V l s).2.next/\s.scopes<=(E0 T V l s).2.scopes/\(E0 T V l s).2.next<=s.next+I7 l/\(E0 T V l s).2.scopes<=s.scopes+I7 l:=by
      intro l
      induction l with
      | nil=>intro _ s _;rw [E0];simp only;omega
      | cons x r ih2=>
        intro hl s hs;obtain ⟨a,b,c,d⟩:=hs;rw [J0] at c d;have hx:=ih x (hl x (by simp)) s ⟨a,b,by omega,by omega⟩;have hr:=ih2 (fun a ha=>hl a (by simp [ha])) (Iy T V x s).2 ⟨by omega,by omega,by omega,by omega⟩;rw [E0,J0];simp only;omega
    have hp:=iW t;have hk:=key (Cn t) (fun a ha=>Kr ha) (Uq t s) ⟨h1.a,h1.b,by have:=h1.c;omega,by have:=h1.d;omega⟩;simp only;omega
theorem yM {l:List Syn}{k:Nat}{a:Syn}(h:l[k]? = some a)(s:Nx):E0 T V (l.take (k+1)) s=((E0 T V (l.take k) s).1 ++ [(Iy T V a (E0 T V (l.take k) s).2).1],(Iy T V a (E0 T V (l.take k) s).2).2):=by
 rw [El h,yL,E0,E0]
theorem cntL_drop {l:List Syn}{k:Nat}{a:Syn}(h:l[k]? = some a):I7 (l.drop k)=K7 a+I7 (l.drop (k+1)):=by rw [A4 h,J0]
theorem nx_on {l:List Syn}{k:Nat}{a:Syn}(h:l[k]? = some a){s:Nx}(hs:NxOK s (I7 (l.drop k))):NxOK s (K7 a)/\NxOK (Iy T V a s).2 (I7 (l.drop (k+1))):=by
 obtain ⟨x1,x2,x3,x4⟩:=hs;rw [cntL_drop h] at x3 x4;have ha:NxOK s (K7 a):=⟨x1,x2,by omega,by omega⟩;have:=ptt_step (T:=T) (V:=V) a s ha;exact ⟨ha,by omega,by omega,by omega,by omega⟩
theorem scPt (l:List Pt):∀c∈l.map Xa,Av c=true:=fun c hc=>by
 obtain ⟨x,_,rfl⟩:=Cd.1 hc;rw [rZ];rfl
theorem cM (hw:(Fr T V t).err=0){j:Nat}(h:j<t.kids.length):(Fr T V (Aq t j)).err=0:=(Gr hw).2 _ (Ak (Hc h))
theorem tE (ht:aZ t){j:Nat}(h:j<t.kids.length):aZ (Aq t j):=N0 ht (Ak (Hc h))
end
end Go.Proofs.YtibcelnfkhdjaaaGreatDoor

namespace Go.Proofs
open Go.Shelf
def Tryz.lays212_ren:Go.Shelf.Ren:=⟨fun | 212=>156 | 263=>196 | 264=>197 | n=>n,fun | 46=>221 | 51=>249 | 146=>250 | 53=>252 | 148=>253 | n=>n,fun | n=>n⟩
theorem Tryz.lays212:Go.Proofs.Lays.n212 Tryz.prog Tryz.lays212_ren:={
 mixed:=by kernel_rfl
 f212:=Tryz.func156.trans (congrArg some (by kernel_rfl))
 f263:=Tryz.func196.trans (congrArg some (by kernel_rfl))
 f264:=Tryz.func197.trans (congrArg some (by kernel_rfl))
 t46:=Tryz.underlying221
 a46:=Tryz.isAgg221
 z46:=Tryz.sizeOf221
 v46:=Tryz.zeroValue221
 t51:=Tryz.underlying249
 a51:=Tryz.isAgg249
 z51:=Tryz.sizeOf249
 v51:=Tryz.zeroValue249
 t53:=Tryz.underlying252
 a53:=Tryz.isAgg252
 z53:=Tryz.sizeOf252
 v53:=Tryz.zeroValue252
 t146:=Tryz.underlying250
 a146:=Tryz.isAgg250
 z146:=Tryz.sizeOf250
 v146:=Tryz.zeroValue250
 t148:=Tryz.underlying253
 a148:=Tryz.isAgg253
 z148:=Tryz.sizeOf253
 v148:=Tryz.zeroValue253 }
open Go.RowKit Go.Lib in
theorem Tryz.bits_Mul (x y:Nat)(hx:x<18446744073709551616)(hy:y<18446744073709551616)(w:World) :
 Calls Tryz.prog 156 #[.int .u64 x,.int .u64 y] w fun e w'=>e = .returned (.tuple #[.int .u64 ((x*y / 18446744073709551616:Nat):Int),.int .u64 ((x*y % 18446744073709551616:Nat):Int)])/\w'=w:=Any.bits_Mul Tryz.lays212 x y hx hy w
end Go.Proofs

namespace Go.Proofs.YtibcelnfkhdjaaaGreatDoor
open Go Go.Aw
def ixI (l:List Int)(k:Int):Int:=(l[k.toNat]?).getD 0
def bI (l:List Int):List AV:=l.map (AV.int .i64)
def cI (v:Int):List AV:=[.int .i64 v]
theorem kC (l:List Int):(bI l).length=l.length:=Bg ..
theorem bI_sc (l:List Int):Av (bI l)=true:=by
 induction l with
 | nil=>rfl
 | cons a r ih=>exact ih
theorem bI_app (l m:List Int):bI (l++m)=bI l++bI m:=Di ..
theorem bI_take (l:List Int)(k:Nat):(bI l).take k=bI (l.take k):=(List.map_take ..).symm
theorem bI_drop (l:List Int)(k:Nat):(bI l).drop k=bI (l.drop k):=(List.map_drop ..).symm
theorem bI_zero (n:Nat):(List.replicate n [AV.int .i64 0]).flatten=bI (List.replicate n 0):=by
 induction n with
 | zero=>rfl
 | succ n ih=>rw [List.replicate_succ,Bj,ih,List.replicate_succ];rfl
theorem bI_flat (l:List Int):(l.map cI).flatten=bI l:=by
 induction l with
 | nil=>rfl
 | cons a r ih=>rw [Ao,Bj,ih];rfl
theorem xW {α:Type}{f:α->List AV}(hf:∀x,(f x).length=1)(l:List α):∀e∈l.map f,e.length=1:=fun e he=>by
 obtain ⟨x,_,rfl⟩:=Cd.1 he;exact hf x
theorem bI_set:∀{l:List Int} {k:Nat} {v:Int},k<l.length->Kt (bI l) k [AV.int .i64 v]=bI (l.set k v)
  | [],k,v,h=>absurd h (by simp)
  | a::r,0,v,h=>by simp [Kt,bI]
  | a::r,k+1,v,h=>by
    have ih:=bI_set (l:=r) (k:=k) (v:=v) (by simpa using h);show AV.int .i64 a::Kt (bI r) k [AV.int .i64 v]=_;rw [ih];rfl
theorem off0 (n:Nat):0+n*1=n:=by omega
theorem bI_fits {l:List Int}{k:Nat}(h:k<l.length):Nat.ble (k+1) (bI l).length=true:=Nat.ble_eq_true_of_le (by rw [kC];omega)

def mD (n:Nat):List Int:=List.replicate n (-1)
def Sb (n k:Nat):List Int:=List.replicate k (-1)++List.replicate (n-k) 0
theorem mZ {n k:Nat}(h:k<=n):(Sb n k).length=n:=by unfold Sb;simp;omega
theorem repL_full (n:Nat):Sb n n=mD n:=by unfold Sb mD;simp
theorem repL_copy {n k m:Nat}(hk:k+m<=n)(hm:m<=k):Kt (bI (Sb n k)) k (((bI (Sb n k)).drop 0).take m)=bI (Sb n (k+m)):=by
 rw [T3,bI_take]
 have h1:(Sb n k).take m=List.replicate m (-1):=by
  unfold Sb;rw [jP (by rw [Sp];exact hm),List.take_replicate,Nat.min_eq_left hm]
 have h2:(Sb n k).take k=List.replicate k (-1):=by
  unfold Sb;rw [jP (by rw [Sp];omega),List.take_replicate,Nat.min_self]
 have h3:(Sb n k).drop (k+m)=List.replicate (n-(k+m)) 0:=by
  unfold Sb;rw [List.drop_append,Sp,List.drop_of_length_le (by rw [Sp];omega),Cv,List.drop_replicate]
  congr 1;omega
 unfold Kt;rw [h1,kC,Sp,bI_take,bI_drop,h2,h3,<-bI_app,<-bI_app]
 congr 1
 unfold Sb;rw [List.replicate_append_replicate]
theorem repL_first {n:Nat}(hn:0<n):Kt (bI (Sb n 0)) 0 ((([[AV.int .i64 (-1)]]:List (List AV)).flatten).take 1)=bI (Sb n 1):=by
 unfold Sb;obtain ⟨m,rfl⟩:∃m,n=m+1:=⟨n-1,by omega⟩;simp [Kt,bI,List.replicate_succ]
theorem kMul (x y:Nat)(hx:x<18446744073709551616)(hy:y<18446744073709551616):Au Tryz.prog 156 [.int .u64 (x:Int),.int .u64 (y:Int)] (.tuple [.int .u64 ((x*y / 18446744073709551616:Nat):Int),.int .u64 ((x*y % 18446744073709551616:Nat):Int)]):=
 .of_same fun g w vs hg ha=>by
  obtain ⟨u,v,rfl,h1,h2⟩:=ha.inv2;have e1:=h1.inv_int;have e2:=h2.inv_int;subst e1 e2
  exact ⟨_,fun g' w'=>.tuple _ _ rfl (fun i c hc=>by
   match i,hc with
   | 0,hc=>cases hc;exact .int _ _
   | 1,hc=>cases hc;exact .int _ _
   | i+2,hc=>simp at hc),Tryz.bits_Mul x y hx hy w⟩
theorem kMul1 (n:Nat)(hn:n<=1048576):Au Tryz.prog 156 [.int .u64 1,.int .u64 (n:Int)] (.tuple [.int .u64 0,.int .u64 (n:Int)]):=by
 have h:=kMul 1 n (by decide) (by omega);rw [Nat.one_mul,Nat.div_eq_of_lt (by omega),Nat.mod_eq_of_lt (by omega)] at h;exact h
theorem u64_in {n:Nat}(h:n<=1048576):IntKind.wrap .u64 (n:Int)=(n:Int):=by
 unfold IntKind.wrap;simp [IntKind.bits,IntKind.signed];omega
theorem i64_in {n:Nat}(h:n<=1048576):IntKind.wrap .i64 (n:Int)=(n:Int):=IntWalk.i64_in _ (by omega)
theorem oS {l:List Int}{k:Nat}{v:Int}(h:k<l.length):(bI (l.set k v))[k]? = some (.int .i64 v):=by
 unfold bI;rw [List.getElem?_map,List.getElem?_set_self h];rfl
section
variable {T:List e8Sc} {n:Ac} {va:Va} {sc:e8Sc}
theorem key_hit {l:List Va}{k:Nat}{out:List Int}(h:l[k]? = some va)(hs:T[va.type.toNat]? = some sc)(hq:decide (Ei sc n<0)=true):Tr T n (l.drop k) out=([],false):=by
 rw [A4 h,Tr,hs];exact if_pos hq
theorem key_on {l:List Va}{k:Nat}{out:List Int}(h:l[k]? = some va)(hs:T[va.type.toNat]? = some sc)(hq:decide (Ei sc n<0)=false):Tr T n (l.drop k) out=Tr T n (l.drop (k+1)) (out.set va.type.toNat (Ei sc n)):=by
 rw [A4 h,Tr,hs];exact Bu hq
end
end Go.Proofs.YtibcelnfkhdjaaaGreatDoor

namespace Go.Aw
open Go
section
variable {P:Program} {T:List (Nat×TD)} {d:Option Nat} {ty:TypeId} {pos:String} {aft:Array Edge} {gd:Option (Nat×Bool)} {ρ:Operand->AV} {K:List HO->Prop}
theorem T7 {i:Operand}{t e len:Nat}{td te:TD}{k:IntKind}{n:Int}{gl:Nat}{l cs':List AV}(hT:Kh P T)(hg:∃c,(gl,c)∈globals/\∀cs,c cs->cs=l)(hi:ρ i = .int k n)(ht:Bt T t=some td)(hk:td.kind = .array len e)
  (hte:Bt T e=some te) (h0:0<=n) (hc:n<len) (ho:l.drop (n.toNat*te.size)=cs') (hρ:ρ (.global gl) = .val (.pointer (some ⟨gl,0,none⟩))):D1 P ⟨d,.indexAddr t (.global gl) i,ty,pos,aft,gd⟩ ρ K (.ptr cs'):=by
 intro g w a H next Q hr hH hK hn
 obtain ⟨c,hc',hcl⟩:=hg;obtain ⟨cs,h1,h2⟩:=hH.glob.vars _ hc';obtain rfl:=hcl cs h1;obtain ⟨b,o,he,fv,h3,h4⟩:=h2.inv_ptr;simp only [Value.pointer.injEq,Option.some.injEq,Addr.mk.injEq,and_true] at he;obtain ⟨rfl,rfl⟩:=he;have he:=(hρ▸hr (.global gl) (by simp [Op.operands]):Rep g w _ _).inv_val;have h5:=(hi▸hr i (by simp [Op.operands]):Rep g w _ _).inv_int;have hu:=Pz (hT t td ht) hk
 have hrun:(execOp a.eval ⟨d,.indexAddr t (.global gl) i,ty,pos,aft,gd⟩).run P w = .ok (.value (.pointer (some ⟨gl,0+n.toNat*te.size,none⟩))) w:=by
  simp only [execOp,he,h5,Instr.indexAt,asIntOf,Sem.run_bind,Sem.run_pure,Result.andThen_ok,Bh hu,Instr.sureAddr];simp [h0,hc,Hv (hT e te hte),H0]
 unfold Oper.wp;rw [hrun];subst ho;refine hn g w _ (.ptr gl (0+n.toNat*te.size) _ (fun j=>fv (n.toNat*te.size+j)) (fun j x hj=>?_) (fun j x hj=>?_)) hH (Ext.refl g w)
 .
  rw [List.getElem?_drop] at hj;have:=h3 (n.toNat*te.size+j) x hj
  rwa [T2]
 rw [List.getElem?_drop] at hj;exact h4 (n.toNat*te.size+j) x hj
end
end Go.Aw
namespace Go.Proofs.YtibcelnfkhdjaaaGreatDoor
open Go Go.Aw

mutual
def H1:Pt->List Pt
 | ⟨o,xs,t,v,s,n,c⟩=>⟨o,xs,t,v,s,n,c⟩::ndPs xs
def ndPs:List Pt->List Pt
 | []=>[]
 | a::r=>H1 a++ndPs r
end
theorem xP:∀l:List Pt,ndPs l=l.flatMap H1
 | []=>by rw [ndPs];rfl
 | a::r=>by rw [ndPs,xP r,J9]
theorem Ox (p:Pt):H1 p=p::p.args.flatMap H1:=by cases p;rw [H1,xP]
mutual
def dpP:Pt->Nat
 | ⟨_,xs,_,_,_,_,_⟩=>dZ xs+1
def dZ:List Pt->Nat
 | []=>0
 | a::r=>max (dpP a) (dZ r)
end
theorem dpP_eq (p:Pt):dpP p=dZ p.args+1:=by cases p;rw [dpP]
theorem pE:∀(l:List Pt) (a:Pt),dZ (l ++ [a])=max (dZ l) (dpP a)
 | [],a=>by simp [dZ]
 | x::r,a=>by rw [Cp,dZ,pE r a,dZ];omega
theorem dp_le:∀p:Pt,dpP p<=L2 p:=by
  intro p
  induction p using Pt.ind with
  | h p ih=>
    rw [dpP_eq,Oy]
    have:∀l:List Pt,(∀a∈l,dpP a<=L2 a)->dZ l<=(l.map L2).sum:=by
      intro l
      induction l with
      | nil=>intro _;rw [dZ];simp
      | cons x r ih2=>intro h;rw [dZ,Ao,Jq];have:=h x (by simp);have:=ih2 fun a ha=>h a (by simp [ha]);omega
    have:=this _ ih;omega
theorem Rw {p a:Pt}(h:a∈p.args):L2 a<L2 p:=by
  rw [Oy p]
  have:∀l:List Pt,a∈l->L2 a<=(l.map L2).sum:=by
    intro l
    induction l with
    | nil=>intro h;cases h
    | cons x r ih => intro h; rw [Ao, Jq]; rcases Cu.1 h with rfl | h
                     . omega
                     have:=ih h;omega
  have:=this _ h;omega
theorem Vt (p:Pt):p.args.length<L2 p:=by
  rw [Oy]
  have:∀l:List Pt,l.length<=(l.map L2).sum:=by
    intro l
    induction l with
    | nil=>simp
    | cons x r ih => rw [A8, Ao, Jq]; have : 1 <= L2 x := by rw [Oy]; omega
                     omega
  have:=this p.args;omega
theorem tT:∀(l:List Pt) (k:Nat),((l.take k).map L2).sum<=(l.map L2).sum
 | [],k=>by simp
 | x::r,0=>by simp
 | x::r,k+1=>by rw [bH,Ao,Ao,Jq,Jq];have:=tT r k;omega
theorem nd_len:∀p:Pt,(H1 p).length=L2 p:=by
  intro p
  induction p using Pt.ind with
  | h p ih=>
    rw [Ox,Oy,A8]
    have:∀l:List Pt,(∀a∈l,(H1 a).length=L2 a)->(l.flatMap H1).length=(l.map L2).sum:=by
      intro l
      induction l with
      | nil=>intro _;rfl
      | cons x r ih2=>intro h;rw [J9,Al,Ao,Jq,h x (by simp),ih2 fun a ha=>h a (by simp [ha])]
    rw [this _ ih]
theorem mA {p a q:Pt}(h:a∈p.args)(hq:q∈H1 a):q∈H1 p:=by
 rw [Ox];exact Gs _ (List.mem_flatMap.2 ⟨a,h,hq⟩)
theorem Vn (p:Pt):p∈H1 p:=by rw [Ox];exact Jg ..
theorem gW {l:List Pt}{k:Nat}{a:Pt}(h:l[k]? = some a):(l.map Xa)[k]? = some (cPt a):=by rw [List.getElem?_map,h];exact congrArg some (rZ a)

structure Shp where
 least:Int
 most:Int
 typed:Bool
 cond:Bool
 scope:Bool
 span:Bool
def cShp (s:Shp):List AV:=[.int .i64 s.least,.int .i64 s.most,.bool s.typed,.bool s.cond,.bool s.scope,.bool s.span]
def shpL:List Shp:=[⟨0,0,true,true,false,false⟩,⟨2,64,false,false,false,false⟩,⟨2,64,false,false,false,false⟩,⟨2,64,false,false,false,false⟩,⟨1,1,false,false,false,false⟩,⟨1,1,true,true,true,false⟩,⟨1,1,false,false,true,true⟩,⟨1,1,false,true,false,false⟩,⟨2,2,false,false,false,false⟩,⟨1,1,true,true,true,false⟩,⟨1,1,false,false,true,true⟩]
def Ll (o:Int):Shp:=(shpL[o.toNat]?).getD ⟨0,0,false,false,false,false⟩
theorem shp_at {o:Int}(h0:0<=o)(h1:o<11):∃rest,aY.drop (o.toNat*6)=cShp (Ll o)++rest:=by
 have:o=0\/o=1\/o=2\/o=3\/o=4\/o=5\/o=6\/o=7\/o=8\/o=9\/o=10:=by omega
 rcases this with rfl | rfl | rfl | rfl | rfl | rfl | rfl | rfl | rfl | rfl | rfl <;> exact ⟨_,rfl⟩
def wth (u:Bool)(n m:Int):Bool:=!u||(decide (0<=n)&&decide (n<=m))
def unu (u:Bool)(n:Int):Bool:=u||(n==0)
def ckB (p:Pt)(s:Shp):Bool:=(((!wth s.typed p.type 15) || !wth s.typed p.var 15) || !wth s.scope p.scope 63) || !wth s.span p.span 1099511627776
def ckU (p:Pt)(s:Shp):Bool:=(((((!s.cond) && !Fx p.cond wD) || !unu s.typed p.type) || !unu s.typed p.var) || !unu s.scope p.scope) || !unu s.span p.span
def ckR (p:Pt)(s:Shp):Int:=
 if decide ((p.args.length:Int)<s.least)||decide (s.most<(p.args.length:Int)) then 15
 else if ckB p s then 2
 else if s.cond&&(Gn p.cond != 0) then Gn p.cond
 else if ckU p s then 3 else 0
def iV (p:Pt):Int:=if decide (p.op<0)||decide (11<=p.op) then 1 else ckR p (Ll p.op)
section
variable {p:Pt}
theorem ck_1 (h:(decide (p.op<0)||decide (11<=p.op))=true):iV p=1:=if_pos h
theorem ck_2 (h:(decide (p.op<0)||decide (11<=p.op))=false)(h2:(decide ((p.args.length:Int)<(Ll p.op).least)||decide ((Ll p.op).most<(p.args.length:Int)))=true):iV p=15:=(Bu h).trans (if_pos h2)
theorem ck_3 (h:(decide (p.op<0)||decide (11<=p.op))=false)(h2:(decide ((p.args.length:Int)<(Ll p.op).least)||decide ((Ll p.op).most<(p.args.length:Int)))=false)(h3:ckB p (Ll p.op)=true):iV p=2:=(Bu h).trans ((Bu h2).trans (if_pos h3))
theorem ck_4 (h:(decide (p.op<0)||decide (11<=p.op))=false)(h2:(decide ((p.args.length:Int)<(Ll p.op).least)||decide ((Ll p.op).most<(p.args.length:Int)))=false)(h3:ckB p (Ll p.op)=false)(h4:(Ll p.op).cond=true)(h5:(Gn p.cond != 0)=true):iV p=Gn p.cond:=by
 refine (Bu h).trans ((Bu h2).trans ((Bu h3).trans (if_pos ?_)));rw [h4,h5];rfl
theorem ck_n (h:(decide (p.op<0)||decide (11<=p.op))=false)(h2:(decide ((p.args.length:Int)<(Ll p.op).least)||decide ((Ll p.op).most<(p.args.length:Int)))=false)(h3:ckB p (Ll p.op)=false)(h4:((Ll p.op).cond&&(Gn p.cond != 0))=false):iV p=if ckU p (Ll p.op) then 3 else 0:=(Bu h).trans ((Bu h2).trans ((Bu h3).trans (Bu h4)))
end

def Sd (p:Pt):Int:=if decide ((64:Int)<(L2 p:Int)) then 5 else if decide ((12:Int)<(dpP p:Int)) then 12 else Dk iV (H1 p)
def Uz (p:Pt):Int:=if (Sd p != 0) then Sd p else if (H1 p).any (fun q=>decide (8<=q.op)) then 1 else 0
structure Cnt where
 vars:Int
 scopes:Int
 ok:Bool
def Lt (c:Cnt)(q:Pt):Cnt:=
 ⟨if (Ll q.op).typed then c.vars+1 else c.vars,if (Ll q.op).scope then c.scopes+1 else c.scopes,(c.ok&&(!(Ll q.op).typed||(q.var==c.vars)))&&(!(Ll q.op).scope||(q.scope==c.scopes))⟩
def Rd (p:Pt):Cnt:=(H1 p).foldl Lt ⟨0,0,true⟩
def I6 (p:Pt):Int:=if (Uz p != 0) then Uz p else if !(Rd p).ok then 14 else 0

section
variable {S:Type} (live:S->Bool) (step:S->Pt->S)
def Xg:S->List Pt->S
 | s,[]=>s
 | s,p::r=>if live s then Xg (step s p) r else s
theorem cK {s:S}(h:live s=false):∀l,Xg live step s l=s
 | []=>rfl
 | p::r=>by rw [Xg,if_neg (by rw [h];decide)]
theorem sS:∀(l m:List Pt) (s:S),Xg live step s (l++m)=Xg live step (Xg live step s l) m
  | [],m,s=>rfl
  | p::r,m,s=>by
    rw [Cp,Xg,Xg];cases h:live s with
    | true=>rw [if_pos rfl,if_pos rfl];exact sS r m _
    | false=>rw [if_neg (by decide),if_neg (by decide),cK live step h]
theorem goY_nd {s:S}(hs:live s=true)(p:Pt):Xg live step s (H1 p)=Xg live step (step s p) (p.args.flatMap H1):=by
 rw [Ox,Xg,if_pos hs]
theorem qB {Mp:S->Nat->Prop}(hmo:∀s n m,Mp s n->m<=n->Mp s m)(hgo:∀s q n,Mp s (n+1)->Mp (step s q) n):∀(l:List Pt) (s:S) (m:Nat),Mp s (l.length+m)->Mp (Xg live step s l) m
  | [],s,m,h=>by rw [Xg];simpa using h
  | p::r,s,m,h=>by
    rw [Xg];cases hl:live s with
    | false=>rw [if_neg (by decide)];exact hmo _ _ _ h (by omega)
    | true=>
      rw [if_pos rfl];exact qB hmo hgo r _ m (hgo _ _ _ (by rw [A8] at h;rw [show r.length+m+1=r.length+1+m by omega];exact h))
theorem goY_stop {s:S}(hs:live s=true){p:Pt}(h:live (step s p)=false):Xg live step s (H1 p)=step s p:=by
 rw [goY_nd live step hs,cK live step h]
theorem lG {s:S}{l:List Pt}{k:Nat}{a:Pt}(h:l[k]? = some a):Xg live step s ((l.take (k+1)).flatMap H1)=Xg live step (Xg live step s ((l.take k).flatMap H1)) (H1 a):=by
 rw [El h,List.flatMap_append,sS];simp
theorem goY_cut {s:S}{l:List Pt}{k:Nat}{a:Pt}(h:l[k]? = some a)(hd:live (Xg live step s ((l.take (k+1)).flatMap H1))=false):Xg live step s (l.flatMap H1)=Xg live step s ((l.take (k+1)).flatMap H1):=by
 conv=>lhs;rw [<-gH (k+1) l,List.flatMap_append,sS]
 rw [cK live step hd]
end
end Go.Proofs.YtibcelnfkhdjaaaGreatDoor

namespace Go.Aw
open Go

section
variable {l:Nat} {P:Program} {Q:Exit->St->Prop} {s:St}
theorem AWr.ret (h:Q .ret s):AWr l P .ret Q s:=fun n Q' g a w hG hQ=>wpIn_ret (hQ _ g s a w hG (Ext.refl g w) h)
theorem AWr.skip (h:Q .normal s):AWr l P .skip Q s:=fun n Q' g a w hG hQ=>wpIn_skip (hQ _ g s a w hG (Ext.refl g w) h)
theorem AWr.seq {x y:Code}(h:AWr l P x (G7 (AWr l P y Q) Q) s):AWr l P (.seq x y) Q s:=by
 intro n Q' g a w hG hQ;refine wpIn_seq (h n _ g a w hG fun e g' s' a' w' hG' hx hq=>?_);cases e with
 | normal=>exact hq n Q' g' a' w' hG' fun e g'' s'' a'' w'' h1 h2 h3=>hQ e g'' s'' a'' w'' h1 (hx.trans h2) h3
 | _=>exact hQ _ g' s' a' w' hG' hx hq
theorem AWr.cond {c:Operand}{x y:Code}{b:Bool}(hb:Gi s.sl c = .bool b)(ht:b=true->AWr l P x Q s)(hf:b=false->AWr l P y Q s):AWr l P (.cond c x y) Q s:=by
 intro n Q' g a w hG hQ;have hv:=(hb▸hG.eval c:Rep g w _ _).inv_bool;exact wpIn_cond_split hv (fun h=>ht h n Q' g a w hG hQ) (fun h=>hf h n Q' g a w hG hQ)
end

theorem U1.ofE {P:Program}{l:Nat}{rec:Loop}{H:List HO}{args:List AV}{R:AV->List HO->Prop}{sl:List (Nat×AV)}{n0:Nat}(hst:rec.state = .ready)(hpe:rec.pending=none)
  (hsz:rec.tmps.size=n0) (hsl:∀g w vs,Ez g w vs args->∀j,Rep g w (((rec.params.zip vs).foldl (fun t (p,v)=>t.setIfInBounds p v) rec.tmps).getD j undef) (get sl j))
  (h:AWr l P rec.assign (fun e s1=>e = .normal/\∃i:Nat,s1.H[i]? = some (HO.obj l (Obj.loop rec))/\AWr l P rec.body (fun e s2=>∃j:Nat,s2.H[j]? = some (HO.obj l (Obj.loop { rec with state:=.busy }))/\
   ((e = .normal/\R (.bool true) (s2.H.set j (.obj l (.loop rec))))\/(e = .ret/\R (.bool false) (s2.H.set j (.obj l (.loop { rec with state:=.done,pending:=some .ret })))))) ⟨s1.sl,s1.H.set i (.obj l (.loop { rec with state:=.busy })),s1.n⟩) ⟨sl,H,n0⟩):U1 P l rec H args R:=by
 intro n g w vs hH hr;refine roundIn_of_wpIn trivial ?_
 have hfs:∀(L:List (Tmp×Value)) (t:Array Value),(L.foldl (fun t (p,v)=>t.setIfInBounds p v) t).size=t.size:=by
  intro L;induction L with
  | nil=>intro t;rfl
  | cons p r ih=>intro t;rw [List.foldl_cons,ih];simp
 have hG:Gm g ⟨sl,H,n0⟩ { tmps:=(rec.params.zip vs).foldl (fun t (p,v)=>t.setIfInBounds p v) rec.tmps,defers:=[] } w:=
  ⟨by rw [<-Array.foldl_toList];exact (hfs _ _).trans hsz,rfl,fun j=>hsl g w vs hr j,hH⟩
 refine h n _ g _ w hG ?_;rintro e g1 s1 a1 w1 hG1 hx1 ⟨rfl,i,hi,hb⟩;have hob:(HO.obj l (.loop rec)).ok g1 w1:=hG1.heap.ok _ (Ak hi);refine ⟨_,run_beginRound hob.2 hst,?_⟩;obtain ⟨hG2,hx2⟩:=hG1.putObj (.loop { rec with state:=.busy }) hi;refine hb n _ g1 a1 _ hG2 ?_;rintro e g3 s3 a3 w3 hG3 hx3 ⟨j,hj,hR⟩;have hob3:(HO.obj l (.loop { rec with state:=.busy })).ok g3 w3:=hG3.heap.ok _ (Ak hj);rcases hR with ⟨rfl,hR⟩ | ⟨rfl,hR⟩
 .
  obtain ⟨hG4,hx4⟩:=hG3.putObj (.loop rec) hj;refine ⟨_,_,run_endRound none hob3.2,_,g3,.bool true,_,rfl,.bool _,?_,?_,hR⟩
  .
   have:({ ({ rec with state:=.busy }:Loop) with state:=if (none:Option Code).isNone then .ready else .done,pending:=none }:Loop)=rec:=by
    cases rec;simp only at hst hpe;subst hst;subst hpe;rfl
   rw [this];exact hG4.heap
  have:({ ({ rec with state:=.busy }:Loop) with state:=if (none:Option Code).isNone then .ready else .done,pending:=none }:Loop)=rec:=by
   cases rec;simp only at hst hpe;subst hst;subst hpe;rfl
  rw [this];exact ((hx1.trans hx2).trans hx3).trans hx4
 obtain ⟨hG4,hx4⟩:=hG3.putObj (.loop { rec with state:=.done,pending:=some .ret }) hj;exact ⟨_,_,run_endRound (some .ret) hob3.2,_,g3,.bool false,_,rfl,.bool _,hG4.heap,((hx1.trans hx2).trans hx3).trans hx4,hR⟩
theorem AW.regionY2 {P:Program}{Q:Exit->St->Prop}{s:St}{id:Nat}{ops:Array Oper}{pre post:List Oper}{d:Nat}{cal:Operand}{args:Array Operand}{ats:Array TypeId}{ty:TypeId}{pos:String}{aft:Array Edge}
  (hops:ops.toList=pre++⟨some d,.call ⟨.value cal,args,ats⟩,ty,pos,aft,none⟩::post) (hnd:Y6 pre=true) (hnd2:Y6 post=true)
  (h:AOL P ops (fun s'=>∃l rec R,(∃i:Nat,s'.H[i]? = some (HO.obj l (Obj.loop rec)))/\Gi s'.sl cal = .val (.func (.yield l) #[] #[])/\args.size=rec.params.size/\O9 (some d) s'.n=true/\
   U1 P l rec s'.H (args.toList.map (Gi s'.sl)) R/\∀x H',R x H'->AOL P ops (Q .normal) post ⟨Fe (some d) x s'.sl,H',s'.n⟩) pre s):AW P (.region id ops false) Q s:=by
 intro Q' g a w hG hQ;refine (wpIn_wide (n:=1)).1 ?_;rw [<-wideN];refine wpIn_region_list ?_;rw [hops];refine Jy pre _ a w (Xm hnd) ?_;refine h.run _ g a w hG ?_;rintro g' s' a' w' hG' hx ⟨l,rec,R,⟨i,hi⟩,hcal,hlen,hd,hr,hk⟩;show wpListIn _ 1 P ops Q' (_::post) a' w';unfold wpListIn;rw [if_pos (G1 rfl)];refine ⟨fun _ _=>trivial,?_⟩;have hobj:(HO.obj l (.loop rec)).ok g' w':=hG'.heap.ok _ (Ak hi);have hv:a'.eval cal = .func (.yield l) #[] #[]:=(hcal▸hG'.eval cal:Rep g' w' _ _).inv_val;have hargs:Ez g' w' (args.map a'.eval) (args.toList.map (Gi s'.sl)):=dD (ρ:=Gi s'.sl) (a:=a') (g:=g') (w:=w') (args:=args) (fun y _=>hG'.eval y) rfl
 have hrun:(execOp a'.eval ⟨some d,.call ⟨.value cal,args,ats⟩,ty,pos,aft,none⟩).run P w' = .ok (.round l rec.fn ((rec.params.zip (args.map a'.eval)).foldl (fun t (p,v)=>t.setIfInBounds p v) rec.tmps) rec.assign rec.body) w':=by
  have hy:=run_yield (P:=P) (args:=args.map a'.eval) hobj.2 (by simpa using hlen);simp only [execOp,resolve,Sem.run_bind,hv,Deferred.ofValue,Sem.run_pure,Result.andThen_ok,invoke];simpa using hy
 rw [Oper.semAt_eq _ _ _ (fun c e=>by cases e),hrun];refine ⟨fun e=>(by cases e),(hr _ g' w' _ hG'.heap hargs).mono ?_⟩;rintro e w'' ⟨v,g'',r,H',rfl,k1,k2,k3,k4⟩;have hpost:=hk r H' k4;have:=Jy (ro:=none) (n:=1) (Q:=Q') post [] _ w'' (Xm hnd2) (hpost.run _ g'' _ w'' (hG'.put k3 hd k1 k2) fun g3 s3 a3 w3 h1 h2 h3=>hQ _ g3 s3 a3 w3 h1 ((hx.trans k3).trans h2) h3);simpa using this

theorem AW.regionYk {P:Program}{Q:Exit->St->Prop}{s:St}{id:Nat}{ops:Array Oper}(k:Nat){d:Nat}{cal:Operand}{args:Array Operand}{ats:Array TypeId}{ty:TypeId}{pos:String}{aft:Array Edge}
  (hops:ops.toList[k]? = some ⟨some d,.call ⟨.value cal,args,ats⟩,ty,pos,aft,none⟩) (hnd:Y6 (ops.toList.take k)=true) (hnd2:Y6 (ops.toList.drop (k+1))=true)
  (h:AOL P ops (fun s'=>∃l rec R,(∃i:Nat,s'.H[i]? = some (HO.obj l (Obj.loop rec)))/\Gi s'.sl cal = .val (.func (.yield l) #[] #[])/\args.size=rec.params.size/\O9 (some d) s'.n=true/\
   U1 P l rec s'.H (args.toList.map (Gi s'.sl)) R/\∀x H',R x H'->AOL P ops (Q .normal) (ops.toList.drop (k+1)) ⟨Fe (some d) x s'.sl,H',s'.n⟩) (ops.toList.take k) s):AW P (.region id ops false) Q s:=by
 refine AW.regionY2 (pre:=ops.toList.take k) (post:=ops.toList.drop (k+1)) (ats:=ats) (ty:=ty) (pos:=pos) (aft:=aft) ?_ hnd hnd2 h;obtain ⟨hlt,he⟩:=List.getElem?_eq_some_iff.1 hops;rw [<-he,List.getElem_cons_drop,gH]

def Tail (P:Program)(z:Code)(Qs:St->Prop)(s:St):Prop:=
 ∀(Q':Exit->Act->World->Prop) (g:Gh) (a:Act) (w:World) (ds:List Deferred),Gm g s a w->(∀g' s' a' w',Gm g' s' a' w'->Ext g w g' w'->Qs s'->Q' .ret (Act.more a' ds) w')->z.wp P Q' (Act.more a ds) w
theorem nV {P:Program}{ops:Array Oper}{Q:Exit->Act->World->Prop}{ds:List Deferred}:∀(l:List Nat) (a:Act) (w:World),wpOps P ops Q l a w->wpOps P ops (xM ds Q) l (Act.more a ds) w
  | [],a,w,h=>⟨a,rfl,h⟩
  | i::rest,a,w,h=>by
    have h':wpOp P ops Q i (wpOps P ops Q rest) a w:=by
      unfold wpOp;unfold wpOps at h;exact h
    have:=rE (ds:=ds) (K':=wpOps P ops (xM ds Q) rest) (fun a w h=>nV rest a w h) h';unfold wpOp at this;unfold wpOps;exact this
theorem Tail.region {P:Program}{id:Nat}{ops:Array Oper}{Qs:St->Prop}{s:St}(h:AOL P ops Qs ops.toList s):Tail P ((Code.region id ops false).seq .ret) Qs s:=by
 intro Q' g a w ds hG hQ;have key:=Px (P:=P) (ops:=ops) ops.toList 0 a w (by simp) (h.run (fun e a' w'=>match e with | .normal=>Q' .ret (Act.more a' ds) w' | _=>False) g a w hG fun g' s' a' w' h1 h2 h3=>hQ g' s' a' w' h1 h2 h3);rw [<-List.range_eq_range'] at key;have key2:=nV (ds:=ds) _ _ _ key;refine wp_seq (wp_mono (wp_region (by simpa using key2)) ?_);rintro e a' w' ⟨a0,rfl,hq⟩;cases e with
 | normal=>exact wp_ret hq
 | _=>exact hq.elim
theorem Tail.drawn {P:Program}{id:Nat}{ops:Array Oper}{Qs:St->Prop}{s:St}(h:AWD P (.region id ops true) Qs s):Tail P ((Code.region id ops true).seq .ret) Qs s:=by
 intro Q' g a w ds hG hQ;cases h with
 | draw hm K hK hdd hC=>exact tail_more hm K hK hdd hC hG ds hQ

theorem AWX.rangeE {P:Program}{T:List (Nat×TD)}(hT:Kh P T){fn:Func}{R:AV->List HO->Prop}{Q:Exit->St->Prop}{s:St}{go:Operand}{ps:Array Tmp}{assign body z:Code}{bid gf:Nat}{lb:List AV}(Z Y:List HO->Prop)
  (hg:Gi s.sl go = .fn (.func gf) [] lb) (hf:Y0 P gf=true)
  (hit:∀(rec:Loop) (D l:Nat),rec.state = .ready->rec.pending=none->rec.params=ps->rec.assign=assign->rec.body=body->rec.tmps.size=s.n->(∀t v,get s.sl t = .val v->rec.tmps.getD t undef=v)->
   Cc P gf (.obj l (.loop rec) :: .obj D (.deferred (some []))::s.H) (.val (.func (.yield l) #[] #[])::lb)
    (fun r H'=>∃rec' H2,H' = .obj l (.loop rec') :: .obj D (.deferred (some []))::H2/\rec'.state≠.busy/\((rec'.pending=none/\Z H2)\/(rec'.pending=some .ret/\Y H2))))
  (ht:∀D H2,Z H2->Tail P z (endX P T fn R D) ⟨s.sl,.obj D (.deferred (some []))::H2,s.n⟩)
  (hy:∀D H2,Y H2->∃s2,GS ⟨s.sl,.obj D (.deferred (some []))::H2,s.n⟩ s2/\endX P T fn R D s2) :
  AWX2 P (Code.block bid (.rangeFunc go ps assign body)) z Q (yA P fn R) s:=by
 intro Q' g0 a w hG hQ hX;refine wp_block ((wpIn_wide (n:=1)).1 (wpIn_rangeFunc ?_));intro f0 _;obtain ⟨vs0,us,hv,h1,h2⟩:=(hg▸hG.eval go:Rep g0 w _ _).inv_fn;have hvs0:vs0 = #[]:=Array.size_eq_zero_iff.1 (by simpa using h1.1);subst hvs0;obtain ⟨rec,hrec⟩:∃rec:Loop,rec=⟨.ready,none,f0,a.tmps,ps,assign,body,w.heap.size⟩:=⟨_,rfl⟩;obtain ⟨W1,hW1⟩:∃W1,(w.alloc (.deferred (some []))).alloc (.loop rec)=W1:=⟨_,rfl⟩;have hs1:(w.alloc (.deferred (some []))).heap.size=w.heap.size+1:=World.size_alloc ..;have hx1:=Ext.alloc g0 w (.deferred (some [])) (some 0)
 have hH1:HOK (g0.put w.heap.size (some 0)) (w.alloc (.deferred (some []))) (.obj w.heap.size (.deferred (some []))::s.H):=
  (hG.heap.alloc (.deferred (some [])) (some 0)).cons ⟨Gh.Aao ..,Db ..⟩ fun b hb x hx e=>by
   cases hb
   exact absurd (HO.ok_lt (hG.heap.ok x hx) e).1 (Nat.lt_irrefl _)
 have hx2:=Ext.alloc (g0.put w.heap.size (some 0)) (w.alloc (.deferred (some []))) (.loop rec) (some 0)
 have hH2:=(hH1.alloc (.loop rec) (some 0)).cons (o:=.obj (w.alloc (.deferred (some []))).heap.size (.loop rec)) ⟨Gh.Aao ..,Db ..⟩ fun b hb x hx e=>by
   cases hb
   exact absurd (HO.ok_lt (hH1.ok x hx) e).1 (Nat.lt_irrefl _)
 rw [hs1] at hH2 hx2;rw [hW1] at hH2 hx2;refine ⟨w.heap.size+1,[fE w.heap.size],W1,{ target:=.fn (.func gf) us,args:=#[.func (.yield (w.heap.size+1)) #[] #[]] },W1,gf,#[.func (.yield (w.heap.size+1)) #[] #[]]++us,W1,?_,?_,fun _ _=>trivial,?_,fun e=>(by cases e),?_⟩
 . rw [<-hW1,hrec];exact run_enterLoop_outer _ _ _ _ _
 .
  simp only [resolve,hv];simp [go_sem]
 . simp [invoke,go_sem,bS hf]
 have hx12:=hx1.trans hx2;refine callsIn_wide.2 ((hit rec w.heap.size (w.heap.size+1) (by rw [hrec]) (by rw [hrec]) (by rw [hrec]) (by rw [hrec]) (by rw [hrec]) (by rw [hrec];exact hG.size) (by rw [hrec];exact fun t v hv=>(hv▸hG.sl t:Rep g0 w _ _).inv_val) _ W1 _ hH2 ?_).mono ?_)
 .
  have h2':=h2.mono hx12
  exact Ez.append (xs:=[.val (.func (.yield (w.heap.size+1)) #[] #[])]) ⟨rfl,fun i x hi=>by
   cases i with
   | zero=>simp at hi;subst hi;exact .val _
   | succ i=>simp at hi⟩ h2'
 rintro e w3 ⟨v,g3,r,H',rfl,hr3,hH3,hx3,rec',H2,rfl,hnb,hz⟩;have hob:(HO.obj (w.heap.size+1) (.loop rec')).ok g3 w3:=hH3.ok _ (Jg ..);obtain ⟨hH4,hx4⟩:=gX hH3 (i:=0) (.loop { rec' with state:=.exhausted }) rfl;refine ⟨rec'.pending,_,run_endLoop hob.2 hnb,?_⟩;obtain ⟨st',pe',f',t',p',as',bo',de'⟩:=rec'
 have ha:({ a with defers:=[fE w.heap.size]++a.defers }:Act)=Act.more a [fE w.heap.size]:=by
  unfold Act.more;rw [hG.defers];rfl
 rw [ha];have hxa:=(hx12.trans hx3).trans hx4
 have fin:∀g5 s5 a5 w5,Gm g5 s5 a5 w5->Ext g0 w g5 w5->endX P T fn R w.heap.size s5->Q' .ret (Act.more a5 [fE w.heap.size]) w5:=fun g5 s5 a5 w5 hG5 hx5 hq=>by
  obtain ⟨i,hi,xs,hr,H3,hsub,hR⟩:=hq;obtain ⟨hG6,hx6⟩:=hG5.putObj (.deferred none) hi;have hob5:(HO.obj w.heap.size (.deferred (some []))).ok g5 w5:=hG5.heap.ok _ (Ak hi);obtain ⟨v6,k1,k2⟩:=Xu hT hr hG6;refine hX _ _ _ ⟨rfl,w.heap.size,by show a5.defers++_=_;rw [hG5.defers];rfl,hob5.2,v6,g5,_,H3,k1,k2,hG6.heap.sub hsub,hx5.trans hx6,hR⟩
 have hG4:Gm g3 ⟨s.sl,.obj w.heap.size (.deferred (some []))::H2,s.n⟩ a (w3.putObj (w.heap.size+1) (.loop ⟨.exhausted,pe',f',t',p',as',bo',de'⟩)):=⟨hG.size,hG.defers,fun i=>(hG.sl i).mono hxa,hH4.sub (List.sublist_cons_self ..)⟩;rcases hz with ⟨hp,hz⟩ | ⟨hp,hz⟩
 .
  obtain rfl:pe'=none:=hp;exact ht w.heap.size H2 hz Q' g3 a _ [fE w.heap.size] hG4 fun g5 s5 a5 w5 hG5 hx5 hq=>fin g5 s5 a5 w5 hG5 (hxa.trans hx5) hq
 obtain rfl:pe'=some .ret:=hp;obtain ⟨s2,hgs,he⟩:=hy w.heap.size H2 hz;obtain ⟨g4,hG5,hx7⟩:=hgs _ _ _ hG4;exact wpIn_ret (fin g4 s2 a _ hG5 (hxa.trans hx7) he)
end Go.Aw

namespace Go.Proofs.YtibcelnfkhdjaaaGreatDoor
open Go Go.Aw

def AllK (tmps:Array Value):List (Nat×Value)->Prop
 | []=>True
 | p::r=>tmps.getD p.1 undef=p.2/\AllK tmps r
theorem par1 {tmps:Array Value}{n0 k:Nat}{x:AV}{kn:List (Nat×Value)}(hsz:tmps.size=n0)(hk:Nat.blt k n0=true)(hkn:AllK tmps kn):∀g w vs,Ez g w vs [x]->∀j,
    Rep g w ((((#[k]:Array Tmp).zip vs).foldl (fun t (p,v)=>t.setIfInBounds p v) tmps).getD j undef) (get ((k,x)::kn.map fun p=>(p.1,.val p.2)) j):=by
  intro g w vs hr j;have h0:=hr.2 0 _ rfl;have hs:vs.size=1:=hr.1
  obtain ⟨u, rfl⟩ : ∃ u, vs = #[u] := ⟨vs[0], by apply Array.ext; simp [hs]; intro i h1 h2; have : i = 0 := by omega
                                                 subst this;rfl⟩
  have hlt:k<tmps.size:=by have:=Da hk;omega
  rw [<-Array.foldl_toList,Array.toList_zip];show Rep g w ((tmps.setIfInBounds k u).getD j undef) _;rw [Jc];by_cases e:k=j
  . subst e
    rw [if_pos rfl];simp only [E7,Array.getElem?_setIfInBounds];simp [hlt];simpa using h0
  . rw [if_neg e]
    have:(tmps.setIfInBounds k u).getD j undef=tmps.getD j undef:=by
      simp only [E7,Array.getElem?_setIfInBounds];simp [e]
    rw [this];clear this
    induction kn with
    | nil=>exact .junk _
    | cons p r ih=>
      rw [Ao,Jc];by_cases e2:p.1=j
      . rw [if_pos e2,<-hkn.1,e2];exact .val _
      rw [if_neg e2];exact ih hkn.2
theorem U1.ofE2 {P:Program}{l:Nat}{rec:Loop}{H:List HO}{args:List AV}{R:AV->List HO->Prop}{A B:Code}(sl:List (Nat×AV)){n0:Nat}(hst:rec.state = .ready)(hpe:rec.pending=none)
  (hsz:rec.tmps.size=n0) (hsl:∀g w vs,Ez g w vs args->∀j,Rep g w (((rec.params.zip vs).foldl (fun t (p,v)=>t.setIfInBounds p v) rec.tmps).getD j undef) (get sl j)) (has:rec.assign=A) (hbo:rec.body=B)
  (h:AWr l P A (fun e s1=>e = .normal/\∃i:Nat,s1.H[i]? = some (HO.obj l (Obj.loop rec))/\AWr l P B (fun e s2=>∃j:Nat,s2.H[j]? = some (HO.obj l (Obj.loop { rec with state:=.busy }))/\
   ((e = .normal/\R (.bool true) (s2.H.set j (.obj l (.loop rec))))\/(e = .ret/\R (.bool false) (s2.H.set j (.obj l (.loop { rec with state:=.done,pending:=some .ret })))))) ⟨s1.sl,s1.H.set i (.obj l (.loop { rec with state:=.busy })),s1.n⟩) ⟨sl,H,n0⟩):U1 P l rec H args R:=by
 subst has hbo;exact U1.ofE hst hpe hsz hsl h

theorem eX (f:Pt->Int):∀l:List Pt,Xg (fun e:Int=>e==0) (fun _ q=>f q) 0 l=Dk f l
  | []=>rfl
  | a::r=>by
    rw [Xg,if_pos (show ((0:Int)==0)=true from rfl),Dk];by_cases h:f a=0
    . rw [h,eX f r];rfl
    rw [cK _ _ (by simpa using h),if_pos (by simpa using h)]
theorem pR (b:Pt->Bool):∀l:List Pt,Dk (fun q=>if b q then 1 else 0) l=if l.any b then 1 else 0
  | []=>rfl
  | a::r=>by
    rw [Dk,pR b r,O5];cases b a <;> simp
theorem nd_sub:∀p q:Pt,q∈H1 p->L2 q<=L2 p:=by
  intro p
  induction p using Pt.ind with
  | h p ih=>
    intro q hq;rw [Ox,Cu] at hq;rcases hq with rfl | hq
    . exact Be _
    . obtain ⟨a,ha,hq⟩:=List.mem_flatMap.1 hq
      have:=ih a ha q hq;have:=Rw ha;omega
structure medP (p:Pt):Prop where
 n:L2 p<=1048576
 cond:∀q∈H1 p,Ef q.cond<=1048576
theorem medP.len {p:Pt}(h:medP p):∀q∈H1 p,Ef q.cond<=1048576/\q.args.length<=1048576:=fun q hq=>⟨h.cond q hq,by have:=nd_sub p q hq;have:=Vt q;have:=h.n;omega⟩
theorem rst_1 {p:Pt}(h:decide ((64:Int)<(L2 p:Int))=true):Sd p=5:=if_pos h
theorem rst_2 {p:Pt}(h:decide ((64:Int)<(L2 p:Int))=false)(h2:decide ((12:Int)<(dpP p:Int))=true):Sd p=12:=(Bu h).trans (if_pos h2)
theorem rst_3 {p:Pt}(h:decide ((64:Int)<(L2 p:Int))=false)(h2:decide ((12:Int)<(dpP p:Int))=false):Sd p=Dk iV (H1 p):=(Bu h).trans (Bu h2)
theorem rst_0 {p:Pt}(h:(Sd p != 0)=false):L2 p<=64/\dpP p<=12/\Dk iV (H1 p)=0:=by
 have h0:Sd p=0:=by simpa using h
 have a:¬(64:Int)<(L2 p:Int):=fun h=>by rw [rst_1 (Gt h)] at h0;exact absurd h0 (by decide)
 have b:¬(12:Int)<(dpP p:Int):=fun h=>by rw [rst_2 (Gc a) (Gt h)] at h0;exact absurd h0 (by decide)
 refine ⟨by omega,by omega,?_⟩;rw [<-rst_3 (Gc a) (Gc b)];exact h0
theorem cD {α:Type}{f:α->Int}:∀{l:List α},Dk f l=0->∀q∈l,f q=0
  | [],_,q,hq=>(Na hq).elim
  | a::r,h,q,hq=>by
    rw [Dk] at h;by_cases ha:f a=0
    . rw [ha,if_neg (by decide)] at h
      rcases Cu.1 hq with rfl | hq
      . exact ha
      exact cD h q hq
    rw [if_pos (by simpa using ha)] at h;exact absurd h ha
def opOK (q:Pt):Prop:=0<=q.op/\q.op<11
theorem ck_op {q:Pt}(h:iV q=0):opOK q:=by
 have:(decide (q.op<0)||decide (11<=q.op))=false:=by
  cases hc:(decide (q.op<0)||decide (11<=q.op)) with
  | false=>rfl
  | true=>rw [ck_1 hc] at h;exact absurd h (by decide)
 rw [Ey] at this;have h1:=He this.1;have h2:=He this.2;exact ⟨by omega,by omega⟩
theorem rst_ops {p:Pt}(h:(Sd p != 0)=false):∀q∈H1 p,opOK q:=fun q hq=>ck_op (cD (rst_0 h).2.2 q hq)
def uS (q:Pt):Int:=if decide (8<=q.op) then 1 else 0
theorem whl_1 {p:Pt}(h:(Sd p != 0)=true):Uz p=Sd p:=if_pos h
theorem whl_2 {p:Pt}(h:(Sd p != 0)=false):Uz p=Dk uS (H1 p):=by
 rw [show Dk uS (H1 p)=_ from pR _ _];exact Bu h
theorem whl_0 {p:Pt}(h:(Uz p != 0)=false):(Sd p != 0)=false:=by
 cases hr:Sd p != 0 with
 | false=>rfl
 | true=>rw [whl_1 hr,hr] at h;exact absurd h (by decide)
theorem chk_1 {p:Pt}(h:(Uz p != 0)=true):I6 p=Uz p:=if_pos h
theorem chk_2 {p:Pt}(h:(Uz p != 0)=false)(h2:(!(Rd p).ok)=true):I6 p=14:=(Bu h).trans (if_pos h2)
theorem chk_3 {p:Pt}(h:(Uz p != 0)=false)(h2:(!(Rd p).ok)=false):I6 p=0:=(Bu h).trans (Bu h2)
theorem chk_0 {p:Pt}(h:(I6 p != 0)=false):(Uz p != 0)=false:=by
 cases hr:Uz p != 0 with
 | false=>rfl
 | true=>rw [chk_1 hr,hr] at h;exact absurd h (by decide)

def oW (c:Cnt)(n:Nat):Prop:=0<=c.vars/\0<=c.scopes/\c.vars+n<=3000000/\c.scopes+n<=3000000
theorem cnt_mono (c:Cnt)(n m:Nat)(h:oW c n)(hm:m<=n):oW c m:=⟨h.1,h.2.1,by have:=h.2.2.1;omega,by have:=h.2.2.2;omega⟩
theorem cnt_step (c:Cnt)(q:Pt)(n:Nat)(h:oW c (n+1)):oW (Lt c q) n:=by
 obtain ⟨h1,h2,h3,h4⟩:=h;unfold Lt oW;refine ⟨?_,?_,?_,?_⟩ <;> simp only <;> split <;> omega
theorem goY_cnt:∀(l:List Pt) (c:Cnt),Xg (fun _=>true) Lt c l=l.foldl Lt c
 | [],c=>rfl
 | a::r,c=>by rw [Xg,if_pos rfl,goY_cnt r,List.foldl_cons]
section
variable {c:Cnt} {q:Pt}
theorem stp_yy (h1:(Ll q.op).typed=true)(h2:(Ll q.op).scope=true):(⟨c.vars+1,c.scopes+1,(c.ok&&(q.var==c.vars))&&(q.scope==c.scopes)⟩:Cnt)=Lt c q:=by unfold Lt;rw [h1,h2];simp
theorem stp_yn (h1:(Ll q.op).typed=true)(h2:(Ll q.op).scope=false):(⟨c.vars+1,c.scopes,c.ok&&(q.var==c.vars)⟩:Cnt)=Lt c q:=by unfold Lt;rw [h1,h2];simp
theorem stp_ny (h1:(Ll q.op).typed=false)(h2:(Ll q.op).scope=true):(⟨c.vars,c.scopes+1,c.ok&&(q.scope==c.scopes)⟩:Cnt)=Lt c q:=by unfold Lt;rw [h1,h2];simp
theorem stp_nn (h1:(Ll q.op).typed=false)(h2:(Ll q.op).scope=false):(⟨c.vars,c.scopes,c.ok⟩:Cnt)=Lt c q:=by unfold Lt;rw [h1,h2];simp
end

structure Qy where
 name:Ac
 vars:List Va
 key:List Int
 pattern:Pt
 returns:List Ex
def qR:Qy:=⟨[],[],[],pt0,[]⟩
@[reducible] def cQyW (q : Qy) (rs : AV) : List AV := [.str q.name, .sl 2 (q.vars.map U6), .sl 1 (q.key.map cI), .int .i64 q.pattern.op, .sl 14 (q.pattern.args.map Xa), .int .i64 q.pattern.type, .int .i64 q.pattern.var, .int .i64 q.pattern.scope, .int .i64 q.pattern.span, .int .i64 q.pattern.cond.op, .sl 8 (q.pattern.cond.args.map Ix), .int .i64 q.pattern.cond.var, .int .i64 q.pattern.cond.field, .int .i64 q.pattern.cond.kind, .int .i64 q.pattern.cond.val.kind, .int .i64 q.pattern.cond.val.num, .str q.pattern.cond.val.text, rs]
@[reducible] def cQy (q : Qy) : List AV := cQyW q (.sl 8 (q.returns.map Ix))

section
variable {T:List e8Sc} {V:List Va}
theorem leaf_size (t:Syn)(xs:List Ex):Ef (Ml T V t xs)<=1+(xs.map Ef).sum:=by
 unfold Ml;split
 . rw [Ls];simp
 split
 . split <;> · rw [Ls];simp
 split
 . rw [Ls];simp
 split
 . rw [Ls];simp
 split <;> · rw [Ls];exact Be _
theorem Ys:∀t:Syn,Ef (Dv T V t)<=K7 t:=by
  intro t
  induction t using Syn.ind with
  | h t ih=>
    rw [Hg,Jn];refine F4 (leaf_size t _) ?_
    have:∀l:List Syn,(∀a∈l,Ef (Dv T V a)<=K7 a)->((l.map (Dv T V)).map Ef).sum<=I7 l:=by
      intro l
      induction l with
      | nil=>intro _;exact Bk _
      | cons x r ih2=>intro h;rw [Ao,Ao,Jq,J0];have:=h x (by simp);have:=ih2 fun a ha=>h a (by simp [ha]);omega
    have:=this _ ih;omega
theorem oY (t:Syn):Ef (Iv T V t)<=K7 t:=by
 unfold Iv;split
 .
  rename_i h;have h0:0<t.kids.length:=by have:=Ec h;omega
  have:=rU (Ak (Hc h0));have h2:=Ys (T:=T) (V:=V) (Aq t 0);rw [Jn];omega
 rw [show Ef Jp=1 from rfl,Jn];omega
theorem ptn_size {t:Syn}{s:Nx}(xs:List Pt)(hc:Ag t .pats=0):Ef (Pu T V t s xs).cond<=K7 t:=by
 have h1:1<=K7 t:=by rw [Jn];omega
 have hk:∀j,j<t.kids.length->K7 (Aq t j)<=K7 t:=fun j h=>by
  have:=rU (Ak (Hc h));have h9:=Jn t;omega
 unfold Pu;split
 . exact oY t
 split
 .
  rename_i hq;have h2:=M7 hc (.inl (by simpa using hq));exact F4 (oY (Aq t 1)) (hk 1 (by omega))
 split
 . exact h1
 split
 .
  rename_i hq;have h2:=M7 hc (.inr (by simpa using hq));exact F4 (Ys (Aq t 1)) (hk 1 (by omega))
 exact h1
theorem ptt_size:∀t:Syn,Ag t .pats=0->∀s:Nx,L2 (Iy T V t s).1<=K7 t/\∀q∈H1 (Iy T V t s).1,Ef q.cond<=K7 t:=by
  intro t
  induction t using Syn.ind with
  | h t ih=>
    intro hc s
    have key:∀l:List Syn,(∀a∈l,a∈Cn t)->∀s:Nx,((E0 T V l s).1.map L2).sum<=I7 l/\∀q∈(E0 T V l s).1.flatMap H1,Ef q.cond<=I7 l:=by
      intro l
      induction l with
      | nil=>intro _ s;rw [E0];exact ⟨Bk _,fun q h=>by simp at h⟩
      | cons x r ih2=>
        intro hl s;have hx:=ih x (Kr (hl x (by simp))) (M8 hc (hl x (by simp))) s;have hr:=ih2 (fun a ha=>hl a (by simp [ha])) (Iy T V x s).2;rw [E0,J0];refine ⟨by simp only [Ao,Jq];have:=hx.1;have:=hr.1;omega,fun q hq=>?_⟩;simp only [J9] at hq;rcases G2.1 hq with hq | hq
        . have:=hx.2 q hq;omega
        have:=hr.2 q hq;omega
    have hk:=key (Cn t) (fun a ha=>ha) (Uq t s);have hp:=iW t;rw [On];refine ⟨by rw [Oy,Jn];simp only;have:=hk.1;omega,fun q hq=>?_⟩;rw [Ox] at hq;rcases Cu.1 hq with rfl | hq
    . simp only;exact ptn_size [] hc
    have:=hk.2 q hq;rw [Jn];omega
theorem ptt_med {t:Syn}(ht:aZ t)(hc:Ag t .pats=0)(s:Nx):medP (Iy T V t s).1:=by
 have h:=ptt_size (T:=T) (V:=V) t hc s;have hm:=Vz ht;exact ⟨by have:=h.1;omega,fun q hq=>by have:=h.2 q hq;omega⟩
end

structure TsOK (T:List e8Sc):Prop where
 tl:T.length<=1048576
 fl:∀s∈T,s.fields.length<=1048576
 nd:(H4 T).Nodup
theorem decV_ok {T:List e8Sc}{t:Syn}(h:(H4 T).contains t.text=true):0<=(K9 T t).type/\(K9 T t).type<(T.length:Int):=by
 have:=Le h;rw [Bg] at this;exact this
theorem oZ {T:List e8Sc}{V:List Va}{t:Syn}(h:(Lo T V t != 0)=false):(H4 T).contains t.text=true/\(H5 V).contains t.name=false/\V.length≠16:=by
 have h0:Lo T V t=0:=by simpa using h
 unfold Lo at h0;split at h0
 . cases h0
 rename_i h1;split at h0
 . cases h0
 rename_i h2;split at h0
 . cases h0
 rename_i h3;exact ⟨by simpa using h2,by simpa using h3,fun e=>h1 (by simp [e])⟩
theorem vM {T:List e8Sc}:∀(l:List Syn) (V:List Va),V.length<=16->(∀v∈V,0<=v.type/\v.type<(T.length:Int))->(K8 T V l).1.length<=16/\∀v∈(K8 T V l).1,0<=v.type/\v.type<(T.length:Int)
  | [],V,h1,h2=>⟨h1,h2⟩
  | t::r,V,h1,h2=>by
    rw [J1];cases hq:Lo T V t != 0 with
    | true=>rw [if_pos rfl];exact ⟨h1,h2⟩
    | false=>
      rw [Bu rfl];have hd:=oZ hq;refine vM r _ (by rw [Al,E6];have:=hd.2.2;omega) fun v hv=>?_
      rcases G2.1 hv with hv | hv
      . exact h2 v hv
      rw [D5.1 hv];exact decV_ok hd.1
theorem dec_rv {T:List e8Sc}(hT:TsOK T)(l:List Syn):RvOK T (K8 T [] l).1:=by
 have h:=vM (T:=T) l [] (by simp) (fun v hv=>(Na hv).elim);exact ⟨hT.tl,hT.fl,by have:=h.1;omega,h.2⟩
theorem pat_shape {t:Syn}(h:Ag t .pats=0)(h5:t.kind≠5):0<t.kids.length:=by
 have hs:=(Bz (Bx h).1).2.1;have hr:=Ql h;unfold Ct at hs;have:t.kind=6\/t.kind=7\/t.kind=8\/t.kind=9\/t.kind=10\/t.kind=11\/t.kind=12:=by omega
 rcases this with hk | hk | hk | hk | hk | hk | hk <;> · rw [hk] at hs;simp at hs;omega
theorem ev_some:∀t:Syn,Ag t .pats=0->Lb t≠[]:=by
  intro t
  induction t using Syn.ind with
  | h t ih=>
    intro hc;rw [aF];split
    . simp
    . rename_i h5
      have h5':t.kind≠5:=by simpa using h5
      have hl:=pat_shape hc h5';have hk:=Hc hl;have hm:=Ak hk;have h0:=ih _ hm (Y8 hc h5' hk fun _=>rfl);split
      . simp
      . split
        . rw [sH hl];exact h0
        . intro he
          rw [List.flatMap_eq_nil_iff] at he;exact h0 (he _ hm)
theorem dec_pos {T:List e8Sc}{l:List Syn}(hl:l≠[])(h:((K8 T [] l).2.err != 0)=false):0<T.length:=by
  cases l with
  | nil=>exact (hl rfl).elim
  | cons t r=>
    rw [J1] at h;cases hq:Lo T [] t != 0 with
    | true=>rw [if_pos hq] at h;simp only at h;rw [hq] at h;cases h
    | false=>
      have:=Le (oZ hq).1;rw [Bg] at this;omega

section
variable (T:List e8Sc) (t:Syn)
def H8:List Va:=(K8 T [] (Lb (Aq t 1))).1
def vfR:Fa:=(K8 T [] (Lb (Aq t 1))).2
def qG (V:List Va):List Int×Bool:=if ((Aq t 0).text != []) then Pf T V (Aq t 0).text else ([],true)
def rtF (V:List Va)(x:Syn):Fa:=if (Gn (Dv T V x) != 0) then ⟨x.pos,Gn (Dv T V x)⟩ else Np
def uR (V:List Va):Pt:=(Iy T V (Aq t 1) ⟨0,0⟩).1
def mY (V:List Va):Qy:=⟨t.text,V,(qG T t V).1,uR T t V,(t.kids.drop 2).map (Dv T V)⟩
def QR4 (V:List Va):Qy×Fa:=if ((Ia (rtF T V) (t.kids.drop 2)).err != 0) then (qR,Ia (rtF T V) (t.kids.drop 2)) else (mY T t V,Np)
def QR3 (V:List Va):Qy×Fa:=if (I6 (uR T t V) != 0) then (qR,⟨(Aq t 1).pos,I6 (uR T t V)⟩) else QR4 T t V
def QR2 (V:List Va):Qy×Fa:=if ((Fr T V t).err != 0) then (qR,Fr T V t) else QR3 T t V
def QR1 (V:List Va):Qy×Fa:=if (!(qG T t V).2) then (qR,⟨(Aq t 0).pos,16⟩) else QR2 T t V
def Co:Qy×Fa:=if ((vfR T t).err != 0) then (qR,vfR T t) else QR1 T t (H8 T t)
end
section
variable {T:List e8Sc} {t:Syn} {V:List Va}
theorem qr_1 (h:((vfR T t).err != 0)=true):Co T t=(qR,vfR T t):=if_pos h
theorem qr_b (h:((vfR T t).err != 0)=false):Co T t=QR1 T t (H8 T t):=Bu h
theorem lT (h:((Aq t 0).text != [])=true):qG T t V=Pf T V (Aq t 0).text:=if_pos h
theorem ky_no (h:((Aq t 0).text != [])=false):qG T t V=([],true):=Bu h
theorem qr_2 (h:(!(qG T t V).2)=true):QR1 T t V=(qR,⟨(Aq t 0).pos,16⟩):=if_pos h
theorem qr_c (h:(!(qG T t V).2)=false):QR1 T t V=QR2 T t V:=Bu h
theorem qr_3 (h:((Fr T V t).err != 0)=true):QR2 T t V=(qR,Fr T V t):=if_pos h
theorem qr_d (h:((Fr T V t).err != 0)=false):QR2 T t V=QR3 T t V:=Bu h
theorem qr_4 (h:(I6 (uR T t V) != 0)=true):QR3 T t V=(qR,⟨(Aq t 1).pos,I6 (uR T t V)⟩):=if_pos h
theorem qr_e (h:(I6 (uR T t V) != 0)=false):QR3 T t V=QR4 T t V:=Bu h
theorem rt_yes {x:Syn}(h:(Gn (Dv T V x) != 0)=true):rtF T V x=⟨x.pos,Gn (Dv T V x)⟩:=if_pos h
theorem rt_no {x:Syn}(h:(Gn (Dv T V x) != 0)=false):rtF T V x=Np:=Bu h
theorem qr_5 {k:Nat}{x:Syn}(ha:(t.kids.drop 2)[k]? = some x)(hn:((t.kids.drop 2).take k).any (fun x=>(rtF T V x).err != 0)=false)(h:(Gn (Dv T V x) != 0)=true):QR4 T t V=(qR,⟨x.pos,Gn (Dv T V x)⟩):=by
 have h1:=kL ha hn (by rw [rt_yes h];exact h);unfold QR4;rw [h1,rt_yes h];exact if_pos h
theorem qr_6 (hn:(t.kids.drop 2).any (fun x=>(rtF T V x).err != 0)=false):QR4 T t V=(mY T t V,Np):=by
 unfold QR4;rw [eD hn];rfl
structure QryOK (t:Syn):Prop where
 m:aZ t
 c:Ag t (.only 3)=0
theorem QryOK.kind (h:QryOK t):t.kind=3:=Dz (Bz (Bx h.c).1).1
theorem QryOK.len (h:QryOK t):3<=t.kids.length:=by
 have hs:=(Bz (Bx h.c).1).2.1;unfold Ct at hs;rw [h.kind] at hs;simp at hs;omega
theorem QryOK.pat (h:QryOK t):Ag (Aq t 1) .pats=0:=by
 have hk:=(Dl h.c (Hc (k:=1) (by have:=h.len;omega))).1;unfold Cr at hk;rw [h.kind] at hk;exact hk
theorem QryOK.med1 (h:QryOK t):aZ (Aq t 1):=tE h.m (by have:=h.len;omega)
theorem QryOK.evl (h:QryOK t):(Lb (Aq t 1)).length<=1048576:=by
 have:=sI (Aq t 1);have:=Vz h.med1;omega
end

section
variable (T:List e8Sc) (t:Syn)
end
theorem Sj {t:Syn}{p:Pl}(h:((Ba t p).2 != 0)=false):Ag t p=0:=by
  cases hc:Ag t p != 0 with
  | false=>simpa using hc
  | true=>
    have:(Ba t p).2=Ag t p:=by unfold Ba;rw [if_pos hc]
    rw [this,hc] at h;cases h
theorem dN:∀(l:List e8Sc) (seen:List (List UInt8)),N3 seen l=0->seen.Nodup->(seen++l.map (·.name)).Nodup/\∀s∈l,Ot s=0
  | [],seen,h,hn=>⟨by simpa using hn,fun s hs=>(Na hs).elim⟩
  | s::r,seen,h,hn=>by
    rw [N3] at h;split at h
    . rename_i h1;rw [h] at h1;cases h1
    . rename_i h1
      have h0:Nj seen s=0:=by simpa using h1
      have hc:s.name∉seen:=by
        intro hm;unfold Nj at h0;split at h0
        . rename_i h2;rw [h0] at h2;cases h2
        . rename_i h2
          rw [if_pos (by simpa using hm)] at h0;cases h0
      have hz:Ot s=0:=by
        unfold Nj at h0;split at h0
        . rename_i h2;rw [h0] at h2;cases h2
        rename_i h2;simpa using h2
      have ih:=dN r (seen ++ [s.name]) h (Ih.2 ⟨hn,by simp,fun a ha b hb=>by rw [D5.1 hb];exact fun e=>hc (e▸ha)⟩);refine ⟨by simpa using ih.1,fun x hx=>?_⟩;rcases Cu.1 hx with rfl | hx
      . exact hz
      exact ih.2 x hx
theorem rM {T:List e8Sc}(h:(Fv T != 0)=false):T.length<=16/\(H4 T).Nodup/\∀s∈T,Ot s=0:=by
 have h0:Fv T=0:=by simpa using h
 unfold Fv at h0;split at h0
 . cases h0
 rename_i h1;have:=dN T [] h0 O4;exact ⟨by have:=h1;simp at this;omega,by simpa using this.1,this.2⟩
theorem uA {s:e8Sc}(h:Ot s=0):s.fields.length<=8:=by
 unfold Ot at h;split at h
 . cases h
 split at h
 . cases h
 rename_i h2;simp at h2;omega
theorem all_ts {T:List e8Sc}(h:(Fv T != 0)=false):TsOK T:=by
 obtain ⟨h1,h2,h3⟩:=rM h;exact ⟨by omega,fun s hs=>by have:=uA (h3 s hs);omega,h2⟩

def Fy:List Fi->List Syn->List Fi×Fa
 | fs,[]=>(fs,Np)
 | fs,x::r=>if ((fs.length:Int)==8) then (fs,⟨x.pos,5⟩) else if (fs.map (·.name)).contains x.text then (fs,⟨x.pos,7⟩) else Fy (fs ++ [⟨x.text,x.num⟩]) r
def Fw:List e8Sc->List Syn->List e8Sc×Fa
  | out,[]=>(out,Np)
  | out,k::r=>
    if (k.kind != 1) then Fw out r
    else if ((out.length:Int)==16) then ([],⟨k.pos,5⟩)
    else if (H4 out).contains k.text then ([],⟨k.pos,7⟩)
    else if ((Fy [] k.kids).2.err != 0) then ([],(Fy [] k.kids).2)
    else Fw (out ++ [⟨k.text,(Fy [] k.kids).1⟩]) r
def Ga (t:Syn):List e8Sc×Fa:=Fw [] t.kids
section
variable {out:List e8Sc} {l:List Syn} {k:Nat} {a:Syn}
theorem typ_skip (ha:l[k]? = some a)(h:(a.kind != 1)=true):Fw out (l.drop k)=Fw out (l.drop (k+1)):=by rw [A4 ha,Fw,if_pos h]
theorem typ_5 (ha:l[k]? = some a)(h:(a.kind != 1)=false)(h2:((out.length:Int)==16)=true):Fw out (l.drop k)=([],⟨a.pos,5⟩):=by rw [A4 ha,Fw,Bu h,if_pos h2]
theorem typ_7 (ha:l[k]? = some a)(h:(a.kind != 1)=false)(h2:((out.length:Int)==16)=false)(h3:(H4 out).contains a.text=true):Fw out (l.drop k)=([],⟨a.pos,7⟩):=by rw [A4 ha,Fw,Bu h,Bu h2,if_pos h3]
theorem typ_n (ha:l[k]? = some a)(h:(a.kind != 1)=false)(h2:((out.length:Int)==16)=false)(h3:(H4 out).contains a.text=false):Fw out (l.drop k)=if ((Fy [] a.kids).2.err != 0) then ([],(Fy [] a.kids).2) else Fw (out ++ [⟨a.text,(Fy [] a.kids).1⟩]) (l.drop (k+1)):=by rw [A4 ha,Fw,Bu h,Bu h2,Bu h3]
theorem typ_f (ha:l[k]? = some a)(h:(a.kind != 1)=false)(h2:((out.length:Int)==16)=false)(h3:(H4 out).contains a.text=false){fs:List Fi}{f:Fa}(hf:Fy [] a.kids=(fs,f))(he:f.err≠0):Fw out (l.drop k)=([],f):=by
 rw [typ_n ha h h2 h3,hf];exact if_pos (by simpa using he)
theorem typ_on (ha:l[k]? = some a)(h:(a.kind != 1)=false)(h2:((out.length:Int)==16)=false)(h3:(H4 out).contains a.text=false){fs:List Fi}(hf:Fy [] a.kids=(fs,Np)):Fw out (l.drop k)=Fw (out ++ [⟨a.text,fs⟩]) (l.drop (k+1)):=by
 rw [typ_n ha h h2 h3,hf];rfl
variable {fs:List Fi}
theorem fld_5 (ha:l[k]? = some a)(h:((fs.length:Int)==8)=true):Fy fs (l.drop k)=(fs,⟨a.pos,5⟩):=by rw [A4 ha,Fy,if_pos h]
theorem fld_7 (ha:l[k]? = some a)(h:((fs.length:Int)==8)=false)(h2:(fs.map (·.name)).contains a.text=true):Fy fs (l.drop k)=(fs,⟨a.pos,7⟩):=by rw [A4 ha,Fy,Bu h,if_pos h2]
theorem fld_on (ha:l[k]? = some a)(h:((fs.length:Int)==8)=false)(h2:(fs.map (·.name)).contains a.text=false):Fy fs (l.drop k)=Fy (fs ++ [⟨a.text,a.num⟩]) (l.drop (k+1)):=by rw [A4 ha,Fy,Bu h,Bu h2]
end
theorem scFi (l:List Fi):∀c∈l.map cFi,Av c=true:=fun c hc=>by
 obtain ⟨x,_,rfl⟩:=Cd.1 hc;rfl
theorem scSc (l:List e8Sc):∀c∈l.map Oh,Av c=true:=fun c hc=>by
 obtain ⟨x,_,rfl⟩:=Cd.1 hc;rfl
theorem len16 {n:Nat}(h:n<=16)(h2:((n:Int)==16)=false):n+1<=16:=by
 have:n≠16:=fun e=>by subst e;exact absurd h2 (by decide)
 omega
theorem len8 {n:Nat}(h:n<=8)(h2:((n:Int)==8)=false):n+1<=8:=by
 have:n≠8:=fun e=>by subst e;exact absurd h2 (by decide)
 omega


theorem pX:∀(l:List Syn) (fs:List Fi),fs.length<=8->(Fy fs l).1.length<=8
  | [],fs,h=>h
  | x::r,fs,h=>by
    rw [Fy];split
    . exact h
    . rename_i h1
      split
      . exact h
      exact pX r _ (by rw [Al,E6];exact len8 h (by simpa using h1))
theorem nL:∀(l:List Syn) (out:List e8Sc),(out.length<=16/\(∀s∈out,s.fields.length<=8)/\(H4 out).Nodup)->((Fw out l).1.length<=16/\(∀s∈(Fw out l).1,s.fields.length<=8)/\(H4 (Fw out l).1).Nodup)
  | [],out,h=>h
  | k::r,out,h=>by
    have hz:(([]:List e8Sc).length<=16/\(∀s∈([]:List e8Sc),s.fields.length<=8)/\(H4 []).Nodup):=⟨Bk _,fun s hs=>(Na hs).elim,O4⟩;rw [Fw];split
    . exact nL r out h
    . split
      . exact hz
      . rename_i h2
        split
        . exact hz
        . rename_i h3
          split
          . exact hz
          . refine nL r _ ⟨by rw [Al,E6];exact len16 h.1 (by simpa using h2),fun s hs=>?_,?_⟩
            . rcases G2.1 hs with hs | hs
              . exact h.2.1 s hs
              rw [D5.1 hs];exact pX _ _ (Bk _)
            . have h3':k.text∉H4 out:=by simpa using h3
              show (List.map (·.name) (out ++ [_])).Nodup;rw [Di];exact Ih.2 ⟨h.2.2,by simp,fun a ha b hb=>by rw [D5.1 hb];exact fun e=>h3' ((show a=k.text from e)▸ha)⟩
theorem uI (t:Syn):(Ga t).1.length<=16/\(∀s∈(Ga t).1,s.fields.length<=8)/\(H4 (Ga t).1).Nodup:=nL t.kids [] ⟨Bk _,fun s hs=>(Na hs).elim,O4⟩
theorem typ_ts (t:Syn):TsOK (Ga t).1:=⟨by have:=(uI t).1;omega,fun s hs=>by have:=(uI t).2.1 s hs;omega,(uI t).2.2⟩
theorem Y1 {t a:Syn}(hc:Ag t (.only 0)=0){k:Nat}(ha:t.kids[k]? = some a)(h3:a.kind=3):Ag a (.only 3)=0:=by
 have hk:=Dz (Bz (Bx hc).1).1;have h:=Dl hc ha;unfold Cr at h;rw [hk] at h;rw [if_pos (by decide)] at h;split at h
 . have:=Dz h.2;omega
 exact h.1
structure Pg where
 types:List e8Sc
 queries:List Qy
def pg0:Pg:=⟨[],[]⟩
@[reducible] def cPg (p : Pg) : List AV := [.sl 2 (p.types.map Oh), .sl 18 (p.queries.map cQy)]
def Dr (T:List e8Sc):List Qy->List Syn->List Qy×Fa
  | qs,[]=>(qs,Np)
  | qs,k::r=>
    if (k.kind != 3) then Dr T qs r
    else if ((qs.length:Int)==16) then ([],⟨k.pos,5⟩)
    else if (qs.map (·.name)).contains k.text then ([],⟨k.pos,7⟩)
    else if ((Co T k).2.err != 0) then ([],(Co T k).2)
    else Dr T (qs ++ [(Co T k).1]) r
section
variable {T:List e8Sc} {qs:List Qy} {l:List Syn} {k:Nat} {a:Syn}
theorem prg_skip (ha:l[k]? = some a)(h:(a.kind != 3)=true):Dr T qs (l.drop k)=Dr T qs (l.drop (k+1)):=by rw [A4 ha,Dr,if_pos h]
theorem prg_5 (ha:l[k]? = some a)(h:(a.kind != 3)=false)(h2:((qs.length:Int)==16)=true):Dr T qs (l.drop k)=([],⟨a.pos,5⟩):=by rw [A4 ha,Dr,Bu h,if_pos h2]
theorem prg_7 (ha:l[k]? = some a)(h:(a.kind != 3)=false)(h2:((qs.length:Int)==16)=false)(h3:(qs.map (·.name)).contains a.text=true):Dr T qs (l.drop k)=([],⟨a.pos,7⟩):=by rw [A4 ha,Dr,Bu h,Bu h2,if_pos h3]
theorem prg_f (ha:l[k]? = some a)(h:(a.kind != 3)=false)(h2:((qs.length:Int)==16)=false)(h3:(qs.map (·.name)).contains a.text=false)(h4:((Co T a).2.err != 0)=true):Dr T qs (l.drop k)=([],(Co T a).2):=by rw [A4 ha,Dr,Bu h,Bu h2,Bu h3,if_pos h4]
theorem prg_on (ha:l[k]? = some a)(h:(a.kind != 3)=false)(h2:((qs.length:Int)==16)=false)(h3:(qs.map (·.name)).contains a.text=false)(h4:((Co T a).2.err != 0)=false):Dr T qs (l.drop k)=Dr T (qs ++ [(Co T a).1]) (l.drop (k+1)):=by rw [A4 ha,Dr,Bu h,Bu h2,Bu h3,Bu h4]
end
theorem mU {T:List e8Sc}{t:Syn}(h:((Co T t).2.err != 0)=false):(Co T t).1.name=t.text/\(Co T t).2=Np:=by
 have key:∀{c:Bool} {f:Fa} {x:Qy×Fa},((if c then (qR,f) else x).2.err != 0)=false->(c=true->(f.err != 0)=true)->(if c then (qR,f) else x)=x:=fun {c f x} h1 h2=>by
  cases c with
  | false=>rfl
  | true=>rw [if_pos rfl] at h1;rw [h2 rfl] at h1;cases h1
 have h1:=key h (fun h=>h);unfold Co at h ⊢;rw [h1] at h ⊢;have h2:=key (c:=!(qG T t (H8 T t)).2) h (fun _=>rfl);unfold QR1 at h ⊢;rw [h2] at h ⊢;have h3:=key h (fun h=>h);unfold QR2 at h ⊢;rw [h3] at h ⊢;have h4:=key (f:=⟨(Aq t 1).pos,I6 (uR T t (H8 T t))⟩) h (fun h=>h);unfold QR3 at h ⊢;rw [h4] at h ⊢;have h5:=key h (fun h=>h);unfold QR4 at h ⊢;rw [h5] at h ⊢;exact ⟨rfl,rfl⟩
def rJ (t:Syn)(T:List e8Sc):Pg×Int×Int:=if ((Dr T [] t.kids).2.err != 0) then (pg0,(Dr T [] t.kids).2.pos,(Dr T [] t.kids).2.err) else (⟨T,(Dr T [] t.kids).1⟩,0,0)
def Jt (t:Syn):Pg×Int×Int:=if ((Ba t (.only 0)).2 != 0) then (pg0,0,3) else if ((Ga t).2.err != 0) then (pg0,(Ga t).2.pos,(Ga t).2.err) else rJ t (Ga t).1
section
variable {t:Syn}
theorem pp_1 (h:((Ba t (.only 0)).2 != 0)=true):Jt t=(pg0,0,3):=if_pos h
theorem pp_2 (h:((Ba t (.only 0)).2 != 0)=false)(h2:((Ga t).2.err != 0)=true):Jt t=(pg0,(Ga t).2.pos,(Ga t).2.err):=(Bu h).trans (if_pos h2)
theorem pp_n (h:((Ba t (.only 0)).2 != 0)=false)(h2:((Ga t).2.err != 0)=false):Jt t=rJ t (Ga t).1:=(Bu h).trans (Bu h2)
theorem pp_e (h:((Ba t (.only 0)).2 != 0)=false)(h2:((Ga t).2.err != 0)=false){f:Fa}(h3:Dr (Ga t).1 [] t.kids=([],f))(hf:(f.err != 0)=true):Jt t=(pg0,f.pos,f.err):=by
 rw [pp_n h h2];unfold rJ;rw [h3];exact if_pos hf
theorem pp_y (h:((Ba t (.only 0)).2 != 0)=false)(h2:((Ga t).2.err != 0)=false){qs:List Qy}(h3:Dr (Ga t).1 [] t.kids=(qs,Np)):Jt t=(⟨(Ga t).1,qs⟩,0,0):=by
 rw [pp_n h h2];unfold rJ;rw [h3];rfl
end
theorem scQy (l:List Qy):∀c∈l.map cQy,Av c=true:=fun c hc=>by
 obtain ⟨x,_,rfl⟩:=Cd.1 hc;rfl

section
variable {p:Pt}
end
theorem pS {α:Type}{f:α->Int}:∀{l:List α} {k:Nat} {a:α},l[k]? = some a->(l.take k).any (fun x=>f x != 0)=false->(f a != 0)=true->Dk f l=f a
  | [],k,a,h,_,_=>by simp at h
  | b::r,0,a,h,_,hp=>by simp at h;subst h;rw [Dk,if_pos hp]
  | b::r,k+1,a,h,hn,hp=>by
    rw [bH,O5,Ey] at hn;rw [Dk,if_neg (by rw [hn.1];decide)];exact pS (by simpa using h) hn.2 hp
theorem Rh {α:Type}{f:α->Int}:∀{l:List α},l.any (fun x=>f x != 0)=false->Dk f l=0
  | [],_=>rfl
  | b::r,h=>by
    rw [O5,Ey] at h;rw [Dk,if_neg (by rw [h.1];decide)];exact Rh h.2

theorem vJ:∀(l:List Pt) (c:Cnt),c.ok=false->(l.foldl Lt c).ok=false
 | [],c,h=>h
 | q::r,c,h=>by rw [List.foldl_cons];exact vJ r _ (by unfold Lt;simp [h])
section
variable {v s:Int} {l:List Pt} {k:Nat} {a:Pt}
end

def hdP (a b:Pt):Bool:=((((((a.op != b.op)||(a.type != b.type))||(a.var != b.var))||(a.scope != b.scope))||(a.span != b.span)) || !Fx a.cond b.cond)||((a.args.length:Int) != (b.args.length:Int))
mutual
def smP:Pt->Pt->Bool
 | ⟨o,xs,t,v,s,n,c⟩,b=>if hdP ⟨o,xs,t,v,s,n,c⟩ b then false else dK xs b.args
def dK:List Pt->List Pt->Bool
 | [],_=>true
 | a::r,l=>if !smP a (l.headD pt0) then false else dK r l.tail
end
theorem uE (a b:Pt):smP a b=if hdP a b then false else dK a.args b.args:=by cases a;rw [smP]
theorem hdP_len {a b:Pt}(h:hdP a b=false):a.args.length=b.args.length:=by
 unfold hdP at h;rw [Ey] at h;have:=h.2;simp at this;omega
theorem smP_refl (a:Pt):smP a a=true:=by
  induction a using Pt.ind with
  | h a ih=>
    have hh:hdP a a=false:=by unfold hdP;simp [nC]
    rw [uE,Bu hh]
    have:∀l:List Pt,(∀x∈l,smP x x=true)->dK l l=true:=by
      intro l
      induction l with
      | nil=>intro _;rw [dK]
      | cons x r ih2=>intro h;rw [dK];exact Eq.trans (if_neg (show ¬(!smP x x)=true by rw [h x (by simp)];decide)) (ih2 fun y hy=>h y (by simp [hy]))
    exact this _ ih
def siL:List Int->List Int->Bool
 | [],_=>true
 | a::r,l=>if a != l.headD 0 then false else siL r l.tail
def siB (a b:List Int):Bool:=if ((a.length:Int) != (b.length:Int)) then false else siL a b
theorem siB_refl (a:List Int):siB a a=true:=by
 unfold siB;rw [if_neg (by simp)]
 induction a with
 | nil=>rfl
 | cons x r ih=>rw [siL];exact Eq.trans (if_neg (show ¬(x != x)=true by simp)) ih
theorem si_get {l:List Int}{k:Nat}{a:Int}(h:l[k]? = some a):(l.map cI)[k]? = some [.int .i64 a]:=by rw [List.getElem?_map,h];rfl
@[reducible] def cNm (T : List e8Sc) (V : List Va) : List AV := [.sl 2 (T.map Oh), .sl 2 (V.map U6)]
theorem pl_le (ns:List Ac)(n:Ac) : -1<=Tx ns n/\Tx ns n<(ns.length:Int):=by
  unfold Tx;cases h:ns.contains n with
  | true=>
    rw [if_pos rfl];have:ns.idxOf n<ns.length:=List.idxOf_lt_length_of_mem (by simpa using h);omega
  | false=>rw [Bu rfl];omega
section
variable {T:List e8Sc} {V:List Va} {t:Syn}
theorem iY (h:Ag t .exps=0)(hk:t.kind=17\/t.kind=18){k:Nat}{a:Syn}(ha:t.kids[k]? = some a):Ag a .exps=0:=by
 have hc:=(Dl h ha).1;unfold Cr at hc;rcases hk with hk | hk <;> (rw [hk] at hc;exact hc)
theorem exp_num {xs:List Ex}(h1:(t.kind==13)=false)(h2:(t.kind==14)=false)(h3:(t.kind==15)=false)(h4:(t.kind==16)=false)(hr:13<=t.kind/\t.kind<=18):Ml T V t xs=⟨if (t.kind==17) then t.num else 12,xs,0,0,0,v0⟩:=by
 have:t.kind=17\/t.kind=18:=by simp at h1 h2 h3 h4;omega
 rcases this with hk | hk
 . rw [jJ h1 h2 h3 h4 (by rw [hk];rfl),hk];rfl
 rw [jI h1 h2 h3 h4 (by rw [hk];rfl),hk];rfl
end
section
variable {out:List e8Sc} {l:List Syn} {k:Nat} {a:Syn}
end
end Go.Proofs.YtibcelnfkhdjaaaGreatDoor

namespace Go.Aw
open Go
end Go.Aw
namespace Go.Proofs.YtibcelnfkhdjaaaGreatDoor
open Go Go.Aw
@[reducible] def cPtW (p : Pt) (rs : AV) : List AV := [.int .i64 p.op, rs, .int .i64 p.type, .int .i64 p.var, .int .i64 p.scope, .int .i64 p.span, .int .i64 p.cond.op, .sl 8 (p.cond.args.map Ix), .int .i64 p.cond.var, .int .i64 p.cond.field, .int .i64 p.cond.kind, .int .i64 p.cond.val.kind, .int .i64 p.cond.val.num, .str p.cond.val.text]
section
variable (T:List e8Sc) (V:List Va)
end
section
variable {T:List e8Sc} {V:List Va} {t:Syn}
theorem evt_kid {p:Pl}(h:Ag t p=0)(h5:t.kind=5){a:Syn}(ha:t.kids[0]? = some a):Ag a .exps=0:=by
 have hc:=(Dl h ha).1;unfold Cr at hc;rw [h5] at hc;exact hc
end

section
variable {T:List e8Sc} {V:List Va} {l:List Syn} {k:Nat} {a:Syn}
end
theorem vN {T:List e8Sc}:∀(l:List Syn) (V:List Va),((K8 T V l).2.err != 0)=false->(K8 T V l).1=V++l.map (K9 T)
  | [],V,_=>by rw [A0,A1];rfl
  | t::r,V,h=>by
    rw [J1] at h ⊢;cases hq:Lo T V t != 0 with
    | true=>rw [if_pos hq] at h;simp only at h;rw [hq] at h;cases h
    | false=>
      rw [Bu hq] at h;rw [Bu rfl,vN r _ h,Ao,C4];rfl
section
variable {T:List e8Sc} {V:List Va}
theorem wA (t:Syn):Lb t=(if (t.kind==5) then [t] else if (t.kind==10) then [Aq t 1] else [])++(Cn t).flatMap Lb:=by
  rw [aF];unfold Cn;cases h5:t.kind==5 with
  | true=>rw [if_pos rfl,if_pos rfl,if_pos rfl];rfl
  | false=>
    rw [Bu rfl,Bu rfl,Bu rfl]
    have hH:evH t.kids=(t.kids.take 1).flatMap Lb:=by
      cases t.kids with
      | nil=>rw [evH];rfl
      | cons x r=>rw [evH];simp
    cases h10:t.kind==10 with
    | true=>rw [if_pos rfl,if_pos rfl,hH];rfl
    | false=>
      rw [Bu rfl,Bu rfl];cases h12:t.kind==12 with
      | true=>rw [if_pos rfl,hH];rfl
      | false=>rw [Bu rfl];rfl
end
section
variable {T:List e8Sc} {V:List Va}
end
section
variable {T:List e8Sc} {V:List Va} {t:Syn}
end
section
variable {T:List e8Sc} {qs:List Qy} {l:List Syn} {k:Nat} {a:Syn}
end
structure medQ (q:Qy):Prop where
 v:q.vars.length<=1048576
 k:q.key.length<=1048576
 r:q.returns.length<=1048576
 p:medP q.pattern
 e:∀e∈q.returns,Ef e<=1048576
theorem med_pt0:medP pt0:=⟨by decide,fun q hq=>by
 rw [Ox] at hq;rcases Cu.1 hq with rfl | h
 . decide
 cases h⟩
theorem med_qy0:medQ qR:=⟨by decide,by decide,by decide,med_pt0,fun e h=>by cases h⟩
theorem lQ {T:List e8Sc}{n:Ac}:∀(l:List Va) (out:List Int),(Tr T n l out).1.length<=out.length
  | [],out=>Be _
  | v::r,out=>by
    rw [Tr];split
    . exact Bk _
    . have:=lQ (T:=T) (n:=n) r (out.set v.type.toNat (Ei ((T[v.type.toNat]?).getD Zt) n))
      rw [Ya] at this;exact this
theorem qry_med {T:List e8Sc}{t:Syn}(hT:TsOK T)(ht:QryOK t):medQ (Co T t).1:=by
 have hz:∀(c:Bool) (f:Fa) (x:Qy×Fa),medQ x.1->medQ (if c then (qR,f) else x).1:=fun c f x h=>by
  cases c with
  | true=>exact med_qy0
  | false=>exact h
 refine hz _ _ _ ?_;refine hz _ _ _ ?_;refine hz _ _ _ ?_;refine hz _ _ _ ?_;refine hz _ _ _ ?_;have hrv:=dec_rv hT (Lb (Aq t 1));refine ⟨hrv.vl,?_,?_,ptt_med ht.med1 ht.pat _,fun e he=>?_⟩
 .
  show (qG T t (H8 T t)).1.length<=_;unfold qG;split
  .
   have h:=lQ (T:=T) (n:=(Aq t 0).text) (H8 T t) (List.replicate T.length (-1));rw [Sp] at h;exact F4 h hT.tl
  exact Bk _
 .
  show ((t.kids.drop 2).map (Dv T (H8 T t))).length<=_;rw [Bg,Eh];have:=bA ht.m;omega
 obtain ⟨x,hx,rfl⟩:=Cd.1 (show e∈(t.kids.drop 2).map (Dv T (H8 T t)) from he);have h1:=Ys (T:=T) (V:=H8 T t) x;have h2:=Vz (N0 ht.m (Wd hx));omega
structure medG (p:Pg):Prop where
 t:p.types.length<=1048576
 f:∀s∈p.types,s.fields.length<=1048576
 q:p.queries.length<=1048576
 m:∀q∈p.queries,medQ q
theorem fM {T:List e8Sc}(hT:TsOK T):∀(l:List Syn) (qs:List Qy),(∀a∈l,a.kind=3->QryOK a)->qs.length<=16->(∀q∈qs,medQ q)->(Dr T qs l).1.length<=16/\∀q∈(Dr T qs l).1,medQ q
  | [],qs,_,h1,h2=>⟨h1,h2⟩
  | k::r,qs,hl,h1,h2=>by
    rw [Dr];split
    . exact fM hT r qs (fun a ha=>hl a (by simp [ha])) h1 h2
    . rename_i hk
      split
      . exact ⟨Bk _,fun q h=>by cases h⟩
      . rename_i h3
        split
        . exact ⟨Bk _,fun q h=>by cases h⟩
        . split
          . exact ⟨Bk _,fun q h=>by cases h⟩
          . refine fM hT r _ (fun a ha=>hl a (by simp [ha])) (by rw [Al,E6];exact len16 h1 (by simpa using h3)) fun q hq=>?_
            rcases G2.1 hq with hq | hq
            . exact h2 q hq
            rw [D5.1 hq];exact qry_med hT (hl k (by simp) (by simpa using hk))
theorem prg_med {t:Syn}(ht:Ie t):medG (Jt t).1:=by
 have hz:medG pg0:=⟨by decide,fun s h=>(Na h).elim,by decide,fun q h=>(Na h).elim⟩;unfold Jt;split
 . exact hz
 rename_i h1;split
 . exact hz
 unfold rJ;split
 . exact hz
 have hk:=uI t
 have h:=fM (typ_ts t) t.kids [] (fun a ha h3=>by
  obtain ⟨j,hj⟩:=Fh.1 ha;exact ⟨med_sm ht ha,Y1 (Sj (by simpa using h1)) hj h3⟩) (Bk _) (fun q h=>by cases h)
 exact ⟨by have:=hk.1;simp only;omega,fun s hs=>by have:=hk.2.1 s hs;omega,by have:=h.1;simp only;omega,h.2⟩

section
variable {T:List e8Sc} {V:List Va} {t:Syn}
theorem Vj (h:(Jk T V t).err=0)(hk:t.kind=14\/t.kind=16)(ht:¬(t.kind=14/\t.name=Ej)):0<=Ei (Qt T V (Js (H5 V) t.text)) t.name:=by
 have hc:=M3 h (hk.elim .inl fun h=>.inr (.inr h));have h1:(((t.kind != 14)&&(t.kind != 15))&&(t.kind != 16))=false:=by rcases hk with hk | hk <;> simp [hk]
 have h3:((t.kind==15)||((t.kind==14)&&(t.name==Ej)))=false:=by
  rcases hk with hk | hk
  . simp [hk];exact fun e=>ht ⟨hk,e⟩
  simp [hk]
 cases h4:decide (Ei (Qt T V (Js (H5 V) t.text)) t.name<0) with
 | false=>have:=He h4;omega
 | true=>rw [look_4 h1 (by rw [hc];rfl) h3 h4] at h;cases h
end

theorem keyG_ok {T:List e8Sc}{n:Ac}:∀(l:List Va) (out:List Int) (D:List Va),(∀v∈D++l,v.type.toNat<out.length)->(∀v∈D,out[v.type.toNat]? = some (Ei ((T[v.type.toNat]?).getD Zt) n)/\0<=Ei ((T[v.type.toNat]?).getD Zt) n)->(Tr T n l out).2=true->
    (Tr T n l out).1.length=out.length/\∀v∈D++l,(Tr T n l out).1[v.type.toNat]? = some (Ei ((T[v.type.toNat]?).getD Zt) n)/\0<=Ei ((T[v.type.toNat]?).getD Zt) n
  | [],out,D,_,hD,_=>⟨rfl,fun v hv=>hD v (by simpa using hv)⟩
  | x::r,out,D,hl,hD,h=>by
    rw [Tr] at h ⊢;cases hq:decide (Ei ((T[x.type.toNat]?).getD Zt) n<0) with
    | true=>rw [hq] at h;rw [if_pos rfl] at h;cases h
    | false=>
      rw [hq,Bu rfl] at h;rw [Bu rfl];have hx:=hl x (by simp);have h0:=He hq
      have ih:=keyG_ok r (out.set x.type.toNat (Ei ((T[x.type.toNat]?).getD Zt) n)) (D ++ [x]) (fun v hv=>by rw [Ya];exact hl v (by simpa using hv)) (fun v hv=>by
        rcases G2.1 hv with hv | hv
        . refine ⟨?_,(hD v hv).2⟩
          rw [List.getElem?_set];split
          . rename_i e
            rw [e]
          exact (hD v hv).1
        . rw [D5.1 hv]
          exact ⟨by rw [List.getElem?_set_self hx],by omega⟩) h
      rw [Ya] at ih;exact ⟨ih.1,fun v hv=>ih.2 v (by simpa using hv)⟩
theorem key_ok {T:List e8Sc}{V:List Va}{n:Ac}(hrv:RvOK T V)(h:(Pf T V n).2=true):(Pf T V n).1.length=T.length/\∀v∈V,(Pf T V n).1[v.type.toNat]? = some (Ei ((T[v.type.toNat]?).getD Zt) n)/\0<=Ei ((T[v.type.toNat]?).getD Zt) n:=by
 have:=keyG_ok (T:=T) (n:=n) V (List.replicate T.length (-1)) [] (fun v hv=>by have:=hrv.ty v (by simpa using hv);rw [Sp];omega) (fun v hv=>(Na hv).elim) h;rw [Sp] at this;exact ⟨this.1,fun v hv=>this.2 v (by simpa using hv)⟩

structure QGood (T:List e8Sc) (t:Syn) (q:Qy):Prop where
 ok:Co T t=(mY T t (H8 T t),Np)
 is:q=mY T t (H8 T t)
 v:((vfR T t).err != 0)=false
 k:(!(qG T t (H8 T t)).2)=false
 w:(Fr T (H8 T t) t).err=0
 p:(I6 (uR T t (H8 T t)) != 0)=false
 r:(Ia (rtF T (H8 T t)) (t.kids.drop 2)).err=0
theorem wR {c:Bool}{f:Fa}{x:Qy×Fa}(h:((if c then (qR,f) else x).2.err != 0)=false)(hf:c=true->(f.err != 0)=true):c=false/\(if c then (qR,f) else x)=x:=by
 cases c with
 | false=>exact ⟨rfl,rfl⟩
 | true=>rw [if_pos rfl] at h;rw [hf rfl] at h;cases h
theorem q_good {T:List e8Sc}{t:Syn}(h:((Co T t).2.err != 0)=false):QGood T t (Co T t).1:=by
 obtain ⟨a1,b1⟩:=wR h fun h=>h
 have b1':Co T t=QR1 T t (H8 T t):=b1;rw [b1'] at h ⊢;obtain ⟨a2,b2⟩:=wR h fun _=>rfl
 have b2':QR1 T t (H8 T t)=QR2 T t (H8 T t):=b2;rw [b2'] at h ⊢;obtain ⟨a3,b3⟩:=wR h fun h=>h
 have b3':QR2 T t (H8 T t)=QR3 T t (H8 T t):=b3;rw [b3'] at h ⊢;obtain ⟨a4,b4⟩:=wR (f:=⟨(Aq t 1).pos,I6 (uR T t (H8 T t))⟩) h fun h=>h
 have b4':QR3 T t (H8 T t)=QR4 T t (H8 T t):=b4;rw [b4'] at h ⊢;obtain ⟨a5,b5⟩:=wR h fun h=>h
 have b5':QR4 T t (H8 T t)=(mY T t (H8 T t),Np):=b5;rw [b5'];exact ⟨b1'.trans (b2'.trans (b3'.trans (b4'.trans b5'))),rfl,a1,a2,by simpa using a3,a4,by simpa using a5⟩

section
variable (T:List e8Sc) (V:List Va)
def gB (v:Int):Ac:=((V[v.toNat]?).getD va0).name
def pY (v f:Int):Ac:=(((Qt T V v).fields[f.toNat]?).getD fi0).name
def Wo (v f:Int):Bool:=((decide (v<0)||decide ((V.length:Int)<=v))||decide (f<0))||decide (((Qt T V v).fields.length:Int)<=f)
def cF (v f:Int):Ac×Bool:=if Wo T V v f then ([],false) else (pY T V v f,true)
def aH (e:Ex):Bool:=if (e.op==1)||(e.op==4) then Wo T V e.var e.field else if (e.op==2)||(e.op==3) then decide ((V.length:Int)<=e.var) else false
def Zs (e:Ex):Bool:=if (e.op==1)||(e.op==4) then Ru (pY T V e.var e.field) else true
mutual
def Wq:Ex->Int×Bool
 | ⟨o,xs,v,f,k,x⟩=>if aH T V ⟨o,xs,v,f,k,x⟩ then (6,false) else Tz xs (Zs T V ⟨o,xs,v,f,k,x⟩)
def Tz:List Ex->Bool->Int×Bool
 | [],b=>(0,b)
 | x::r,b=>if ((Wq x).1 != 0) then ((Wq x).1,false) else Tz r (b&&(Wq x).2)
end
theorem uJ (e:Ex):Wq T V e=if aH T V e then (6,false) else Tz T V e.args (Zs T V e):=by cases e;rw [Wq]
def iL (e:Ex):Bool:=if decide (1<=e.op)&&decide (e.op<=4) then if decide ((V.length:Int)<=e.var) then false else !(((e.op==1)||(e.op==4))&&decide (((Qt T V e.var).fields.length:Int)<=e.field)) else true
mutual
def Tt:Ex->Bool
 | ⟨o,xs,v,f,k,x⟩=>iL T V ⟨o,xs,v,f,k,x⟩&&knoL xs
def knoL:List Ex->Bool
 | []=>true
 | x::r=>Tt x&&knoL r
end
mutual
def aP:Ex->Bool
 | ⟨o,xs,v,f,k,x⟩=>Zs T V ⟨o,xs,v,f,k,x⟩&&namL xs
def namL:List Ex->Bool
 | []=>true
 | x::r=>aP x&&namL r
end
theorem xB:∀l:List Ex,knoL T V l=l.all (Tt T V)
 | []=>by rw [knoL];rfl
 | x::r=>by rw [knoL,xB r,Kx]
theorem xO:∀l:List Ex,namL T V l=l.all (aP T V)
 | []=>by rw [namL];rfl
 | x::r=>by rw [namL,xO r,Kx]
theorem N9 (e:Ex):Tt T V e=(iL T V e&&e.args.all (Tt T V)):=by cases e;rw [Tt,xB]
theorem Tb (e:Ex):aP T V e=(Zs T V e&&e.args.all (aP T V)):=by cases e;rw [aP,xO]

def knm (k:Int):Ac:=if (k==0) then Ig else if (k==1) then Gg else Ha
def iJ (v:Vl):Syn:=⟨13,v.text,knm v.kind,v.num,[],0⟩
def shN (e:Ex)(ks:List Syn):Syn:=
 if (e.op==0) then iJ e.val
 else if (e.op==1) then ⟨14,gB V e.var,pY T V e.var e.field,0,[],0⟩
 else if (e.op==2) then ⟨14,gB V e.var,Ej,0,[],0⟩
 else if (e.op==3) then ⟨15,gB V e.var,[],0,[],0⟩
 else if (e.op==4) then ⟨16,gB V e.var,pY T V e.var e.field,e.kind,if (e.kind != 1) then [iJ e.val] else [],0⟩
 else if (e.op==12) then ⟨18,[],[],0,ks,0⟩ else ⟨17,[],[],e.op,ks,0⟩
mutual
def Pa:Ex->Syn
 | ⟨o,xs,v,f,k,x⟩=>shN T V ⟨o,xs,v,f,k,x⟩ (shL xs)
def shL:List Ex->List Syn
 | []=>[]
 | x::r=>Pa x::shL r
end
theorem shL_map:∀l:List Ex,shL T V l=l.map (Pa T V)
 | []=>by rw [shL,A0]
 | x::r=>by rw [shL,shL_map r,Ao]
theorem Lj (e:Ex):Pa T V e=shN T V e (e.args.map (Pa T V)):=by cases e;rw [Pa,shL_map]

def Wm (p:Pt):Syn:=⟨5,((T[p.type.toNat]?).getD Zt).name,gB V p.var,0,if !(Fx p.cond Jp) then [Pa T V p.cond] else [],0⟩
def nE (p:Pt)(ks:List Syn):Syn:=
 if (p.op==0) then Wm T V p
 else ⟨p.op+5,[],[],if (p.op==6) then p.span else 0,ks++(if (p.op==5) then [Wm T V p] else if (p.op==7) then [Pa T V p.cond] else []),0⟩
mutual
def Oa:Pt->Syn
 | ⟨o,xs,t,v,s,n,c⟩=>nE T V ⟨o,xs,t,v,s,n,c⟩ (shPs xs)
def shPs:List Pt->List Syn
 | []=>[]
 | a::r=>Oa a::shPs r
end
theorem zK:∀l:List Pt,shPs T V l=l.map (Oa T V)
 | []=>by rw [shPs,A0]
 | x::r=>by rw [shPs,zK r,Ao]
theorem Oz (p:Pt):Oa T V p=nE T V p (p.args.map (Oa T V)):=by cases p;rw [Oa,zK]
end
def Sx (q:Pt):Bool:=(q.op==0)||(q.op==5)
def Wl (q:Pt):Bool:=((q.op==0)||(q.op==5))||(q.op==7)
def L3 (p:Pt):List (Int×Int):=((H1 p).filter Sx).map fun q=>(q.var,q.type)
def U0 (p:Pt):List Ex:=((H1 p).filter Wl).map (·.cond)
theorem tyP_eq (p:Pt):L3 p=(if Sx p then [(p.var,p.type)] else [])++p.args.flatMap L3:=by
 unfold L3;rw [Ox,We]
 have:((p.args.flatMap H1).filter Sx).map (fun q=>(q.var,q.type))=p.args.flatMap L3:=by
  rw [List.filter_flatMap,List.map_flatMap];rfl
 split
 . rw [Ao,this];rfl
 rw [this];rfl
theorem coP_eq (p:Pt):U0 p=(if Wl p then [p.cond] else [])++p.args.flatMap U0:=by
 unfold U0;rw [Ox,We]
 have:((p.args.flatMap H1).filter Wl).map (·.cond)=p.args.flatMap U0:=by
  rw [List.filter_flatMap,List.map_flatMap];rfl
 split
 . rw [Ao,this];rfl
 rw [this];rfl
def vrE (T:List e8Sc)(L:List Int)(seen:List Ac)(i:Nat)(v:Va):Int:=
 if !(Ru v.name) then 8 else if seen.contains v.name then 7 else if decide (v.type<0)||decide ((T.length:Int)<=v.type) then 6 else if ((L[i]?).getD 0 != v.type) then 9 else 0
def uL (T:List e8Sc)(L:List Int):List Ac->Nat->List Va->Int
 | _,_,[]=>0
 | seen,i,v::r=>if (vrE T L seen i v != 0) then vrE T L seen i v else uL T L (seen ++ [v.name]) (i+1) r
def VrE (T:List e8Sc)(q:Qy):Int:=if (((L3 q.pattern).length:Int) != (q.vars.length:Int)) then 15 else uL T ((L3 q.pattern).map (·.2)) [] 0 q.vars

def aK (q:Qy):Int:=((q.vars[0]?).getD va0).type
def kyF (T:List e8Sc)(q:Qy):List Fi:=((T[(aK q).toNat]?).getD Zt).fields
def oH (q:Qy):Int:=ixI q.key (aK q)
def aL (T:List e8Sc)(q:Qy):Ac:=(((kyF T q)[(oH q).toNat]?).getD fi0).name
def kyO (T:List e8Sc)(q:Qy):Bool:=((Pf T q.vars (aL T q)).2&&((Pf T q.vars (aL T q)).1==q.key))&&Ru (aL T q)
def gT (T:List e8Sc)(q:Qy):Ac×Bool:=
 if ((q.key.length:Int)==0) then ([],true)
 else if ((q.key.length:Int) != (T.length:Int)) then ([],false)
 else if decide (oH q<0)||decide (((kyF T q).length:Int)<=oH q) then ([],false)
 else (aL T q,kyO T q)

section
variable (T:List e8Sc) (q:Qy)
def rtE:Int:=Dk Gn q.returns
def tnB:Bool:=q.vars.all fun v=>Ru ((T[v.type.toNat]?).getD Zt).name
def usR:Int×Bool:=Tz T q.vars (U0 q.pattern++q.returns) (tnB T q)
def sh3:Ac×Int:=if ((usR T q).1 != 0) then ([],(usR T q).1) else if !(usR T q).2 then ([],8) else ((gT T q).1,0)
def sh2:Ac×Int:=if (rtE q != 0) then ([],rtE q) else sh3 T q
def sh1:Ac×Int:=if !(gT T q).2 then ([],16) else if ((q.returns.length:Int)==0) then ([],15) else sh2 T q
def fQ:Ac×Int:=if !(Ru q.name) then ([],8) else if (I6 q.pattern != 0) then ([],I6 q.pattern) else if (VrE T q != 0) then ([],VrE T q) else sh1 T q
def qT:Syn:=⟨3,q.name,[],0,⟨4,(fQ T q).1,[],0,[],0⟩::Oa T q.vars q.pattern::q.returns.map (Pa T q.vars),0⟩
def Kl:Syn×Int:=if (Fv T != 0) then (Iz,Fv T) else if ((fQ T q).2 != 0) then (Iz,(fQ T q).2) else if ((Ba (qT T q) (.only 3)).2 != 0) then (Iz,(Ba (qT T q) (.only 3)).2) else (qT T q,0)
end

section
variable {T:List e8Sc} {V:List Va}
theorem Xn {e:Ex}(h:Ip e=0):0<=e.var/\0<=e.field:=⟨(node_var (Ir h).1).1,node_field (Ir h).1⟩
theorem kno_own {e:Ex}(h:Ip e=0):iL T V e = !(aH T V e):=by
 obtain ⟨h1,h2⟩:=Xn h;have d1:decide (e.var<0)=false:=Gc (by omega);have d2:decide (e.field<0)=false:=Gc (by omega);obtain ⟨o1,o2,_⟩:=Vo (Ir h).1;unfold iL aH Wo;rw [d1,d2,Ky,Sl];have hc:e.op=0\/e.op=1\/e.op=2\/e.op=3\/e.op=4\/5<=e.op:=by omega
 rcases hc with hc | hc | hc | hc | hc | hc
 . rw [hc];rfl
 .
  rw [hc];cases decide ((V.length:Int)<=e.var) <;> cases decide (((Qt T V e.var).fields.length:Int)<=e.field) <;> rfl
 .
  rw [hc];cases decide ((V.length:Int)<=e.var) <;> rfl
 .
  rw [hc];cases decide ((V.length:Int)<=e.var) <;> rfl
 .
  rw [hc];cases decide ((V.length:Int)<=e.var) <;> cases decide (((Qt T V e.var).fields.length:Int)<=e.field) <;> rfl
 rw [if_neg (by simp;omega),if_neg (by simp;omega),if_neg (by simp;omega)];rfl
theorem use_ref:∀e:Ex,Ip e=0->Wq T V e=if Tt T V e then (0,aP T V e) else (6,false):=by
  intro e
  induction e using Ex.ind with
  | h e ih=>
    intro h;have hk:=kno_own (T:=T) (V:=V) h;have hz:=(Ir h).2
    have key:∀l:List Ex,(∀a∈l,a∈e.args)->∀b,Tz T V l b=if l.all (Tt T V) then (0,b&&l.all (aP T V)) else (6,false):=by
      intro l
      induction l with
      | nil=>intro _ b;rw [Tz];simp
      | cons x r ih2=>
        intro hl b;have hx:=ih x (hl x (by simp)) (hz x (hl x (by simp)));rw [Tz,hx,Kx,Kx];cases hq:Tt T V x with
        | false=>rfl
        | true=>
          rw [if_pos rfl];rw [if_neg (show ¬((0:Int) != 0)=true by decide),ih2 (fun a ha=>hl a (by simp [ha]))];rw [Gu,Bool.and_assoc]
    rw [uJ,N9,Tb,hk];cases aH T V e with
    | true=>rfl
    | false=>
      rw [if_neg (by decide),key e.args (fun a ha=>ha)];rfl
theorem Aaa {l:List Ex}(h:∀e∈l,Ip e=0):∀b,Tz T V l b=if l.all (Tt T V) then (0,b&&l.all (aP T V)) else (6,false):=by
  induction l with
  | nil=>intro b;rw [Tz];simp
  | cons x r ih=>
    intro b;rw [Tz,use_ref x (h x (by simp)),Kx,Kx];cases hq:Tt T V x with
    | false=>rfl
    | true=>
      rw [if_pos rfl];rw [if_neg (show ¬((0:Int) != 0)=true by decide),ih (fun a ha=>h a (by simp [ha]))];rw [Gu,Bool.and_assoc]
end

theorem pN {e:Int}{a:PS}(h:a.bad≠0):Gw e a=a:=by
 unfold Gw;have:(a.bad==0)=false:=by simpa using h
 rw [this];rfl
theorem Qj (read:Syn->PS->Syn×PS)(z:Syn)(st:PS):M4 read z st=if ((Gj st).bad != 0) then (z,Gj st) else ((read z (adv (deep st))).1,shallow (read z (adv (deep st))).2):=rfl

def Wn (a:PS):Prop:=(∀t∈a.toks,0<=t.pos/\t.pos<=a.fin)/\0<=a.fin/\0<=a.whr/\a.whr<=a.fin
theorem Wn.off {a:PS}(h:Wn a):0<=D4 a/\D4 a<=a.fin:=by
 unfold D4;split
 .
  rename_i h1;have h1:=Ec h1;have h2:a.pos<a.toks.length:=by omega
  have e:jM a=a.toks[a.pos]:=by unfold jM;simp [Dm,List.getElem?_eq_getElem h2]
  rw [e];exact h.1 _ (X7 h2)
 exact ⟨h.2.1,D6 _⟩
structure Bo (a b:PS):Prop where
 bad:a.bad≠0->b.bad=a.bad
 fin:b.fin=a.fin
 toks:b.toks=a.toks
 pos:a.pos<=b.pos
 wn:Wn a->Wn b
 dep:iQ a->b.depth=a.depth
def Ly (F:PS->Syn×PS):Prop:=∀st,Bo st (F st).2
theorem Bo.refl (a:PS):Bo a a:=⟨fun _=>rfl,rfl,rfl,Be _,id,fun _=>rfl⟩
theorem Bo.trans {a b c:PS}(h:Bo a b)(k:Bo b c):Bo a c:=⟨fun e=>by
 have h1:=h.bad e;rw [k.bad (by rw [h1];exact e),h1],k.fin.trans h.fin,k.toks.trans h.toks,F4 h.pos k.pos,fun w=>k.wn (h.wn w),fun r=>by
 have e:=h.dep r;exact (k.dep (by unfold iQ;rw [e];exact r)).trans e⟩
theorem Bo.adv (a:PS):Bo a (adv a):=⟨fun _=>rfl,rfl,rfl,Nat.le_succ _,id,fun _=>rfl⟩
theorem Bo.fail (e:Int)(a:PS):Bo a (Gw e a):=by
 refine ⟨fun h=>by rw [pN h],?_,N2 _ _,Nat.le_of_eq (Y9 _ _).symm,fun w=>?_,fun _=>Uc _ _⟩
 . unfold Gw;split <;> rfl
 unfold Gw;split
 . exact ⟨w.1,w.2.1,w.off.1,w.off.2⟩
 exact w
theorem Bo.acc (w:Ac)(a:PS):Bo a (Ov w a):=by unfold Ov;split;exact .adv _;exact .refl _
theorem Bo.exp (w:Ac)(a:PS):Bo a (Bb w a):=by unfold Bb;split;exact .fail _ _;exact .acc _ _
theorem Bo.tok (k:Int)(a:PS):Bo a (Cm k a):=by unfold Cm;split;exact .adv _;exact .fail _ _
def RnB (_:PS):Prop:=True
theorem Bo.rng {a b:PS}(h:Bo a b)(r:RnB a):RnB b:=trivial
theorem Ly.goes {F:PS->Syn×PS}(h:Ly F){a:PS}(r:RnB a):Bo a (F a).2:=h a
theorem Bo.read {F:PS->Syn×PS}(h:Ly F){a b:PS}(r:RnB a)(k:Bo a b):Bo a (F b).2:=k.trans (h b)
theorem Ly.of {F:PS->Syn×PS}(h:∀st,RnB st->Bo st (F st).2):Ly F:=fun st=>h st trivial
theorem deep_dep {a:PS}(r:iQ a)(h:¬64<=a.depth):(deep a).depth=a.depth+1:=Tk (by have:=r.1;omega) (by omega)
theorem Bo.shallow {a b:PS}(hd:¬64<=a.depth)(h:Bo (deep a) b):Bo a (shallow b):=⟨h.bad,h.fin,h.toks,h.pos,h.wn,fun r=>by
 have e:=deep_dep r hd;have:=r.1;have e2:=h.dep (by unfold iQ;rw [e];omega);show IntKind.i64.wrap (b.depth-1)=a.depth;rw [e2,e,show a.depth+1-1=a.depth by omega];exact Tk (by omega) (by omega)⟩
theorem dT:Ly Id:=.of fun st r=>by
 have h:Bo st (Bb G9 (Cm 0 st)):=(Bo.tok _ _).trans (.exp _ _);unfold Id;split
 . exact h.trans (.adv _)
 split
 . exact h.trans (.adv _)
 split
 . exact h.trans (.adv _)
 exact h.trans (.fail _ _)
theorem P0 {F:PS->Syn×PS}(hF:Ly F):∀(n:Nat) (st:PS) (out:List Syn),RnB st->Bo st (Gb F n st out).2
  | 0,st,out,r=>.refl _
  | n+1,st,out,r=>by
    unfold Gb;split
    . have h:=Bo.read hF r (.adv st)
      exact h.trans (P0 hF n _ _ (h.rng r))
    exact .refl _
theorem iT {F:PS->Syn×PS}(hF:Ly F){st:PS}(r:RnB st):Bo st (Kq F st).2:=by
 have h:=hF.goes r;exact h.trans (P0 hF _ _ _ (h.rng r))
theorem kF:Ly Hh:=.of fun st r=>by
 have h:Bo st (Bb Em (Cm 0 (Bb B6 st))):=((Bo.exp _ _).trans (.tok _ _)).trans (.exp _ _);unfold Hh;simp only;split
 . exact (h.trans (iT dT (h.rng r))).trans (.exp _ _)
 exact h.trans (.exp _ _)
theorem vG (st:PS):Bo st (D9 st).2:=by
 unfold D9;split
 . exact (Bo.adv _).trans (.tok _ _)
 split
 . exact .tok _ _
 split
 . exact .adv _
 split
 . exact .adv _
 exact .tok _ _
theorem bof_const:Ly D9:=.of fun st _=>vG st
theorem bo_ins (st:PS):Bo st (Rm st).2:=((((Bo.exp _ _).trans (.tok _ _)).trans (.exp _ _)).trans (.tok _ _))
theorem rO {read:Syn->PS->Syn×PS}{z:Syn}{st:PS}(r:RnB st)(h:∀s:PS,RnB s->Bo s (read z s).2):Bo st (M4 read z st).2:=by
 rw [Qj];split
 .
  unfold Gj;split
  . exact .fail _ _
  exact .refl _
 rename_i hb;have k:=h (adv (deep st)) trivial;refine Bo.shallow (fun hd=>hb ?_) (Bo.trans (Bo.adv (deep st)) k);unfold Gj;rw [if_pos (Gt hd)];exact Oi (by decide) _
theorem vH {E:PS->Syn×PS}(hE:Ly E):Ly (D0 E):=.of fun st r=>by
 unfold D0;split
 . exact rO r fun s r=>(hE.goes r).trans (.exp _ _)
 split
 .
  simp only;have h:=((Bo.adv st).trans (bo_ins _)).trans (.exp Cl _);exact (h.trans (bof_const.goes (h.rng r))).trans (.exp _ _)
 split
 . exact ((Bo.adv st).trans (bo_ins _)).trans (.exp _ _)
 split
 . exact (((Bo.adv st).trans (.exp _ _)).trans (.tok _ _)).trans (.exp _ _)
 split
 .
  simp only;split
  . exact ((Bo.tok _ _).trans (.exp _ _)).trans (.adv _)
  exact ((Bo.tok _ _).trans (.exp _ _)).trans (.tok _ _)
 exact bof_const.goes r
theorem U5 {F:PS->Syn×PS}(hF:Ly F){sg:List (Ac×Int)}:∀(n:Nat) (st:PS) (out:Syn),RnB st->Bo st (Ge F sg n st out).2
  | 0,st,out,r=>.refl _
  | n+1,st,out,r=>by
    unfold Ge;split
    . have h:=Bo.read hF r (.adv st)
      exact h.trans (U5 hF n _ _ (h.rng r))
    exact .refl _
theorem Yk {F:PS->Syn×PS}(hF:Ly F)(sg:List (Ac×Int)):Ly (I5 F sg):=.of fun st r=>by
 have h:=hF.goes r;exact h.trans (U5 hF _ _ _ (h.rng r))
theorem iU {E:PS->Syn×PS}(hE:Ly E):Ly (Fu E):=Yk (vH hE) uG
theorem bof_cmp {E:PS->Syn×PS}(hE:Ly E):Ly (L5 E):=.of fun st r=>by
 have h:=(iU hE).goes r;have h2:=(h.trans (.adv _)).trans ((iU hE).goes ((h.trans (.adv _)).rng r));unfold L5;simp only
 repeat' split
 all_goals first | exact h2 | exact h
theorem bR {E N:PS->Syn×PS}(hE:Ly E)(hN:Ly N):Ly (M5 E N):=.of fun st r=>by
 unfold M5;split
 . exact (bof_cmp hE).goes r
 exact rO r fun s r=>hN.goes r
theorem bof_or {E N:PS->Syn×PS}(hE:Ly E)(hN:Ly N):Ly (orP E N):=Yk (Yk (bR hE hN) kA) orL
theorem Ln:Ly G0:=.of fun st _=>.refl _
theorem Pi:∀n,Ly (L8 n).1/\Ly (L8 n).2
 | 0=>⟨bR Ln Ln,bof_or Ln Ln⟩
 | n+1=>⟨bR (Pi n).2 (Pi n).1,bof_or (Pi n).2 (Pi n).1⟩
theorem oU {E:PS->Syn×PS}(hE:Ly E):Ly (Hu E):=.of fun st r=>by
 have h:Bo st (Cm 0 (Cm 0 st)):=(Bo.tok _ _).trans (.tok _ _);unfold Hu;simp only;split
 . exact Bo.read hE r (h.trans (.adv _))
 exact h
theorem bo_sev {T:PS->Syn×PS}(hT:Ly T)(z:Syn){st:PS}(r:RnB st):Bo st (dI T z st).2:=by
 have h:=Bo.read hT r (.exp Cl st);exact h.trans (P0 hT _ _ _ (h.rng r))
theorem bo_rest {E T:PS->Syn×PS}(hE:Ly E)(hT:Ly T)(k:Int)(z:Syn){st:PS}(r:RnB st):Bo st (Fp E T k z st).2:=by
 unfold Fp;split
 . exact bo_sev hT z r
 split
 . exact .refl _
 split
 . exact Bo.read (oU hE) r (.exp _ _)
 split
 . exact (Bo.exp _ _).trans (.tok _ _)
 exact Bo.read hE r (.exp _ _)
theorem bof_pat {E T:PS->Syn×PS}(hE:Ly E)(hT:Ly T):Ly (Sv E T):=.of fun st r=>by
 unfold Sv;split
 .
  refine rO r fun s r=>?_
  have h:=Bo.read hT r (.exp Ds s);exact (h.trans (bo_rest hE hT _ _ (h.rng r))).trans (.exp _ _)
 exact (oU hE).goes r
theorem kG {E:PS->Syn×PS}(hE:Ly E):∀n,Ly (fK E n)
 | 0=>bof_pat hE Ln
 | n+1=>bof_pat hE (kG hE n)
theorem bo_key (st:PS)(k:Int):Bo st (Nf st k).2:=by
 unfold Nf;split
 . exact (Bo.adv _).trans (.tok _ _)
 exact .refl _
theorem oV {E T:PS->Syn×PS}(hE:Ly E)(hT:Ly T):Ly (If E T):=.of fun st r=>by
 have h1:Bo st (Bb Dx (Nf (Cm 0 (Bb B5 st)) (D4 st)).2):=(((Bo.exp _ _).trans (.tok _ _)).trans (bo_key _ _)).trans (.exp _ _);have h2:=(Bo.read hT r h1).trans (.exp Dc _);exact (h2.trans (iT hE (h2.rng r))).trans (.exp _ _)
theorem P4 {w:Ac}{F:PS->Syn×PS}(hF:Ly F):∀(n:Nat) (st:PS) (out:List Syn),Bo st (E2 w F n st out).2
  | 0,st,out=>.refl _
  | n+1,st,out=>by
    unfold E2;split
    . exact (hF st).trans (P4 hF n _ _)
    exact .refl _
theorem bof_prog {E T:PS->Syn×PS}(hE:Ly E)(hT:Ly T):Ly (Fm E T):=fun st=>
 (P4 kF _ _ _).trans (P4 (oV hE hT) _ _ _)
theorem kE:Ly EE:=(Pi 64).2
theorem bof_TT:Ly TT:=kG kE 64

def erT (t:Tok):Tok:=⟨t.kind,t.text,0⟩
def er (st:PS):PS:={ st with toks:=st.toks.map erT,fin:=0,whr:=0 }
mutual
def Dy:Syn->Syn
 | ⟨kind,text,name,num,kids,pos⟩=>⟨kind,text,name,num,erSs kids,0⟩
def erSs:List Syn->List Syn
 | []=>[]
 | e::r=>Dy e::erSs r
end
theorem vX:∀l:List Syn,erSs l=l.map Dy
 | []=>by simp [erSs]
 | e::r=>by simp [erSs,vX r]
theorem My (k:Int)(t n:Ac)(m:Int)(l:List Syn)(p:Int):Dy ⟨k,t,n,m,l,p⟩=⟨k,t,n,m,l.map Dy,0⟩:=by rw [Dy,vX]
theorem Fc (e:Syn):Dy e=⟨e.kind,e.text,e.name,e.num,e.kids.map Dy,0⟩:=by cases e;exact My ..
theorem sB (e:Syn):(Dy e).pos=0:=by rw [Fc]
theorem I9 (e:Syn):(Dy e).kids=e.kids.map Dy:=by rw [Fc]
theorem erS_z:Dy Iz=Iz:=by rw [Fc];rfl
theorem bX (z:Syn)(l:List Syn):Dy { z with kids:=l } = { Dy z with kids:=l.map Dy }:=by rw [Fc,Fc]
theorem erS_num (z:Syn)(n:Int):Dy { z with num:=n } = { Dy z with num:=n }:=by rw [Fc,Fc]
theorem nK (st:PS):jM (er st)=erT (jM st):=by
 unfold jM er;simp only [Dm,List.getElem?_map];cases st.toks[st.pos]? <;> rfl
theorem M6 (st:PS):D4 (er st)=0:=by
 unfold D4;rw [nK];split <;> rfl
theorem kD (st:PS):(er st).bad=st.bad:=rfl
theorem depth_er (st:PS):(er st).depth=st.depth:=rfl
theorem pos_er (st:PS):(er st).pos=st.pos:=rfl
theorem len_er (st:PS):(er st).toks.length=st.toks.length:=by simp [er]
theorem endP_er (st:PS):endP (er st)=endP st:=by unfold endP;rw [kD,pos_er,len_er]
theorem M1 (w:Ac)(st:PS):Ea w (er st)=Ea w st:=by unfold Ea;rw [endP_er,nK];rfl
theorem cX (k:Int)(st:PS):Nt k (er st)=Nt k st:=by unfold Nt;rw [endP_er,nK];rfl
theorem Th (k:Int)(st:PS):Hw k (er st)=Hw k st:=by unfold Hw;rw [cX,nK];rfl
theorem numP_er (st:PS):Up (er st)=Up st:=by unfold Up;rw [cX,nK];rfl
theorem cA (e:Int)(st:PS):Gw e (er st)=er (Gw e st):=by
 unfold Gw;rw [kD,M6];split <;> rfl
theorem Q9 (st:PS):adv (er st)=er (adv st):=rfl
theorem deep_er (st:PS):deep (er st)=er (deep st):=rfl
theorem jB (st:PS):B1 (er st)=B1 st:=by unfold B1;rw [len_er];rfl
theorem accP_er (w:Ac)(st:PS):Ov w (er st)=er (Ov w st):=by unfold Ov;rw [M1,Q9];split <;> rfl
theorem N8 (w:Ac)(st:PS):Bb w (er st)=er (Bb w st):=by unfold Bb;rw [M1,kD,cA,accP_er];split <;> rfl
theorem Pv (k:Int)(st:PS):Cm k (er st)=er (Cm k st):=by unfold Cm;rw [cX,Q9,cA];split <;> rfl
theorem nestF_er (st:PS):Gj (er st)=er (Gj st):=by unfold Gj;rw [depth_er,cA];split <;> rfl

abbrev oC (p:Syn×PS):Syn×PS:=(Dy p.1,er p.2)
def Er (F:PS->Syn×PS):Prop:=∀st,F (er st)=oC (F st)
theorem sC {read:Syn->PS->Syn×PS}(h:∀z s,read (Dy z) (er s)=oC (read z s))(z:Syn)(st:PS):M4 read (Dy z) (er st)=oC (M4 read z st):=by
 rw [Qj,Qj,nestF_er,kD];split
 . rfl
 rw [deep_er,Q9,h];rfl
theorem er_field:Er Id:=fun st=>by
 unfold Id;simp only [Pv,N8,M1,Th,M6,Q9,cA]
 repeat' split
 all_goals simp only [oC,My,A0]
theorem eE {F:PS->Syn×PS}(h:Er F):∀(n:Nat) (st:PS) (out:List Syn),Gb F n (er st) (out.map Dy)=((Gb F n st out).1.map Dy,er (Gb F n st out).2)
  | 0,st,out=>rfl
  | n+1,st,out=>by
    unfold Gb;rw [M1,Q9,h];split
    . have:=eE h n (F (adv st)).2 (out ++ [(F (adv st)).1])
      rw [Di,Ao,A0] at this;exact this
    rfl
theorem er_list {F:PS->Syn×PS}(h:Er F)(st:PS):Kq F (er st)=((Kq F st).1.map Dy,er (Kq F st).2):=by
 unfold Kq;rw [h];show Gb F (B1 (er (F st).2)) (er (F st).2) [Dy (F st).1]=_;rw [jB];exact eE h _ _ [_]
theorem er_kind:Er Hh:=fun st=>by
 unfold Hh;simp only [Pv,N8,M1,Th,M6,er_list er_field,kD];split
 all_goals simp only [oC,My,A0]
theorem vY:Er D9:=fun st=>by
 unfold D9;simp only [Pv,M1,Th,M6,cX,Q9,numP_er]
 repeat' split
 all_goals simp only [oC,My,A0]
theorem er_ins (st:PS):Rm (er st)=((Rm st).1,er (Rm st).2):=by
 unfold Rm;simp only [Pv,N8,Th]
theorem er_unit {E:PS->Syn×PS}(hE:Er E):Er (D0 E):=fun st=>by
 unfold D0;simp only [M1,cX,Th,M6,Q9,Pv,N8,er_ins];split
 .
  have:=sC (read:=fun _ s=>((E s).1,Bb Gp (E s).2)) (fun z s=>by simp only [hE s,N8]) Iz st;rw [erS_z] at this;exact this
 split
 . simp only [vY _,N8,oC,My,Ao,A0]
 repeat' split
 all_goals first | exact vY st | simp only [oC,My,A0]
theorem er_bin (op:Int)(a b:Syn)(p:Int):Dy (K6 op a b p)=K6 op (Dy a) (Dy b) 0:=by unfold K6;rw [My];rfl
theorem kQ {F:PS->Syn×PS}(h:Er F)(sg:List (Ac×Int)):∀(n:Nat) (st:PS) (out:Syn),Ge F sg n (er st) (Dy out)=oC (Ge F sg n st out)
  | 0,st,out=>rfl
  | n+1,st,out=>by
    unfold Ge;simp only [M1,Q9];split
    . rename_i s hs
      have:=kQ h sg n (F (adv st)).2 (K6 s.2 out (F (adv st)).1 out.pos);rw [h,sB,oC,<-er_bin _ _ _ out.pos];exact this
    rfl
theorem kP {F:PS->Syn×PS}(h:Er F)(sg:List (Ac×Int)):Er (I5 F sg):=fun st=>by
 unfold I5;rw [h];show Ge F sg (B1 (er (F st).2)) (er (F st).2) (Dy (F st).1)=_;rw [jB];exact kQ h sg _ _ _
theorem er_sum {E:PS->Syn×PS}(hE:Er E):Er (Fu E):=kP (er_unit hE) uG
theorem er_cmp {E:PS->Syn×PS}(hE:Er E):Er (L5 E):=fun st=>by
 unfold L5;simp only [er_sum hE _,M1,Q9,sB]
 repeat' split
 all_goals simp only [oC,er_bin,My,Ao,A0]
theorem er_not {E N:PS->Syn×PS}(hE:Er E)(hN:Er N):Er (M5 E N):=fun st=>by
 unfold M5;rw [M1,M6];split
 . exact er_cmp hE st
 have:=sC (read:=fun z s=>({ z with kids:=[(N s).1] },(N s).2)) (fun z s=>by simp only [hN s,oC,bX,Ao,A0]) ⟨18,[],[],0,[],D4 st⟩ st;rw [My] at this;exact this
theorem er_or {E N:PS->Syn×PS}(hE:Er E)(hN:Er N):Er (orP E N):=kP (kP (er_not hE hN) kA) orL
theorem bY:Er G0:=fun st=>by unfold G0;rw [oC,erS_z]
theorem kR:∀n,Er (L8 n).1/\Er (L8 n).2
 | 0=>⟨er_not bY bY,er_or bY bY⟩
 | n+1=>⟨er_not (kR n).2 (kR n).1,er_or (kR n).2 (kR n).1⟩
theorem vZ {E:PS->Syn×PS}(hE:Er E):Er (Hu E):=fun st=>by
 unfold Hu;simp only [Pv,M1,Th,M6,Q9,hE _];split
 all_goals simp only [oC,My,Ao,A0]
theorem er_sev {T:PS->Syn×PS}(hT:Er T)(z:Syn)(st:PS):dI T (Dy z) (er st)=oC (dI T z st):=by
 unfold dI;simp only [N8,hT _,jB,I9];have:=eE hT (B1 (T (Bb Cl st)).2) (T (Bb Cl st)).2 (z.kids ++ [(T (Bb Cl st)).1]);rw [Di,Ao,A0] at this;rw [this,oC,bX]
theorem er_rest {E T:PS->Syn×PS}(hE:Er E)(hT:Er T)(k:Int)(z:Syn)(st:PS):Fp E T k (Dy z) (er st)=oC (Fp E T k z st):=by
 unfold Fp;simp only [N8,Pv,numP_er,vZ hE _,hE _,I9,er_sev hT]
 repeat' split
 all_goals first | rfl | simp only [oC,bX,erS_num,I9,Di,Ao,A0]
theorem er_pat {E T:PS->Syn×PS}(hE:Er E)(hT:Er T):Er (Sv E T):=fun st=>by
 unfold Sv;simp only [M1,M6];split
 .
  rename_i f hf
  have:=sC (read:=fun z s=>((Fp E T f.2 { z with kids:=[(T (Bb Ds s)).1] } (T (Bb Ds s)).2).1,Bb Gp (Fp E T f.2 { z with kids:=[(T (Bb Ds s)).1] } (T (Bb Ds s)).2).2)) (fun z s=>by
   have e:=er_rest hE hT f.2 { z with kids:=[(T (Bb Ds s)).1] } (T (Bb Ds s)).2;rw [bX,Ao,A0] at e;simp only [N8,hT _,e]) ⟨f.2,[],[],0,[],D4 st⟩ st
  rw [My] at this;exact this
 exact vZ hE st
theorem er_patN {E:PS->Syn×PS}(hE:Er E):∀n,Er (fK E n)
 | 0=>er_pat hE bY
 | n+1=>er_pat hE (er_patN hE n)
theorem er_key (st:PS)(k:Int):Nf (er st) 0=oC (Nf st k):=by
 unfold Nf;simp only [M1,Q9,Pv,Th,M6];split
 all_goals simp only [oC,My,A0]
theorem er_query {E T:PS->Syn×PS}(hE:Er E)(hT:Er T):Er (If E T):=fun st=>by
 unfold If;simp only [N8,Pv,M6,Th,er_key _ (D4 st),hT _,er_list hE];simp only [oC,My,Di,Ao,A0]
theorem eG {F:PS->Syn×PS}(h:Er F)(w:Ac):∀(n:Nat) (st:PS) (out:List Syn),E2 w F n (er st) (out.map Dy)=((E2 w F n st out).1.map Dy,er (E2 w F n st out).2)
  | 0,st,out=>rfl
  | n+1,st,out=>by
    unfold E2;rw [M1,h];split
    . have:=eG h w n (F st).2 (out ++ [(F st).1])
      rw [Di,Ao,A0] at this;exact this
    rfl
theorem er_prog {E T:PS->Syn×PS}(hE:Er E)(hT:Er T):Er (Fm E T):=fun st=>by
 unfold Fm;have h1:=eG er_kind B6 (B1 st) st [];have h2:=eG (er_query hE hT) B5 (B1 (E2 B6 Hh (B1 st) st []).2) (E2 B6 Hh (B1 st) st []).2 (E2 B6 Hh (B1 st) st []).1;rw [A0] at h1;simp only [jB,h1,h2,oC,My]
theorem er_EE:Er EE:=(kR 64).2
theorem er_TT:Er TT:=er_patN er_EE 64
end Go.Proofs.YtibcelnfkhdjaaaGreatDoor
