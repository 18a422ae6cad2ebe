/-
  Several texts in one: R4, R5, R6, Shelm, R7, R8, Rar, R9, R10, R11, R12, R13, R14, R16, R17, R20, R23, R27, S12, B12, P15, P16, P1, P2, P3. No condition.
-/
import Derived.Test.YtibcelnfkhdjaaaGreatDoorK04
import Derived.Shelf.Bits.Mul64
import Derived.Test.YtibcelnfkhdjaaaGreatDoorProg
import Derived.IntWalk
import Derived.Test.YtibcelnfkhdjaaaGreatDoorK02
import Derived.ControlIn
import Derived.Test.YtibcelnfkhdjaaaGreatDoorK03
import Derived.KernelRfl
set_option linter.unusedVariables false
set_option linter.unusedSimpArgs false
namespace Go.Aw
open Go
theorem GS.heq {sl:List (Nat×AV)}{H H2:List HO}{n:Nat}(h:H=H2):GS ⟨sl,H,n⟩ ⟨sl,H2,n⟩:=by subst h;exact GS.refl _
end Go.Aw
namespace Go.Proofs.YtibcelnfkhdjaaaGreatDoor
open Go Go.Aw
theorem vK {T:List e8Sc}{k:Nat}{s:e8Sc}(h:T[k]? = some s):G0 (T.take k) ++ [s.name]=G0 (T.take (k+1)):=by
 rw [Cs h];simp
theorem nm_new {T:List e8Sc}(hd:(G0 T).Nodup){k:Nat}{s:e8Sc}(h:T[k]? = some s):(G0 (T.take k)).contains s.name=false:=by
 rw [Oe];intro hc
 have h2:(G0 (T.take (k+1))).Nodup:=by
  have:(G0 (T.take (k+1))).Sublist (G0 T):=(List.take_sublist _ _).map _;exact hd.sublist this
 rw [<-vK h,Jo] at h2;exact h2.2.2 _ (List.contains_iff_mem.1 hc) _ (by simp) rfl
section
variable {T:List e8Sc} {V:List Va} {t:Syn}
def dFa (T:List e8Sc)(V:List Va)(t:Syn):Fa:=if (Ny T V t != 0) then ⟨t.pos,Ny T V t⟩ else Tk
def dV (T:List e8Sc)(V:List Va)(t:Syn):List Va:=if (Ny T V t != 0) then V else V ++ [aZ T t]
theorem dec_1 (h1:((V.length:Int)==16)=true):Ny T V t=5:=if_pos h1
theorem dec_2 (h1:((V.length:Int)==16)=false)(h2:(!((G0 T).contains t.text))=true):Ny T V t=8:=(B2 h1).trans (if_pos h2)
theorem dec_3 (h1:((V.length:Int)==16)=false)(h2:(!((G0 T).contains t.text))=false)(h3:(Mp V).contains t.name=true):Ny T V t=7:=(B2 h1).trans ((B2 h2).trans (if_pos h3))
theorem dec_4 (h1:((V.length:Int)==16)=false)(h2:(!((G0 T).contains t.text))=false)(h3:(Mp V).contains t.name=false):Ny T V t=0:=(B2 h1).trans ((B2 h2).trans (B2 h3))
theorem qZ {e:Int}(h:Ny T V t=e)(he:e≠0):dFa T V t=⟨t.pos,e⟩/\dV T V t=V:=by
 unfold dFa dV;rw [h,if_pos (by simpa using he),if_pos (by simpa using he)];exact ⟨rfl,rfl⟩
theorem dFa_yes (h:Ny T V t=0):dFa T V t=Tk/\dV T V t=V ++ [aZ T t]:=by
 unfold dFa dV;rw [h,if_neg (by decide),if_neg (by decide)];exact ⟨rfl,rfl⟩
theorem Uq (r:List Syn):P6 T V (t::r)=if (Ny T V t != 0) then (V,⟨t.pos,Ny T V t⟩) else P6 T (V ++ [aZ T t]) r:=by rw [P6]
theorem decS_hit {l:List Syn}{k:Nat}(h:l[k]? = some t)(he:((dFa T V t).err != 0)=true):P6 T V (l.drop k)=(dV T V t,dFa T V t):=by
 have hx:(Ny T V t != 0)=true:=by
  unfold dFa at he;cases hq:Ny T V t != 0 with
  | true=>rfl
  | false=>rw [hq,if_neg (by decide)] at he;exact absurd he (by decide)
 rw [Bm h,Uq,if_pos hx];unfold dFa dV;rw [if_pos hx,if_pos hx]
theorem decS_on {l:List Syn}{k:Nat}(h:l[k]? = some t)(he:((dFa T V t).err != 0)=false):P6 T V (l.drop k)=P6 T (dV T V t) (l.drop (k+1)):=by
 have hx:(Ny T V t != 0)=false:=by
  unfold dFa at he;cases hq:Ny T V t != 0 with
  | false=>rfl
  | true=>rw [hq,if_pos rfl] at he;simp only at he;rw [hq] at he;cases he
 rw [Bm h,Uq,B2 hx];unfold dV;rw [B2 hx]
theorem dV_len (h:V.length<=16):(dV T V t).length<=16:=by
  unfold dV;cases hq:Ny T V t != 0 with
  | true=>rw [if_pos rfl];exact h
  | false=>
    rw [B2 rfl,Ao,D2]
    have:V.length≠16:=fun h16=>by
      have:=dec_1 (T:=T) (t:=t) (V:=V) (by simp [h16]);rw [this] at hq;exact absurd hq (by decide)
    omega
theorem scVa (l:List Va):∀c∈l.map Rd,Au c=true:=fun c hc=>by
 obtain ⟨x,_,rfl⟩:=C9.1 hc;rfl
end
section
variable {t:Syn}
theorem Zp (h:B4 t .pats=0):5<=t.kind/\t.kind<=12:=kT (K1 (Ka h).1).1
theorem Uz (h:B4 t .pats=0)(hk:t.kind=10\/t.kind=12):t.kids.length=2:=by
 have hs:=(K1 (Ka h).1).2.1;unfold Gr at hs;rcases hk with hk | hk <;> · rw [hk] at hs;simp at hs;omega
theorem Uy (h:B4 t .pats=0)(h5:t.kind≠5){j:Nat}{a:Syn}(ha:t.kids[j]? = some a)(hj:(t.kind=10\/t.kind=12)->j=0):B4 a .pats=0:=by
 have hr:=Zp h;have hk:=(Pa h ha).1
 have he:Id t j = .pats:=by
  unfold Id;rw [if_neg (by simp;omega),if_neg (by simp;omega),if_neg (by simp;omega)];by_cases h10:t.kind=10
  .
   have:=hj (.inl h10);subst this;rw [if_pos (by simpa using h10),if_neg (by decide)]
  rw [if_neg (by simpa using h10)];by_cases h12:t.kind=12
  .
   have:=hj (.inr h12);subst this;rw [if_pos (by simpa using h12),if_neg (by decide)]
  rw [if_neg (by simpa using h12),if_neg (by simp;omega),if_neg (by simp;omega)]
 rw [he] at hk;exact hk
theorem H8 (x:Syn)(r:List Syn):G3 (x::r)=Jd x+G3 r:=by rw [G3]
theorem jW (t:Syn):(Xc t).length<=Jd t:=by
  induction t using Syn.ind with
  | h t ih=>
    rw [Y1,Ho]
    have hh:(evH t.kids).length<=G3 t.kids:=by
      cases hk:t.kids with
      | nil=>rw [evH];simp
      | cons x r=>rw [evH,H8];have:=ih x (by rw [hk];simp);omega
    have hf:∀l:List Syn,(∀a∈l,(Xc a).length<=Jd a)->(l.flatMap Xc).length<=G3 l:=by
      intro l
      induction l with
      | nil=>intro _;simp
      | cons x r ih2=>intro hl;rw [Kf,Ao,H8];have:=hl x (by simp);have:=ih2 fun a ha=>hl a (by simp [ha]);omega
    split
    . simp
    . split
      . rw [A1];omega
      . split
        . omega
        have:=hf _ ih;omega
theorem Yy:∀(l:List Syn) (k:Nat),G3 (l.take k)<=G3 l
 | [],k=>by simp
 | x::r,0=>by rw [List.take_zero,G3];omega
 | x::r,k+1=>by rw [Ue,H8,H8];have:=Yy r k;omega
theorem evF_len (l:List Syn):(l.flatMap Xc).length<=G3 l:=by
 induction l with
 | nil=>simp
 | cons x r ih=>rw [Kf,Ao,H8];have:=jW x;omega
theorem ev_part (ht:U7 t)(k:Nat):(((t.kids.take k).flatMap Xc).map Cu).length<=1000000:=by
 rw [By];have h1:=evF_len (t.kids.take k);have h2:=Yy t.kids k;have h3:=qX t.kids;have h4:=wC_eq t;unfold U7 at ht;omega
theorem ev_kid (ht:U7 t):((Xc t).map Cu).length<=1000000:=by
 rw [By];exact E7 (jW t) (Sm ht)
theorem scSyn (l:List Syn):∀c∈l.map Cu,Au c=true:=fun c hc=>by
 obtain ⟨x,_,rfl⟩:=C9.1 hc;rw [Ba];rfl
theorem evs_1 (h1:(t.kind==5)=true):(Xc t).map Cu = [cSyn t]:=by
 rw [Y1,if_pos h1,Be,Bw,Ba]
theorem evs_2 (h1:(t.kind==5)=false)(h2:(t.kind==10)=true)(hl:0<t.kids.length):(Xc t).map Cu = [cSyn (B5 t 1)]++(Xc (B5 t 0)).map Cu:=by
 rw [Y1,B2 h1,if_pos h2,Be,Ba,jV hl];rfl
theorem evs_3 (h1:(t.kind==5)=false)(h2:(t.kind==10)=false)(h3:(t.kind==12)=true)(hl:0<t.kids.length):Xc t=Xc (B5 t 0):=by
 rw [Y1,B2 h1,B2 h2,if_pos h3,jV hl];rfl
theorem evs_4 (h1:(t.kind==5)=false)(h2:(t.kind==10)=false)(h3:(t.kind==12)=false):Xc t=t.kids.flatMap Xc:=by
 rw [Y1,B2 h1,B2 h2,B2 h3]
end
def opL:List (Int×AV):=[(5,.int .i64 0),(6,.int .i64 1),(7,.int .i64 2),(8,.int .i64 3),(9,.int .i64 4),(10,.int .i64 5),(11,.int .i64 6),(12,.int .i64 7)]
theorem op_get {k:Int}(h0:5<=k)(h1:k<=12):Wd opL k=some (.int .i64 (k-5)):=by
 have:k=5\/k=6\/k=7\/k=8\/k=9\/k=10\/k=11\/k=12:=by omega
 rcases this with rfl | rfl | rfl | rfl | rfl | rfl | rfl | rfl <;> rfl
structure NxOK (s:Nx) (n:Nat):Prop where
 a:0<=s.next
 b:0<=s.scopes
 c:s.next+n<=3000000
 d:s.scopes+n<=3000000
section
variable {T:List e8Sc} {V:List Va} {t:Syn}
theorem cond_1 (h:decide ((0:Int)<(t.kids.length:Int))=true):P4 T V t=F6 T V (B5 t 0):=if_pos h
theorem cond_2 (h:decide ((0:Int)<(t.kids.length:Int))=false):P4 T V t=T8:=B2 h
theorem ptn_args (s:Nx)(xs:List Pt):Qu T V t s xs = { Qu T V t s [] with args:=xs }:=by
 unfold Qu;split
 . rfl
 split
 . rfl
 split
 . rfl
 split <;> rfl
theorem eL (t:Syn)(s:Nx):Kc T V t s=({ Qu T V t s [] with args:=(Gy T V (Hj t) (Zn t s)).1 },(Gy T V (Hj t) (Zn t s)).2):=by
 rw [vS,ptn_args]
theorem ptn_5 {s:Nx}(h1:(t.kind==5)=true):Qu T V t s []=⟨0,[],Tr (G0 T) t.text,s.next,0,0,P4 T V t⟩:=if_pos h1
theorem ptn_10 {s:Nx}(h1:(t.kind==5)=false)(h2:(t.kind==10)=true):Qu T V t s []=⟨5,[],Tr (G0 T) (B5 t 1).text,s.next,s.scopes,0,P4 T V (B5 t 1)⟩:=(B2 h1).trans (if_pos h2)
theorem ptn_11 {s:Nx}(h1:(t.kind==5)=false)(h2:(t.kind==10)=false)(h3:(t.kind==11)=true):Qu T V t s []=⟨6,[],0,0,s.scopes,t.num,qF⟩:=(B2 h1).trans ((B2 h2).trans (if_pos h3))
theorem ptn_12 {s:Nx}(h1:(t.kind==5)=false)(h2:(t.kind==10)=false)(h3:(t.kind==11)=false)(h4:(t.kind==12)=true):Qu T V t s []=⟨7,[],0,0,0,0,F6 T V (B5 t 1)⟩:=(B2 h1).trans ((B2 h2).trans ((B2 h3).trans (if_pos h4)))
theorem ptn_o {s:Nx}(h1:(t.kind==5)=false)(h2:(t.kind==10)=false)(h3:(t.kind==11)=false)(h4:(t.kind==12)=false):Qu T V t s []=⟨t.kind-5,[],0,0,0,0,qF⟩:=(B2 h1).trans ((B2 h2).trans ((B2 h3).trans (B2 h4)))
theorem pn_5 {s:Nx}(h1:(t.kind==5)=true):(⟨t.kind-5,[],Tr (G0 T) t.text,s.next,0,0,P4 T V t⟩:Pt)=Qu T V t s []:=by
 have:t.kind=5:=by simpa using h1
 rw [ptn_5 h1,this];rfl
theorem pn_10 {s:Nx}(h1:(t.kind==5)=false)(h2:(t.kind==10)=true):(⟨t.kind-5,[],Tr (G0 T) (B5 t 1).text,s.next,s.scopes,0,P4 T V (B5 t 1)⟩:Pt)=Qu T V t s []:=by
 have:t.kind=10:=by simpa using h2
 rw [ptn_10 h1 h2,this];rfl
theorem pn_11 {s:Nx}(h1:(t.kind==5)=false)(h2:(t.kind==10)=false)(h3:(t.kind==11)=true):(⟨t.kind-5,[],0,0,s.scopes,t.num,qF⟩:Pt)=Qu T V t s []:=by
 have:t.kind=11:=by simpa using h3
 rw [ptn_11 h1 h2 h3,this];rfl
theorem pn_12 {s:Nx}(h1:(t.kind==5)=false)(h2:(t.kind==10)=false)(h3:(t.kind==11)=false)(h4:(t.kind==12)=true):(⟨t.kind-5,[],0,0,0,0,F6 T V (B5 t 1)⟩:Pt)=Qu T V t s []:=by
 have:t.kind=12:=by simpa using h4
 rw [ptn_12 h1 h2 h3 h4,this];rfl
theorem nxn_5 {s:Nx}(h1:(t.kind==5)=true):Zn t s=⟨s.next+1,s.scopes⟩:=by
 have:t.kind=5:=by simpa using h1
 unfold Zn;rw [this];rfl
theorem nxn_10 {s:Nx}(h2:(t.kind==10)=true):Zn t s=⟨s.next+1,s.scopes+1⟩:=by
 have:t.kind=10:=by simpa using h2
 unfold Zn;rw [this];rfl
theorem nxn_11 {s:Nx}(h3:(t.kind==11)=true):Zn t s=⟨s.next,s.scopes+1⟩:=by
 have:t.kind=11:=by simpa using h3
 unfold Zn;rw [this];rfl
theorem nxn_o {s:Nx}(h1:(t.kind==5)=false)(h2:(t.kind==10)=false)(h3:(t.kind==11)=false):Zn t s=s:=by
 unfold Zn;rw [h1,h2,h3];rfl
theorem pk_5 (h1:(t.kind==5)=true):Hj t = []:=if_pos h1
theorem pk_10 (h1:(t.kind==5)=false)(h2:(t.kind==10)=true):Hj t=t.kids.take 1:=by
 unfold Hj;rw [B2 h1,h2];rfl
theorem pk_12 (h1:(t.kind==5)=false)(h4:(t.kind==12)=true):Hj t=t.kids.take 1:=by
 unfold Hj;rw [B2 h1,h4];simp
theorem pk_o (h1:(t.kind==5)=false)(h2:(t.kind==10)=false)(h4:(t.kind==12)=false):Hj t=t.kids:=by
 unfold Hj;rw [B2 h1,h2,h4];rfl
theorem eJ {a:Syn}(h:a∈Hj t):a∈t.kids:=by
 unfold Hj at h;split at h
 . cases h
 split at h
 . exact List.mem_of_mem_take h
 exact h
theorem oL (hc:B4 t .pats=0){a:Syn}(h:a∈Hj t):B4 a .pats=0:=by
 have h5:t.kind≠5:=fun e=>by rw [pk_5 (by simpa using e)] at h;cases h
 obtain ⟨j,hj⟩:=Jp.1 h;unfold Hj at hj;rw [if_neg (by simpa using h5)] at hj;split at hj
 .
  rename_i hq;have hj0:j=0:=by have:=(List.getElem?_eq_some_iff.1 hj).1;simp at this;omega
  subst hj0;rw [List.getElem?_take_of_lt (by omega)] at hj;exact Uy hc h5 hj fun _=>rfl
 rename_i hq;exact Uy hc h5 hj fun e=>absurd (by simpa using e) hq
theorem bL (t:Syn):G3 (Hj t)<=G3 t.kids:=by
 unfold Hj;split
 . rw [G3];omega
 split
 . exact Yy _ _
 exact Bc _
theorem pk_len (ht:U7 t):(Hj t).length<=1048576:=by
 have h1:=cM (Hj t);have h2:=bL t;have h3:=Sm ht;rw [Ho] at h3;omega
theorem nxn_ok {s:Nx}(h:NxOK s (Jd t)):NxOK (Zn t s) (G3 t.kids)/\s.next<=(Zn t s).next/\s.scopes<=(Zn t s).scopes/\(Zn t s).next<=s.next+1/\(Zn t s).scopes<=s.scopes+1:=by
 obtain ⟨a,b,c,d⟩:=h;rw [Ho] at c d;unfold Zn;refine ⟨⟨?_,?_,?_,?_⟩,?_,?_,?_,?_⟩ <;> simp only <;> split <;> omega
theorem ptt_step:∀t:Syn,∀s:Nx,NxOK s (Jd t)->s.next<=(Kc T V t s).2.next/\s.scopes<=(Kc T V t s).2.scopes/\(Kc T V t s).2.next<=s.next+Jd t/\(Kc T V t s).2.scopes<=s.scopes+Jd t:=by
  intro t
  induction t using Syn.ind with
  | h t ih=>
    intro s hs;obtain ⟨h1,h2,h3,h4,h5⟩:=nxn_ok hs;rw [vS,Ho]
    have key:∀l:List Syn,(∀a∈l,a∈t.kids)->∀s:Nx,NxOK s (G3 l)->s.next<=(Gy T V l s).2.next/\s.scopes<=(Gy T V l s).2.scopes/\(Gy T V l s).2.next<=s.next+G3 l/\(Gy T V l s).2.scopes<=s.scopes+G3 l:=by
      intro l
      induction l with
      | nil=>intro _ s _;rw [Gy];simp only;omega
      | cons x r ih2=>
        intro hl s hs;obtain ⟨a,b,c,d⟩:=hs;rw [H8] at c d;have hx:=ih x (hl x (by simp)) s ⟨a,b,by omega,by omega⟩;have hr:=ih2 (fun a ha=>hl a (by simp [ha])) (Kc T V x s).2 ⟨by omega,by omega,by omega,by omega⟩;rw [Gy,H8];simp only;omega
    have hp:=bL t;have hk:=key (Hj t) (fun a ha=>eJ ha) (Zn t s) ⟨h1.a,h1.b,by have:=h1.c;omega,by have:=h1.d;omega⟩;simp only;omega
theorem oT {l:List Syn}{k:Nat}{a:Syn}(h:l[k]? = some a)(s:Nx):Gy T V (l.take (k+1)) s=((Gy T V (l.take k) s).1 ++ [(Kc T V a (Gy T V (l.take k) s).2).1],(Kc T V a (Gy T V (l.take k) s).2).2):=by
 rw [Cs h,oS,Gy,Gy]
theorem xC {l:List Syn}{k:Nat}{a:Syn}(h:l[k]? = some a):G3 (l.drop k)=Jd a+G3 (l.drop (k+1)):=by rw [Bm h,H8]
theorem nx_on {l:List Syn}{k:Nat}{a:Syn}(h:l[k]? = some a){s:Nx}(hs:NxOK s (G3 (l.drop k))):NxOK s (Jd a)/\NxOK (Kc T V a s).2 (G3 (l.drop (k+1))):=by
 obtain ⟨x1,x2,x3,x4⟩:=hs;rw [xC h] at x3 x4;have ha:NxOK s (Jd a):=⟨x1,x2,by omega,by omega⟩;have:=ptt_step (T:=T) (V:=V) a s ha;exact ⟨ha,by omega,by omega,by omega,by omega⟩
theorem scPt (l:List Pt):∀c∈l.map Tj,Au c=true:=fun c hc=>by
 obtain ⟨x,_,rfl⟩:=C9.1 hc;rw [jS];rfl
theorem Xu (hw:(H4 T V t).err=0){j:Nat}(h:j<t.kids.length):(H4 T V (B5 t j)).err=0:=(Kn hw).2 _ (Aj (Hq h))
theorem kJ (ht:U7 t){j:Nat}(h:j<t.kids.length):U7 (B5 t j):=Lw ht (Aj (Hq h))
end
end Go.Proofs.YtibcelnfkhdjaaaGreatDoor

namespace Go.Proofs
open Go.Shelf
def Tryz.lays212_ren:Go.Shelf.Ren:=⟨fun | 212=>156 | 263=>196 | 264=>197 | n=>n,fun | 46=>221 | 51=>249 | 146=>250 | 53=>252 | 148=>253 | n=>n,fun | n=>n⟩
theorem Tryz.lays212:Go.Proofs.Lays.n212 Tryz.prog Tryz.lays212_ren:={
 mixed:=by kernel_rfl
 f212:=Tryz.func156.trans (congrArg some (by kernel_rfl))
 f263:=Tryz.func196.trans (congrArg some (by kernel_rfl))
 f264:=Tryz.func197.trans (congrArg some (by kernel_rfl))
 t46:=Tryz.underlying221
 a46:=Tryz.isAgg221
 z46:=Tryz.sizeOf221
 v46:=Tryz.zeroValue221
 t51:=Tryz.underlying249
 a51:=Tryz.isAgg249
 z51:=Tryz.sizeOf249
 v51:=Tryz.zeroValue249
 t53:=Tryz.underlying252
 a53:=Tryz.isAgg252
 z53:=Tryz.sizeOf252
 v53:=Tryz.zeroValue252
 t146:=Tryz.underlying250
 a146:=Tryz.isAgg250
 z146:=Tryz.sizeOf250
 v146:=Tryz.zeroValue250
 t148:=Tryz.underlying253
 a148:=Tryz.isAgg253
 z148:=Tryz.sizeOf253
 v148:=Tryz.zeroValue253 }
open Go.RowKit Go.Lib in
theorem Tryz.bits_Mul (x y:Nat)(hx:x<18446744073709551616)(hy:y<18446744073709551616)(w:World) :
 Calls Tryz.prog 156 #[.int .u64 x,.int .u64 y] w fun e w'=>e = .returned (.tuple #[.int .u64 ((x*y / 18446744073709551616:Nat):Int),.int .u64 ((x*y % 18446744073709551616:Nat):Int)])/\w'=w:=Any.bits_Mul Tryz.lays212 x y hx hy w
end Go.Proofs

namespace Go.Proofs.YtibcelnfkhdjaaaGreatDoor
open Go Go.Aw
def ixI (l:List Int)(k:Int):Int:=(l[k.toNat]?).getD 0
def bI (l:List Int):List AV:=l.map (AV.int .i64)
def cI (v:Int):List AV:=[.int .i64 v]
theorem cG (l:List Int):(bI l).length=l.length:=By ..
theorem bI_sc (l:List Int):Au (bI l)=true:=by
 induction l with
 | nil=>rfl
 | cons a r ih=>exact ih
theorem Aaf (l m:List Int):bI (l++m)=bI l++bI m:=E5 ..
theorem uB (l:List Int)(k:Nat):(bI l).take k=bI (l.take k):=(List.map_take ..).symm
theorem bI_drop (l:List Int)(k:Nat):(bI l).drop k=bI (l.drop k):=(List.map_drop ..).symm
theorem bI_zero (n:Nat):(List.replicate n [AV.int .i64 0]).flatten=bI (List.replicate n 0):=by
 induction n with
 | zero=>rfl
 | succ n ih=>rw [aA,Bd,ih,aA];rfl
theorem uA (l:List Int):(l.map cI).flatten=bI l:=by
 induction l with
 | nil=>rfl
 | cons a r ih=>rw [Be,Bd,ih];rfl
theorem oF {α:Type}{f:α->List AV}(hf:∀x,(f x).length=1)(l:List α):∀e∈l.map f,e.length=1:=fun e he=>by
 obtain ⟨x,_,rfl⟩:=C9.1 he;exact hf x
theorem qP:∀{l:List Int} {k:Nat} {v:Int},k<l.length->Gb (bI l) k [AV.int .i64 v]=bI (l.set k v)
  | [],k,v,h=>absurd h (by simp)
  | a::r,0,v,h=>by simp [Gb,bI]
  | a::r,k+1,v,h=>by
    have ih:=qP (l:=r) (k:=k) (v:=v) (by simpa using h);show AV.int .i64 a::Gb (bI r) k [AV.int .i64 v]=_;rw [ih];rfl
theorem off0 (n:Nat):0+n*1=n:=by omega
theorem tZ {l:List Int}{k:Nat}(h:k<l.length):Nat.ble (k+1) (bI l).length=true:=Nat.ble_eq_true_of_le (by rw [cG];omega)

def dZ (n:Nat):List Int:=List.replicate n (-1)
def N9 (n k:Nat):List Int:=List.replicate k (-1)++List.replicate (n-k) 0
theorem eO {n k:Nat}(h:k<=n):(N9 n k).length=n:=by unfold N9;simp;omega
theorem yL (n:Nat):N9 n n=dZ n:=by unfold N9 dZ;simp
theorem yK {n k m:Nat}(hk:k+m<=n)(hm:m<=k):Gb (bI (N9 n k)) k (((bI (N9 n k)).drop 0).take m)=bI (N9 n (k+m)):=by
 rw [Oi,uB]
 have h1:(N9 n k).take m=List.replicate m (-1):=by
  unfold N9;rw [bT (by rw [L2];exact hm),List.take_replicate,Nat.min_eq_left hm]
 have h2:(N9 n k).take k=List.replicate k (-1):=by
  unfold N9;rw [bT (by rw [L2];omega),List.take_replicate,Nat.min_self]
 have h3:(N9 n k).drop (k+m)=List.replicate (n-(k+m)) 0:=by
  unfold N9;rw [List.drop_append,L2,List.drop_of_length_le (by rw [L2];omega),Du,List.drop_replicate]
  congr 1;omega
 unfold Gb;rw [h1,cG,L2,uB,bI_drop,h2,h3,<-Aaf,<-Aaf]
 congr 1
 unfold N9;rw [List.replicate_append_replicate]
theorem sJ {n:Nat}(hn:0<n):Gb (bI (N9 n 0)) 0 ((([[AV.int .i64 (-1)]]:List (List AV)).flatten).take 1)=bI (N9 n 1):=by
 unfold N9;obtain ⟨m,rfl⟩:∃m,n=m+1:=⟨n-1,by omega⟩;simp [Gb,bI,aA]
theorem kMul (x y:Nat)(hx:x<18446744073709551616)(hy:y<18446744073709551616):Ap Tryz.prog 156 [.int .u64 (x:Int),.int .u64 (y:Int)] (.tuple [.int .u64 ((x*y / 18446744073709551616:Nat):Int),.int .u64 ((x*y % 18446744073709551616:Nat):Int)]):=
 .of_same fun g w vs hg ha=>by
  obtain ⟨u,v,rfl,h1,h2⟩:=ha.inv2;have e1:=h1.inv_int;have e2:=h2.inv_int;subst e1 e2
  exact ⟨_,fun g' w'=>.tuple _ _ rfl (fun i c hc=>by
   match i,hc with
   | 0,hc=>cases hc;exact .int _ _
   | 1,hc=>cases hc;exact .int _ _
   | i+2,hc=>simp at hc),Tryz.bits_Mul x y hx hy w⟩
theorem kMul1 (n:Nat)(hn:n<=1048576):Ap Tryz.prog 156 [.int .u64 1,.int .u64 (n:Int)] (.tuple [.int .u64 0,.int .u64 (n:Int)]):=by
 have h:=kMul 1 n (by decide) (by omega);rw [Nat.one_mul,Nat.div_eq_of_lt (by omega),Nat.mod_eq_of_lt (by omega)] at h;exact h
theorem u64_in {n:Nat}(h:n<=1048576):IntKind.wrap .u64 (n:Int)=(n:Int):=by
 unfold IntKind.wrap;simp [IntKind.bits,IntKind.signed];omega
theorem i64_in {n:Nat}(h:n<=1048576):IntKind.wrap .i64 (n:Int)=(n:Int):=IntWalk.i64_in _ (by omega)
theorem gL {l:List Int}{k:Nat}{v:Int}(h:k<l.length):(bI (l.set k v))[k]? = some (.int .i64 v):=by
 unfold bI;rw [List.getElem?_map,List.getElem?_set_self h];rfl
section
variable {T:List e8Sc} {n:Ag} {va:Va} {sc:e8Sc}
theorem vA {l:List Va}{k:Nat}{out:List Int}(h:l[k]? = some va)(hs:T[va.type.toNat]? = some sc)(hq:decide (Ey sc n<0)=true):O8 T n (l.drop k) out=([],false):=by
 rw [Bm h,O8,hs];exact if_pos hq
theorem key_on {l:List Va}{k:Nat}{out:List Int}(h:l[k]? = some va)(hs:T[va.type.toNat]? = some sc)(hq:decide (Ey sc n<0)=false):O8 T n (l.drop k) out=O8 T n (l.drop (k+1)) (out.set va.type.toNat (Ey sc n)):=by
 rw [Bm h,O8,hs];exact B2 hq
end
end Go.Proofs.YtibcelnfkhdjaaaGreatDoor

namespace Go.Aw
open Go
section
variable {P:Program} {T:List (Nat×TD)} {d:Option Nat} {ty:TypeId} {pos:String} {aft:Array Edge} {gd:Option (Nat×Bool)} {ρ:Operand->AV} {K:List HO->Prop}
theorem Lk {i:Operand}{t e len:Nat}{td te:TD}{k:IntKind}{n:Int}{gl:Nat}{l cs':List AV}(hT:H6 P T)(hg:∃c,(gl,c)∈globals/\∀cs,c cs->cs=l)(hi:ρ i = .int k n)(ht:Bl T t=some td)(hk:td.kind = .array len e)
  (hte:Bl T e=some te) (h0:0<=n) (hc:n<len) (ho:l.drop (n.toNat*te.size)=cs') (hρ:ρ (.global gl) = .val (.pointer (some ⟨gl,0,none⟩))):Db P ⟨d,.indexAddr t (.global gl) i,ty,pos,aft,gd⟩ ρ K (.ptr cs'):=by
 intro g w a H next Q hr hH hK hn
 obtain ⟨c,hc',hcl⟩:=hg;obtain ⟨cs,h1,h2⟩:=hH.glob.vars _ hc';obtain rfl:=hcl cs h1;obtain ⟨b,o,he,fv,h3,h4⟩:=h2.inv_ptr;simp only [Value.pointer.injEq,Option.some.injEq,Addr.mk.injEq,and_true] at he;obtain ⟨rfl,rfl⟩:=he;have he:=(hρ▸hr (.global gl) (by simp [Op.operands]):Rep g w _ _).inv_val;have h5:=(hi▸hr i (by simp [Op.operands]):Rep g w _ _).inv_int;have hu:=Nc (hT t td ht) hk
 have hrun:(execOp a.eval ⟨d,.indexAddr t (.global gl) i,ty,pos,aft,gd⟩).run P w = .ok (.value (.pointer (some ⟨gl,0+n.toNat*te.size,none⟩))) w:=by
  simp only [execOp,he,h5,Instr.indexAt,asIntOf,Sem.run_bind,Sem.run_pure,Result.andThen_ok,A8 hu,Instr.sureAddr];simp [h0,hc,F0 (hT e te hte),Fb]
 unfold Oper.wp;rw [hrun];subst ho;refine hn g w _ (.ptr gl (0+n.toNat*te.size) _ (fun j=>fv (n.toNat*te.size+j)) (fun j x hj=>?_) (fun j x hj=>?_)) hH (Ext.refl g w)
 .
  rw [List.getElem?_drop] at hj;have:=h3 (n.toNat*te.size+j) x hj
  rwa [Nat.add_assoc]
 rw [List.getElem?_drop] at hj;exact h4 (n.toNat*te.size+j) x hj
end
end Go.Aw
namespace Go.Proofs.YtibcelnfkhdjaaaGreatDoor
open Go Go.Aw

mutual
def Hx:Pt->List Pt
 | ⟨o,xs,t,v,s,n,c⟩=>⟨o,xs,t,v,s,n,c⟩::ndPs xs
def ndPs:List Pt->List Pt
 | []=>[]
 | a::r=>Hx a++ndPs r
end
theorem nZ:∀l:List Pt,ndPs l=l.flatMap Hx
 | []=>by rw [ndPs];rfl
 | a::r=>by rw [ndPs,nZ r,Kf]
theorem Pc (p:Pt):Hx p=p::p.args.flatMap Hx:=by cases p;rw [Hx,nZ]
mutual
def rC:Pt->Nat
 | ⟨_,xs,_,_,_,_,_⟩=>Yz xs+1
def Yz:List Pt->Nat
 | []=>0
 | a::r=>max (rC a) (Yz r)
end
theorem rD (p:Pt):rC p=Yz p.args+1:=by cases p;rw [rC]
theorem gU:∀(l:List Pt) (a:Pt),Yz (l ++ [a])=max (Yz l) (rC a)
 | [],a=>by simp [Yz]
 | x::r,a=>by rw [Dn,Yz,gU r a,Yz];omega
theorem dp_le:∀p:Pt,rC p<=J5 p:=by
  intro p
  induction p using Pt.ind with
  | h p ih=>
    rw [rD,Mq]
    have:∀l:List Pt,(∀a∈l,rC a<=J5 a)->Yz l<=(l.map J5).sum:=by
      intro l
      induction l with
      | nil=>intro _;rw [Yz];simp
      | cons x r ih2=>intro h;rw [Yz,Be,Hu];have:=h x (by simp);have:=ih2 fun a ha=>h a (by simp [ha]);omega
    have:=this _ ih;omega
theorem Ph {p a:Pt}(h:a∈p.args):J5 a<J5 p:=by
  rw [Mq p]
  have:∀l:List Pt,a∈l->J5 a<=(l.map J5).sum:=by
    intro l
    induction l with
    | nil=>intro h;cases h
    | cons x r ih => intro h; rw [Be, Hu]; rcases Cn.1 h with rfl | h
                     . omega
                     have:=ih h;omega
  have:=this _ h;omega
theorem Wj (p:Pt):p.args.length<J5 p:=by
  rw [Mq]
  have:∀l:List Pt,l.length<=(l.map J5).sum:=by
    intro l
    induction l with
    | nil=>simp
    | cons x r ih => rw [A1, Be, Hu]; have : 1 <= J5 x := by rw [Mq]; omega
                     omega
  have:=this p.args;omega
theorem kV:∀(l:List Pt) (k:Nat),((l.take k).map J5).sum<=(l.map J5).sum
 | [],k=>by simp
 | x::r,0=>by simp
 | x::r,k+1=>by rw [Ue,Be,Be,Hu,Hu];have:=kV r k;omega
theorem nd_len:∀p:Pt,(Hx p).length=J5 p:=by
  intro p
  induction p using Pt.ind with
  | h p ih=>
    rw [Pc,Mq,A1]
    have:∀l:List Pt,(∀a∈l,(Hx a).length=J5 a)->(l.flatMap Hx).length=(l.map J5).sum:=by
      intro l
      induction l with
      | nil=>intro _;rfl
      | cons x r ih2=>intro h;rw [Kf,Ao,Be,Hu,h x (by simp),ih2 fun a ha=>h a (by simp [ha])]
    rw [this _ ih]
theorem nd_mem {p a q:Pt}(h:a∈p.args)(hq:q∈Hx a):q∈Hx p:=by
 rw [Pc];exact Ha _ (List.mem_flatMap.2 ⟨a,h,hq⟩)
theorem kN (p:Pt):p∈Hx p:=by rw [Pc];exact I7 ..
theorem iT {l:List Pt}{k:Nat}{a:Pt}(h:l[k]? = some a):(l.map Tj)[k]? = some (cPt a):=by rw [List.getElem?_map,h];exact congrArg some (jS a)

structure Shp where
 least:Int
 most:Int
 typed:Bool
 cond:Bool
 scope:Bool
 span:Bool
def cShp (s:Shp):List AV:=[.int .i64 s.least,.int .i64 s.most,.bool s.typed,.bool s.cond,.bool s.scope,.bool s.span]
def shpL:List Shp:=[⟨0,0,true,true,false,false⟩,⟨2,64,false,false,false,false⟩,⟨2,64,false,false,false,false⟩,⟨2,64,false,false,false,false⟩,⟨1,1,false,false,false,false⟩,⟨1,1,true,true,true,false⟩,⟨1,1,false,false,true,true⟩,⟨1,1,false,true,false,false⟩,⟨2,2,false,false,false,false⟩,⟨1,1,true,true,true,false⟩,⟨1,1,false,false,true,true⟩]
def Lg (o:Int):Shp:=(shpL[o.toNat]?).getD ⟨0,0,false,false,false,false⟩
theorem shp_at {o:Int}(h0:0<=o)(h1:o<11):∃rest,Wp.drop (o.toNat*6)=cShp (Lg o)++rest:=by
 have:o=0\/o=1\/o=2\/o=3\/o=4\/o=5\/o=6\/o=7\/o=8\/o=9\/o=10:=by omega
 rcases this with rfl | rfl | rfl | rfl | rfl | rfl | rfl | rfl | rfl | rfl | rfl <;> exact ⟨_,rfl⟩
def wth (u:Bool)(n m:Int):Bool:=!u||(decide (0<=n)&&decide (n<=m))
def unu (u:Bool)(n:Int):Bool:=u||(n==0)
def ckB (p:Pt)(s:Shp):Bool:=(((!wth s.typed p.type 15) || !wth s.typed p.var 15) || !wth s.scope p.scope 63) || !wth s.span p.span 1099511627776
def ckU (p:Pt)(s:Shp):Bool:=(((((!s.cond) && !M4 p.cond qF) || !unu s.typed p.type) || !unu s.typed p.var) || !unu s.scope p.scope) || !unu s.span p.span
def ckR (p:Pt)(s:Shp):Int:=
 if decide ((p.args.length:Int)<s.least)||decide (s.most<(p.args.length:Int)) then 15
 else if ckB p s then 2
 else if s.cond&&(Fg p.cond != 0) then Fg p.cond
 else if ckU p s then 3 else 0
def bK (p:Pt):Int:=if decide (p.op<0)||decide (11<=p.op) then 1 else ckR p (Lg p.op)
section
variable {p:Pt}
theorem ck_1 (h:(decide (p.op<0)||decide (11<=p.op))=true):bK p=1:=if_pos h
theorem ck_2 (h:(decide (p.op<0)||decide (11<=p.op))=false)(h2:(decide ((p.args.length:Int)<(Lg p.op).least)||decide ((Lg p.op).most<(p.args.length:Int)))=true):bK p=15:=(B2 h).trans (if_pos h2)
theorem ck_3 (h:(decide (p.op<0)||decide (11<=p.op))=false)(h2:(decide ((p.args.length:Int)<(Lg p.op).least)||decide ((Lg p.op).most<(p.args.length:Int)))=false)(h3:ckB p (Lg p.op)=true):bK p=2:=(B2 h).trans ((B2 h2).trans (if_pos h3))
theorem ck_4 (h:(decide (p.op<0)||decide (11<=p.op))=false)(h2:(decide ((p.args.length:Int)<(Lg p.op).least)||decide ((Lg p.op).most<(p.args.length:Int)))=false)(h3:ckB p (Lg p.op)=false)(h4:(Lg p.op).cond=true)(h5:(Fg p.cond != 0)=true):bK p=Fg p.cond:=by
 refine (B2 h).trans ((B2 h2).trans ((B2 h3).trans (if_pos ?_)));rw [h4,h5];rfl
theorem Aar (h:(decide (p.op<0)||decide (11<=p.op))=false)(h2:(decide ((p.args.length:Int)<(Lg p.op).least)||decide ((Lg p.op).most<(p.args.length:Int)))=false)(h3:ckB p (Lg p.op)=false)(h4:((Lg p.op).cond&&(Fg p.cond != 0))=false):bK p=if ckU p (Lg p.op) then 3 else 0:=(B2 h).trans ((B2 h2).trans ((B2 h3).trans (B2 h4)))
end

def Oa (p:Pt):Int:=if decide ((64:Int)<(J5 p:Int)) then 5 else if decide ((12:Int)<(rC p:Int)) then 12 else Cr bK (Hx p)
def Q9 (p:Pt):Int:=if (Oa p != 0) then Oa p else if (Hx p).any (fun q=>decide (8<=q.op)) then 1 else 0
structure Cnt where
 vars:Int
 scopes:Int
 ok:Bool
def J0 (c:Cnt)(q:Pt):Cnt:=
 ⟨if (Lg q.op).typed then c.vars+1 else c.vars,if (Lg q.op).scope then c.scopes+1 else c.scopes,(c.ok&&(!(Lg q.op).typed||(q.var==c.vars)))&&(!(Lg q.op).scope||(q.scope==c.scopes))⟩
def Nw (p:Pt):Cnt:=(Hx p).foldl J0 ⟨0,0,true⟩
def Hf (p:Pt):Int:=if (Q9 p != 0) then Q9 p else if !(Nw p).ok then 14 else 0

section
variable {S:Type} (live:S->Bool) (step:S->Pt->S)
def Tp:S->List Pt->S
 | s,[]=>s
 | s,p::r=>if live s then Tp (step s p) r else s
theorem Xr {s:S}(h:live s=false):∀l,Tp live step s l=s
 | []=>rfl
 | p::r=>by rw [Tp,if_neg (by rw [h];decide)]
theorem kB:∀(l m:List Pt) (s:S),Tp live step s (l++m)=Tp live step (Tp live step s l) m
  | [],m,s=>rfl
  | p::r,m,s=>by
    rw [Dn,Tp,Tp];cases h:live s with
    | true=>rw [if_pos rfl,if_pos rfl];exact kB r m _
    | false=>rw [if_neg (by decide),if_neg (by decide),Xr live step h]
theorem rJ {s:S}(hs:live s=true)(p:Pt):Tp live step s (Hx p)=Tp live step (step s p) (p.args.flatMap Hx):=by
 rw [Pc,Tp,if_pos hs]
theorem iJ {Ko:S->Nat->Prop}(hmo:∀s n m,Ko s n->m<=n->Ko s m)(hgo:∀s q n,Ko s (n+1)->Ko (step s q) n):∀(l:List Pt) (s:S) (m:Nat),Ko s (l.length+m)->Ko (Tp live step s l) m
  | [],s,m,h=>by rw [Tp];simpa using h
  | p::r,s,m,h=>by
    rw [Tp];cases hl:live s with
    | false=>rw [if_neg (by decide)];exact hmo _ _ _ h (by omega)
    | true=>
      rw [if_pos rfl];exact iJ hmo hgo r _ m (hgo _ _ _ (by rw [A1] at h;rw [show r.length+m+1=r.length+1+m by omega];exact h))
theorem goY_stop {s:S}(hs:live s=true){p:Pt}(h:live (step s p)=false):Tp live step s (Hx p)=step s p:=by
 rw [rJ live step hs,Xr live step h]
theorem dC {s:S}{l:List Pt}{k:Nat}{a:Pt}(h:l[k]? = some a):Tp live step s ((l.take (k+1)).flatMap Hx)=Tp live step (Tp live step s ((l.take k).flatMap Hx)) (Hx a):=by
 rw [Cs h,Uf,kB];simp
theorem goY_cut {s:S}{l:List Pt}{k:Nat}{a:Pt}(h:l[k]? = some a)(hd:live (Tp live step s ((l.take (k+1)).flatMap Hx))=false):Tp live step s (l.flatMap Hx)=Tp live step s ((l.take (k+1)).flatMap Hx):=by
 conv=>lhs;rw [<-Po (k+1) l,Uf,kB]
 rw [Xr live step hd]
end
end Go.Proofs.YtibcelnfkhdjaaaGreatDoor

namespace Go.Aw
open Go

section
variable {l:Nat} {P:Program} {Q:Exit->St->Prop} {s:St}
theorem fT.ret (h:Q .ret s):fT l P .ret Q s:=fun n Q' g a w hG hQ=>wpIn_ret (hQ _ g s a w hG (Ext.refl g w) h)
theorem fT.skip (h:Q .normal s):fT l P .skip Q s:=fun n Q' g a w hG hQ=>wpIn_skip (hQ _ g s a w hG (Ext.refl g w) h)
theorem fT.seq {x y:Code}(h:fT l P x (Ej (fT l P y Q) Q) s):fT l P (.seq x y) Q s:=by
 intro n Q' g a w hG hQ;refine wpIn_seq (h n _ g a w hG fun e g' s' a' w' hG' hx hq=>?_);cases e with
 | normal=>exact hq n Q' g' a' w' hG' fun e g'' s'' a'' w'' h1 h2 h3=>hQ e g'' s'' a'' w'' h1 (hx.trans h2) h3
 | _=>exact hQ _ g' s' a' w' hG' hx hq
theorem fT.cond {c:Operand}{x y:Code}{b:Bool}(hb:El s.sl c = .bool b)(ht:b=true->fT l P x Q s)(hf:b=false->fT l P y Q s):fT l P (.cond c x y) Q s:=by
 intro n Q' g a w hG hQ;have hv:=(hb▸hG.eval c:Rep g w _ _).inv_bool;exact wpIn_cond_split hv (fun h=>ht h n Q' g a w hG hQ) (fun h=>hf h n Q' g a w hG hQ)
theorem fT.ghost {c:Code}{s':St}(h:GS s s')(k:fT l P c Q s'):fT l P c Q s:=by
 intro n Q' g a w hG hQ;obtain ⟨g',hG',hx⟩:=h g a w hG;exact k n Q' g' a w hG' fun e g'' s'' a'' w'' h1 h2 h3=>hQ e g'' s'' a'' w'' h1 (hx.trans h2) h3
end

theorem Nm.ofE {P:Program}{l:Nat}{rec:Loop}{H:List HO}{args:List AV}{R:AV->List HO->Prop}{sl:List (Nat×AV)}{n0:Nat}(hst:rec.state = .ready)(hpe:rec.pending=none)
  (hsz:rec.tmps.size=n0) (hsl:∀g w vs,Di g w vs args->∀j,Rep g w (((rec.params.zip vs).foldl (fun t (p,v)=>t.setIfInBounds p v) rec.tmps).getD j undef) (get sl j))
  (h:fT l P rec.assign (fun e s1=>e = .normal/\∃i:Nat,s1.H[i]? = some (HO.obj l (Obj.loop rec))/\fT l P rec.body (fun e s2=>∃j:Nat,s2.H[j]? = some (HO.obj l (Obj.loop { rec with state:=.busy }))/\
   ((e = .normal/\R (.bool true) (s2.H.set j (.obj l (.loop rec))))\/(e = .ret/\R (.bool false) (s2.H.set j (.obj l (.loop { rec with state:=.done,pending:=some .ret })))))) ⟨s1.sl,s1.H.set i (.obj l (.loop { rec with state:=.busy })),s1.n⟩) ⟨sl,H,n0⟩):Nm P l rec H args R:=by
 intro n g w vs hH hr;refine roundIn_of_wpIn trivial ?_
 have hfs:∀(L:List (Tmp×Value)) (t:Array Value),(L.foldl (fun t (p,v)=>t.setIfInBounds p v) t).size=t.size:=by
  intro L;induction L with
  | nil=>intro t;rfl
  | cons p r ih=>intro t;rw [List.foldl_cons,ih];simp
 have hG:Gm g ⟨sl,H,n0⟩ { tmps:=(rec.params.zip vs).foldl (fun t (p,v)=>t.setIfInBounds p v) rec.tmps,defers:=[] } w:=
  ⟨by rw [<-Z7];exact (hfs _ _).trans hsz,rfl,fun j=>hsl g w vs hr j,hH⟩
 refine h n _ g _ w hG ?_;rintro e g1 s1 a1 w1 hG1 hx1 ⟨rfl,i,hi,hb⟩;have hob:(HO.obj l (.loop rec)).ok g1 w1:=hG1.heap.ok _ (Aj hi);refine ⟨_,run_beginRound hob.2 hst,?_⟩;obtain ⟨hG2,hx2⟩:=hG1.putObj (.loop { rec with state:=.busy }) hi;refine hb n _ g1 a1 _ hG2 ?_;rintro e g3 s3 a3 w3 hG3 hx3 ⟨j,hj,hR⟩;have hob3:(HO.obj l (.loop { rec with state:=.busy })).ok g3 w3:=hG3.heap.ok _ (Aj hj);rcases hR with ⟨rfl,hR⟩ | ⟨rfl,hR⟩
 .
  obtain ⟨hG4,hx4⟩:=hG3.putObj (.loop rec) hj;refine ⟨_,_,run_endRound none hob3.2,_,g3,.bool true,_,rfl,.bool _,?_,?_,hR⟩
  .
   have:({ ({ rec with state:=.busy }:Loop) with state:=if (none:Option Code).isNone then .ready else .done,pending:=none }:Loop)=rec:=by
    cases rec;simp only at hst hpe;subst hst;subst hpe;rfl
   rw [this];exact hG4.heap
  have:({ ({ rec with state:=.busy }:Loop) with state:=if (none:Option Code).isNone then .ready else .done,pending:=none }:Loop)=rec:=by
   cases rec;simp only at hst hpe;subst hst;subst hpe;rfl
  rw [this];exact ((hx1.trans hx2).trans hx3).trans hx4
 obtain ⟨hG4,hx4⟩:=hG3.putObj (.loop { rec with state:=.done,pending:=some .ret }) hj;exact ⟨_,_,run_endRound (some .ret) hob3.2,_,g3,.bool false,_,rfl,.bool _,hG4.heap,((hx1.trans hx2).trans hx3).trans hx4,hR⟩
theorem AW.regionY2 {P:Program}{Q:Exit->St->Prop}{s:St}{id:Nat}{ops:Array Oper}{pre post:List Oper}{d:Nat}{cal:Operand}{args:Array Operand}{ats:Array TypeId}{ty:TypeId}{pos:String}{aft:Array Edge}
  (hops:ops.toList=pre++⟨some d,.call ⟨.value cal,args,ats⟩,ty,pos,aft,none⟩::post) (hnd:Ux pre=true) (hnd2:Ux post=true)
  (h:AOL P ops (fun s'=>∃l rec R,(∃i:Nat,s'.H[i]? = some (HO.obj l (Obj.loop rec)))/\El s'.sl cal = .val (.func (.yield l) #[] #[])/\args.size=rec.params.size/\Mx (some d) s'.n=true/\
   Nm P l rec s'.H (args.toList.map (El s'.sl)) R/\∀x H',R x H'->AOL P ops (Q .normal) post ⟨D9 (some d) x s'.sl,H',s'.n⟩) pre s):AW P (.region id ops false) Q s:=by
 intro Q' g a w hG hQ;refine (wpIn_wide (n:=1)).1 ?_;rw [<-wideN];refine wpIn_region_list ?_;rw [hops];refine H5 pre _ a w (Tv hnd) ?_;refine h.run _ g a w hG ?_;rintro g' s' a' w' hG' hx ⟨l,rec,R,⟨i,hi⟩,hcal,hlen,hd,hr,hk⟩;show wpListIn _ 1 P ops Q' (_::post) a' w';unfold wpListIn;rw [if_pos (E4 rfl)];refine ⟨fun _ _=>trivial,?_⟩;have hobj:(HO.obj l (.loop rec)).ok g' w':=hG'.heap.ok _ (Aj hi);have hv:a'.eval cal = .func (.yield l) #[] #[]:=(hcal▸hG'.eval cal:Rep g' w' _ _).inv_val;have hargs:Di g' w' (args.map a'.eval) (args.toList.map (El s'.sl)):=X5 (ρ:=El s'.sl) (a:=a') (g:=g') (w:=w') (args:=args) (fun y _=>hG'.eval y) rfl
 have hrun:(execOp a'.eval ⟨some d,.call ⟨.value cal,args,ats⟩,ty,pos,aft,none⟩).run P w' = .ok (.round l rec.fn ((rec.params.zip (args.map a'.eval)).foldl (fun t (p,v)=>t.setIfInBounds p v) rec.tmps) rec.assign rec.body) w':=by
  have hy:=run_yield (P:=P) (args:=args.map a'.eval) hobj.2 (by simpa using hlen);simp only [execOp,resolve,Sem.run_bind,hv,Deferred.ofValue,Sem.run_pure,Result.andThen_ok,invoke];simpa using hy
 rw [Oper.semAt_eq _ _ _ (fun c e=>by cases e),hrun];refine ⟨fun e=>(by cases e),(hr _ g' w' _ hG'.heap hargs).mono ?_⟩;rintro e w'' ⟨v,g'',r,H',rfl,k1,k2,k3,k4⟩;have hpost:=hk r H' k4;have:=H5 (ro:=none) (n:=1) (Q:=Q') post [] _ w'' (Tv hnd2) (hpost.run _ g'' _ w'' (hG'.put k3 hd k1 k2) fun g3 s3 a3 w3 h1 h2 h3=>hQ _ g3 s3 a3 w3 h1 ((hx.trans k3).trans h2) h3);simpa using this

theorem AW.regionYk {P:Program}{Q:Exit->St->Prop}{s:St}{id:Nat}{ops:Array Oper}(k:Nat){d:Nat}{cal:Operand}{args:Array Operand}{ats:Array TypeId}{ty:TypeId}{pos:String}{aft:Array Edge}
  (hops:ops.toList[k]? = some ⟨some d,.call ⟨.value cal,args,ats⟩,ty,pos,aft,none⟩) (hnd:Ux (ops.toList.take k)=true) (hnd2:Ux (ops.toList.drop (k+1))=true)
  (h:AOL P ops (fun s'=>∃l rec R,(∃i:Nat,s'.H[i]? = some (HO.obj l (Obj.loop rec)))/\El s'.sl cal = .val (.func (.yield l) #[] #[])/\args.size=rec.params.size/\Mx (some d) s'.n=true/\
   Nm P l rec s'.H (args.toList.map (El s'.sl)) R/\∀x H',R x H'->AOL P ops (Q .normal) (ops.toList.drop (k+1)) ⟨D9 (some d) x s'.sl,H',s'.n⟩) (ops.toList.take k) s):AW P (.region id ops false) Q s:=by
 refine AW.regionY2 (pre:=ops.toList.take k) (post:=ops.toList.drop (k+1)) (ats:=ats) (ty:=ty) (pos:=pos) (aft:=aft) ?_ hnd hnd2 h;obtain ⟨hlt,he⟩:=List.getElem?_eq_some_iff.1 hops;rw [<-he,List.getElem_cons_drop,Po]

def Tail (P:Program)(z:Code)(Qs:St->Prop)(s:St):Prop:=
 ∀(Q':Exit->Act->World->Prop) (g:Gh) (a:Act) (w:World) (ds:List Deferred),Gm g s a w->(∀g' s' a' w',Gm g' s' a' w'->Ext g w g' w'->Qs s'->Q' .ret (Act.Aa2 a' ds) w')->z.wp P Q' (Act.Aa2 a ds) w
theorem Wx {P:Program}{ops:Array Oper}{Q:Exit->Act->World->Prop}{ds:List Deferred}:∀(l:List Nat) (a:Act) (w:World),wpOps P ops Q l a w->wpOps P ops (nX ds Q) l (Act.Aa2 a ds) w
  | [],a,w,h=>⟨a,rfl,h⟩
  | i::rest,a,w,h=>by
    have h':wpOp P ops Q i (wpOps P ops Q rest) a w:=by
      unfold wpOp;unfold wpOps at h;exact h
    have:=jB (ds:=ds) (K':=wpOps P ops (nX ds Q) rest) (fun a w h=>Wx rest a w h) h';unfold wpOp at this;unfold wpOps;exact this
theorem Tail.region {P:Program}{id:Nat}{ops:Array Oper}{Qs:St->Prop}{s:St}(h:AOL P ops Qs ops.toList s):Tail P ((Code.region id ops false).seq .ret) Qs s:=by
 intro Q' g a w ds hG hQ;have key:=K7 (P:=P) (ops:=ops) ops.toList 0 a w (by simp) (h.run (fun e a' w'=>match e with | .normal=>Q' .ret (Act.Aa2 a' ds) w' | _=>False) g a w hG fun g' s' a' w' h1 h2 h3=>hQ g' s' a' w' h1 h2 h3);rw [<-List.range_eq_range'] at key;have key2:=Wx (ds:=ds) _ _ _ key;refine wp_seq (wp_mono (wp_region (by simpa using key2)) ?_);rintro e a' w' ⟨a0,rfl,hq⟩;cases e with
 | normal=>exact wp_ret hq
 | _=>exact hq.elim
theorem Tail.drawn {P:Program}{id:Nat}{ops:Array Oper}{Qs:St->Prop}{s:St}(h:AWD P (.region id ops true) Qs s):Tail P ((Code.region id ops true).seq .ret) Qs s:=by
 intro Q' g a w ds hG hQ;cases h with
 | draw hm K hK hdd hC=>exact zE hm K hK hdd hC hG ds hQ

theorem AWX.rangeE {P:Program}{T:List (Nat×TD)}(hT:H6 P T){fn:Func}{R:AV->List HO->Prop}{Q:Exit->St->Prop}{s:St}{go:Operand}{ps:Array Tmp}{assign body z:Code}{bid gf:Nat}{lb:List AV}(Z Y:List HO->Prop)
  (hg:El s.sl go = .fn (.func gf) [] lb) (hf:Tn P gf=true)
  (hit:∀(rec:Loop) (D l:Nat),rec.state = .ready->rec.pending=none->rec.params=ps->rec.assign=assign->rec.body=body->rec.tmps.size=s.n->(∀t v,get s.sl t = .val v->rec.tmps.getD t undef=v)->
   Bt P gf (.obj l (.loop rec) :: .obj D (.deferred (some []))::s.H) (.val (.func (.yield l) #[] #[])::lb)
    (fun r H'=>∃rec' H2,H' = .obj l (.loop rec') :: .obj D (.deferred (some []))::H2/\rec'.state≠.busy/\((rec'.pending=none/\Z H2)\/(rec'.pending=some .ret/\Y H2))))
  (ht:∀D H2,Z H2->Tail P z (endX P T fn R D) ⟨s.sl,.obj D (.deferred (some []))::H2,s.n⟩)
  (hy:∀D H2,Y H2->∃s2,GS ⟨s.sl,.obj D (.deferred (some []))::H2,s.n⟩ s2/\endX P T fn R D s2) :
  AWX2 P (Code.block bid (.rangeFunc go ps assign body)) z Q (oG P fn R) s:=by
 intro Q' g0 a w hG hQ hX;refine wp_block ((wpIn_wide (n:=1)).1 (wpIn_rangeFunc ?_));intro f0 _;obtain ⟨vs0,us,hv,h1,h2⟩:=(hg▸hG.eval go:Rep g0 w _ _).inv_fn;have hvs0:vs0 = #[]:=Array.size_eq_zero_iff.1 (by simpa using h1.1);subst hvs0;obtain ⟨rec,hrec⟩:∃rec:Loop,rec=⟨.ready,none,f0,a.tmps,ps,assign,body,w.heap.size⟩:=⟨_,rfl⟩;obtain ⟨W1,hW1⟩:∃W1,(w.alloc (.deferred (some []))).alloc (.loop rec)=W1:=⟨_,rfl⟩;have hs1:(w.alloc (.deferred (some []))).heap.size=w.heap.size+1:=World.size_alloc ..;have hx1:=Ext.alloc g0 w (.deferred (some [])) (some 0)
 have hH1:HOK (g0.put w.heap.size (some 0)) (w.alloc (.deferred (some []))) (.obj w.heap.size (.deferred (some []))::s.H):=
  (hG.heap.alloc (.deferred (some [])) (some 0)).cons ⟨Gh.Aaw ..,Ce ..⟩ fun b hb x hx e=>by
   cases hb
   exact absurd (HO.ok_lt (hG.heap.ok x hx) e).1 (Nat.lt_irrefl _)
 have hx2:=Ext.alloc (g0.put w.heap.size (some 0)) (w.alloc (.deferred (some []))) (.loop rec) (some 0)
 have hH2:=(hH1.alloc (.loop rec) (some 0)).cons (o:=.obj (w.alloc (.deferred (some []))).heap.size (.loop rec)) ⟨Gh.Aaw ..,Ce ..⟩ fun b hb x hx e=>by
   cases hb
   exact absurd (HO.ok_lt (hH1.ok x hx) e).1 (Nat.lt_irrefl _)
 rw [hs1] at hH2 hx2;rw [hW1] at hH2 hx2;refine ⟨w.heap.size+1,[Ie w.heap.size],W1,{ target:=.fn (.func gf) us,args:=#[.func (.yield (w.heap.size+1)) #[] #[]] },W1,gf,#[.func (.yield (w.heap.size+1)) #[] #[]]++us,W1,?_,?_,fun _ _=>trivial,?_,fun e=>(by cases e),?_⟩
 . rw [<-hW1,hrec];exact run_enterLoop_outer _ _ _ _ _
 .
  simp only [resolve,hv];simp [go_sem]
 . simp [invoke,go_sem,Rp hf]
 have hx12:=hx1.trans hx2;refine callsIn_wide.2 ((hit rec w.heap.size (w.heap.size+1) (by rw [hrec]) (by rw [hrec]) (by rw [hrec]) (by rw [hrec]) (by rw [hrec]) (by rw [hrec];exact hG.size) (by rw [hrec];exact fun t v hv=>(hv▸hG.sl t:Rep g0 w _ _).inv_val) _ W1 _ hH2 ?_).mono ?_)
 .
  have h2':=h2.mono hx12
  exact Di.append (xs:=[.val (.func (.yield (w.heap.size+1)) #[] #[])]) ⟨rfl,fun i x hi=>by
   cases i with
   | zero=>simp at hi;subst hi;exact .val _
   | succ i=>simp at hi⟩ h2'
 rintro e w3 ⟨v,g3,r,H',rfl,hr3,hH3,hx3,rec',H2,rfl,hnb,hz⟩;have hob:(HO.obj (w.heap.size+1) (.loop rec')).ok g3 w3:=hH3.ok _ (I7 ..);obtain ⟨hH4,hx4⟩:=Ty hH3 (i:=0) (.loop { rec' with state:=.exhausted }) rfl;refine ⟨rec'.pending,_,run_endLoop hob.2 hnb,?_⟩;obtain ⟨st',pe',f',t',p',as',bo',de'⟩:=rec'
 have ha:({ a with defers:=[Ie w.heap.size]++a.defers }:Act)=Act.Aa2 a [Ie w.heap.size]:=by
  unfold Act.Aa2;rw [hG.defers];rfl
 rw [ha];have hxa:=(hx12.trans hx3).trans hx4
 have fin:∀g5 s5 a5 w5,Gm g5 s5 a5 w5->Ext g0 w g5 w5->endX P T fn R w.heap.size s5->Q' .ret (Act.Aa2 a5 [Ie w.heap.size]) w5:=fun g5 s5 a5 w5 hG5 hx5 hq=>by
  obtain ⟨i,hi,xs,hr,H3,hsub,hR⟩:=hq;obtain ⟨hG6,hx6⟩:=hG5.putObj (.deferred none) hi;have hob5:(HO.obj w.heap.size (.deferred (some []))).ok g5 w5:=hG5.heap.ok _ (Aj hi);obtain ⟨v6,k1,k2⟩:=Ow hT hr hG6;refine hX _ _ _ ⟨rfl,w.heap.size,by show a5.defers++_=_;rw [hG5.defers];rfl,hob5.2,v6,g5,_,H3,k1,k2,hG6.heap.sub hsub,hx5.trans hx6,hR⟩
 have hG4:Gm g3 ⟨s.sl,.obj w.heap.size (.deferred (some []))::H2,s.n⟩ a (w3.putObj (w.heap.size+1) (.loop ⟨.exhausted,pe',f',t',p',as',bo',de'⟩)):=⟨hG.size,hG.defers,fun i=>(hG.sl i).mono hxa,hH4.sub (List.sublist_cons_self ..)⟩;rcases hz with ⟨hp,hz⟩ | ⟨hp,hz⟩
 .
  obtain rfl:pe'=none:=hp;exact ht w.heap.size H2 hz Q' g3 a _ [Ie w.heap.size] hG4 fun g5 s5 a5 w5 hG5 hx5 hq=>fin g5 s5 a5 w5 hG5 (hxa.trans hx5) hq
 obtain rfl:pe'=some .ret:=hp;obtain ⟨s2,hgs,he⟩:=hy w.heap.size H2 hz;obtain ⟨g4,hG5,hx7⟩:=hgs _ _ _ hG4;exact wpIn_ret (fin g4 s2 a _ hG5 (hxa.trans hx7) he)
end Go.Aw

namespace Go.Proofs.YtibcelnfkhdjaaaGreatDoor
open Go Go.Aw

def AllK (tmps:Array Value):List (Nat×Value)->Prop
 | []=>True
 | p::r=>tmps.getD p.1 undef=p.2/\AllK tmps r
theorem par1 {tmps:Array Value}{n0 k:Nat}{x:AV}{kn:List (Nat×Value)}(hsz:tmps.size=n0)(hk:Nat.blt k n0=true)(hkn:AllK tmps kn):∀g w vs,Di g w vs [x]->∀j,
    Rep g w ((((#[k]:Array Tmp).zip vs).foldl (fun t (p,v)=>t.setIfInBounds p v) tmps).getD j undef) (get ((k,x)::kn.map fun p=>(p.1,.val p.2)) j):=by
  intro g w vs hr j;have h0:=hr.2 0 _ rfl;have hs:vs.size=1:=hr.1
  obtain ⟨u, rfl⟩ : ∃ u, vs = #[u] := ⟨vs[0], by apply Array.ext; simp [hs]; intro i h1 h2; have : i = 0 := by omega
                                                 subst this;rfl⟩
  have hlt:k<tmps.size:=by have:=B9 hk;omega
  rw [<-Z7,Array.toList_zip];show Rep g w ((tmps.setIfInBounds k u).getD j undef) _;rw [E3];by_cases e:k=j
  . subst e
    rw [if_pos rfl];simp only [Ct,Array.getElem?_setIfInBounds];simp [hlt];simpa using h0
  . rw [if_neg e]
    have:(tmps.setIfInBounds k u).getD j undef=tmps.getD j undef:=by
      simp only [Ct,Array.getElem?_setIfInBounds];simp [e]
    rw [this];clear this
    induction kn with
    | nil=>exact .junk _
    | cons p r ih=>
      rw [Be,E3];by_cases e2:p.1=j
      . rw [if_pos e2,<-hkn.1,e2];exact .val _
      rw [if_neg e2];exact ih hkn.2
theorem Nm.ofE2 {P:Program}{l:Nat}{rec:Loop}{H:List HO}{args:List AV}{R:AV->List HO->Prop}{A B:Code}(sl:List (Nat×AV)){n0:Nat}(hst:rec.state = .ready)(hpe:rec.pending=none)
  (hsz:rec.tmps.size=n0) (hsl:∀g w vs,Di g w vs args->∀j,Rep g w (((rec.params.zip vs).foldl (fun t (p,v)=>t.setIfInBounds p v) rec.tmps).getD j undef) (get sl j)) (has:rec.assign=A) (hbo:rec.body=B)
  (h:fT l P A (fun e s1=>e = .normal/\∃i:Nat,s1.H[i]? = some (HO.obj l (Obj.loop rec))/\fT l P B (fun e s2=>∃j:Nat,s2.H[j]? = some (HO.obj l (Obj.loop { rec with state:=.busy }))/\
   ((e = .normal/\R (.bool true) (s2.H.set j (.obj l (.loop rec))))\/(e = .ret/\R (.bool false) (s2.H.set j (.obj l (.loop { rec with state:=.done,pending:=some .ret })))))) ⟨s1.sl,s1.H.set i (.obj l (.loop { rec with state:=.busy })),s1.n⟩) ⟨sl,H,n0⟩):Nm P l rec H args R:=by
 subst has hbo;exact Nm.ofE hst hpe hsz hsl h

theorem Y6 (f:Pt->Int):∀l:List Pt,Tp (fun e:Int=>e==0) (fun _ q=>f q) 0 l=Cr f l
  | []=>rfl
  | a::r=>by
    rw [Tp,if_pos (show ((0:Int)==0)=true from rfl),Cr];by_cases h:f a=0
    . rw [h,Y6 f r];rfl
    rw [Xr _ _ (by simpa using h),if_pos (by simpa using h)]
theorem iE (b:Pt->Bool):∀l:List Pt,Cr (fun q=>if b q then 1 else 0) l=if l.any b then 1 else 0
  | []=>rfl
  | a::r=>by
    rw [Cr,iE b r,L0];cases b a <;> simp
theorem nd_sub:∀p q:Pt,q∈Hx p->J5 q<=J5 p:=by
  intro p
  induction p using Pt.ind with
  | h p ih=>
    intro q hq;rw [Pc,Cn] at hq;rcases hq with rfl | hq
    . exact Bc _
    . obtain ⟨a,ha,hq⟩:=List.mem_flatMap.1 hq
      have:=ih a ha q hq;have:=Ph ha;omega
structure medP (p:Pt):Prop where
 n:J5 p<=1048576
 cond:∀q∈Hx p,Dp q.cond<=1048576
theorem medP.len {p:Pt}(h:medP p):∀q∈Hx p,Dp q.cond<=1048576/\q.args.length<=1048576:=fun q hq=>⟨h.cond q hq,by have:=nd_sub p q hq;have:=Wj q;have:=h.n;omega⟩
theorem rst_1 {p:Pt}(h:decide ((64:Int)<(J5 p:Int))=true):Oa p=5:=if_pos h
theorem rst_2 {p:Pt}(h:decide ((64:Int)<(J5 p:Int))=false)(h2:decide ((12:Int)<(rC p:Int))=true):Oa p=12:=(B2 h).trans (if_pos h2)
theorem rst_3 {p:Pt}(h:decide ((64:Int)<(J5 p:Int))=false)(h2:decide ((12:Int)<(rC p:Int))=false):Oa p=Cr bK (Hx p):=(B2 h).trans (B2 h2)
theorem rst_0 {p:Pt}(h:(Oa p != 0)=false):J5 p<=64/\rC p<=12/\Cr bK (Hx p)=0:=by
 have h0:Oa p=0:=by simpa using h
 have a:¬(64:Int)<(J5 p:Int):=fun h=>by rw [rst_1 (Gc h)] at h0;exact absurd h0 (by decide)
 have b:¬(12:Int)<(rC p:Int):=fun h=>by rw [rst_2 (I5 a) (Gc h)] at h0;exact absurd h0 (by decide)
 refine ⟨by omega,by omega,?_⟩;rw [<-rst_3 (I5 a) (I5 b)];exact h0
theorem Xp {α:Type}{f:α->Int}:∀{l:List α},Cr f l=0->∀q∈l,f q=0
  | [],_,q,hq=>(Og hq).elim
  | a::r,h,q,hq=>by
    rw [Cr] at h;by_cases ha:f a=0
    . rw [ha,if_neg (by decide)] at h
      rcases Cn.1 hq with rfl | hq
      . exact ha
      exact Xp h q hq
    rw [if_pos (by simpa using ha)] at h;exact absurd h ha
def opOK (q:Pt):Prop:=0<=q.op/\q.op<11
theorem ck_op {q:Pt}(h:bK q=0):opOK q:=by
 have:(decide (q.op<0)||decide (11<=q.op))=false:=by
  cases hc:(decide (q.op<0)||decide (11<=q.op)) with
  | false=>rfl
  | true=>rw [ck_1 hc] at h;exact absurd h (by decide)
 rw [Ft] at this;have h1:=Er this.1;have h2:=Er this.2;exact ⟨by omega,by omega⟩
theorem rst_ops {p:Pt}(h:(Oa p != 0)=false):∀q∈Hx p,opOK q:=fun q hq=>ck_op (Xp (rst_0 h).2.2 q hq)
def lQ (q:Pt):Int:=if decide (8<=q.op) then 1 else 0
theorem whl_1 {p:Pt}(h:(Oa p != 0)=true):Q9 p=Oa p:=if_pos h
theorem whl_2 {p:Pt}(h:(Oa p != 0)=false):Q9 p=Cr lQ (Hx p):=by
 rw [show Cr lQ (Hx p)=_ from iE _ _];exact B2 h
theorem whl_0 {p:Pt}(h:(Q9 p != 0)=false):(Oa p != 0)=false:=by
 cases hr:Oa p != 0 with
 | false=>rfl
 | true=>rw [whl_1 hr,hr] at h;exact absurd h (by decide)
theorem chk_1 {p:Pt}(h:(Q9 p != 0)=true):Hf p=Q9 p:=if_pos h
theorem chk_2 {p:Pt}(h:(Q9 p != 0)=false)(h2:(!(Nw p).ok)=true):Hf p=14:=(B2 h).trans (if_pos h2)
theorem chk_3 {p:Pt}(h:(Q9 p != 0)=false)(h2:(!(Nw p).ok)=false):Hf p=0:=(B2 h).trans (B2 h2)
theorem chk_0 {p:Pt}(h:(Hf p != 0)=false):(Q9 p != 0)=false:=by
 cases hr:Q9 p != 0 with
 | false=>rfl
 | true=>rw [chk_1 hr,hr] at h;exact absurd h (by decide)

def gP (c:Cnt)(n:Nat):Prop:=0<=c.vars/\0<=c.scopes/\c.vars+n<=3000000/\c.scopes+n<=3000000
theorem Aas (c:Cnt)(n m:Nat)(h:gP c n)(hm:m<=n):gP c m:=⟨h.1,h.2.1,by have:=h.2.2.1;omega,by have:=h.2.2.2;omega⟩
theorem Aat (c:Cnt)(q:Pt)(n:Nat)(h:gP c (n+1)):gP (J0 c q) n:=by
 obtain ⟨h1,h2,h3,h4⟩:=h;unfold J0 gP;refine ⟨?_,?_,?_,?_⟩ <;> simp only <;> split <;> omega
theorem uT:∀(l:List Pt) (c:Cnt),Tp (fun _=>true) J0 c l=l.foldl J0 c
 | [],c=>rfl
 | a::r,c=>by rw [Tp,if_pos rfl,uT r,List.foldl_cons]
section
variable {c:Cnt} {q:Pt}
theorem stp_yy (h1:(Lg q.op).typed=true)(h2:(Lg q.op).scope=true):(⟨c.vars+1,c.scopes+1,(c.ok&&(q.var==c.vars))&&(q.scope==c.scopes)⟩:Cnt)=J0 c q:=by unfold J0;rw [h1,h2];simp
theorem stp_yn (h1:(Lg q.op).typed=true)(h2:(Lg q.op).scope=false):(⟨c.vars+1,c.scopes,c.ok&&(q.var==c.vars)⟩:Cnt)=J0 c q:=by unfold J0;rw [h1,h2];simp
theorem stp_ny (h1:(Lg q.op).typed=false)(h2:(Lg q.op).scope=true):(⟨c.vars,c.scopes+1,c.ok&&(q.scope==c.scopes)⟩:Cnt)=J0 c q:=by unfold J0;rw [h1,h2];simp
theorem stp_nn (h1:(Lg q.op).typed=false)(h2:(Lg q.op).scope=false):(⟨c.vars,c.scopes,c.ok⟩:Cnt)=J0 c q:=by unfold J0;rw [h1,h2];simp
end

structure Qy where
 name:Ag
 vars:List Va
 key:List Int
 pattern:Pt
 returns:List Ex
def qG:Qy:=⟨[],[],[],pt0,[]⟩
@[reducible] def cQyW (q : Qy) (rs : AV) : List AV := [.str q.name, .sl 2 (q.vars.map Rd), .sl 1 (q.key.map cI), .int .i64 q.pattern.op, .sl 14 (q.pattern.args.map Tj), .int .i64 q.pattern.type, .int .i64 q.pattern.var, .int .i64 q.pattern.scope, .int .i64 q.pattern.span, .int .i64 q.pattern.cond.op, .sl 8 (q.pattern.cond.args.map Gx), .int .i64 q.pattern.cond.var, .int .i64 q.pattern.cond.field, .int .i64 q.pattern.cond.kind, .int .i64 q.pattern.cond.val.kind, .int .i64 q.pattern.cond.val.num, .str q.pattern.cond.val.text, rs]
@[reducible] def cQy (q : Qy) : List AV := cQyW q (.sl 8 (q.returns.map Gx))

section
variable {T:List e8Sc} {V:List Va}
theorem xP (t:Syn)(xs:List Ex):Dp (Sy T V t xs)<=1+(xs.map Dp).sum:=by
 unfold Sy;split
 . rw [Jz];simp
 split
 . split <;> · rw [Jz];simp
 split
 . rw [Jz];simp
 split
 . rw [Jz];simp
 split <;> · rw [Jz];exact Bc _
theorem Ur:∀t:Syn,Dp (F6 T V t)<=Jd t:=by
  intro t
  induction t using Syn.ind with
  | h t ih=>
    rw [Kw,Ho];refine E7 (xP t _) ?_
    have:∀l:List Syn,(∀a∈l,Dp (F6 T V a)<=Jd a)->((l.map (F6 T V)).map Dp).sum<=G3 l:=by
      intro l
      induction l with
      | nil=>intro _;exact A7 _
      | cons x r ih2=>intro h;rw [Be,Be,Hu,H8];have:=h x (by simp);have:=ih2 fun a ha=>h a (by simp [ha]);omega
    have:=this _ ih;omega
theorem gQ (t:Syn):Dp (P4 T V t)<=Jd t:=by
 unfold P4;split
 .
  rename_i h;have h0:0<t.kids.length:=by have:=C6 h;omega
  have:=jN (Aj (Hq h0));have h2:=Ur (T:=T) (V:=V) (B5 t 0);rw [Ho];omega
 rw [show Dp T8=1 from rfl,Ho];omega
theorem ptn_size {t:Syn}{s:Nx}(xs:List Pt)(hc:B4 t .pats=0):Dp (Qu T V t s xs).cond<=Jd t:=by
 have h1:1<=Jd t:=by rw [Ho];omega
 have hk:∀j,j<t.kids.length->Jd (B5 t j)<=Jd t:=fun j h=>by
  have:=jN (Aj (Hq h));have h9:=Ho t;omega
 unfold Qu;split
 . exact gQ t
 split
 .
  rename_i hq;have h2:=Uz hc (.inl (by simpa using hq));exact E7 (gQ (B5 t 1)) (hk 1 (by omega))
 split
 . exact h1
 split
 .
  rename_i hq;have h2:=Uz hc (.inr (by simpa using hq));exact E7 (Ur (B5 t 1)) (hk 1 (by omega))
 exact h1
theorem ptt_size:∀t:Syn,B4 t .pats=0->∀s:Nx,J5 (Kc T V t s).1<=Jd t/\∀q∈Hx (Kc T V t s).1,Dp q.cond<=Jd t:=by
  intro t
  induction t using Syn.ind with
  | h t ih=>
    intro hc s
    have key:∀l:List Syn,(∀a∈l,a∈Hj t)->∀s:Nx,((Gy T V l s).1.map J5).sum<=G3 l/\∀q∈(Gy T V l s).1.flatMap Hx,Dp q.cond<=G3 l:=by
      intro l
      induction l with
      | nil=>intro _ s;rw [Gy];exact ⟨A7 _,fun q h=>by simp at h⟩
      | cons x r ih2=>
        intro hl s;have hx:=ih x (eJ (hl x (by simp))) (oL hc (hl x (by simp))) s;have hr:=ih2 (fun a ha=>hl a (by simp [ha])) (Kc T V x s).2;rw [Gy,H8];refine ⟨by simp only [Be,Hu];have:=hx.1;have:=hr.1;omega,fun q hq=>?_⟩;simp only [Kf] at hq;rcases Gd.1 hq with hq | hq
        . have:=hx.2 q hq;omega
        have:=hr.2 q hq;omega
    have hk:=key (Hj t) (fun a ha=>ha) (Zn t s);have hp:=bL t;rw [eL];refine ⟨by rw [Mq,Ho];simp only;have:=hk.1;omega,fun q hq=>?_⟩;rw [Pc] at hq;rcases Cn.1 hq with rfl | hq
    . simp only;exact ptn_size [] hc
    have:=hk.2 q hq;rw [Ho];omega
theorem vT {t:Syn}(ht:U7 t)(hc:B4 t .pats=0)(s:Nx):medP (Kc T V t s).1:=by
 have h:=ptt_size (T:=T) (V:=V) t hc s;have hm:=Sm ht;exact ⟨by have:=h.1;omega,fun q hq=>by have:=h.2 q hq;omega⟩
end

structure TsOK (T:List e8Sc):Prop where
 tl:T.length<=1048576
 fl:∀s∈T,s.fields.length<=1048576
 nd:(G0 T).Nodup
theorem decV_ok {T:List e8Sc}{t:Syn}(h:(G0 T).contains t.text=true):0<=(aZ T t).type/\(aZ T t).type<(T.length:Int):=by
 have:=Nh h;rw [By] at this;exact this
theorem gR {T:List e8Sc}{V:List Va}{t:Syn}(h:(Ny T V t != 0)=false):(G0 T).contains t.text=true/\(Mp V).contains t.name=false/\V.length≠16:=by
 have h0:Ny T V t=0:=by simpa using h
 unfold Ny at h0;split at h0
 . cases h0
 rename_i h1;split at h0
 . cases h0
 rename_i h2;split at h0
 . cases h0
 rename_i h3;exact ⟨by simpa using h2,by simpa using h3,fun e=>h1 (by simp [e])⟩
theorem mG {T:List e8Sc}:∀(l:List Syn) (V:List Va),V.length<=16->(∀v∈V,0<=v.type/\v.type<(T.length:Int))->(P6 T V l).1.length<=16/\∀v∈(P6 T V l).1,0<=v.type/\v.type<(T.length:Int)
  | [],V,h1,h2=>⟨h1,h2⟩
  | t::r,V,h1,h2=>by
    rw [Uq];cases hq:Ny T V t != 0 with
    | true=>rw [if_pos rfl];exact ⟨h1,h2⟩
    | false=>
      rw [B2 rfl];have hd:=gR hq;refine mG r _ (by rw [Ao,D2];have:=hd.2.2;omega) fun v hv=>?_
      rcases Gd.1 hv with hv | hv
      . exact h2 v hv
      rw [Ep.1 hv];exact decV_ok hd.1
theorem rA {T:List e8Sc}(hT:TsOK T)(l:List Syn):RvOK T (P6 T [] l).1:=by
 have h:=mG (T:=T) l [] (by simp) (fun v hv=>(Og hv).elim);exact ⟨hT.tl,hT.fl,by have:=h.1;omega,h.2⟩
theorem yD {t:Syn}(h:B4 t .pats=0)(h5:t.kind≠5):0<t.kids.length:=by
 have hs:=(K1 (Ka h).1).2.1;have hr:=Zp h;unfold Gr at hs;have:t.kind=6\/t.kind=7\/t.kind=8\/t.kind=9\/t.kind=10\/t.kind=11\/t.kind=12:=by omega
 rcases this with hk | hk | hk | hk | hk | hk | hk <;> · rw [hk] at hs;simp at hs;omega
theorem uO:∀t:Syn,B4 t .pats=0->Xc t≠[]:=by
  intro t
  induction t using Syn.ind with
  | h t ih=>
    intro hc;rw [Y1];split
    . simp
    . rename_i h5
      have h5':t.kind≠5:=by simpa using h5
      have hl:=yD hc h5';have hk:=Hq hl;have hm:=Aj hk;have h0:=ih _ hm (Uy hc h5' hk fun _=>rfl);split
      . simp
      . split
        . rw [jV hl];exact h0
        . intro he
          rw [List.flatMap_eq_nil_iff] at he;exact h0 (he _ hm)
theorem uM {T:List e8Sc}{l:List Syn}(hl:l≠[])(h:((P6 T [] l).2.err != 0)=false):0<T.length:=by
  cases l with
  | nil=>exact (hl rfl).elim
  | cons t r=>
    rw [Uq] at h;cases hq:Ny T [] t != 0 with
    | true=>rw [if_pos hq] at h;simp only at h;rw [hq] at h;cases h
    | false=>
      have:=Nh (gR hq).1;rw [By] at this;omega

section
variable (T:List e8Sc) (t:Syn)
def K4:List Va:=(P6 T [] (Xc (B5 t 1))).1
def vfR:Fa:=(P6 T [] (Xc (B5 t 1))).2
def nK (V:List Va):List Int×Bool:=if ((B5 t 0).text != []) then O0 T V (B5 t 0).text else ([],true)
def rtF (V:List Va)(x:Syn):Fa:=if (Fg (F6 T V x) != 0) then ⟨x.pos,Fg (F6 T V x)⟩ else Tk
def ptR (V:List Va):Pt:=(Kc T V (B5 t 1) ⟨0,0⟩).1
def qyR (V:List Va):Qy:=⟨t.text,V,(nK T t V).1,ptR T t V,(t.kids.drop 2).map (F6 T V)⟩
def QR4 (V:List Va):Qy×Fa:=if ((Mc (rtF T V) (t.kids.drop 2)).err != 0) then (qG,Mc (rtF T V) (t.kids.drop 2)) else (qyR T t V,Tk)
def QR3 (V:List Va):Qy×Fa:=if (Hf (ptR T t V) != 0) then (qG,⟨(B5 t 1).pos,Hf (ptR T t V)⟩) else QR4 T t V
def QR2 (V:List Va):Qy×Fa:=if ((H4 T V t).err != 0) then (qG,H4 T V t) else QR3 T t V
def QR1 (V:List Va):Qy×Fa:=if (!(nK T t V).2) then (qG,⟨(B5 t 0).pos,16⟩) else QR2 T t V
def Ef:Qy×Fa:=if ((vfR T t).err != 0) then (qG,vfR T t) else QR1 T t (K4 T t)
end
section
variable {T:List e8Sc} {t:Syn} {V:List Va}
theorem qr_1 (h:((vfR T t).err != 0)=true):Ef T t=(qG,vfR T t):=if_pos h
theorem qr_b (h:((vfR T t).err != 0)=false):Ef T t=QR1 T t (K4 T t):=B2 h
theorem kK (h:((B5 t 0).text != [])=true):nK T t V=O0 T V (B5 t 0).text:=if_pos h
theorem ky_no (h:((B5 t 0).text != [])=false):nK T t V=([],true):=B2 h
theorem qr_2 (h:(!(nK T t V).2)=true):QR1 T t V=(qG,⟨(B5 t 0).pos,16⟩):=if_pos h
theorem qr_c (h:(!(nK T t V).2)=false):QR1 T t V=QR2 T t V:=B2 h
theorem qr_3 (h:((H4 T V t).err != 0)=true):QR2 T t V=(qG,H4 T V t):=if_pos h
theorem qr_d (h:((H4 T V t).err != 0)=false):QR2 T t V=QR3 T t V:=B2 h
theorem qr_4 (h:(Hf (ptR T t V) != 0)=true):QR3 T t V=(qG,⟨(B5 t 1).pos,Hf (ptR T t V)⟩):=if_pos h
theorem qr_e (h:(Hf (ptR T t V) != 0)=false):QR3 T t V=QR4 T t V:=B2 h
theorem rt_yes {x:Syn}(h:(Fg (F6 T V x) != 0)=true):rtF T V x=⟨x.pos,Fg (F6 T V x)⟩:=if_pos h
theorem rt_no {x:Syn}(h:(Fg (F6 T V x) != 0)=false):rtF T V x=Tk:=B2 h
theorem qr_5 {k:Nat}{x:Syn}(ha:(t.kids.drop 2)[k]? = some x)(hn:((t.kids.drop 2).take k).any (fun x=>(rtF T V x).err != 0)=false)(h:(Fg (F6 T V x) != 0)=true):QR4 T t V=(qG,⟨x.pos,Fg (F6 T V x)⟩):=by
 have h1:=cQ ha hn (by rw [rt_yes h];exact h);unfold QR4;rw [h1,rt_yes h];exact if_pos h
theorem qr_6 (hn:(t.kids.drop 2).any (fun x=>(rtF T V x).err != 0)=false):QR4 T t V=(qyR T t V,Tk):=by
 unfold QR4;rw [Y0 hn];rfl
structure QryOK (t:Syn):Prop where
 m:U7 t
 c:B4 t (.only 3)=0
theorem QryOK.kind (h:QryOK t):t.kind=3:=Jf (K1 (Ka h.c).1).1
theorem QryOK.len (h:QryOK t):3<=t.kids.length:=by
 have hs:=(K1 (Ka h.c).1).2.1;unfold Gr at hs;rw [h.kind] at hs;simp at hs;omega
theorem QryOK.pat (h:QryOK t):B4 (B5 t 1) .pats=0:=by
 have hk:=(Pa h.c (Hq (k:=1) (by have:=h.len;omega))).1;unfold Id at hk;rw [h.kind] at hk;exact hk
theorem QryOK.med1 (h:QryOK t):U7 (B5 t 1):=kJ h.m (by have:=h.len;omega)
theorem QryOK.evl (h:QryOK t):(Xc (B5 t 1)).length<=1048576:=by
 have:=jW (B5 t 1);have:=Sm h.med1;omega
end

section
variable (T:List e8Sc) (t:Syn)
end
theorem fO {t:Syn}{p:Pl}(h:((Ca t p).2 != 0)=false):B4 t p=0:=by
  cases hc:B4 t p != 0 with
  | false=>simpa using hc
  | true=>
    have:(Ca t p).2=B4 t p:=by unfold Ca;rw [if_pos hc]
    rw [this,hc] at h;cases h
theorem Yc:∀(l:List e8Sc) (seen:List (List UInt8)),Ly seen l=0->seen.Nodup->(seen++l.map (·.name)).Nodup/\∀s∈l,Gi s=0
  | [],seen,h,hn=>⟨by simpa using hn,fun s hs=>(Og hs).elim⟩
  | s::r,seen,h,hn=>by
    rw [Ly] at h;split at h
    . rename_i h1;rw [h] at h1;cases h1
    . rename_i h1
      have h0:Lj seen s=0:=by simpa using h1
      have hc:s.name∉seen:=by
        intro hm;unfold Lj at h0;split at h0
        . rename_i h2;rw [h0] at h2;cases h2
        . rename_i h2
          rw [if_pos (by simpa using hm)] at h0;cases h0
      have hz:Gi s=0:=by
        unfold Lj at h0;split at h0
        . rename_i h2;rw [h0] at h2;cases h2
        rename_i h2;simpa using h2
      have ih:=Yc r (seen ++ [s.name]) h (Jo.2 ⟨hn,by simp,fun a ha b hb=>by rw [Ep.1 hb];exact fun e=>hc (e▸ha)⟩);refine ⟨by simpa using ih.1,fun x hx=>?_⟩;rcases Cn.1 hx with rfl | hx
      . exact hz
      exact ih.2 x hx
theorem Rm {T:List e8Sc}(h:(Dr T != 0)=false):T.length<=16/\(G0 T).Nodup/\∀s∈T,Gi s=0:=by
 have h0:Dr T=0:=by simpa using h
 unfold Dr at h0;split at h0
 . cases h0
 rename_i h1;have:=Yc T [] h0 Of;exact ⟨by have:=h1;simp at this;omega,by simpa using this.1,this.2⟩
theorem U4 {s:e8Sc}(h:Gi s=0):s.fields.length<=8:=by
 unfold Gi at h;split at h
 . cases h
 split at h
 . cases h
 rename_i h2;simp at h2;omega
theorem qN {T:List e8Sc}(h:(Dr T != 0)=false):TsOK T:=by
 obtain ⟨h1,h2,h3⟩:=Rm h;exact ⟨by omega,fun s hs=>by have:=U4 (h3 s hs);omega,h2⟩

def G4:List Fi->List Syn->List Fi×Fa
 | fs,[]=>(fs,Tk)
 | fs,x::r=>if ((fs.length:Int)==8) then (fs,⟨x.pos,5⟩) else if (fs.map (·.name)).contains x.text then (fs,⟨x.pos,7⟩) else G4 (fs ++ [⟨x.text,x.num⟩]) r
def Gt:List e8Sc->List Syn->List e8Sc×Fa
  | out,[]=>(out,Tk)
  | out,k::r=>
    if (k.kind != 1) then Gt out r
    else if ((out.length:Int)==16) then ([],⟨k.pos,5⟩)
    else if (G0 out).contains k.text then ([],⟨k.pos,7⟩)
    else if ((G4 [] k.kids).2.err != 0) then ([],(G4 [] k.kids).2)
    else Gt (out ++ [⟨k.text,(G4 [] k.kids).1⟩]) r
def Gw (t:Syn):List e8Sc×Fa:=Gt [] t.kids
section
variable {out:List e8Sc} {l:List Syn} {k:Nat} {a:Syn}
theorem typ_skip (ha:l[k]? = some a)(h:(a.kind != 1)=true):Gt out (l.drop k)=Gt out (l.drop (k+1)):=by rw [Bm ha,Gt,if_pos h]
theorem typ_5 (ha:l[k]? = some a)(h:(a.kind != 1)=false)(h2:((out.length:Int)==16)=true):Gt out (l.drop k)=([],⟨a.pos,5⟩):=by rw [Bm ha,Gt,B2 h,if_pos h2]
theorem typ_7 (ha:l[k]? = some a)(h:(a.kind != 1)=false)(h2:((out.length:Int)==16)=false)(h3:(G0 out).contains a.text=true):Gt out (l.drop k)=([],⟨a.pos,7⟩):=by rw [Bm ha,Gt,B2 h,B2 h2,if_pos h3]
theorem typ_n (ha:l[k]? = some a)(h:(a.kind != 1)=false)(h2:((out.length:Int)==16)=false)(h3:(G0 out).contains a.text=false):Gt out (l.drop k)=if ((G4 [] a.kids).2.err != 0) then ([],(G4 [] a.kids).2) else Gt (out ++ [⟨a.text,(G4 [] a.kids).1⟩]) (l.drop (k+1)):=by rw [Bm ha,Gt,B2 h,B2 h2,B2 h3]
theorem typ_f (ha:l[k]? = some a)(h:(a.kind != 1)=false)(h2:((out.length:Int)==16)=false)(h3:(G0 out).contains a.text=false){fs:List Fi}{f:Fa}(hf:G4 [] a.kids=(fs,f))(he:f.err≠0):Gt out (l.drop k)=([],f):=by
 rw [typ_n ha h h2 h3,hf];exact if_pos (by simpa using he)
theorem typ_on (ha:l[k]? = some a)(h:(a.kind != 1)=false)(h2:((out.length:Int)==16)=false)(h3:(G0 out).contains a.text=false){fs:List Fi}(hf:G4 [] a.kids=(fs,Tk)):Gt out (l.drop k)=Gt (out ++ [⟨a.text,fs⟩]) (l.drop (k+1)):=by
 rw [typ_n ha h h2 h3,hf];rfl
variable {fs:List Fi}
theorem fld_5 (ha:l[k]? = some a)(h:((fs.length:Int)==8)=true):G4 fs (l.drop k)=(fs,⟨a.pos,5⟩):=by rw [Bm ha,G4,if_pos h]
theorem fld_7 (ha:l[k]? = some a)(h:((fs.length:Int)==8)=false)(h2:(fs.map (·.name)).contains a.text=true):G4 fs (l.drop k)=(fs,⟨a.pos,7⟩):=by rw [Bm ha,G4,B2 h,if_pos h2]
theorem fld_on (ha:l[k]? = some a)(h:((fs.length:Int)==8)=false)(h2:(fs.map (·.name)).contains a.text=false):G4 fs (l.drop k)=G4 (fs ++ [⟨a.text,a.num⟩]) (l.drop (k+1)):=by rw [Bm ha,G4,B2 h,B2 h2]
end
theorem scFi (l:List Fi):∀c∈l.map Tf,Au c=true:=fun c hc=>by
 obtain ⟨x,_,rfl⟩:=C9.1 hc;rfl
theorem scSc (l:List e8Sc):∀c∈l.map Fx,Au c=true:=fun c hc=>by
 obtain ⟨x,_,rfl⟩:=C9.1 hc;rfl
theorem vG {n:Nat}(h:n<=16)(h2:((n:Int)==16)=false):n+1<=16:=by
 have:n≠16:=fun e=>by subst e;exact absurd h2 (by decide)
 omega
theorem len8 {n:Nat}(h:n<=8)(h2:((n:Int)==8)=false):n+1<=8:=by
 have:n≠8:=fun e=>by subst e;exact absurd h2 (by decide)
 omega


theorem iH:∀(l:List Syn) (fs:List Fi),fs.length<=8->(G4 fs l).1.length<=8
  | [],fs,h=>h
  | x::r,fs,h=>by
    rw [G4];split
    . exact h
    . rename_i h1
      split
      . exact h
      exact iH r _ (by rw [Ao,D2];exact len8 h (by simpa using h1))
theorem fB:∀(l:List Syn) (out:List e8Sc),(out.length<=16/\(∀s∈out,s.fields.length<=8)/\(G0 out).Nodup)->((Gt out l).1.length<=16/\(∀s∈(Gt out l).1,s.fields.length<=8)/\(G0 (Gt out l).1).Nodup)
  | [],out,h=>h
  | k::r,out,h=>by
    have hz:(([]:List e8Sc).length<=16/\(∀s∈([]:List e8Sc),s.fields.length<=8)/\(G0 []).Nodup):=⟨A7 _,fun s hs=>(Og hs).elim,Of⟩;rw [Gt];split
    . exact fB r out h
    . split
      . exact hz
      . rename_i h2
        split
        . exact hz
        . rename_i h3
          split
          . exact hz
          . refine fB r _ ⟨by rw [Ao,D2];exact vG h.1 (by simpa using h2),fun s hs=>?_,?_⟩
            . rcases Gd.1 hs with hs | hs
              . exact h.2.1 s hs
              rw [Ep.1 hs];exact iH _ _ (A7 _)
            . have h3':k.text∉G0 out:=by simpa using h3
              show (List.map (·.name) (out ++ [_])).Nodup;rw [E5];exact Jo.2 ⟨h.2.2,by simp,fun a ha b hb=>by rw [Ep.1 hb];exact fun e=>h3' ((show a=k.text from e)▸ha)⟩
theorem lF (t:Syn):(Gw t).1.length<=16/\(∀s∈(Gw t).1,s.fields.length<=8)/\(G0 (Gw t).1).Nodup:=fB t.kids [] ⟨A7 _,fun s hs=>(Og hs).elim,Of⟩
theorem typ_ts (t:Syn):TsOK (Gw t).1:=⟨by have:=(lF t).1;omega,fun s hs=>by have:=(lF t).2.1 s hs;omega,(lF t).2.2⟩
theorem iO {t a:Syn}(hc:B4 t (.only 0)=0){k:Nat}(ha:t.kids[k]? = some a)(h3:a.kind=3):B4 a (.only 3)=0:=by
 have hk:=Jf (K1 (Ka hc).1).1;have h:=Pa hc ha;unfold Id at h;rw [hk] at h;rw [if_pos (by decide)] at h;split at h
 . have:=Jf h.2;omega
 exact h.1
structure Pg where
 types:List e8Sc
 queries:List Qy
def pg0:Pg:=⟨[],[]⟩
@[reducible] def cPg (p : Pg) : List AV := [.sl 2 (p.types.map Fx), .sl 18 (p.queries.map cQy)]
def E0 (T:List e8Sc):List Qy->List Syn->List Qy×Fa
  | qs,[]=>(qs,Tk)
  | qs,k::r=>
    if (k.kind != 3) then E0 T qs r
    else if ((qs.length:Int)==16) then ([],⟨k.pos,5⟩)
    else if (qs.map (·.name)).contains k.text then ([],⟨k.pos,7⟩)
    else if ((Ef T k).2.err != 0) then ([],(Ef T k).2)
    else E0 T (qs ++ [(Ef T k).1]) r
section
variable {T:List e8Sc} {qs:List Qy} {l:List Syn} {k:Nat} {a:Syn}
theorem prg_skip (ha:l[k]? = some a)(h:(a.kind != 3)=true):E0 T qs (l.drop k)=E0 T qs (l.drop (k+1)):=by rw [Bm ha,E0,if_pos h]
theorem prg_5 (ha:l[k]? = some a)(h:(a.kind != 3)=false)(h2:((qs.length:Int)==16)=true):E0 T qs (l.drop k)=([],⟨a.pos,5⟩):=by rw [Bm ha,E0,B2 h,if_pos h2]
theorem prg_7 (ha:l[k]? = some a)(h:(a.kind != 3)=false)(h2:((qs.length:Int)==16)=false)(h3:(qs.map (·.name)).contains a.text=true):E0 T qs (l.drop k)=([],⟨a.pos,7⟩):=by rw [Bm ha,E0,B2 h,B2 h2,if_pos h3]
theorem prg_f (ha:l[k]? = some a)(h:(a.kind != 3)=false)(h2:((qs.length:Int)==16)=false)(h3:(qs.map (·.name)).contains a.text=false)(h4:((Ef T a).2.err != 0)=true):E0 T qs (l.drop k)=([],(Ef T a).2):=by rw [Bm ha,E0,B2 h,B2 h2,B2 h3,if_pos h4]
theorem prg_on (ha:l[k]? = some a)(h:(a.kind != 3)=false)(h2:((qs.length:Int)==16)=false)(h3:(qs.map (·.name)).contains a.text=false)(h4:((Ef T a).2.err != 0)=false):E0 T qs (l.drop k)=E0 T (qs ++ [(Ef T a).1]) (l.drop (k+1)):=by rw [Bm ha,E0,B2 h,B2 h2,B2 h3,B2 h4]
end
theorem oV {T:List e8Sc}{t:Syn}(h:((Ef T t).2.err != 0)=false):(Ef T t).1.name=t.text/\(Ef T t).2=Tk:=by
 have key:∀{c:Bool} {f:Fa} {x:Qy×Fa},((if c then (qG,f) else x).2.err != 0)=false->(c=true->(f.err != 0)=true)->(if c then (qG,f) else x)=x:=fun {c f x} h1 h2=>by
  cases c with
  | false=>rfl
  | true=>rw [if_pos rfl] at h1;rw [h2 rfl] at h1;cases h1
 have h1:=key h (fun h=>h);unfold Ef at h ⊢;rw [h1] at h ⊢;have h2:=key (c:=!(nK T t (K4 T t)).2) h (fun _=>rfl);unfold QR1 at h ⊢;rw [h2] at h ⊢;have h3:=key h (fun h=>h);unfold QR2 at h ⊢;rw [h3] at h ⊢;have h4:=key (f:=⟨(B5 t 1).pos,Hf (ptR T t (K4 T t))⟩) h (fun h=>h);unfold QR3 at h ⊢;rw [h4] at h ⊢;have h5:=key h (fun h=>h);unfold QR4 at h ⊢;rw [h5] at h ⊢;exact ⟨rfl,rfl⟩
def qM (t:Syn)(T:List e8Sc):Pg×Int×Int:=if ((E0 T [] t.kids).2.err != 0) then (pg0,(E0 T [] t.kids).2.pos,(E0 T [] t.kids).2.err) else (⟨T,(E0 T [] t.kids).1⟩,0,0)
def D8 (t:Syn):Pg×Int×Int:=if ((Ca t (.only 0)).2 != 0) then (pg0,0,3) else if ((Gw t).2.err != 0) then (pg0,(Gw t).2.pos,(Gw t).2.err) else qM t (Gw t).1
section
variable {t:Syn}
theorem pp_1 (h:((Ca t (.only 0)).2 != 0)=true):D8 t=(pg0,0,3):=if_pos h
theorem pp_2 (h:((Ca t (.only 0)).2 != 0)=false)(h2:((Gw t).2.err != 0)=true):D8 t=(pg0,(Gw t).2.pos,(Gw t).2.err):=(B2 h).trans (if_pos h2)
theorem pp_n (h:((Ca t (.only 0)).2 != 0)=false)(h2:((Gw t).2.err != 0)=false):D8 t=qM t (Gw t).1:=(B2 h).trans (B2 h2)
theorem pp_e (h:((Ca t (.only 0)).2 != 0)=false)(h2:((Gw t).2.err != 0)=false){f:Fa}(h3:E0 (Gw t).1 [] t.kids=([],f))(hf:(f.err != 0)=true):D8 t=(pg0,f.pos,f.err):=by
 rw [pp_n h h2];unfold qM;rw [h3];exact if_pos hf
theorem pp_y (h:((Ca t (.only 0)).2 != 0)=false)(h2:((Gw t).2.err != 0)=false){qs:List Qy}(h3:E0 (Gw t).1 [] t.kids=(qs,Tk)):D8 t=(⟨(Gw t).1,qs⟩,0,0):=by
 rw [pp_n h h2];unfold qM;rw [h3];rfl
end
theorem scQy (l:List Qy):∀c∈l.map cQy,Au c=true:=fun c hc=>by
 obtain ⟨x,_,rfl⟩:=C9.1 hc;rfl

section
variable {p:Pt}
end
theorem iF {α:Type}{f:α->Int}:∀{l:List α} {k:Nat} {a:α},l[k]? = some a->(l.take k).any (fun x=>f x != 0)=false->(f a != 0)=true->Cr f l=f a
  | [],k,a,h,_,_=>by simp at h
  | b::r,0,a,h,_,hp=>by simp at h;subst h;rw [Cr,if_pos hp]
  | b::r,k+1,a,h,hn,hp=>by
    rw [Ue,L0,Ft] at hn;rw [Cr,if_neg (by rw [hn.1];decide)];exact iF (by simpa using h) hn.2 hp
theorem Ry {α:Type}{f:α->Int}:∀{l:List α},l.any (fun x=>f x != 0)=false->Cr f l=0
  | [],_=>rfl
  | b::r,h=>by
    rw [L0,Ft] at h;rw [Cr,if_neg (by rw [h.1];decide)];exact Ry h.2

theorem mE:∀(l:List Pt) (c:Cnt),c.ok=false->(l.foldl J0 c).ok=false
 | [],c,h=>h
 | q::r,c,h=>by rw [List.foldl_cons];exact mE r _ (by unfold J0;simp [h])
section
variable {v s:Int} {l:List Pt} {k:Nat} {a:Pt}
end

@[reducible] def cNm (T : List e8Sc) (V : List Va) : List AV := [.sl 2 (T.map Fx), .sl 2 (V.map Rd)]
section
variable {T:List e8Sc} {V:List Va} {t:Syn}
end
section
variable {out:List e8Sc} {l:List Syn} {k:Nat} {a:Syn}
end
end Go.Proofs.YtibcelnfkhdjaaaGreatDoor

namespace Go.Aw
open Go
end Go.Aw
namespace Go.Proofs.YtibcelnfkhdjaaaGreatDoor
open Go Go.Aw
@[reducible] def cPtW (p : Pt) (rs : AV) : List AV := [.int .i64 p.op, rs, .int .i64 p.type, .int .i64 p.var, .int .i64 p.scope, .int .i64 p.span, .int .i64 p.cond.op, .sl 8 (p.cond.args.map Gx), .int .i64 p.cond.var, .int .i64 p.cond.field, .int .i64 p.cond.kind, .int .i64 p.cond.val.kind, .int .i64 p.cond.val.num, .str p.cond.val.text]
section
variable (T:List e8Sc) (V:List Va)
end
section
variable {T:List e8Sc} {V:List Va} {t:Syn}
end

section
variable {T:List e8Sc} {V:List Va} {l:List Syn} {k:Nat} {a:Syn}
end
section
variable {T:List e8Sc} {V:List Va}
end
section
variable {T:List e8Sc} {V:List Va}
end
section
variable {T:List e8Sc} {V:List Va} {t:Syn}
end
section
variable {T:List e8Sc} {qs:List Qy} {l:List Syn} {k:Nat} {a:Syn}
end
structure medQ (q:Qy):Prop where
 v:q.vars.length<=1048576
 k:q.key.length<=1048576
 r:q.returns.length<=1048576
 p:medP q.pattern
 e:∀e∈q.returns,Dp e<=1048576
theorem med_pt0:medP pt0:=⟨by decide,fun q hq=>by
 rw [Pc] at hq;rcases Cn.1 hq with rfl | h
 . decide
 cases h⟩
theorem med_qy0:medQ qG:=⟨by decide,by decide,by decide,med_pt0,fun e h=>by cases h⟩
theorem dM {T:List e8Sc}{n:Ag}:∀(l:List Va) (out:List Int),(O8 T n l out).1.length<=out.length
  | [],out=>Bc _
  | v::r,out=>by
    rw [O8];split
    . exact A7 _
    . have:=dM (T:=T) (n:=n) r (out.set v.type.toNat (Ey ((T[v.type.toNat]?).getD Zs) n))
      rw [Sr] at this;exact this
theorem qry_med {T:List e8Sc}{t:Syn}(hT:TsOK T)(ht:QryOK t):medQ (Ef T t).1:=by
 have hz:∀(c:Bool) (f:Fa) (x:Qy×Fa),medQ x.1->medQ (if c then (qG,f) else x).1:=fun c f x h=>by
  cases c with
  | true=>exact med_qy0
  | false=>exact h
 refine hz _ _ _ ?_;refine hz _ _ _ ?_;refine hz _ _ _ ?_;refine hz _ _ _ ?_;refine hz _ _ _ ?_;have hrv:=rA hT (Xc (B5 t 1));refine ⟨hrv.vl,?_,?_,vT ht.med1 ht.pat _,fun e he=>?_⟩
 .
  show (nK T t (K4 T t)).1.length<=_;unfold nK;split
  .
   have h:=dM (T:=T) (n:=(B5 t 0).text) (K4 T t) (List.replicate T.length (-1));rw [L2] at h;exact E7 h hT.tl
  exact A7 _
 .
  show ((t.kids.drop 2).map (F6 T (K4 T t))).length<=_;rw [By,C4];have:=Wq ht.m;omega
 obtain ⟨x,hx,rfl⟩:=C9.1 (show e∈(t.kids.drop 2).map (F6 T (K4 T t)) from he);have h1:=Ur (T:=T) (V:=K4 T t) x;have h2:=Sm (Lw ht.m (List.mem_of_mem_drop hx));omega
structure medG (p:Pg):Prop where
 t:p.types.length<=1048576
 f:∀s∈p.types,s.fields.length<=1048576
 q:p.queries.length<=1048576
 m:∀q∈p.queries,medQ q
theorem Zr {T:List e8Sc}(hT:TsOK T):∀(l:List Syn) (qs:List Qy),(∀a∈l,a.kind=3->QryOK a)->qs.length<=16->(∀q∈qs,medQ q)->(E0 T qs l).1.length<=16/\∀q∈(E0 T qs l).1,medQ q
  | [],qs,_,h1,h2=>⟨h1,h2⟩
  | k::r,qs,hl,h1,h2=>by
    rw [E0];split
    . exact Zr hT r qs (fun a ha=>hl a (by simp [ha])) h1 h2
    . rename_i hk
      split
      . exact ⟨A7 _,fun q h=>by cases h⟩
      . rename_i h3
        split
        . exact ⟨A7 _,fun q h=>by cases h⟩
        . split
          . exact ⟨A7 _,fun q h=>by cases h⟩
          . refine Zr hT r _ (fun a ha=>hl a (by simp [ha])) (by rw [Ao,D2];exact vG h1 (by simpa using h3)) fun q hq=>?_
            rcases Gd.1 hq with hq | hq
            . exact h2 q hq
            rw [Ep.1 hq];exact qry_med hT (hl k (by simp) (by simpa using hk))
theorem prg_med {t:Syn}(ht:J9 t):medG (D8 t).1:=by
 have hz:medG pg0:=⟨by decide,fun s h=>(Og h).elim,by decide,fun q h=>(Og h).elim⟩;unfold D8;split
 . exact hz
 rename_i h1;split
 . exact hz
 unfold qM;split
 . exact hz
 have hk:=lF t
 have h:=Zr (typ_ts t) t.kids [] (fun a ha h3=>by
  obtain ⟨j,hj⟩:=Jp.1 ha;exact ⟨rR ht ha,iO (fO (by simpa using h1)) hj h3⟩) (A7 _) (fun q h=>by cases h)
 exact ⟨by have:=hk.1;simp only;omega,fun s hs=>by have:=hk.2.1 s hs;omega,by have:=h.1;simp only;omega,h.2⟩

section
variable {T:List e8Sc} {V:List Va} {t:Syn}
end

theorem uY {T:List e8Sc}{n:Ag}:∀(l:List Va) (out:List Int) (D:List Va),(∀v∈D++l,v.type.toNat<out.length)->(∀v∈D,out[v.type.toNat]? = some (Ey ((T[v.type.toNat]?).getD Zs) n)/\0<=Ey ((T[v.type.toNat]?).getD Zs) n)->(O8 T n l out).2=true->
    (O8 T n l out).1.length=out.length/\∀v∈D++l,(O8 T n l out).1[v.type.toNat]? = some (Ey ((T[v.type.toNat]?).getD Zs) n)/\0<=Ey ((T[v.type.toNat]?).getD Zs) n
  | [],out,D,_,hD,_=>⟨rfl,fun v hv=>hD v (by simpa using hv)⟩
  | x::r,out,D,hl,hD,h=>by
    rw [O8] at h ⊢;cases hq:decide (Ey ((T[x.type.toNat]?).getD Zs) n<0) with
    | true=>rw [hq] at h;rw [if_pos rfl] at h;cases h
    | false=>
      rw [hq,B2 rfl] at h;rw [B2 rfl];have hx:=hl x (by simp);have h0:=Er hq
      have ih:=uY r (out.set x.type.toNat (Ey ((T[x.type.toNat]?).getD Zs) n)) (D ++ [x]) (fun v hv=>by rw [Sr];exact hl v (by simpa using hv)) (fun v hv=>by
        rcases Gd.1 hv with hv | hv
        . refine ⟨?_,(hD v hv).2⟩
          rw [List.getElem?_set];split
          . rename_i e
            rw [e]
          exact (hD v hv).1
        . rw [Ep.1 hv]
          exact ⟨by rw [List.getElem?_set_self hx],by omega⟩) h
      rw [Sr] at ih;exact ⟨ih.1,fun v hv=>ih.2 v (by simpa using hv)⟩
theorem key_ok {T:List e8Sc}{V:List Va}{n:Ag}(hrv:RvOK T V)(h:(O0 T V n).2=true):(O0 T V n).1.length=T.length/\∀v∈V,(O0 T V n).1[v.type.toNat]? = some (Ey ((T[v.type.toNat]?).getD Zs) n)/\0<=Ey ((T[v.type.toNat]?).getD Zs) n:=by
 have:=uY (T:=T) (n:=n) V (List.replicate T.length (-1)) [] (fun v hv=>by have:=hrv.ty v (by simpa using hv);rw [L2];omega) (fun v hv=>(Og hv).elim) h;rw [L2] at this;exact ⟨this.1,fun v hv=>this.2 v (by simpa using hv)⟩

structure QGood (T:List e8Sc) (t:Syn) (q:Qy):Prop where
 ok:Ef T t=(qyR T t (K4 T t),Tk)
 is:q=qyR T t (K4 T t)
 v:((vfR T t).err != 0)=false
 k:(!(nK T t (K4 T t)).2)=false
 w:(H4 T (K4 T t) t).err=0
 p:(Hf (ptR T t (K4 T t)) != 0)=false
 r:(Mc (rtF T (K4 T t)) (t.kids.drop 2)).err=0
theorem nD {c:Bool}{f:Fa}{x:Qy×Fa}(h:((if c then (qG,f) else x).2.err != 0)=false)(hf:c=true->(f.err != 0)=true):c=false/\(if c then (qG,f) else x)=x:=by
 cases c with
 | false=>exact ⟨rfl,rfl⟩
 | true=>rw [if_pos rfl] at h;rw [hf rfl] at h;cases h
theorem q_good {T:List e8Sc}{t:Syn}(h:((Ef T t).2.err != 0)=false):QGood T t (Ef T t).1:=by
 obtain ⟨a1,b1⟩:=nD h fun h=>h
 have b1':Ef T t=QR1 T t (K4 T t):=b1;rw [b1'] at h ⊢;obtain ⟨a2,b2⟩:=nD h fun _=>rfl
 have b2':QR1 T t (K4 T t)=QR2 T t (K4 T t):=b2;rw [b2'] at h ⊢;obtain ⟨a3,b3⟩:=nD h fun h=>h
 have b3':QR2 T t (K4 T t)=QR3 T t (K4 T t):=b3;rw [b3'] at h ⊢;obtain ⟨a4,b4⟩:=nD (f:=⟨(B5 t 1).pos,Hf (ptR T t (K4 T t))⟩) h fun h=>h
 have b4':QR3 T t (K4 T t)=QR4 T t (K4 T t):=b4;rw [b4'] at h ⊢;obtain ⟨a5,b5⟩:=nD h fun h=>h
 have b5':QR4 T t (K4 T t)=(qyR T t (K4 T t),Tk):=b5;rw [b5'];exact ⟨b1'.trans (b2'.trans (b3'.trans (b4'.trans b5'))),rfl,a1,a2,by simpa using a3,a4,by simpa using a5⟩

section
variable (T:List e8Sc) (V:List Va)
def wM (v:Int):Ag:=((V[v.toNat]?).getD va0).name
def fnm (v f:Int):Ag:=(((Yp T V v).fields[f.toNat]?).getD fi0).name
def S9 (v f:Int):Bool:=((decide (v<0)||decide ((V.length:Int)<=v))||decide (f<0))||decide (((Yp T V v).fields.length:Int)<=f)
def Xq (v f:Int):Ag×Bool:=if S9 T V v f then ([],false) else (fnm T V v f,true)
def Vy (e:Ex):Bool:=if (e.op==1)||(e.op==4) then S9 T V e.var e.field else if (e.op==2)||(e.op==3) then decide ((V.length:Int)<=e.var) else false
def bB (e:Ex):Bool:=if (e.op==1)||(e.op==4) then bC (fnm T V e.var e.field) else true
mutual
def Tc:Ex->Int×Bool
 | ⟨o,xs,v,f,k,x⟩=>if Vy T V ⟨o,xs,v,f,k,x⟩ then (6,false) else Pm xs (bB T V ⟨o,xs,v,f,k,x⟩)
def Pm:List Ex->Bool->Int×Bool
 | [],b=>(0,b)
 | x::r,b=>if ((Tc x).1 != 0) then ((Tc x).1,false) else Pm r (b&&(Tc x).2)
end
theorem lH (e:Ex):Tc T V e=if Vy T V e then (6,false) else Pm T V e.args (bB T V e):=by cases e;rw [Tc]
def rN (e:Ex):Bool:=if decide (1<=e.op)&&decide (e.op<=4) then if decide ((V.length:Int)<=e.var) then false else !(((e.op==1)||(e.op==4))&&decide (((Yp T V e.var).fields.length:Int)<=e.field)) else true
mutual
def Wb:Ex->Bool
 | ⟨o,xs,v,f,k,x⟩=>rN T V ⟨o,xs,v,f,k,x⟩&&knoL xs
def knoL:List Ex->Bool
 | []=>true
 | x::r=>Wb x&&knoL r
end
mutual
def gB:Ex->Bool
 | ⟨o,xs,v,f,k,x⟩=>bB T V ⟨o,xs,v,f,k,x⟩&&namL xs
def namL:List Ex->Bool
 | []=>true
 | x::r=>gB x&&namL r
end
theorem nJ:∀l:List Ex,knoL T V l=l.all (Wb T V)
 | []=>by rw [knoL];rfl
 | x::r=>by rw [knoL,nJ r,Lz]
theorem nY:∀l:List Ex,namL T V l=l.all (gB T V)
 | []=>by rw [namL];rfl
 | x::r=>by rw [namL,nY r,Lz]
theorem vE (e:Ex):Wb T V e=(rN T V e&&e.args.all (Wb T V)):=by cases e;rw [Wb,nJ]
theorem namS_eq (e:Ex):gB T V e=(bB T V e&&e.args.all (gB T V)):=by cases e;rw [gB,nY]

def lO (k:Int):Ag:=if (k==0) then I4 else if (k==1) then Gj else Fe
def xD (v:Vl):Syn:=⟨13,v.text,lO v.kind,v.num,[],0⟩
def shN (e:Ex)(ks:List Syn):Syn:=
 if (e.op==0) then xD e.val
 else if (e.op==1) then ⟨14,wM V e.var,fnm T V e.var e.field,0,[],0⟩
 else if (e.op==2) then ⟨14,wM V e.var,Hs,0,[],0⟩
 else if (e.op==3) then ⟨15,wM V e.var,[],0,[],0⟩
 else if (e.op==4) then ⟨16,wM V e.var,fnm T V e.var e.field,e.kind,if (e.kind != 1) then [xD e.val] else [],0⟩
 else if (e.op==12) then ⟨18,[],[],0,ks,0⟩ else ⟨17,[],[],e.op,ks,0⟩
mutual
def U5:Ex->Syn
 | ⟨o,xs,v,f,k,x⟩=>shN T V ⟨o,xs,v,f,k,x⟩ (shL xs)
def shL:List Ex->List Syn
 | []=>[]
 | x::r=>U5 x::shL r
end
theorem vY:∀l:List Ex,shL T V l=l.map (U5 T V)
 | []=>by rw [shL,Bw]
 | x::r=>by rw [shL,vY r,Be]
theorem Zu (e:Ex):U5 T V e=shN T V e (e.args.map (U5 T V)):=by cases e;rw [U5,vY]

def zL (p:Pt):Syn:=⟨5,((T[p.type.toNat]?).getD Zs).name,wM V p.var,0,if !(M4 p.cond T8) then [U5 T V p.cond] else [],0⟩
def shPN (p:Pt)(ks:List Syn):Syn:=
 if (p.op==0) then zL T V p
 else ⟨p.op+5,[],[],if (p.op==6) then p.span else 0,ks++(if (p.op==5) then [zL T V p] else if (p.op==7) then [U5 T V p.cond] else []),0⟩
mutual
def X8:Pt->Syn
 | ⟨o,xs,t,v,s,n,c⟩=>shPN T V ⟨o,xs,t,v,s,n,c⟩ (shPs xs)
def shPs:List Pt->List Syn
 | []=>[]
 | a::r=>X8 a::shPs r
end
theorem pO:∀l:List Pt,shPs T V l=l.map (X8 T V)
 | []=>by rw [shPs,Bw]
 | x::r=>by rw [shPs,pO r,Be]
theorem shP_eq (p:Pt):X8 T V p=shPN T V p (p.args.map (X8 T V)):=by cases p;rw [X8,pO]
end
def Z3 (q:Pt):Bool:=(q.op==0)||(q.op==5)
def Vu (q:Pt):Bool:=((q.op==0)||(q.op==5))||(q.op==7)
def Li (p:Pt):List (Int×Int):=((Hx p).filter Z3).map fun q=>(q.var,q.type)
def Tg (p:Pt):List Ex:=((Hx p).filter Vu).map (·.cond)
theorem tyP_eq (p:Pt):Li p=(if Z3 p then [(p.var,p.type)] else [])++p.args.flatMap Li:=by
 unfold Li;rw [Pc,Ua]
 have:((p.args.flatMap Hx).filter Z3).map (fun q=>(q.var,q.type))=p.args.flatMap Li:=by
  rw [List.filter_flatMap,List.map_flatMap];rfl
 split
 . rw [Be,this];rfl
 rw [this];rfl
theorem coP_eq (p:Pt):Tg p=(if Vu p then [p.cond] else [])++p.args.flatMap Tg:=by
 unfold Tg;rw [Pc,Ua]
 have:((p.args.flatMap Hx).filter Vu).map (·.cond)=p.args.flatMap Tg:=by
  rw [List.filter_flatMap,List.map_flatMap];rfl
 split
 . rw [Be,this];rfl
 rw [this];rfl
def vrE (T:List e8Sc)(L:List Int)(seen:List Ag)(i:Nat)(v:Va):Int:=
 if !(bC v.name) then 8 else if seen.contains v.name then 7 else if decide (v.type<0)||decide ((T.length:Int)<=v.type) then 6 else if ((L[i]?).getD 0 != v.type) then 9 else 0
def tD (T:List e8Sc)(L:List Int):List Ag->Nat->List Va->Int
 | _,_,[]=>0
 | seen,i,v::r=>if (vrE T L seen i v != 0) then vrE T L seen i v else tD T L (seen ++ [v.name]) (i+1) r
def zK (T:List e8Sc)(q:Qy):Int:=if (((Li q.pattern).length:Int) != (q.vars.length:Int)) then 15 else tD T ((Li q.pattern).map (·.2)) [] 0 q.vars

def Y9 (q:Qy):Int:=((q.vars[0]?).getD va0).type
def kyF (T:List e8Sc)(q:Qy):List Fi:=((T[(Y9 q).toNat]?).getD Zs).fields
def rO (q:Qy):Int:=ixI q.key (Y9 q)
def gA (T:List e8Sc)(q:Qy):Ag:=(((kyF T q)[(rO q).toNat]?).getD fi0).name
def kyO (T:List e8Sc)(q:Qy):Bool:=((O0 T q.vars (gA T q)).2&&((O0 T q.vars (gA T q)).1==q.key))&&bC (gA T q)
def nL (T:List e8Sc)(q:Qy):Ag×Bool:=
 if ((q.key.length:Int)==0) then ([],true)
 else if ((q.key.length:Int) != (T.length:Int)) then ([],false)
 else if decide (rO q<0)||decide (((kyF T q).length:Int)<=rO q) then ([],false)
 else (gA T q,kyO T q)

section
variable (T:List e8Sc) (q:Qy)
def rtE:Int:=Cr Fg q.returns
def tnB:Bool:=q.vars.all fun v=>bC ((T[v.type.toNat]?).getD Zs).name
def usR:Int×Bool:=Pm T q.vars (Tg q.pattern++q.returns) (tnB T q)
def sh3:Ag×Int:=if ((usR T q).1 != 0) then ([],(usR T q).1) else if !(usR T q).2 then ([],8) else ((nL T q).1,0)
def sh2:Ag×Int:=if (rtE q != 0) then ([],rtE q) else sh3 T q
def sh1:Ag×Int:=if !(nL T q).2 then ([],16) else if ((q.returns.length:Int)==0) then ([],15) else sh2 T q
def fV:Ag×Int:=if !(bC q.name) then ([],8) else if (Hf q.pattern != 0) then ([],Hf q.pattern) else if (zK T q != 0) then ([],zK T q) else sh1 T q
def qT:Syn:=⟨3,q.name,[],0,⟨4,(fV T q).1,[],0,[],0⟩::X8 T q.vars q.pattern::q.returns.map (U5 T q.vars),0⟩
def Ld:Syn×Int:=if (Dr T != 0) then (He,Dr T) else if ((fV T q).2 != 0) then (He,(fV T q).2) else if ((Ca (qT T q) (.only 3)).2 != 0) then (He,(Ca (qT T q) (.only 3)).2) else (qT T q,0)
end

section
variable {T:List e8Sc} {V:List Va}
theorem dY {e:Ex}(h:Iz e=0):0<=e.var/\0<=e.field:=⟨(node_var (I0 h).1).1,rU (I0 h).1⟩
theorem kno_own {e:Ex}(h:Iz e=0):rN T V e = !(Vy T V e):=by
 obtain ⟨h1,h2⟩:=dY h;have d1:decide (e.var<0)=false:=I5 (by omega);have d2:decide (e.field<0)=false:=I5 (by omega);obtain ⟨o1,o2,_⟩:=rV (I0 h).1;unfold rN Vy S9;rw [d1,d2,Ke,Pn];have hc:e.op=0\/e.op=1\/e.op=2\/e.op=3\/e.op=4\/5<=e.op:=by omega
 rcases hc with hc | hc | hc | hc | hc | hc
 . rw [hc];rfl
 .
  rw [hc];cases decide ((V.length:Int)<=e.var) <;> cases decide (((Yp T V e.var).fields.length:Int)<=e.field) <;> rfl
 .
  rw [hc];cases decide ((V.length:Int)<=e.var) <;> rfl
 .
  rw [hc];cases decide ((V.length:Int)<=e.var) <;> rfl
 .
  rw [hc];cases decide ((V.length:Int)<=e.var) <;> cases decide (((Yp T V e.var).fields.length:Int)<=e.field) <;> rfl
 rw [if_neg (by simp;omega),if_neg (by simp;omega),if_neg (by simp;omega)];rfl
theorem use_ref:∀e:Ex,Iz e=0->Tc T V e=if Wb T V e then (0,gB T V e) else (6,false):=by
  intro e
  induction e using Ex.ind with
  | h e ih=>
    intro h;have hk:=kno_own (T:=T) (V:=V) h;have hz:=(I0 h).2
    have key:∀l:List Ex,(∀a∈l,a∈e.args)->∀b,Pm T V l b=if l.all (Wb T V) then (0,b&&l.all (gB T V)) else (6,false):=by
      intro l
      induction l with
      | nil=>intro _ b;rw [Pm];simp
      | cons x r ih2=>
        intro hl b;have hx:=ih x (hl x (by simp)) (hz x (hl x (by simp)));rw [Pm,hx,Lz,Lz];cases hq:Wb T V x with
        | false=>rfl
        | true=>
          rw [if_pos rfl];rw [if_neg (show ¬((0:Int) != 0)=true by decide),ih2 (fun a ha=>hl a (by simp [ha]))];rw [Fj,Bool.and_assoc]
    rw [lH,vE,namS_eq,hk];cases Vy T V e with
    | true=>rfl
    | false=>
      rw [if_neg (by decide),key e.args (fun a ha=>ha)];rfl
theorem use_list {l:List Ex}(h:∀e∈l,Iz e=0):∀b,Pm T V l b=if l.all (Wb T V) then (0,b&&l.all (gB T V)) else (6,false):=by
  induction l with
  | nil=>intro b;rw [Pm];simp
  | cons x r ih=>
    intro b;rw [Pm,use_ref x (h x (by simp)),Lz,Lz];cases hq:Wb T V x with
    | false=>rfl
    | true=>
      rw [if_pos rfl];rw [if_neg (show ¬((0:Int) != 0)=true by decide),ih (fun a ha=>h a (by simp [ha]))];rw [Fj,Bool.and_assoc]
end

theorem xG {e:Int}{a:PS}(h:a.bad≠0):Fy e a=a:=by
 unfold Fy;have:(a.bad==0)=false:=by simpa using h
 rw [this];rfl
theorem iR (read:Syn->PS->Syn×PS)(z:Syn)(st:PS):Mw read z st=if ((F8 st).bad != 0) then (z,F8 st) else ((read z (adv (deep st))).1,shallow (read z (adv (deep st))).2):=rfl

def Wn (a:PS):Prop:=(∀t∈a.toks,0<=t.pos/\t.pos<=a.fin)/\0<=a.fin/\0<=a.whr/\a.whr<=a.fin
theorem Wn.off {a:PS}(h:Wn a):0<=D0 a/\D0 a<=a.fin:=by
 unfold D0;split
 .
  rename_i h1;have h1:=C6 h1;have h2:a.pos<a.toks.length:=by omega
  have e:lD a=a.toks[a.pos]:=by unfold lD;simp [E6,List.getElem?_eq_getElem h2]
  rw [e];exact h.1 _ (Ub h2)
 exact ⟨h.2.1,Fr _⟩
structure Bo (a b:PS):Prop where
 bad:a.bad≠0->b.bad=a.bad
 fin:b.fin=a.fin
 toks:b.toks=a.toks
 pos:a.pos<=b.pos
 wn:Wn a->Wn b
 dep:bE a->b.depth=a.depth
def J3 (F:PS->Syn×PS):Prop:=∀st,Bo st (F st).2
theorem Bo.refl (a:PS):Bo a a:=⟨fun _=>rfl,rfl,rfl,Bc _,id,fun _=>rfl⟩
theorem Bo.trans {a b c:PS}(h:Bo a b)(k:Bo b c):Bo a c:=⟨fun e=>by
 have h1:=h.bad e;rw [k.bad (by rw [h1];exact e),h1],k.fin.trans h.fin,k.toks.trans h.toks,E7 h.pos k.pos,fun w=>k.wn (h.wn w),fun r=>by
 have e:=h.dep r;exact (k.dep (by unfold bE;rw [e];exact r)).trans e⟩
theorem Bo.adv (a:PS):Bo a (adv a):=⟨fun _=>rfl,rfl,rfl,Nat.le_succ _,id,fun _=>rfl⟩
theorem Bo.fail (e:Int)(a:PS):Bo a (Fy e a):=by
 refine ⟨fun h=>by rw [xG h],?_,Lx _ _,Nat.le_of_eq (U0 _ _).symm,fun w=>?_,fun _=>P9 _ _⟩
 . unfold Fy;split <;> rfl
 unfold Fy;split
 . exact ⟨w.1,w.2.1,w.off.1,w.off.2⟩
 exact w
theorem Bo.acc (w:Ag)(a:PS):Bo a (Ol w a):=by unfold Ol;split;exact .adv _;exact .refl _
theorem Bo.exp (w:Ag)(a:PS):Bo a (Bn w a):=by unfold Bn;split;exact .fail _ _;exact .acc _ _
theorem Bo.tok (k:Int)(a:PS):Bo a (Ck k a):=by unfold Ck;split;exact .adv _;exact .fail _ _
def zJ (_:PS):Prop:=True
theorem Bo.rng {a b:PS}(h:Bo a b)(r:zJ a):zJ b:=trivial
theorem J3.goes {F:PS->Syn×PS}(h:J3 F){a:PS}(r:zJ a):Bo a (F a).2:=h a
theorem Bo.read {F:PS->Syn×PS}(h:J3 F){a b:PS}(r:zJ a)(k:Bo a b):Bo a (F b).2:=k.trans (h b)
theorem J3.of {F:PS->Syn×PS}(h:∀st,zJ st->Bo st (F st).2):J3 F:=fun st=>h st trivial
theorem deep_dep {a:PS}(r:bE a)(h:¬64<=a.depth):(deep a).depth=a.depth+1:=U9 (by have:=r.1;omega) (by omega)
theorem Bo.shallow {a b:PS}(hd:¬64<=a.depth)(h:Bo (deep a) b):Bo a (shallow b):=⟨h.bad,h.fin,h.toks,h.pos,h.wn,fun r=>by
 have e:=deep_dep r hd;have:=r.1;have e2:=h.dep (by unfold bE;rw [e];omega);show IntKind.i64.wrap (b.depth-1)=a.depth;rw [e2,e,show a.depth+1-1=a.depth by omega];exact U9 (by omega) (by omega)⟩
theorem Yr:J3 Jk:=.of fun st r=>by
 have h:Bo st (Bn J6 (Ck 0 st)):=(Bo.tok _ _).trans (.exp _ _);unfold Jk;split
 . exact h.trans (.adv _)
 split
 . exact h.trans (.adv _)
 split
 . exact h.trans (.adv _)
 exact h.trans (.fail _ _)
theorem Nd {F:PS->Syn×PS}(hF:J3 F):∀(n:Nat) (st:PS) (out:List Syn),zJ st->Bo st (Hr F n st out).2
  | 0,st,out,r=>.refl _
  | n+1,st,out,r=>by
    unfold Hr;split
    . have h:=Bo.read hF r (.adv st)
      exact h.trans (Nd hF n _ _ (h.rng r))
    exact .refl _
theorem bH {F:PS->Syn×PS}(hF:J3 F){st:PS}(r:zJ st):Bo st (Mh F st).2:=by
 have h:=hF.goes r;exact h.trans (Nd hF _ _ _ (h.rng r))
theorem cJ:J3 H0:=.of fun st r=>by
 have h:Bo st (Bn H1 (Ck 0 (Bn Dq st))):=((Bo.exp _ _).trans (.tok _ _)).trans (.exp _ _);unfold H0;simp only;split
 . exact (h.trans (bH Yr (h.rng r))).trans (.exp _ _)
 exact h.trans (.exp _ _)
theorem mC (st:PS):Bo st (Fh st).2:=by
 unfold Fh;split
 . exact (Bo.adv _).trans (.tok _ _)
 split
 . exact .tok _ _
 split
 . exact .adv _
 split
 . exact .adv _
 exact .tok _ _
theorem bof_const:J3 Fh:=.of fun st _=>mC st
theorem qU (st:PS):Bo st (Ts st).2:=((((Bo.exp _ _).trans (.tok _ _)).trans (.exp _ _)).trans (.tok _ _))
theorem jJ {read:Syn->PS->Syn×PS}{z:Syn}{st:PS}(r:zJ st)(h:∀s:PS,zJ s->Bo s (read z s).2):Bo st (Mw read z st).2:=by
 rw [iR];split
 .
  unfold F8;split
  . exact .fail _ _
  exact .refl _
 rename_i hb;have k:=h (adv (deep st)) trivial;refine Bo.shallow (fun hd=>hb ?_) (Bo.trans (Bo.adv (deep st)) k);unfold F8;rw [if_pos (Gc hd)];exact Md (by decide) _
theorem mD {E:PS->Syn×PS}(hE:J3 E):J3 (Ip E):=.of fun st r=>by
 unfold Ip;split
 . exact jJ r fun s r=>(hE.goes r).trans (.exp _ _)
 split
 .
  simp only;have h:=((Bo.adv st).trans (qU _)).trans (.exp C8 _);exact (h.trans (bof_const.goes (h.rng r))).trans (.exp _ _)
 split
 . exact ((Bo.adv st).trans (qU _)).trans (.exp _ _)
 split
 . exact (((Bo.adv st).trans (.exp _ _)).trans (.tok _ _)).trans (.exp _ _)
 split
 .
  simp only;split
  . exact ((Bo.tok _ _).trans (.exp _ _)).trans (.adv _)
  exact ((Bo.tok _ _).trans (.exp _ _)).trans (.tok _ _)
 exact bof_const.goes r
theorem Ro {F:PS->Syn×PS}(hF:J3 F){sg:List (Ag×Int)}:∀(n:Nat) (st:PS) (out:Syn),zJ st->Bo st (Il F sg n st out).2
  | 0,st,out,r=>.refl _
  | n+1,st,out,r=>by
    unfold Il;split
    . have h:=Bo.read hF r (.adv st)
      exact h.trans (Ro hF n _ _ (h.rng r))
    exact .refl _
theorem Um {F:PS->Syn×PS}(hF:J3 F)(sg:List (Ag×Int)):J3 (Nu F sg):=.of fun st r=>by
 have h:=hF.goes r;exact h.trans (Ro hF _ _ _ (h.rng r))
theorem bJ {E:PS->Syn×PS}(hE:J3 E):J3 (Hd E):=Um (mD hE) sumL
theorem bof_cmp {E:PS->Syn×PS}(hE:J3 E):J3 (Nv E):=.of fun st r=>by
 have h:=(bJ hE).goes r;have h2:=(h.trans (.adv _)).trans ((bJ hE).goes ((h.trans (.adv _)).rng r));unfold Nv;simp only
 repeat' split
 all_goals first | exact h2 | exact h
theorem Xi {E N:PS->Syn×PS}(hE:J3 E)(hN:J3 N):J3 (Vd E N):=.of fun st r=>by
 unfold Vd;split
 . exact (bof_cmp hE).goes r
 exact jJ r fun s r=>hN.goes r
theorem Aai {E N:PS->Syn×PS}(hE:J3 E)(hN:J3 N):J3 (orP E N):=Um (Um (Xi hE hN) qO) orL
theorem Ju:J3 F5:=.of fun st _=>.refl _
theorem M0:∀n,J3 (Se n).1/\J3 (Se n).2
 | 0=>⟨Xi Ju Ju,Aai Ju Ju⟩
 | n+1=>⟨Xi (M0 n).2 (M0 n).1,Aai (M0 n).2 (M0 n).1⟩
theorem gN {E:PS->Syn×PS}(hE:J3 E):J3 (Jj E):=.of fun st r=>by
 have h:Bo st (Ck 0 (Ck 0 st)):=(Bo.tok _ _).trans (.tok _ _);unfold Jj;simp only;split
 . exact Bo.read hE r (h.trans (.adv _))
 exact h
theorem bo_sev {T:PS->Syn×PS}(hT:J3 T)(z:Syn){st:PS}(r:zJ st):Bo st (gE T z st).2:=by
 have h:=Bo.read hT r (.exp C8 st);exact h.trans (Nd hT _ _ _ (h.rng r))
theorem uD {E T:PS->Syn×PS}(hE:J3 E)(hT:J3 T)(k:Int)(z:Syn){st:PS}(r:zJ st):Bo st (Fz E T k z st).2:=by
 unfold Fz;split
 . exact bo_sev hT z r
 split
 . exact .refl _
 split
 . exact Bo.read (gN hE) r (.exp _ _)
 split
 . exact (Bo.exp _ _).trans (.tok _ _)
 exact Bo.read hE r (.exp _ _)
theorem uE {E T:PS->Syn×PS}(hE:J3 E)(hT:J3 T):J3 (X3 E T):=.of fun st r=>by
 unfold X3;split
 .
  refine jJ r fun s r=>?_
  have h:=Bo.read hT r (.exp Fq s);exact (h.trans (uD hE hT _ _ (h.rng r))).trans (.exp _ _)
 exact (gN hE).goes r
theorem cK {E:PS->Syn×PS}(hE:J3 E):∀n,J3 (oJ E n)
 | 0=>uE hE Ju
 | n+1=>uE hE (cK hE n)
theorem Aah (st:PS)(k:Int):Bo st (O9 st k).2:=by
 unfold O9;split
 . exact (Bo.adv _).trans (.tok _ _)
 exact .refl _
theorem gO {E T:PS->Syn×PS}(hE:J3 E)(hT:J3 T):J3 (I1 E T):=.of fun st r=>by
 have h1:Bo st (Bn Gk (O9 (Ck 0 (Bn Dm st)) (D0 st)).2):=(((Bo.exp _ _).trans (.tok _ _)).trans (Aah _ _)).trans (.exp _ _);have h2:=(Bo.read hT r h1).trans (.exp G9 _);exact (h2.trans (bH hE (h2.rng r))).trans (.exp _ _)
theorem Nf {w:Ag}{F:PS->Syn×PS}(hF:J3 F):∀(n:Nat) (st:PS) (out:List Syn),Bo st (Ga w F n st out).2
  | 0,st,out=>.refl _
  | n+1,st,out=>by
    unfold Ga;split
    . exact (hF st).trans (Nf hF n _ _)
    exact .refl _
theorem Aaj {E T:PS->Syn×PS}(hE:J3 E)(hT:J3 T):J3 (Ch E T):=fun st=>
 (Nf cJ _ _ _).trans (Nf (gO hE hT) _ _ _)
theorem cH:J3 EE:=(M0 64).2
theorem qV:J3 TT:=cK cH 64

def erT (t:Tok):Tok:=⟨t.kind,t.text,0⟩

structure Cx where
 pre:List Tok
 post:List Tok
 k:Int
 hk:0<=k
 hc:∀c r,post=c::r->c.kind=3
 hpre:pre.map erT=pre
 hpost:post.map erT=post
def Cx.no (x:Cx)(w:Ag):Prop:=∀c r,x.post=c::r->(c.text==w)=false
variable {x:Cx} {d:Int} {st:PS}
theorem nxt_end {k:Int}(hi:Ta k st=true):endP st=false:=by
 unfold Ta at hi;cases e:endP st with
 | true=>rw [e] at hi;exact absurd hi (by simp)
 | false=>rfl
theorem is_end {w:Ag}(hi:G6 w st=true):endP st=false:=by
 unfold G6 at hi;cases e:endP st with
 | true=>rw [e] at hi;exact absurd hi (by simp)
 | false=>rfl
theorem exp_yes (h:st.bad=0){w:Ag}(hi:G6 w st=true):Bn w st=adv st:=by
 unfold Bn;rw [h,hi,Et hi];rfl
theorem exp_no (h:st.bad=0){w:Ag}(hi:G6 w st=false):(Bn w st).bad=4:=by
 unfold Bn;rw [h,hi];unfold Fy;rw [h];rfl
theorem tok_no (h:st.bad=0){k:Int}(hi:Ta k st=false):(Ck k st).bad=4:=by
 unfold Ck;rw [hi];unfold Fy;rw [h];rfl
def Cx.Ex (x:Cx):Prop:=∀c r,x.post=c::r->c.text=Ih\/c.text=C8
theorem jX {l:List (Ag×Int)}{s:Ag×Int}(h:l.find? (fun s=>G6 s.1 st)=some s):G6 s.1 st=true:=by
 have:=List.find?_some h;exact this
section
variable {E E' N N':PS->Syn×PS}
end
section
variable {E E' T T':PS->Syn×PS}
end

theorem Mr {p:UInt8->Bool}(h:(List.range 256).all (fun n=>p (UInt8.ofNat n))=true)(c:UInt8):p c=true:=by
 rw [Ht] at h;have:=h c.toNat (K9.2 c.toNat_lt)
 rwa [UInt8.ofNat_toNat] at this
theorem bt_drop (s:Ag)(k j:Nat):bt (s.drop k) j=bt s (k+j):=by simp [bt,E6,List.getElem?_drop]
theorem Lr {s:Ag}{n i:Nat}{b:Ag}:Eh s (n+1) i b =
 if decide ((i:Int)<(s.length:Int)) then
  if (((bt s i).toNat:Int)==34) then
   if decide (64<(b.length:Int)) then Jv 0 13 else Vw 2 b ((i:Int)+1)
  else if (((bt s i).toNat:Int)==92) then
   if ((Is (s.drop i)).2==0) then Jv i 4 else Eh s n (i+(Is (s.drop i)).2.toNat) (b ++ [(Is (s.drop i)).1])
  else if (decide (((bt s i).toNat:Int)<32)||decide (126<((bt s i).toNat:Int))) then Jv i 4
  else Eh s n (i+1) (b ++ [bt s i])
 else Jv s.length 4:=rfl

def okSign:Ag->Bool
 | [_]=>true
 | [_,b]=>b==61
 | _=>false
def U6 (c:UInt8)(two:Bool):Ag->Bool
 | [a]=>a==c
 | [a,_]=>a==c&&two
 | _=>false
theorem eX (c:UInt8)(r:Ag):∀l:List Ag,l.all okSign=true->Gs (c::r) l=match l.find? (U6 c (Lib.hasPrefix r [61])) with | none=>Jv 0 4 | some x=>Vw 3 x x.length
  | [],_=>rfl
  | x::l,h=>by
    simp only [Lz,Cy] at h
    have e:Lib.hasPrefix (c::r) x=U6 c (Lib.hasPrefix r [61]) x:=by
      match x,h.1 with
      | [a],_=>simp [Lib.hasPrefix,U6,List.isPrefixOf]
      | [a,b],h=>
        have:b=61:=by simpa [okSign] using h
        subst this;simp [Lib.hasPrefix,U6,List.isPrefixOf]
    rw [Gs,e,List.find?_cons];cases U6 c (Lib.hasPrefix r [61]) x with
    | true=>rfl
    | false=>simpa using eX c r l h.2
def Kk (c:UInt8)(two:Bool):Option Ag:=iV.find? (U6 c two)
def X9 (c:UInt8)(two:Bool):Int:=if sign2 c&&two then 2 else if sign1 c then 1 else 0
theorem signV_N (c:UInt8)(two:Bool):(Kk c two=none/\X9 c two=0)\/(two=true/\Kk c two=some [c,61]/\X9 c two=2)\/(Kk c two=some [c]/\X9 c two=1):=by
  cases two with
  | true=>
    have:=Mr (p:=fun c=>decide ((Kk c true=none/\X9 c true=0)\/(true=true/\Kk c true=some [c,61]/\X9 c true=2)\/(Kk c true=some [c]/\X9 c true=1))) (by kernel_rfl) c;exact C6 this
  | false=>
    have:=Mr (p:=fun c=>decide ((Kk c false=none/\X9 c false=0)\/(false=true/\Kk c false=some [c,61]/\X9 c false=2)\/(Kk c false=some [c]/\X9 c false=1))) (by kernel_rfl) c;exact C6 this
theorem kD {pos e:Int}(h:e≠0):Ky (Jv pos e)=true:=by
 unfold Ky Jv;simp [h]
theorem kE {k:Int}{t:Ag}{n:Int}(h:0<n):Ky (Vw k t n)=true:=by
 unfold Ky Vw;simp [h]
theorem sH {c:UInt8}:((c.toNat:Int)==34)=true->C7 c=false/\A9 c=false:=by
 have:=Mr (p:=fun c=>decide (((c.toNat:Int)==34)=true->C7 c=false/\A9 c=false)) (by kernel_rfl) c;exact C6 this

theorem pL {s:Ag}{n i:Nat}{out:List Tok}:Jm s (n+1) i out =
 if decide ((i:Int)<(s.length:Int)) then
  if decide (0<Lc (s.drop i)) then Jm s n (i+(Lc (s.drop i)).toNat) out
  else if ((B3 (s.drop i)).err != 0) then (([],(i:Int)+(B3 (s.drop i)).pos,(B3 (s.drop i)).err):List Tok×Int×Int)
  else Jm s n (i+(B3 (s.drop i)).bytes.toNat) (out ++ [⟨(B3 (s.drop i)).tok.kind,(B3 (s.drop i)).tok.text,i⟩])
 else (out,0,0):=rfl
theorem in_text {s:Ag}{i:Nat}(h:i<s.length):decide ((i:Int)<(s.length:Int))=true:=by simp only [Ea];omega
end Go.Proofs.YtibcelnfkhdjaaaGreatDoor
