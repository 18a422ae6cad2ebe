/-
  Several texts in one: U0, R8, Ar, Rar, R9, R13, U2, U6, U8, U10, U3, U11. No condition.
-/
import Derived.Test.YtkdhionilabokaaGreatDoorK03
import Derived.Lib.AppendZeros
import Derived.Test.YtkdhionilabokaaGreatDoorK01
import Derived.RangeFuncIn
import Derived.RangeFuncLeaves
import Derived.RangeFuncRecord
import Derived.TacticsIn
import Derived.ControlIn
set_option linter.unusedVariables false
set_option linter.unusedSimpArgs false
namespace Go.Aw
open Go
section
variable {P:Program} {T:List (Nat×TD)} {d:Option Nat} {ty:TypeId} {pos:String} {aft:Array Edge} {gd:Option (Nat×Bool)} {ρ:Operand->AV} {K:List HO->Prop}
theorem Wr {x:Operand}{t e:Nat}{td:TD}(hT:G9 P T)(h:ρ x = .val (.slice none 0 0))(ht:Bp T t=some td)(hk:td.kind = .slice e) :
  Dr P ⟨d,.call ⟨.builtin .cap,#[x],#[t]⟩,ty,pos,aft,gd⟩ ρ K (.int .i64 0):=
 .of_run fun g w a hr=>by
  have h1:=(h▸hr x (by simp [Op.operands,Call.operands]):Rep g w _ _).inv_val;refine ⟨.int .i64 0,G5 ?_,.int _ _⟩;have hu:=Dc (hT t td ht) hk;simp only [builtin,Builtin.cap_,List.map_toArray,Ba,Gv,h1,Sem.run_bind];simp [Bg hu,goInt]

theorem Zy {x y:Operand}{t e:Nat}{td te:TD}{k:IntKind}(hT:G9 P T)(hx:ρ x = .val (.slice none 0 0))(hy:ρ y = .int k 0)(ht:Bp T t=some td)(hk:td.kind = .slice e)(hte:Bp T e=some te) :
  Dr P ⟨d,.slice t x none (some y) none,ty,pos,aft,gd⟩ ρ K (.val (.slice none 0 0)):=
 .of_run fun g w a hr=>by
  have e1:=(hx▸hr x (by simp [Op.operands]):Rep g w _ _).inv_val;have e2:=(hy▸hr y (by simp [Op.operands]):Rep g w _ _).inv_int;have hu:=Dc (hT t td ht) hk;have hsz:=Gc (hT e te hte) w;refine ⟨.slice none 0 0,?_,.val _⟩
  have key:(Instr.sliceBounds true 0 0 none (some (.int k 0)) none).run P w = .ok (0,0,0) w:=by
   unfold Instr.sliceBounds;simp only [Sem.run_bind,Sem.run_pure,Result.andThen_ok];simp [D9 (P:=P) (k:=k) (n:=0) (y:=0) (by omega) (by omega)]
  simp only [execOp,e1,Instr.sliceAt,Sem.run_bind,Bg hu,Result.andThen_ok,Instr.slice,M8,E4,e2,key,hsz,Sem.run_pure,if_true,Nat.sub_zero]

theorem Xy {x y:Operand}{t tn e z n:Nat}{kn kk:IntKind}{td te:TD}{H:List HO}(hT:G9 P T)(hx:ρ x = .val (.slice none 0 0))(hy:ρ y = .int kk (n:Int))(ht:Bp T t=some td)(hk:td.kind = .slice e)
    (hn:P.underlying tn=some (.int kn)) (hte:Bp T e=some te) (hz:te.size=z) (hp:Nat.blt 0 z=true) (h0:0<n) (hm:n<=1048576) (hb:n*te.bytes<=140737488355328) :
    Jj P ⟨d,.call ⟨.builtin .append,#[x,y],#[t,tn]⟩,ty,pos,aft,gd⟩ ρ H (fun r H'=>∃b c,n<=c/\r = .val (.slice (some ⟨b,0,none⟩) n c)/\H' = .row (.slice (some ⟨b,0,none⟩) 0 c) 0 e z::H):=by
  intro g w a next Q hr hHK hnx
  have hpos:0<z:=by simpa using hp
  have e1:=(hx▸hr x (by simp [Op.operands,Call.operands]):Rep g w _ _).inv_val;have e2:=(hy▸hr y (by simp [Op.operands,Call.operands]):Rep g w _ _).inv_int;have hu:=Dc (hT t td ht) hk;obtain ⟨it,hit,his,hib,zv,hzv,hzs,_⟩:=(hT e te hte).info;have hmax:maxLen=9223372036854775807:=rfl;have hrun:=Lib.run_append_nil_zeros (P:=P) w t tn ty e it zv kk kn hu hn hit hzv n h0 (by rw [his,hz];exact hpos) (by omega) (by rw [hib];omega);have hcap:=grownCap_ge w n 0 e;have hcapM:=grownCap_le_maxLen w n 0 e (by omega);have hext:Ext g w (g.put w.heap.size (some 0)) (w.drew.alloc (.cells (Builtin.zeroCells zv.cells n++Builtin.zeroCells zv.cells (grownCap w n 0 e-n)) e)):=(Ext.drew g w).trans (Ext.alloc g w.drew _ _);unfold Oper.wp
  rw [E0 (v:=.slice (some ⟨w.heap.size,0,none⟩) n (grownCap w n 0 e)) (w':=w.drew.alloc (.cells (Builtin.zeroCells zv.cells n++Builtin.zeroCells zv.cells (grownCap w n 0 e-n)) e)) (by
      have:(#[x,y]:Array Operand).map a.eval = #[a.eval x,a.eval y]:=by simp
      rw [this,e1,e2];simp only [builtin,Sem.run_bind,hrun,Result.andThen_ok,Sem.run_pure])]
  refine hnx (g.put w.heap.size (some 0)) _ _ _ _ ⟨w.heap.size,grownCap w n 0 e,hcap,rfl,rfl⟩ (.val _) ?_ hext;refine (hHK.drew.alloc _ (some 0)).cons (.inr ⟨w.heap.size,grownCap w n 0 e,_,rfl,by rw [Nat.zero_mul];exact Gh.Aai _ _ _,Ci w.drew _,?_,Bn _,hcapM⟩) ?_
  . simp only [H7,size_zeroCells,hzs,hz,Nat.sub_mul]
    have:=Fu z hcap;omega
  . intro b hb x hx' hb'
    simp only [HO.blk,Option.some.injEq] at hb;have:=(HO.ok_lt (hHK.drew.ok x hx') hb').1;have h3:w.drew.heap.size=w.heap.size:=rfl;omega

theorem GS.rowBuf0 {sl:List (Nat×AV)}{H H2:List HO}{n:Nat}{v:Value}{E z:Nat}(k:Nat)(hk:H[k]? = some (.row v 0 E z))(hH2:H.set k (.buf v [] E z)=H2):GS ⟨sl,H,n⟩ ⟨sl,H2,n⟩:=fun g a w hG=>by
 subst hH2;refine ⟨g,⟨hG.size,hG.defers,hG.sl,?_⟩,Ext.refl g w⟩;have hok:=hG.heap.ok _ (A0 hk);refine hG.heap.set (Ext.refl g w) hk (fun c hc=>.inl (by cases v with | slice a n c=>cases a <;> exact hc | _=>exact hc)) ?_ (fun _ _ _ _=>⟨rfl,rfl⟩);rcases hok with ⟨e1,_⟩ | ⟨b,cap,cur,e1,h1,h2,h3,h4,h5⟩
 . exact .inl ⟨e1,rfl⟩
 exact .inr ⟨b,cap,cur,e1,by rw [h1,Nat.zero_mul],h2,h3,Bn _,h5,by simp,fun i x hi=>by simp at hi⟩
theorem Lo {x y:Operand}{t e k z:Nat}{td te:TD}{v:Value}{es es2:List (List AV)}{H:List HO}(hT:G9 P T)(hx:ρ x = .val v)(hy:ρ y = .sl z es2)(ht:Bp T t=some td)(hk:td.kind = .slice e)
  (hte:Bp T e=some te) (hz:te.size=z) (hp:Nat.blt 0 z=true) (hH:H[k]? = some (.buf v es e z)) (hs:∀c∈es2,Bm c=true) (hb:(es.length+es2.length)*te.bytes<=140737488355328) (hm:es.length+es2.length<=maxLen) :
  Jj P ⟨d,.call ⟨.builtin .append,#[x,y],#[t,t]⟩,ty,pos,aft,gd⟩ ρ H (fun r H'=>∃v',r = .val v'/\H'=H.set k (.buf v' (es++es2) e z)):=by
 by_cases h2:es2 = []
 .
  subst h2;intro g w a next Q hr hHK hn
  have e1:=(hx▸hr x (by simp [Op.operands,Call.operands]):Rep g w _ _).inv_val;have r2:=(hy▸hr y (by simp [Op.operands,Call.operands]):Rep g w _ _);have hu:=Dc (hT t td ht) hk;obtain ⟨a2,m,c2,h21,h22,h23,h24,_⟩:=r2.inv_sl;simp only [K9] at h22;subst h22;have hok:=hHK.ok _ (A0 hH);have hkl:k<H.length:=(List.getElem?_eq_some_iff.1 hH).1
  have hset:H.set k (.buf v (es ++ []) e z)=H:=by
   apply M9
   intro j;rw [List.getElem?_set,H1];split
   . rename_i hj;subst hj;first | exact hH.symm | (rw [if_pos hkl];exact hH.symm)
   rfl
  obtain ⟨a1,n1,c1,k1,k3⟩:∃a1 n1 c1,v = .slice a1 n1 c1/\n1<=c1:=by
   rcases hok with ⟨e9,_⟩ | ⟨b,cap,cur,e9,_,_,_,hcap,_⟩
   . exact ⟨none,0,0,e9,Bi _⟩
   exact ⟨_,_,_,e9,hcap⟩
  unfold Oper.wp
  rw [E0 (v:=v) (w':=w) (by
   have:(#[x,y]:Array Operand).map a.eval = #[a.eval x,a.eval y]:=by simp
   rw [this];have h9:(Builtin.append_ #[t,t] ty #[a.eval x,a.eval y]).run P w = .ok v w:=by rw [e1,k1,h21];exact Nh hu (hT e te hte) k3 w
   simp only [builtin,Sem.run_bind,h9,Result.andThen_ok,Sem.run_pure])]
  exact hn g w v _ _ ⟨v,rfl,rfl⟩ (.val _) (by rw [hset];exact hHK) (Ext.refl g w)
 exact Xx hT hx hy ht hk hte hz hp hH hs h2 hb hm
end
end Go.Aw
namespace Go.Proofs.YtkdhionilabokaaGreatDoor
open Go Go.Aw
theorem Hu {α:Type}{l:List α}{k:Nat}(d:α)(h:k<l.length):l[k]? = some ((l[k]?).getD d):=by
 rw [List.getElem?_eq_getElem h];rfl
theorem Ky {α:Type}(f:α->Bool){l:List α}{k:Nat}{x:α}(h:l[k]? = some x):(l.take (k+1)).any f=((l.take k).any f||f x):=by rw [Cr h];simp
def Vj (l:List Vl):Bool:=!((l.take 40).any fun v=>decide (128<v.text.length))&&decide (l.length<40)
def Eh (a b:Int):Int:=if decide (a<b) then -1 else if decide (b<a) then 1 else 0
def fB:List Int->Int
 | []=>0
 | a::r=>if a != 0 then a else fB r
def Ui (a b:Ev):Bool:=a.time==b.time&&(a.source==b.source&&a.seq==b.seq)
def Tk (a b:Ev):Int:=if Ui a b then 0 else fB [Eh a.time b.time,Eh a.source b.source,Eh a.seq b.seq]
def Hm (a b:Ev):Bool:=a.source==b.source&&a.seq==b.seq
def Uf (e:Ev):Bool:=decide (0<=e.time)&&decide (e.time<=1099511627776)&&decide (0<=e.source)&&decide (e.source<8)&&decide (0<=e.seq)&&decide (e.seq<=1099511627776)
def Za (seen:List Ev)(e:Ev):Bool:=match seen.getLast? with | some b=>decide (0<=Tk b e) | none=>false
def Rx (seen:List Ev)(e:Ev):Int:=
 if !Uf e then 2
 else if Za seen e then 14
 else if seen.any (Hm e) then 7 else 0
def Ho:List Ev->List Ev->Int
 | _,[]=>0
 | seen,e::r=>if Rx seen e != 0 then Rx seen e else Ho (seen ++ [e]) r
def Fh (l:List Ev):Int:=if decide (4096<(l.length:Int)) then 5 else Ho [] l
theorem kC {l:List Vl}{k:Nat}{a:Vl}(ha:l[k]? = some a)(h:(l.take k).any (fun v=>decide (128<v.text.length))=false)(h2:decide ((128:Int)<(a.text.length:Int))=false):(l.take (k+1)).any (fun v=>decide (128<v.text.length))=false:=by
 rw [Ky _ ha,h,Bl,Jh];have:=C7 h2;omega
theorem mZ {l:List Vl}{k:Nat}{a:Vl}(ha:l[k]? = some a)(hk:k<40)(h2:decide ((128:Int)<(a.text.length:Int))=true):Vj l=false:=by
 have h3:(l.take 40).any (fun v=>decide (128<v.text.length))=true:=by
  rw [Oi];exact ⟨a,List.mem_iff_getElem?.2 ⟨k,by rw [List.getElem?_take,if_pos hk];exact ha⟩,by have:=B2 h2;simp;omega⟩
 unfold Vj;rw [h3];rfl
theorem dF {α:Type}{l:List α}{k n:Nat}(h:(decide ((k:Int)<(l.length:Int))&&decide ((k:Int)<(n:Int)))=false)(hk:k<=n):l.take k=l.take n:=by
 simp only [M7,Jh] at h;by_cases hn:k=n
 . rw [hn]
 rw [It (by omega),It (by omega)]
theorem mY {l:List Vl}{k:Nat}(h:(decide ((k:Int)<(l.length:Int))&&decide ((k:Int)<40))=false)(hk:k<=40)(ha:(l.take k).any (fun v=>decide (128<v.text.length))=false):decide ((l.length:Int)<40)=Vj l:=by
 rw [dF (n:=40) h hk] at ha;unfold Vj;rw [ha,Bs,Bo,L1];omega
theorem pA {l:List Int}{k:Nat}{a:Int}(ha:l[k]? = some a)(h2:(a != 0)=false):fB (l.drop k)=fB (l.drop (k+1)):=by
 rw [Bf ha,fB,Ep h2]
theorem uP {l:List Int}{k:Nat}{a:Int}(ha:l[k]? = some a)(h2:(a != 0)=true):fB (l.drop k)=a:=by
 rw [Bf ha,fB,if_pos h2]
theorem Fa {α:Type}{l:List α}{k:Nat}(h:k<l.length):∃a,l[k]? = some a:=⟨_,List.getElem?_eq_getElem h⟩
def Pf {α:Type}(f:α->Bool):List α->Int
 | []=>-1
 | c::r=>if f c then 0 else if Pf f r = -1 then -1 else Pf f r+1
theorem iD {α:Type}(f:α->Bool):∀l:List α,-1<=Pf f l
  | []=>by simp [Pf]
  | c::r=>by
    have:=iD f r;unfold Pf;split
    . omega
    split <;> omega
theorem Rm {α:Type}(f:α->Bool):∀l:List α,decide (0<=Pf f l)=l.any f
  | []=>by simp [Pf]
  | c::r=>by
    have ih:=Rm f r;have h1:=iD f r;unfold Pf;rw [Nd,<-ih];cases f c with
    | true=>simp
    | false=>
      simp only [A2,if_false,Bl];split
      . rename_i h;rw [h]
      rw [L1];omega
theorem Oy {α:Type}{f:α->Bool}:∀{l:List α},l.any f=false->Pf f l = -1
  | [],_=>rfl
  | c::r,h=>by
    rw [Nd,Fv] at h;unfold Pf;rw [h.1,Oy h.2];rfl
theorem Rn {α:Type}{f:α->Bool}{x:α}:∀{l:List α} {k:Nat},(l.take k).any f=false->l[k]? = some x->f x=true->Pf f l=(k:Int)
  | [],k,_,h,_=>by simp at h
  | c::r,0,_,h,hx=>by
    simp at h;unfold Pf;rw [h,hx];rfl
  | c::r,k+1,h,hk,hx=>by
    rw [List.take_succ_cons,Nd,Fv] at h;have ih:=Rn (l:=r) (k:=k) h.2 (by simpa using hk) hx;unfold Pf;rw [h.1,ih];simp only [A2,if_false];rw [if_neg (by omega)];omega

section
variable {α:Type} (d:α) (lt:α->α->Bool)
def vG (l:List α)(j:Nat):List α:=(l.set j ((l[j-1]?).getD d)).set (j-1) ((l[j]?).getD d)
def Gf:Nat->List α->List α
 | 0,l=>l
 | j+1,l=>if lt ((l[j+1]?).getD d) ((l[j]?).getD d) then Gf j (vG d l (j+1)) else l
def Jc:Nat->Nat->List α->List α
 | 0,_,l=>l
 | n+1,i,l=>Jc n (i+1) (Gf d lt i l)
def Gt (l:List α):List α:=Jc d lt (l.length-1) 1 l
end

def Eo {α:Type}(c:α->List AV)(l:List α):List AV:=(l.map c).flatten
theorem nD {α:Type}{c:α->List AV}{z:Nat}(hz:∀x,(c x).length=z)(l:List α):(Eo c l).length=l.length*z:=by
 unfold Eo;rw [Cm (z:=z) (by intro e he;obtain ⟨x,_,rfl⟩:=B7.1 he;exact hz x),B1]
theorem Ku {α:Type}(c:α->List AV)(x:α)(l:List α):Eo c (x::l)=c x++Eo c l:=rfl
theorem flat_at {α:Type}{c:α->List AV}{z:Nat}(hz:∀x,(c x).length=z)(d:α)(J:List AV):∀(l:List α) (k:Nat),k<l.length->((Eo c l++J).drop (k*z)).take z=c ((l[k]?).getD d)
  | [],k,h=>by simp at h
  | x::l,0,h=>by
    rw [Nat.zero_mul,List.drop_zero,Ku,Cs];exact List.take_left' (hz x)
  | x::l,k+1,h=>by
    have ih:=flat_at hz d J l k (by simpa using h);rw [Ku,Cs,Fj,Iy,Nat.add_comm,<-List.drop_drop,List.drop_left' (hz x)];simpa using ih
theorem G2 {α:Type}{c:α->List AV}{z:Nat}(hz:∀x,(c x).length=z)(J:List AV)(y:α):∀(l:List α) (k:Nat),k<l.length->E3 (Eo c l++J) (k*z) (c y)=Eo c (l.set k y)++J
  | [],k,h=>by simp at h
  | x::l,0,h=>by
    unfold E3;rw [Nat.zero_mul,Cg,hz y,List.take_zero,H6,Ku,Cs,List.drop_left' (hz x),List.set_cons_zero,Ku,Cs]
  | x::l,k+1,h=>by
    have ih:=G2 hz J y l k (by simpa using h);have e1:(k+1)*z=z+k*z:=by rw [Fj,Iy,Nat.add_comm]
    have e2:Eo c ((x::l).set (k+1) y)++J=c x++(Eo c (l.set k y)++J):=by rw [List.set_cons_succ,Ku,Cs]
    have e3:Eo c (x::l)++J=c x++(Eo c l++J):=by rw [Ku,Cs]
    rw [e2,<-ih,e3,e1];unfold E3;rw [List.take_add,List.take_left' (hz x),List.drop_left' (hz x),hz y,Nat.add_assoc,<-List.drop_drop,List.drop_left' (hz x)];simp only [Cs]
theorem Kz {α:Type}{c:α->List AV}{z:Nat}(hz:∀x,(c x).length=z)(J:List AV){l:List α}{k:Nat}(h:k<l.length):Nat.ble (k*z+z) (Eo c l++J).length=true:=by
 rw [Nat.ble_eq,Do,nD hz];have:(k+1)*z<=l.length*z:=Fu z h;rw [Fj,Iy] at this;omega
theorem Ed {b:Bool}(h:H9 [(b,true)]):b=true:=h _ (F3.2 rfl)
theorem Zp {α:Type}(d:α)(l:List α)(j:Nat):(vG d l j).length=l.length:=by unfold vG;simp
theorem Pv {α:Type}{d:α}{lt:α->α->Bool}{l:List α}{j:Nat}(h:0<j->lt ((l[j]?).getD d) ((l[j-1]?).getD d)=false):Gf d lt j l=l:=by
 cases j with
 | zero=>rfl
 | succ j=>rw [Gf,Ep (by simpa using h (by omega))]
theorem Pu {α:Type}{d:α}{lt:α->α->Bool}{l:List α}{j:Nat}(h0:0<j)(h:lt ((l[j]?).getD d) ((l[j-1]?).getD d)=true):Gf d lt j l=Gf d lt (j-1) (vG d l j):=by
 cases j with
 | zero=>omega
 | succ j=>rw [Gf,if_pos (by simpa using h)];rfl
theorem Xg {α:Type}{d:α}{lt:α->α->Bool}:∀(j:Nat) (l:List α),(Gf d lt j l).length=l.length
  | 0,l=>rfl
  | j+1,l=>by
    rw [Gf];split
    . rw [Xg,Zp]
    rfl
theorem Pz {α:Type}{d:α}{lt:α->α->Bool}{l:List α}{n i:Nat}(h:i<n):Jc d lt (n-i) i l=Jc d lt (n-(i+1)) (i+1) (Gf d lt i l):=by
 have:n-i=(n-(i+1))+1:=by omega
 rw [this,Jc]
theorem P0 {α:Type}{d:α}{lt:α->α->Bool}{l:List α}{n i:Nat}(h:n<=i):Jc d lt (n-i) i l=l:=by
 have:n-i=0:=by omega
 rw [this];rfl
theorem Xl {α:Type}{d:α}{lt:α->α->Bool}:∀(n i:Nat) (l:List α),(Jc d lt n i l).length=l.length
 | 0,_,_=>rfl
 | n+1,i,l=>by rw [Jc,Xl n,Xg]
theorem Rw {α:Type}{d:α}{lt:α->α->Bool}(l:List α):(Gt d lt l).length=l.length:=Xl ..
def l8 (n:Nat):UInt8:=if n=0 then 0 else if n=1 then 1 else if n<=3 then 2 else if n<=7 then 3 else 4
theorem oE {n:Nat}(h:n<=12):n=0\/n=1\/n=2\/n=3\/n=4\/n=5\/n=6\/n=7\/n=8\/n=9\/n=10\/n=11\/n=12:=by omega
theorem wT (n:Nat):(l8 n).toNat<256:=(l8 n).toNat_lt

def xZ (e:Ev):List AV:=[.int .i64 e.source,.int .i64 e.seq]
def X6 (e:Ev)(k:List AV):Bool:=(Nk TL [(0,1,true,3),(1,1,true,3)] (xZ e) k).getD false
def Pi (l:List Ev):List (List AV×AV):=l.map fun e=>(xZ e,.bool true)
theorem gR (e x:Ev):Nk TL [(0,1,true,3),(1,1,true,3)] (xZ e) (xZ x)=some (Hm e x):=by
 show some ((e.source==x.source)&&((e.seq==x.seq)&&true))=_;rw [Aq];rfl
theorem bR (e:Ev)(l:List Ev):∀p∈Pi l,Nk TL [(0,1,true,3),(1,1,true,3)] (xZ e) p.1=some (X6 e p.1):=by
 intro p hp;obtain ⟨x,_,rfl⟩:=B7.1 hp;unfold X6;rw [gR];rfl
theorem mS (e x:Ev):X6 e (xZ x)=Hm e x:=by unfold X6;rw [gR];rfl
theorem Sp (e:Ev):∀l:List Ev,Ty (X6 e) (Pi l)=if l.any (Hm e) then some (.bool true) else none
  | []=>rfl
  | x::r=>by
    have ih:=Sp e r;unfold Pi at ih ⊢;rw [Ba,Ty,mS,Nd,ih];cases Hm e x <;> rfl
theorem eP (e:Ev)(l:List Ev):match Ty (X6 e) (Pi l) with | some y=>y = .bool (l.any (Hm e)) | none=>[AV.bool false] = [.bool (l.any (Hm e))]:=by
 rw [Sp];cases h:l.any (Hm e) <;> rfl
theorem kM {e:Ev}{l:List Ev}(h:l.any (Hm e)=false):Ty (X6 e) (Pi l)=none:=by rw [Sp,h];rfl
theorem eQ (e:Ev)(l:List Ev):Pi l ++ [(xZ e,.bool true)]=Pi (l ++ [e]):=by unfold Pi;rw [Cy];rfl
theorem Ox {seen r:List Ev}{e:Ev}{x:Int}(h:Rx seen e=x)(hx:x≠0):Ho seen (e::r)=x:=by
 rw [Ho,if_pos (by rw [h];simpa using hx),h]
theorem iC {seen r:List Ev}{e:Ev}(h:Rx seen e=0):Ho seen (e::r)=Ho (seen ++ [e]) r:=by
 rw [Ho,Ep (by rw [h];rfl)]
theorem kJ {l:List Ev}{k:Nat}(h:0<k)(hk:k<=l.length):(l.take k).getLast? = l[k-1]? :=by
 rw [List.getLast?_eq_getElem?,Fr,Nat.min_eq_left hk,List.getElem?_take,if_pos (by omega)]
theorem pB {l:List Ev}{k:Nat}(e:Ev)(hk:k<=l.length):Za (l.take k) e=(decide ((0:Int)<(k:Int))&&decide (0<=Tk ((l[k-1]?).getD Hg) e)):=by
  cases k with
  | zero=>rfl
  | succ k=>
    unfold Za;rw [kJ (by omega) hk];have h1:l[k+1-1]? = some ((l[k+1-1]?).getD Hg):=Hu Hg (by omega);have h2:decide ((0:Int)<((k+1:Nat):Int))=true:=by simp
    rw [h2,Bo,h1];rfl
theorem iX {l:List Ev}{k:Nat}(e:Ev)(hk:k<=l.length):Rx (l.take k) e=if !Uf e then 2 else if (decide ((0:Int)<(k:Int))&&decide (0<=Tk ((l[k-1]?).getD Hg) e)) then 14 else if (l.take k).any (Hm e) then 7 else 0:=by
 unfold Rx;rw [pB e hk]
theorem iO {l:List Ev}{k:Nat}(h:0<k)(hk:k<l.length):(l.map Ec)[((k:Int)-1).toNat]? = some (Ec ((l[k-1]?).getD Hg)):=by
 have e:((k:Int)-1).toNat=k-1:=by omega
 rw [e];exact Co (Hu Hg (by omega))
theorem dA {α:Type}{ls:List (List α)}{k:Nat}{a:List α}(h:ls[k]? = some a):((ls.take (k+1)).map List.length).sum=((ls.take k).map List.length).sum+a.length:=by rw [Cr h];simp
theorem kD {α:Type}{ls:List (List α)}{k:Nat}{a:List α}(h:ls[k]? = some a):(ls.take (k+1)).flatten=(ls.take k).flatten++a:=by rw [Cr h];simp
theorem Zo {α:Type}{ls:List (List α)}(k:Nat):((ls.take k).map List.length).sum<=(ls.map List.length).sum:=by
 have h:ls=ls.take k++ls.drop k:=(Iv k ls).symm
 have h2:(ls.map List.length).sum=((ls.take k).map List.length).sum+((ls.drop k).map List.length).sum:=by
  rw [<-List.sum_append,<-Cy,<-h]
 omega

structure Rz where
 t:Int
 s:Int
 q:Int
def vX (r:Rz):List AV:=[.int .i64 r.t,.int .i64 r.s,.int .i64 r.q]
def rf (e:Ev):Rz:=⟨e.time,e.source,e.seq⟩
def Ic (a b:Rz):Int:=if (a.t != b.t) then Eh a.t b.t else if (a.s != b.s) then Eh a.s b.s else Eh a.q b.q
theorem E9 {a b:Int}:Eh a b=0↔a=b:=by
 unfold Eh;by_cases h1:a<b
 .
  rw [if_pos (G7 h1)];constructor
  . intro h;cases h
  intro h;omega
 rw [if_neg (by simpa using h1)];by_cases h2:b<a
 .
  rw [if_pos (G7 h2)];constructor
  . intro h;cases h
  intro h;omega
 rw [if_neg (by simpa using h2)];constructor
 . intro _;omega
 intro _;rfl
theorem gS (e f:Ev):Tk e f=Ic (rf e) (rf f):=by
 unfold Tk Ic Ui rf;by_cases h1:e.time=f.time
 .
  by_cases h2:e.source=f.source
  .
   by_cases h3:e.seq=f.seq
   . simp [h1,h2,h3,E9.2]
   have:Eh e.seq f.seq≠0:=fun h=>h3 (E9.1 h)
   simp [h1,h2,h3,fB,E9.2 rfl,this]
  have:Eh e.source f.source≠0:=fun h=>h2 (E9.1 h)
  simp [h1,h2,fB,E9.2 rfl,this]
 have:Eh e.time f.time≠0:=fun h=>h1 (E9.1 h)
 simp [h1,fB,this]
def eL (l:List Ev):Bool:=!((l.take 20).any fun e=>!Vj e.values)&&decide (l.length<=20)
theorem nB {l:List Ev}{k:Nat}{a:Ev}(ha:l[k]? = some a)(hk:k<20)(h2:(!Vj a.values)=true):eL l=false:=by
 have h3:(l.take 20).any (fun e=>!Vj e.values)=true:=by
  rw [Oi];exact ⟨a,List.mem_iff_getElem?.2 ⟨k,by rw [List.getElem?_take,if_pos hk];exact ha⟩,h2⟩
 unfold eL;rw [h3];rfl
theorem nA {l:List Ev}{k:Nat}(h:(decide ((k:Int)<(l.length:Int))&&decide ((k:Int)<20))=false)(hk:k<=20)(ha:(l.take k).any (fun e=>!Vj e.values)=false):decide ((l.length:Int)<=20)=eL l:=by
 rw [dF (n:=20) h hk] at ha;unfold eL;rw [ha,Bs,Bo,L1];omega
end Go.Proofs.YtkdhionilabokaaGreatDoor

namespace Go.Aw
open Go
section
variable {P:Program} {T:List (Nat×TD)} {d:Option Nat} {ty:TypeId} {pos:String} {aft:Array Edge} {gd:Option (Nat×Bool)} {ρ:Operand->AV} {K:List HO->Prop}
theorem Et {i:Operand}{t e len:Nat}{td te:TD}{k:IntKind}{n:Int}{gl:Nat}{l cs':List AV}(hT:G9 P T)(hg:∃c,(gl,c)∈globals/\∀cs,c cs->cs=l)(hi:ρ i = .int k n)(ht:Bp T t=some td)(hk:td.kind = .array len e)
  (hte:Bp T e=some te) (h0:0<=n) (hc:n<len) (ho:l.drop (n.toNat*te.size)=cs') (hρ:ρ (.global gl) = .val (.pointer (some ⟨gl,0,none⟩))):Dr P ⟨d,.indexAddr t (.global gl) i,ty,pos,aft,gd⟩ ρ K (.ptr cs'):=by
 intro g w a H next Q hr hH hK hn
 obtain ⟨c,hc',hcl⟩:=hg;obtain ⟨cs,h1,h2⟩:=hH.glob.vars _ hc';obtain rfl:=hcl cs h1;obtain ⟨b,o,he,fv,h3,h4⟩:=h2.inv_ptr;simp only [Value.pointer.injEq,Option.some.injEq,Addr.mk.injEq,and_true] at he;obtain ⟨rfl,rfl⟩:=he;have he:=(hρ▸hr (.global gl) (by simp [Op.operands]):Rep g w _ _).inv_val;have h5:=(hi▸hr i (by simp [Op.operands]):Rep g w _ _).inv_int;have hu:=Ot (hT t td ht) hk
 have hrun:(execOp a.eval ⟨d,.indexAddr t (.global gl) i,ty,pos,aft,gd⟩).run P w = .ok (.value (.pointer (some ⟨gl,0+n.toNat*te.size,none⟩))) w:=by
  simp only [execOp,he,h5,Instr.indexAt,asIntOf,Sem.run_bind,Sem.run_pure,Result.andThen_ok,Bg hu,Instr.sureAddr];simp [h0,hc,Gc (hT e te hte),E8]
 unfold Oper.wp;rw [hrun];subst ho;refine hn g w _ (.ptr gl (0+n.toNat*te.size) _ (fun j=>fv (n.toNat*te.size+j)) (fun j x hj=>?_) (fun j x hj=>?_)) hH (Ext.refl g w)
 .
  rw [List.getElem?_drop] at hj;have:=h3 (n.toNat*te.size+j) x hj
  rwa [Nat.add_assoc]
 rw [List.getElem?_drop] at hj;exact h4 (n.toNat*te.size+j) x hj
end
end Go.Aw
namespace Go.Proofs.YtkdhionilabokaaGreatDoor
open Go Go.Aw

mutual
def Cw:Pt->List Pt
 | ⟨o,xs,t,v,s,n,c⟩=>⟨o,xs,t,v,s,n,c⟩::oO xs
def oO:List Pt->List Pt
 | []=>[]
 | a::r=>Cw a++oO r
end
theorem bV:∀l:List Pt,oO l=l.flatMap Cw
 | []=>by rw [oO];rfl
 | a::r=>by rw [oO,bV r,G8]
theorem In (p:Pt):Cw p=p::p.args.flatMap Cw:=by cases p;rw [Cw,bV]
mutual
def Pn:Pt->Nat
 | ⟨_,xs,_,_,_,_,_⟩=>Mt xs+1
def Mt:List Pt->Nat
 | []=>0
 | a::r=>max (Pn a) (Mt r)
end
theorem Po (p:Pt):Pn p=Mt p.args+1:=by cases p;rw [Pn]
theorem Sh:∀(l:List Pt) (a:Pt),Mt (l ++ [a])=max (Mt l) (Pn a)
 | [],a=>by simp [Mt]
 | x::r,a=>by rw [Lz,Mt,Sh r a,Mt];omega
theorem wD:∀p:Pt,Pn p<=Fm p:=by
  intro p
  induction p using Pt.ind with
  | h p ih=>
    rw [Po,H0]
    have:∀l:List Pt,(∀a∈l,Pn a<=Fm a)->Mt l<=(l.map Fm).sum:=by
      intro l
      induction l with
      | nil=>intro _;rw [Mt];simp
      | cons x r ih2=>intro h;rw [Mt,Ba,Dq];have:=h x (by simp);have:=ih2 fun a ha=>h a (by simp [ha]);omega
    have:=this _ ih;omega
theorem Kh {p a:Pt}(h:a∈p.args):Fm a<Fm p:=by
  rw [H0 p]
  have:∀l:List Pt,a∈l->Fm a<=(l.map Fm).sum:=by
    intro l
    induction l with
    | nil=>intro h;cases h
    | cons x r ih => intro h; rw [Ba, Dq]; rcases Cz.1 h with rfl | h
                     . omega
                     have:=ih h;omega
  have:=this _ h;omega
theorem Jx (p:Pt):p.args.length<Fm p:=by
  rw [H0]
  have:∀l:List Pt,l.length<=(l.map Fm).sum:=by
    intro l
    induction l with
    | nil=>simp
    | cons x r ih => rw [Eb, Ba, Dq]; have : 1 <= Fm x := by rw [H0]; omega
                     omega
  have:=this p.args;omega
theorem Zh:∀(l:List Pt) (k:Nat),((l.take k).map Fm).sum<=(l.map Fm).sum
 | [],k=>by simp
 | x::r,0=>by simp
 | x::r,k+1=>by rw [List.take_succ_cons,Ba,Ba,Dq,Dq];have:=Zh r k;omega
theorem Jw:∀p:Pt,(Cw p).length=Fm p:=by
  intro p
  induction p using Pt.ind with
  | h p ih=>
    rw [In,H0,Eb]
    have:∀l:List Pt,(∀a∈l,(Cw a).length=Fm a)->(l.flatMap Cw).length=(l.map Fm).sum:=by
      intro l
      induction l with
      | nil=>intro _;rfl
      | cons x r ih2=>intro h;rw [G8,Do,Ba,Dq,h x (by simp),ih2 fun a ha=>h a (by simp [ha])]
    rw [this _ ih]
theorem Lu {p a q:Pt}(h:a∈p.args)(hq:q∈Cw a):q∈Cw p:=by
 rw [In];exact Ft _ (K8.2 ⟨a,h,hq⟩)
theorem Gr (p:Pt):p∈Cw p:=by rw [In];exact Fs ..
theorem Jo {l:List Pt}{k:Nat}{a:Pt}(h:l[k]? = some a):(l.map Ew)[k]? = some (cPt a):=by rw [List.getElem?_map,h];exact congrArg some (Kp a)

structure Shp where
 least:Int
 most:Int
 typed:Bool
 cond:Bool
 scope:Bool
 span:Bool
def X0 (s:Shp):List AV:=[.int .i64 s.least,.int .i64 s.most,.bool s.typed,.bool s.cond,.bool s.scope,.bool s.span]
def vF:List Shp:=[⟨0,0,true,true,false,false⟩,⟨2,64,false,false,false,false⟩,⟨2,64,false,false,false,false⟩,⟨2,64,false,false,false,false⟩,⟨1,1,false,false,false,false⟩,⟨1,1,true,true,true,false⟩,⟨1,1,false,false,true,true⟩,⟨1,1,false,true,false,false⟩,⟨2,2,false,false,false,false⟩,⟨1,1,true,true,true,false⟩,⟨1,1,false,false,true,true⟩]
def D6 (o:Int):Shp:=(vF[o.toNat]?).getD ⟨0,0,false,false,false,false⟩
theorem P7 {o:Int}(h0:0<=o)(h1:o<11):∃rest,P6.drop (o.toNat*6)=X0 (D6 o)++rest:=by
 have:o=0\/o=1\/o=2\/o=3\/o=4\/o=5\/o=6\/o=7\/o=8\/o=9\/o=10:=by omega
 rcases this with rfl | rfl | rfl | rfl | rfl | rfl | rfl | rfl | rfl | rfl | rfl <;> exact ⟨_,rfl⟩
def vR (u:Bool)(n m:Int):Bool:=!u||(decide (0<=n)&&decide (n<=m))
def unu (u:Bool)(n:Int):Bool:=u||(n==0)
def wA (p:Pt)(s:Shp):Bool:=(((!vR s.typed p.type 15) || !vR s.typed p.var 15) || !vR s.scope p.scope 63) || !vR s.span p.span 1099511627776
def ckU (p:Pt)(s:Shp):Bool:=(((((!s.cond) && !Kn p.cond kB) || !unu s.typed p.type) || !unu s.typed p.var) || !unu s.scope p.scope) || !unu s.span p.span
def ckR (p:Pt)(s:Shp):Int:=
 if decide ((p.args.length:Int)<s.least)||decide (s.most<(p.args.length:Int)) then 15
 else if wA p s then 2
 else if s.cond&&(B8 p.cond != 0) then B8 p.cond
 else if ckU p s then 3 else 0
def Nt (p:Pt):Int:=if decide (p.op<0)||decide (11<=p.op) then 1 else ckR p (D6 p.op)
section
variable {p:Pt}
theorem ck_1 (h:(decide (p.op<0)||decide (11<=p.op))=true):Nt p=1:=if_pos h
theorem ck_2 (h:(decide (p.op<0)||decide (11<=p.op))=false)(h2:(decide ((p.args.length:Int)<(D6 p.op).least)||decide ((D6 p.op).most<(p.args.length:Int)))=true):Nt p=15:=(Ep h).trans (if_pos h2)
theorem ck_3 (h:(decide (p.op<0)||decide (11<=p.op))=false)(h2:(decide ((p.args.length:Int)<(D6 p.op).least)||decide ((D6 p.op).most<(p.args.length:Int)))=false)(h3:wA p (D6 p.op)=true):Nt p=2:=(Ep h).trans ((Ep h2).trans (if_pos h3))
theorem ck_4 (h:(decide (p.op<0)||decide (11<=p.op))=false)(h2:(decide ((p.args.length:Int)<(D6 p.op).least)||decide ((D6 p.op).most<(p.args.length:Int)))=false)(h3:wA p (D6 p.op)=false)(h4:(D6 p.op).cond=true)(h5:(B8 p.cond != 0)=true):Nt p=B8 p.cond:=by
 refine (Ep h).trans ((Ep h2).trans ((Ep h3).trans (if_pos ?_)));rw [h4,h5];rfl
theorem sQ (h:(decide (p.op<0)||decide (11<=p.op))=false)(h2:(decide ((p.args.length:Int)<(D6 p.op).least)||decide ((D6 p.op).most<(p.args.length:Int)))=false)(h3:wA p (D6 p.op)=false)(h4:((D6 p.op).cond&&(B8 p.cond != 0))=false):Nt p=if ckU p (D6 p.op) then 3 else 0:=(Ep h).trans ((Ep h2).trans ((Ep h3).trans (Ep h4)))
end

def Gl (p:Pt):Int:=if decide ((64:Int)<(Fm p:Int)) then 5 else if decide ((12:Int)<(Pn p:Int)) then 12 else Ax Nt (Cw p)
def Hw (p:Pt):Int:=if (Gl p != 0) then Gl p else if (Cw p).any (fun q=>decide (8<=q.op)) then 1 else 0
structure Cnt where
 vars:Int
 scopes:Int
 ok:Bool
def Ff (c:Cnt)(q:Pt):Cnt:=
 ⟨if (D6 q.op).typed then c.vars+1 else c.vars,if (D6 q.op).scope then c.scopes+1 else c.scopes,(c.ok&&(!(D6 q.op).typed||(q.var==c.vars)))&&(!(D6 q.op).scope||(q.scope==c.scopes))⟩
def Hf (p:Pt):Cnt:=(Cw p).foldl Ff ⟨0,0,true⟩
def Gk (p:Pt):Int:=if (Hw p != 0) then Hw p else if !(Hf p).ok then 14 else 0

section
variable {S:Type} (live:S->Bool) (step:S->Pt->S)
def Nx:S->List Pt->S
 | s,[]=>s
 | s,p::r=>if live s then Nx (step s p) r else s
theorem Rl {s:S}(h:live s=false):∀l,Nx live step s l=s
 | []=>rfl
 | p::r=>by rw [Nx,if_neg (by rw [h];decide)]
theorem Yd:∀(l m:List Pt) (s:S),Nx live step s (l++m)=Nx live step (Nx live step s l) m
  | [],m,s=>rfl
  | p::r,m,s=>by
    rw [Lz,Nx,Nx];cases h:live s with
    | true=>rw [if_pos rfl,if_pos rfl];exact Yd r m _
    | false=>rw [if_neg (by decide),if_neg (by decide),Rl live step h]
theorem eM {s:S}(hs:live s=true)(p:Pt):Nx live step s (Cw p)=Nx live step (step s p) (p.args.flatMap Cw):=by
 rw [In,Nx,if_pos hs]
theorem Xe {Good:S->Nat->Prop}(hmo:∀s n m,Good s n->m<=n->Good s m)(hgo:∀s q n,Good s (n+1)->Good (step s q) n):∀(l:List Pt) (s:S) (m:Nat),Good s (l.length+m)->Good (Nx live step s l) m
  | [],s,m,h=>by rw [Nx];simpa using h
  | p::r,s,m,h=>by
    rw [Nx];cases hl:live s with
    | false=>rw [if_neg (by decide)];exact hmo _ _ _ h (by omega)
    | true=>
      rw [if_pos rfl];exact Xe hmo hgo r _ m (hgo _ _ _ (by rw [Eb] at h;rw [show r.length+m+1=r.length+1+m by omega];exact h))
theorem nP {s:S}(hs:live s=true){p:Pt}(h:live (step s p)=false):Nx live step s (Cw p)=step s p:=by
 rw [eM live step hs,Rl live step h]
theorem Vm {s:S}{l:List Pt}{k:Nat}{a:Pt}(h:l[k]? = some a):Nx live step s ((l.take (k+1)).flatMap Cw)=Nx live step (Nx live step s ((l.take k).flatMap Cw)) (Cw a):=by
 rw [Cr h,Nc,Yd];simp
theorem tH {s:S}{l:List Pt}{k:Nat}{a:Pt}(h:l[k]? = some a)(hd:live (Nx live step s ((l.take (k+1)).flatMap Cw))=false):Nx live step s (l.flatMap Cw)=Nx live step s ((l.take (k+1)).flatMap Cw):=by
 conv=>lhs;rw [<-Iv (k+1) l,Nc,Yd]
 rw [Rl live step hd]
end
end Go.Proofs.YtkdhionilabokaaGreatDoor

namespace Go.Aw
open Go

def G6 (l:List Oper):Bool:=l.all fun o=>match o.op with | .defer _=>false | _=>true
theorem E2 {l:List Oper}(h:G6 l=true):∀o∈l,∀c,o.op≠.defer c:=fun o ho c e=>by
 have:=(List.all_eq_true.1 h) o ho;rw [e] at this;cases this

theorem M0 {ro:Option Nat}{n:Nat}{P:Program}{o:Oper}{a:Act}{w:World}{next:Act->World->Prop}{Q Q':Exit->Act->World->Prop}(hd:∀c,o.op≠.defer c)
    (hp:∀c a w,Q (.panic c) a w->Q' (.panic c) a w) (ho:LetsOut Q->LetsOut Q') (h:o.wp P a w next Q):o.wpIn { Fence.wide with round:=ro } n P a w next Q':=by
  refine ⟨fun _ _=>trivial,?_⟩;rw [Oper.semAt_eq _ _ _ hd];unfold Oper.wp at h;generalize (execOp a.eval o).run P w=r at h ⊢;cases r with
  | ok x w'=>
    cases x with
    | value v=>exact h
    | skip=>exact h
    | defer d=>exact h
    | enter f args=>
      have h':Calls P f args w' _:=h;refine ⟨fun e=>(by cases e),callsIn_wide.2 (h'.mono ?_)⟩;intro e w'' hr;cases e with
      | returned v=>exact hr
      | panicked c=>exact hp _ _ _ hr
      | outgrown=>exact ho hr
    | row row args=>
      have h':Rows P row args w' _:=h;exact ⟨fun e=>(by cases e),fun c cs _=>let ⟨v,w'',r,s⟩:=h' c cs;⟨v,w'',r,stepsIn_wide.2 s⟩⟩
    | _=>exact h.elim
  | halt e w'=>
    cases e with
    | panic v=>exact hp _ _ _ h
    | _=>exact h.elim

theorem Dm {ro:Option Nat}{n:Nat}{P:Program}{ops:Array Oper}{Q:Exit->Act->World->Prop}:∀(l rest:List Oper) (a:Act) (w:World),(∀o∈l,∀c,o.op≠.defer c)->
    fW P ops (fun e a w=>match e with | .normal=>wpListIn { Fence.wide with round:=ro } n P ops Q rest a w | e=>Q e a w) l a w->wpListIn { Fence.wide with round:=ro } n P ops Q (l++rest) a w
  | [],rest,a,w,_,h=>h
  | o::r,rest,a,w,hd,h=>by
    unfold fW at h;show wpListIn _ n P ops Q (o::(r++rest)) a w;unfold wpListIn;split
    . rename_i hw;rw [if_pos hw] at h
      exact M0 (hd o (Fs ..)) (fun c a w h=>h) (fun h=>h) (Oper.wp_mono (fun a' w' h'=>Dm r rest a' w' (fun x hx=>hd x (Ft _ hx)) h') h)
    . rename_i hw;rw [if_neg hw] at h
      exact ⟨fun _ _=>trivial,Dm r rest _ w (fun x hx=>hd x (Ft _ hx)) h⟩

def Dp (P:Program)(l:Nat)(rec:Loop)(H:List HO)(args:List AV)(R:AV->List HO->Prop):Prop:=
 ∀(n:Nat) (g:Gh) (w:World) (vs:Array Value),HOK g w H->Cv g w vs args->
  RoundIn { Fence.wide with round:=none } n P l rec.fn ((rec.params.zip vs).foldl (fun t (p,v)=>t.setIfInBounds p v) rec.tmps) rec.assign rec.body w
   fun e w'=>∃v g' r H',e = .returned v/\Rep g' w' v r/\HOK g' w' H'/\Ext g w g' w'/\R r H'

theorem jD:({ Fence.wide with round:=none }:Fence)=Fence.wide:=rfl

def Qi (l:Nat)(P:Program)(c:Code)(Q:Exit->St->Prop)(s:St):Prop:=
 ∀(n:Nat) (Q':Exit->Act->World->Prop) (g:Gh) (a:Act) (w:World),Gm g s a w->(∀e g' s' a' w',Gm g' s' a' w'->Ext g w g' w'->Q e s'->Q' e a' w')->c.wpIn { Fence.wide with round:=some l } n P Q' a w

theorem Qi.region {l:Nat}{P:Program}{Q:Exit->St->Prop}{s:St}{id:Nat}{ops:Array Oper}(hnd:G6 ops.toList=true)(h:AOL P ops (Q .normal) ops.toList s):Qi l P (.region id ops false) Q s:=by
 intro n Q' g a w hG hQ;refine wpIn_region_list ?_;have:=Dm (ro:=some l) (n:=n) (Q:=Q') ops.toList [] a w (E2 hnd) (h.run _ g a w hG fun g' s' a' w' h1 h2 h3=>hQ _ g' s' a' w' h1 h2 h3);simpa using this

theorem Qi.block {l:Nat}{P:Program}{Q:Exit->St->Prop}{s:St}{id:Nat}{c:Code}(h:Qi l P c (Im id Q) s):Qi l P (.block id c) Q s:=by
  intro n Q' g a w hG hQ;refine wpIn_block (h n _ g a w hG fun e g' s' a' w' hG' hx hq=>?_);cases e with
  | exit j=>
    simp only [Im] at hq;simp only [Exit.inBlock];by_cases e:j=id
    . subst e;simp at hq;simp;exact hQ _ g' s' a' w' hG' hx hq
    . simp only [e,if_false]
      have:Nat.beq j id=false:=by
        cases hq':Nat.beq j id with
        | false=>rfl
        | true=>exact absurd (Ey hq') e
      simp only [this,cond_false] at hq;exact hQ _ g' s' a' w' hG' hx hq
  | _=>exact hQ _ g' s' a' w' hG' hx hq

theorem Oa {g:Gh}{w:World}{H:List HO}(hH:HOK g w H){i b:Nat}{o:Obj}(o':Obj)(hi:H[i]? = some (.obj b o)) :
  HOK g (w.putObj b o') (H.set i (.obj b o'))/\Ext g w g (w.putObj b o'):=by
 have hob:(HO.obj b o).ok g w:=hH.ok _ (A0 hi);have hlt:b<w.heap.size:=(Array.getElem?_eq_some_iff.1 hob.2).1
 have hx:Ext g w g (w.putObj b o'):=by
  refine ⟨rfl,rfl,rfl,⟨by simp,Bi _⟩,fun c hc hg=>⟨hg,World.putObj_heap_other (fun e=>by rw [e,hob.1] at hg;cases hg)⟩,fun c n hc hg=>⟨fun m hm=>by rw [hg] at hm;cases hm;exact Bi _,fun x hx=>?_⟩⟩;have hne:c≠b:=fun e=>by rw [e,hob.1] at hg;cases hg;omega
  unfold World.cell?;rw [World.putObj_heap_other hne]
 refine ⟨hH.set hx hi (fun c hc=>.inl hc) ⟨hob.1,World.putObj_heap_same hlt⟩ fun c hc hne _=>⟨rfl,World.putObj_heap_other (fun e=>hne (by rw [e];rfl))⟩,hx⟩

theorem Gm.putObj {g:Gh}{s:St}{a:Act}{w:World}(hG:Gm g s a w){i b:Nat}{o:Obj}(o':Obj)(hi:s.H[i]? = some (.obj b o)) :
  Gm g ⟨s.sl,s.H.set i (.obj b o'),s.n⟩ a (w.putObj b o')/\Ext g w g (w.putObj b o'):=by
 obtain ⟨h1,h2⟩:=Oa hG.heap o' hi;exact ⟨⟨hG.size,hG.defers,fun j=>(hG.sl j).mono h2,h1⟩,h2⟩

def AWX (P:Program)(c:Code)(Q:Exit->St->Prop)(X:Gh->World->Exit->Act->World->Prop)(s:St):Prop:=
 ∀(Q':Exit->Act->World->Prop) (g:Gh) (a:Act) (w:World),Gm g s a w->(∀e g' s' a' w',Gm g' s' a' w'->Ext g w g' w'->Q e s'->Q' e a' w')->(∀e a' w',X g w e a' w'->Q' e a' w')->c.wp P Q' a w

def Ei (D:Nat):Deferred:={ target:=.collected D,args:=#[] }

def cA (P:Program)(fn:Func)(R:AV->List HO->Prop)(g:Gh)(w:World)(e:Exit)(a:Act)(w':World):Prop:=
 e = .ret/\∃D,a.defers = [Ei D]/\w'.heap[D]? = some (.deferred (some []))/\∃v g' r H',(results fn a.tmps).run P (w'.putObj D (.deferred none)) = .ok v (w'.putObj D (.deferred none))/\
  Rep g' (w'.putObj D (.deferred none)) v r/\HOK g' (w'.putObj D (.deferred none)) H'/\Ext g w g' (w'.putObj D (.deferred none))/\R r H'

section
variable {P:Program} {fn:Func} {R:AV->List HO->Prop} {Q:Exit->St->Prop} {s:St}
theorem cA.mono {g g1:Gh}{w w1:World}(h:Ext g w g1 w1){e:Exit}{a:Act}{w':World}(k:cA P fn R g1 w1 e a w'):cA P fn R g w e a w':=by
 obtain ⟨he,D,h1,h2,v,g',r,H',h3,h4,h5,h6,h7⟩:=k;exact ⟨he,D,h1,h2,v,g',r,H',h3,h4,h5,h.trans h6,h7⟩

theorem AWX.seq {x y:Code}(h:AW P x (Ea (AWX P y Q (cA P fn R)) Q) s):AWX P (.seq x y) Q (cA P fn R) s:=by
 intro Q' g a w hG hQ hX;refine wp_seq (h _ g a w hG fun e g' s' a' w' hG' hx hq=>?_);cases e with
 | normal=>exact hq Q' g' a' w' hG' (fun e g'' s'' a'' w'' h1 h2 h3=>hQ e g'' s'' a'' w'' h1 (hx.trans h2) h3) (fun e a'' w'' hk=>hX e a'' w'' (hk.mono hx))
 | _=>exact hQ _ g' s' a' w' hG' hx hq

def AWX2 (P:Program)(y z:Code)(Q:Exit->St->Prop)(X:Gh->World->Exit->Act->World->Prop)(s:St):Prop:=
 ∀(Q':Exit->Act->World->Prop) (g:Gh) (a:Act) (w:World),Gm g s a w->(∀e g' s' a' w',Gm g' s' a' w'->Ext g w g' w'->Q e s'->Q' e a' w')->(∀e a' w',X g w e a' w'->Q' e a' w')->y.wp P (Exit.then (z.wp P Q') Q') a w

theorem AWX.assoc {x y z:Code}(h:AW P x (Ea (AWX2 P y z Q (cA P fn R)) Q) s):AWX P (.seq (.seq x y) z) Q (cA P fn R) s:=by
 intro Q' g a w hG hQ hX;refine wp_seq (wp_seq (h _ g a w hG fun e g' s' a' w' hG' hx hq=>?_));cases e with
 | normal=>exact hq Q' g' a' w' hG' (fun e g'' s'' a'' w'' h1 h2 h3=>hQ e g'' s'' a'' w'' h1 (hx.trans h2) h3) (fun e a'' w'' hk=>hX e a'' w'' (hk.mono hx))
 | _=>exact hQ _ g' s' a' w' hG' hx hq

theorem Cb.bodyX {T:List (Nat×TD)}(hT:G9 P T){f:FuncId}{c:Code}{args:List AV}{H:List HO}(hf:P.funcs[f]? = some fn)(hb:fn.body=some c){n:Nat}(hn:fn.ntmps=n)(hle:Nat.ble args.length n=true)
    (h:AWX P c (fun e s=>(e = .normal\/e = .ret)/\∃xs,ResL P T s fn.results.toList xs/\∃H',H'.Sublist s.H/\R (Aj xs) H') (cA P fn R) ⟨F9 0 args,H,n⟩):Cb P f H args R:=by
  intro g w vs hH hr;have hle':=J0 hle;refine (callsIn_wide (n:=1)).1 (callsIn_of_wp_marks hf hb trivial ?_);refine wpIn_wide.2 ?_;refine h _ g _ w ⟨?_,rfl,?_,hH⟩ ?_ ?_
  . simp only [H7,Array.size_replicate,hn,hr.1];omega
  . intro i
    show Rep g w _ (get (F9 0 args) i);rw [Mv];simp only [Bn,if_true,Nat.sub_zero];cases hi:args[i]? with
    | none=>exact .junk _
    | some x=>
      have hlt:i<vs.size:=by rw [hr.1];exact (List.getElem?_eq_some_iff.1 hi).1
      have:=hr.2 i x hi;simp only [Ce,Array.getElem?_append,hlt,if_true] at this ⊢;exact this
  . rintro e g' s' a' w' hG' hx ⟨he,xs,hr',H',hs,hq⟩
    obtain ⟨v,h1,h2⟩:=Ln hT hr' hG'
    have key:LeavesInM Fence.wide 1 P fn a'.tmps (fun e w'=>∃v g' r H',e = .returned v/\Rep g' w' v r/\HOK g' w' H'/\Ext g w g' w'/\R r H') a'.defers .returning w':=by
      rw [hG'.defers];exact ⟨v,h1,v,g',_,H',rfl,h2,hG'.heap.sub hs,hx,hq⟩
    rcases he with rfl | rfl <;> exact key
  . rintro e a' w' ⟨rfl,D,hD,hk,v,g',r,H',h1,h2,h3,h4,h5⟩
    show LeavesInM Fence.wide 1 P fn a'.tmps _ a'.defers .returning w';rw [hD];exact ⟨by simp,.inl ⟨D,_,rfl,run_takeDeferred hk,v,h1,v,g',r,H',rfl,h2,h3,h4,h5⟩⟩
end

def Act.Aak (a:Act)(ds:List Deferred):Act:={ a with defers:=a.defers++ds }
theorem Gs (a:Act)(ds:List Deferred)(d:Option Nat)(v:Value):(Act.Aak a ds).put d v=Act.Aak (a.put d v) ds:=by cases d <;> rfl
theorem Kv (a:Act)(ds:List Deferred):(Act.Aak a ds).eval=a.eval:=by funext y;cases y <;> rfl

def bU (ds:List Deferred)(Q:Exit->Act->World->Prop)(e:Exit)(a:Act)(w:World):Prop:=∃a0,a=Act.Aak a0 ds/\Q e a0 w

theorem Xv {P:Program}{ops:Array Oper}{Q:Exit->Act->World->Prop}{ds:List Deferred}{i:Nat}{K K':Act->World->Prop}(hK:∀a w,K a w->K' (Act.Aak a ds) w){a:Act}{w:World}
    (h:wpOp P ops Q i K a w):wpOp P ops (bU ds Q) i K' (Act.Aak a ds) w:=by
  have hL:LetsOut Q->LetsOut (bU ds Q):=fun ⟨a,w,h⟩=>⟨_,w,a,rfl,h⟩
  unfold wpOp at h ⊢;cases ho:ops[i]? with
  | none=>rw [ho] at h;exact hK _ _ h
  | some o=>
    rw [ho] at h;simp only at h ⊢;have ht:yielded ops (Act.Aak a ds).tmps=yielded ops a.tmps:=rfl;rw [ht];by_cases hw:Region.wanted o (yielded ops a.tmps)=true
    . rw [if_pos hw] at h ⊢
      rcases h with h | ⟨h,h'⟩
      . left
        unfold Oper.wp at h ⊢;rw [Kv];generalize (execOp a.eval o).run P w=r at h ⊢;cases r with
        | ok x w'=>
          cases x with
          | value v=>show K' _ w';rw [Gs];exact hK _ _ h
          | skip=>show K' _ w';rw [Gs];exact hK _ _ h
          | defer d=>
            have:=hK _ _ h;rw [<-Gs] at this;exact this
          | enter f args=>
            have h':Calls P f args w' _:=h;show Calls P f args w' _;refine h'.mono ?_;intro e w'' hr;cases e with
            | returned v=>show K' _ w'';rw [Gs];exact hK _ _ hr
            | panicked c=>exact ⟨a,rfl,hr⟩
            | outgrown=>exact hL hr
          | row row args=>
            have h':Rows P row args w' _:=h;show Rows P row args w' _;exact h'.mono fun v w'' hr=>by rw [Gs];exact hK _ _ hr
          | _=>exact h.elim
        | halt e w'=>
          cases e with
          | panic v=>exact ⟨a,rfl,h⟩
          | _=>exact h.elim
      . right
        refine ⟨?_,hL h'⟩;unfold Oper.asks at h ⊢;rw [Kv];exact h
    . rw [if_neg hw] at h ⊢
      rw [Gs];exact hK _ _ h

theorem P8 {P:Program}{md:Region.Mode}{ops:Array Oper}{Q:Exit->Act->World->Prop}{ds:List Deferred}:∀(fuel:Nat) (listed:Array Bool) (a:Act) (w:World),wpAny P md ops Q fuel listed a w->
  wpAny P md ops (bU ds Q) fuel listed (Act.Aak a ds) w
 | 0,listed,a,w,h=>⟨h.1,a,rfl,h.2⟩
 | fuel+1,listed,a,w,h=>⟨fun hr=>⟨a,rfl,h.1 hr⟩,fun i hi=>Xv (fun a w h=>P8 fuel _ a w h) (h.2 i hi)⟩

section
variable {P:Program} {ops:Array Oper}
theorem lG (hm:P.follows .mixedOrders=true){id:Nat}{Qs:St->Prop}{s:St}(K:List HO->Prop)(hK:K s.H)(hdd:De ops=true)(h:E5 P ops K Qs (Array.replicate ops.size false) s)
  {Q':Exit->Act->World->Prop} {g:Gh} {a:Act} {w:World} (hG:Gm g s a w) (ds:List Deferred) (hQ:∀g' s' a' w',Gm g' s' a' w'->Ext g w g' w'->Qs s'->Q' .ret (Act.Aak a' ds) w') :
  ((Code.region id ops true).seq .ret).wp P Q' (Act.Aak a ds) w:=by
 have hx:=Ext.drew g w;have hG':Gm g s a w.drew:=⟨hG.size,hG.defers,fun i=>(hG.sl i).mono hx,hG.heap.drew⟩
 have key:=CanonI.any hdd h ops.size [] (Array.replicate ops.size false) s.sl g a w.drew (fun e a' w'=>match e with | .normal=>Q' .ret (Act.Aak a' ds) w' | _=>False)
  ⟨by simp,by simp,by simp,by simp,fun t _=>rfl,by simp,by simp,by simp,by simp,by simp,by simp,by simp,by simp,fun j o hj hl=>by
   have hlt:j<ops.size:=(Array.getElem?_eq_some_iff.1 hj).1;simp [hlt] at hl⟩ hG' (fun _=>hK) (by
   unfold Xs;have:=Om (fun j=>!(Array.replicate ops.size false).getD j true) (List.range ops.size);simpa using this) fun g' s' a' w' k1 k2 k3=>hQ g' s' a' w' k1 (hx.trans k2) k3
 have key2:=P8 (ds:=ds) _ _ _ _ key;refine wp_seq (wp_mono (wp_region_any hm key2) ?_);rintro e a' w' ⟨a0,rfl,hq⟩;cases e with
 | normal=>exact wp_ret hq
 | _=>exact hq.elim

inductive AWD (P:Program):Code->(St->Prop)->St->Prop where
 | draw (hm:P.follows .mixedOrders=true) {id:Nat} {ops:Array Oper} {Qs:St->Prop} {s:St} (K:List HO->Prop) (hK:K s.H) (hdd:De ops=true) (h:E5 P ops K Qs (Array.replicate ops.size false) s):AWD P (.region id ops true) Qs s

def yK (P:Program)(T:List (Nat×TD))(fn:Func)(R:AV->List HO->Prop)(D:Nat)(s:St):Prop:=
 ∃i:Nat,s.H[i]? = some (HO.obj D (Obj.deferred (some [])))/\∃xs,ResL P T ⟨s.sl,s.H.set i (.obj D (.deferred none)),s.n⟩ fn.results.toList xs/\∃H3,H3.Sublist (s.H.set i (.obj D (.deferred none)))/\R (Aj xs) H3

end
end Go.Aw

namespace Go.Aw
open Go

section
variable {l:Nat} {P:Program} {Q:Exit->St->Prop} {s:St}
theorem Qi.ret (h:Q .ret s):Qi l P .ret Q s:=fun n Q' g a w hG hQ=>wpIn_ret (hQ _ g s a w hG (Ext.refl g w) h)
theorem Qi.skip (h:Q .normal s):Qi l P .skip Q s:=fun n Q' g a w hG hQ=>wpIn_skip (hQ _ g s a w hG (Ext.refl g w) h)
theorem Qi.seq {x y:Code}(h:Qi l P x (Ea (Qi l P y Q) Q) s):Qi l P (.seq x y) Q s:=by
 intro n Q' g a w hG hQ;refine wpIn_seq (h n _ g a w hG fun e g' s' a' w' hG' hx hq=>?_);cases e with
 | normal=>exact hq n Q' g' a' w' hG' fun e g'' s'' a'' w'' h1 h2 h3=>hQ e g'' s'' a'' w'' h1 (hx.trans h2) h3
 | _=>exact hQ _ g' s' a' w' hG' hx hq
theorem Qi.cond {c:Operand}{x y:Code}{b:Bool}(hb:Dn s.sl c = .bool b)(ht:b=true->Qi l P x Q s)(hf:b=false->Qi l P y Q s):Qi l P (.cond c x y) Q s:=by
 intro n Q' g a w hG hQ;have hv:=(hb▸hG.eval c:Rep g w _ _).inv_bool;exact wpIn_cond_split hv (fun h=>ht h n Q' g a w hG hQ) (fun h=>hf h n Q' g a w hG hQ)
theorem Qi.ghost {c:Code}{s':St}(h:GS s s')(k:Qi l P c Q s'):Qi l P c Q s:=by
 intro n Q' g a w hG hQ;obtain ⟨g',hG',hx⟩:=h g a w hG;exact k n Q' g' a w hG' fun e g'' s'' a'' w'' h1 h2 h3=>hQ e g'' s'' a'' w'' h1 (hx.trans h2) h3
end

theorem Dp.ofE {P:Program}{l:Nat}{rec:Loop}{H:List HO}{args:List AV}{R:AV->List HO->Prop}{sl:List (Nat×AV)}{n0:Nat}(hst:rec.state = .ready)(hpe:rec.pending=none)
  (hsz:rec.tmps.size=n0) (hsl:∀g w vs,Cv g w vs args->∀j,Rep g w (((rec.params.zip vs).foldl (fun t (p,v)=>t.setIfInBounds p v) rec.tmps).getD j undef) (get sl j))
  (h:Qi l P rec.assign (fun e s1=>e = .normal/\∃i:Nat,s1.H[i]? = some (HO.obj l (Obj.loop rec))/\Qi l P rec.body (fun e s2=>∃j:Nat,s2.H[j]? = some (HO.obj l (Obj.loop { rec with state:=.busy }))/\
   ((e = .normal/\R (.bool true) (s2.H.set j (.obj l (.loop rec))))\/(e = .ret/\R (.bool false) (s2.H.set j (.obj l (.loop { rec with state:=.done,pending:=some .ret })))))) ⟨s1.sl,s1.H.set i (.obj l (.loop { rec with state:=.busy })),s1.n⟩) ⟨sl,H,n0⟩):Dp P l rec H args R:=by
 intro n g w vs hH hr;refine roundIn_of_wpIn trivial ?_
 have hfs:∀(L:List (Tmp×Value)) (t:Array Value),(L.foldl (fun t (p,v)=>t.setIfInBounds p v) t).size=t.size:=by
  intro L;induction L with
  | nil=>intro t;rfl
  | cons p r ih=>intro t;rw [Jf,ih];simp
 have hG:Gm g ⟨sl,H,n0⟩ { tmps:=(rec.params.zip vs).foldl (fun t (p,v)=>t.setIfInBounds p v) rec.tmps,defers:=[] } w:=
  ⟨by rw [<-O8];exact (hfs _ _).trans hsz,rfl,fun j=>hsl g w vs hr j,hH⟩
 refine h n _ g _ w hG ?_;rintro e g1 s1 a1 w1 hG1 hx1 ⟨rfl,i,hi,hb⟩;have hob:(HO.obj l (.loop rec)).ok g1 w1:=hG1.heap.ok _ (A0 hi);refine ⟨_,run_beginRound hob.2 hst,?_⟩;obtain ⟨hG2,hx2⟩:=hG1.putObj (.loop { rec with state:=.busy }) hi;refine hb n _ g1 a1 _ hG2 ?_;rintro e g3 s3 a3 w3 hG3 hx3 ⟨j,hj,hR⟩;have hob3:(HO.obj l (.loop { rec with state:=.busy })).ok g3 w3:=hG3.heap.ok _ (A0 hj);rcases hR with ⟨rfl,hR⟩ | ⟨rfl,hR⟩
 .
  obtain ⟨hG4,hx4⟩:=hG3.putObj (.loop rec) hj;refine ⟨_,_,run_endRound none hob3.2,_,g3,.bool true,_,rfl,.bool _,?_,?_,hR⟩
  .
   have:({ ({ rec with state:=.busy }:Loop) with state:=if (none:Option Code).isNone then .ready else .done,pending:=none }:Loop)=rec:=by
    cases rec;simp only at hst hpe;subst hst;subst hpe;rfl
   rw [this];exact hG4.heap
  have:({ ({ rec with state:=.busy }:Loop) with state:=if (none:Option Code).isNone then .ready else .done,pending:=none }:Loop)=rec:=by
   cases rec;simp only at hst hpe;subst hst;subst hpe;rfl
  rw [this];exact ((hx1.trans hx2).trans hx3).trans hx4
 obtain ⟨hG4,hx4⟩:=hG3.putObj (.loop { rec with state:=.done,pending:=some .ret }) hj;exact ⟨_,_,run_endRound (some .ret) hob3.2,_,g3,.bool false,_,rfl,.bool _,hG4.heap,((hx1.trans hx2).trans hx3).trans hx4,hR⟩
theorem AW.regionY2 {P:Program}{Q:Exit->St->Prop}{s:St}{id:Nat}{ops:Array Oper}{pre post:List Oper}{d:Nat}{cal:Operand}{args:Array Operand}{ats:Array TypeId}{ty:TypeId}{pos:String}{aft:Array Edge}
  (hops:ops.toList=pre++⟨some d,.call ⟨.value cal,args,ats⟩,ty,pos,aft,none⟩::post) (hnd:G6 pre=true) (hnd2:G6 post=true)
  (h:AOL P ops (fun s'=>∃l rec R,(∃i:Nat,s'.H[i]? = some (HO.obj l (Obj.loop rec)))/\Dn s'.sl cal = .val (.func (.yield l) #[] #[])/\args.size=rec.params.size/\J5 (some d) s'.n=true/\
   Dp P l rec s'.H (args.toList.map (Dn s'.sl)) R/\∀x H',R x H'->AOL P ops (Q .normal) post ⟨Dy (some d) x s'.sl,H',s'.n⟩) pre s):AW P (.region id ops false) Q s:=by
 intro Q' g a w hG hQ;refine (wpIn_wide (n:=1)).1 ?_;rw [<-jD];refine wpIn_region_list ?_;rw [hops];refine Dm pre _ a w (E2 hnd) ?_;refine h.run _ g a w hG ?_;rintro g' s' a' w' hG' hx ⟨l,rec,R,⟨i,hi⟩,hcal,hlen,hd,hr,hk⟩;show wpListIn _ 1 P ops Q' (_::post) a' w';unfold wpListIn;rw [if_pos (Eg rfl)];refine ⟨fun _ _=>trivial,?_⟩;have hobj:(HO.obj l (.loop rec)).ok g' w':=hG'.heap.ok _ (A0 hi);have hv:a'.eval cal = .func (.yield l) #[] #[]:=(hcal▸hG'.eval cal:Rep g' w' _ _).inv_val;have hargs:Cv g' w' (args.map a'.eval) (args.toList.map (Dn s'.sl)):=Kc (ρ:=Dn s'.sl) (a:=a') (g:=g') (w:=w') (args:=args) (fun y _=>hG'.eval y) rfl
 have hrun:(execOp a'.eval ⟨some d,.call ⟨.value cal,args,ats⟩,ty,pos,aft,none⟩).run P w' = .ok (.round l rec.fn ((rec.params.zip (args.map a'.eval)).foldl (fun t (p,v)=>t.setIfInBounds p v) rec.tmps) rec.assign rec.body) w':=by
  have hy:=run_yield (P:=P) (args:=args.map a'.eval) hobj.2 (by simpa using hlen);simp only [execOp,resolve,Sem.run_bind,hv,Deferred.ofValue,Sem.run_pure,Result.andThen_ok,invoke];simpa using hy
 rw [Oper.semAt_eq _ _ _ (fun c e=>by cases e),hrun];refine ⟨fun e=>(by cases e),(hr _ g' w' _ hG'.heap hargs).mono ?_⟩;rintro e w'' ⟨v,g'',r,H',rfl,k1,k2,k3,k4⟩;have hpost:=hk r H' k4;have:=Dm (ro:=none) (n:=1) (Q:=Q') post [] _ w'' (E2 hnd2) (hpost.run _ g'' _ w'' (hG'.put k3 hd k1 k2) fun g3 s3 a3 w3 h1 h2 h3=>hQ _ g3 s3 a3 w3 h1 ((hx.trans k3).trans h2) h3);simpa using this

theorem AW.regionYk {P:Program}{Q:Exit->St->Prop}{s:St}{id:Nat}{ops:Array Oper}(k:Nat){d:Nat}{cal:Operand}{args:Array Operand}{ats:Array TypeId}{ty:TypeId}{pos:String}{aft:Array Edge}
  (hops:ops.toList[k]? = some ⟨some d,.call ⟨.value cal,args,ats⟩,ty,pos,aft,none⟩) (hnd:G6 (ops.toList.take k)=true) (hnd2:G6 (ops.toList.drop (k+1))=true)
  (h:AOL P ops (fun s'=>∃l rec R,(∃i:Nat,s'.H[i]? = some (HO.obj l (Obj.loop rec)))/\Dn s'.sl cal = .val (.func (.yield l) #[] #[])/\args.size=rec.params.size/\J5 (some d) s'.n=true/\
   Dp P l rec s'.H (args.toList.map (Dn s'.sl)) R/\∀x H',R x H'->AOL P ops (Q .normal) (ops.toList.drop (k+1)) ⟨Dy (some d) x s'.sl,H',s'.n⟩) (ops.toList.take k) s):AW P (.region id ops false) Q s:=by
 refine AW.regionY2 (pre:=ops.toList.take k) (post:=ops.toList.drop (k+1)) (ats:=ats) (ty:=ty) (pos:=pos) (aft:=aft) ?_ hnd hnd2 h;obtain ⟨hlt,he⟩:=List.getElem?_eq_some_iff.1 hops;rw [<-he,List.getElem_cons_drop,Iv]

def xN (P:Program)(z:Code)(Qs:St->Prop)(s:St):Prop:=
 ∀(Q':Exit->Act->World->Prop) (g:Gh) (a:Act) (w:World) (ds:List Deferred),Gm g s a w->(∀g' s' a' w',Gm g' s' a' w'->Ext g w g' w'->Qs s'->Q' .ret (Act.Aak a' ds) w')->z.wp P Q' (Act.Aak a ds) w
theorem P9 {P:Program}{ops:Array Oper}{Q:Exit->Act->World->Prop}{ds:List Deferred}:∀(l:List Nat) (a:Act) (w:World),wpOps P ops Q l a w->wpOps P ops (bU ds Q) l (Act.Aak a ds) w
  | [],a,w,h=>⟨a,rfl,h⟩
  | i::rest,a,w,h=>by
    have h':wpOp P ops Q i (wpOps P ops Q rest) a w:=by
      unfold wpOp;unfold wpOps at h;exact h
    have:=Xv (ds:=ds) (K':=wpOps P ops (bU ds Q) rest) (fun a w h=>P9 rest a w h) h';unfold wpOp at this;unfold wpOps;exact this
theorem xN.region {P:Program}{id:Nat}{ops:Array Oper}{Qs:St->Prop}{s:St}(h:AOL P ops Qs ops.toList s):xN P ((Code.region id ops false).seq .ret) Qs s:=by
 intro Q' g a w ds hG hQ;have key:=Je (P:=P) (ops:=ops) ops.toList 0 a w (by simp) (h.run (fun e a' w'=>match e with | .normal=>Q' .ret (Act.Aak a' ds) w' | _=>False) g a w hG fun g' s' a' w' h1 h2 h3=>hQ g' s' a' w' h1 h2 h3);rw [<-List.range_eq_range'] at key;have key2:=P9 (ds:=ds) _ _ _ key;refine wp_seq (wp_mono (wp_region (by simpa using key2)) ?_);rintro e a' w' ⟨a0,rfl,hq⟩;cases e with
 | normal=>exact wp_ret hq
 | _=>exact hq.elim
theorem xN.drawn {P:Program}{id:Nat}{ops:Array Oper}{Qs:St->Prop}{s:St}(h:AWD P (.region id ops true) Qs s):xN P ((Code.region id ops true).seq .ret) Qs s:=by
 intro Q' g a w ds hG hQ;cases h with
 | draw hm K hK hdd hC=>exact lG hm K hK hdd hC hG ds hQ

theorem AWX.rangeE {P:Program}{T:List (Nat×TD)}(hT:G9 P T){fn:Func}{R:AV->List HO->Prop}{Q:Exit->St->Prop}{s:St}{go:Operand}{ps:Array Tmp}{assign body z:Code}{bid gf:Nat}{lb:List AV}(Z Y:List HO->Prop)
  (hg:Dn s.sl go = .fn (.func gf) [] lb) (hf:Pe P gf=true)
  (hit:∀(rec:Loop) (D l:Nat),rec.state = .ready->rec.pending=none->rec.params=ps->rec.assign=assign->rec.body=body->rec.tmps.size=s.n->(∀t v,get s.sl t = .val v->rec.tmps.getD t undef=v)->
   Cb P gf (.obj l (.loop rec) :: .obj D (.deferred (some []))::s.H) (.val (.func (.yield l) #[] #[])::lb)
    (fun r H'=>∃rec' H2,H' = .obj l (.loop rec') :: .obj D (.deferred (some []))::H2/\rec'.state≠.busy/\((rec'.pending=none/\Z H2)\/(rec'.pending=some .ret/\Y H2))))
  (ht:∀D H2,Z H2->xN P z (yK P T fn R D) ⟨s.sl,.obj D (.deferred (some []))::H2,s.n⟩)
  (hy:∀D H2,Y H2->∃s2,GS ⟨s.sl,.obj D (.deferred (some []))::H2,s.n⟩ s2/\yK P T fn R D s2) :
  AWX2 P (Code.block bid (.rangeFunc go ps assign body)) z Q (cA P fn R) s:=by
 intro Q' g0 a w hG hQ hX;refine wp_block ((wpIn_wide (n:=1)).1 (wpIn_rangeFunc ?_));intro f0 _;obtain ⟨vs0,us,hv,h1,h2⟩:=(hg▸hG.eval go:Rep g0 w _ _).inv_fn;have hvs0:vs0 = #[]:=Array.size_eq_zero_iff.1 (by simpa using h1.1);subst hvs0;obtain ⟨rec,hrec⟩:∃rec:Loop,rec=⟨.ready,none,f0,a.tmps,ps,assign,body,w.heap.size⟩:=⟨_,rfl⟩;obtain ⟨W1,hW1⟩:∃W1,(w.alloc (.deferred (some []))).alloc (.loop rec)=W1:=⟨_,rfl⟩;have hs1:(w.alloc (.deferred (some []))).heap.size=w.heap.size+1:=World.size_alloc ..;have hx1:=Ext.alloc g0 w (.deferred (some [])) (some 0)
 have hH1:HOK (g0.put w.heap.size (some 0)) (w.alloc (.deferred (some []))) (.obj w.heap.size (.deferred (some []))::s.H):=
  (hG.heap.alloc (.deferred (some [])) (some 0)).cons ⟨Gh.Aai ..,Ci ..⟩ fun b hb x hx e=>by
   cases hb
   exact absurd (HO.ok_lt (hG.heap.ok x hx) e).1 (Nat.lt_irrefl _)
 have hx2:=Ext.alloc (g0.put w.heap.size (some 0)) (w.alloc (.deferred (some []))) (.loop rec) (some 0)
 have hH2:=(hH1.alloc (.loop rec) (some 0)).cons (o:=.obj (w.alloc (.deferred (some []))).heap.size (.loop rec)) ⟨Gh.Aai ..,Ci ..⟩ fun b hb x hx e=>by
   cases hb
   exact absurd (HO.ok_lt (hH1.ok x hx) e).1 (Nat.lt_irrefl _)
 rw [hs1] at hH2 hx2;rw [hW1] at hH2 hx2;refine ⟨w.heap.size+1,[Ei w.heap.size],W1,{ target:=.fn (.func gf) us,args:=#[.func (.yield (w.heap.size+1)) #[] #[]] },W1,gf,#[.func (.yield (w.heap.size+1)) #[] #[]]++us,W1,?_,?_,fun _ _=>trivial,?_,fun e=>(by cases e),?_⟩
 . rw [<-hW1,hrec];exact run_enterLoop_outer _ _ _ _ _
 .
  simp only [resolve,hv];simp [go_sem]
 . simp [invoke,go_sem,Km hf]
 have hx12:=hx1.trans hx2;refine callsIn_wide.2 ((hit rec w.heap.size (w.heap.size+1) (by rw [hrec]) (by rw [hrec]) (by rw [hrec]) (by rw [hrec]) (by rw [hrec]) (by rw [hrec];exact hG.size) (by rw [hrec];exact fun t v hv=>(hv▸hG.sl t:Rep g0 w _ _).inv_val) _ W1 _ hH2 ?_).mono ?_)
 .
  have h2':=h2.mono hx12
  exact Cv.append (xs:=[.val (.func (.yield (w.heap.size+1)) #[] #[])]) ⟨rfl,fun i x hi=>by
   cases i with
   | zero=>simp at hi;subst hi;exact .val _
   | succ i=>simp at hi⟩ h2'
 rintro e w3 ⟨v,g3,r,H',rfl,hr3,hH3,hx3,rec',H2,rfl,hnb,hz⟩;have hob:(HO.obj (w.heap.size+1) (.loop rec')).ok g3 w3:=hH3.ok _ (Fs ..);obtain ⟨hH4,hx4⟩:=Oa hH3 (i:=0) (.loop { rec' with state:=.exhausted }) rfl;refine ⟨rec'.pending,_,run_endLoop hob.2 hnb,?_⟩;obtain ⟨st',pe',f',t',p',as',bo',de'⟩:=rec'
 have ha:({ a with defers:=[Ei w.heap.size]++a.defers }:Act)=Act.Aak a [Ei w.heap.size]:=by
  unfold Act.Aak;rw [hG.defers];rfl
 rw [ha];have hxa:=(hx12.trans hx3).trans hx4
 have fin:∀g5 s5 a5 w5,Gm g5 s5 a5 w5->Ext g0 w g5 w5->yK P T fn R w.heap.size s5->Q' .ret (Act.Aak a5 [Ei w.heap.size]) w5:=fun g5 s5 a5 w5 hG5 hx5 hq=>by
  obtain ⟨i,hi,xs,hr,H3,hsub,hR⟩:=hq;obtain ⟨hG6,hx6⟩:=hG5.putObj (.deferred none) hi;have hob5:(HO.obj w.heap.size (.deferred (some []))).ok g5 w5:=hG5.heap.ok _ (A0 hi);obtain ⟨v6,k1,k2⟩:=Ln hT hr hG6;refine hX _ _ _ ⟨rfl,w.heap.size,by show a5.defers++_=_;rw [hG5.defers];rfl,hob5.2,v6,g5,_,H3,k1,k2,hG6.heap.sub hsub,hx5.trans hx6,hR⟩
 have hG4:Gm g3 ⟨s.sl,.obj w.heap.size (.deferred (some []))::H2,s.n⟩ a (w3.putObj (w.heap.size+1) (.loop ⟨.exhausted,pe',f',t',p',as',bo',de'⟩)):=⟨hG.size,hG.defers,fun i=>(hG.sl i).mono hxa,hH4.sub (List.sublist_cons_self ..)⟩;rcases hz with ⟨hp,hz⟩ | ⟨hp,hz⟩
 .
  obtain rfl:pe'=none:=hp;exact ht w.heap.size H2 hz Q' g3 a _ [Ei w.heap.size] hG4 fun g5 s5 a5 w5 hG5 hx5 hq=>fin g5 s5 a5 w5 hG5 (hxa.trans hx5) hq
 obtain rfl:pe'=some .ret:=hp;obtain ⟨s2,hgs,he⟩:=hy w.heap.size H2 hz;obtain ⟨g4,hG5,hx7⟩:=hgs _ _ _ hG4;exact wpIn_ret (fin g4 s2 a _ hG5 (hxa.trans hx7) he)
end Go.Aw

namespace Go.Proofs.YtkdhionilabokaaGreatDoor
open Go Go.Aw

def AllK (tmps:Array Value):List (Nat×Value)->Prop
 | []=>True
 | p::r=>tmps.getD p.1 undef=p.2/\AllK tmps r
theorem Aab {tmps:Array Value}{n0 k:Nat}{x:AV}{kn:List (Nat×Value)}(hsz:tmps.size=n0)(hk:Nat.blt k n0=true)(hkn:AllK tmps kn):∀g w vs,Cv g w vs [x]->∀j,
    Rep g w ((((#[k]:Array Tmp).zip vs).foldl (fun t (p,v)=>t.setIfInBounds p v) tmps).getD j undef) (get ((k,x)::kn.map fun p=>(p.1,.val p.2)) j):=by
  intro g w vs hr j;have h0:=hr.2 0 _ rfl;have hs:vs.size=1:=hr.1
  obtain ⟨u, rfl⟩ : ∃ u, vs = #[u] := ⟨vs[0], by apply Array.ext; simp [hs]; intro i h1 h2; have : i = 0 := by omega
                                                 subst this;rfl⟩
  have hlt:k<tmps.size:=by have:=J0 hk;omega
  rw [<-O8,Array.toList_zip];show Rep g w ((tmps.setIfInBounds k u).getD j undef) _;rw [Fo];by_cases e:k=j
  . subst e
    rw [if_pos rfl];simp only [Ce,Array.getElem?_setIfInBounds];simp [hlt];simpa using h0
  . rw [if_neg e]
    have:(tmps.setIfInBounds k u).getD j undef=tmps.getD j undef:=by
      simp only [Ce,Array.getElem?_setIfInBounds];simp [e]
    rw [this];clear this
    induction kn with
    | nil=>exact .junk _
    | cons p r ih=>
      rw [Ba,Fo];by_cases e2:p.1=j
      . rw [if_pos e2,<-hkn.1,e2];exact .val _
      rw [if_neg e2];exact ih hkn.2
theorem Dp.ofE2 {P:Program}{l:Nat}{rec:Loop}{H:List HO}{args:List AV}{R:AV->List HO->Prop}{A B:Code}(sl:List (Nat×AV)){n0:Nat}(hst:rec.state = .ready)(hpe:rec.pending=none)
  (hsz:rec.tmps.size=n0) (hsl:∀g w vs,Cv g w vs args->∀j,Rep g w (((rec.params.zip vs).foldl (fun t (p,v)=>t.setIfInBounds p v) rec.tmps).getD j undef) (get sl j)) (has:rec.assign=A) (hbo:rec.body=B)
  (h:Qi l P A (fun e s1=>e = .normal/\∃i:Nat,s1.H[i]? = some (HO.obj l (Obj.loop rec))/\Qi l P B (fun e s2=>∃j:Nat,s2.H[j]? = some (HO.obj l (Obj.loop { rec with state:=.busy }))/\
   ((e = .normal/\R (.bool true) (s2.H.set j (.obj l (.loop rec))))\/(e = .ret/\R (.bool false) (s2.H.set j (.obj l (.loop { rec with state:=.done,pending:=some .ret })))))) ⟨s1.sl,s1.H.set i (.obj l (.loop { rec with state:=.busy })),s1.n⟩) ⟨sl,H,n0⟩):Dp P l rec H args R:=by
 subst has hbo;exact Dp.ofE hst hpe hsz hsl h

theorem L8 (f:Pt->Int):∀l:List Pt,Nx (fun e:Int=>e==0) (fun _ q=>f q) 0 l=Ax f l
  | []=>rfl
  | a::r=>by
    rw [Nx,if_pos (show ((0:Int)==0)=true from rfl),Ax];by_cases h:f a=0
    . rw [h,L8 f r];rfl
    rw [Rl _ _ (by simpa using h),if_pos (by simpa using h)]
theorem W9 (b:Pt->Bool):∀l:List Pt,Ax (fun q=>if b q then 1 else 0) l=if l.any b then 1 else 0
  | []=>rfl
  | a::r=>by
    rw [Ax,W9 b r,Nd];cases b a <;> simp
theorem eV:∀p q:Pt,q∈Cw p->Fm q<=Fm p:=by
  intro p
  induction p using Pt.ind with
  | h p ih=>
    intro q hq;rw [In,Cz] at hq;rcases hq with rfl | hq
    . exact Bi _
    . obtain ⟨a,ha,hq⟩:=K8.1 hq
      have:=ih a ha q hq;have:=Kh ha;omega
structure medP (p:Pt):Prop where
 n:Fm p<=1048576
 cond:∀q∈Cw p,B3 q.cond<=1048576
theorem medP.len {p:Pt}(h:medP p):∀q∈Cw p,B3 q.cond<=1048576/\q.args.length<=1048576:=fun q hq=>⟨h.cond q hq,by have:=eV p q hq;have:=Jx q;have:=h.n;omega⟩
theorem xA {p:Pt}(h:decide ((64:Int)<(Fm p:Int))=true):Gl p=5:=if_pos h
theorem xB {p:Pt}(h:decide ((64:Int)<(Fm p:Int))=false)(h2:decide ((12:Int)<(Pn p:Int))=true):Gl p=12:=(Ep h).trans (if_pos h2)
theorem qD {p:Pt}(h:decide ((64:Int)<(Fm p:Int))=false)(h2:decide ((12:Int)<(Pn p:Int))=false):Gl p=Ax Nt (Cw p):=(Ep h).trans (Ep h2)
theorem qC {p:Pt}(h:(Gl p != 0)=false):Fm p<=64/\Pn p<=12/\Ax Nt (Cw p)=0:=by
 have h0:Gl p=0:=by simpa using h
 have a:¬(64:Int)<(Fm p:Int):=fun h=>by rw [xA (G7 h)] at h0;exact absurd h0 (by decide)
 have b:¬(12:Int)<(Pn p:Int):=fun h=>by rw [xB (decide_eq_false a) (G7 h)] at h0;exact absurd h0 (by decide)
 refine ⟨by omega,by omega,?_⟩;rw [<-qD (decide_eq_false a) (decide_eq_false b)];exact h0
theorem Ya {α:Type}{f:α->Int}:∀{l:List α},Ax f l=0->∀q∈l,f q=0
  | [],_,q,hq=>(List.not_mem_nil hq).elim
  | a::r,h,q,hq=>by
    rw [Ax] at h;by_cases ha:f a=0
    . rw [ha,if_neg (by decide)] at h
      rcases Cz.1 hq with rfl | hq
      . exact ha
      exact Ya h q hq
    rw [if_pos (by simpa using ha)] at h;exact absurd h ha
def Py (q:Pt):Prop:=0<=q.op/\q.op<11
theorem ck_op {q:Pt}(h:Nt q=0):Py q:=by
 have:(decide (q.op<0)||decide (11<=q.op))=false:=by
  cases hc:(decide (q.op<0)||decide (11<=q.op)) with
  | false=>rfl
  | true=>rw [ck_1 hc] at h;exact absurd h (by decide)
 rw [Fv] at this;have h1:=C7 this.1;have h2:=C7 this.2;exact ⟨by omega,by omega⟩
theorem Zm {p:Pt}(h:(Gl p != 0)=false):∀q∈Cw p,Py q:=fun q hq=>ck_op (Ya (qC h).2.2 q hq)
def dX (q:Pt):Int:=if decide (8<=q.op) then 1 else 0
theorem rM {p:Pt}(h:(Gl p != 0)=true):Hw p=Gl p:=if_pos h
theorem xH {p:Pt}(h:(Gl p != 0)=false):Hw p=Ax dX (Cw p):=by
 rw [show Ax dX (Cw p)=_ from W9 _ _];exact Ep h
theorem xG {p:Pt}(h:(Hw p != 0)=false):(Gl p != 0)=false:=by
 cases hr:Gl p != 0 with
 | false=>rfl
 | true=>rw [rM hr,hr] at h;exact absurd h (by decide)
theorem vZ {p:Pt}(h:(Hw p != 0)=true):Gk p=Hw p:=if_pos h
theorem chk_2 {p:Pt}(h:(Hw p != 0)=false)(h2:(!(Hf p).ok)=true):Gk p=14:=(Ep h).trans (if_pos h2)
theorem chk_3 {p:Pt}(h:(Hw p != 0)=false)(h2:(!(Hf p).ok)=false):Gk p=0:=(Ep h).trans (Ep h2)
theorem chk_0 {p:Pt}(h:(Gk p != 0)=false):(Hw p != 0)=false:=by
 cases hr:Hw p != 0 with
 | false=>rfl
 | true=>rw [vZ hr,hr] at h;exact absurd h (by decide)

def Wy (c:Cnt)(n:Nat):Prop:=0<=c.vars/\0<=c.scopes/\c.vars+n<=3000000/\c.scopes+n<=3000000
theorem mE (c:Cnt)(n m:Nat)(h:Wy c n)(hm:m<=n):Wy c m:=⟨h.1,h.2.1,by have:=h.2.2.1;omega,by have:=h.2.2.2;omega⟩
theorem mF (c:Cnt)(q:Pt)(n:Nat)(h:Wy c (n+1)):Wy (Ff c q) n:=by
 obtain ⟨h1,h2,h3,h4⟩:=h;unfold Ff Wy;refine ⟨?_,?_,?_,?_⟩ <;> simp only <;> split <;> omega
theorem hU:∀(l:List Pt) (c:Cnt),Nx (fun _=>true) Ff c l=l.foldl Ff c
 | [],c=>rfl
 | a::r,c=>by rw [Nx,if_pos rfl,hU r,Jf]
section
variable {c:Cnt} {q:Pt}
theorem stp_yy (h1:(D6 q.op).typed=true)(h2:(D6 q.op).scope=true):(⟨c.vars+1,c.scopes+1,(c.ok&&(q.var==c.vars))&&(q.scope==c.scopes)⟩:Cnt)=Ff c q:=by unfold Ff;rw [h1,h2];simp
theorem stp_yn (h1:(D6 q.op).typed=true)(h2:(D6 q.op).scope=false):(⟨c.vars+1,c.scopes,c.ok&&(q.var==c.vars)⟩:Cnt)=Ff c q:=by unfold Ff;rw [h1,h2];simp
theorem stp_ny (h1:(D6 q.op).typed=false)(h2:(D6 q.op).scope=true):(⟨c.vars,c.scopes+1,c.ok&&(q.scope==c.scopes)⟩:Cnt)=Ff c q:=by unfold Ff;rw [h1,h2];simp
theorem stp_nn (h1:(D6 q.op).typed=false)(h2:(D6 q.op).scope=false):(⟨c.vars,c.scopes,c.ok⟩:Cnt)=Ff c q:=by unfold Ff;rw [h1,h2];simp
end

mutual
def Le (L:Nat):Pt->Nat
 | ⟨_,xs,_,_,_,_,_⟩=>Kf L xs 1
def Kf (L:Nat):List Pt->Nat->Nat
 | [],n=>n
 | a::r,n=>if n<=L then Kf L r (n+Le L a) else n
end
theorem iZ (L:Nat)(p:Pt):Le L p=Kf L p.args 1:=by cases p;rw [Le]
theorem dH (L:Nat):∀(l:List Pt) (m:Nat),m<=Kf L l m
  | [],m=>by rw [Kf];exact Bi _
  | a::r,m=>by
    rw [Kf];split
    . exact Fp (Nat.le_add_right _ _) (dH L r _)
    exact Bi _
theorem fS {L:Nat}{l:List Pt}{n:Nat}(h:L<n):Kf L l n=n:=by
 cases l with
 | nil=>rw [Kf]
 | cons a r=>rw [Kf,if_neg (by omega)]
theorem dI (L:Nat)(p:Pt):Le L p=Fm p\/(L<Le L p/\Le L p<=Fm p):=by
  induction p using Pt.ind with
  | h p ih=>
    rw [iZ,H0]
    have:∀(l:List Pt) (n:Nat),(∀a∈l,Le L a=Fm a\/(L<Le L a/\Le L a<=Fm a))->Kf L l n=n+(l.map Fm).sum\/(L<Kf L l n/\Kf L l n<=n+(l.map Fm).sum):=by
      intro l
      induction l with
      | nil=>intro n _;simp [Kf]
      | cons x r ihr=>
        intro n h;simp only [Kf,Ba,Dq];have h1:=h x (by simp);have h2:=ihr (n+Le L x) fun a ha=>h a (by simp [ha])
        split
        . have hm:=dH L r (n+Le L x)
          omega
        omega
    have:=this p.args 1 ih;omega
theorem tot_gt (L:Nat)(p:Pt):L<Le L p↔L<Fm p:=by
 rcases dI L p with h | h
 . rw [h]
 omega
theorem cK {l:List Pt}{k:Nat}{a:Pt}(n:Nat)(h:l[k]? = some a):n+((l.drop k).map Fm).sum=(n+Fm a)+((l.drop (k+1)).map Fm).sum:=by
 rw [Bf h,Ba,Dq];omega

def Px (p:Pt):Bool:=(p.op==5)||(p.op==9)
def Oe (p:Pt):Bool:=(p.op==6)||(p.op==10)
def Og (p:Pt):Bool:=(p.op==0)||Px p
def eG (p:Pt):Bool:=Og p||(p.op==7)
def Nl (p:Pt):Bool:=
 if (p.op==0) then ((p.args.length:Int)==0)
 else if ((p.op==1)||(p.op==2))||(p.op==3) then decide (2<=(p.args.length:Int))
 else if (p.op==8) then ((p.args.length:Int)==2) else ((p.args.length:Int)==1)
def eD (u:Bool)(n m:Int):Bool:=u&&(decide (n<0)||decide (m<n))
def nbB (p:Pt):Bool:=((eD (Og p) p.type 15||eD (Og p) p.var 15)||eD (Px p||Oe p) p.scope 63)||eD (Oe p) p.span 1099511627776
def nuB (p:Pt):Bool:=(((!Og p&&((p.type != 0)||(p.var != 0)))||(!(Px p||Oe p)&&(p.scope != 0)))||(!Oe p&&(p.span != 0)))||(!eG p && !Kn p.cond kB)
def oP (p:Pt):Int:=
 if decide (p.op<0)||decide (10<p.op) then 1
 else if !Nl p then 15
 else if nbB p then 2
 else if eG p&&(B8 p.cond != 0) then B8 p.cond
 else if nuB p then 3 else 0
section
variable {p:Pt}
theorem nd_1 (h:(decide (p.op<0)||decide (10<p.op))=true):oP p=1:=if_pos h
theorem nd_2 (h:(decide (p.op<0)||decide (10<p.op))=false)(h2:(!Nl p)=true):oP p=15:=(Ep h).trans (if_pos h2)
theorem nd_3 (h:(decide (p.op<0)||decide (10<p.op))=false)(h2:(!Nl p)=false)(h3:nbB p=true):oP p=2:=(Ep h).trans ((Ep h2).trans (if_pos h3))
theorem nd_4 (h:(decide (p.op<0)||decide (10<p.op))=false)(h2:(!Nl p)=false)(h3:nbB p=false)(h4:eG p=true)(h5:(B8 p.cond != 0)=true):oP p=B8 p.cond:=by
 refine (Ep h).trans ((Ep h2).trans ((Ep h3).trans (if_pos ?_)));rw [h4,h5];rfl
theorem uG (h:(decide (p.op<0)||decide (10<p.op))=false)(h2:(!Nl p)=false)(h3:nbB p=false)(h4:(eG p&&(B8 p.cond != 0))=false):oP p=if nuB p then 3 else 0:=(Ep h).trans ((Ep h2).trans ((Ep h3).trans (Ep h4)))
end
theorem T5 (u:Bool)(n m:Int):eD u n m = !vR u n m:=by
 unfold eD vR;cases u with
 | false=>rfl
 | true=>rw [Bool.eq_iff_iff];simp <;> omega
theorem Ul (u:Bool)(n:Int):(!unu u n)=(!u&&(n != 0)):=by
 unfold unu;cases u <;> rfl
theorem uK:∀a b c d s x y z w:Bool,((((!a&&(x||y))||(!b&&z))||(!c&&w))||(!d && !s))=(((((!d && !s)||(!a&&x))||(!a&&y))||(!b&&z))||(!c&&w)):=by decide
theorem bZ {p:Pt}(h:(decide (p.op<0)||decide (11<=p.op))=false):Og p=(D6 p.op).typed/\(Px p||Oe p)=(D6 p.op).scope/\Oe p=(D6 p.op).span/\eG p=(D6 p.op).cond:=by
 have hr:p.op=0\/p.op=1\/p.op=2\/p.op=3\/p.op=4\/p.op=5\/p.op=6\/p.op=7\/p.op=8\/p.op=9\/p.op=10:=by simp at h;omega
 unfold eG Og Px Oe;rcases hr with h | h | h | h | h | h | h | h | h | h | h <;> rw [h] <;> exact ⟨rfl,rfl,rfl,rfl⟩
theorem nd_ck {p:Pt}(hl:p.args.length<=64):oP p=Nt p:=by
 unfold oP Nt;by_cases h:(decide (p.op<0)||decide (11<=p.op))=true
 . rw [if_pos h,if_pos (by simp at h ⊢;omega)]
 rw [if_neg h,if_neg (by simp at h ⊢;omega)];have hf:(decide (p.op<0)||decide (11<=p.op))=false:=by simpa using h
 have hr:p.op=0\/p.op=1\/p.op=2\/p.op=3\/p.op=4\/p.op=5\/p.op=6\/p.op=7\/p.op=8\/p.op=9\/p.op=10:=by simp at h;omega
 obtain ⟨f1,f2,f3,f4⟩:=bZ hf;unfold ckR
 have e1:(!Nl p)=(decide ((p.args.length:Int)<(D6 p.op).least)||decide ((D6 p.op).most<(p.args.length:Int))):=by
  unfold Nl;rcases hr with h | h | h | h | h | h | h | h | h | h | h <;> rw [h] <;> simp [D6,vF] <;> (try (rw [Bool.eq_iff_iff];simp)) <;> (try omega)
 have e2:nbB p=wA p (D6 p.op):=by unfold nbB wA;rw [f1,f2,f3,T5,T5,T5,T5]
 have e3:nuB p=ckU p (D6 p.op):=by
  unfold nuB ckU;rw [f1,f2,f3,f4,Ul,Ul,Ul,Ul];exact uK _ _ _ _ _ _ _ _ _
 rw [e1,e2,e3,f4]
def T1 (p:Pt):Int:=if decide ((64:Int)<(Le 64 p:Int)) then 5 else if decide ((12:Int)<(Pn p:Int)) then 12 else Ax oP (Cw p)
theorem aS {α:Type}{f g:α->Int}:∀{l:List α},(∀q∈l,f q=g q)->Ax f l=Ax g l
 | [],_=>rfl
 | a::r,h=>by rw [Ax,Ax,h a (by simp),aS fun q hq=>h q (by simp [hq])]
theorem rst_eq (p:Pt):T1 p=Gl p:=by
 unfold T1 Gl;have e:decide ((64:Int)<(Le 64 p:Int))=decide ((64:Int)<(Fm p:Int)):=by rw [L1];have:=tot_gt 64 p;omega
 rw [e];by_cases h:decide ((64:Int)<(Fm p:Int))=true
 . rw [if_pos h,if_pos h]
 rw [if_neg h,if_neg h,aS fun q hq=>nd_ck (by have:=eV p q hq;have:=Jx q;simp at h;omega)]
theorem rr_1 {p:Pt}(h:decide ((64:Int)<(Le 64 p:Int))=true):T1 p=5:=if_pos h
theorem rr_2 {p:Pt}(h:decide ((64:Int)<(Le 64 p:Int))=false)(h2:decide ((12:Int)<(Pn p:Int))=true):T1 p=12:=(Ep h).trans (if_pos h2)
theorem rr_3 {p:Pt}(h:decide ((64:Int)<(Le 64 p:Int))=false)(h2:decide ((12:Int)<(Pn p:Int))=false):T1 p=Ax oP (Cw p):=(Ep h).trans (Ep h2)
theorem Xa {α:Type}{f:α->Int}:∀{l:List α} {k:Nat} {a:α},l[k]? = some a->(l.take k).any (fun x=>f x != 0)=false->(f a != 0)=true->Ax f l=f a
  | [],k,a,h,_,_=>by simp at h
  | b::r,0,a,h,_,hp=>by simp at h;subst h;rw [Ax,if_pos hp]
  | b::r,k+1,a,h,hn,hp=>by
    rw [List.take_succ_cons,Nd,Fv] at hn;rw [Ax,if_neg (by rw [hn.1];decide)];exact Xa (by simpa using h) hn.2 hp
theorem Vk {α:Type}{f:α->Int}:∀{l:List α},l.any (fun x=>f x != 0)=false->Ax f l=0
  | [],_=>rfl
  | b::r,h=>by
    rw [Nd,Fv] at h;rw [Ax,if_neg (by rw [h.1];decide)];exact Vk h.2

def Ud:Int->Int->List Pt->Int
  | _,_,[]=>0
  | v,s,q::r=>
    if Og q&&(q.var != v) then 14
    else if (Px q||Oe q)&&(q.scope != s) then 14
    else Ud (if Og q then v+1 else v) (if Px q||Oe q then s+1 else s) r
def cF (l:List Pt):Bool:=!l.any (fun q=>decide (8<=q.op))
def jO (p:Pt):Int:=if (T1 p != 0) then T1 p else if !cF (Cw p) then 1 else Ud 0 0 (Cw p)
theorem cr_1 {p:Pt}(h:(T1 p != 0)=true):jO p=T1 p:=if_pos h
theorem cr_2 {p:Pt}(h:(T1 p != 0)=false)(h2:(!cF (Cw p))=true):jO p=1:=(Ep h).trans (if_pos h2)
theorem sS {p:Pt}(h:(T1 p != 0)=false)(h2:(!cF (Cw p))=false):jO p=Ud 0 0 (Cw p):=(Ep h).trans (Ep h2)
theorem Va:∀(l:List Pt) (c:Cnt),c.ok=false->(l.foldl Ff c).ok=false
 | [],c,h=>h
 | q::r,c,h=>by rw [Jf];exact Va r _ (by unfold Ff;simp [h])
theorem hO:∀(l:List Pt) (c:Cnt),(∀q∈l,Py q)->c.ok=true->Ud c.vars c.scopes l=if !(l.foldl Ff c).ok then 14 else 0
  | [],c,_,h=>by rw [Ud,List.foldl_nil,h];rfl
  | q::r,c,hl,h=>by
    have hq:=hl q (by simp);obtain ⟨f1,f2,f3,f4⟩:=bZ (p:=q) (by have:=hq.1;have:=hq.2;simp;omega);have ih:=hO r (Ff c q) fun x hx=>hl x (by simp [hx])
    rw [Ud,Jf,f1,f2];by_cases h1:((D6 q.op).typed&&(q.var != c.vars))=true
    . rw [if_pos h1,Va r _ (by unfold Ff;simp at h1 ⊢;simp [h1])];rfl
    . rw [if_neg h1]
      by_cases h2:((D6 q.op).scope&&(q.scope != c.scopes))=true
      . rw [if_pos h2,Va r _ (by unfold Ff;simp at h2 ⊢;simp [h2])];rfl
      . rw [if_neg h2]
        exact ih (by unfold Ff;simp at h1 h2 ⊢;exact ⟨⟨h,by cases hs:(D6 q.op).typed with | false=>exact .inl rfl | true=>exact .inr (h1 hs)⟩,by cases hs:(D6 q.op).scope with | false=>exact .inl rfl | true=>exact .inr (h2 hs)⟩)
theorem yA (p:Pt):jO p=Gk p:=by
  unfold jO Gk;rw [rst_eq];cases h:Gl p != 0 with
  | true=>rw [if_pos rfl,rM h,h,if_pos rfl]
  | false=>
    rw [Ep rfl];have hw:Hw p=if (Cw p).any (fun q=>decide (8<=q.op)) then 1 else 0:=Ep h
    unfold cF;rw [hw];cases (Cw p).any (fun q=>decide (8<=q.op)) with
    | true=>rfl
    | false=>exact hO (Cw p) ⟨0,0,true⟩ (Zm h) rfl
section
variable {v s:Int} {l:List Pt} {k:Nat} {a:Pt}
theorem goC_1 (ha:l[k]? = some a)(h:Og a=true)(h2:(a.var != v)=true):Ud v s (l.drop k)=14:=by rw [Bf ha,Ud,if_pos (by rw [h,h2];rfl)]
theorem wQ (ha:l[k]? = some a)(h:(Og a&&(a.var != v))=false)(h3:(Px a||Oe a)=true)(h4:(a.scope != s)=true):Ud v s (l.drop k)=14:=by rw [Bf ha,Ud,Ep h,if_pos (by rw [h3,h4];rfl)]
theorem hM (ha:l[k]? = some a)(h:(Og a&&(a.var != v))=false)(h3:((Px a||Oe a)&&(a.scope != s))=false):Ud v s (l.drop k)=Ud (if Og a then v+1 else v) (if Px a||Oe a then s+1 else s) (l.drop (k+1)):=by rw [Bf ha,Ud,Ep h,Ep h3]
theorem yW (ha:l[k]? = some a)(h:Og a=true)(h2:(a.var != v)=false)(h3:(Px a||Oe a)=true)(h4:(a.scope != s)=false):Ud v s (l.drop k)=Ud (v+1) (s+1) (l.drop (k+1)):=by rw [hM ha (by rw [h2,A9]) (by rw [h4,A9]),if_pos h,if_pos h3]
theorem yV (ha:l[k]? = some a)(h:Og a=true)(h2:(a.var != v)=false)(h3:(Px a||Oe a)=false):Ud v s (l.drop k)=Ud (v+1) s (l.drop (k+1)):=by rw [hM ha (by rw [h2,A9]) (by rw [h3];rfl),if_pos h,Ep h3]
theorem yU (ha:l[k]? = some a)(h:Og a=false)(h3:(Px a||Oe a)=true)(h4:(a.scope != s)=false):Ud v s (l.drop k)=Ud v (s+1) (l.drop (k+1)):=by rw [hM ha (by rw [h];rfl) (by rw [h4,A9]),Ep h,if_pos h3]
theorem yT (ha:l[k]? = some a)(h:Og a=false)(h3:(Px a||Oe a)=false):Ud v s (l.drop k)=Ud v s (l.drop (k+1)):=by rw [hM ha (by rw [h];rfl) (by rw [h3];rfl),Ep h,Ep h3]
end

def tD (e:Ex):Bool:=decide (B3 e<=200/\Du e<=100)
def Tx (p:Pt):Bool:=if decide ((150:Int)<(Le 150 p:Int))||decide ((60:Int)<(Pn p:Int)) then false else (Cw p).all fun q=>tD q.cond
theorem Pj {p q:Pt}{k:Nat}(h:(Cw p)[k]? = some q):((Cw p).map Ew)[k]? = some (cPt q):=by rw [List.getElem?_map,h];exact congrArg some (Kp q)

structure Dv where
 ref:Rz
 choice:Int
 kids:List Dv
mutual
def C6:Dv->List AV
 | ⟨r,c,ks⟩=>[.int .i64 r.t,.int .i64 r.s,.int .i64 r.q,.int .i64 c,.sl 5 (aJ ks)]
def aJ:List Dv->List (List AV)
 | []=>[]
 | a::r=>C6 a::aJ r
end
@[reducible] def cD (d : Dv) : List AV := [.int .i64 d.ref.t, .int .i64 d.ref.s, .int .i64 d.ref.q, .int .i64 d.choice, .sl 5 (d.kids.map C6)]
theorem W2:∀l:List Dv,aJ l=l.map C6
 | []=>by rw [aJ,Gv]
 | a::r=>by rw [aJ,W2 r,Ba]
theorem Ih (d:Dv):C6 d=cD d:=by cases d;rw [C6,W2]
theorem Ko {l:List Dv}{k:Nat}{a:Dv}(h:l[k]? = some a):(l.map C6)[k]? = some (cD a):=by rw [List.getElem?_map,h];exact congrArg some (Ih a)
theorem L4 (d:Dv):(C6 d).length=5:=by rw [Ih];rfl
theorem scD (l:List Dv):∀c∈l.map C6,Bm c=true:=fun c hc=>by
 obtain ⟨x,_,rfl⟩:=B7.1 hc;rw [Ih];rfl
theorem Dv.ind {Q:Dv->Prop}(h:∀d,(∀a∈d.kids,Q a)->Q d)(d:Dv):Q d:=
 Dv.rec (motive_1:=Q) (motive_2:=fun l=>∀a∈l,Q a) (fun r c ks ih=>h ⟨r,c,ks⟩ ih) (by simp) (fun a l ha hl=>by simp only [Cz,forall_eq_or_imp];exact ⟨ha,hl⟩) d
mutual
def M4:Dv->Nat
 | ⟨_,_,ks⟩=>qW ks+1
def qW:List Dv->Nat
 | []=>0
 | a::r=>M4 a+qW r
end
theorem dC:∀l:List Dv,qW l=(l.map M4).sum
 | []=>by rw [qW];rfl
 | a::r=>by rw [qW,dC r,Ba,Dq]
theorem Od (d:Dv):M4 d=(d.kids.map M4).sum+1:=by cases d;rw [M4,dC]
theorem qV (l:List Dv)(k:Nat):((l.take k).map M4).sum<=(l.map M4).sum:=by
 conv=>rhs;rw [<-Iv k l,Cy,List.sum_append]
 omega
theorem dB {d a:Dv}{k:Nat}(h:d.kids[k]? = some a):((d.kids.take k).map M4).sum+M4 a+1<=M4 d:=by
 rw [Od d];have h2:=qV d.kids (k+1);rw [Cr h,Cy,List.sum_append,Ok,List.sum_singleton] at h2;omega

mutual
def Kg:Dv->Dv->Int
 | ⟨r,c,ks⟩,b=>if (Ic r b.ref != 0) then Ic r b.ref else if decide (c<b.choice) then -1 else if decide (b.choice<c) then 1 else Uy ks b.kids
def Uy:List Dv->List Dv->Int
 | [],[]=>0
 | [],_::_=>-1
 | _::_,[]=>1
 | x::r,y::s=>if (Kg x y != 0) then Kg x y else Uy r s
end
def Em {α:Type}(f:α->α->Int):List α->List α->Int
 | [],[]=>0
 | [],_::_=>-1
 | _::_,[]=>1
 | x::r,y::s=>if (f x y != 0) then f x y else Em f r s
theorem aC:∀l m:List Dv,Uy l m=Em Kg l m
 | [],[]=>by rw [Uy,Em]
 | [],_::_=>by rw [Uy,Em]
 | _::_,[]=>by rw [Uy,Em]
 | x::r,y::s=>by rw [Uy,Em,aC r s]
theorem Ms (a b:Dv):Kg a b=if (Ic a.ref b.ref != 0) then Ic a.ref b.ref else if decide (a.choice<b.choice) then -1 else if decide (b.choice<a.choice) then 1 else Em Kg a.kids b.kids:=by
 cases a;rw [Kg,aC]
theorem Q0 {α:Type}{f:α->α->Int}{l m:List α}{k:Nat}(hl:l.length<=k)(hk:k<=m.length):Em f (l.drop k) (m.drop k)=if decide (k<m.length) then -1 else 0:=by
 rw [List.drop_eq_nil_of_le hl];by_cases h:k<m.length
 . rw [R4 h,if_pos (G7 h),Em]
 rw [List.drop_eq_nil_of_le (by omega),if_neg (by simpa using h),Em]
theorem aE {α:Type}{f:α->α->Int}{l m:List α}{k:Nat}{x:α}(hx:l[k]? = some x)(hm:m.length<=k):Em f (l.drop k) (m.drop k)=1:=by
 rw [Bf hx,List.drop_eq_nil_of_le hm,Em]
theorem aD {α:Type}{f:α->α->Int}{l m:List α}{k:Nat}{x y:α}(hx:l[k]? = some x)(hy:m[k]? = some y)(h:(f x y != 0)=true):Em f (l.drop k) (m.drop k)=f x y:=by
 rw [Bf hx,Bf hy,Em,if_pos h]
theorem gH {α:Type}{f:α->α->Int}{l m:List α}{k:Nat}{x y:α}(hx:l[k]? = some x)(hy:m[k]? = some y)(h:(f x y != 0)=false):Em f (l.drop k) (m.drop k)=Em f (l.drop (k+1)) (m.drop (k+1)):=by
 rw [Bf hx,Bf hy,Em,Ep h]
theorem jQ (a:Int):Eh a a=0:=E9.2 rfl
theorem Sf (a:Rz):Ic a a=0:=by unfold Ic;simp [jQ]
theorem Wv {α:Type}{f:α->α->Int}:∀{l:List α},(∀x∈l,f x x=0)->Em f l l=0
 | [],_=>by rw [Em]
 | x::r,h=>by rw [Em,h x (by simp),Ep (by rfl),Wv fun y hy=>h y (by simp [hy])]
theorem jP (d:Dv):Kg d d=0:=by
 induction d using Dv.ind with
 | h d ih=>rw [Ms,Sf,Ep (by rfl),if_neg (by simp),if_neg (by simp),Wv ih]

theorem Ov (a b:Int):Eh b a = -Eh a b:=by
 unfold Eh;by_cases h1:a<b
 . rw [if_pos (G7 h1),if_neg (by simp;omega),if_pos (G7 h1)];rfl
 by_cases h2:b<a
 . rw [if_pos (G7 h2),if_neg (by simpa using h1),if_pos (G7 h2)]
 rw [if_neg (by simpa using h2),if_neg (by simpa using h1),if_neg (by simpa using h1),if_neg (by simpa using h2)];rfl
theorem gF {a b:Int}:Eh a b<0↔a<b:=by
 unfold Eh;by_cases h1:a<b
 . rw [if_pos (G7 h1)];omega
 rw [if_neg (by simpa using h1)];by_cases h2:b<a
 . rw [if_pos (G7 h2)];omega
 rw [if_neg (by simpa using h2)];omega
theorem Yy {a b:Int}:(if (a != 0) then a else b)<0↔a<0\/(a=0/\b<0):=by
 by_cases h:a=0
 . subst h;simp
 rw [if_pos (by simpa using h)];omega
theorem N4 {a b:Int}:(if (a != 0) then a else b)=0↔a=0/\b=0:=by
 by_cases h:a=0
 . subst h;simp
 rw [if_pos (by simpa using h)];omega
theorem Rp {a b a' b':Int}(h:a' = -a)(h2:b' = -b):(if (a' != 0) then a' else b') = -(if (a != 0) then a else b):=by
 subst h h2;by_cases h:a=0
 . subst h;simp
 rw [if_pos (by simp;omega),if_pos (by simpa using h)]
theorem Q3 (a b:Rz):Ic a b=if (Eh a.t b.t != 0) then Eh a.t b.t else if (Eh a.s b.s != 0) then Eh a.s b.s else Eh a.q b.q:=by
 unfold Ic
 have h:∀x y:Int,(x != y)=(Eh x y != 0):=fun x y=>by
  rw [Bool.eq_iff_iff];simp only [bne_iff_ne,ne_eq,E9]
 rw [h a.t,h a.s]
theorem Wx {a b:Rz}:Ic a b=0↔a=b:=by
 rw [Q3,N4,N4,E9,E9,E9];cases a;cases b;simp
theorem jS (a b:Rz):Ic b a = -Ic a b:=by
 rw [Q3,Q3 a b];exact Rp (Ov _ _) (Rp (Ov _ _) (Ov _ _))
theorem eF {a b c:Rz}(h:Ic a b<0)(h2:Ic b c<0):Ic a c<0:=by
 rw [Q3] at h h2 ⊢;simp only [Yy,gF,E9] at h h2 ⊢;omega
theorem cmpC (a b:Int)(x:Int):(if decide (a<b) then -1 else if decide (b<a) then 1 else x)=if (Eh a b != 0) then Eh a b else x:=by
 unfold Eh;by_cases h1:a<b
 . simp [h1]
 by_cases h2:b<a
 . simp [h1,h2]
 simp [h1,h2]
theorem Qz (a b:Dv):Kg a b=if (Ic a.ref b.ref != 0) then Ic a.ref b.ref else if (Eh a.choice b.choice != 0) then Eh a.choice b.choice else Em Kg a.kids b.kids:=by
 rw [Ms,cmpC]
theorem gG {α:Type}{f:α->α->Int}:∀{l m:List α},(∀x∈l,∀y,f x y=0->x=y)->Em f l m=0->l=m
  | [],[],_,_=>rfl
  | [],_::_,_,h=>by rw [Em] at h;cases h
  | _::_,[],_,h=>by rw [Em] at h;cases h
  | x::r,y::s,hx,h=>by
    rw [Em,N4] at h;rw [hx x (by simp) y h.1,gG (fun z hz=>hx z (by simp [hz])) h.2]
theorem Ww {α:Type}{f:α->α->Int}:∀{l m:List α},(∀x∈l,∀y,f y x = -f x y)->Em f m l = -Em f l m
  | [],[],_=>rfl
  | [],_::_,_=>by rw [Em,Em];rfl
  | _::_,[],_=>by rw [Em,Em]
  | x::r,y::s,hx=>by
    rw [Em,Em];exact Rp (hx x (by simp) y) (Ww fun z hz=>hx z (by simp [hz]))
theorem Uz {α:Type}{f:α->α->Int}(he:∀x y,f x y=0->x=y):∀{l m n:List α},(∀x∈l,∀y z,f x y<0->f y z<0->f x z<0)->Em f l m<0->Em f m n<0->Em f l n<0
  | [],[],_,_,h1,_=>by rw [Em] at h1;exact absurd h1 (by decide)
  | [],y::_,[],_,_,h2=>by rw [Em] at h2;exact absurd h2 (by decide)
  | [],y::_,z::_,_,_,_=>by rw [Em];decide
  | x::r,[],_,_,h1,_=>by rw [Em] at h1;exact absurd h1 (by decide)
  | x::r,y::s,[],_,_,h2=>by rw [Em] at h2;exact absurd h2 (by decide)
  | x::r,y::s,z::u,hx,h1,h2=>by
    rw [Em,Yy] at h1 h2 ⊢;rcases h1 with h1 | ⟨h1,h1'⟩
    . rcases h2 with h2 | ⟨h2,h2'⟩
      . exact .inl (hx x (by simp) y z h1 h2)
      have:=he y z h2;subst this;exact .inl h1
    . have:=he x y h1;subst this
      rcases h2 with h2 | ⟨h2,h2'⟩
      . exact .inl h2
      exact .inr ⟨h2,Uz he (fun w hw=>hx w (by simp [hw])) h1' h2'⟩
theorem Se:∀a b:Dv,Kg a b=0->a=b:=by
  intro a
  induction a using Dv.ind with
  | h a ih=>
    intro b h;rw [Qz,N4,N4,Wx,E9] at h;have h3:=gG ih h.2.2;cases a;cases b
    simp only at h h3;rw [h.1,h.2.1,h3]
theorem Sd:∀a b:Dv,Kg b a = -Kg a b:=by
  intro a
  induction a using Dv.ind with
  | h a ih=>
    intro b;rw [Qz,Qz a b];exact Rp (jS _ _) (Rp (Ov _ _) (Ww ih))
theorem Ux:∀a b c:Dv,Kg a b<0->Kg b c<0->Kg a c<0:=by
  intro a
  induction a using Dv.ind with
  | h a ih=>
    intro b c h1 h2;rw [Qz,Yy,Yy,gF,Wx,E9] at h1 h2 ⊢;rcases h1 with h1 | ⟨h1,h1'⟩
    . rcases h2 with h2 | ⟨h2,h2'⟩
      . exact .inl (eF h1 h2)
      rw [<-h2];exact .inl h1
    . rw [h1]
      rcases h2 with h2 | ⟨h2,h2'⟩
      . exact .inl h2
      . refine .inr ⟨h2,?_⟩
        rcases h1' with h1' | ⟨h1',h1''⟩
        . rcases h2' with h2' | ⟨h2',h2''⟩
          . exact .inl (by omega)
          exact .inl (by omega)
        . rcases h2' with h2' | ⟨h2',h2''⟩
          . exact .inl (by omega)
          exact .inr ⟨by omega,Uz Se ih h1'' h2''⟩

structure Pr where
 v:Int
 a:Nat
deriving DecidableEq
def Jn:Pr:=⟨0,0⟩
def Ct (x:Pr):List AV:=[.int .i64 x.v,.int .i64 (x.a:Int)]
theorem Gp (x:Pr):(Ct x).length=2:=rfl
theorem scPr (l:List Pr):∀c∈l.map Ct,Bm c=true:=M3 fun _=>rfl
def cLp (l:List Pr):List AV:=[.sl 2 (l.map Ct)]
def jR (x y:Pr):Int:=IntKind.wrap .i64 ((x.a:Int)-(y.a:Int))
def tX (x y:Pr):Bool:=decide (jR x y<0)
def Ch (s t:List Pr):List Pr:=Gt Jn tX (s++t)
def Yf (y:Pr)(t:List Pr):Bool:=t.any fun z=>(y.a:Int)==(z.a:Int)
def Hz (s t:List Pr):Bool:=!(s.any fun y=>Yf y t)
def L6 (s:List Pr):Nat:=((s[0]?).getD Jn).a
def lasP (s:List Pr):Nat:=((s[s.length-1]?).getD Jn).a
theorem Yu {s:List Pr}(h:0<s.length):(s.map Ct)[((s.length:Int)-1).toNat]? = some (Ct ((s[s.length-1]?).getD Jn)):=by
 have e:((s.length:Int)-1).toNat=s.length-1:=by omega
 rw [e];exact Co (Hu Jn (by omega))
theorem tF {s:List Pr}(h:0<s.length):(s.map Ct)[((0:Int)).toNat]? = some (Ct ((s[0]?).getD Jn)):=Co (Hu Jn h)
end Go.Proofs.YtkdhionilabokaaGreatDoor

namespace Go.Aw
open Go
section
variable {P:Program} {T:List (Nat×TD)} {d:Option Nat} {ty:TypeId} {pos:String} {aft:Array Edge} {gd:Option (Nat×Bool)} {ρ:Operand->AV} {K:List HO->Prop}
theorem HOK.rows {g:Gh}{w:World}{H:List HO}(E z:Nat)(h:HOK g w H):∀n:Nat,HOK g w (List.replicate n (.row (.slice none 0 0) 0 E z)++H)
  | 0=>h
  | n+1=>by
    rw [Tf,Lz];exact (HOK.rows E z h n).cons (.inl ⟨rfl,rfl⟩) (fun b hb=>by simp [HO.blk] at hb)
theorem Um {t e E z n:Nat}{x y:Operand}{kl kc:IntKind}{td te:TD}{H:List HO}(hT:G9 P T)(ht:Bp T t=some td)(hk:td.kind = .slice e)(hte:Bp T e=some te)(hz:te.size=1)
  (hx:ρ x = .int kl n) (hy:ρ y = .int kc n) (hb:te.bytes*n<=281474976710656) (hm:n<=maxLen) (hz0:(P.info? e).bind (fun i=>i.zero)=some (.slice none 0 0)) :
  Jj P ⟨d,.makeSlice t x y,ty,pos,aft,gd⟩ ρ H (fun r H'=>∃b,r = .val (.slice (some ⟨b,0,none⟩) n n)/\H' = .box b e (List.replicate n (.row (.slice none 0 0) z []))::(List.replicate n (.row (.slice none 0 0) 0 E z)++H)):=by
 intro g w a next Q hr hH hn
 have h1:=(hx▸hr x (by simp [Op.operands]):Rep g w _ _).inv_int;have h2:=(hy▸hr y (by simp [Op.operands]):Rep g w _ _).inv_int;have hu:=Dc (hT t td ht) hk;obtain ⟨it,hit,his,hib,zv,hzv,hzs,hzr⟩:=(hT e te hte).info
 have hzv':zv = .slice none 0 0:=by
  rw [hit] at hz0;simp only [Option.bind_some] at hz0;rw [hzv] at hz0;exact Option.some.inj hz0
 subst hzv'
 have h63:(n:Int)<=9223372036854775807:=by
  have h8:maxLen<=9223372036854775807:=by decide
  omega
 have hb':(it.bytes:Int)*(n:Int)<=281474976710656:=by
  have h9:((te.bytes*n:Nat):Int)<=281474976710656:=by omega
  rw [Int.natCast_mul] at h9;rw [hib];exact h9
 have hrun:=run_make (P:=P) w t e it (.slice none 0 0) hu hit hzv kl kc n n (by omega) (Lx _) hb' h63;simp only [Jy] at hrun;unfold Oper.wp;simp only [execOp,h1,h2,Sem.run_bind,hrun,Result.andThen_ok,Sem.run_pure];have hxx:=Ext.alloc g w (.cells (madeCells (Value.slice none 0 0).cells (n*it.size)) e) (some 0);have hs1:it.size=1:=by rw [his,hz]
 refine hn (g.put w.heap.size (some 0)) _ _ _ _ ⟨w.heap.size,rfl,rfl⟩ (.val _) ((HOK.rows E z (hH.alloc _ (some 0)) n).cons ⟨Gh.Aai _ _ _,_,Ci w _,?_⟩ ?_) hxx
 .
  refine ⟨by rw [size_madeCells,Jg,hs1,Nat.mul_one],fun i x hi=>?_⟩;have hlt:i<n:=by simpa using (List.getElem?_eq_some_iff.1 hi).1
  have hx9:=O7 (A0 hi);subst hx9
  have e1:(madeCells (Value.slice none 0 0).cells (n*it.size)).getD i undef = .slice none 0 0:=by
   simp only [madeCells,hs1,Nat.mul_one,Ce];have hc1:(Value.slice none 0 0).cells = #[.slice none 0 0]:=rfl;simp [hlt,hc1,Nat.mod_one]
  rw [e1];exact .row _ _ _ (.sl0 _ _ _ (Bn _))
 intro b hb x hx' hb';simp only [HO.blk,Option.some.injEq] at hb;rcases Da.1 hx' with h9 | h9
 . rw [O7 h9] at hb';simp [HO.blk] at hb'
 have:=(HO.ok_lt (hH.ok x h9) hb').1;omega
theorem GS.cellsW {sl:List (Nat×AV)}{H H2:List HO}{n b TT:Nat}{cs cs':List AV}(k:Nat)(hk:H[k]? = some (.box b TT cs))(hl:cs'.length=cs.length)(hw:∀(i:Nat) (x x':AV),cs[i]? = some x->cs'[i]? = some x'->∀g w v,Rep g w v x->Rep g w v x')
  (hH2:H.set k (.box b TT cs')=H2):GS ⟨sl,H,n⟩ ⟨sl,H2,n⟩:=fun g a w hG=>by
 subst hH2;refine ⟨g,⟨hG.size,hG.defers,hG.sl,?_⟩,Ext.refl g w⟩;refine hG.heap.set (Ext.refl g w) hk (fun b h=>.inl h) ?_ (fun _ _ _ _=>⟨rfl,rfl⟩);obtain ⟨h1,vs,h2,h3,h4⟩:=hG.heap.ok _ (A0 hk);refine ⟨h1,vs,h2,by rw [hl];exact h3,fun i x hi=>?_⟩;have hlt:=(List.getElem?_eq_some_iff.1 hi).1;have h5:cs[i]? = some cs[i]:=List.getElem?_eq_getElem (by omega);exact hw i _ _ h5 hi g w _ (h4 i _ h5)
end
end Go.Aw
namespace Go.Proofs.YtkdhionilabokaaGreatDoor
open Go Go.Aw

def Fx (L:List Ev)(a:Nat):Ev:=(L[a]?).getD Hg
def Ie (L:List Ev)(s:List Pr)(n:Nat):List (List Ev):=(List.range 16).map fun v:Nat=>(s.filter fun x=>x.v==(v:Int)&&decide (x.a<n)).map fun x=>Fx L x.a
theorem X5 (L:List Ev)(s:List Pr)(n:Nat):(Ie L s n).length=16:=by unfold Ie;simp
theorem X4 {L:List Ev}{s:List Pr}{n v:Nat}(h:v<16):(Ie L s n)[v]? = some ((s.filter fun x=>x.v==(v:Int)&&decide (x.a<n)).map fun x=>Fx L x.a):=by
 unfold Ie;rw [List.getElem?_map,List.getElem?_range h];rfl
theorem Ow {L:List Ev}{s:List Pr}{n:Nat}:∀l∈Ie L s n,l.length<=s.length:=by
 intro l hl;unfold Ie at hl;obtain ⟨v,_,rfl⟩:=B7.1 hl;rw [B1];exact Om _ _
structure PrOK (L:List Ev) (s:List Pr):Prop where
 lo:∀x∈s,0<=x.v
 hi:∀x∈s,x.v<16
 at':∀x∈s,x.a<L.length
theorem mR {L:List Ev}{s:List Pr}{n k:Nat}{x:Pr}(hx:s[k]? = some x)(h0:0<=x.v)(h1:x.v<16)(hn:x.a<n):Ie L (s.take (k+1)) n=(Ie L (s.take k) n).set x.v.toNat ((((Ie L (s.take k) n)[x.v.toNat]?).getD []) ++ [Fx L x.a]):=by
 have h9:x.v.toNat<16:=by omega
 rw [X4 h9]
 apply M9
 intro i;rw [List.getElem?_set];by_cases hi:i<16
 .
  rw [X4 hi,X4 hi,X5];rw [Cr hx,Gi,Cy];by_cases e:x.v.toNat=i
  .
   rw [if_pos e,if_pos h9];subst e
   have:x.v==((x.v.toNat:Nat):Int)&&decide (x.a<n):=by
    rw [Cq];exact ⟨by rw [beq_iff_eq];omega,G7 hn⟩
   have h8:[x].filter (fun y=>y.v==((x.v.toNat:Nat):Int)&&decide (y.a<n)) = [x]:=by rw [Fq,if_pos this,List.filter_nil]
   rw [h8];rfl
  rw [if_neg e]
  have:(x.v==((i:Nat):Int)&&decide (x.a<n))=false:=by
   rw [M7];left;rw [Iu];omega
  simp [this]
 rw [List.getElem?_eq_none (by rw [X5];omega),if_neg (by omega),List.getElem?_eq_none (by rw [X5];omega)]
theorem aN {L:List Ev}{s:List Pr}{n k:Nat}{x:Pr}(hx:s[k]? = some x)(hn:¬x.a<n):Ie L (s.take (k+1)) n=Ie L (s.take k) n:=by
 unfold Ie;refine List.map_congr_left fun v _=>?_
 rw [Cr hx,Gi];have:(x.v==((v:Nat):Int)&&decide (x.a<n))=false:=by rw [decide_eq_false hn,A9]
 simp [this]
abbrev GR:=Value×List Ev
def gC (ps:List GR):List AV:=ps.map fun q=>.row q.1 5 (q.2.map Ec)
def gO (ps:List GR)(E:Nat):List HO:=ps.map fun q=>.row q.1 (q.2.map Ec).length E 5
def gL (ps:List GR):List (List Ev):=ps.map fun q=>q.2
def g0:List GR:=List.replicate 16 (.slice none 0 0,[])
theorem wL {ps:List GR}{j:Nat}{q:GR}(h:ps[j]? = some q):(gC ps)[j]? = some (.row q.1 5 (q.2.map Ec)):=by unfold gC;rw [List.getElem?_map,h];rfl
theorem wN {ps:List GR}{j E:Nat}{q:GR}{H:List HO}(h:ps[j]? = some q):(gO ps E++H)[j]? = some (.row q.1 (q.2.map Ec).length E 5):=by
 have hl:=(List.getElem?_eq_some_iff.1 h).1;rw [List.getElem?_append_left (by unfold gO;rw [B1];exact hl)];unfold gO;rw [List.getElem?_map,h];rfl
theorem nJ {ps:List GR}{j:Nat}{q:GR}(x:Value)(e:Ev)(h:ps[j]? = some q):E3 (gC ps) j [AV.row x 5 (q.2.map Ec ++ [Ec e])]=gC (ps.set j (x,q.2 ++ [e])):=by
 have hl:=(List.getElem?_eq_some_iff.1 h).1;unfold E3 gC;rw [List.map_set,Cy];rw [List.set_eq_take_append_cons_drop,if_pos (by rw [B1];exact hl)];simp
theorem nM {ps:List GR}{j E:Nat}{q:GR}(x:Value)(e:Ev)(H:List HO)(h:ps[j]? = some q):(gO ps E++H).set j (.row x (q.2.map Ec ++ [Ec e]).length E 5)=gO (ps.set j (x,q.2 ++ [e])) E++H:=by
 have hl:=(List.getElem?_eq_some_iff.1 h).1;unfold gO;rw [List.set_append_left _ _ (by rw [B1];exact hl),List.map_set,Cy];rfl
theorem wM {ps:List GR}{j:Nat}{q:GR}(h:ps[j]? = some q):((gL ps)[j]?).getD []=q.2:=by unfold gL;rw [List.getElem?_map,h];rfl
theorem nL {ps:List GR}{j:Nat}(x:Value)(m:List Ev):gL (ps.set j (x,m))=(gL ps).set j m:=by unfold gL;rw [List.map_set]
theorem nK (ps:List GR):(gL ps).length=ps.length:=B1 ..
theorem gV {ps:List GR}{j:Nat}(h:j<ps.length):Nat.ble (j+1) (gC ps).length=true:=Nat.ble_eq_true_of_le (by unfold gC;rw [B1];omega)
theorem gW (ps:List GR):∀(i:Nat) (x x':AV),(gC ps)[i]? = some x->((gL ps).map Tu).flatten[i]? = some x'->∀g w v,Rep g w v x->Rep g w v x':=by
  intro i x x' h1 h2
  have e:((gL ps).map Tu).flatten=ps.map fun q=>AV.sl 5 (q.2.map Ec):=by
    clear h1 h2
    induction ps with
    | nil=>rfl
    | cons q r ih=>
      have:gL (q::r)=q.2::gL r:=rfl;rw [this,Ba,Jz,ih];rfl
  rw [e] at h2;unfold gC at h1;rw [List.getElem?_map] at h1 h2;cases hq:ps[i]? with
  | none=>rw [hq] at h1;cases h1
  | some q=>
    rw [hq] at h1 h2;cases h1;cases h2
    exact Wa
theorem nI (ps:List GR):((gL ps).map Tu).flatten.length=(gC ps).length:=by
 rw [Cm (z:=1) (by intro e he;obtain ⟨x,_,rfl⟩:=B7.1 he;rfl)];unfold gL gC;simp
def Fi (L:List Ev)(p:Pt)(outer:List Pr)(a:Nat):Bool:=((Fx L a).type==p.type)&&Mn ⟨Ie L outer a,p.var,Fx L a⟩ p.cond

section
variable {α:Type} {lt:α->α->Bool} {d:α}
def Jv (lt:α->α->Bool)(x:α):List α->List α
 | []=>[x]
 | y::r=>if lt x y then y::Jv lt x r else x::y::r
theorem Ma (x:α):∀r:List α,(Jv lt x r).Perm (x::r)
  | []=>.refl _
  | y::r=>by
    rw [Jv];split
    . exact ((Ma x r).cons y).trans (List.Perm.swap ..)
    exact .refl _
theorem nN (d:α)(a:List α)(x:α)(b:List α):((a++x::b)[a.length]?).getD d=x:=by simp
theorem sw_app (d:α)(a:List α)(y x:α)(b:List α):vG d (a++y::x::b) (a.length+1)=a++x::y::b:=by
 unfold vG;have h1:((a++y::x::b)[a.length+1-1]?).getD d=y:=by simp
 have h2:((a++y::x::b)[a.length+1]?).getD d=x:=by
  rw [List.getElem?_append_right (by omega)];have:a.length+1-a.length=1:=by omega
  rw [this];rfl
 rw [h1,h2,List.set_append_right _ _ (by omega)];have e:a.length+1-a.length=1:=by omega
 rw [e];show (a++(y::y::b)).set (a.length+1-1) x=_;rw [Nat.add_sub_cancel,List.set_append_right _ _ (Bi _),Nat.sub_self];rfl
theorem Xf (x:α):∀(r post:List α),Gf d lt r.length (r.reverse++x::post)=(Jv lt x r).reverse++post
  | [],post=>rfl
  | y::r,post=>by
    have e0:(y::r).reverse++x::post=r.reverse++y::x::post:=by simp
    have hl:r.reverse.length=r.length:=List.length_reverse ..
    have h1:((r.reverse++y::x::post)[r.length+1]?).getD d=x:=by
      rw [List.getElem?_append_right (by omega),hl];have:r.length+1-r.length=1:=by omega
      rw [this];rfl
    have h2:((r.reverse++y::x::post)[r.length]?).getD d=y:=by
      have:=nN d r.reverse y (x::post)
      rwa [hl] at this
    rw [e0,Eb,Gf,h1,h2,Jv];cases hxy:lt x y with
    | false=>simp
    | true=>
      have h3:=sw_app d r.reverse y x post;rw [hl] at h3;rw [if_pos rfl,if_pos rfl,h3,Xf x r (y::post)];simp
theorem Xk:∀(rest r:List α),Jc d lt rest.length r.length (r.reverse++rest)=(rest.foldl (fun r x=>Jv lt x r) r).reverse
  | [],r=>by simp [Jc]
  | x::rest,r=>by
    rw [Eb,Jc,Xf];have hl:r.length+1=(Jv lt x r).length:=by have:=(Ma (lt:=lt) x r).length_eq;simpa using this.symm
    rw [hl,Xk rest (Jv lt x r)];rfl
theorem Mi (l:List α):Gt d lt l=(l.foldl (fun r x=>Jv lt x r) []).reverse:=by
  cases l with
  | nil=>rfl
  | cons a t=>
    have:=Xk (d:=d) (lt:=lt) t [a];unfold Gt;simpa [Jv] using this
theorem Xc:∀(l r:List α),(l.foldl (fun r x=>Jv lt x r) r).Perm (l++r)
  | [],r=>.refl _
  | x::l,r=>by
    rw [Jf];refine (Xc l _).trans ?_;exact ((Ma x r).append_left l).trans (List.perm_middle)
theorem lE (l:List α):(Gt d lt l).Perm l:=by
 rw [Mi];refine (List.reverse_perm _).trans ?_;simpa using Xc (lt:=lt) l []
theorem Xh (has:∀a b,lt a b=true->lt b a=false)(htr:∀a b c,lt a b=false->lt b c=false->lt a c=false)(x:α):∀r:List α,r.Pairwise (fun a b=>lt a b=false)->(Jv lt x r).Pairwise (fun a b=>lt a b=false)
  | [],_=>by simp [Jv]
  | y::r,h=>by
    rw [L0] at h;rw [Jv];cases hxy:lt x y with
    | true=>
      rw [if_pos rfl,L0];refine ⟨fun z hz=>?_,Xh has htr x r h.2⟩;rcases Cz.1 ((Ma x r).mem_iff.1 hz) with rfl | hz
      . exact has _ _ hxy
      exact h.1 z hz
    | false=>
      rw [if_neg (by decide),L0,L0];refine ⟨fun z hz=>?_,h⟩;rcases Cz.1 hz with rfl | hz
      . exact hxy
      exact htr x y z hxy (h.1 z hz)
theorem Xb (has:∀a b,lt a b=true->lt b a=false)(htr:∀a b c,lt a b=false->lt b c=false->lt a c=false):∀(l r:List α),r.Pairwise (fun a b=>lt a b=false)->(l.foldl (fun r x=>Jv lt x r) r).Pairwise (fun a b=>lt a b=false)
 | [],r,h=>h
 | x::l,r,h=>Xb has htr l _ (Xh has htr x r h)
theorem qS (has:∀a b,lt a b=true->lt b a=false)(htr:∀a b c,lt a b=false->lt b c=false->lt a c=false)(l:List α):(Gt d lt l).Pairwise (fun a b=>lt b a=false):=by
 rw [Mi,List.pairwise_reverse];exact Xb has htr l [] .nil
end

section
variable {α:Type} {lt lt':α->α->Bool} {d:α}
theorem Vn {x:α}:∀{r:List α},(∀y∈r,lt x y=lt' x y)->Jv lt x r=Jv lt' x r
  | [],_=>rfl
  | y::r,h=>by
    rw [Jv,Jv,h y (Fs ..),Vn fun z hz=>h z (Ft _ hz)]
theorem Tl {P:α->Prop}(hP:∀x y,P x->P y->lt x y=lt' x y):∀(l r:List α),(∀x∈l,P x)->(∀x∈r,P x)->l.foldl (fun r x=>Jv lt x r) r=l.foldl (fun r x=>Jv lt' x r) r
  | [],r,_,_=>rfl
  | x::l,r,hl,hr=>by
    have hx:=hl x (Fs ..);rw [Jf,Jf,Vn fun y hy=>hP x y hx (hr y hy)];refine Tl hP l _ (fun y hy=>hl y (Ft _ hy)) fun y hy=>?_
    rcases Cz.1 ((Ma (lt:=lt') x r).mem_iff.1 hy) with rfl | hy
    . exact hx
    exact hr y hy
theorem fP {P:α->Prop}(hP:∀x y,P x->P y->lt x y=lt' x y){l:List α}(h:∀x∈l,P x):Gt d lt l=Gt d lt' l:=by
 rw [Mi,Mi,Tl hP l [] h (by simp)]
end
def rO (l:List Pr):Prop:=l.Pairwise fun x y=>x.a<y.a
def zL (x y:Pr):Bool:=decide (x.a<y.a)
theorem zM {x y:Pr}(hx:x.a<=1048576)(hy:y.a<=1048576):tX x y=zL x y:=by
 unfold tX zL jR;rw [IntWalk.i64_in _ (by omega),L1];omega
theorem Pw (s t:List Pr):(Ch s t).Perm (s++t):=lE _
theorem F5 {s t:List Pr}{x:Pr}:x∈Ch s t↔x∈s\/x∈t:=by rw [(Pw s t).mem_iff,Da]
theorem Mc (s t:List Pr):(Ch s t).length=s.length+t.length:=by rw [(Pw s t).length_eq,Do]
theorem Ny {L:List Ev}{s t:List Pr}(hs:PrOK L s)(ht:PrOK L t):PrOK L (Ch s t):=by
 refine ⟨fun x hx=>?_,fun x hx=>?_,fun x hx=>?_⟩ <;> rcases F5.1 hx with h | h
 . exact hs.lo x h
 . exact ht.lo x h
 . exact hs.hi x h
 . exact ht.hi x h
 . exact hs.at' x h
 exact ht.at' x h
theorem cC (L:List Ev):PrOK L []:=⟨fun _ h=>(by cases h),fun _ h=>(by cases h),fun _ h=>(by cases h)⟩
theorem Sm {s t:List Pr}(hb:∀x∈s++t,x.a<=1048576)(hd:∀x∈s,∀y∈t,x.a≠y.a)(hs:rO s)(ht:rO t):rO (Ch s t):=by
 have h0:Ch s t=Gt Jn zL (s++t):=fP (P:=fun x=>x.a<=1048576) (fun x y=>zM) hb
 have h1:(Ch s t).Pairwise fun a b=>zL b a=false:=by
  rw [h0];exact qS (fun a b h=>by unfold zL at *;simp at *;omega) (fun a b c h1 h2=>by unfold zL at *;simp at *;omega) _
 have h2:(Ch s t).Pairwise fun a b=>a.a≠b.a:=by
  refine ((Pw s t).pairwise_iff (R:=fun a b:Pr=>a.a≠b.a) (fun h e=>h e.symm)).2 ?_;rw [List.pairwise_append];exact ⟨hs.imp fun h=>by omega,ht.imp fun h=>by omega,hd⟩
 refine (List.pairwise_and_iff.2 ⟨h1,h2⟩).imp ?_;rintro a b ⟨k1,k2⟩;unfold zL at k1;simp at k1;omega
theorem Qu:∀{s:List Pr} {lo hi:Nat},rO s->(∀x∈s,lo<=x.a/\x.a<hi)->s.length<=hi-lo
  | [],lo,hi,_,_=>Bn _
  | x::s,lo,hi,h,hb=>by
    have h1:=L0.1 h;have h2:=hb x (Fs ..);have:=Qu (s:=s) (lo:=x.a+1) (hi:=hi) h1.2 fun y hy=>⟨h1.1 y hy,(hb y (Ft _ hy)).2⟩
    rw [Eb];omega
theorem N2 {s:List Pr}(h:s≠[]):∃x∈s,x.a=lasP s:=by
 have hl:s.length-1<s.length:=by have:=Iw.2 h;omega
 refine ⟨s[s.length-1],List.getElem_mem _,?_⟩;unfold lasP;rw [List.getElem?_eq_getElem hl];rfl
theorem nC {s:List Pr}(h:s≠[]):∃x∈s,x.a=L6 s:=by
 have hl:0<s.length:=Iw.2 h;refine ⟨s[0],List.getElem_mem _,?_⟩;unfold L6;rw [List.getElem?_eq_getElem hl];rfl
theorem bM {s:List Pr}(h:rO s){x:Pr}(hx:x∈s):x.a<=lasP s:=by
 obtain ⟨i,hi,rfl⟩:=List.getElem_of_mem hx;have hl:s.length-1<s.length:=by omega
 unfold lasP;rw [List.getElem?_eq_getElem hl];rcases Ix i (s.length-1) with h1 | h1
 . exact Nat.le_of_lt (List.pairwise_iff_getElem.1 h i (s.length-1) hi hl h1)
 have:i=s.length-1:=by omega
 subst this;exact Bi _
theorem X3 {s t:List Pr}(h:Hz s t=true):∀x∈s,∀y∈t,x.a≠y.a:=by
 intro x hx y hy e;unfold Hz at h;rw [Bu,List.any_eq_false] at h;refine h x hx ?_;unfold Yf;exact Oi.2 ⟨y,hy,by rw [beq_iff_eq,e]⟩
def nS (s:List Pr)(a:Nat):Bool:=s.any fun y=>(y.a:Int)==(a:Int)
def Nz (f:Nat->Bool):Nat->Nat->Bool
 | 0,_=>true
 | n+1,a=>if f a then false else Nz f n (a+1)
theorem kI {f:Nat->Bool}{n m a:Nat}(h:m<=a)(hn:n=m-a):Nz f n a=true:=by
 have:n=0:=by omega
 subst this;rfl
theorem oB {f:Nat->Bool}{m a:Nat}(h:a<m)(hf:f a=true):Nz f (m-a) a=false:=by
 have:m-a=(m-(a+1))+1:=by omega
 rw [this,Nz,if_pos hf]
theorem kH {f:Nat->Bool}{m a:Nat}(h:a<m)(hf:f a=false):Nz f (m-a) a=Nz f (m-(a+1)) (a+1):=by
 have:m-a=(m-(a+1))+1:=by omega
 rw [this,Nz,if_neg (by rw [hf];decide)]
def Tn (L:List Ev)(p:Pt)(all s:List Pr)(a:Nat):Bool:=!(nS s a)&&Fi L p all a
def He (L:List Ev)(p:Pt)(outer s:List Pr):Bool:=
 if p.op==6 then decide (IntKind.wrap .i64 ((Fx L (lasP s)).time-(Fx L (L6 s)).time)<=p.span)
 else if p.op==7 then Mn ⟨Ie L (Ch outer s) L.length,-1,Hg⟩ p.cond
 else Nz (Tn L p (Ch outer s) s) (lasP s-(L6 s+1)) (L6 s+1)

mutual
def Jk:Pt->Nat
 | ⟨o,xs,_,_,_,_,_⟩=>(if o==0 then 1 else 0)+mU xs
def mU:List Pt->Nat
 | []=>0
 | a::r=>Jk a+mU r
end
theorem aO:∀l:List Pt,mU l=(l.map Jk).sum
 | []=>by rw [mU];rfl
 | a::r=>by rw [mU,aO r,Ba,Dq]
theorem Pp (p:Pt):Jk p=(if p.op==0 then 1 else 0)+(p.args.map Jk).sum:=by cases p;rw [Jk,aO]
theorem X8 (p:Pt):Jk p<=Fm p:=by
  induction p using Pt.ind with
  | h p ih=>
    rw [Pp,H0]
    have:∀l:List Pt,(∀a∈l,Jk a<=Fm a)->(l.map Jk).sum<=(l.map Fm).sum:=by
      intro l
      induction l with
      | nil=>intro _;exact Bi _
      | cons a r ih2=>
        intro h;rw [Ba,Dq,Ba,Dq];have h1:=h a (by simp);have h2:=ih2 fun b hb=>h b (by simp [hb])
        omega
    have:=this p.args ih;split <;> omega
theorem Uc {l:List Pt}{k:Nat}{a:Pt}(h:l[k]? = some a):((l.take (k+1)).map Jk).sum=((l.take k).map Jk).sum+Jk a:=by rw [Cr h];simp
theorem gT (l:List Pt)(k:Nat):((l.take k).map Jk).sum<=(l.map Jk).sum:=by
 conv=>rhs;rw [<-Iv k l,Cy,List.sum_append]
 omega
mutual
def Lm:Pt->Nat
 | ⟨o,xs,_,_,_,_,_⟩=>Kr xs+if o==4 then 1 else 0
def Kr:List Pt->Nat
 | []=>0
 | a::r=>max (Lm a) (Kr r)
end
theorem Mx (p:Pt):Lm p=Kr p.args+if p.op==4 then 1 else 0:=by cases p;rw [Lm]
theorem Xi:∀(l:List Pt) (a:Pt),Kr (l ++ [a])=max (Kr l) (Lm a)
 | [],a=>by rw [H6,Kr,Kr];simp [Kr]
 | x::r,a=>by rw [Lz,Kr,Xi r a,Kr];omega
theorem Vt:∀{l:List Pt} {a:Pt},a∈l->Lm a<=Kr l
  | x::r,a,h=>by
    rw [Kr];rcases Cz.1 h with rfl | h
    . omega
    have:=Vt h;omega
theorem zK (p:Pt):Lm p<=Fm p:=by
  induction p using Pt.ind with
  | h p ih=>
    rw [Mx,H0]
    have:∀l:List Pt,(∀a∈l,Lm a<=Fm a)->Kr l<=(l.map Fm).sum:=by
      intro l
      induction l with
      | nil=>intro _;rw [Kr];exact Bi _
      | cons a r ih2=>
        intro h;rw [Ba,Dq,Kr];have h1:=h a (by simp);have h2:=ih2 fun b hb=>h b (by simp [hb])
        omega
    have:=this p.args ih;split <;> omega
mutual
def dV:Pt->Bool
 | ⟨o,xs,_,_,_,_,_⟩=>o==4||nV xs
def nV:List Pt->Bool
 | []=>false
 | a::r=>dV a||nV r
end
theorem aU:∀l:List Pt,nV l=l.any dV
 | []=>by rw [nV];rfl
 | a::r=>by rw [nV,aU r,Nd]
theorem Yg (p:Pt):dV p=(p.op==4||p.args.any dV):=by cases p;rw [dV,aU]
theorem it_lp (p:Pt):dV p=false->Lm p=0:=by
  induction p using Pt.ind with
  | h p ih=>
    intro h;rw [Yg,Fv] at h;rw [Mx,h.1]
    have:∀l:List Pt,(∀a∈l,dV a=false->Lm a=0)->l.any dV=false->Kr l=0:=by
      intro l
      induction l with
      | nil=>intro _ _;rw [Kr]
      | cons a r ih2=>
        intro h h';rw [Nd,Fv] at h';rw [Kr,h a (by simp) h'.1,ih2 (fun b hb=>h b (by simp [hb])) h'.2];rfl
    rw [this p.args ih h.2];rfl

def Ip (b lim:Nat):Nat->Nat->Nat
 | 0,o=>o
 | n+1,o=>if o<=lim then Ip b lim n (o*b) else o
theorem Su {b lim n o:Nat}(h:o<=lim):Ip b lim (n+1) o=Ip b lim n (o*b):=by rw [Ip,if_pos h]
theorem Sv {b lim n o:Nat}(h:lim<o):Ip b lim n o=o:=by
 cases n with
 | zero=>rfl
 | succ n=>rw [Ip,if_neg (by omega)]
theorem Ug {b lim:Nat}:∀{n o:Nat},Ip b lim n o<=lim->Ip b lim n o=o*b ^ n
  | 0,o,_=>by rw [Ip,Nat.pow_zero,Nat.mul_one]
  | n+1,o,h=>by
    by_cases ho:o<=lim
    . rw [Su ho] at h ⊢
      rw [Ug h,Nat.mul_assoc,Nat.pow_succ,Nat.mul_comm b]
    rw [Sv (by omega)] at h;omega
def lD (p:Pt)(l:List Ev):Bool:=
 if !Tx p||decide (10<l.length) then false
 else if l.any (fun e=>decide (9<e.values.length)) then false
 else if decide (Ip (Jk p+1) 1500 l.length 1<=1500) then true
 else !dV p&&decide (Ip l.length 1500 (Jk p) 1<=1500)
def lN (p:Pt)(l:List Ev):Bool:=
 if !lD p l||decide (2<Lm p) then false
 else decide ((if Lm p=2 then Ip (2*Jk p+1) 4000 l.length 1 else 1)<=4000)
theorem vO {l:List Ev}{k:Nat}{a:Ev}(ha:l[k]? = some a)(h:decide ((9:Int)<(a.values.length:Int))=true):l.any (fun e=>decide (9<e.values.length))=true:=
 Oi.2 ⟨a,A0 ha,by simp at h ⊢;omega⟩
theorem val_on {l:List Ev}{k:Nat}{a:Ev}(ha:l[k]? = some a)(h:(l.take k).any (fun e=>decide (9<e.values.length))=false)(h2:decide ((9:Int)<(a.values.length:Int))=false):(l.take (k+1)).any (fun e=>decide (9<e.values.length))=false:=by
 rw [Ky _ ha,h,Bl,Jh];have:=C7 h2;omega

structure Lt where
 v:Int
 a:Nat
 b:Bool
deriving DecidableEq
structure Fnd where
 d:Dv
 s:List Pr
 w:List Lt
def fJ:Rz:=⟨0,0,0⟩
@[reducible] def cFnd (f : Fnd) : List AV := [.int .i64 f.d.ref.t, .int .i64 f.d.ref.s, .int .i64 f.d.ref.q, .int .i64 f.d.choice, .sl 5 (f.d.kids.map C6), .sl 2 (f.s.map Ct)]
abbrev En:=List Pr->Nat->List Fnd

def wJ (L:List Ev)(p:Pt)(a:Nat):Fnd:=⟨⟨rf (Fx L a),0,[]⟩,[⟨p.var,a⟩],[⟨p.var,a,false⟩]⟩
def eK (i:Nat)(f:Fnd):Fnd:=⟨⟨fJ,(i:Int),[f.d]⟩,f.s,f.w⟩
def gU (kids:List Dv)(s:List Pr)(w:List Lt):Fnd:=⟨⟨fJ,0,kids⟩,s,w⟩
def wK (f:Fnd):Fnd:=⟨⟨fJ,0,[f.d]⟩,f.s,f.w⟩
def evE (L:List Ev)(p:Pt):En:=fun o n=>((List.range' n (L.length-n)).filter (Fi L p o)).map (wJ L p)
def Ia:List En->Nat->En
 | [],_,_,_=>[]
 | e::r,i,o,n=>(e o n).map (eK i)++Ia r (i+1) o n
def Ng (m:Bool)(w:List Lt):List Lt:=w.map fun x=>⟨x.v,x.a,m⟩
def Ps (pl sq fl:Bool)(es:List En)(o:List Pr):Nat->Nat->List Dv->List Pr->List Lt->List Fnd
  | 0,_,_,_,_=>[]
  | n+1,a,kids,s,w=>
    (if (if pl then decide (0<kids.length) else kids.length==es.length) then [gU kids s w] else []) ++
    (if !pl&&kids.length==es.length then [] else
      (((es[kids.length % es.length]?).getD fun _ _=>[]) (if sq then Ch o s else o) a).flatMap fun f=>
        if Hz s f.s then Ps pl sq fl es o n (if sq then lasP f.s+1 else a) (kids ++ [f.d]) (Ch s f.s) (w++if fl then Ng (kids.length % 2==1) f.w else f.w) else [])
def scE (L:List Ev)(p:Pt)(e:En):En:=fun o n=>((e o n).filter fun f=>He L p o f.s).map wK
def N8 (L:List Ev)(p:Pt)(es:List En):En:=
 if p.op==0 then evE L p
 else if p.op==2 then Ia es 0
 else if p.op==1||p.op==3||p.op==4 then fun o n=>Ps (p.op==4) (p.op != 3) (p.op==4&&decide (1<=Kr p.args)) es o (L.length+es.length+1) n [] [] []
 else scE L p ((es[0]?).getD fun _ _=>[])
mutual
def B6 (L:List Ev):Pt->En
 | ⟨o,xs,x1,x2,x3,x4,x5⟩=>N8 L ⟨o,xs,x1,x2,x3,x4,x5⟩ (Vf L xs)
def Vf (L:List Ev):List Pt->List En
 | []=>[]
 | a::r=>B6 L a::Vf L r
end
theorem Vg (L:List Ev):∀l:List Pt,Vf L l=l.map (B6 L)
 | []=>by rw [Vf];rfl
 | a::r=>by rw [Vf,Vg L r];rfl
theorem Id (L:List Ev)(p:Pt):B6 L p=N8 L p (p.args.map (B6 L)):=by
 cases p
 rw [B6,Vg]
end Go.Proofs.YtkdhionilabokaaGreatDoor
