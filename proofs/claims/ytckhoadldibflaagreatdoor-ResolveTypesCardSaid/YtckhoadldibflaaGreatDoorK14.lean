/-
  Several texts in one: R7, R8, Rar. No condition.
-/
import Derived.Test.YtckhoadldibflaaGreatDoorK13
import Derived.IntWalk
import Derived.Test.YtckhoadldibflaaGreatDoorK03
import Derived.ControlIn
set_option linter.unusedVariables false
set_option linter.unusedSimpArgs false
namespace Go.Proofs.YtckhoadldibflaaGreatDoor
open Go Go.Aw
def ixI (l:List Int)(k:Int):Int:=(l[k.toNat]?).getD 0
def bI (l:List Int):List AV:=l.map (AV.int .i64)
def cI (v:Int):List AV:=[.int .i64 v]
theorem Ut (l:List Int):(bI l).length=l.length:=List.length_map ..
theorem bI_sc (l:List Int):Ba (bI l)=true:=by
 induction l with
 | nil=>rfl
 | cons a r ih=>exact ih
theorem oU (l m:List Int):bI (l++m)=bI l++bI m:=List.map_append ..
theorem fP (l:List Int)(k:Nat):(bI l).take k=bI (l.take k):=(List.map_take ..).symm
theorem pV (l:List Int)(k:Nat):(bI l).drop k=bI (l.drop k):=(List.map_drop ..).symm
theorem rM (n:Nat):(List.replicate n [AV.int .i64 0]).flatten=bI (List.replicate n 0):=by
 induction n with
 | zero=>rfl
 | succ n ih=>rw [List.replicate_succ,List.flatten_cons,ih,List.replicate_succ];rfl
theorem tW (l:List Int):(l.map cI).flatten=bI l:=by
 induction l with
 | nil=>rfl
 | cons a r ih=>rw [List.map_cons,List.flatten_cons,ih];rfl
theorem lS {α:Type}{f:α→List AV}(hf:∀x,(f x).length=1)(l:List α):∀e∈l.map f,e.length=1:=fun e he=>by
 obtain ⟨x,_,rfl⟩:=List.mem_map.1 he
 exact hf x
theorem lP:∀{l:List Int} {k:Nat} {v:Int},k<l.length→F7 (bI l) k [AV.int .i64 v]=bI (l.set k v)
  | [],k,v,h=>absurd h (by simp)
  | a::r,0,v,h=>by simp [F7,bI]
  | a::r,k+1,v,h=>by
    have ih:=lP (l:=r) (k:=k) (v:=v) (by simpa using h)
    show AV.int .i64 a::F7 (bI r) k [AV.int .i64 v]=_
    rw [ih];rfl
theorem off0 (n:Nat):0+n*1=n:=by omega
theorem qP {l:List Int}{k:Nat}(h:k<l.length):Nat.ble (k+1) (bI l).length=true:=Nat.ble_eq_true_of_le (by rw [Ut];omega)

def aL (n:Nat):List Int:=List.replicate n (-1)
def Je (n k:Nat):List Int:=List.replicate k (-1)++List.replicate (n-k) 0
theorem Us {n k:Nat}(h:k≤n):(Je n k).length=n:=by unfold Je;simp;omega
theorem iG (n:Nat):Je n n=aL n:=by unfold Je aL;simp
theorem gK {n k m:Nat}(hk:k+m≤n)(hm:m≤k):F7 (bI (Je n k)) k (((bI (Je n k)).drop 0).take m)=bI (Je n (k+m)):=by
 rw [List.drop_zero,fP]
 have h1:(Je n k).take m=List.replicate m (-1):=by
  unfold Je
  rw [List.take_append_of_le_length (by rw [List.length_replicate];exact hm),List.take_replicate,Nat.min_eq_left hm]
 have h2:(Je n k).take k=List.replicate k (-1):=by
  unfold Je
  rw [List.take_append_of_le_length (by rw [List.length_replicate];omega),List.take_replicate,Nat.min_self]
 have h3:(Je n k).drop (k+m)=List.replicate (n-(k+m)) 0:=by
  unfold Je
  rw [List.drop_append,List.length_replicate,List.drop_of_length_le (by rw [List.length_replicate];omega),List.nil_append,List.drop_replicate]
  congr 1;omega
 unfold F7
 rw [h1,Ut,List.length_replicate,fP,pV,h2,h3,←oU,←oU]
 congr 1
 unfold Je
 rw [List.replicate_append_replicate]
theorem cO {n:Nat}(hn:0<n):F7 (bI (Je n 0)) 0 ((([[AV.int .i64 (-1)]]:List (List AV)).flatten).take 1)=bI (Je n 1):=by
 unfold Je
 obtain ⟨m,rfl⟩:∃m,n=m+1:=⟨n-1,by omega⟩
 simp [F7,bI,List.replicate_succ]
theorem kMul (x y:Nat)(hx:x<18446744073709551616)(hy:y<18446744073709551616):Ap Tryz.prog 233 [.int .u64 (x:Int),.int .u64 (y:Int)] (.tuple [.int .u64 ((x*y / 18446744073709551616:Nat):Int),.int .u64 ((x*y % 18446744073709551616:Nat):Int)]):=
 .of_same fun g w vs hg ha=>by
  obtain ⟨u,v,rfl,h1,h2⟩:=ha.inv2
  have e1:=h1.inv_int
  have e2:=h2.inv_int
  subst e1 e2
  exact ⟨_,fun g' w'=>.tuple _ _ rfl (fun i c hc=>by
   match i,hc with
   | 0,hc=>cases hc;exact .int _ _
   | 1,hc=>cases hc;exact .int _ _
   | i+2,hc=>simp at hc),Tryz.bits_Mul x y hx hy w⟩
theorem kMul1 (n:Nat)(hn:n≤1048576):Ap Tryz.prog 233 [.int .u64 1,.int .u64 (n:Int)] (.tuple [.int .u64 0,.int .u64 (n:Int)]):=by
 have h:=kMul 1 n (by decide) (by omega)
 rw [Nat.one_mul,Nat.div_eq_of_lt (by omega),Nat.mod_eq_of_lt (by omega)] at h
 exact h
theorem zA {n:Nat}(h:n≤1048576):IntKind.wrap .u64 (n:Int)=(n:Int):=by
 unfold IntKind.wrap
 simp [IntKind.bits,IntKind.signed]
 omega
theorem i64_in {n:Nat}(h:n≤1048576):IntKind.wrap .i64 (n:Int)=(n:Int):=IntWalk.i64_in _ (by omega)
theorem iP {l:List Int}{k:Nat}{v:Int}(h:k<l.length):(bI (l.set k v))[k]? = some (.int .i64 v):=by
 unfold bI;rw [List.getElem?_map,List.getElem?_set_self h];rfl
section
variable {T:List e8Sc} {n:Aq} {va:Va} {sc:e8Sc}
theorem rZ {l:List Va}{k:Nat}{out:List Int}(h:l[k]? = some va)(hs:T[va.type.toNat]? = some sc)(hq:decide (Ho sc n<0)=true):Xn T n (l.drop k) out=([],false):=by
 rw [Bj h,Xn,hs]
 exact if_pos hq
theorem xG {l:List Va}{k:Nat}{out:List Int}(h:l[k]? = some va)(hs:T[va.type.toNat]? = some sc)(hq:decide (Ho sc n<0)=false):Xn T n (l.drop k) out=Xn T n (l.drop (k+1)) (out.set va.type.toNat (Ho sc n)):=by
 rw [Bj h,Xn,hs]
 exact Bu hq
end
end Go.Proofs.YtckhoadldibflaaGreatDoor

namespace Go.Aw
open Go
section
variable {P:Program} {T:List (Nat×TD)} {d:Option Nat} {ty:TypeId} {pos:String} {aft:Array Edge} {gd:Option (Nat×Bool)} {ρ:Operand→AV} {K:List HO→Prop}
theorem Kj {i:Operand}{t e len:Nat}{td te:TD}{k:IntKind}{n:Int}{gl:Nat}{l cs':List AV}(hT:F4 P T)(hg:∃c,(gl,c)∈globals∧∀cs,c cs→cs=l)(hi:ρ i = .int k n)(ht:Bm T t=some td)(hk:td.kind = .array len e)
  (hte:Bm T e=some te) (h0:0≤n) (hc:n<len) (ho:l.drop (n.toNat*te.size)=cs') (hρ:ρ (.global gl) = .val (.pointer (some ⟨gl,0,none⟩))):Cf P ⟨d,.indexAddr t (.global gl) i,ty,pos,aft,gd⟩ ρ K (.ptr cs'):=by
 intro g w a H next Q hr hH hK hn
 obtain ⟨c,hc',hcl⟩:=hg
 obtain ⟨cs,h1,h2⟩:=hH.glob.vars _ hc'
 obtain rfl:=hcl cs h1
 obtain ⟨b,o,he,fv,h3,h4⟩:=h2.inv_ptr
 simp only [Value.pointer.injEq,Option.some.injEq,Addr.mk.injEq,and_true] at he
 obtain ⟨rfl,rfl⟩:=he
 have he:=(hρ▸hr (.global gl) (by simp [Op.operands]):Rep g w _ _).inv_val
 have h5:=(hi▸hr i (by simp [Op.operands]):Rep g w _ _).inv_int
 have hu:=I9 (hT t td ht) hk
 have hrun:(execOp a.eval ⟨d,.indexAddr t (.global gl) i,ty,pos,aft,gd⟩).run P w = .ok (.value (.pointer (some ⟨gl,0+n.toNat*te.size,none⟩))) w:=by
  simp only [execOp,he,h5,Instr.indexAt,asIntOf,Sem.run_bind,Sem.run_pure,Result.andThen_ok,A9 hu,Instr.sureAddr]
  simp [h0,hc,D1 (hT e te hte),D5]
 unfold Oper.wp
 rw [hrun]
 subst ho
 refine hn g w _ (.ptr gl (0+n.toNat*te.size) _ (fun j=>fv (n.toNat*te.size+j)) (fun j x hj=>?_) (fun j x hj=>?_)) hH (Ext.refl g w)
 ·
  rw [List.getElem?_drop] at hj
  have:=h3 (n.toNat*te.size+j) x hj
  rwa [Nat.add_assoc]
 ·
  rw [List.getElem?_drop] at hj
  exact h4 (n.toNat*te.size+j) x hj
end
end Go.Aw
namespace Go.Proofs.YtckhoadldibflaaGreatDoor
open Go Go.Aw

mutual
def Ga:Pt→List Pt
 | ⟨o,xs,t,v,s,n,c⟩=>⟨o,xs,t,v,s,n,c⟩::nG xs
def nG:List Pt→List Pt
 | []=>[]
 | a::r=>Ga a++nG r
end
theorem Zk:∀l:List Pt,nG l=l.flatMap Ga
 | []=>by rw [nG];rfl
 | a::r=>by rw [nG,Zk r,List.flatMap_cons]
theorem Q6 (p:Pt):Ga p=p::p.args.flatMap Ga:=by cases p;rw [Ga,Zk]
mutual
def Yo:Pt→Nat
 | ⟨_,xs,_,_,_,_,_⟩=>Q7 xs+1
def Q7:List Pt→Nat
 | []=>0
 | a::r=>max (Yo a) (Q7 r)
end
theorem cG (p:Pt):Yo p=Q7 p.args+1:=by cases p;rw [Yo]
theorem Vh:∀(l:List Pt) (a:Pt),Q7 (l ++ [a])=max (Q7 l) (Yo a)
 | [],a=>by simp [Q7]
 | x::r,a=>by rw [List.cons_append,Q7,Vh r a,Q7];omega
theorem dp_le:∀p:Pt,Yo p≤Hq p:=by
  intro p
  induction p using Pt.ind with
  | h p ih=>
    rw [cG,Jc]
    have:∀l:List Pt,(∀a∈l,Yo a≤Hq a)→Q7 l≤(l.map Hq).sum:=by
      intro l
      induction l with
      | nil=>intro _;rw [Q7];simp
      | cons x r ih2=>intro h;rw [Q7,List.map_cons,List.sum_cons];have:=h x (by simp);have:=ih2 fun a ha=>h a (by simp [ha]);omega
    have:=this _ ih
    omega
theorem Xm {p a:Pt}(h:a∈p.args):Hq a<Hq p:=by
  rw [Jc p]
  have:∀l:List Pt,a∈l→Hq a≤(l.map Hq).sum:=by
    intro l
    induction l with
    | nil=>intro h;cases h
    | cons x r ih => intro h; rw [List.map_cons, List.sum_cons]; rcases List.mem_cons.1 h with rfl | h
                     · omega
                     · have:=ih h;omega
  have:=this _ h
  omega
theorem bT (p:Pt):p.args.length<Hq p:=by
  rw [Jc]
  have:∀l:List Pt,l.length≤(l.map Hq).sum:=by
    intro l
    induction l with
    | nil=>simp
    | cons x r ih => rw [List.length_cons, List.map_cons, List.sum_cons]; have : 1 ≤ Hq x := by rw [Jc]; omega
                     omega
  have:=this p.args
  omega
theorem fB:∀(l:List Pt) (k:Nat),((l.take k).map Hq).sum≤(l.map Hq).sum
 | [],k=>by simp
 | x::r,0=>by simp
 | x::r,k+1=>by rw [List.take_succ_cons,List.map_cons,List.map_cons,List.sum_cons,List.sum_cons];have:=fB r k;omega
theorem zX:∀p:Pt,(Ga p).length=Hq p:=by
  intro p
  induction p using Pt.ind with
  | h p ih=>
    rw [Q6,Jc,List.length_cons]
    have:∀l:List Pt,(∀a∈l,(Ga a).length=Hq a)→(l.flatMap Ga).length=(l.map Hq).sum:=by
      intro l
      induction l with
      | nil=>intro _;rfl
      | cons x r ih2=>intro h;rw [List.flatMap_cons,List.length_append,List.map_cons,List.sum_cons,h x (by simp),ih2 fun a ha=>h a (by simp [ha])]
    rw [this _ ih]
theorem xC {p a q:Pt}(h:a∈p.args)(hq:q∈Ga a):q∈Ga p:=by
 rw [Q6]
 exact List.mem_cons_of_mem _ (List.mem_flatMap.2 ⟨a,h,hq⟩)
theorem tZ (p:Pt):p∈Ga p:=by rw [Q6];exact List.mem_cons_self ..
theorem wR {l:List Pt}{k:Nat}{a:Pt}(h:l[k]? = some a):(l.map Si)[k]? = some (cPt a):=by rw [List.getElem?_map,h];exact congrArg some (Xc a)

structure Shp where
 least:Int
 most:Int
 typed:Bool
 cond:Bool
 scope:Bool
 span:Bool
def yO (s:Shp):List AV:=[.int .i64 s.least,.int .i64 s.most,.bool s.typed,.bool s.cond,.bool s.scope,.bool s.span]
def shpL:List Shp:=[⟨0,0,true,true,false,false⟩,⟨2,64,false,false,false,false⟩,⟨2,64,false,false,false,false⟩,⟨2,64,false,false,false,false⟩,⟨1,1,false,false,false,false⟩,⟨1,1,true,true,true,false⟩,⟨1,1,false,false,true,true⟩,⟨1,1,false,true,false,false⟩,⟨2,2,false,false,false,false⟩,⟨1,1,true,true,true,false⟩,⟨1,1,false,false,true,true⟩]
def Oj (o:Int):Shp:=(shpL[o.toNat]?).getD ⟨0,0,false,false,false,false⟩
theorem oO {o:Int}(h0:0≤o)(h1:o<11):∃rest,Of.drop (o.toNat*6)=yO (Oj o)++rest:=by
 have:o=0∨o=1∨o=2∨o=3∨o=4∨o=5∨o=6∨o=7∨o=8∨o=9∨o=10:=by omega
 rcases this with rfl | rfl | rfl | rfl | rfl | rfl | rfl | rfl | rfl | rfl | rfl <;> exact ⟨_,rfl⟩
def wth (u:Bool)(n m:Int):Bool:=!u||(decide (0≤n)&&decide (n≤m))
def unu (u:Bool)(n:Int):Bool:=u||(n==0)
def ckB (p:Pt)(s:Shp):Bool:=(((!wth s.typed p.type 15) || !wth s.typed p.var 15) || !wth s.scope p.scope 63) || !wth s.span p.span 1099511627776
def ckU (p:Pt)(s:Shp):Bool:=(((((!s.cond) && !E2 p.cond Sk) || !unu s.typed p.type) || !unu s.typed p.var) || !unu s.scope p.scope) || !unu s.span p.span
def ckR (p:Pt)(s:Shp):Int:=
 if decide ((p.args.length:Int)<s.least)||decide (s.most<(p.args.length:Int)) then 15
 else if ckB p s then 2
 else if s.cond&&(Cj p.cond != 0) then Cj p.cond
 else if ckU p s then 3 else 0
def Uw (p:Pt):Int:=if decide (p.op<0)||decide (11≤p.op) then 1 else ckR p (Oj p.op)
section
variable {p:Pt}
theorem ck_1 (h:(decide (p.op<0)||decide (11≤p.op))=true):Uw p=1:=if_pos h
theorem ck_2 (h:(decide (p.op<0)||decide (11≤p.op))=false)(h2:(decide ((p.args.length:Int)<(Oj p.op).least)||decide ((Oj p.op).most<(p.args.length:Int)))=true):Uw p=15:=(Bu h).trans (if_pos h2)
theorem ck_3 (h:(decide (p.op<0)||decide (11≤p.op))=false)(h2:(decide ((p.args.length:Int)<(Oj p.op).least)||decide ((Oj p.op).most<(p.args.length:Int)))=false)(h3:ckB p (Oj p.op)=true):Uw p=2:=(Bu h).trans ((Bu h2).trans (if_pos h3))
theorem ck_4 (h:(decide (p.op<0)||decide (11≤p.op))=false)(h2:(decide ((p.args.length:Int)<(Oj p.op).least)||decide ((Oj p.op).most<(p.args.length:Int)))=false)(h3:ckB p (Oj p.op)=false)(h4:(Oj p.op).cond=true)(h5:(Cj p.cond != 0)=true):Uw p=Cj p.cond:=by
 refine (Bu h).trans ((Bu h2).trans ((Bu h3).trans (if_pos ?_)))
 rw [h4,h5];rfl
theorem tX (h:(decide (p.op<0)||decide (11≤p.op))=false)(h2:(decide ((p.args.length:Int)<(Oj p.op).least)||decide ((Oj p.op).most<(p.args.length:Int)))=false)(h3:ckB p (Oj p.op)=false)(h4:((Oj p.op).cond&&(Cj p.cond != 0))=false):Uw p=if ckU p (Oj p.op) then 3 else 0:=(Bu h).trans ((Bu h2).trans ((Bu h3).trans (Bu h4)))
end

def Jg (p:Pt):Int:=if decide ((64:Int)<(Hq p:Int)) then 5 else if decide ((12:Int)<(Yo p:Int)) then 12 else Ca Uw (Ga p)
def Ml (p:Pt):Int:=if (Jg p != 0) then Jg p else if (Ga p).any (fun q=>decide (8≤q.op)) then 1 else 0
structure Cnt where
 vars:Int
 scopes:Int
 ok:Bool
def Jz (c:Cnt)(q:Pt):Cnt:=
 ⟨if (Oj q.op).typed then c.vars+1 else c.vars,if (Oj q.op).scope then c.scopes+1 else c.scopes,(c.ok&&(!(Oj q.op).typed||(q.var==c.vars)))&&(!(Oj q.op).scope||(q.scope==c.scopes))⟩
def Kg (p:Pt):Cnt:=(Ga p).foldl Jz ⟨0,0,true⟩
def Pv (p:Pt):Int:=if (Ml p != 0) then Ml p else if !(Kg p).ok then 14 else 0

section
variable {S:Type} (live:S→Bool) (step:S→Pt→S)
def Mx:S→List Pt→S
 | s,[]=>s
 | s,p::r=>if live s then Mx (step s p) r else s
theorem O8 {s:S}(h:live s=false):∀l,Mx live step s l=s
 | []=>rfl
 | p::r=>by rw [Mx,if_neg (by rw [h];decide)]
theorem Xz:∀(l m:List Pt) (s:S),Mx live step s (l++m)=Mx live step (Mx live step s l) m
  | [],m,s=>rfl
  | p::r,m,s=>by
    rw [List.cons_append,Mx,Mx]
    cases h:live s with
    | true=>rw [if_pos rfl,if_pos rfl];exact Xz r m _
    | false=>rw [if_neg (by decide),if_neg (by decide),O8 live step h]
theorem bX {s:S}(hs:live s=true)(p:Pt):Mx live step s (Ga p)=Mx live step (step s p) (p.args.flatMap Ga):=by
 rw [Q6,Mx,if_pos hs]
theorem V5 {Good:S→Nat→Prop}(hmo:∀s n m,Good s n→m≤n→Good s m)(hgo:∀s q n,Good s (n+1)→Good (step s q) n):∀(l:List Pt) (s:S) (m:Nat),Good s (l.length+m)→Good (Mx live step s l) m
  | [],s,m,h=>by rw [Mx];simpa using h
  | p::r,s,m,h=>by
    rw [Mx]
    cases hl:live s with
    | false=>rw [if_neg (by decide)];exact hmo _ _ _ h (by omega)
    | true=>
      rw [if_pos rfl]
      exact V5 hmo hgo r _ m (hgo _ _ _ (by rw [List.length_cons] at h;rw [show r.length+m+1=r.length+1+m by omega];exact h))
theorem jZ {s:S}(hs:live s=true){p:Pt}(h:live (step s p)=false):Mx live step s (Ga p)=step s p:=by
 rw [bX live step hs,O8 live step h]
theorem Tb {s:S}{l:List Pt}{k:Nat}{a:Pt}(h:l[k]? = some a):Mx live step s ((l.take (k+1)).flatMap Ga)=Mx live step (Mx live step s ((l.take k).flatMap Ga)) (Ga a):=by
 rw [Fs h,List.flatMap_append,Xz];simp
theorem uC {s:S}{l:List Pt}{k:Nat}{a:Pt}(h:l[k]? = some a)(hd:live (Mx live step s ((l.take (k+1)).flatMap Ga))=false):Mx live step s (l.flatMap Ga)=Mx live step s ((l.take (k+1)).flatMap Ga):=by
 conv=>lhs;rw [←List.take_append_drop (k+1) l,List.flatMap_append,Xz]
 rw [O8 live step hd]
end
end Go.Proofs.YtckhoadldibflaaGreatDoor

namespace Go.Aw
open Go

section
variable {l:Nat} {P:Program} {Q:Exit→St→Prop} {s:St}
theorem aZ.ret (h:Q .ret s):aZ l P .ret Q s:=fun n Q' g a w hG hQ=>wpIn_ret (hQ _ g s a w hG (Ext.refl g w) h)
theorem aZ.skip (h:Q .normal s):aZ l P .skip Q s:=fun n Q' g a w hG hQ=>wpIn_skip (hQ _ g s a w hG (Ext.refl g w) h)
theorem aZ.seq {x y:Code}(h:aZ l P x (Ih (aZ l P y Q) Q) s):aZ l P (.seq x y) Q s:=by
 intro n Q' g a w hG hQ
 refine wpIn_seq (h n _ g a w hG fun e g' s' a' w' hG' hx hq=>?_)
 cases e with
 | normal=>exact hq n Q' g' a' w' hG' fun e g'' s'' a'' w'' h1 h2 h3=>hQ e g'' s'' a'' w'' h1 (hx.trans h2) h3
 | _=>exact hQ _ g' s' a' w' hG' hx hq
theorem aZ.cond {c:Operand}{x y:Code}{b:Bool}(hb:Ej s.sl c = .bool b)(ht:b=true→aZ l P x Q s)(hf:b=false→aZ l P y Q s):aZ l P (.cond c x y) Q s:=by
 intro n Q' g a w hG hQ
 have hv:=(hb▸hG.eval c:Rep g w _ _).inv_bool
 exact wpIn_cond_split hv (fun h=>ht h n Q' g a w hG hQ) (fun h=>hf h n Q' g a w hG hQ)
end

theorem K5.ofE {P:Program}{l:Nat}{rec:Loop}{H:List HO}{args:List AV}{R:AV→List HO→Prop}{sl:List (Nat×AV)}{n0:Nat}(hst:rec.state = .ready)(hpe:rec.pending=none)
  (hsz:rec.tmps.size=n0) (hsl:∀g w vs,Cd g w vs args→∀j,Rep g w (((rec.params.zip vs).foldl (fun t (p,v)=>t.setIfInBounds p v) rec.tmps).getD j undef) (get sl j))
  (h:aZ l P rec.assign (fun e s1=>e = .normal∧∃i:Nat,s1.H[i]? = some (HO.obj l (Obj.loop rec))∧aZ l P rec.body (fun e s2=>∃j:Nat,s2.H[j]? = some (HO.obj l (Obj.loop { rec with state:=.busy }))∧
   ((e = .normal∧R (.bool true) (s2.H.set j (.obj l (.loop rec))))∨(e = .ret∧R (.bool false) (s2.H.set j (.obj l (.loop { rec with state:=.done,pending:=some .ret })))))) ⟨s1.sl,s1.H.set i (.obj l (.loop { rec with state:=.busy })),s1.n⟩) ⟨sl,H,n0⟩):K5 P l rec H args R:=by
 intro n g w vs hH hr
 refine roundIn_of_wpIn trivial ?_
 have hfs:∀(L:List (Tmp×Value)) (t:Array Value),(L.foldl (fun t (p,v)=>t.setIfInBounds p v) t).size=t.size:=by
  intro L;induction L with
  | nil=>intro t;rfl
  | cons p r ih=>intro t;rw [List.foldl_cons,ih];simp
 have hG:Gm g ⟨sl,H,n0⟩ { tmps:=(rec.params.zip vs).foldl (fun t (p,v)=>t.setIfInBounds p v) rec.tmps,defers:=[] } w:=
  ⟨by rw [←Array.foldl_toList];exact (hfs _ _).trans hsz,rfl,fun j=>hsl g w vs hr j,hH⟩
 refine h n _ g _ w hG ?_
 rintro e g1 s1 a1 w1 hG1 hx1 ⟨rfl,i,hi,hb⟩
 have hob:(HO.obj l (.loop rec)).ok g1 w1:=hG1.heap.ok _ (List.mem_of_getElem? hi)
 refine ⟨_,run_beginRound hob.2 hst,?_⟩
 obtain ⟨hG2,hx2⟩:=hG1.putObj (.loop { rec with state:=.busy }) hi
 refine hb n _ g1 a1 _ hG2 ?_
 rintro e g3 s3 a3 w3 hG3 hx3 ⟨j,hj,hR⟩
 have hob3:(HO.obj l (.loop { rec with state:=.busy })).ok g3 w3:=hG3.heap.ok _ (List.mem_of_getElem? hj)
 rcases hR with ⟨rfl,hR⟩ | ⟨rfl,hR⟩
 ·
  obtain ⟨hG4,hx4⟩:=hG3.putObj (.loop rec) hj
  refine ⟨_,_,run_endRound none hob3.2,_,g3,.bool true,_,rfl,.bool _,?_,?_,hR⟩
  ·
   have:({ ({ rec with state:=.busy }:Loop) with state:=if (none:Option Code).isNone then .ready else .done,pending:=none }:Loop)=rec:=by
    cases rec;simp only at hst hpe;subst hst;subst hpe;rfl
   rw [this];exact hG4.heap
  ·
   have:({ ({ rec with state:=.busy }:Loop) with state:=if (none:Option Code).isNone then .ready else .done,pending:=none }:Loop)=rec:=by
    cases rec;simp only at hst hpe;subst hst;subst hpe;rfl
   rw [this];exact ((hx1.trans hx2).trans hx3).trans hx4
 ·
  obtain ⟨hG4,hx4⟩:=hG3.putObj (.loop { rec with state:=.done,pending:=some .ret }) hj
  exact ⟨_,_,run_endRound (some .ret) hob3.2,_,g3,.bool false,_,rfl,.bool _,hG4.heap,((hx1.trans hx2).trans hx3).trans hx4,hR⟩

theorem AW.regionY2 {P:Program}{Q:Exit→St→Prop}{s:St}{id:Nat}{ops:Array Oper}{pre post:List Oper}{d:Nat}{cal:Operand}{args:Array Operand}{ats:Array TypeId}{ty:TypeId}{pos:String}{aft:Array Edge}
  (hops:ops.toList=pre++⟨some d,.call ⟨.value cal,args,ats⟩,ty,pos,aft,none⟩::post) (hnd:M7 pre=true) (hnd2:M7 post=true)
  (h:AOL P ops (fun s'=>∃l rec R,(∃i:Nat,s'.H[i]? = some (HO.obj l (Obj.loop rec)))∧Ej s'.sl cal = .val (.func (.yield l) #[] #[])∧args.size=rec.params.size∧Lz (some d) s'.n=true∧
   K5 P l rec s'.H (args.toList.map (Ej s'.sl)) R∧∀x H',R x H'→AOL P ops (Q .normal) post ⟨D0 (some d) x s'.sl,H',s'.n⟩) pre s):AW P (.region id ops false) Q s:=by
 intro Q' g a w hG hQ
 refine (wpIn_wide (n:=1)).1 ?_
 rw [←wideN]
 refine wpIn_region_list ?_
 rw [hops]
 refine E7 pre _ a w (Mu hnd) ?_
 refine h.run _ g a w hG ?_
 rintro g' s' a' w' hG' hx ⟨l,rec,R,⟨i,hi⟩,hcal,hlen,hd,hr,hk⟩
 show wpListIn _ 1 P ops Q' (_::post) a' w'
 unfold wpListIn
 rw [if_pos (Dj rfl)]
 refine ⟨fun _ _=>trivial,?_⟩
 have hobj:(HO.obj l (.loop rec)).ok g' w':=hG'.heap.ok _ (List.mem_of_getElem? hi)
 have hv:a'.eval cal = .func (.yield l) #[] #[]:=(hcal▸hG'.eval cal:Rep g' w' _ _).inv_val
 have hargs:Cd g' w' (args.map a'.eval) (args.toList.map (Ej s'.sl)):=Pe (ρ:=Ej s'.sl) (a:=a') (g:=g') (w:=w') (args:=args) (fun y _=>hG'.eval y) rfl
 have hrun:(execOp a'.eval ⟨some d,.call ⟨.value cal,args,ats⟩,ty,pos,aft,none⟩).run P w' = .ok (.round l rec.fn ((rec.params.zip (args.map a'.eval)).foldl (fun t (p,v)=>t.setIfInBounds p v) rec.tmps) rec.assign rec.body) w':=by
  have hy:=run_yield (P:=P) (args:=args.map a'.eval) hobj.2 (by simpa using hlen)
  simp only [execOp,resolve,Sem.run_bind,hv,Deferred.ofValue,Sem.run_pure,Result.andThen_ok,invoke]
  simpa using hy
 rw [Oper.semAt_eq _ _ _ (fun c e=>by cases e),hrun]
 refine ⟨fun e=>(by cases e),(hr _ g' w' _ hG'.heap hargs).mono ?_⟩
 rintro e w'' ⟨v,g'',r,H',rfl,k1,k2,k3,k4⟩
 have hpost:=hk r H' k4
 have:=E7 (ro:=none) (n:=1) (Q:=Q') post [] _ w'' (Mu hnd2) (hpost.run _ g'' _ w'' (hG'.put k3 hd k1 k2) fun g3 s3 a3 w3 h1 h2 h3=>hQ _ g3 s3 a3 w3 h1 ((hx.trans k3).trans h2) h3)
 simpa using this

theorem AW.regionYk {P:Program}{Q:Exit→St→Prop}{s:St}{id:Nat}{ops:Array Oper}(k:Nat){d:Nat}{cal:Operand}{args:Array Operand}{ats:Array TypeId}{ty:TypeId}{pos:String}{aft:Array Edge}
  (hops:ops.toList[k]? = some ⟨some d,.call ⟨.value cal,args,ats⟩,ty,pos,aft,none⟩) (hnd:M7 (ops.toList.take k)=true) (hnd2:M7 (ops.toList.drop (k+1))=true)
  (h:AOL P ops (fun s'=>∃l rec R,(∃i:Nat,s'.H[i]? = some (HO.obj l (Obj.loop rec)))∧Ej s'.sl cal = .val (.func (.yield l) #[] #[])∧args.size=rec.params.size∧Lz (some d) s'.n=true∧
   K5 P l rec s'.H (args.toList.map (Ej s'.sl)) R∧∀x H',R x H'→AOL P ops (Q .normal) (ops.toList.drop (k+1)) ⟨D0 (some d) x s'.sl,H',s'.n⟩) (ops.toList.take k) s):AW P (.region id ops false) Q s:=by
 refine AW.regionY2 (pre:=ops.toList.take k) (post:=ops.toList.drop (k+1)) (ats:=ats) (ty:=ty) (pos:=pos) (aft:=aft) ?_ hnd hnd2 h
 obtain ⟨hlt,he⟩:=List.getElem?_eq_some_iff.1 hops
 rw [←he,List.getElem_cons_drop,List.take_append_drop]

def yQ (P:Program)(z:Code)(Qs:St→Prop)(s:St):Prop:=
 ∀(Q':Exit→Act→World→Prop) (g:Gh) (a:Act) (w:World) (ds:List Deferred),Gm g s a w→(∀g' s' a' w',Gm g' s' a' w'→Ext g w g' w'→Qs s'→Q' .ret (Act.more a' ds) w')→z.wp P Q' (Act.more a ds) w
theorem S3 {P:Program}{ops:Array Oper}{Q:Exit→Act→World→Prop}{ds:List Deferred}:∀(l:List Nat) (a:Act) (w:World),wpOps P ops Q l a w→wpOps P ops (Y1 ds Q) l (Act.more a ds) w
  | [],a,w,h=>⟨a,rfl,h⟩
  | i::rest,a,w,h=>by
    have h':wpOp P ops Q i (wpOps P ops Q rest) a w:=by
      unfold wpOp;unfold wpOps at h;exact h
    have:=Vx (ds:=ds) (K':=wpOps P ops (Y1 ds Q) rest) (fun a w h=>S3 rest a w h) h'
    unfold wpOp at this
    unfold wpOps
    exact this
theorem yQ.region {P:Program}{id:Nat}{ops:Array Oper}{Qs:St→Prop}{s:St}(h:AOL P ops Qs ops.toList s):yQ P ((Code.region id ops false).seq .ret) Qs s:=by
 intro Q' g a w ds hG hQ
 have key:=Iz (P:=P) (ops:=ops) ops.toList 0 a w (by simp) (h.run (fun e a' w'=>match e with | .normal=>Q' .ret (Act.more a' ds) w' | _=>False) g a w hG fun g' s' a' w' h1 h2 h3=>hQ g' s' a' w' h1 h2 h3)
 rw [←List.range_eq_range'] at key
 have key2:=S3 (ds:=ds) _ _ _ key
 refine wp_seq (wp_mono (wp_region (by simpa using key2)) ?_)
 rintro e a' w' ⟨a0,rfl,hq⟩
 cases e with
 | normal=>exact wp_ret hq
 | _=>exact hq.elim
theorem yQ.drawn {P:Program}{id:Nat}{ops:Array Oper}{Qs:St→Prop}{s:St}(h:AWD P (.region id ops true) Qs s):yQ P ((Code.region id ops true).seq .ret) Qs s:=by
 intro Q' g a w ds hG hQ
 cases h with
 | draw hm K hK hdd hC=>exact fU hm K hK hdd hC hG ds hQ

theorem AWX.rangeE {P:Program}{T:List (Nat×TD)}(hT:F4 P T){fn:Func}{R:AV→List HO→Prop}{Q:Exit→St→Prop}{s:St}{go:Operand}{ps:Array Tmp}{assign body z:Code}{bid gf:Nat}{lb:List AV}(Z Y:List HO→Prop)
  (hg:Ej s.sl go = .fn (.func gf) [] lb) (hf:Oo P gf=true)
  (hit:∀(rec:Loop) (D l:Nat),rec.state = .ready→rec.pending=none→rec.params=ps→rec.assign=assign→rec.body=body→rec.tmps.size=s.n→(∀t v,get s.sl t = .val v→rec.tmps.getD t undef=v)→
   Bw P gf (.obj l (.loop rec) :: .obj D (.deferred (some []))::s.H) (.val (.func (.yield l) #[] #[])::lb)
    (fun r H'=>∃rec' H2,H' = .obj l (.loop rec') :: .obj D (.deferred (some []))::H2∧rec'.state≠.busy∧((rec'.pending=none∧Z H2)∨(rec'.pending=some .ret∧Y H2))))
  (ht:∀D H2,Z H2→yQ P z (Aab P T fn R D) ⟨s.sl,.obj D (.deferred (some []))::H2,s.n⟩)
  (hy:∀D H2,Y H2→∃s2,GS ⟨s.sl,.obj D (.deferred (some []))::H2,s.n⟩ s2∧Aab P T fn R D s2) :
  AWX2 P (Code.block bid (.rangeFunc go ps assign body)) z Q (Zn P fn R) s:=by
 intro Q' g0 a w hG hQ hX
 refine wp_block ((wpIn_wide (n:=1)).1 (wpIn_rangeFunc ?_))
 intro f0 _
 obtain ⟨vs0,us,hv,h1,h2⟩:=(hg▸hG.eval go:Rep g0 w _ _).inv_fn
 have hvs0:vs0 = #[]:=Array.size_eq_zero_iff.1 (by simpa using h1.1)
 subst hvs0
 obtain ⟨rec,hrec⟩:∃rec:Loop,rec=⟨.ready,none,f0,a.tmps,ps,assign,body,w.heap.size⟩:=⟨_,rfl⟩
 obtain ⟨W1,hW1⟩:∃W1,(w.alloc (.deferred (some []))).alloc (.loop rec)=W1:=⟨_,rfl⟩
 have hs1:(w.alloc (.deferred (some []))).heap.size=w.heap.size+1:=World.size_alloc ..
 have hx1:=Ext.alloc g0 w (.deferred (some [])) (some 0)
 have hH1:HOK (g0.put w.heap.size (some 0)) (w.alloc (.deferred (some []))) (.obj w.heap.size (.deferred (some []))::s.H):=
  (hG.heap.alloc (.deferred (some [])) (some 0)).cons ⟨Gh.Aar ..,B8 ..⟩ fun b hb x hx e=>by
   cases hb
   exact absurd (HO.ok_lt (hG.heap.ok x hx) e).1 (Nat.lt_irrefl _)
 have hx2:=Ext.alloc (g0.put w.heap.size (some 0)) (w.alloc (.deferred (some []))) (.loop rec) (some 0)
 have hH2:=(hH1.alloc (.loop rec) (some 0)).cons (o:=.obj (w.alloc (.deferred (some []))).heap.size (.loop rec)) ⟨Gh.Aar ..,B8 ..⟩ fun b hb x hx e=>by
   cases hb
   exact absurd (HO.ok_lt (hH1.ok x hx) e).1 (Nat.lt_irrefl _)
 rw [hs1] at hH2 hx2
 rw [hW1] at hH2 hx2
 refine ⟨w.heap.size+1,[Qb w.heap.size],W1,{ target:=.fn (.func gf) us,args:=#[.func (.yield (w.heap.size+1)) #[] #[]] },W1,gf,#[.func (.yield (w.heap.size+1)) #[] #[]]++us,W1,?_,?_,fun _ _=>trivial,?_,fun e=>(by cases e),?_⟩
 · rw [←hW1,hrec];exact run_enterLoop_outer _ _ _ _ _
 ·
  simp only [resolve,hv]
  simp [go_sem]
 · simp [invoke,go_sem,Pu hf]
 ·
  have hx12:=hx1.trans hx2
  refine callsIn_wide.2 ((hit rec w.heap.size (w.heap.size+1) (by rw [hrec]) (by rw [hrec]) (by rw [hrec]) (by rw [hrec]) (by rw [hrec]) (by rw [hrec];exact hG.size) (by rw [hrec];exact fun t v hv=>(hv▸hG.sl t:Rep g0 w _ _).inv_val) _ W1 _ hH2 ?_).mono ?_)
  ·
   have h2':=h2.mono hx12
   exact Cd.append (xs:=[.val (.func (.yield (w.heap.size+1)) #[] #[])]) ⟨rfl,fun i x hi=>by
    cases i with
    | zero=>simp at hi;subst hi;exact .val _
    | succ i=>simp at hi⟩ h2'
  ·
   rintro e w3 ⟨v,g3,r,H',rfl,hr3,hH3,hx3,rec',H2,rfl,hnb,hz⟩
   have hob:(HO.obj (w.heap.size+1) (.loop rec')).ok g3 w3:=hH3.ok _ (List.mem_cons_self ..)
   obtain ⟨hH4,hx4⟩:=Rs hH3 (i:=0) (.loop { rec' with state:=.exhausted }) rfl
   refine ⟨rec'.pending,_,run_endLoop hob.2 hnb,?_⟩
   obtain ⟨st',pe',f',t',p',as',bo',de'⟩:=rec'
   have ha:({ a with defers:=[Qb w.heap.size]++a.defers }:Act)=Act.more a [Qb w.heap.size]:=by
    unfold Act.more;rw [hG.defers];rfl
   rw [ha]
   have hxa:=(hx12.trans hx3).trans hx4
   have fin:∀g5 s5 a5 w5,Gm g5 s5 a5 w5→Ext g0 w g5 w5→Aab P T fn R w.heap.size s5→Q' .ret (Act.more a5 [Qb w.heap.size]) w5:=fun g5 s5 a5 w5 hG5 hx5 hq=>by
    obtain ⟨i,hi,xs,hr,H3,hsub,hR⟩:=hq
    obtain ⟨hG6,hx6⟩:=hG5.putObj (.deferred none) hi
    have hob5:(HO.obj w.heap.size (.deferred (some []))).ok g5 w5:=hG5.heap.ok _ (List.mem_of_getElem? hi)
    obtain ⟨v6,k1,k2⟩:=Mj hT hr hG6
    refine hX _ _ _ ⟨rfl,w.heap.size,by show a5.defers++_=_;rw [hG5.defers];rfl,hob5.2,v6,g5,_,H3,k1,k2,hG6.heap.sub hsub,hx5.trans hx6,hR⟩
   have hG4:Gm g3 ⟨s.sl,.obj w.heap.size (.deferred (some []))::H2,s.n⟩ a (w3.putObj (w.heap.size+1) (.loop ⟨.exhausted,pe',f',t',p',as',bo',de'⟩)):=⟨hG.size,hG.defers,fun i=>(hG.sl i).mono hxa,hH4.sub (List.sublist_cons_self ..)⟩
   rcases hz with ⟨hp,hz⟩ | ⟨hp,hz⟩
   ·
    obtain rfl:pe'=none:=hp
    exact ht w.heap.size H2 hz Q' g3 a _ [Qb w.heap.size] hG4 fun g5 s5 a5 w5 hG5 hx5 hq=>fin g5 s5 a5 w5 hG5 (hxa.trans hx5) hq
   ·
    obtain rfl:pe'=some .ret:=hp
    obtain ⟨s2,hgs,he⟩:=hy w.heap.size H2 hz
    obtain ⟨g4,hG5,hx7⟩:=hgs _ _ _ hG4
    exact wpIn_ret (fin g4 s2 a _ hG5 (hxa.trans hx7) he)
end Go.Aw
