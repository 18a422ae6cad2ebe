/-
  Several texts in one: R7, R8, Rar, R9, R10, R11, R12. No condition.
-/
import Derived.Test.YtckhoadldibflaaGreatDoorK06
import Derived.IntWalk
import Derived.Test.YtckhoadldibflaaGreatDoorK02
import Derived.ControlIn
set_option linter.unusedVariables false
set_option linter.unusedSimpArgs false
namespace Go.Proofs.YtckhoadldibflaaGreatDoor
open Go Go.Aw
def ixI (l:List Int)(k:Int):Int:=(l[k.toNat]?).getD 0
def bI (l:List Int):List AV:=l.map (AV.int .i64)
def cI (v:Int):List AV:=[.int .i64 v]
theorem Xv (l:List Int):(bI l).length=l.length:=Dx ..
theorem bI_sc (l:List Int):Bb (bI l)=true:=by
 induction l with
 | nil=>rfl
 | cons a r ih=>exact ih
theorem xN (l m:List Int):bI (l++m)=bI l++bI m:=aF ..
theorem nH (l:List Int)(k:Nat):(bI l).take k=bI (l.take k):=(List.map_take ..).symm
theorem bI_drop (l:List Int)(k:Nat):(bI l).drop k=bI (l.drop k):=(List.map_drop ..).symm
theorem bI_zero (n:Nat):(List.replicate n [AV.int .i64 0]).flatten=bI (List.replicate n 0):=by
 induction n with
 | zero=>rfl
 | succ n ih=>rw [List.replicate_succ,Ca,ih,List.replicate_succ];rfl
theorem bI_flat (l:List Int):(l.map cI).flatten=bI l:=by
 induction l with
 | nil=>rfl
 | cons a r ih=>rw [Dn,Ca,ih];rfl
theorem uJ {α:Type}{f:α→List AV}(hf:∀x,(f x).length=1)(l:List α):∀e∈l.map f,e.length=1:=fun e he=>by
 obtain ⟨x,_,rfl⟩:=Mu.1 he;exact hf x
theorem yW:∀{l:List Int} {k:Nat} {v:Int},k<l.length→Hq (bI l) k [AV.int .i64 v]=bI (l.set k v)
  | [],k,v,h=>absurd h (by simp)
  | a::r,0,v,h=>by simp [Hq,bI]
  | a::r,k+1,v,h=>by
    have ih:=yW (l:=r) (k:=k) (v:=v) (by simpa using h);show AV.int .i64 a::Hq (bI r) k [AV.int .i64 v]=_;rw [ih];rfl
theorem off0 (n:Nat):0+n*1=n:=by omega
theorem bI_fits {l:List Int}{k:Nat}(h:k<l.length):Nat.ble (k+1) (bI l).length=true:=Nat.ble_eq_true_of_le (by rw [Xv];omega)

def jY (n:Nat):List Int:=List.replicate n (-1)
def Lp (n k:Nat):List Int:=List.replicate k (-1)++List.replicate (n-k) 0
theorem Xq {n k:Nat}(h:k≤n):(Lp n k).length=n:=by unfold Lp;simp;omega
theorem rR (n:Nat):Lp n n=jY n:=by unfold Lp jY;simp
theorem rP {n k m:Nat}(hk:k+m≤n)(hm:m≤k):Hq (bI (Lp n k)) k (((bI (Lp n k)).drop 0).take m)=bI (Lp n (k+m)):=by
 rw [Tm,nH]
 have h1:(Lp n k).take m=List.replicate m (-1):=by
  unfold Lp;rw [List.take_append_of_le_length (by rw [aB];exact hm),List.take_replicate,Nat.min_eq_left hm]
 have h2:(Lp n k).take k=List.replicate k (-1):=by
  unfold Lp;rw [List.take_append_of_le_length (by rw [aB];omega),List.take_replicate,Nat.min_self]
 have h3:(Lp n k).drop (k+m)=List.replicate (n-(k+m)) 0:=by
  unfold Lp;rw [List.drop_append,aB,List.drop_of_length_le (by rw [aB];omega),Je,List.drop_replicate]
  congr 1;omega
 unfold Hq;rw [h1,Xv,aB,nH,bI_drop,h2,h3,←xN,←xN]
 congr 1
 unfold Lp;rw [List.replicate_append_replicate]
theorem mM {n:Nat}(hn:0<n):Hq (bI (Lp n 0)) 0 ((([[AV.int .i64 (-1)]]:List (List AV)).flatten).take 1)=bI (Lp n 1):=by
 unfold Lp;obtain ⟨m,rfl⟩:∃m,n=m+1:=⟨n-1,by omega⟩;simp [Hq,bI,List.replicate_succ]
theorem kMul (x y:Nat)(hx:x<18446744073709551616)(hy:y<18446744073709551616):Ap Tryz.prog 233 [.int .u64 (x:Int),.int .u64 (y:Int)] (.tuple [.int .u64 ((x*y / 18446744073709551616:Nat):Int),.int .u64 ((x*y % 18446744073709551616:Nat):Int)]):=
 .of_same fun g w vs hg ha=>by
  obtain ⟨u,v,rfl,h1,h2⟩:=ha.inv2;have e1:=h1.inv_int;have e2:=h2.inv_int;subst e1 e2
  exact ⟨_,fun g' w'=>.tuple _ _ rfl (fun i c hc=>by
   match i,hc with
   | 0,hc=>cases hc;exact .int _ _
   | 1,hc=>cases hc;exact .int _ _
   | i+2,hc=>simp at hc),Tryz.bits_Mul x y hx hy w⟩
theorem kMul1 (n:Nat)(hn:n≤1048576):Ap Tryz.prog 233 [.int .u64 1,.int .u64 (n:Int)] (.tuple [.int .u64 0,.int .u64 (n:Int)]):=by
 have h:=kMul 1 n (by decide) (by omega);rw [Nat.one_mul,Nat.div_eq_of_lt (by omega),Nat.mod_eq_of_lt (by omega)] at h;exact h
theorem u64_in {n:Nat}(h:n≤1048576):IntKind.wrap .u64 (n:Int)=(n:Int):=by
 unfold IntKind.wrap;simp [IntKind.bits,IntKind.signed];omega
theorem i64_in {n:Nat}(h:n≤1048576):IntKind.wrap .i64 (n:Int)=(n:Int):=IntWalk.i64_in _ (by omega)
theorem qE {l:List Int}{k:Nat}{v:Int}(h:k<l.length):(bI (l.set k v))[k]? = some (.int .i64 v):=by
 unfold bI;rw [List.getElem?_map,List.getElem?_set_self h];rfl
section
variable {T:List e8Sc} {n:Am} {va:Va} {sc:e8Sc}
theorem zF {l:List Va}{k:Nat}{out:List Int}(h:l[k]? = some va)(hs:T[va.type.toNat]? = some sc)(hq:decide (Dl sc n<0)=true):Nt T n (l.drop k) out=([],false):=by
 rw [A5 h,Nt,hs];exact if_pos hq
theorem key_on {l:List Va}{k:Nat}{out:List Int}(h:l[k]? = some va)(hs:T[va.type.toNat]? = some sc)(hq:decide (Dl sc n<0)=false):Nt T n (l.drop k) out=Nt T n (l.drop (k+1)) (out.set va.type.toNat (Dl sc n)):=by
 rw [A5 h,Nt,hs];exact Bl hq
end
end Go.Proofs.YtckhoadldibflaaGreatDoor

namespace Go.Aw
open Go
section
variable {P:Program} {T:List (Nat×TD)} {d:Option Nat} {ty:TypeId} {pos:String} {aft:Array Edge} {gd:Option (Nat×Bool)} {ρ:Operand→AV} {K:List HO→Prop}
theorem Mv {i:Operand}{t e len:Nat}{td te:TD}{k:IntKind}{n:Int}{gl:Nat}{l cs':List AV}(hT:Hl P T)(hg:∃c,(gl,c)∈globals∧∀cs,c cs→cs=l)(hi:ρ i = .int k n)(ht:Bj T t=some td)(hk:td.kind = .array len e)
  (hte:Bj T e=some te) (h0:0≤n) (hc:n<len) (ho:l.drop (n.toNat*te.size)=cs') (hρ:ρ (.global gl) = .val (.pointer (some ⟨gl,0,none⟩))):Cm P ⟨d,.indexAddr t (.global gl) i,ty,pos,aft,gd⟩ ρ K (.ptr cs'):=by
 intro g w a H next Q hr hH hK hn
 obtain ⟨c,hc',hcl⟩:=hg;obtain ⟨cs,h1,h2⟩:=hH.glob.vars _ hc';obtain rfl:=hcl cs h1;obtain ⟨b,o,he,fv,h3,h4⟩:=h2.inv_ptr;simp only [Value.pointer.injEq,Option.some.injEq,Addr.mk.injEq,and_true] at he;obtain ⟨rfl,rfl⟩:=he;have he:=(hρ▸hr (.global gl) (by simp [Op.operands]):Rep g w _ _).inv_val;have h5:=(hi▸hr i (by simp [Op.operands]):Rep g w _ _).inv_int;have hu:=K4 (hT t td ht) hk
 have hrun:(execOp a.eval ⟨d,.indexAddr t (.global gl) i,ty,pos,aft,gd⟩).run P w = .ok (.value (.pointer (some ⟨gl,0+n.toNat*te.size,none⟩))) w:=by
  simp only [execOp,he,h5,Instr.indexAt,asIntOf,Sem.run_bind,Sem.run_pure,Result.andThen_ok,A7 hu,Instr.sureAddr];simp [h0,hc,Ey (hT e te hte),Ek]
 unfold Oper.wp;rw [hrun];subst ho;refine hn g w _ (.ptr gl (0+n.toNat*te.size) _ (fun j=>fv (n.toNat*te.size+j)) (fun j x hj=>?_) (fun j x hj=>?_)) hH (Ext.refl g w)
 ·
  rw [List.getElem?_drop] at hj;have:=h3 (n.toNat*te.size+j) x hj
  rwa [Nat.add_assoc]
 rw [List.getElem?_drop] at hj;exact h4 (n.toNat*te.size+j) x hj
end
end Go.Aw
namespace Go.Proofs.YtckhoadldibflaaGreatDoor
open Go Go.Aw

mutual
def E1:Pt→List Pt
 | ⟨o,xs,t,v,s,n,c⟩=>⟨o,xs,t,v,s,n,c⟩::yU xs
def yU:List Pt→List Pt
 | []=>[]
 | a::r=>E1 a++yU r
end
theorem iV:∀l:List Pt,yU l=l.flatMap E1
 | []=>by rw [yU];rfl
 | a::r=>by rw [yU,iV r,aE]
theorem Nu (p:Pt):E1 p=p::p.args.flatMap E1:=by cases p;rw [E1,iV]
mutual
def Zs:Pt→Nat
 | ⟨_,xs,_,_,_,_,_⟩=>Se xs+1
def Se:List Pt→Nat
 | []=>0
 | a::r=>max (Zs a) (Se r)
end
theorem Zf (p:Pt):Zs p=Se p.args+1:=by cases p;rw [Zs]
theorem Uz:∀(l:List Pt) (a:Pt),Se (l ++ [a])=max (Se l) (Zs a)
 | [],a=>by simp [Se]
 | x::r,a=>by rw [Kh,Se,Uz r a,Se];omega
theorem dp_le:∀p:Pt,Zs p≤Gx p:=by
  intro p
  induction p using Pt.ind with
  | h p ih=>
    rw [Zf,Jn]
    have:∀l:List Pt,(∀a∈l,Zs a≤Gx a)→Se l≤(l.map Gx).sum:=by
      intro l
      induction l with
      | nil=>intro _;rw [Se];simp
      | cons x r ih2=>intro h;rw [Se,Dn,Ki];have:=h x (by simp);have:=ih2 fun a ha=>h a (by simp [ha]);omega
    have:=this _ ih;omega
theorem Pm {p a:Pt}(h:a∈p.args):Gx a<Gx p:=by
  rw [Jn p]
  have:∀l:List Pt,a∈l→Gx a≤(l.map Gx).sum:=by
    intro l
    induction l with
    | nil=>intro h;cases h
    | cons x r ih => intro h; rw [Dn, Ki]; rcases G2.1 h with rfl | h
                     · omega
                     have:=ih h;omega
  have:=this _ h;omega
theorem Od (p:Pt):p.args.length<Gx p:=by
  rw [Jn]
  have:∀l:List Pt,l.length≤(l.map Gx).sum:=by
    intro l
    induction l with
    | nil=>simp
    | cons x r ih => rw [Ep, Dn, Ki]; have : 1 ≤ Gx x := by rw [Jn]; omega
                     omega
  have:=this p.args;omega
theorem nS:∀(l:List Pt) (k:Nat),((l.take k).map Gx).sum≤(l.map Gx).sum
 | [],k=>by simp
 | x::r,0=>by simp
 | x::r,k+1=>by rw [kW,Dn,Dn,Ki,Ki];have:=nS r k;omega
theorem dX:∀p:Pt,(E1 p).length=Gx p:=by
  intro p
  induction p using Pt.ind with
  | h p ih=>
    rw [Nu,Jn,Ep]
    have:∀l:List Pt,(∀a∈l,(E1 a).length=Gx a)→(l.flatMap E1).length=(l.map Gx).sum:=by
      intro l
      induction l with
      | nil=>intro _;rfl
      | cons x r ih2=>intro h;rw [aE,D9,Dn,Ki,h x (by simp),ih2 fun a ha=>h a (by simp [ha])]
    rw [this _ ih]
theorem tO {p a q:Pt}(h:a∈p.args)(hq:q∈E1 a):q∈E1 p:=by
 rw [Nu];exact Oy _ (List.mem_flatMap.2 ⟨a,h,hq⟩)
theorem nF (p:Pt):p∈E1 p:=by rw [Nu];exact Sx ..
theorem Vu {l:List Pt}{k:Nat}{a:Pt}(h:l[k]? = some a):(l.map Lw)[k]? = some (cPt a):=by rw [List.getElem?_map,h];exact congrArg some (Tw a)

structure Shp where
 least:Int
 most:Int
 typed:Bool
 cond:Bool
 scope:Bool
 span:Bool
def cShp (s:Shp):List AV:=[.int .i64 s.least,.int .i64 s.most,.bool s.typed,.bool s.cond,.bool s.scope,.bool s.span]
def shpL:List Shp:=[⟨0,0,true,true,false,false⟩,⟨2,64,false,false,false,false⟩,⟨2,64,false,false,false,false⟩,⟨2,64,false,false,false,false⟩,⟨1,1,false,false,false,false⟩,⟨1,1,true,true,true,false⟩,⟨1,1,false,false,true,true⟩,⟨1,1,false,true,false,false⟩,⟨2,2,false,false,false,false⟩,⟨1,1,true,true,true,false⟩,⟨1,1,false,false,true,true⟩]
def K1 (o:Int):Shp:=(shpL[o.toNat]?).getD ⟨0,0,false,false,false,false⟩
theorem tW {o:Int}(h0:0≤o)(h1:o<11):∃rest,Sp.drop (o.toNat*6)=cShp (K1 o)++rest:=by
 have:o=0∨o=1∨o=2∨o=3∨o=4∨o=5∨o=6∨o=7∨o=8∨o=9∨o=10:=by omega
 rcases this with rfl | rfl | rfl | rfl | rfl | rfl | rfl | rfl | rfl | rfl | rfl <;> exact ⟨_,rfl⟩
def wth (u:Bool)(n m:Int):Bool:=!u||(decide (0≤n)&&decide (n≤m))
def unu (u:Bool)(n:Int):Bool:=u||(n==0)
def ckB (p:Pt)(s:Shp):Bool:=(((!wth s.typed p.type 15) || !wth s.typed p.var 15) || !wth s.scope p.scope 63) || !wth s.span p.span 1099511627776
def ckU (p:Pt)(s:Shp):Bool:=(((((!s.cond) && !Fx p.cond Un) || !unu s.typed p.type) || !unu s.typed p.var) || !unu s.scope p.scope) || !unu s.span p.span
def ckR (p:Pt)(s:Shp):Int:=
 if decide ((p.args.length:Int)<s.least)||decide (s.most<(p.args.length:Int)) then 15
 else if ckB p s then 2
 else if s.cond&&(Cf p.cond != 0) then Cf p.cond
 else if ckU p s then 3 else 0
def Wo (p:Pt):Int:=if decide (p.op<0)||decide (11≤p.op) then 1 else ckR p (K1 p.op)
section
variable {p:Pt}
theorem ck_1 (h:(decide (p.op<0)||decide (11≤p.op))=true):Wo p=1:=if_pos h
theorem ck_2 (h:(decide (p.op<0)||decide (11≤p.op))=false)(h2:(decide ((p.args.length:Int)<(K1 p.op).least)||decide ((K1 p.op).most<(p.args.length:Int)))=true):Wo p=15:=(Bl h).trans (if_pos h2)
theorem ck_3 (h:(decide (p.op<0)||decide (11≤p.op))=false)(h2:(decide ((p.args.length:Int)<(K1 p.op).least)||decide ((K1 p.op).most<(p.args.length:Int)))=false)(h3:ckB p (K1 p.op)=true):Wo p=2:=(Bl h).trans ((Bl h2).trans (if_pos h3))
theorem ck_4 (h:(decide (p.op<0)||decide (11≤p.op))=false)(h2:(decide ((p.args.length:Int)<(K1 p.op).least)||decide ((K1 p.op).most<(p.args.length:Int)))=false)(h3:ckB p (K1 p.op)=false)(h4:(K1 p.op).cond=true)(h5:(Cf p.cond != 0)=true):Wo p=Cf p.cond:=by
 refine (Bl h).trans ((Bl h2).trans ((Bl h3).trans (if_pos ?_)));rw [h4,h5];rfl
theorem ck_n (h:(decide (p.op<0)||decide (11≤p.op))=false)(h2:(decide ((p.args.length:Int)<(K1 p.op).least)||decide ((K1 p.op).most<(p.args.length:Int)))=false)(h3:ckB p (K1 p.op)=false)(h4:((K1 p.op).cond&&(Cf p.cond != 0))=false):Wo p=if ckU p (K1 p.op) then 3 else 0:=(Bl h).trans ((Bl h2).trans ((Bl h3).trans (Bl h4)))
end

def Ja (p:Pt):Int:=if decide ((64:Int)<(Gx p:Int)) then 5 else if decide ((12:Int)<(Zs p:Int)) then 12 else A2 Wo (E1 p)
def L3 (p:Pt):Int:=if (Ja p != 0) then Ja p else if (E1 p).any (fun q=>decide (8≤q.op)) then 1 else 0
structure Cnt where
 vars:Int
 scopes:Int
 ok:Bool
def G9 (c:Cnt)(q:Pt):Cnt:=
 ⟨if (K1 q.op).typed then c.vars+1 else c.vars,if (K1 q.op).scope then c.scopes+1 else c.scopes,(c.ok&&(!(K1 q.op).typed||(q.var==c.vars)))&&(!(K1 q.op).scope||(q.scope==c.scopes))⟩
def I9 (p:Pt):Cnt:=(E1 p).foldl G9 ⟨0,0,true⟩
def J7 (p:Pt):Int:=if (L3 p != 0) then L3 p else if !(I9 p).ok then 14 else 0

section
variable {S:Type} (live:S→Bool) (step:S→Pt→S)
def Pj:S→List Pt→S
 | s,[]=>s
 | s,p::r=>if live s then Pj (step s p) r else s
theorem Tk {s:S}(h:live s=false):∀l,Pj live step s l=s
 | []=>rfl
 | p::r=>by rw [Pj,if_neg (by rw [h];decide)]
theorem eR:∀(l m:List Pt) (s:S),Pj live step s (l++m)=Pj live step (Pj live step s l) m
  | [],m,s=>rfl
  | p::r,m,s=>by
    rw [Kh,Pj,Pj];cases h:live s with
    | true=>rw [if_pos rfl,if_pos rfl];exact eR r m _
    | false=>rw [if_neg (by decide),if_neg (by decide),Tk live step h]
theorem lQ {s:S}(hs:live s=true)(p:Pt):Pj live step s (E1 p)=Pj live step (step s p) (p.args.flatMap E1):=by
 rw [Nu,Pj,if_pos hs]
theorem bH {Kd:S→Nat→Prop}(hmo:∀s n m,Kd s n→m≤n→Kd s m)(hgo:∀s q n,Kd s (n+1)→Kd (step s q) n):∀(l:List Pt) (s:S) (m:Nat),Kd s (l.length+m)→Kd (Pj live step s l) m
  | [],s,m,h=>by rw [Pj];simpa using h
  | p::r,s,m,h=>by
    rw [Pj];cases hl:live s with
    | false=>rw [if_neg (by decide)];exact hmo _ _ _ h (by omega)
    | true=>
      rw [if_pos rfl];exact bH hmo hgo r _ m (hgo _ _ _ (by rw [Ep] at h;rw [show r.length+m+1=r.length+1+m by omega];exact h))
theorem xL {s:S}(hs:live s=true){p:Pt}(h:live (step s p)=false):Pj live step s (E1 p)=step s p:=by
 rw [lQ live step hs,Tk live step h]
theorem X1 {s:S}{l:List Pt}{k:Nat}{a:Pt}(h:l[k]? = some a):Pj live step s ((l.take (k+1)).flatMap E1)=Pj live step (Pj live step s ((l.take k).flatMap E1)) (E1 a):=by
 rw [Eu h,List.flatMap_append,eR];simp
theorem goY_cut {s:S}{l:List Pt}{k:Nat}{a:Pt}(h:l[k]? = some a)(hd:live (Pj live step s ((l.take (k+1)).flatMap E1))=false):Pj live step s (l.flatMap E1)=Pj live step s ((l.take (k+1)).flatMap E1):=by
 conv=>lhs;rw [←List.take_append_drop (k+1) l,List.flatMap_append,eR]
 rw [Tk live step hd]
end
end Go.Proofs.YtckhoadldibflaaGreatDoor

namespace Go.Aw
open Go

section
variable {l:Nat} {P:Program} {Q:Exit→St→Prop} {s:St}
theorem kM.ret (h:Q .ret s):kM l P .ret Q s:=fun n Q' g a w hG hQ=>wpIn_ret (hQ _ g s a w hG (Ext.refl g w) h)
theorem kM.skip (h:Q .normal s):kM l P .skip Q s:=fun n Q' g a w hG hQ=>wpIn_skip (hQ _ g s a w hG (Ext.refl g w) h)
theorem kM.seq {x y:Code}(h:kM l P x (Ea (kM l P y Q) Q) s):kM l P (.seq x y) Q s:=by
 intro n Q' g a w hG hQ;refine wpIn_seq (h n _ g a w hG fun e g' s' a' w' hG' hx hq=>?_);cases e with
 | normal=>exact hq n Q' g' a' w' hG' fun e g'' s'' a'' w'' h1 h2 h3=>hQ e g'' s'' a'' w'' h1 (hx.trans h2) h3
 | _=>exact hQ _ g' s' a' w' hG' hx hq
theorem kM.cond {c:Operand}{x y:Code}{b:Bool}(hb:Es s.sl c = .bool b)(ht:b=true→kM l P x Q s)(hf:b=false→kM l P y Q s):kM l P (.cond c x y) Q s:=by
 intro n Q' g a w hG hQ;have hv:=(hb▸hG.eval c:Rep g w _ _).inv_bool;exact wpIn_cond_split hv (fun h=>ht h n Q' g a w hG hQ) (fun h=>hf h n Q' g a w hG hQ)
end

theorem Nw.ofE {P:Program}{l:Nat}{rec:Loop}{H:List HO}{args:List AV}{R:AV→List HO→Prop}{sl:List (Nat×AV)}{n0:Nat}(hst:rec.state = .ready)(hpe:rec.pending=none)
  (hsz:rec.tmps.size=n0) (hsl:∀g w vs,Cd g w vs args→∀j,Rep g w (((rec.params.zip vs).foldl (fun t (p,v)=>t.setIfInBounds p v) rec.tmps).getD j undef) (get sl j))
  (h:kM l P rec.assign (fun e s1=>e = .normal∧∃i:Nat,s1.H[i]? = some (HO.obj l (Obj.loop rec))∧kM l P rec.body (fun e s2=>∃j:Nat,s2.H[j]? = some (HO.obj l (Obj.loop { rec with state:=.busy }))∧
   ((e = .normal∧R (.bool true) (s2.H.set j (.obj l (.loop rec))))∨(e = .ret∧R (.bool false) (s2.H.set j (.obj l (.loop { rec with state:=.done,pending:=some .ret })))))) ⟨s1.sl,s1.H.set i (.obj l (.loop { rec with state:=.busy })),s1.n⟩) ⟨sl,H,n0⟩):Nw P l rec H args R:=by
 intro n g w vs hH hr;refine roundIn_of_wpIn trivial ?_
 have hfs:∀(L:List (Tmp×Value)) (t:Array Value),(L.foldl (fun t (p,v)=>t.setIfInBounds p v) t).size=t.size:=by
  intro L;induction L with
  | nil=>intro t;rfl
  | cons p r ih=>intro t;rw [List.foldl_cons,ih];simp
 have hG:Gm g ⟨sl,H,n0⟩ { tmps:=(rec.params.zip vs).foldl (fun t (p,v)=>t.setIfInBounds p v) rec.tmps,defers:=[] } w:=
  ⟨by rw [←Array.foldl_toList];exact (hfs _ _).trans hsz,rfl,fun j=>hsl g w vs hr j,hH⟩
 refine h n _ g _ w hG ?_;rintro e g1 s1 a1 w1 hG1 hx1 ⟨rfl,i,hi,hb⟩;have hob:(HO.obj l (.loop rec)).ok g1 w1:=hG1.heap.ok _ (B4 hi);refine ⟨_,run_beginRound hob.2 hst,?_⟩;obtain ⟨hG2,hx2⟩:=hG1.putObj (.loop { rec with state:=.busy }) hi;refine hb n _ g1 a1 _ hG2 ?_;rintro e g3 s3 a3 w3 hG3 hx3 ⟨j,hj,hR⟩;have hob3:(HO.obj l (.loop { rec with state:=.busy })).ok g3 w3:=hG3.heap.ok _ (B4 hj);rcases hR with ⟨rfl,hR⟩ | ⟨rfl,hR⟩
 ·
  obtain ⟨hG4,hx4⟩:=hG3.putObj (.loop rec) hj;refine ⟨_,_,run_endRound none hob3.2,_,g3,.bool true,_,rfl,.bool _,?_,?_,hR⟩
  ·
   have:({ ({ rec with state:=.busy }:Loop) with state:=if (none:Option Code).isNone then .ready else .done,pending:=none }:Loop)=rec:=by
    cases rec;simp only at hst hpe;subst hst;subst hpe;rfl
   rw [this];exact hG4.heap
  have:({ ({ rec with state:=.busy }:Loop) with state:=if (none:Option Code).isNone then .ready else .done,pending:=none }:Loop)=rec:=by
   cases rec;simp only at hst hpe;subst hst;subst hpe;rfl
  rw [this];exact ((hx1.trans hx2).trans hx3).trans hx4
 obtain ⟨hG4,hx4⟩:=hG3.putObj (.loop { rec with state:=.done,pending:=some .ret }) hj;exact ⟨_,_,run_endRound (some .ret) hob3.2,_,g3,.bool false,_,rfl,.bool _,hG4.heap,((hx1.trans hx2).trans hx3).trans hx4,hR⟩
theorem AW.regionY2 {P:Program}{Q:Exit→St→Prop}{s:St}{id:Nat}{ops:Array Oper}{pre post:List Oper}{d:Nat}{cal:Operand}{args:Array Operand}{ats:Array TypeId}{ty:TypeId}{pos:String}{aft:Array Edge}
  (hops:ops.toList=pre++⟨some d,.call ⟨.value cal,args,ats⟩,ty,pos,aft,none⟩::post) (hnd:Q3 pre=true) (hnd2:Q3 post=true)
  (h:AOL P ops (fun s'=>∃l rec R,(∃i:Nat,s'.H[i]? = some (HO.obj l (Obj.loop rec)))∧Es s'.sl cal = .val (.func (.yield l) #[] #[])∧args.size=rec.params.size∧Ms (some d) s'.n=true∧
   Nw P l rec s'.H (args.toList.map (Es s'.sl)) R∧∀x H',R x H'→AOL P ops (Q .normal) post ⟨Dz (some d) x s'.sl,H',s'.n⟩) pre s):AW P (.region id ops false) Q s:=by
 intro Q' g a w hG hQ;refine (wpIn_wide (n:=1)).1 ?_;rw [←wideN];refine wpIn_region_list ?_;rw [hops];refine F7 pre _ a w (Pw hnd) ?_;refine h.run _ g a w hG ?_;rintro g' s' a' w' hG' hx ⟨l,rec,R,⟨i,hi⟩,hcal,hlen,hd,hr,hk⟩;show wpListIn _ 1 P ops Q' (_::post) a' w';unfold wpListIn;rw [if_pos (Ds rfl)];refine ⟨fun _ _=>trivial,?_⟩;have hobj:(HO.obj l (.loop rec)).ok g' w':=hG'.heap.ok _ (B4 hi);have hv:a'.eval cal = .func (.yield l) #[] #[]:=(hcal▸hG'.eval cal:Rep g' w' _ _).inv_val;have hargs:Cd g' w' (args.map a'.eval) (args.toList.map (Es s'.sl)):=S3 (ρ:=Es s'.sl) (a:=a') (g:=g') (w:=w') (args:=args) (fun y _=>hG'.eval y) rfl
 have hrun:(execOp a'.eval ⟨some d,.call ⟨.value cal,args,ats⟩,ty,pos,aft,none⟩).run P w' = .ok (.round l rec.fn ((rec.params.zip (args.map a'.eval)).foldl (fun t (p,v)=>t.setIfInBounds p v) rec.tmps) rec.assign rec.body) w':=by
  have hy:=run_yield (P:=P) (args:=args.map a'.eval) hobj.2 (by simpa using hlen);simp only [execOp,resolve,Sem.run_bind,hv,Deferred.ofValue,Sem.run_pure,Result.andThen_ok,invoke];simpa using hy
 rw [Oper.semAt_eq _ _ _ (fun c e=>by cases e),hrun];refine ⟨fun e=>(by cases e),(hr _ g' w' _ hG'.heap hargs).mono ?_⟩;rintro e w'' ⟨v,g'',r,H',rfl,k1,k2,k3,k4⟩;have hpost:=hk r H' k4;have:=F7 (ro:=none) (n:=1) (Q:=Q') post [] _ w'' (Pw hnd2) (hpost.run _ g'' _ w'' (hG'.put k3 hd k1 k2) fun g3 s3 a3 w3 h1 h2 h3=>hQ _ g3 s3 a3 w3 h1 ((hx.trans k3).trans h2) h3);simpa using this

theorem AW.regionYk {P:Program}{Q:Exit→St→Prop}{s:St}{id:Nat}{ops:Array Oper}(k:Nat){d:Nat}{cal:Operand}{args:Array Operand}{ats:Array TypeId}{ty:TypeId}{pos:String}{aft:Array Edge}
  (hops:ops.toList[k]? = some ⟨some d,.call ⟨.value cal,args,ats⟩,ty,pos,aft,none⟩) (hnd:Q3 (ops.toList.take k)=true) (hnd2:Q3 (ops.toList.drop (k+1))=true)
  (h:AOL P ops (fun s'=>∃l rec R,(∃i:Nat,s'.H[i]? = some (HO.obj l (Obj.loop rec)))∧Es s'.sl cal = .val (.func (.yield l) #[] #[])∧args.size=rec.params.size∧Ms (some d) s'.n=true∧
   Nw P l rec s'.H (args.toList.map (Es s'.sl)) R∧∀x H',R x H'→AOL P ops (Q .normal) (ops.toList.drop (k+1)) ⟨Dz (some d) x s'.sl,H',s'.n⟩) (ops.toList.take k) s):AW P (.region id ops false) Q s:=by
 refine AW.regionY2 (pre:=ops.toList.take k) (post:=ops.toList.drop (k+1)) (ats:=ats) (ty:=ty) (pos:=pos) (aft:=aft) ?_ hnd hnd2 h;obtain ⟨hlt,he⟩:=List.getElem?_eq_some_iff.1 hops;rw [←he,List.getElem_cons_drop,List.take_append_drop]

def Tail (P:Program)(z:Code)(Qs:St→Prop)(s:St):Prop:=
 ∀(Q':Exit→Act→World→Prop) (g:Gh) (a:Act) (w:World) (ds:List Deferred),Gm g s a w→(∀g' s' a' w',Gm g' s' a' w'→Ext g w g' w'→Qs s'→Q' .ret (Act.more a' ds) w')→z.wp P Q' (Act.more a ds) w
theorem Yv {P:Program}{ops:Array Oper}{Q:Exit→Act→World→Prop}{ds:List Deferred}:∀(l:List Nat) (a:Act) (w:World),wpOps P ops Q l a w→wpOps P ops (gM ds Q) l (Act.more a ds) w
  | [],a,w,h=>⟨a,rfl,h⟩
  | i::rest,a,w,h=>by
    have h':wpOp P ops Q i (wpOps P ops Q rest) a w:=by
      unfold wpOp;unfold wpOps at h;exact h
    have:=aU (ds:=ds) (K':=wpOps P ops (gM ds Q) rest) (fun a w h=>Yv rest a w h) h';unfold wpOp at this;unfold wpOps;exact this
theorem Tail.region {P:Program}{id:Nat}{ops:Array Oper}{Qs:St→Prop}{s:St}(h:AOL P ops Qs ops.toList s):Tail P ((Code.region id ops false).seq .ret) Qs s:=by
 intro Q' g a w ds hG hQ;have key:=Kp (P:=P) (ops:=ops) ops.toList 0 a w (by simp) (h.run (fun e a' w'=>match e with | .normal=>Q' .ret (Act.more a' ds) w' | _=>False) g a w hG fun g' s' a' w' h1 h2 h3=>hQ g' s' a' w' h1 h2 h3);rw [←List.range_eq_range'] at key;have key2:=Yv (ds:=ds) _ _ _ key;refine wp_seq (wp_mono (wp_region (by simpa using key2)) ?_);rintro e a' w' ⟨a0,rfl,hq⟩;cases e with
 | normal=>exact wp_ret hq
 | _=>exact hq.elim
theorem Tail.drawn {P:Program}{id:Nat}{ops:Array Oper}{Qs:St→Prop}{s:St}(h:AWD P (.region id ops true) Qs s):Tail P ((Code.region id ops true).seq .ret) Qs s:=by
 intro Q' g a w ds hG hQ;cases h with
 | draw hm K hK hdd hC=>exact pO hm K hK hdd hC hG ds hQ

theorem AWX.rangeE {P:Program}{T:List (Nat×TD)}(hT:Hl P T){fn:Func}{R:AV→List HO→Prop}{Q:Exit→St→Prop}{s:St}{go:Operand}{ps:Array Tmp}{assign body z:Code}{bid gf:Nat}{lb:List AV}(Z Y:List HO→Prop)
  (hg:Es s.sl go = .fn (.func gf) [] lb) (hf:Sj P gf=true)
  (hit:∀(rec:Loop) (D l:Nat),rec.state = .ready→rec.pending=none→rec.params=ps→rec.assign=assign→rec.body=body→rec.tmps.size=s.n→(∀t v,get s.sl t = .val v→rec.tmps.getD t undef=v)→
   Bp P gf (.obj l (.loop rec) :: .obj D (.deferred (some []))::s.H) (.val (.func (.yield l) #[] #[])::lb)
    (fun r H'=>∃rec' H2,H' = .obj l (.loop rec') :: .obj D (.deferred (some []))::H2∧rec'.state≠.busy∧((rec'.pending=none∧Z H2)∨(rec'.pending=some .ret∧Y H2))))
  (ht:∀D H2,Z H2→Tail P z (endX P T fn R D) ⟨s.sl,.obj D (.deferred (some []))::H2,s.n⟩)
  (hy:∀D H2,Y H2→∃s2,GS ⟨s.sl,.obj D (.deferred (some []))::H2,s.n⟩ s2∧endX P T fn R D s2) :
  AWX2 P (Code.block bid (.rangeFunc go ps assign body)) z Q (fZ P fn R) s:=by
 intro Q' g0 a w hG hQ hX;refine wp_block ((wpIn_wide (n:=1)).1 (wpIn_rangeFunc ?_));intro f0 _;obtain ⟨vs0,us,hv,h1,h2⟩:=(hg▸hG.eval go:Rep g0 w _ _).inv_fn;have hvs0:vs0 = #[]:=Array.size_eq_zero_iff.1 (by simpa using h1.1);subst hvs0;obtain ⟨rec,hrec⟩:∃rec:Loop,rec=⟨.ready,none,f0,a.tmps,ps,assign,body,w.heap.size⟩:=⟨_,rfl⟩;obtain ⟨W1,hW1⟩:∃W1,(w.alloc (.deferred (some []))).alloc (.loop rec)=W1:=⟨_,rfl⟩;have hs1:(w.alloc (.deferred (some []))).heap.size=w.heap.size+1:=World.size_alloc ..;have hx1:=Ext.alloc g0 w (.deferred (some [])) (some 0)
 have hH1:HOK (g0.put w.heap.size (some 0)) (w.alloc (.deferred (some []))) (.obj w.heap.size (.deferred (some []))::s.H):=
  (hG.heap.alloc (.deferred (some [])) (some 0)).cons ⟨Gh.Aaf ..,B1 ..⟩ fun b hb x hx e=>by
   cases hb
   exact absurd (HO.ok_lt (hG.heap.ok x hx) e).1 (Nat.lt_irrefl _)
 have hx2:=Ext.alloc (g0.put w.heap.size (some 0)) (w.alloc (.deferred (some []))) (.loop rec) (some 0)
 have hH2:=(hH1.alloc (.loop rec) (some 0)).cons (o:=.obj (w.alloc (.deferred (some []))).heap.size (.loop rec)) ⟨Gh.Aaf ..,B1 ..⟩ fun b hb x hx e=>by
   cases hb
   exact absurd (HO.ok_lt (hH1.ok x hx) e).1 (Nat.lt_irrefl _)
 rw [hs1] at hH2 hx2;rw [hW1] at hH2 hx2;refine ⟨w.heap.size+1,[U3 w.heap.size],W1,{ target:=.fn (.func gf) us,args:=#[.func (.yield (w.heap.size+1)) #[] #[]] },W1,gf,#[.func (.yield (w.heap.size+1)) #[] #[]]++us,W1,?_,?_,fun _ _=>trivial,?_,fun e=>(by cases e),?_⟩
 · rw [←hW1,hrec];exact run_enterLoop_outer _ _ _ _ _
 ·
  simp only [resolve,hv];simp [go_sem]
 · simp [invoke,go_sem,T7 hf]
 have hx12:=hx1.trans hx2;refine callsIn_wide.2 ((hit rec w.heap.size (w.heap.size+1) (by rw [hrec]) (by rw [hrec]) (by rw [hrec]) (by rw [hrec]) (by rw [hrec]) (by rw [hrec];exact hG.size) (by rw [hrec];exact fun t v hv=>(hv▸hG.sl t:Rep g0 w _ _).inv_val) _ W1 _ hH2 ?_).mono ?_)
 ·
  have h2':=h2.mono hx12
  exact Cd.append (xs:=[.val (.func (.yield (w.heap.size+1)) #[] #[])]) ⟨rfl,fun i x hi=>by
   cases i with
   | zero=>simp at hi;subst hi;exact .val _
   | succ i=>simp at hi⟩ h2'
 rintro e w3 ⟨v,g3,r,H',rfl,hr3,hH3,hx3,rec',H2,rfl,hnb,hz⟩;have hob:(HO.obj (w.heap.size+1) (.loop rec')).ok g3 w3:=hH3.ok _ (Sx ..);obtain ⟨hH4,hx4⟩:=Wa hH3 (i:=0) (.loop { rec' with state:=.exhausted }) rfl;refine ⟨rec'.pending,_,run_endLoop hob.2 hnb,?_⟩;obtain ⟨st',pe',f',t',p',as',bo',de'⟩:=rec'
 have ha:({ a with defers:=[U3 w.heap.size]++a.defers }:Act)=Act.more a [U3 w.heap.size]:=by
  unfold Act.more;rw [hG.defers];rfl
 rw [ha];have hxa:=(hx12.trans hx3).trans hx4
 have fin:∀g5 s5 a5 w5,Gm g5 s5 a5 w5→Ext g0 w g5 w5→endX P T fn R w.heap.size s5→Q' .ret (Act.more a5 [U3 w.heap.size]) w5:=fun g5 s5 a5 w5 hG5 hx5 hq=>by
  obtain ⟨i,hi,xs,hr,H3,hsub,hR⟩:=hq;obtain ⟨hG6,hx6⟩:=hG5.putObj (.deferred none) hi;have hob5:(HO.obj w.heap.size (.deferred (some []))).ok g5 w5:=hG5.heap.ok _ (B4 hi);obtain ⟨v6,k1,k2⟩:=Pq hT hr hG6;refine hX _ _ _ ⟨rfl,w.heap.size,by show a5.defers++_=_;rw [hG5.defers];rfl,hob5.2,v6,g5,_,H3,k1,k2,hG6.heap.sub hsub,hx5.trans hx6,hR⟩
 have hG4:Gm g3 ⟨s.sl,.obj w.heap.size (.deferred (some []))::H2,s.n⟩ a (w3.putObj (w.heap.size+1) (.loop ⟨.exhausted,pe',f',t',p',as',bo',de'⟩)):=⟨hG.size,hG.defers,fun i=>(hG.sl i).mono hxa,hH4.sub (List.sublist_cons_self ..)⟩;rcases hz with ⟨hp,hz⟩ | ⟨hp,hz⟩
 ·
  obtain rfl:pe'=none:=hp;exact ht w.heap.size H2 hz Q' g3 a _ [U3 w.heap.size] hG4 fun g5 s5 a5 w5 hG5 hx5 hq=>fin g5 s5 a5 w5 hG5 (hxa.trans hx5) hq
 obtain rfl:pe'=some .ret:=hp;obtain ⟨s2,hgs,he⟩:=hy w.heap.size H2 hz;obtain ⟨g4,hG5,hx7⟩:=hgs _ _ _ hG4;exact wpIn_ret (fin g4 s2 a _ hG5 (hxa.trans hx7) he)
end Go.Aw

namespace Go.Proofs.YtckhoadldibflaaGreatDoor
open Go Go.Aw

def AllK (tmps:Array Value):List (Nat×Value)→Prop
 | []=>True
 | p::r=>tmps.getD p.1 undef=p.2∧AllK tmps r
theorem par1 {tmps:Array Value}{n0 k:Nat}{x:AV}{kn:List (Nat×Value)}(hsz:tmps.size=n0)(hk:Nat.blt k n0=true)(hkn:AllK tmps kn):∀g w vs,Cd g w vs [x]→∀j,
    Rep g w ((((#[k]:Array Tmp).zip vs).foldl (fun t (p,v)=>t.setIfInBounds p v) tmps).getD j undef) (get ((k,x)::kn.map fun p=>(p.1,.val p.2)) j):=by
  intro g w vs hr j;have h0:=hr.2 0 _ rfl;have hs:vs.size=1:=hr.1
  obtain ⟨u, rfl⟩ : ∃ u, vs = #[u] := ⟨vs[0], by apply Array.ext; simp [hs]; intro i h1 h2; have : i = 0 := by omega
                                                 subst this;rfl⟩
  have hlt:k<tmps.size:=by have:=Em hk;omega
  rw [←Array.foldl_toList,Array.toList_zip];show Rep g w ((tmps.setIfInBounds k u).getD j undef) _;rw [Gf];by_cases e:k=j
  · subst e
    rw [if_pos rfl];simp only [Hf,Array.getElem?_setIfInBounds];simp [hlt];simpa using h0
  · rw [if_neg e]
    have:(tmps.setIfInBounds k u).getD j undef=tmps.getD j undef:=by
      simp only [Hf,Array.getElem?_setIfInBounds];simp [e]
    rw [this];clear this
    induction kn with
    | nil=>exact .junk _
    | cons p r ih=>
      rw [Dn,Gf];by_cases e2:p.1=j
      · rw [if_pos e2,←hkn.1,e2];exact .val _
      rw [if_neg e2];exact ih hkn.2
theorem Nw.ofE2 {P:Program}{l:Nat}{rec:Loop}{H:List HO}{args:List AV}{R:AV→List HO→Prop}{A B:Code}(sl:List (Nat×AV)){n0:Nat}(hst:rec.state = .ready)(hpe:rec.pending=none)
  (hsz:rec.tmps.size=n0) (hsl:∀g w vs,Cd g w vs args→∀j,Rep g w (((rec.params.zip vs).foldl (fun t (p,v)=>t.setIfInBounds p v) rec.tmps).getD j undef) (get sl j)) (has:rec.assign=A) (hbo:rec.body=B)
  (h:kM l P A (fun e s1=>e = .normal∧∃i:Nat,s1.H[i]? = some (HO.obj l (Obj.loop rec))∧kM l P B (fun e s2=>∃j:Nat,s2.H[j]? = some (HO.obj l (Obj.loop { rec with state:=.busy }))∧
   ((e = .normal∧R (.bool true) (s2.H.set j (.obj l (.loop rec))))∨(e = .ret∧R (.bool false) (s2.H.set j (.obj l (.loop { rec with state:=.done,pending:=some .ret })))))) ⟨s1.sl,s1.H.set i (.obj l (.loop { rec with state:=.busy })),s1.n⟩) ⟨sl,H,n0⟩):Nw P l rec H args R:=by
 subst has hbo;exact Nw.ofE hst hpe hsz hsl h

theorem Ve (f:Pt→Int):∀l:List Pt,Pj (fun e:Int=>e==0) (fun _ q=>f q) 0 l=A2 f l
  | []=>rfl
  | a::r=>by
    rw [Pj,if_pos (show ((0:Int)==0)=true from rfl),A2];by_cases h:f a=0
    · rw [h,Ve f r];rfl
    rw [Tk _ _ (by simpa using h),if_pos (by simpa using h)]
theorem aW (b:Pt→Bool):∀l:List Pt,A2 (fun q=>if b q then 1 else 0) l=if l.any b then 1 else 0
  | []=>rfl
  | a::r=>by
    rw [A2,aW b r,aD];cases b a <;> simp
theorem sI:∀p q:Pt,q∈E1 p→Gx q≤Gx p:=by
  intro p
  induction p using Pt.ind with
  | h p ih=>
    intro q hq;rw [Nu,G2] at hq;rcases hq with rfl | hq
    · exact C4 _
    · obtain ⟨a,ha,hq⟩:=List.mem_flatMap.1 hq
      have:=ih a ha q hq;have:=Pm ha;omega
structure medP (p:Pt):Prop where
 n:Gx p≤1048576
 cond:∀q∈E1 p,Bw q.cond≤1048576
theorem medP.len {p:Pt}(h:medP p):∀q∈E1 p,Bw q.cond≤1048576∧q.args.length≤1048576:=fun q hq=>⟨h.cond q hq,by have:=sI p q hq;have:=Od q;have:=h.n;omega⟩
theorem rst_1 {p:Pt}(h:decide ((64:Int)<(Gx p:Int))=true):Ja p=5:=if_pos h
theorem rst_2 {p:Pt}(h:decide ((64:Int)<(Gx p:Int))=false)(h2:decide ((12:Int)<(Zs p:Int))=true):Ja p=12:=(Bl h).trans (if_pos h2)
theorem tX {p:Pt}(h:decide ((64:Int)<(Gx p:Int))=false)(h2:decide ((12:Int)<(Zs p:Int))=false):Ja p=A2 Wo (E1 p):=(Bl h).trans (Bl h2)
theorem rst_0 {p:Pt}(h:(Ja p != 0)=false):Gx p≤64∧Zs p≤12∧A2 Wo (E1 p)=0:=by
 have h0:Ja p=0:=by simpa using h
 have a:¬(64:Int)<(Gx p:Int):=fun h=>by rw [rst_1 (decide_eq_true h)] at h0;exact absurd h0 (by decide)
 have b:¬(12:Int)<(Zs p:Int):=fun h=>by rw [rst_2 (decide_eq_false a) (decide_eq_true h)] at h0;exact absurd h0 (by decide)
 refine ⟨by omega,by omega,?_⟩;rw [←tX (decide_eq_false a) (decide_eq_false b)];exact h0
theorem pG {α:Type}{f:α→Int}:∀{l:List α},A2 f l=0→∀q∈l,f q=0
  | [],_,q,hq=>(gF hq).elim
  | a::r,h,q,hq=>by
    rw [A2] at h;by_cases ha:f a=0
    · rw [ha,if_neg (by decide)] at h
      rcases G2.1 hq with rfl | hq
      · exact ha
      exact pG h q hq
    rw [if_pos (by simpa using ha)] at h;exact absurd h ha
def qD (q:Pt):Prop:=0≤q.op∧q.op<11
theorem ck_op {q:Pt}(h:Wo q=0):qD q:=by
 have:(decide (q.op<0)||decide (11≤q.op))=false:=by
  cases hc:(decide (q.op<0)||decide (11≤q.op)) with
  | false=>rfl
  | true=>rw [ck_1 hc] at h;exact absurd h (by decide)
 rw [Ka] at this;have h1:=Lt this.1;have h2:=Lt this.2;exact ⟨by omega,by omega⟩
theorem dK {p:Pt}(h:(Ja p != 0)=false):∀q∈E1 p,qD q:=fun q hq=>ck_op (pG (rst_0 h).2.2 q hq)
def kA (q:Pt):Int:=if decide (8≤q.op) then 1 else 0
theorem yS {p:Pt}(h:(Ja p != 0)=true):L3 p=Ja p:=if_pos h
theorem whl_2 {p:Pt}(h:(Ja p != 0)=false):L3 p=A2 kA (E1 p):=by
 rw [show A2 kA (E1 p)=_ from aW _ _];exact Bl h
theorem whl_0 {p:Pt}(h:(L3 p != 0)=false):(Ja p != 0)=false:=by
 cases hr:Ja p != 0 with
 | false=>rfl
 | true=>rw [yS hr,hr] at h;exact absurd h (by decide)
theorem chk_1 {p:Pt}(h:(L3 p != 0)=true):J7 p=L3 p:=if_pos h
theorem chk_2 {p:Pt}(h:(L3 p != 0)=false)(h2:(!(I9 p).ok)=true):J7 p=14:=(Bl h).trans (if_pos h2)
theorem chk_3 {p:Pt}(h:(L3 p != 0)=false)(h2:(!(I9 p).ok)=false):J7 p=0:=(Bl h).trans (Bl h2)
theorem chk_0 {p:Pt}(h:(J7 p != 0)=false):(L3 p != 0)=false:=by
 cases hr:L3 p != 0 with
 | false=>rfl
 | true=>rw [chk_1 hr,hr] at h;exact absurd h (by decide)

def bX (c:Cnt)(n:Nat):Prop:=0≤c.vars∧0≤c.scopes∧c.vars+n≤3000000∧c.scopes+n≤3000000
theorem sY (c:Cnt)(n m:Nat)(h:bX c n)(hm:m≤n):bX c m:=⟨h.1,h.2.1,by have:=h.2.2.1;omega,by have:=h.2.2.2;omega⟩
theorem tN (c:Cnt)(q:Pt)(n:Nat)(h:bX c (n+1)):bX (G9 c q) n:=by
 obtain ⟨h1,h2,h3,h4⟩:=h;unfold G9 bX;refine ⟨?_,?_,?_,?_⟩ <;> simp only <;> split <;> omega
theorem pC:∀(l:List Pt) (c:Cnt),Pj (fun _=>true) G9 c l=l.foldl G9 c
 | [],c=>rfl
 | a::r,c=>by rw [Pj,if_pos rfl,pC r,List.foldl_cons]
section
variable {c:Cnt} {q:Pt}
theorem stp_yy (h1:(K1 q.op).typed=true)(h2:(K1 q.op).scope=true):(⟨c.vars+1,c.scopes+1,(c.ok&&(q.var==c.vars))&&(q.scope==c.scopes)⟩:Cnt)=G9 c q:=by unfold G9;rw [h1,h2];simp
theorem stp_yn (h1:(K1 q.op).typed=true)(h2:(K1 q.op).scope=false):(⟨c.vars+1,c.scopes,c.ok&&(q.var==c.vars)⟩:Cnt)=G9 c q:=by unfold G9;rw [h1,h2];simp
theorem stp_ny (h1:(K1 q.op).typed=false)(h2:(K1 q.op).scope=true):(⟨c.vars,c.scopes+1,c.ok&&(q.scope==c.scopes)⟩:Cnt)=G9 c q:=by unfold G9;rw [h1,h2];simp
theorem stp_nn (h1:(K1 q.op).typed=false)(h2:(K1 q.op).scope=false):(⟨c.vars,c.scopes,c.ok⟩:Cnt)=G9 c q:=by unfold G9;rw [h1,h2];simp
end

structure Qy where
 name:Am
 vars:List Va
 key:List Int
 pattern:Pt
 returns:List Ex
def Qk:Qy:=⟨[],[],[],pt0,[]⟩
@[reducible] def cQyW (q : Qy) (rs : AV) : List AV := [.str q.name, .sl 2 (q.vars.map O2), .sl 1 (q.key.map cI), .int .i64 q.pattern.op, .sl 14 (q.pattern.args.map Lw), .int .i64 q.pattern.type, .int .i64 q.pattern.var, .int .i64 q.pattern.scope, .int .i64 q.pattern.span, .int .i64 q.pattern.cond.op, .sl 8 (q.pattern.cond.args.map M5), .int .i64 q.pattern.cond.var, .int .i64 q.pattern.cond.field, .int .i64 q.pattern.cond.kind, .int .i64 q.pattern.cond.val.kind, .int .i64 q.pattern.cond.val.num, .str q.pattern.cond.val.text, rs]
@[reducible] def cQy (q : Qy) : List AV := cQyW q (.sl 8 (q.returns.map M5))

section
variable {T:List e8Sc} {V:List Va}
theorem qH (t:Syn)(xs:List Ex):Bw (Ip T V t xs)≤1+(xs.map Bw).sum:=by
 unfold Ip;split
 · rw [Ga];simp
 split
 · split <;> · rw [Ga];simp
 split
 · rw [Ga];simp
 split
 · rw [Ga];simp
 split <;> · rw [Ga];exact C4 _
theorem M4:∀t:Syn,Bw (Cp T V t)≤D7 t:=by
  intro t
  induction t using Syn.ind with
  | h t ih=>
    rw [Fq,Eg];refine Kx (qH t _) ?_
    have:∀l:List Syn,(∀a∈l,Bw (Cp T V a)≤D7 a)→((l.map (Cp T V)).map Bw).sum≤Dy l:=by
      intro l
      induction l with
      | nil=>intro _;exact E2 _
      | cons x r ih2=>intro h;rw [Dn,Dn,Ki,Gg];have:=h x (by simp);have:=ih2 fun a ha=>h a (by simp [ha]);omega
    have:=this _ ih;omega
theorem aQ (t:Syn):Bw (Ij T V t)≤D7 t:=by
 unfold Ij;split
 ·
  rename_i h;have h0:0<t.kids.length:=by have:=Ir h;omega
  have:=dE (B4 (D8 h0));have h2:=M4 (T:=T) (V:=V) (A3 t 0);rw [Eg];omega
 rw [show Bw Pn=1 from rfl,Eg];omega
theorem tJ {t:Syn}{s:Nx}(xs:List Pt)(hc:A4 t .pats=0):Bw (Kb T V t s xs).cond≤D7 t:=by
 have h1:1≤D7 t:=by rw [Eg];omega
 have hk:∀j,j<t.kids.length→D7 (A3 t j)≤D7 t:=fun j h=>by
  have:=dE (B4 (D8 h));have h9:=Eg t;omega
 unfold Kb;split
 · exact aQ t
 split
 ·
  rename_i hq;have h2:=H0 hc (.inl (by simpa using hq));exact Kx (aQ (A3 t 1)) (hk 1 (by omega))
 split
 · exact h1
 split
 ·
  rename_i hq;have h2:=H0 hc (.inr (by simpa using hq));exact Kx (M4 (A3 t 1)) (hk 1 (by omega))
 exact h1
theorem yD:∀t:Syn,A4 t .pats=0→∀s:Nx,Gx (G3 T V t s).1≤D7 t∧∀q∈E1 (G3 T V t s).1,Bw q.cond≤D7 t:=by
  intro t
  induction t using Syn.ind with
  | h t ih=>
    intro hc s
    have key:∀l:List Syn,(∀a∈l,a∈De t)→∀s:Nx,((Dq T V l s).1.map Gx).sum≤Dy l∧∀q∈(Dq T V l s).1.flatMap E1,Bw q.cond≤Dy l:=by
      intro l
      induction l with
      | nil=>intro _ s;rw [Dq];exact ⟨E2 _,fun q h=>by simp at h⟩
      | cons x r ih2=>
        intro hl s;have hx:=ih x (Lq (hl x (by simp))) (Le hc (hl x (by simp))) s;have hr:=ih2 (fun a ha=>hl a (by simp [ha])) (G3 T V x s).2;rw [Dq,Gg];refine ⟨by simp only [Dn,Ki];have:=hx.1;have:=hr.1;omega,fun q hq=>?_⟩;simp only [aE] at hq;rcases S0.1 hq with hq | hq
        · have:=hx.2 q hq;omega
        have:=hr.2 q hq;omega
    have hk:=key (De t) (fun a ha=>ha) (Sg t s);have hp:=Xe t;rw [S7];refine ⟨by rw [Jn,Eg];simp only;have:=hk.1;omega,fun q hq=>?_⟩;rw [Nu] at hq;rcases G2.1 hq with rfl | hq
    · simp only;exact tJ [] hc
    have:=hk.2 q hq;rw [Eg];omega
theorem eK {t:Syn}(ht:E7 t)(hc:A4 t .pats=0)(s:Nx):medP (G3 T V t s).1:=by
 have h:=yD (T:=T) (V:=V) t hc s;have hm:=Hz ht;exact ⟨by have:=h.1;omega,fun q hq=>by have:=h.2 q hq;omega⟩
end

structure TsOK (T:List e8Sc):Prop where
 tl:T.length≤1048576
 fl:∀s∈T,s.fields.length≤1048576
 nd:(Ky T).Nodup
theorem decV_ok {T:List e8Sc}{t:Syn}(h:(Ky T).contains t.text=true):0≤(Ou T t).type∧(Ou T t).type<(T.length:Int):=by
 have:=Hg h;rw [Dx] at this;exact this
theorem bY {T:List e8Sc}{V:List Va}{t:Syn}(h:(Io T V t != 0)=false):(Ky T).contains t.text=true∧(Id V).contains t.name=false∧V.length≠16:=by
 have h0:Io T V t=0:=by simpa using h
 unfold Io at h0;split at h0
 · cases h0
 rename_i h1;split at h0
 · cases h0
 rename_i h2;split at h0
 · cases h0
 rename_i h3;exact ⟨by simpa using h2,by simpa using h3,fun e=>h1 (by simp [e])⟩
theorem fW {T:List e8Sc}:∀(l:List Syn) (V:List Va),V.length≤16→(∀v∈V,0≤v.type∧v.type<(T.length:Int))→(Hi T V l).1.length≤16∧∀v∈(Hi T V l).1,0≤v.type∧v.type<(T.length:Int)
  | [],V,h1,h2=>⟨h1,h2⟩
  | t::r,V,h1,h2=>by
    rw [Jj];cases hq:Io T V t != 0 with
    | true=>rw [if_pos rfl];exact ⟨h1,h2⟩
    | false=>
      rw [Bl rfl];have hd:=bY hq;refine fW r _ (by rw [D9,Zl];have:=hd.2.2;omega) fun v hv=>?_
      rcases S0.1 hv with hv | hv
      · exact h2 v hv
      rw [My.1 hv];exact decV_ok hd.1
theorem mS {T:List e8Sc}(hT:TsOK T)(l:List Syn):RvOK T (Hi T [] l).1:=by
 have h:=fW (T:=T) l [] (by simp) (fun v hv=>(gF hv).elim);exact ⟨hT.tl,hT.fl,by have:=h.1;omega,h.2⟩
theorem pY {t:Syn}(h:A4 t .pats=0)(h5:t.kind≠5):0<t.kids.length:=by
 have hs:=(Gq (F6 h).1).2.1;have hr:=Qx h;unfold Ei at hs;have:t.kind=6∨t.kind=7∨t.kind=8∨t.kind=9∨t.kind=10∨t.kind=11∨t.kind=12:=by omega
 rcases this with hk | hk | hk | hk | hk | hk | hk <;> · rw [hk] at hs;simp at hs;omega
theorem ev_some:∀t:Syn,A4 t .pats=0→I4 t≠[]:=by
  intro t
  induction t using Syn.ind with
  | h t ih=>
    intro hc;rw [Oc];split
    · simp
    · rename_i h5
      have h5':t.kind≠5:=by simpa using h5
      have hl:=pY hc h5';have hk:=D8 hl;have hm:=B4 hk;have h0:=ih _ hm (Ql hc h5' hk fun _=>rfl);split
      · simp
      · split
        · rw [dO hl];exact h0
        · intro he
          rw [List.flatMap_eq_nil_iff] at he;exact h0 (he _ hm)
theorem zQ {T:List e8Sc}{l:List Syn}(hl:l≠[])(h:((Hi T [] l).2.err != 0)=false):0<T.length:=by
  cases l with
  | nil=>exact (hl rfl).elim
  | cons t r=>
    rw [Jj] at h;cases hq:Io T [] t != 0 with
    | true=>rw [if_pos hq] at h;simp only at h;rw [hq] at h;cases h
    | false=>
      have:=Hg (bY hq).1;rw [Dx] at this;omega

section
variable (T:List e8Sc) (t:Syn)
def D1:List Va:=(Hi T [] (I4 (A3 t 1))).1
def nM:Fa:=(Hi T [] (I4 (A3 t 1))).2
def Rv (V:List Va):List Int×Bool:=if ((A3 t 0).text != []) then Wh T V (A3 t 0).text else ([],true)
def qJ (V:List Va)(x:Syn):Fa:=if (Cf (Cp T V x) != 0) then ⟨x.pos,Cf (Cp T V x)⟩ else O3
def aA (V:List Va):Pt:=(G3 T V (A3 t 1) ⟨0,0⟩).1
def X4 (V:List Va):Qy:=⟨t.text,V,(Rv T t V).1,aA T t V,(t.kids.drop 2).map (Cp T V)⟩
def yY (V:List Va):Qy×Fa:=if ((Fh (qJ T V) (t.kids.drop 2)).err != 0) then (Qk,Fh (qJ T V) (t.kids.drop 2)) else (X4 T t V,O3)
def QR3 (V:List Va):Qy×Fa:=if (J7 (aA T t V) != 0) then (Qk,⟨(A3 t 1).pos,J7 (aA T t V)⟩) else yY T t V
def QR2 (V:List Va):Qy×Fa:=if ((D4 T V t).err != 0) then (Qk,D4 T V t) else QR3 T t V
def QR1 (V:List Va):Qy×Fa:=if (!(Rv T t V).2) then (Qk,⟨(A3 t 0).pos,16⟩) else QR2 T t V
def Cg:Qy×Fa:=if ((nM T t).err != 0) then (Qk,nM T t) else QR1 T t (D1 T t)
end
section
variable {T:List e8Sc} {t:Syn} {V:List Va}
theorem qr_1 (h:((nM T t).err != 0)=true):Cg T t=(Qk,nM T t):=if_pos h
theorem rJ (h:((nM T t).err != 0)=false):Cg T t=QR1 T t (D1 T t):=Bl h
theorem dY (h:((A3 t 0).text != [])=true):Rv T t V=Wh T V (A3 t 0).text:=if_pos h
theorem wI (h:((A3 t 0).text != [])=false):Rv T t V=([],true):=Bl h
theorem qr_2 (h:(!(Rv T t V).2)=true):QR1 T t V=(Qk,⟨(A3 t 0).pos,16⟩):=if_pos h
theorem uU (h:(!(Rv T t V).2)=false):QR1 T t V=QR2 T t V:=Bl h
theorem qr_3 (h:((D4 T V t).err != 0)=true):QR2 T t V=(Qk,D4 T V t):=if_pos h
theorem qr_d (h:((D4 T V t).err != 0)=false):QR2 T t V=QR3 T t V:=Bl h
theorem qr_4 (h:(J7 (aA T t V) != 0)=true):QR3 T t V=(Qk,⟨(A3 t 1).pos,J7 (aA T t V)⟩):=if_pos h
theorem qr_e (h:(J7 (aA T t V) != 0)=false):QR3 T t V=yY T t V:=Bl h
theorem mJ {x:Syn}(h:(Cf (Cp T V x) != 0)=true):qJ T V x=⟨x.pos,Cf (Cp T V x)⟩:=if_pos h
theorem rt_no {x:Syn}(h:(Cf (Cp T V x) != 0)=false):qJ T V x=O3:=Bl h
theorem qr_5 {k:Nat}{x:Syn}(ha:(t.kids.drop 2)[k]? = some x)(hn:((t.kids.drop 2).take k).any (fun x=>(qJ T V x).err != 0)=false)(h:(Cf (Cp T V x) != 0)=true):yY T t V=(Qk,⟨x.pos,Cf (Cp T V x)⟩):=by
 have h1:=Zr ha hn (by rw [mJ h];exact h);unfold yY;rw [h1,mJ h];exact if_pos h
theorem qr_6 (hn:(t.kids.drop 2).any (fun x=>(qJ T V x).err != 0)=false):yY T t V=(X4 T t V,O3):=by
 unfold yY;rw [Vb hn];rfl
structure QryOK (t:Syn):Prop where
 m:E7 t
 c:A4 t (.only 3)=0
theorem QryOK.kind (h:QryOK t):t.kind=3:=L8 (Gq (F6 h.c).1).1
theorem QryOK.len (h:QryOK t):3≤t.kids.length:=by
 have hs:=(Gq (F6 h.c).1).2.1;unfold Ei at hs;rw [h.kind] at hs;simp at hs;omega
theorem QryOK.pat (h:QryOK t):A4 (A3 t 1) .pats=0:=by
 have hk:=(Gn h.c (D8 (k:=1) (by have:=h.len;omega))).1;unfold Ec at hk;rw [h.kind] at hk;exact hk
theorem QryOK.med1 (h:QryOK t):E7 (A3 t 1):=Xg h.m (by have:=h.len;omega)
theorem QryOK.evl (h:QryOK t):(I4 (A3 t 1)).length≤1048576:=by
 have:=dQ (A3 t 1);have:=Hz h.med1;omega
end

section
variable (T:List e8Sc) (t:Syn)
def Dr:Qy×Int×Int:=if (Fw T != 0) then (Qk,0,Fw T) else if ((By t (.only 3)).2 != 0) then (Qk,0,3) else ((Cg T t).1,(Cg T t).2.pos,(Cg T t).2.err)
theorem qp_1 (h:(Fw T != 0)=true):Dr T t=(Qk,0,Fw T):=if_pos h
theorem qp_2 (h:(Fw T != 0)=false)(h2:((By t (.only 3)).2 != 0)=true):Dr T t=(Qk,0,3):=(Bl h).trans (if_pos h2)
theorem eF (h:(Fw T != 0)=false)(h2:((By t (.only 3)).2 != 0)=false):Dr T t=((Cg T t).1,(Cg T t).2.pos,(Cg T t).2.err):=(Bl h).trans (Bl h2)
end
theorem K9 {t:Syn}{p:Pl}(h:((By t p).2 != 0)=false):A4 t p=0:=by
  cases hc:A4 t p != 0 with
  | false=>simpa using hc
  | true=>
    have:(By t p).2=A4 t p:=by unfold By;rw [if_pos hc]
    rw [this,hc] at h;cases h
theorem Td:∀(l:List e8Sc) (seen:List (List UInt8)),Li seen l=0→seen.Nodup→(seen++l.map (·.name)).Nodup∧∀s∈l,Mk s=0
  | [],seen,h,hn=>⟨by simpa using hn,fun s hs=>(gF hs).elim⟩
  | s::r,seen,h,hn=>by
    rw [Li] at h;split at h
    · rename_i h1;rw [h] at h1;cases h1
    · rename_i h1
      have h0:Km seen s=0:=by simpa using h1
      have hc:s.name∉seen:=by
        intro hm;unfold Km at h0;split at h0
        · rename_i h2;rw [h0] at h2;cases h2
        · rename_i h2
          rw [if_pos (by simpa using hm)] at h0;cases h0
      have hz:Mk s=0:=by
        unfold Km at h0;split at h0
        · rename_i h2;rw [h0] at h2;cases h2
        rename_i h2;simpa using h2
      have ih:=Td r (seen ++ [s.name]) h (List.nodup_append.2 ⟨hn,by simp,fun a ha b hb=>by rw [My.1 hb];exact fun e=>hc (e▸ha)⟩);refine ⟨by simpa using ih.1,fun x hx=>?_⟩;rcases G2.1 hx with rfl | hx
      · exact hz
      exact ih.2 x hx
theorem all_ok {T:List e8Sc}(h:(Fw T != 0)=false):T.length≤16∧(Ky T).Nodup∧∀s∈T,Mk s=0:=by
 have h0:Fw T=0:=by simpa using h
 unfold Fw at h0;split at h0
 · cases h0
 rename_i h1;have:=Td T [] h0 List.nodup_nil;exact ⟨by have:=h1;simp at this;omega,by simpa using this.1,this.2⟩
theorem sch_len {s:e8Sc}(h:Mk s=0):s.fields.length≤8:=by
 unfold Mk at h;split at h
 · cases h
 split at h
 · cases h
 rename_i h2;simp at h2;omega
theorem lB {T:List e8Sc}(h:(Fw T != 0)=false):TsOK T:=by
 obtain ⟨h1,h2,h3⟩:=all_ok h;exact ⟨by omega,fun s hs=>by have:=sch_len (h3 s hs);omega,h2⟩

def Yp:List Fi→List Syn→List Fi×Fa
 | fs,[]=>(fs,O3)
 | fs,x::r=>if ((fs.length:Int)==8) then (fs,⟨x.pos,5⟩) else if (fs.map (·.name)).contains x.text then (fs,⟨x.pos,7⟩) else Yp (fs ++ [⟨x.text,x.num⟩]) r
def wK:List e8Sc→List Syn→List e8Sc×Fa
  | out,[]=>(out,O3)
  | out,k::r=>
    if (k.kind != 1) then wK out r
    else if ((out.length:Int)==16) then ([],⟨k.pos,5⟩)
    else if (Ky out).contains k.text then ([],⟨k.pos,7⟩)
    else if ((Yp [] k.kids).2.err != 0) then ([],(Yp [] k.kids).2)
    else wK (out ++ [⟨k.text,(Yp [] k.kids).1⟩]) r
def kQ (t:Syn):List e8Sc×Fa:=wK [] t.kids
section
variable {out:List e8Sc} {l:List Syn} {k:Nat} {a:Syn}
variable {fs:List Fi}
end
def TypP (t:Syn):List e8Sc×Int×Int:=if ((By t (.only 0)).2 != 0) then ([],0,3) else ((kQ t).1,(kQ t).2.pos,(kQ t).2.err)

structure Pg where
 types:List e8Sc
 queries:List Qy
def pg0:Pg:=⟨[],[]⟩
@[reducible] def cPg (p : Pg) : List AV := [.sl 2 (p.types.map Mt), .sl 18 (p.queries.map cQy)]
def bS (T:List e8Sc):List Qy→List Syn→List Qy×Fa
  | qs,[]=>(qs,O3)
  | qs,k::r=>
    if (k.kind != 3) then bS T qs r
    else if ((qs.length:Int)==16) then ([],⟨k.pos,5⟩)
    else if (qs.map (·.name)).contains k.text then ([],⟨k.pos,7⟩)
    else if ((Cg T k).2.err != 0) then ([],(Cg T k).2)
    else bS T (qs ++ [(Cg T k).1]) r
section
variable {T:List e8Sc} {qs:List Qy} {l:List Syn} {k:Nat} {a:Syn}
end
def PrgT (t:Syn)(T:List e8Sc):Pg×Int×Int:=if ((bS T [] t.kids).2.err != 0) then (pg0,(bS T [] t.kids).2.pos,(bS T [] t.kids).2.err) else (⟨T,(bS T [] t.kids).1⟩,0,0)
def PrgP (t:Syn):Pg×Int×Int:=if ((By t (.only 0)).2 != 0) then (pg0,0,3) else if ((kQ t).2.err != 0) then (pg0,(kQ t).2.pos,(kQ t).2.err) else PrgT t (kQ t).1
section
variable {t:Syn}
end
end Go.Proofs.YtckhoadldibflaaGreatDoor
