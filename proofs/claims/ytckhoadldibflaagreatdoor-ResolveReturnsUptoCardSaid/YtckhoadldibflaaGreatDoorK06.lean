/-
  Several texts in one: R7, R8, Rar, R9, R10, R11, R12. No condition.
-/
import Derived.Test.YtckhoadldibflaaGreatDoorK05
import Derived.IntWalk
import Derived.Test.YtckhoadldibflaaGreatDoorK02
import Derived.ControlIn
set_option linter.unusedVariables false
set_option linter.unusedSimpArgs false
namespace Go.Proofs.YtckhoadldibflaaGreatDoor
open Go Go.Aw
def ixI (l:List Int)(k:Int):Int:=(l[k.toNat]?).getD 0
def bI (l:List Int):List AV:=l.map (AV.int .i64)
def cI (v:Int):List AV:=[.int .i64 v]
theorem hU (l:List Int):(bI l).length=l.length:=Bt ..
theorem bI_sc (l:List Int):A0 (bI l)=true:=by
 induction l with
 | nil=>rfl
 | cons a r ih=>exact ih
theorem bI_app (l m:List Int):bI (l++m)=bI l++bI m:=Dt ..
theorem bI_take (l:List Int)(k:Nat):(bI l).take k=bI (l.take k):=(List.map_take ..).symm
theorem bI_drop (l:List Int)(k:Nat):(bI l).drop k=bI (l.drop k):=(List.map_drop ..).symm
theorem bI_zero (n:Nat):(List.replicate n [AV.int .i64 0]).flatten=bI (List.replicate n 0):=by
 induction n with
 | zero=>rfl
 | succ n ih=>rw [List.replicate_succ,Bj,ih,List.replicate_succ];rfl
theorem bI_flat (l:List Int):(l.map cI).flatten=bI l:=by
 induction l with
 | nil=>rfl
 | cons a r ih=>rw [Ao,Bj,ih];rfl
theorem uN {α:Type}{f:α->List AV}(hf:∀x,(f x).length=1)(l:List α):∀e∈l.map f,e.length=1:=fun e he=>by
 obtain ⟨x,_,rfl⟩:=Cl.1 he;exact hf x
theorem xG:∀{l:List Int} {k:Nat} {v:Int},k<l.length->J9 (bI l) k [AV.int .i64 v]=bI (l.set k v)
  | [],k,v,h=>absurd h (by simp)
  | a::r,0,v,h=>by simp [J9,bI]
  | a::r,k+1,v,h=>by
    have ih:=xG (l:=r) (k:=k) (v:=v) (by simpa using h);show AV.int .i64 a::J9 (bI r) k [AV.int .i64 v]=_;rw [ih];rfl
theorem off0 (n:Nat):0+n*1=n:=by omega
theorem bI_fits {l:List Int}{k:Nat}(h:k<l.length):Nat.ble (k+1) (bI l).length=true:=Nat.ble_eq_true_of_le (by rw [hU];omega)

def jT (n:Nat):List Int:=List.replicate n (-1)
def Pw (n k:Nat):List Int:=List.replicate k (-1)++List.replicate (n-k) 0
theorem kL {n k:Nat}(h:k<=n):(Pw n k).length=n:=by unfold Pw;simp;omega
theorem repL_full (n:Nat):Pw n n=jT n:=by unfold Pw jT;simp
theorem repL_copy {n k m:Nat}(hk:k+m<=n)(hm:m<=k):J9 (bI (Pw n k)) k (((bI (Pw n k)).drop 0).take m)=bI (Pw n (k+m)):=by
 rw [Qt,bI_take]
 have h1:(Pw n k).take m=List.replicate m (-1):=by
  unfold Pw;rw [gQ (by rw [Wv];exact hm),List.take_replicate,Nat.min_eq_left hm]
 have h2:(Pw n k).take k=List.replicate k (-1):=by
  unfold Pw;rw [gQ (by rw [Wv];omega),List.take_replicate,Nat.min_self]
 have h3:(Pw n k).drop (k+m)=List.replicate (n-(k+m)) 0:=by
  unfold Pw;rw [List.drop_append,Wv,List.drop_of_length_le (by rw [Wv];omega),C5,List.drop_replicate]
  congr 1;omega
 unfold J9;rw [h1,hU,Wv,bI_take,bI_drop,h2,h3,<-bI_app,<-bI_app]
 congr 1
 unfold Pw;rw [List.replicate_append_replicate]
theorem yZ {n:Nat}(hn:0<n):J9 (bI (Pw n 0)) 0 ((([[AV.int .i64 (-1)]]:List (List AV)).flatten).take 1)=bI (Pw n 1):=by
 unfold Pw;obtain ⟨m,rfl⟩:∃m,n=m+1:=⟨n-1,by omega⟩;simp [J9,bI,List.replicate_succ]
theorem kMul (x y:Nat)(hx:x<18446744073709551616)(hy:y<18446744073709551616):An Tryz.prog 233 [.int .u64 (x:Int),.int .u64 (y:Int)] (.tuple [.int .u64 ((x*y / 18446744073709551616:Nat):Int),.int .u64 ((x*y % 18446744073709551616:Nat):Int)]):=
 .of_same fun g w vs hg ha=>by
  obtain ⟨u,v,rfl,h1,h2⟩:=ha.inv2;have e1:=h1.inv_int;have e2:=h2.inv_int;subst e1 e2
  exact ⟨_,fun g' w'=>.tuple _ _ rfl (fun i c hc=>by
   match i,hc with
   | 0,hc=>cases hc;exact .int _ _
   | 1,hc=>cases hc;exact .int _ _
   | i+2,hc=>simp at hc),Tryz.bits_Mul x y hx hy w⟩
theorem kMul1 (n:Nat)(hn:n<=1048576):An Tryz.prog 233 [.int .u64 1,.int .u64 (n:Int)] (.tuple [.int .u64 0,.int .u64 (n:Int)]):=by
 have h:=kMul 1 n (by decide) (by omega);rw [Nat.one_mul,Nat.div_eq_of_lt (by omega),Nat.mod_eq_of_lt (by omega)] at h;exact h
theorem u64_in {n:Nat}(h:n<=1048576):IntKind.wrap .u64 (n:Int)=(n:Int):=by
 unfold IntKind.wrap;simp [IntKind.bits,IntKind.signed];omega
theorem i64_in {n:Nat}(h:n<=1048576):IntKind.wrap .i64 (n:Int)=(n:Int):=IntWalk.i64_in _ (by omega)
theorem mA {l:List Int}{k:Nat}{v:Int}(h:k<l.length):(bI (l.set k v))[k]? = some (.int .i64 v):=by
 unfold bI;rw [List.getElem?_map,List.getElem?_set_self h];rfl
section
variable {T:List e8Sc} {n:Ag} {va:Va} {sc:e8Sc}
theorem key_hit {l:List Va}{k:Nat}{out:List Int}(h:l[k]? = some va)(hs:T[va.type.toNat]? = some sc)(hq:decide (Js sc n<0)=true):Vj T n (l.drop k) out=([],false):=by
 rw [A2 h,Vj,hs];exact if_pos hq
theorem key_on {l:List Va}{k:Nat}{out:List Int}(h:l[k]? = some va)(hs:T[va.type.toNat]? = some sc)(hq:decide (Js sc n<0)=false):Vj T n (l.drop k) out=Vj T n (l.drop (k+1)) (out.set va.type.toNat (Js sc n)):=by
 rw [A2 h,Vj,hs];exact Bo hq
end
end Go.Proofs.YtckhoadldibflaaGreatDoor

namespace Go.Aw
open Go
section
variable {P:Program} {T:List (Nat×TD)} {d:Option Nat} {ty:TypeId} {pos:String} {aft:Array Edge} {gd:Option (Nat×Bool)} {ρ:Operand->AV} {K:List HO->Prop}
theorem Ss {i:Operand}{t e len:Nat}{td te:TD}{k:IntKind}{n:Int}{gl:Nat}{l cs':List AV}(hT:Jw P T)(hg:∃c,(gl,c)∈globals/\∀cs,c cs->cs=l)(hi:ρ i = .int k n)(ht:Bs T t=some td)(hk:td.kind = .array len e)
  (hte:Bs T e=some te) (h0:0<=n) (hc:n<len) (ho:l.drop (n.toNat*te.size)=cs') (hρ:ρ (.global gl) = .val (.pointer (some ⟨gl,0,none⟩))):Dp P ⟨d,.indexAddr t (.global gl) i,ty,pos,aft,gd⟩ ρ K (.ptr cs'):=by
 intro g w a H next Q hr hH hK hn
 obtain ⟨c,hc',hcl⟩:=hg;obtain ⟨cs,h1,h2⟩:=hH.glob.vars _ hc';obtain rfl:=hcl cs h1;obtain ⟨b,o,he,fv,h3,h4⟩:=h2.inv_ptr;simp only [Value.pointer.injEq,Option.some.injEq,Addr.mk.injEq,and_true] at he;obtain ⟨rfl,rfl⟩:=he;have he:=(hρ▸hr (.global gl) (by simp [Op.operands]):Rep g w _ _).inv_val;have h5:=(hi▸hr i (by simp [Op.operands]):Rep g w _ _).inv_int;have hu:=O1 (hT t td ht) hk
 have hrun:(execOp a.eval ⟨d,.indexAddr t (.global gl) i,ty,pos,aft,gd⟩).run P w = .ok (.value (.pointer (some ⟨gl,0+n.toNat*te.size,none⟩))) w:=by
  simp only [execOp,he,h5,Instr.indexAt,asIntOf,Sem.run_bind,Sem.run_pure,Result.andThen_ok,Be hu,Instr.sureAddr];simp [h0,hc,Hj (hT e te hte),Hn]
 unfold Oper.wp;rw [hrun];subst ho;refine hn g w _ (.ptr gl (0+n.toNat*te.size) _ (fun j=>fv (n.toNat*te.size+j)) (fun j x hj=>?_) (fun j x hj=>?_)) hH (Ext.refl g w)
 .
  rw [List.getElem?_drop] at hj;have:=h3 (n.toNat*te.size+j) x hj
  rwa [Qq]
 rw [List.getElem?_drop] at hj;exact h4 (n.toNat*te.size+j) x hj
end
end Go.Aw
namespace Go.Proofs.YtckhoadldibflaaGreatDoor
open Go Go.Aw

mutual
def F2:Pt->List Pt
 | ⟨o,xs,t,v,s,n,c⟩=>⟨o,xs,t,v,s,n,c⟩::ndPs xs
def ndPs:List Pt->List Pt
 | []=>[]
 | a::r=>F2 a++ndPs r
end
theorem uF:∀l:List Pt,ndPs l=l.flatMap F2
 | []=>by rw [ndPs];rfl
 | a::r=>by rw [ndPs,uF r,Ld]
theorem Mx (p:Pt):F2 p=p::p.args.flatMap F2:=by cases p;rw [F2,uF]
mutual
def mJ:Pt->Nat
 | ⟨_,xs,_,_,_,_,_⟩=>Y1 xs+1
def Y1:List Pt->Nat
 | []=>0
 | a::r=>max (mJ a) (Y1 r)
end
theorem iG (p:Pt):mJ p=Y1 p.args+1:=by cases p;rw [mJ]
theorem bV:∀(l:List Pt) (a:Pt),Y1 (l ++ [a])=max (Y1 l) (mJ a)
 | [],a=>by simp [Y1]
 | x::r,a=>by rw [Co,Y1,bV r a,Y1];omega
theorem dp_le:∀p:Pt,mJ p<=Iw p:=by
  intro p
  induction p using Pt.ind with
  | h p ih=>
    rw [iG,Lc]
    have:∀l:List Pt,(∀a∈l,mJ a<=Iw a)->Y1 l<=(l.map Iw).sum:=by
      intro l
      induction l with
      | nil=>intro _;rw [Y1];simp
      | cons x r ih2=>intro h;rw [Y1,Ao,Ew];have:=h x (by simp);have:=ih2 fun a ha=>h a (by simp [ha]);omega
    have:=this _ ih;omega
theorem Mb {p a:Pt}(h:a∈p.args):Iw a<Iw p:=by
  rw [Lc p]
  have:∀l:List Pt,a∈l->Iw a<=(l.map Iw).sum:=by
    intro l
    induction l with
    | nil=>intro h;cases h
    | cons x r ih => intro h; rw [Ao, Ew]; rcases Db.1 h with rfl | h
                     . omega
                     have:=ih h;omega
  have:=this _ h;omega
theorem N4 (p:Pt):p.args.length<Iw p:=by
  rw [Lc]
  have:∀l:List Pt,l.length<=(l.map Iw).sum:=by
    intro l
    induction l with
    | nil=>simp
    | cons x r ih => rw [Bb, Ao, Ew]; have : 1 <= Iw x := by rw [Lc]; omega
                     omega
  have:=this p.args;omega
theorem qF:∀(l:List Pt) (k:Nat),((l.take k).map Iw).sum<=(l.map Iw).sum
 | [],k=>by simp
 | x::r,0=>by simp
 | x::r,k+1=>by rw [Zt,Ao,Ao,Ew,Ew];have:=qF r k;omega
theorem jQ:∀p:Pt,(F2 p).length=Iw p:=by
  intro p
  induction p using Pt.ind with
  | h p ih=>
    rw [Mx,Lc,Bb]
    have:∀l:List Pt,(∀a∈l,(F2 a).length=Iw a)->(l.flatMap F2).length=(l.map Iw).sum:=by
      intro l
      induction l with
      | nil=>intro _;rfl
      | cons x r ih2=>intro h;rw [Ld,Au,Ao,Ew,h x (by simp),ih2 fun a ha=>h a (by simp [ha])]
    rw [this _ ih]
theorem jR {p a q:Pt}(h:a∈p.args)(hq:q∈F2 a):q∈F2 p:=by
 rw [Mx];exact F9 _ (List.mem_flatMap.2 ⟨a,h,hq⟩)
theorem Rv (p:Pt):p∈F2 p:=by rw [Mx];exact I7 ..
theorem Vw {l:List Pt}{k:Nat}{a:Pt}(h:l[k]? = some a):(l.map Oq)[k]? = some (cPt a):=by rw [List.getElem?_map,h];exact congrArg some (Xk a)

structure Shp where
 least:Int
 most:Int
 typed:Bool
 cond:Bool
 scope:Bool
 span:Bool
def cShp (s:Shp):List AV:=[.int .i64 s.least,.int .i64 s.most,.bool s.typed,.bool s.cond,.bool s.scope,.bool s.span]
def shpL:List Shp:=[⟨0,0,true,true,false,false⟩,⟨2,64,false,false,false,false⟩,⟨2,64,false,false,false,false⟩,⟨2,64,false,false,false,false⟩,⟨1,1,false,false,false,false⟩,⟨1,1,true,true,true,false⟩,⟨1,1,false,false,true,true⟩,⟨1,1,false,true,false,false⟩,⟨2,2,false,false,false,false⟩,⟨1,1,true,true,true,false⟩,⟨1,1,false,false,true,true⟩]
def Ku (o:Int):Shp:=(shpL[o.toNat]?).getD ⟨0,0,false,false,false,false⟩
theorem shp_at {o:Int}(h0:0<=o)(h1:o<11):∃rest,Zq.drop (o.toNat*6)=cShp (Ku o)++rest:=by
 have:o=0\/o=1\/o=2\/o=3\/o=4\/o=5\/o=6\/o=7\/o=8\/o=9\/o=10:=by omega
 rcases this with rfl | rfl | rfl | rfl | rfl | rfl | rfl | rfl | rfl | rfl | rfl <;> exact ⟨_,rfl⟩
def wth (u:Bool)(n m:Int):Bool:=!u||(decide (0<=n)&&decide (n<=m))
def unu (u:Bool)(n:Int):Bool:=u||(n==0)
def ckB (p:Pt)(s:Shp):Bool:=(((!wth s.typed p.type 15) || !wth s.typed p.var 15) || !wth s.scope p.scope 63) || !wth s.span p.span 1099511627776
def ckU (p:Pt)(s:Shp):Bool:=(((((!s.cond) && !Ge p.cond rC) || !unu s.typed p.type) || !unu s.typed p.var) || !unu s.scope p.scope) || !unu s.span p.span
def ckR (p:Pt)(s:Shp):Int:=
 if decide ((p.args.length:Int)<s.least)||decide (s.most<(p.args.length:Int)) then 15
 else if ckB p s then 2
 else if s.cond&&(Gk p.cond != 0) then Gk p.cond
 else if ckU p s then 3 else 0
def gA (p:Pt):Int:=if decide (p.op<0)||decide (11<=p.op) then 1 else ckR p (Ku p.op)
section
variable {p:Pt}
theorem ck_1 (h:(decide (p.op<0)||decide (11<=p.op))=true):gA p=1:=if_pos h
theorem ck_2 (h:(decide (p.op<0)||decide (11<=p.op))=false)(h2:(decide ((p.args.length:Int)<(Ku p.op).least)||decide ((Ku p.op).most<(p.args.length:Int)))=true):gA p=15:=(Bo h).trans (if_pos h2)
theorem ck_3 (h:(decide (p.op<0)||decide (11<=p.op))=false)(h2:(decide ((p.args.length:Int)<(Ku p.op).least)||decide ((Ku p.op).most<(p.args.length:Int)))=false)(h3:ckB p (Ku p.op)=true):gA p=2:=(Bo h).trans ((Bo h2).trans (if_pos h3))
theorem ck_4 (h:(decide (p.op<0)||decide (11<=p.op))=false)(h2:(decide ((p.args.length:Int)<(Ku p.op).least)||decide ((Ku p.op).most<(p.args.length:Int)))=false)(h3:ckB p (Ku p.op)=false)(h4:(Ku p.op).cond=true)(h5:(Gk p.cond != 0)=true):gA p=Gk p.cond:=by
 refine (Bo h).trans ((Bo h2).trans ((Bo h3).trans (if_pos ?_)));rw [h4,h5];rfl
theorem ck_n (h:(decide (p.op<0)||decide (11<=p.op))=false)(h2:(decide ((p.args.length:Int)<(Ku p.op).least)||decide ((Ku p.op).most<(p.args.length:Int)))=false)(h3:ckB p (Ku p.op)=false)(h4:((Ku p.op).cond&&(Gk p.cond != 0))=false):gA p=if ckU p (Ku p.op) then 3 else 0:=(Bo h).trans ((Bo h2).trans ((Bo h3).trans (Bo h4)))
end

def Px (p:Pt):Int:=if decide ((64:Int)<(Iw p:Int)) then 5 else if decide ((12:Int)<(mJ p:Int)) then 12 else Da gA (F2 p)
def Tm (p:Pt):Int:=if (Px p != 0) then Px p else if (F2 p).any (fun q=>decide (8<=q.op)) then 1 else 0
structure Cnt where
 vars:Int
 scopes:Int
 ok:Bool
def K2 (c:Cnt)(q:Pt):Cnt:=
 ⟨if (Ku q.op).typed then c.vars+1 else c.vars,if (Ku q.op).scope then c.scopes+1 else c.scopes,(c.ok&&(!(Ku q.op).typed||(q.var==c.vars)))&&(!(Ku q.op).scope||(q.scope==c.scopes))⟩
def Pf (p:Pt):Cnt:=(F2 p).foldl K2 ⟨0,0,true⟩
def Jr (p:Pt):Int:=if (Tm p != 0) then Tm p else if !(Pf p).ok then 14 else 0

section
variable {S:Type} (live:S->Bool) (step:S->Pt->S)
def Vh:S->List Pt->S
 | s,[]=>s
 | s,p::r=>if live s then Vh (step s p) r else s
theorem aI {s:S}(h:live s=false):∀l,Vh live step s l=s
 | []=>rfl
 | p::r=>by rw [Vh,if_neg (by rw [h];decide)]
theorem pH:∀(l m:List Pt) (s:S),Vh live step s (l++m)=Vh live step (Vh live step s l) m
  | [],m,s=>rfl
  | p::r,m,s=>by
    rw [Co,Vh,Vh];cases h:live s with
    | true=>rw [if_pos rfl,if_pos rfl];exact pH r m _
    | false=>rw [if_neg (by decide),if_neg (by decide),aI live step h]
theorem xZ {s:S}(hs:live s=true)(p:Pt):Vh live step s (F2 p)=Vh live step (step s p) (p.args.flatMap F2):=by
 rw [Mx,Vh,if_pos hs]
theorem nC {Nz:S->Nat->Prop}(hmo:∀s n m,Nz s n->m<=n->Nz s m)(hgo:∀s q n,Nz s (n+1)->Nz (step s q) n):∀(l:List Pt) (s:S) (m:Nat),Nz s (l.length+m)->Nz (Vh live step s l) m
  | [],s,m,h=>by rw [Vh];simpa using h
  | p::r,s,m,h=>by
    rw [Vh];cases hl:live s with
    | false=>rw [if_neg (by decide)];exact hmo _ _ _ h (by omega)
    | true=>
      rw [if_pos rfl];exact nC hmo hgo r _ m (hgo _ _ _ (by rw [Bb] at h;rw [show r.length+m+1=r.length+1+m by omega];exact h))
theorem goY_stop {s:S}(hs:live s=true){p:Pt}(h:live (step s p)=false):Vh live step s (F2 p)=step s p:=by
 rw [xZ live step hs,aI live step h]
theorem iZ {s:S}{l:List Pt}{k:Nat}{a:Pt}(h:l[k]? = some a):Vh live step s ((l.take (k+1)).flatMap F2)=Vh live step (Vh live step s ((l.take k).flatMap F2)) (F2 a):=by
 rw [C9 h,List.flatMap_append,pH];simp
theorem goY_cut {s:S}{l:List Pt}{k:Nat}{a:Pt}(h:l[k]? = some a)(hd:live (Vh live step s ((l.take (k+1)).flatMap F2))=false):Vh live step s (l.flatMap F2)=Vh live step s ((l.take (k+1)).flatMap F2):=by
 conv=>lhs;rw [<-Zu (k+1) l,List.flatMap_append,pH]
 rw [aI live step hd]
end
end Go.Proofs.YtckhoadldibflaaGreatDoor

namespace Go.Aw
open Go

section
variable {l:Nat} {P:Program} {Q:Exit->St->Prop} {s:St}
theorem wY.ret (h:Q .ret s):wY l P .ret Q s:=fun n Q' g a w hG hQ=>wpIn_ret (hQ _ g s a w hG (Ext.refl g w) h)
theorem wY.skip (h:Q .normal s):wY l P .skip Q s:=fun n Q' g a w hG hQ=>wpIn_skip (hQ _ g s a w hG (Ext.refl g w) h)
theorem wY.seq {x y:Code}(h:wY l P x (Gf (wY l P y Q) Q) s):wY l P (.seq x y) Q s:=by
 intro n Q' g a w hG hQ;refine wpIn_seq (h n _ g a w hG fun e g' s' a' w' hG' hx hq=>?_);cases e with
 | normal=>exact hq n Q' g' a' w' hG' fun e g'' s'' a'' w'' h1 h2 h3=>hQ e g'' s'' a'' w'' h1 (hx.trans h2) h3
 | _=>exact hQ _ g' s' a' w' hG' hx hq
theorem wY.cond {c:Operand}{x y:Code}{b:Bool}(hb:Fy s.sl c = .bool b)(ht:b=true->wY l P x Q s)(hf:b=false->wY l P y Q s):wY l P (.cond c x y) Q s:=by
 intro n Q' g a w hG hQ;have hv:=(hb▸hG.eval c:Rep g w _ _).inv_bool;exact wpIn_cond_split hv (fun h=>ht h n Q' g a w hG hQ) (fun h=>hf h n Q' g a w hG hQ)
end

theorem Tp.ofE {P:Program}{l:Nat}{rec:Loop}{H:List HO}{args:List AV}{R:AV->List HO->Prop}{sl:List (Nat×AV)}{n0:Nat}(hst:rec.state = .ready)(hpe:rec.pending=none)
  (hsz:rec.tmps.size=n0) (hsl:∀g w vs,Dv g w vs args->∀j,Rep g w (((rec.params.zip vs).foldl (fun t (p,v)=>t.setIfInBounds p v) rec.tmps).getD j undef) (get sl j))
  (h:wY l P rec.assign (fun e s1=>e = .normal/\∃i:Nat,s1.H[i]? = some (HO.obj l (Obj.loop rec))/\wY l P rec.body (fun e s2=>∃j:Nat,s2.H[j]? = some (HO.obj l (Obj.loop { rec with state:=.busy }))/\
   ((e = .normal/\R (.bool true) (s2.H.set j (.obj l (.loop rec))))\/(e = .ret/\R (.bool false) (s2.H.set j (.obj l (.loop { rec with state:=.done,pending:=some .ret })))))) ⟨s1.sl,s1.H.set i (.obj l (.loop { rec with state:=.busy })),s1.n⟩) ⟨sl,H,n0⟩):Tp P l rec H args R:=by
 intro n g w vs hH hr;refine roundIn_of_wpIn trivial ?_
 have hfs:∀(L:List (Tmp×Value)) (t:Array Value),(L.foldl (fun t (p,v)=>t.setIfInBounds p v) t).size=t.size:=by
  intro L;induction L with
  | nil=>intro t;rfl
  | cons p r ih=>intro t;rw [List.foldl_cons,ih];simp
 have hG:Gm g ⟨sl,H,n0⟩ { tmps:=(rec.params.zip vs).foldl (fun t (p,v)=>t.setIfInBounds p v) rec.tmps,defers:=[] } w:=
  ⟨by rw [<-Array.foldl_toList];exact (hfs _ _).trans hsz,rfl,fun j=>hsl g w vs hr j,hH⟩
 refine h n _ g _ w hG ?_;rintro e g1 s1 a1 w1 hG1 hx1 ⟨rfl,i,hi,hb⟩;have hob:(HO.obj l (.loop rec)).ok g1 w1:=hG1.heap.ok _ (Aj hi);refine ⟨_,run_beginRound hob.2 hst,?_⟩;obtain ⟨hG2,hx2⟩:=hG1.putObj (.loop { rec with state:=.busy }) hi;refine hb n _ g1 a1 _ hG2 ?_;rintro e g3 s3 a3 w3 hG3 hx3 ⟨j,hj,hR⟩;have hob3:(HO.obj l (.loop { rec with state:=.busy })).ok g3 w3:=hG3.heap.ok _ (Aj hj);rcases hR with ⟨rfl,hR⟩ | ⟨rfl,hR⟩
 .
  obtain ⟨hG4,hx4⟩:=hG3.putObj (.loop rec) hj;refine ⟨_,_,run_endRound none hob3.2,_,g3,.bool true,_,rfl,.bool _,?_,?_,hR⟩
  .
   have:({ ({ rec with state:=.busy }:Loop) with state:=if (none:Option Code).isNone then .ready else .done,pending:=none }:Loop)=rec:=by
    cases rec;simp only at hst hpe;subst hst;subst hpe;rfl
   rw [this];exact hG4.heap
  have:({ ({ rec with state:=.busy }:Loop) with state:=if (none:Option Code).isNone then .ready else .done,pending:=none }:Loop)=rec:=by
   cases rec;simp only at hst hpe;subst hst;subst hpe;rfl
  rw [this];exact ((hx1.trans hx2).trans hx3).trans hx4
 obtain ⟨hG4,hx4⟩:=hG3.putObj (.loop { rec with state:=.done,pending:=some .ret }) hj;exact ⟨_,_,run_endRound (some .ret) hob3.2,_,g3,.bool false,_,rfl,.bool _,hG4.heap,((hx1.trans hx2).trans hx3).trans hx4,hR⟩
theorem AW.regionY2 {P:Program}{Q:Exit->St->Prop}{s:St}{id:Nat}{ops:Array Oper}{pre post:List Oper}{d:Nat}{cal:Operand}{args:Array Operand}{ats:Array TypeId}{ty:TypeId}{pos:String}{aft:Array Edge}
  (hops:ops.toList=pre++⟨some d,.call ⟨.value cal,args,ats⟩,ty,pos,aft,none⟩::post) (hnd:Xw pre=true) (hnd2:Xw post=true)
  (h:AOL P ops (fun s'=>∃l rec R,(∃i:Nat,s'.H[i]? = some (HO.obj l (Obj.loop rec)))/\Fy s'.sl cal = .val (.func (.yield l) #[] #[])/\args.size=rec.params.size/\Of (some d) s'.n=true/\
   Tp P l rec s'.H (args.toList.map (Fy s'.sl)) R/\∀x H',R x H'->AOL P ops (Q .normal) post ⟨Ep (some d) x s'.sl,H',s'.n⟩) pre s):AW P (.region id ops false) Q s:=by
 intro Q' g a w hG hQ;refine (wpIn_wide (n:=1)).1 ?_;rw [<-wideN];refine wpIn_region_list ?_;rw [hops];refine Jf pre _ a w (Vp hnd) ?_;refine h.run _ g a w hG ?_;rintro g' s' a' w' hG' hx ⟨l,rec,R,⟨i,hi⟩,hcal,hlen,hd,hr,hk⟩;show wpListIn _ 1 P ops Q' (_::post) a' w';unfold wpListIn;rw [if_pos (F8 rfl)];refine ⟨fun _ _=>trivial,?_⟩;have hobj:(HO.obj l (.loop rec)).ok g' w':=hG'.heap.ok _ (Aj hi);have hv:a'.eval cal = .func (.yield l) #[] #[]:=(hcal▸hG'.eval cal:Rep g' w' _ _).inv_val;have hargs:Dv g' w' (args.map a'.eval) (args.toList.map (Fy s'.sl)):=aY (ρ:=Fy s'.sl) (a:=a') (g:=g') (w:=w') (args:=args) (fun y _=>hG'.eval y) rfl
 have hrun:(execOp a'.eval ⟨some d,.call ⟨.value cal,args,ats⟩,ty,pos,aft,none⟩).run P w' = .ok (.round l rec.fn ((rec.params.zip (args.map a'.eval)).foldl (fun t (p,v)=>t.setIfInBounds p v) rec.tmps) rec.assign rec.body) w':=by
  have hy:=run_yield (P:=P) (args:=args.map a'.eval) hobj.2 (by simpa using hlen);simp only [execOp,resolve,Sem.run_bind,hv,Deferred.ofValue,Sem.run_pure,Result.andThen_ok,invoke];simpa using hy
 rw [Oper.semAt_eq _ _ _ (fun c e=>by cases e),hrun];refine ⟨fun e=>(by cases e),(hr _ g' w' _ hG'.heap hargs).mono ?_⟩;rintro e w'' ⟨v,g'',r,H',rfl,k1,k2,k3,k4⟩;have hpost:=hk r H' k4;have:=Jf (ro:=none) (n:=1) (Q:=Q') post [] _ w'' (Vp hnd2) (hpost.run _ g'' _ w'' (hG'.put k3 hd k1 k2) fun g3 s3 a3 w3 h1 h2 h3=>hQ _ g3 s3 a3 w3 h1 ((hx.trans k3).trans h2) h3);simpa using this

theorem AW.regionYk {P:Program}{Q:Exit->St->Prop}{s:St}{id:Nat}{ops:Array Oper}(k:Nat){d:Nat}{cal:Operand}{args:Array Operand}{ats:Array TypeId}{ty:TypeId}{pos:String}{aft:Array Edge}
  (hops:ops.toList[k]? = some ⟨some d,.call ⟨.value cal,args,ats⟩,ty,pos,aft,none⟩) (hnd:Xw (ops.toList.take k)=true) (hnd2:Xw (ops.toList.drop (k+1))=true)
  (h:AOL P ops (fun s'=>∃l rec R,(∃i:Nat,s'.H[i]? = some (HO.obj l (Obj.loop rec)))/\Fy s'.sl cal = .val (.func (.yield l) #[] #[])/\args.size=rec.params.size/\Of (some d) s'.n=true/\
   Tp P l rec s'.H (args.toList.map (Fy s'.sl)) R/\∀x H',R x H'->AOL P ops (Q .normal) (ops.toList.drop (k+1)) ⟨Ep (some d) x s'.sl,H',s'.n⟩) (ops.toList.take k) s):AW P (.region id ops false) Q s:=by
 refine AW.regionY2 (pre:=ops.toList.take k) (post:=ops.toList.drop (k+1)) (ats:=ats) (ty:=ty) (pos:=pos) (aft:=aft) ?_ hnd hnd2 h;obtain ⟨hlt,he⟩:=List.getElem?_eq_some_iff.1 hops;rw [<-he,List.getElem_cons_drop,Zu]

def Tail (P:Program)(z:Code)(Qs:St->Prop)(s:St):Prop:=
 ∀(Q':Exit->Act->World->Prop) (g:Gh) (a:Act) (w:World) (ds:List Deferred),Gm g s a w->(∀g' s' a' w',Gm g' s' a' w'->Ext g w g' w'->Qs s'->Q' .ret (Act.more a' ds) w')->z.wp P Q' (Act.more a ds) w
theorem lF {P:Program}{ops:Array Oper}{Q:Exit->Act->World->Prop}{ds:List Deferred}:∀(l:List Nat) (a:Act) (w:World),wpOps P ops Q l a w->wpOps P ops (uC ds Q) l (Act.more a ds) w
  | [],a,w,h=>⟨a,rfl,h⟩
  | i::rest,a,w,h=>by
    have h':wpOp P ops Q i (wpOps P ops Q rest) a w:=by
      unfold wpOp;unfold wpOps at h;exact h
    have:=oA (ds:=ds) (K':=wpOps P ops (uC ds Q) rest) (fun a w h=>lF rest a w h) h';unfold wpOp at this;unfold wpOps;exact this
theorem Tail.region {P:Program}{id:Nat}{ops:Array Oper}{Qs:St->Prop}{s:St}(h:AOL P ops Qs ops.toList s):Tail P ((Code.region id ops false).seq .ret) Qs s:=by
 intro Q' g a w ds hG hQ;have key:=Oy (P:=P) (ops:=ops) ops.toList 0 a w (by simp) (h.run (fun e a' w'=>match e with | .normal=>Q' .ret (Act.more a' ds) w' | _=>False) g a w hG fun g' s' a' w' h1 h2 h3=>hQ g' s' a' w' h1 h2 h3);rw [<-List.range_eq_range'] at key;have key2:=lF (ds:=ds) _ _ _ key;refine wp_seq (wp_mono (wp_region (by simpa using key2)) ?_);rintro e a' w' ⟨a0,rfl,hq⟩;cases e with
 | normal=>exact wp_ret hq
 | _=>exact hq.elim
theorem Tail.drawn {P:Program}{id:Nat}{ops:Array Oper}{Qs:St->Prop}{s:St}(h:AWD P (.region id ops true) Qs s):Tail P ((Code.region id ops true).seq .ret) Qs s:=by
 intro Q' g a w ds hG hQ;cases h with
 | draw hm K hK hdd hC=>exact tail_more hm K hK hdd hC hG ds hQ

theorem AWX.rangeE {P:Program}{T:List (Nat×TD)}(hT:Jw P T){fn:Func}{R:AV->List HO->Prop}{Q:Exit->St->Prop}{s:St}{go:Operand}{ps:Array Tmp}{assign body z:Code}{bid gf:Nat}{lb:List AV}(Z Y:List HO->Prop)
  (hg:Fy s.sl go = .fn (.func gf) [] lb) (hf:Xq P gf=true)
  (hit:∀(rec:Loop) (D l:Nat),rec.state = .ready->rec.pending=none->rec.params=ps->rec.assign=assign->rec.body=body->rec.tmps.size=s.n->(∀t v,get s.sl t = .val v->rec.tmps.getD t undef=v)->
   Cf P gf (.obj l (.loop rec) :: .obj D (.deferred (some []))::s.H) (.val (.func (.yield l) #[] #[])::lb)
    (fun r H'=>∃rec' H2,H' = .obj l (.loop rec') :: .obj D (.deferred (some []))::H2/\rec'.state≠.busy/\((rec'.pending=none/\Z H2)\/(rec'.pending=some .ret/\Y H2))))
  (ht:∀D H2,Z H2->Tail P z (endX P T fn R D) ⟨s.sl,.obj D (.deferred (some []))::H2,s.n⟩)
  (hy:∀D H2,Y H2->∃s2,GS ⟨s.sl,.obj D (.deferred (some []))::H2,s.n⟩ s2/\endX P T fn R D s2) :
  AWX2 P (Code.block bid (.rangeFunc go ps assign body)) z Q (uQ P fn R) s:=by
 intro Q' g0 a w hG hQ hX;refine wp_block ((wpIn_wide (n:=1)).1 (wpIn_rangeFunc ?_));intro f0 _;obtain ⟨vs0,us,hv,h1,h2⟩:=(hg▸hG.eval go:Rep g0 w _ _).inv_fn;have hvs0:vs0 = #[]:=Array.size_eq_zero_iff.1 (by simpa using h1.1);subst hvs0;obtain ⟨rec,hrec⟩:∃rec:Loop,rec=⟨.ready,none,f0,a.tmps,ps,assign,body,w.heap.size⟩:=⟨_,rfl⟩;obtain ⟨W1,hW1⟩:∃W1,(w.alloc (.deferred (some []))).alloc (.loop rec)=W1:=⟨_,rfl⟩;have hs1:(w.alloc (.deferred (some []))).heap.size=w.heap.size+1:=World.size_alloc ..;have hx1:=Ext.alloc g0 w (.deferred (some [])) (some 0)
 have hH1:HOK (g0.put w.heap.size (some 0)) (w.alloc (.deferred (some []))) (.obj w.heap.size (.deferred (some []))::s.H):=
  (hG.heap.alloc (.deferred (some [])) (some 0)).cons ⟨Gh.Aae ..,C3 ..⟩ fun b hb x hx e=>by
   cases hb
   exact absurd (HO.ok_lt (hG.heap.ok x hx) e).1 (Nat.lt_irrefl _)
 have hx2:=Ext.alloc (g0.put w.heap.size (some 0)) (w.alloc (.deferred (some []))) (.loop rec) (some 0)
 have hH2:=(hH1.alloc (.loop rec) (some 0)).cons (o:=.obj (w.alloc (.deferred (some []))).heap.size (.loop rec)) ⟨Gh.Aae ..,C3 ..⟩ fun b hb x hx e=>by
   cases hb
   exact absurd (HO.ok_lt (hH1.ok x hx) e).1 (Nat.lt_irrefl _)
 rw [hs1] at hH2 hx2;rw [hW1] at hH2 hx2;refine ⟨w.heap.size+1,[cT w.heap.size],W1,{ target:=.fn (.func gf) us,args:=#[.func (.yield (w.heap.size+1)) #[] #[]] },W1,gf,#[.func (.yield (w.heap.size+1)) #[] #[]]++us,W1,?_,?_,fun _ _=>trivial,?_,fun e=>(by cases e),?_⟩
 . rw [<-hW1,hrec];exact run_enterLoop_outer _ _ _ _ _
 .
  simp only [resolve,hv];simp [go_sem]
 . simp [invoke,go_sem,Z2 hf]
 have hx12:=hx1.trans hx2;refine callsIn_wide.2 ((hit rec w.heap.size (w.heap.size+1) (by rw [hrec]) (by rw [hrec]) (by rw [hrec]) (by rw [hrec]) (by rw [hrec]) (by rw [hrec];exact hG.size) (by rw [hrec];exact fun t v hv=>(hv▸hG.sl t:Rep g0 w _ _).inv_val) _ W1 _ hH2 ?_).mono ?_)
 .
  have h2':=h2.mono hx12
  exact Dv.append (xs:=[.val (.func (.yield (w.heap.size+1)) #[] #[])]) ⟨rfl,fun i x hi=>by
   cases i with
   | zero=>simp at hi;subst hi;exact .val _
   | succ i=>simp at hi⟩ h2'
 rintro e w3 ⟨v,g3,r,H',rfl,hr3,hH3,hx3,rec',H2,rfl,hnb,hz⟩;have hob:(HO.obj (w.heap.size+1) (.loop rec')).ok g3 w3:=hH3.ok _ (I7 ..);obtain ⟨hH4,hx4⟩:=eZ hH3 (i:=0) (.loop { rec' with state:=.exhausted }) rfl;refine ⟨rec'.pending,_,run_endLoop hob.2 hnb,?_⟩;obtain ⟨st',pe',f',t',p',as',bo',de'⟩:=rec'
 have ha:({ a with defers:=[cT w.heap.size]++a.defers }:Act)=Act.more a [cT w.heap.size]:=by
  unfold Act.more;rw [hG.defers];rfl
 rw [ha];have hxa:=(hx12.trans hx3).trans hx4
 have fin:∀g5 s5 a5 w5,Gm g5 s5 a5 w5->Ext g0 w g5 w5->endX P T fn R w.heap.size s5->Q' .ret (Act.more a5 [cT w.heap.size]) w5:=fun g5 s5 a5 w5 hG5 hx5 hq=>by
  obtain ⟨i,hi,xs,hr,H3,hsub,hR⟩:=hq;obtain ⟨hG6,hx6⟩:=hG5.putObj (.deferred none) hi;have hob5:(HO.obj w.heap.size (.deferred (some []))).ok g5 w5:=hG5.heap.ok _ (Aj hi);obtain ⟨v6,k1,k2⟩:=Wa hT hr hG6;refine hX _ _ _ ⟨rfl,w.heap.size,by show a5.defers++_=_;rw [hG5.defers];rfl,hob5.2,v6,g5,_,H3,k1,k2,hG6.heap.sub hsub,hx5.trans hx6,hR⟩
 have hG4:Gm g3 ⟨s.sl,.obj w.heap.size (.deferred (some []))::H2,s.n⟩ a (w3.putObj (w.heap.size+1) (.loop ⟨.exhausted,pe',f',t',p',as',bo',de'⟩)):=⟨hG.size,hG.defers,fun i=>(hG.sl i).mono hxa,hH4.sub (List.sublist_cons_self ..)⟩;rcases hz with ⟨hp,hz⟩ | ⟨hp,hz⟩
 .
  obtain rfl:pe'=none:=hp;exact ht w.heap.size H2 hz Q' g3 a _ [cT w.heap.size] hG4 fun g5 s5 a5 w5 hG5 hx5 hq=>fin g5 s5 a5 w5 hG5 (hxa.trans hx5) hq
 obtain rfl:pe'=some .ret:=hp;obtain ⟨s2,hgs,he⟩:=hy w.heap.size H2 hz;obtain ⟨g4,hG5,hx7⟩:=hgs _ _ _ hG4;exact wpIn_ret (fin g4 s2 a _ hG5 (hxa.trans hx7) he)
end Go.Aw

namespace Go.Proofs.YtckhoadldibflaaGreatDoor
open Go Go.Aw

def AllK (tmps:Array Value):List (Nat×Value)->Prop
 | []=>True
 | p::r=>tmps.getD p.1 undef=p.2/\AllK tmps r
theorem par1 {tmps:Array Value}{n0 k:Nat}{x:AV}{kn:List (Nat×Value)}(hsz:tmps.size=n0)(hk:Nat.blt k n0=true)(hkn:AllK tmps kn):∀g w vs,Dv g w vs [x]->∀j,
    Rep g w ((((#[k]:Array Tmp).zip vs).foldl (fun t (p,v)=>t.setIfInBounds p v) tmps).getD j undef) (get ((k,x)::kn.map fun p=>(p.1,.val p.2)) j):=by
  intro g w vs hr j;have h0:=hr.2 0 _ rfl;have hs:vs.size=1:=hr.1
  obtain ⟨u, rfl⟩ : ∃ u, vs = #[u] := ⟨vs[0], by apply Array.ext; simp [hs]; intro i h1 h2; have : i = 0 := by omega
                                                 subst this;rfl⟩
  have hlt:k<tmps.size:=by have:=Cv hk;omega
  rw [<-Array.foldl_toList,Array.toList_zip];show Rep g w ((tmps.setIfInBounds k u).getD j undef) _;rw [Il];by_cases e:k=j
  . subst e
    rw [if_pos rfl];simp only [Ek,Array.getElem?_setIfInBounds];simp [hlt];simpa using h0
  . rw [if_neg e]
    have:(tmps.setIfInBounds k u).getD j undef=tmps.getD j undef:=by
      simp only [Ek,Array.getElem?_setIfInBounds];simp [e]
    rw [this];clear this
    induction kn with
    | nil=>exact .junk _
    | cons p r ih=>
      rw [Ao,Il];by_cases e2:p.1=j
      . rw [if_pos e2,<-hkn.1,e2];exact .val _
      rw [if_neg e2];exact ih hkn.2
theorem Tp.ofE2 {P:Program}{l:Nat}{rec:Loop}{H:List HO}{args:List AV}{R:AV->List HO->Prop}{A B:Code}(sl:List (Nat×AV)){n0:Nat}(hst:rec.state = .ready)(hpe:rec.pending=none)
  (hsz:rec.tmps.size=n0) (hsl:∀g w vs,Dv g w vs args->∀j,Rep g w (((rec.params.zip vs).foldl (fun t (p,v)=>t.setIfInBounds p v) rec.tmps).getD j undef) (get sl j)) (has:rec.assign=A) (hbo:rec.body=B)
  (h:wY l P A (fun e s1=>e = .normal/\∃i:Nat,s1.H[i]? = some (HO.obj l (Obj.loop rec))/\wY l P B (fun e s2=>∃j:Nat,s2.H[j]? = some (HO.obj l (Obj.loop { rec with state:=.busy }))/\
   ((e = .normal/\R (.bool true) (s2.H.set j (.obj l (.loop rec))))\/(e = .ret/\R (.bool false) (s2.H.set j (.obj l (.loop { rec with state:=.done,pending:=some .ret })))))) ⟨s1.sl,s1.H.set i (.obj l (.loop { rec with state:=.busy })),s1.n⟩) ⟨sl,H,n0⟩):Tp P l rec H args R:=by
 subst has hbo;exact Tp.ofE hst hpe hsz hsl h

theorem cH (f:Pt->Int):∀l:List Pt,Vh (fun e:Int=>e==0) (fun _ q=>f q) 0 l=Da f l
  | []=>rfl
  | a::r=>by
    rw [Vh,if_pos (show ((0:Int)==0)=true from rfl),Da];by_cases h:f a=0
    . rw [h,cH f r];rfl
    rw [aI _ _ (by simpa using h),if_pos (by simpa using h)]
theorem mV (b:Pt->Bool):∀l:List Pt,Da (fun q=>if b q then 1 else 0) l=if l.any b then 1 else 0
  | []=>rfl
  | a::r=>by
    rw [Da,mV b r,Rh];cases b a <;> simp
theorem nd_sub:∀p q:Pt,q∈F2 p->Iw q<=Iw p:=by
  intro p
  induction p using Pt.ind with
  | h p ih=>
    intro q hq;rw [Mx,Db] at hq;rcases hq with rfl | hq
    . exact Br _
    . obtain ⟨a,ha,hq⟩:=List.mem_flatMap.1 hq
      have:=ih a ha q hq;have:=Mb ha;omega
structure medP (p:Pt):Prop where
 n:Iw p<=1048576
 cond:∀q∈F2 p,B3 q.cond<=1048576
theorem medP.len {p:Pt}(h:medP p):∀q∈F2 p,B3 q.cond<=1048576/\q.args.length<=1048576:=fun q hq=>⟨h.cond q hq,by have:=nd_sub p q hq;have:=N4 q;have:=h.n;omega⟩
theorem rst_1 {p:Pt}(h:decide ((64:Int)<(Iw p:Int))=true):Px p=5:=if_pos h
theorem rst_2 {p:Pt}(h:decide ((64:Int)<(Iw p:Int))=false)(h2:decide ((12:Int)<(mJ p:Int))=true):Px p=12:=(Bo h).trans (if_pos h2)
theorem rst_3 {p:Pt}(h:decide ((64:Int)<(Iw p:Int))=false)(h2:decide ((12:Int)<(mJ p:Int))=false):Px p=Da gA (F2 p):=(Bo h).trans (Bo h2)
theorem rst_0 {p:Pt}(h:(Px p != 0)=false):Iw p<=64/\mJ p<=12/\Da gA (F2 p)=0:=by
 have h0:Px p=0:=by simpa using h
 have a:¬(64:Int)<(Iw p:Int):=fun h=>by rw [rst_1 (Iu h)] at h0;exact absurd h0 (by decide)
 have b:¬(12:Int)<(mJ p:Int):=fun h=>by rw [rst_2 (I8 a) (Iu h)] at h0;exact absurd h0 (by decide)
 refine ⟨by omega,by omega,?_⟩;rw [<-rst_3 (I8 a) (I8 b)];exact h0
theorem aD {α:Type}{f:α->Int}:∀{l:List α},Da f l=0->∀q∈l,f q=0
  | [],_,q,hq=>(Qu hq).elim
  | a::r,h,q,hq=>by
    rw [Da] at h;by_cases ha:f a=0
    . rw [ha,if_neg (by decide)] at h
      rcases Db.1 hq with rfl | hq
      . exact ha
      exact aD h q hq
    rw [if_pos (by simpa using ha)] at h;exact absurd h ha
def opOK (q:Pt):Prop:=0<=q.op/\q.op<11
theorem ck_op {q:Pt}(h:gA q=0):opOK q:=by
 have:(decide (q.op<0)||decide (11<=q.op))=false:=by
  cases hc:(decide (q.op<0)||decide (11<=q.op)) with
  | false=>rfl
  | true=>rw [ck_1 hc] at h;exact absurd h (by decide)
 rw [Eb] at this;have h1:=G3 this.1;have h2:=G3 this.2;exact ⟨by omega,by omega⟩
theorem rst_ops {p:Pt}(h:(Px p != 0)=false):∀q∈F2 p,opOK q:=fun q hq=>ck_op (aD (rst_0 h).2.2 q hq)
def rG (q:Pt):Int:=if decide (8<=q.op) then 1 else 0
theorem whl_1 {p:Pt}(h:(Px p != 0)=true):Tm p=Px p:=if_pos h
theorem whl_2 {p:Pt}(h:(Px p != 0)=false):Tm p=Da rG (F2 p):=by
 rw [show Da rG (F2 p)=_ from mV _ _];exact Bo h
theorem whl_0 {p:Pt}(h:(Tm p != 0)=false):(Px p != 0)=false:=by
 cases hr:Px p != 0 with
 | false=>rfl
 | true=>rw [whl_1 hr,hr] at h;exact absurd h (by decide)
theorem chk_1 {p:Pt}(h:(Tm p != 0)=true):Jr p=Tm p:=if_pos h
theorem chk_2 {p:Pt}(h:(Tm p != 0)=false)(h2:(!(Pf p).ok)=true):Jr p=14:=(Bo h).trans (if_pos h2)
theorem chk_3 {p:Pt}(h:(Tm p != 0)=false)(h2:(!(Pf p).ok)=false):Jr p=0:=(Bo h).trans (Bo h2)
theorem chk_0 {p:Pt}(h:(Jr p != 0)=false):(Tm p != 0)=false:=by
 cases hr:Tm p != 0 with
 | false=>rfl
 | true=>rw [chk_1 hr,hr] at h;exact absurd h (by decide)

def mC (c:Cnt)(n:Nat):Prop:=0<=c.vars/\0<=c.scopes/\c.vars+n<=3000000/\c.scopes+n<=3000000
theorem cnt_mono (c:Cnt)(n m:Nat)(h:mC c n)(hm:m<=n):mC c m:=⟨h.1,h.2.1,by have:=h.2.2.1;omega,by have:=h.2.2.2;omega⟩
theorem cnt_step (c:Cnt)(q:Pt)(n:Nat)(h:mC c (n+1)):mC (K2 c q) n:=by
 obtain ⟨h1,h2,h3,h4⟩:=h;unfold K2 mC;refine ⟨?_,?_,?_,?_⟩ <;> simp only <;> split <;> omega
theorem goY_cnt:∀(l:List Pt) (c:Cnt),Vh (fun _=>true) K2 c l=l.foldl K2 c
 | [],c=>rfl
 | a::r,c=>by rw [Vh,if_pos rfl,goY_cnt r,List.foldl_cons]
section
variable {c:Cnt} {q:Pt}
theorem stp_yy (h1:(Ku q.op).typed=true)(h2:(Ku q.op).scope=true):(⟨c.vars+1,c.scopes+1,(c.ok&&(q.var==c.vars))&&(q.scope==c.scopes)⟩:Cnt)=K2 c q:=by unfold K2;rw [h1,h2];simp
theorem stp_yn (h1:(Ku q.op).typed=true)(h2:(Ku q.op).scope=false):(⟨c.vars+1,c.scopes,c.ok&&(q.var==c.vars)⟩:Cnt)=K2 c q:=by unfold K2;rw [h1,h2];simp
theorem stp_ny (h1:(Ku q.op).typed=false)(h2:(Ku q.op).scope=true):(⟨c.vars,c.scopes+1,c.ok&&(q.scope==c.scopes)⟩:Cnt)=K2 c q:=by unfold K2;rw [h1,h2];simp
theorem stp_nn (h1:(Ku q.op).typed=false)(h2:(Ku q.op).scope=false):(⟨c.vars,c.scopes,c.ok⟩:Cnt)=K2 c q:=by unfold K2;rw [h1,h2];simp
end

structure Qy where
 name:Ag
 vars:List Va
 key:List Int
 pattern:Pt
 returns:List Ex
def kK:Qy:=⟨[],[],[],pt0,[]⟩
@[reducible] def cQyW (q : Qy) (rs : AV) : List AV := [.str q.name, .sl 2 (q.vars.map Tn), .sl 1 (q.key.map cI), .int .i64 q.pattern.op, .sl 14 (q.pattern.args.map Oq), .int .i64 q.pattern.type, .int .i64 q.pattern.var, .int .i64 q.pattern.scope, .int .i64 q.pattern.span, .int .i64 q.pattern.cond.op, .sl 8 (q.pattern.cond.args.map H8), .int .i64 q.pattern.cond.var, .int .i64 q.pattern.cond.field, .int .i64 q.pattern.cond.kind, .int .i64 q.pattern.cond.val.kind, .int .i64 q.pattern.cond.val.num, .str q.pattern.cond.val.text, rs]
@[reducible] def cQy (q : Qy) : List AV := cQyW q (.sl 8 (q.returns.map H8))

section
variable {T:List e8Sc} {V:List Va}
theorem leaf_size (t:Syn)(xs:List Ex):B3 (Mj T V t xs)<=1+(xs.map B3).sum:=by
 unfold Mj;split
 . rw [Hi];simp
 split
 . split <;> · rw [Hi];simp
 split
 . rw [Hi];simp
 split
 . rw [Hi];simp
 split <;> · rw [Hi];exact Br _
theorem cA:∀t:Syn,B3 (F1 T V t)<=Ki t:=by
  intro t
  induction t using Syn.ind with
  | h t ih=>
    rw [Jb,I1];refine Ga (leaf_size t _) ?_
    have:∀l:List Syn,(∀a∈l,B3 (F1 T V a)<=Ki a)->((l.map (F1 T V)).map B3).sum<=Ij l:=by
      intro l
      induction l with
      | nil=>intro _;exact A9 _
      | cons x r ih2=>intro h;rw [Ao,Ao,Ew,Ji];have:=h x (by simp);have:=ih2 fun a ha=>h a (by simp [ha]);omega
    have:=this _ ih;omega
theorem mE (t:Syn):B3 (Mh T V t)<=Ki t:=by
 unfold Mh;split
 .
  rename_i h;have h0:0<t.kids.length:=by have:=Ey h;omega
  have:=oM (Aj (He h0));have h2:=cA (T:=T) (V:=V) (Bi t 0);rw [I1];omega
 rw [show B3 Mc=1 from rfl,I1];omega
theorem ptn_size {t:Syn}{s:Nx}(xs:List Pt)(hc:Al t .pats=0):B3 (Ow T V t s xs).cond<=Ki t:=by
 have h1:1<=Ki t:=by rw [I1];omega
 have hk:∀j,j<t.kids.length->Ki (Bi t j)<=Ki t:=fun j h=>by
  have:=oM (Aj (He h));have h9:=I1 t;omega
 unfold Ow;split
 . exact mE t
 split
 .
  rename_i hq;have h2:=Ma hc (.inl (by simpa using hq));exact Ga (mE (Bi t 1)) (hk 1 (by omega))
 split
 . exact h1
 split
 .
  rename_i hq;have h2:=Ma hc (.inr (by simpa using hq));exact Ga (cA (Bi t 1)) (hk 1 (by omega))
 exact h1
theorem ptt_size:∀t:Syn,Al t .pats=0->∀s:Nx,Iw (Kk T V t s).1<=Ki t/\∀q∈F2 (Kk T V t s).1,B3 q.cond<=Ki t:=by
  intro t
  induction t using Syn.ind with
  | h t ih=>
    intro hc s
    have key:∀l:List Syn,(∀a∈l,a∈D7 t)->∀s:Nx,((Gn T V l s).1.map Iw).sum<=Ij l/\∀q∈(Gn T V l s).1.flatMap F2,B3 q.cond<=Ij l:=by
      intro l
      induction l with
      | nil=>intro _ s;rw [Gn];exact ⟨A9 _,fun q h=>by simp at h⟩
      | cons x r ih2=>
        intro hl s;have hx:=ih x (Vu (hl x (by simp))) (Vt hc (hl x (by simp))) s;have hr:=ih2 (fun a ha=>hl a (by simp [ha])) (Kk T V x s).2;rw [Gn,Ji];refine ⟨by simp only [Ao,Ew];have:=hx.1;have:=hr.1;omega,fun q hq=>?_⟩;simp only [Ld] at hq;rcases Is.1 hq with hq | hq
        . have:=hx.2 q hq;omega
        have:=hr.2 q hq;omega
    have hk:=key (D7 t) (fun a ha=>ha) (Yi t s);have hp:=gB t;rw [aV];refine ⟨by rw [Lc,I1];simp only;have:=hk.1;omega,fun q hq=>?_⟩;rw [Mx] at hq;rcases Db.1 hq with rfl | hq
    . simp only;exact ptn_size [] hc
    have:=hk.2 q hq;rw [I1];omega
theorem ptt_med {t:Syn}(ht:Wg t)(hc:Al t .pats=0)(s:Nx):medP (Kk T V t s).1:=by
 have h:=ptt_size (T:=T) (V:=V) t hc s;have hm:=Wi ht;exact ⟨by have:=h.1;omega,fun q hq=>by have:=h.2 q hq;omega⟩
end

structure TsOK (T:List e8Sc):Prop where
 tl:T.length<=1048576
 fl:∀s∈T,s.fields.length<=1048576
 nd:(Jx T).Nodup
theorem decV_ok {T:List e8Sc}{t:Syn}(h:(Jx T).contains t.text=true):0<=(Oo T t).type/\(Oo T t).type<(T.length:Int):=by
 have:=O4 h;rw [Bt] at this;exact this
theorem mG {T:List e8Sc}{V:List Va}{t:Syn}(h:(Mg T V t != 0)=false):(Jx T).contains t.text=true/\(K8 V).contains t.name=false/\V.length≠16:=by
 have h0:Mg T V t=0:=by simpa using h
 unfold Mg at h0;split at h0
 . cases h0
 rename_i h1;split at h0
 . cases h0
 rename_i h2;split at h0
 . cases h0
 rename_i h3;exact ⟨by simpa using h2,by simpa using h3,fun e=>h1 (by simp [e])⟩
theorem sC {T:List e8Sc}:∀(l:List Syn) (V:List Va),V.length<=16->(∀v∈V,0<=v.type/\v.type<(T.length:Int))->(L2 T V l).1.length<=16/\∀v∈(L2 T V l).1,0<=v.type/\v.type<(T.length:Int)
  | [],V,h1,h2=>⟨h1,h2⟩
  | t::r,V,h1,h2=>by
    rw [Mt];cases hq:Mg T V t != 0 with
    | true=>rw [if_pos rfl];exact ⟨h1,h2⟩
    | false=>
      rw [Bo rfl];have hd:=mG hq;refine sC r _ (by rw [Au,Hl];have:=hd.2.2;omega) fun v hv=>?_
      rcases Is.1 hv with hv | hv
      . exact h2 v hv
      rw [Ft.1 hv];exact decV_ok hd.1
theorem dec_rv {T:List e8Sc}(hT:TsOK T)(l:List Syn):RvOK T (L2 T [] l).1:=by
 have h:=sC (T:=T) l [] (by simp) (fun v hv=>(Qu hv).elim);exact ⟨hT.tl,hT.fl,by have:=h.1;omega,h.2⟩
theorem pat_shape {t:Syn}(h:Al t .pats=0)(h5:t.kind≠5):0<t.kids.length:=by
 have hs:=(Ct (Cq h).1).2.1;have hr:=dB h;unfold Dn at hs;have:t.kind=6\/t.kind=7\/t.kind=8\/t.kind=9\/t.kind=10\/t.kind=11\/t.kind=12:=by omega
 rcases this with hk | hk | hk | hk | hk | hk | hk <;> · rw [hk] at hs;simp at hs;omega
theorem ev_some:∀t:Syn,Al t .pats=0->O2 t≠[]:=by
  intro t
  induction t using Syn.ind with
  | h t ih=>
    intro hc;rw [Y2];split
    . simp
    . rename_i h5
      have h5':t.kind≠5:=by simpa using h5
      have hl:=pat_shape hc h5';have hk:=He hl;have hm:=Aj hk;have h0:=ih _ hm (Xy hc h5' hk fun _=>rfl);split
      . simp
      . split
        . rw [oU hl];exact h0
        . intro he
          rw [List.flatMap_eq_nil_iff] at he;exact h0 (he _ hm)
theorem dec_pos {T:List e8Sc}{l:List Syn}(hl:l≠[])(h:((L2 T [] l).2.err != 0)=false):0<T.length:=by
  cases l with
  | nil=>exact (hl rfl).elim
  | cons t r=>
    rw [Mt] at h;cases hq:Mg T [] t != 0 with
    | true=>rw [if_pos hq] at h;simp only at h;rw [hq] at h;cases h
    | false=>
      have:=O4 (mG hq).1;rw [Bt] at this;omega

section
variable (T:List e8Sc) (t:Syn)
def To:List Va:=(L2 T [] (O2 (Bi t 1))).1
def vfR:Fa:=(L2 T [] (O2 (Bi t 1))).2
def yF (V:List Va):List Int×Bool:=if ((Bi t 0).text != []) then Uy T V (Bi t 0).text else ([],true)
def rtF (V:List Va)(x:Syn):Fa:=if (Gk (F1 T V x) != 0) then ⟨x.pos,Gk (F1 T V x)⟩ else Oe
def ptR (V:List Va):Pt:=(Kk T V (Bi t 1) ⟨0,0⟩).1
def qyR (V:List Va):Qy:=⟨t.text,V,(yF T t V).1,ptR T t V,(t.kids.drop 2).map (F1 T V)⟩
def QR4 (V:List Va):Qy×Fa:=if ((Ja (rtF T V) (t.kids.drop 2)).err != 0) then (kK,Ja (rtF T V) (t.kids.drop 2)) else (qyR T t V,Oe)
def QR3 (V:List Va):Qy×Fa:=if (Jr (ptR T t V) != 0) then (kK,⟨(Bi t 1).pos,Jr (ptR T t V)⟩) else QR4 T t V
def QR2 (V:List Va):Qy×Fa:=if ((G4 T V t).err != 0) then (kK,G4 T V t) else QR3 T t V
def QR1 (V:List Va):Qy×Fa:=if (!(yF T t V).2) then (kK,⟨(Bi t 0).pos,16⟩) else QR2 T t V
def Ec:Qy×Fa:=if ((vfR T t).err != 0) then (kK,vfR T t) else QR1 T t (To T t)
end
section
variable {T:List e8Sc} {t:Syn} {V:List Va}
theorem qr_1 (h:((vfR T t).err != 0)=true):Ec T t=(kK,vfR T t):=if_pos h
theorem qr_b (h:((vfR T t).err != 0)=false):Ec T t=QR1 T t (To T t):=Bo h
theorem pQ (h:((Bi t 0).text != [])=true):yF T t V=Uy T V (Bi t 0).text:=if_pos h
theorem ky_no (h:((Bi t 0).text != [])=false):yF T t V=([],true):=Bo h
theorem qr_2 (h:(!(yF T t V).2)=true):QR1 T t V=(kK,⟨(Bi t 0).pos,16⟩):=if_pos h
theorem qr_c (h:(!(yF T t V).2)=false):QR1 T t V=QR2 T t V:=Bo h
theorem qr_3 (h:((G4 T V t).err != 0)=true):QR2 T t V=(kK,G4 T V t):=if_pos h
theorem qr_d (h:((G4 T V t).err != 0)=false):QR2 T t V=QR3 T t V:=Bo h
theorem qr_4 (h:(Jr (ptR T t V) != 0)=true):QR3 T t V=(kK,⟨(Bi t 1).pos,Jr (ptR T t V)⟩):=if_pos h
theorem qr_e (h:(Jr (ptR T t V) != 0)=false):QR3 T t V=QR4 T t V:=Bo h
theorem rt_yes {x:Syn}(h:(Gk (F1 T V x) != 0)=true):rtF T V x=⟨x.pos,Gk (F1 T V x)⟩:=if_pos h
theorem rt_no {x:Syn}(h:(Gk (F1 T V x) != 0)=false):rtF T V x=Oe:=Bo h
theorem qr_5 {k:Nat}{x:Syn}(ha:(t.kids.drop 2)[k]? = some x)(hn:((t.kids.drop 2).take k).any (fun x=>(rtF T V x).err != 0)=false)(h:(Gk (F1 T V x) != 0)=true):QR4 T t V=(kK,⟨x.pos,Gk (F1 T V x)⟩):=by
 have h1:=iI ha hn (by rw [rt_yes h];exact h);unfold QR4;rw [h1,rt_yes h];exact if_pos h
theorem qr_6 (hn:(t.kids.drop 2).any (fun x=>(rtF T V x).err != 0)=false):QR4 T t V=(qyR T t V,Oe):=by
 unfold QR4;rw [bW hn];rfl
structure QryOK (t:Syn):Prop where
 m:Wg t
 c:Al t (.only 3)=0
theorem QryOK.kind (h:QryOK t):t.kind=3:=Fx (Ct (Cq h.c).1).1
theorem QryOK.len (h:QryOK t):3<=t.kids.length:=by
 have hs:=(Ct (Cq h.c).1).2.1;unfold Dn at hs;rw [h.kind] at hs;simp at hs;omega
theorem QryOK.pat (h:QryOK t):Al (Bi t 1) .pats=0:=by
 have hk:=(Ei h.c (He (k:=1) (by have:=h.len;omega))).1;unfold Dm at hk;rw [h.kind] at hk;exact hk
theorem QryOK.med1 (h:QryOK t):Wg (Bi t 1):=pP h.m (by have:=h.len;omega)
theorem QryOK.evl (h:QryOK t):(O2 (Bi t 1)).length<=1048576:=by
 have:=oV (Bi t 1);have:=Wi h.med1;omega
end

section
variable (T:List e8Sc) (t:Syn)
def fN:Qy×Int×Int:=if (Ef T != 0) then (kK,0,Ef T) else if ((Bg t (.only 3)).2 != 0) then (kK,0,3) else ((Ec T t).1,(Ec T t).2.pos,(Ec T t).2.err)
theorem qp_1 (h:(Ef T != 0)=true):fN T t=(kK,0,Ef T):=if_pos h
theorem qp_2 (h:(Ef T != 0)=false)(h2:((Bg t (.only 3)).2 != 0)=true):fN T t=(kK,0,3):=(Bo h).trans (if_pos h2)
theorem qp_3 (h:(Ef T != 0)=false)(h2:((Bg t (.only 3)).2 != 0)=false):fN T t=((Ec T t).1,(Ec T t).2.pos,(Ec T t).2.err):=(Bo h).trans (Bo h2)
end
theorem bG {t:Syn}{p:Pl}(h:((Bg t p).2 != 0)=false):Al t p=0:=by
  cases hc:Al t p != 0 with
  | false=>simpa using hc
  | true=>
    have:(Bg t p).2=Al t p:=by unfold Bg;rw [if_pos hc]
    rw [this,hc] at h;cases h
theorem bD:∀(l:List e8Sc) (seen:List (List UInt8)),Qj seen l=0->seen.Nodup->(seen++l.map (·.name)).Nodup/\∀s∈l,N5 s=0
  | [],seen,h,hn=>⟨by simpa using hn,fun s hs=>(Qu hs).elim⟩
  | s::r,seen,h,hn=>by
    rw [Qj] at h;split at h
    . rename_i h1;rw [h] at h1;cases h1
    . rename_i h1
      have h0:Oh seen s=0:=by simpa using h1
      have hc:s.name∉seen:=by
        intro hm;unfold Oh at h0;split at h0
        . rename_i h2;rw [h0] at h2;cases h2
        . rename_i h2
          rw [if_pos (by simpa using hm)] at h0;cases h0
      have hz:N5 s=0:=by
        unfold Oh at h0;split at h0
        . rename_i h2;rw [h0] at h2;cases h2
        rename_i h2;simpa using h2
      have ih:=bD r (seen ++ [s.name]) h (Mf.2 ⟨hn,by simp,fun a ha b hb=>by rw [Ft.1 hb];exact fun e=>hc (e▸ha)⟩);refine ⟨by simpa using ih.1,fun x hx=>?_⟩;rcases Db.1 hx with rfl | hx
      . exact hz
      exact ih.2 x hx
theorem oG {T:List e8Sc}(h:(Ef T != 0)=false):T.length<=16/\(Jx T).Nodup/\∀s∈T,N5 s=0:=by
 have h0:Ef T=0:=by simpa using h
 unfold Ef at h0;split at h0
 . cases h0
 rename_i h1;have:=bD T [] h0 Uo;exact ⟨by have:=h1;simp at this;omega,by simpa using this.1,this.2⟩
theorem qL {s:e8Sc}(h:N5 s=0):s.fields.length<=8:=by
 unfold N5 at h;split at h
 . cases h
 split at h
 . cases h
 rename_i h2;simp at h2;omega
theorem xF {T:List e8Sc}(h:(Ef T != 0)=false):TsOK T:=by
 obtain ⟨h1,h2,h3⟩:=oG h;exact ⟨by omega,fun s hs=>by have:=qL (h3 s hs);omega,h2⟩

def Hd:List Fi->List Syn->List Fi×Fa
 | fs,[]=>(fs,Oe)
 | fs,x::r=>if ((fs.length:Int)==8) then (fs,⟨x.pos,5⟩) else if (fs.map (·.name)).contains x.text then (fs,⟨x.pos,7⟩) else Hd (fs ++ [⟨x.text,x.num⟩]) r
def Gg:List e8Sc->List Syn->List e8Sc×Fa
  | out,[]=>(out,Oe)
  | out,k::r=>
    if (k.kind != 1) then Gg out r
    else if ((out.length:Int)==16) then ([],⟨k.pos,5⟩)
    else if (Jx out).contains k.text then ([],⟨k.pos,7⟩)
    else if ((Hd [] k.kids).2.err != 0) then ([],(Hd [] k.kids).2)
    else Gg (out ++ [⟨k.text,(Hd [] k.kids).1⟩]) r
def Ih (t:Syn):List e8Sc×Fa:=Gg [] t.kids
section
variable {out:List e8Sc} {l:List Syn} {k:Nat} {a:Syn}
theorem typ_skip (ha:l[k]? = some a)(h:(a.kind != 1)=true):Gg out (l.drop k)=Gg out (l.drop (k+1)):=by rw [A2 ha,Gg,if_pos h]
theorem typ_5 (ha:l[k]? = some a)(h:(a.kind != 1)=false)(h2:((out.length:Int)==16)=true):Gg out (l.drop k)=([],⟨a.pos,5⟩):=by rw [A2 ha,Gg,Bo h,if_pos h2]
theorem typ_7 (ha:l[k]? = some a)(h:(a.kind != 1)=false)(h2:((out.length:Int)==16)=false)(h3:(Jx out).contains a.text=true):Gg out (l.drop k)=([],⟨a.pos,7⟩):=by rw [A2 ha,Gg,Bo h,Bo h2,if_pos h3]
theorem typ_n (ha:l[k]? = some a)(h:(a.kind != 1)=false)(h2:((out.length:Int)==16)=false)(h3:(Jx out).contains a.text=false):Gg out (l.drop k)=if ((Hd [] a.kids).2.err != 0) then ([],(Hd [] a.kids).2) else Gg (out ++ [⟨a.text,(Hd [] a.kids).1⟩]) (l.drop (k+1)):=by rw [A2 ha,Gg,Bo h,Bo h2,Bo h3]
theorem typ_f (ha:l[k]? = some a)(h:(a.kind != 1)=false)(h2:((out.length:Int)==16)=false)(h3:(Jx out).contains a.text=false){fs:List Fi}{f:Fa}(hf:Hd [] a.kids=(fs,f))(he:f.err≠0):Gg out (l.drop k)=([],f):=by
 rw [typ_n ha h h2 h3,hf];exact if_pos (by simpa using he)
theorem typ_on (ha:l[k]? = some a)(h:(a.kind != 1)=false)(h2:((out.length:Int)==16)=false)(h3:(Jx out).contains a.text=false){fs:List Fi}(hf:Hd [] a.kids=(fs,Oe)):Gg out (l.drop k)=Gg (out ++ [⟨a.text,fs⟩]) (l.drop (k+1)):=by
 rw [typ_n ha h h2 h3,hf];rfl
variable {fs:List Fi}
theorem fld_5 (ha:l[k]? = some a)(h:((fs.length:Int)==8)=true):Hd fs (l.drop k)=(fs,⟨a.pos,5⟩):=by rw [A2 ha,Hd,if_pos h]
theorem fld_7 (ha:l[k]? = some a)(h:((fs.length:Int)==8)=false)(h2:(fs.map (·.name)).contains a.text=true):Hd fs (l.drop k)=(fs,⟨a.pos,7⟩):=by rw [A2 ha,Hd,Bo h,if_pos h2]
theorem fld_on (ha:l[k]? = some a)(h:((fs.length:Int)==8)=false)(h2:(fs.map (·.name)).contains a.text=false):Hd fs (l.drop k)=Hd (fs ++ [⟨a.text,a.num⟩]) (l.drop (k+1)):=by rw [A2 ha,Hd,Bo h,Bo h2]
end
theorem scFi (l:List Fi):∀c∈l.map xK,A0 c=true:=fun c hc=>by
 obtain ⟨x,_,rfl⟩:=Cl.1 hc;rfl
theorem scSc (l:List e8Sc):∀c∈l.map Lz,A0 c=true:=fun c hc=>by
 obtain ⟨x,_,rfl⟩:=Cl.1 hc;rfl
theorem len16 {n:Nat}(h:n<=16)(h2:((n:Int)==16)=false):n+1<=16:=by
 have:n≠16:=fun e=>by subst e;exact absurd h2 (by decide)
 omega
theorem len8 {n:Nat}(h:n<=8)(h2:((n:Int)==8)=false):n+1<=8:=by
 have:n≠8:=fun e=>by subst e;exact absurd h2 (by decide)
 omega


theorem mZ:∀(l:List Syn) (fs:List Fi),fs.length<=8->(Hd fs l).1.length<=8
  | [],fs,h=>h
  | x::r,fs,h=>by
    rw [Hd];split
    . exact h
    . rename_i h1
      split
      . exact h
      exact mZ r _ (by rw [Au,Hl];exact len8 h (by simpa using h1))
theorem kW:∀(l:List Syn) (out:List e8Sc),(out.length<=16/\(∀s∈out,s.fields.length<=8)/\(Jx out).Nodup)->((Gg out l).1.length<=16/\(∀s∈(Gg out l).1,s.fields.length<=8)/\(Jx (Gg out l).1).Nodup)
  | [],out,h=>h
  | k::r,out,h=>by
    have hz:(([]:List e8Sc).length<=16/\(∀s∈([]:List e8Sc),s.fields.length<=8)/\(Jx []).Nodup):=⟨A9 _,fun s hs=>(Qu hs).elim,Uo⟩;rw [Gg];split
    . exact kW r out h
    . split
      . exact hz
      . rename_i h2
        split
        . exact hz
        . rename_i h3
          split
          . exact hz
          . refine kW r _ ⟨by rw [Au,Hl];exact len16 h.1 (by simpa using h2),fun s hs=>?_,?_⟩
            . rcases Is.1 hs with hs | hs
              . exact h.2.1 s hs
              rw [Ft.1 hs];exact mZ _ _ (A9 _)
            . have h3':k.text∉Jx out:=by simpa using h3
              show (List.map (·.name) (out ++ [_])).Nodup;rw [Dt];exact Mf.2 ⟨h.2.2,by simp,fun a ha b hb=>by rw [Ft.1 hb];exact fun e=>h3' ((show a=k.text from e)▸ha)⟩
theorem zZ (t:Syn):(Ih t).1.length<=16/\(∀s∈(Ih t).1,s.fields.length<=8)/\(Jx (Ih t).1).Nodup:=kW t.kids [] ⟨A9 _,fun s hs=>(Qu hs).elim,Uo⟩
theorem typ_ts (t:Syn):TsOK (Ih t).1:=⟨by have:=(zZ t).1;omega,fun s hs=>by have:=(zZ t).2.1 s hs;omega,(zZ t).2.2⟩
theorem nG {t a:Syn}(hc:Al t (.only 0)=0){k:Nat}(ha:t.kids[k]? = some a)(h3:a.kind=3):Al a (.only 3)=0:=by
 have hk:=Fx (Ct (Cq hc).1).1;have h:=Ei hc ha;unfold Dm at h;rw [hk] at h;rw [if_pos (by decide)] at h;split at h
 . have:=Fx h.2;omega
 exact h.1
structure Pg where
 types:List e8Sc
 queries:List Qy
def pg0:Pg:=⟨[],[]⟩
@[reducible] def cPg (p : Pg) : List AV := [.sl 2 (p.types.map Lz), .sl 18 (p.queries.map cQy)]
def En (T:List e8Sc):List Qy->List Syn->List Qy×Fa
  | qs,[]=>(qs,Oe)
  | qs,k::r=>
    if (k.kind != 3) then En T qs r
    else if ((qs.length:Int)==16) then ([],⟨k.pos,5⟩)
    else if (qs.map (·.name)).contains k.text then ([],⟨k.pos,7⟩)
    else if ((Ec T k).2.err != 0) then ([],(Ec T k).2)
    else En T (qs ++ [(Ec T k).1]) r
section
variable {T:List e8Sc} {qs:List Qy} {l:List Syn} {k:Nat} {a:Syn}
theorem prg_skip (ha:l[k]? = some a)(h:(a.kind != 3)=true):En T qs (l.drop k)=En T qs (l.drop (k+1)):=by rw [A2 ha,En,if_pos h]
theorem prg_5 (ha:l[k]? = some a)(h:(a.kind != 3)=false)(h2:((qs.length:Int)==16)=true):En T qs (l.drop k)=([],⟨a.pos,5⟩):=by rw [A2 ha,En,Bo h,if_pos h2]
theorem prg_7 (ha:l[k]? = some a)(h:(a.kind != 3)=false)(h2:((qs.length:Int)==16)=false)(h3:(qs.map (·.name)).contains a.text=true):En T qs (l.drop k)=([],⟨a.pos,7⟩):=by rw [A2 ha,En,Bo h,Bo h2,if_pos h3]
theorem prg_f (ha:l[k]? = some a)(h:(a.kind != 3)=false)(h2:((qs.length:Int)==16)=false)(h3:(qs.map (·.name)).contains a.text=false)(h4:((Ec T a).2.err != 0)=true):En T qs (l.drop k)=([],(Ec T a).2):=by rw [A2 ha,En,Bo h,Bo h2,Bo h3,if_pos h4]
theorem prg_on (ha:l[k]? = some a)(h:(a.kind != 3)=false)(h2:((qs.length:Int)==16)=false)(h3:(qs.map (·.name)).contains a.text=false)(h4:((Ec T a).2.err != 0)=false):En T qs (l.drop k)=En T (qs ++ [(Ec T a).1]) (l.drop (k+1)):=by rw [A2 ha,En,Bo h,Bo h2,Bo h3,Bo h4]
end
theorem qry_name {T:List e8Sc}{t:Syn}(h:((Ec T t).2.err != 0)=false):(Ec T t).1.name=t.text/\(Ec T t).2=Oe:=by
 have key:∀{c:Bool} {f:Fa} {x:Qy×Fa},((if c then (kK,f) else x).2.err != 0)=false->(c=true->(f.err != 0)=true)->(if c then (kK,f) else x)=x:=fun {c f x} h1 h2=>by
  cases c with
  | false=>rfl
  | true=>rw [if_pos rfl] at h1;rw [h2 rfl] at h1;cases h1
 have h1:=key h (fun h=>h);unfold Ec at h ⊢;rw [h1] at h ⊢;have h2:=key (c:=!(yF T t (To T t)).2) h (fun _=>rfl);unfold QR1 at h ⊢;rw [h2] at h ⊢;have h3:=key h (fun h=>h);unfold QR2 at h ⊢;rw [h3] at h ⊢;have h4:=key (f:=⟨(Bi t 1).pos,Jr (ptR T t (To T t))⟩) h (fun h=>h);unfold QR3 at h ⊢;rw [h4] at h ⊢;have h5:=key h (fun h=>h);unfold QR4 at h ⊢;rw [h5] at h ⊢;exact ⟨rfl,rfl⟩
def PrgT (t:Syn)(T:List e8Sc):Pg×Int×Int:=if ((En T [] t.kids).2.err != 0) then (pg0,(En T [] t.kids).2.pos,(En T [] t.kids).2.err) else (⟨T,(En T [] t.kids).1⟩,0,0)
def bM (t:Syn):Pg×Int×Int:=if ((Bg t (.only 0)).2 != 0) then (pg0,0,3) else if ((Ih t).2.err != 0) then (pg0,(Ih t).2.pos,(Ih t).2.err) else PrgT t (Ih t).1
section
variable {t:Syn}
theorem pp_1 (h:((Bg t (.only 0)).2 != 0)=true):bM t=(pg0,0,3):=if_pos h
theorem pp_2 (h:((Bg t (.only 0)).2 != 0)=false)(h2:((Ih t).2.err != 0)=true):bM t=(pg0,(Ih t).2.pos,(Ih t).2.err):=(Bo h).trans (if_pos h2)
theorem pp_n (h:((Bg t (.only 0)).2 != 0)=false)(h2:((Ih t).2.err != 0)=false):bM t=PrgT t (Ih t).1:=(Bo h).trans (Bo h2)
theorem pp_e (h:((Bg t (.only 0)).2 != 0)=false)(h2:((Ih t).2.err != 0)=false){f:Fa}(h3:En (Ih t).1 [] t.kids=([],f))(hf:(f.err != 0)=true):bM t=(pg0,f.pos,f.err):=by
 rw [pp_n h h2];unfold PrgT;rw [h3];exact if_pos hf
theorem pp_y (h:((Bg t (.only 0)).2 != 0)=false)(h2:((Ih t).2.err != 0)=false){qs:List Qy}(h3:En (Ih t).1 [] t.kids=(qs,Oe)):bM t=(⟨(Ih t).1,qs⟩,0,0):=by
 rw [pp_n h h2];unfold PrgT;rw [h3];rfl
end
theorem scQy (l:List Qy):∀c∈l.map cQy,A0 c=true:=fun c hc=>by
 obtain ⟨x,_,rfl⟩:=Cl.1 hc;rfl
end Go.Proofs.YtckhoadldibflaaGreatDoor
