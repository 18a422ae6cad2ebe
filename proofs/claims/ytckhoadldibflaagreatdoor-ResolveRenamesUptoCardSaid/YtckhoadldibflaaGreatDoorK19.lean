/-
  Several texts in one: S12, B12, P15, P16, P7, P17, P8, L1, P18, P19, Q1, R25, An. No condition.
-/
import Derived.Test.YtckhoadldibflaaGreatDoorK05
import Derived.Test.YtckhoadldibflaaGreatDoorK16
import Derived.KernelRfl
import Derived.Test.YtckhoadldibflaaGreatDoorK02
import Derived.Test.YtckhoadldibflaaGreatDoorK08
import Derived.Test.YtckhoadldibflaaGreatDoorAx
set_option linter.unusedVariables false
set_option linter.unusedSimpArgs false
namespace Go.Proofs.YtckhoadldibflaaGreatDoor
open Go Go.Aw

def Stk (a b:PS):Prop:=I5 a b∧(a.bad≠0→b.bad=a.bad∧b.whr=a.whr)
def Stuck (F:PS→Syn×PS):Prop:=∀st,0≤st.depth→st.depth≤64→Stk st (F st).2
theorem nestP_eq' (read:Syn→PS→Syn×PS)(z:Syn)(st:PS):L4 read z st=if ((Hm st).bad != 0) then (z,Hm st) else ((read z (adv (Hv st))).1,Hj (read z (adv (Hv st))).2):=rfl

def Wn (a:PS):Prop:=(∀t∈a.toks,0≤t.pos∧t.pos≤a.fin)∧0≤a.fin∧0≤a.whr∧a.whr≤a.fin
structure Bo (a b:PS):Prop where
 bad:a.bad≠0→b.bad=a.bad
 fin:b.fin=a.fin
 toks:b.toks=a.toks
 pos:a.pos≤b.pos
 wn:Wn a→Wn b
 dep:mC a→b.depth=a.depth
def Bof (F:PS→Syn×PS):Prop:=∀st,Bo st (F st).2
def RnB (_:PS):Prop:=True

def erT (t:Tok):Tok:=⟨t.kind,t.text,0⟩
def er (st:PS):PS:={ st with toks:=st.toks.map erT,fin:=0,whr:=0 }
mutual
def erS:Syn→Syn
 | ⟨kind,text,name,num,kids,pos⟩=>⟨kind,text,name,num,erSs kids,0⟩
def erSs:List Syn→List Syn
 | []=>[]
 | e::r=>erS e::erSs r
end
theorem bad_er (st:PS):(er st).bad=st.bad:=rfl
theorem depth_er (st:PS):(er st).depth=st.depth:=rfl
theorem pos_er (st:PS):(er st).pos=st.pos:=rfl
theorem adv_er (st:PS):adv (er st)=er (adv st):=rfl
theorem deep_er (st:PS):Hv (er st)=er (Hv st):=rfl
theorem shallow_er (st:PS):Hj (er st)=er (Hj st):=rfl
abbrev er2 (p:Syn×PS):Syn×PS:=(erS p.1,er p.2)
def Er (F:PS→Syn×PS):Prop:=∀st,F (er st)=er2 (F st)
def done2 (r:Syn×PS):Syn×Int:=(erS (Pv r).1,(Pv r).2.2)

structure Cx where
 pre:List Tok
 post:List Tok
 k:Int
 hk:0≤k
 hc:∀c r,post=c::r→c.kind=3
 hpre:pre.map erT=pre
 hpost:post.map erT=post
def emb (x:Cx)(st:PS):PS:=⟨x.pre++(st.toks++x.post),x.pre.length+st.pos,st.fin,st.depth+x.k,st.bad,st.whr⟩
def Cx.no (x:Cx)(w:Am):Prop:=∀c r,x.post=c::r→(c.text==w)=false
structure Ok (d:Int) (st:PS):Prop where
 era:er st=st
 dep:st.depth=d
 inn:st.pos≤st.toks.length
 good:st.bad=0
structure EmR {α:Type} (x:Cx) (d:Int) (p q:α×PS):Prop where
 good:p.2.bad=0→(q.2.bad=12∧0<x.k)∨(Ok d p.2∧q=(p.1,emb x p.2))
 Hv:p.2.bad=12→q.2.bad=12
def EmF (x:Cx)(d:Int)(F G:PS→Syn×PS):Prop:=∀st,Ok d st→EmR x d (F st) (G (emb x st))
variable {x:Cx} {d:Int} {st:PS}
theorem emb_adv:adv (emb x st)=emb x (adv st):=rfl
def Cx.Ex (x:Cx):Prop:=∀c r,x.post=c::r→c.text=F2∨c.text=Co
def Cx.Pa (x:Cx):Prop:=∀c r,x.post=c::r→c.text=F2
section
variable {E E' N N':PS→Syn×PS}
def cmpK (E:PS→Syn×PS)(a:Syn)(s:PS):Syn×PS:=
 if Hn qI s then (Kr 7 a (Jh E (adv s)).1 a.pos,(Jh E (adv s)).2)
 else if Hn sM s then (Kr 8 a (Jh E (adv s)).1 a.pos,(Jh E (adv s)).2)
 else if Hn w_gt s then (Kr 7 (Jh E (adv s)).1 a a.pos,(Jh E (adv s)).2)
 else if Hn w_ge s then (Kr 8 (Jh E (adv s)).1 a a.pos,(Jh E (adv s)).2)
 else if Hn jJ s then (Kr 9 a (Jh E (adv s)).1 a.pos,(Jh E (adv s)).2)
 else if Hn oP s then (⟨18,[],[],0,[Kr 9 a (Jh E (adv s)).1 a.pos],a.pos⟩,(Jh E (adv s)).2)
 else (a,s)
theorem cmpP_K (E:PS→Syn×PS)(st:PS):M2 E st=cmpK E (Jh E st).1 (Jh E st).2:=rfl
end
section
variable {E E' T T':PS→Syn×PS}
def patK (E T:PS→Syn×PS)(k:Int)(z:Syn)(s:PS):Syn×PS:=
 ((Gd E T k { z with kids:=[(T (Ce Dt s)).1] } (T (Ce Dt s)).2).1,Ce F2 (Gd E T k { z with kids:=[(T (Ce Dt s)).1] } (T (Ce Dt s)).2).2)
end

def Sepd (w:Am):Prop:=∀c r,w=c::r→Kn c=false∧c≠61
inductive Sc (s:Am):Nat→List Tok→Nat→Prop
 | nil (i:Nat):Sc s i [] i
 | sep {i:Nat} {l:List Tok} {j:Nat} (hi:i<s.length) (h:0<N3 (s.drop i)) (hr:Sc s (i+(N3 (s.drop i)).toNat) l j):Sc s i l j
 | tok {i:Nat} {l:List Tok} {j:Nat} (hi:i<s.length) (h:N3 (s.drop i)=0) (he:(Cr (s.drop i)).err=0) (hr:Sc s (i+(Cr (s.drop i)).bytes.toNat) l j):Sc s i (⟨(Cr (s.drop i)).tok.kind,(Cr (s.drop i)).tok.text,i⟩::l) j
def shT (d:Nat)(t:Tok):Tok:=⟨t.kind,t.text,t.pos+(d:Int)⟩
def bw1:Am:=[32]
def bw2:Am:=[9,13,10]
def bw3:Am:=[32,35,32,34,97,40,32,36,10]
def Asc:Int→List Tok→Prop
 | _,[]=>True
 | x,t::r=>x<t.pos∧Asc t.pos r
def OkTok (s:Am)(t:Tok):Prop:=0≤t.pos∧t.pos<(s.length:Int)∧(t.kind=2→bt s t.pos.toNat=34)∧(t.kind≠2→t.text≠[]∧Lib.hasPrefix (s.drop t.pos.toNat) t.text=true)

mutual
def ordS:Syn→Int→Int→Bool
 | ⟨k,t,n,m,ks,p⟩,f,e=>if decide (p<f)||decide (e<p) then false else ordSs ks p e
def ordSs:List Syn→Int→Int→Bool
 | [],_,_=>true
 | a::r,p,e=>if !(ordS a p e) then false else ordSs r p e
end
def OrdT (f e:Int)(t:Syn):Prop:=ordS t f e=true
def wS (l:List Tok)(e:Int)(n:Nat):Int:=if decide ((n:Int)<(l.length:Int)) then (l.getD n Ll).pos else e
def Srt (l:List Tok)(e:Int):Prop:=∀n m,n≤m→wS l e n≤wS l e m∧wS l e m≤e
def At (l:List Tok)(e d:Int)(st:PS):Prop:=st.toks=l∧st.fin=e∧st.depth=d∧0≤d∧d≤64
variable {l:List Tok} {e d:Int} {a b st:PS}
def Gdo (l:List Tok)(e:Int)(st:PS)(r:Syn×PS):Prop:=r.2.bad=0→OrdT (Cy st) e r.1∧r.1.pos≤Cy r.2
def OrdF (l:List Tok)(e d:Int)(F:PS→Syn×PS):Prop:=∀st,At l e d st→Gdo l e st (F st)

def Jx (t:Tok):Am:=if (t.kind != 2) then t.text else (N8 t.text).1
def Kd (t:Tok)(n:Nat):Prop:=
 (∀rest,Sepd rest→Cr (Jx t++rest)=kK t.kind t.text (Jx t).length)∧(∀rest,N3 (Jx t++rest)=0)∧0<(Jx t).length∧(Jx t).length≤4*n∧t.text.length≤n
def wlen (l:List Tok):Nat:=(l.map fun t=>(Jx t).length).sum
abbrev wj (l:List Tok):Am:=Lib.join (l.map Jx) [32]
abbrev kt (t:Tok):Int×Am:=(t.kind,t.text)

set_option maxRecDepth 100000
mutual
def sameA:Syn→Syn→Bool
 | ⟨k,t,n,m,ks,p⟩,b=>if ((((((k != b.kind) || !(t==b.text)) || !(n==b.name))||(m != b.num))||(p != b.pos))||((ks.length:Int) != (b.kids.length:Int))) then false else sZ ks b.kids
def sZ:List Syn→List Syn→Bool
 | [],_=>true
 | _::_,[]=>true
 | a::r,b::s=>if !(sameA a b) then false else sZ r s
end
mutual
def sameN:Syn→Syn→Bool
 | ⟨k,t,n,m,ks,p⟩,b=>if (((((k != b.kind) || !(t==b.text)) || !(n==b.name))||(m != b.num))||((ks.length:Int) != (b.kids.length:Int))) then false else xR ks b.kids
def xR:List Syn→List Syn→Bool
 | [],_=>true
 | _::_,[]=>true
 | a::r,b::s=>if !(sameN a b) then false else xR r s
end
set_option maxRecDepth 100000

def Pe (u:Am)(L:List Tok)(rest:Am):Prop:=∃l,Sc (u++rest) 0 l u.length∧l.map erT=L
abbrev tlp:Tok:=⟨3,Dt,0⟩
abbrev trp:Tok:=⟨3,F2,0⟩
abbrev tcm:Tok:=⟨3,Co,0⟩
def Cur (pre post:List Tok)(d:Int):PS:=⟨pre++post,pre.length,0,d,0,0⟩
variable {pre post:List Tok} {d:Int} {t:Tok}
def Era (l:List Tok):Prop:=l.map erT=l
def Rdr (F:PS→Syn×PS):Prop:=Er F∧Bof F∧∀x:Cx,x.Pa→EmF x 0 F F
abbrev tks (s:Am):List Tok:=(G0 s).1.map erT
theorem begin_er (s:Am)(n:Int):er (Mi (G0 s).1 n)=Cur [] (tks s) 0:=rfl
def Bex (post:List Tok):Prop:=∀c r,post=c::r→c.kind=3∧(c.text=F2∨c.text=Co)
def Bpa (post:List Tok):Prop:=∀c r,post=c::r→c.kind=3∧c.text=F2
def NoOp (s:PS):Prop:=(Hn mZ s=false∧Hn dF s=false∧Hn jE s=false∧Hn Vt s=false)∧Hn qI s=false∧Hn sM s=false∧Hn w_gt s=false∧Hn w_ge s=false∧Hn jJ s=false∧Hn oP s=false
section
variable {E N:PS→Syn×PS} {s:PS}
end
abbrev tnum (c:UInt8):Tok:=⟨1,[c],0⟩
abbrev snum (n:Int):Syn:=⟨13,[],G8,n,[],0⟩
set_option maxRecDepth 100000

def par2 (x:Am):Am:=([40,32,40]++x) ++ [41,41]
def p19par1 (x:Am):Am:=([49,32,60,32,48,32,43,32,40]++x) ++ [41]
abbrev tlt:Tok:=⟨3,qI,0⟩
abbrev tpl:Tok:=⟨3,jE,0⟩
def emT (p x:Am):Am:=(((([113,117,101,114,121,32,113,32,98,121,32,107,32,109,97,116,99,104,32,119,104,101,114,101,40,112,108,117,115,40]++p) ++ [41,44,32])++x) ++ [41,32,114,101,116,117,114,110,32])++x ++ [44,32,49,59]
abbrev tw (w:Am):Tok:=⟨0,w,0⟩
abbrev tsm:Tok:=⟨3,dM,0⟩
abbrev emA:List Tok:=[tw Fk,tw [113],tw Z0,tw [107],tw Gb,tw Ha,tlp,tw Lr,tlp]
section
variable {E T:PS→Syn×PS} {pre post post':List Tok} {d:Int} {t:Tok}
end
def emS (P X:Syn):Syn:=⟨3,[113],[],0,[⟨4,[107],[],0,[],0⟩,⟨12,[],[],0,[⟨9,[],[],0,[P],0⟩,X],0⟩,X,snum 1],0⟩
abbrev bs1:Am:=[32]
abbrev bs2:Am:=[10]
abbrev bs3:Am:=[32,35,32,40,10]
def Btw (b:Am):Prop:=b=bs1∨b=bs2∨b=bs3
def spO (b:Am):List Tok→Am
 | []=>[]
 | t::r=>(Jx t++b)++spO b r
theorem query_kind (E T:PS→Syn×PS)(st:PS):(G5 E T st).1.kind=3:=rfl
set_option maxRecDepth 100000

def nsep (c:UInt8):Bool:=decide (c≠35) && !decide (0≤Lib.indexByte [32,9,13,10] c)
theorem nD {s:Am}(h:qX s=true):0<s.length∧s.length≤24∧Gw (bt s 0)=true∧Di Kn s=s.length∧lM s=false:=by
 unfold qX at h;rw [name_eq] at h;unfold nO at h;split at h
 · cases h
 rename_i h1;simp only [Nv,not_or,Bool.not_eq_true,H5,Dp,bne_iff_ne,ne_eq,Decidable.not_not] at h1;obtain ⟨⟨⟨⟨h1,h2⟩,h3⟩,h4⟩,h5⟩:=h1;refine ⟨?_,by omega,by simpa using h3,by omega,by rw [vS];exact h5⟩;cases s with
 | nil=>cases h1
 | cons c r=>simp
def signOk (c:UInt8):Bool:=nsep c && !Gw c && !Da c && !((c.toNat:Int)==34)&&(signV c true==some [c])&&(signV c false==some [c])
abbrev tg (w:Am):Tok:=⟨3,w,0⟩
def numK (n:Int):List Tok:=if n<0 then [tg Vt,⟨1,Lib.decDigits n.natAbs,0⟩] else [⟨1,Lib.decDigits n.toNat,0⟩]
def litK (t:Syn):List Tok:=
 if (t.name==G8) then numK t.num
 else if (t.name==F0) then if (t.num==1) then [tw Ma] else [tw Jy]
 else [⟨2,t.text,0⟩]
def yM (p k:Syn)(l:List Tok):List Tok:=if G1 p.kind k.kind then [tlp]++l ++ [trp] else l
def nG:List (List Tok)→List Tok
 | []=>[]
 | [x]=>x
 | x::y::r=>x ++ [tcm]++nG (y::r)
def operK (n:Int):Tok:=if (n==10)||(n==11) then tw (Ld n) else tg (Ld n)
def nodeK (t:Syn)(ws:List (List Tok)):List Tok:=
 if (t.kind==0) then ws.flatten
 else if (t.kind==1) then [tw Md] ++ [] ++ [tw t.text] ++ [tg Ya]++nG ws ++ [tg Mw]
 else if (t.kind==2) then [tw t.text] ++ [tg Js] ++ [tw (L5 t.num)]
 else if (t.kind==3) then [tw Fk] ++ [] ++ [tw t.text]++(if (A3 t 0).text == [] then [] else [tw Z0] ++ [tw (A3 t 0).text]) ++ [] ++ [tw Gb] ++ []++ws.getD 1 [] ++ [] ++ [tw Gi] ++ []++nG (ws.drop 2) ++ [tg dM]
 else if (t.kind==5) then [tw t.text] ++ [] ++ [tw t.name]++(if ws == [] then [] else [tw Y8]++ws.getD 0 [])
 else if (t.kind==13) then litK t
 else if (t.kind==14) then [tw t.text] ++ [tg bP] ++ [tw t.name]
 else if (t.kind==15) then [tw Ty] ++ [tlp] ++ [tw t.text] ++ [trp]
 else if (t.kind==16) then [tw (Zo t.num)] ++ [tlp] ++ [tw t.text] ++ [tg bP] ++ [tw t.name]++(if ws == [] then [] else [tcm]++ws.getD 0 []) ++ [trp]
 else if (t.kind==17) then yM t (A3 t 0) (ws.getD 0 []) ++ [] ++ [operK t.num] ++ []++yM t (A3 t 1) (ws.getD 1 [])
 else if (t.kind==18) then [tw Ur] ++ []++yM t (A3 t 0) (ws.getD 0 [])
 else [tw (Vm t.kind)] ++ [tlp]++nG ws++(if (t.kind==11) then [tcm]++numK t.num else []) ++ [trp]
mutual
def toksC:Syn→List Tok
 | ⟨k,x,n,m,kids,p⟩=>nodeK ⟨k,x,n,m,kids,p⟩ (toksM kids)
def toksM:List Syn→List (List Tok)
 | []=>[]
 | x::r=>toksC x::toksM r
end

section
variable (f:Am→Am) (c:Int→Int)
def zX (k:Int)(x:Am):Am:=if ((k==14)||(k==15))||(k==16) then f x else x
def zN (k:Int)(n:Am):Am:=if (k==5) then f n else n
mutual
def zT:Syn→Syn
 | ⟨k,x,n,m,kids,p⟩=>⟨k,zX f k x,zN f k n,m,zL kids,c p⟩
def zL:List Syn→List Syn
 | []=>[]
 | x::r=>zT x::zL r
end
theorem sA:∀l:List Syn,zL f c l=l.map (zT f c)
 | []=>by rw [zL,C8]
 | x::r=>by rw [zL,sA r,Dn]
theorem Yk (t:Syn):zT f c t=⟨t.kind,zX f t.kind t.text,zN f t.kind t.name,t.num,t.kids.map (zT f c),c t.pos⟩:=by cases t;rw [zT,sA]
def zV (v:Va):Va:=⟨f v.name,v.type⟩
end
section
variable {f:Am→Am} {c:Int→Int}
theorem Sb (t:Syn):(zT f c t).kind=t.kind:=by rw [Yk]
theorem xS (t:Syn):(zT f c t).num=t.num:=by rw [Yk]
theorem z_pos (t:Syn):(zT f c t).pos=c t.pos:=by rw [Yk]
theorem N7 (t:Syn):(zT f c t).kids=t.kids.map (zT f c):=by rw [Yk]
theorem Ke (t:Syn):(zT f c t).text=zX f t.kind t.text:=by rw [Yk]
theorem Sl (t:Syn):(zT f c t).name=zN f t.kind t.name:=by rw [Yk]
theorem P4 (t:Syn){j:Nat}(h:j<t.kids.length):A3 (zT f c t) j=zT f c (A3 t j):=by
 unfold A3;rw [N7,N2,N2,List.getElem?_map,List.getElem?_eq_getElem h];rfl
theorem gE {k:Int}{x:Am}(h:¬(k=14∨k=15∨k=16)):zX f k x=x:=by
 unfold zX;rw [if_neg (by simp;omega)]
theorem zX_z {k:Int}{x:Am}(h:k=14∨k=15∨k=16):zX f k x=f x:=by
 unfold zX;rw [if_pos (by rcases h with rfl | rfl | rfl <;> rfl)]
theorem pW {k:Int}{x:Am}(h:k≠5):zN f k x=x:=by
 unfold zN;rw [if_neg (by simpa using h)]
theorem zN_z {x:Am}:zN f 5 x=f x:=rfl
theorem gC (V:List Va):Id (V.map (zV f))=(Id V).map f:=by
 show (V.map (zV f)).map (·.name)=(V.map (·.name)).map f;rw [List.map_map,List.map_map];rfl
theorem uE (T:List e8Sc)(V:List Va)(v:Int):bC T (V.map (zV f)) v=bC T V v:=by
 unfold bC;rw [List.getElem?_map];cases V[v.toNat]? with
 | none=>rfl
 | some a=>rfl
section
variable (hf:∀a b,f a=f b→a=b)
include hf
theorem xA (a b:Am):(f a==f b)=(a==b):=by
  cases h:a==b with
  | true=>rw [eq_of_beq h];simp
  | false=>
    rw [Pu] at h ⊢;exact fun e=>h (hf _ _ e)
theorem P0 (l:List Am)(n:Am):(l.map f).contains (f n)=l.contains n:=by
 induction l with
 | nil=>rfl
 | cons a r ih=>rw [Dn,List.contains_cons,List.contains_cons,ih,xA hf]
theorem z1_idx (l:List Am)(n:Am):(l.map f).idxOf (f n)=l.idxOf n:=by
 induction l with
 | nil=>rfl
 | cons a r ih=>rw [Dn,List.idxOf_cons,List.idxOf_cons,ih,xA hf]
theorem dP (l:List Am)(n:Am):L7 (l.map f) (f n)=L7 l n:=by
 unfold L7;rw [P0 hf,z1_idx hf]
end

theorem z_ev:∀t:Syn,A4 t .pats=0→I4 (zT f c t)=(I4 t).map (zT f c):=by
  intro t
  induction t using Syn.ind with
  | h t ih=>
    intro hc;have hm:∀a∈De t,I4 (zT f c a)=(I4 a).map (zT f c):=fun a ha=>ih a (Lq ha) (Le hc ha)
    have hp:De (zT f c t)=(De t).map (zT f c):=by
      unfold De;rw [Sb,N7];split
      · rfl
      · split
        · rw [List.map_take]
        rfl
    have hf:∀l:List Syn,(∀a∈l,I4 (zT f c a)=(I4 a).map (zT f c))→(l.map (zT f c)).flatMap I4=(l.flatMap I4).map (zT f c):=by
      intro l
      induction l with
      | nil=>intro _;rfl
      | cons x r ih2=>
        intro hl;rw [Dn,aE,aE,aF,hl x (by simp),ih2 fun a ha=>hl a (by simp [ha])]
    rw [jW,jW t,hp,hf _ hm,aF,Sb]
    congr 1
    split
    · rfl
    · split
      · rename_i h10
        rw [P4 t (by have:=H0 hc (.inl (by simpa using h10));omega)];rfl
      rfl
theorem ev_five:∀t:Syn,A4 t .pats=0→∀e∈I4 t,e.kind=5:=by
  intro t
  induction t using Syn.ind with
  | h t ih=>
    intro hc e he;rw [jW] at he;rcases S0.1 he with he | he
    · split at he
      · rename_i h5;rw [My.1 he];simpa using h5
      · split at he
        · rename_i h10
          rw [My.1 he];exact L8 (Gq (F6 (yJ hc (by simpa using h10))).1).1
        cases he
    · obtain ⟨a,ha,h⟩:=List.mem_flatMap.1 he
      exact ih a (Lq ha) (Le hc ha) e h
section
variable {T:List e8Sc} {V:List Va} (hf:∀a b,f a=f b→a=b)
theorem z_decV {t:Syn}(h:t.kind=5):Ou T (zT f c t)=zV f (Ou T t):=by
 unfold Ou;rw [Ke,gE (by omega),Sl,h,zN_z];rfl
theorem z_val {t:Syn}(h:t.kind=13):Zx (zT f c t)=Zx t:=by
 unfold Zx;rw [Ke,gE (by omega),Sl,pW (by omega),xS]
theorem X8 {t:Syn}(h:A4 t .exps=0):t.kind=13∨t.kind=14∨t.kind=15∨t.kind=16∨t.kind=17∨t.kind=18:=by
 have:=Yh (Gq (F6 h).1).1;omega
theorem qG {t:Syn}{xs ys:List Ex}(h:¬(t.kind=17∨t.kind=18))(hc:A4 t .exps=0):Ip T V t xs=Ip T V t ys:=by
 unfold Ip;rcases X8 hc with hk | hk | hk | hk | hk | hk
 ·
  have h1:(t.kind==13)=true:=by rw [hk];rfl
  rw [if_pos h1,if_pos h1]
 ·
  have h1:(t.kind==13)=false:=by rw [hk];rfl
  have h2:(t.kind==14)=true:=by rw [hk];rfl
  rw [Bl h1,Bl h1,if_pos h2,if_pos h2]
 ·
  have h1:(t.kind==13)=false:=by rw [hk];rfl
  have h2:(t.kind==14)=false:=by rw [hk];rfl
  have h3:(t.kind==15)=true:=by rw [hk];rfl
  rw [Bl h1,Bl h1,Bl h2,Bl h2,if_pos h3,if_pos h3]
 ·
  have h1:(t.kind==13)=false:=by rw [hk];rfl
  have h2:(t.kind==14)=false:=by rw [hk];rfl
  have h3:(t.kind==15)=false:=by rw [hk];rfl
  have h4:(t.kind==16)=true:=by rw [hk];rfl
  rw [Bl h1,Bl h1,Bl h2,Bl h2,Bl h3,Bl h3,if_pos h4,if_pos h4]
 · exact absurd (.inl hk) h
 exact absurd (.inr hk) h
theorem z_pk (t:Syn):De (zT f c t)=(De t).map (zT f c):=by
 unfold De;rw [Sb,N7];split
 · rfl
 split
 · rw [List.map_take]
 rfl
theorem vQ (n:Am):∀(l:List Va) (out:List Int),Nt T n (l.map (zV f)) out=Nt T n l out
 | [],out=>rfl
 | v::r,out=>by rw [Dn,Nt,Nt];simp only [zV];rw [vQ n r];rfl
include hf
theorem z_decE {t:Syn}(h:t.kind=5):Io T (V.map (zV f)) (zT f c t)=Io T V t:=by
 unfold Io;rw [Dx,Ke,gE (by omega),Sl,h,zN_z,gC,P0 hf]
theorem yT:∀(l:List Syn) (V:List Va),(∀e∈l,e.kind=5)→(Hi T (V.map (zV f)) (l.map (zT f c))).1=(Hi T V l).1.map (zV f)∧(Hi T (V.map (zV f)) (l.map (zT f c))).2.err=(Hi T V l).2.err
  | [],V,_=>⟨rfl,rfl⟩
  | t::r,V,h=>by
    have ht:=h t (by simp);rw [Dn,Jj,Jj,z_decE hf ht,z_decV ht];cases hq:Io T V t != 0 with
    | true=>rw [if_pos rfl,if_pos rfl];exact ⟨rfl,rfl⟩
    | false=>
      rw [Bl rfl,Bl rfl];have:=yT r (V ++ [Ou T t]) fun e he=>h e (by simp [he])
      rw [aF,List.map_singleton] at this;exact this
theorem tV (t:Syn):(G7 T (V.map (zV f)) (zT f c t)).err=(G7 T V t).err:=by
 unfold G7;rw [Sb];by_cases hk:t.kind=14∨t.kind=15∨t.kind=16
 ·
  rw [Ke,zX_z hk,Sl,pW (by omega),gC,P0 hf,dP hf,uE,z_pos];split
  · rfl
  split
  · rfl
  split
  · rfl
  split <;> rfl
 have h0:(((t.kind != 14)&&(t.kind != 15))&&(t.kind != 16))=true:=by simp;omega
 rw [if_pos h0,if_pos h0]
omit hf in
theorem lU {g h:Syn→Fa}:∀l:List Syn,(∀a∈l,(g (zT f c a)).err=(h a).err)→(Fh g (l.map (zT f c))).err=(Fh h l).err
  | [],_=>rfl
  | x::r,hx=>by
    rw [Dn,Fh,Fh,hx x (by simp)];split
    · exact hx x (by simp)
    exact lU r fun a ha=>hx a (by simp [ha])
theorem uM:∀t:Syn,(D4 T (V.map (zV f)) (zT f c t)).err=(D4 T V t).err:=by
  intro t
  induction t using Syn.ind with
  | h t ih=>
    rw [Qd,Qd,tV hf,N7];split
    · exact tV hf t
    exact lU t.kids ih
theorem z_leaf {t:Syn}{xs:List Ex}(h:A4 t .exps=0):Ip T (V.map (zV f)) (zT f c t) xs=Ip T V t xs:=by
  unfold Ip;rw [Sb,N7,Dx,xS];rcases X8 h with hk | hk | hk | hk | hk | hk
  · have h1:(t.kind==13)=true:=by rw [hk];rfl
    rw [if_pos h1,if_pos h1,z_val hk]
  · have h1:(t.kind==13)=false:=by rw [hk];rfl
    have h2:(t.kind==14)=true:=by rw [hk];rfl
    rw [Bl h1,Bl h1,if_pos h2,if_pos h2,Ke,zX_z (.inl hk),Sl,pW (by omega),gC,dP hf,uE]
  · have h1:(t.kind==13)=false:=by rw [hk];rfl
    have h2:(t.kind==14)=false:=by rw [hk];rfl
    have h3:(t.kind==15)=true:=by rw [hk];rfl
    rw [Bl h1,Bl h1,Bl h2,Bl h2,if_pos h3,if_pos h3,Ke,zX_z (.inr (.inl hk)),gC,dP hf]
  · have h1:(t.kind==13)=false:=by rw [hk];rfl
    have h2:(t.kind==14)=false:=by rw [hk];rfl
    have h3:(t.kind==15)=false:=by rw [hk];rfl
    have h4:(t.kind==16)=true:=by rw [hk];rfl
    rw [Bl h1,Bl h1,Bl h2,Bl h2,Bl h3,Bl h3,if_pos h4,if_pos h4,Ke,zX_z (.inr (.inr hk)),Sl,pW (by omega),gC,dP hf,uE];cases h5:decide ((0:Int)<(t.kids.length:Int)) with
    | false=>rfl
    | true=>
      have h6:0<t.kids.length:=by have:=Ir h5;omega
      have h7:=(Gn h (D8 h6)).2;have h8:Ec t 0 = .only 13:=by unfold Ec;rw [hk];rfl
      rw [h8] at h7;rw [P4 t h6,z_val (L8 h7)]
  · have h1:(t.kind==13)=false:=by rw [hk];rfl
    have h2:(t.kind==14)=false:=by rw [hk];rfl
    have h3:(t.kind==15)=false:=by rw [hk];rfl
    have h4:(t.kind==16)=false:=by rw [hk];rfl
    rw [Bl h1,Bl h1,Bl h2,Bl h2,Bl h3,Bl h3,Bl h4,Bl h4]
  · have h1:(t.kind==13)=false:=by rw [hk];rfl
    have h2:(t.kind==14)=false:=by rw [hk];rfl
    have h3:(t.kind==15)=false:=by rw [hk];rfl
    have h4:(t.kind==16)=false:=by rw [hk];rfl
    rw [Bl h1,Bl h1,Bl h2,Bl h2,Bl h3,Bl h3,Bl h4,Bl h4]
theorem cD:∀t:Syn,A4 t .exps=0→Cp T (V.map (zV f)) (zT f c t)=Cp T V t:=by
  intro t
  induction t using Syn.ind with
  | h t ih=>
    intro hc;rw [Fq,Fq T V,z_leaf hf hc,N7];by_cases hk:t.kind=17∨t.kind=18
    · congr 1
      rw [List.map_map];refine List.map_congr_left fun a ha=>?_
      obtain ⟨j,hj⟩:=jN.1 ha;exact ih a ha (oL hc hk hj)
    exact qG hk hc
theorem uN {t:Syn}{p:Pl}(hc:A4 t p=0)(h5:t.kind=5):Ij T (V.map (zV f)) (zT f c t)=Ij T V t:=by
  unfold Ij;rw [N7,Dx];cases h:decide ((0:Int)<(t.kids.length:Int)) with
  | false=>rfl
  | true=>
    have h6:0<t.kids.length:=by have:=Ir h;omega
    rw [if_pos rfl,if_pos rfl,P4 t h6];exact cD hf _ (evt_kid hc h5 (D8 h6))
theorem z_ptn {t:Syn}{s:Nx}{xs:List Pt}(hc:A4 t .pats=0):Kb T (V.map (zV f)) (zT f c t) s xs=Kb T V t s xs:=by
 unfold Kb;rw [Sb,xS];by_cases h5:t.kind=5
 ·
  have h1:(t.kind==5)=true:=by simpa using h5
  rw [if_pos h1,if_pos h1,Ke,gE (by omega),uN hf hc h5]
 have h1:(t.kind==5)=false:=by simpa using h5
 rw [Bl h1,Bl h1];by_cases h10:t.kind=10
 ·
  have h2:(t.kind==10)=true:=by simpa using h10
  have he:=yJ hc h10;have hk:=L8 (Gq (F6 he).1).1;have h9:=H0 hc (.inl h10);rw [if_pos h2,if_pos h2,P4 t (by omega),Ke,gE (by omega),uN hf he hk]
 have h2:(t.kind==10)=false:=by simpa using h10
 rw [Bl h2,Bl h2];by_cases h11:t.kind=11
 ·
  have h3:(t.kind==11)=true:=by simpa using h11
  rw [if_pos h3,if_pos h3]
 have h3:(t.kind==11)=false:=by simpa using h11
 rw [Bl h3,Bl h3];by_cases h12:t.kind=12
 ·
  have h4:(t.kind==12)=true:=by simpa using h12
  have h9:=H0 hc (.inr h12);rw [if_pos h4,if_pos h4,P4 t (by omega),cD hf _ (wO hc h12)]
 have h4:(t.kind==12)=false:=by simpa using h12
 rw [Bl h4,Bl h4]
theorem z_ptt:∀t:Syn,A4 t .pats=0→∀s:Nx,G3 T (V.map (zV f)) (zT f c t) s=G3 T V t s:=by
  intro t
  induction t using Syn.ind with
  | h t ih=>
    intro hc s
    have key:∀l:List Syn,(∀a∈l,a∈De t)→∀s:Nx,Dq T (V.map (zV f)) (l.map (zT f c)) s=Dq T V l s:=by
      intro l
      induction l with
      | nil=>intro _ s;rw [C8,Dq,Dq]
      | cons x r ih2=>
        intro hl s;have hx:=hl x (by simp);rw [Dn,Dq,Dq,ih x (Lq hx) (Le hc hx) s,ih2 (fun a ha=>hl a (by simp [ha]))]
    rw [Q6,Q6 T V,z_pk,show Sg (zT f c t) s=Sg t s by unfold Sg;rw [Sb],key (De t) (fun a ha=>ha),z_ptn hf hc]
end
end
section
variable {T:List e8Sc} {t:Syn}
theorem QryOK.key4 (h:QryOK t):(A3 t 0).kind=4:=by
 have hk:=(Gn h.c (D8 (k:=0) (by have:=h.len;omega))).2;unfold Ec at hk;rw [h.kind] at hk;exact L8 hk
theorem QryOK.rets (h:QryOK t):∀a∈t.kids.drop 2,A4 a .exps=0:=fun a ha=>by
 obtain ⟨j,hj⟩:=jN.1 ha;rw [List.getElem?_drop] at hj;have hk:=(Gn h.c hj).1;unfold Ec at hk;rw [h.kind] at hk;rw [if_neg (by decide),if_neg (by decide),if_pos (by decide),if_neg (by simp;omega),if_neg (by simp;omega)] at hk;exact hk
variable {f:Am→Am} {c:Int→Int} (hf:∀a b,f a=f b→a=b)
theorem z_ky (ht:QryOK t)(V:List Va):Rv T (zT f c t) (V.map (zV f))=Rv T t V:=by
 have h0:(A3 (zT f c t) 0).text=(A3 t 0).text:=by rw [P4 t (by have:=ht.len;omega),Ke,ht.key4,gE (by omega)]
 unfold Rv Wh;rw [h0,vQ]
include hf
theorem z_dec (ht:QryOK t):(Hi T [] (I4 (A3 (zT f c t) 1))).1=(D1 T t).map (zV f)∧(Hi T [] (I4 (A3 (zT f c t) 1))).2.err=(nM T t).err:=by
 rw [P4 t (by have:=ht.len;omega),z_ev _ ht.pat];exact yT hf (I4 (A3 t 1)) [] (ev_five _ ht.pat)
theorem z_vr (ht:QryOK t):D1 T (zT f c t)=(D1 T t).map (zV f):=(z_dec hf ht).1
theorem z_vf (ht:QryOK t):(nM T (zT f c t)).err=(nM T t).err:=(z_dec hf ht).2
theorem z_rt {V:List Va}{x:Syn}(hc:A4 x .exps=0):(qJ T (V.map (zV f)) (zT f c x)).err=(qJ T V x).err:=by
 unfold qJ;rw [cD hf _ hc];split <;> rfl
def yX (f:Am→Am)(q:Qy):Qy:=⟨q.name,q.vars.map (zV f),q.key,q.pattern,q.returns⟩
omit hf in
theorem fU {b b':Bool}{g g':Fa}{x x':Qy×Fa}(hb:b'=b)(hg:g'.err=g.err)(hx:b=false→x'.2.err=x.2.err∧x'.1=yX f x.1):(if b' then (Qk,g') else x').2.err=(if b then (Qk,g) else x).2.err∧(if b' then (Qk,g') else x').1=yX f (if b then (Qk,g) else x).1:=by
 subst hb;cases b' with
 | true=>exact ⟨hg,rfl⟩
 | false=>exact hx rfl
theorem z_query (ht:QryOK t):(Cg T (zT f c t)).2.err=(Cg T t).2.err∧(Cg T (zT f c t)).1=yX f (Cg T t).1:=by
 have e1:=z_vr (T:=T) (c:=c) hf ht;have hl:=ht.len;have hpt:aA T (zT f c t) ((D1 T t).map (zV f))=aA T t (D1 T t):=by unfold aA;rw [P4 t (by omega),z_ptt hf _ ht.pat]
 have hdr:(zT f c t).kids.drop 2=(t.kids.drop 2).map (zT f c):=by rw [N7,List.map_drop]
 have hea:(Fh (qJ T ((D1 T t).map (zV f))) ((zT f c t).kids.drop 2)).err=(Fh (qJ T (D1 T t)) (t.kids.drop 2)).err:=by
  rw [hdr];exact lU _ fun a ha=>z_rt hf (ht.rets a ha)
 unfold Cg;refine fU (by rw [z_vf hf ht]) (z_vf hf ht) fun _=>?_
 rw [e1];unfold QR1;refine fU (by rw [z_ky ht]) rfl fun _=>?_
 unfold QR2;refine fU (by rw [uM hf]) (uM hf t) fun _=>?_
 unfold QR3;refine fU (by rw [hpt]) (by rw [hpt]) fun _=>?_
 unfold yY;refine fU (by rw [hea]) hea fun _=>⟨rfl,?_⟩
 unfold X4 yX;simp only;rw [hpt,z_ky ht,hdr,List.map_map,Ke,ht.kind,gE (by omega)];rw [show List.map (Cp T ((D1 T t).map (zV f)) ∘ zT f c) (t.kids.drop 2)=(t.kids.drop 2).map (Cp T (D1 T t)) from List.map_congr_left fun a ha=>cD hf a (ht.rets a ha)]
end

def Bz (s:Am):Am:=s ++ [122]
theorem z1_inj (a b:Am)(h:Bz a=Bz b):a=b:=List.append_cancel_right h
abbrev Z8 (t:Syn):Syn:=zT Bz id t
section
variable {T:List e8Sc} {t:Syn}
theorem z_cnt (t:Syn):wC (Z8 t)≤wC t+D7 t:=by
  induction t using Syn.ind with
  | h t ih=>
    have h1:=Ln t;have h2:=Ln (Z8 t);have h3:=Eg t;rw [Ke,Sl,N7] at h2
    have h4:(zX Bz t.kind t.text).length+(zN Bz t.kind t.name).length≤t.text.length+t.name.length+1:=by
      by_cases h5:t.kind=5
      · rw [gE (by omega),h5,zN_z];simp [Bz];omega
      rw [pW h5];unfold zX;split <;> simp [Bz] <;> omega
    have key:∀l:List Syn,(∀a∈l,wC (Z8 a)≤wC a+D7 a)→wL (l.map (zT Bz id))≤wL l+Dy l:=by
      intro l
      induction l with
      | nil=>intro _;exact E2 _
      | cons x r ih2=>
        intro hl;rw [Dn,wL,wL,Dy];have h8:wC (zT Bz id x)≤wC x+D7 x:=hl x (by simp);have:=ih2 fun a ha=>hl a (by simp [ha])
        omega
    have:=key t.kids ih;omega
theorem z_med {t:Syn}(h:I7 t=true):E7 (Z8 t):=by
 have h1:=z_cnt t;have h2:=eA h;have h3:=(dS t h).2;unfold E7;omega
theorem wD (hf:I7 t=true)(h:((Dr T t).2.2 != 0)=false):Dr T (Z8 t)=(Qk,0,3)∨Dr T (Z8 t)=(yX Bz (Dr T t).1,0,0):=by
  obtain ⟨h1,h2,h3,hg⟩:=Mc h;have ht:QryOK t:=⟨Kv hf,K9 h2⟩;have h4:((Cg T t).2.err != 0)=false:=by rw [hg.ok];rfl
  cases h5:(By (Z8 t) (.only 3)).2 != 0 with
  | true=>exact .inl (qp_2 _ _ h1 h5)
  | false=>
    refine .inr ?_;have hz:=z_query (c:=id) (T:=T) z1_inj ht;have h6:((Cg T (Z8 t)).2.err != 0)=false:=by rw [hz.1];exact h4
    rw [eF _ _ h1 h5,(cJ h6).ok];rw [show X4 T (Z8 t) (D1 T (Z8 t))=(Cg T (Z8 t)).1 from (cJ h6).is.symm,hz.2,h3];rfl
end

def qT:Syn:=⟨13,[],F0,1,[],0⟩
def Mq (e:Syn):Syn:=⟨e.kind,e.text,e.name,e.num,[qT],e.pos⟩
def Fu (t:Syn):Syn:=⟨t.kind,t.text,t.name,t.num,t.kids.set 1 (Mq (A3 t 1)),t.pos⟩
theorem uC {t:Syn}{p:Pl}(h:Ro p t=0)(hk:t.kind≠13):t.text.length≤24∧t.name.length≤24:=by
  obtain ⟨_,_,hn,hf⟩:=Gq h;unfold C9 at hf;rw [if_neg (by simpa using hk)] at hf;split at hf
  · rename_i h1;rw [hf] at h1;cases h1
  · split at hf
    · cases hf
    · rename_i h2
      simp only [Nv,Gs,not_or,not_and,Dp] at h2;unfold Pf at hn;split at hn
      · cases hn
      · rename_i h3
        constructor
        · cases hu:(Px t.kind).1 with
          | false=>
            have h4:=h2.1 hu;have:t.text = []:=by simpa using h4
            rw [this];decide
          | true=>
            cases hm:qX t.text with
            | true=>exact (nD hm).2.1
            | false=>
              rw [hu,hm] at h3
              have:t.text = []:=by
                cases hz:t.text == [] with
                | true=>simpa using hz
                | false=>rw [hz] at h3;exact absurd (by simp) h3
              rw [this];decide
        · cases hu:(Px t.kind).2 with
          | false=>
            have h4:=h2.2 hu;have:t.name = []:=by simpa using h4
            rw [this];decide
          | true=>
            rw [hu] at hn;cases hm:qX t.name with
            | true=>exact (nD hm).2.1
            | false=>
              rw [hm] at hn;have:t.name=Eh:=by simp at hn;exact hn.2
              rw [this];decide
theorem uD {t:Syn}{p:Pl}(h:Ro p t=0):t.text.length≤64∧t.name.length≤64:=by
 by_cases hk:t.kind=13
 ·
  obtain ⟨_,_,_,hf⟩:=Gq h;unfold C9 at hf;rw [if_pos (by simpa using hk)] at hf;unfold Ho at hf;split at hf
  ·
   rename_i h1;have h9:t.name.length≤64:=by rw [eq_of_beq h1];decide
   split at hf
   · cases hf
   split at hf
   · cases hf
   rename_i h2;have:t.text = []:=by simpa using h2
   rw [this];exact ⟨by decide,h9⟩
  split at hf
  ·
   rename_i h1;have h9:t.name.length≤64:=by rw [eq_of_beq h1];decide
   split at hf
   · cases hf
   split at hf
   · cases hf
   rename_i h2;have:t.text = []:=by simpa using h2
   rw [this];exact ⟨by decide,h9⟩
  split at hf
  ·
   rename_i h1;have h9:t.name.length≤64:=by rw [eq_of_beq h1];decide
   split at hf
   · cases hf
   rename_i h2;simp only [H5] at h2;exact ⟨by omega,h9⟩
  cases hf
 have:=uC h hk;omega
theorem pI (t:Syn):∀p,A4 t p=0→(Ak t).length+2≤318*D7 t:=by
  refine Syn.ind (P:=fun t=>∀p,A4 t p=0→(Ak t).length+2≤318*D7 t) (fun t ih p h=>?_) t;have hp:=uD (F6 h).1
  have h0:(A3 t 0).text.length≤64:=by
    unfold A3;rw [N2];cases hq:t.kids[0]? with
    | none=>simp [Mz]
    | some a=>exact (uD (F6 (Gn h hq).1).1).1
  rw [Jb];have h1:=bZ (B:=64) (ws:=t.kids.map Ak) (kO h) hp.1 hp.2 h0
  have h2:Tz (t.kids.map Ak)+2*t.kids.length≤318*Dy t.kids:=by
    have key:∀l:List Syn,(∀a∈l,(Ak a).length+2≤318*D7 a)→Tz (l.map Ak)+2*l.length≤318*Dy l:=by
      intro l
      induction l with
      | nil=>intro _;simp [Tz]
      | cons x r ihl=>
        intro hl;have h3:=hl x (Sx ..);have h4:=ihl fun a ha=>hl a (Oy _ ha)
        rw [Dn,M6,Dy,Ep];omega
    refine key _ fun a ha=>?_
    obtain ⟨j,hj⟩:=jN.1 ha;exact ih a ha _ (Gn h hj).1
  have h4:=Eg t;rw [Dx] at h1;omega
section
variable {T:List e8Sc} {V:List Va} {t:Syn}
theorem iE {t:Syn}:∀(l:List Syn) (i:Nat),(∀j a,l[j]? = some a→A4 a (Ec t (i+j))=0)→Ko t i l=0
  | [],i,_=>rfl
  | x::r,i,h=>by
    have h0:=h 0 x rfl;rw [Nat.add_zero] at h0;rw [Ko,h0,if_neg (by decide)];exact iE r (i+1) fun j a ha=>by have:=h (j+1) a ha;rwa [show i+(j+1)=i+1+j by omega] at this
theorem iZ {t:Syn}{p:Pl}(h:Ro p t=0)(hk:∀j a,t.kids[j]? = some a→A4 a (Ec t j)=0):A4 t p=0:=by
 rw [Qv,h,if_neg (by decide)];exact iE t.kids 0 fun j a ha=>by rw [F9];exact hk j a ha
theorem trS_ok:A4 qT .exps=0:=by kernel_rfl
theorem evW_ok {e:Syn}{p:Pl}(h:A4 e p=0)(h5:e.kind=5):A4 (Mq e) p=0:=by
  have ho:=Gq (F6 h).1;refine iZ ?_ fun j a ha=>?_
  · unfold Ro
    have h1:p.at (Mq e).kind=true:=ho.1;have h2:Ei (Mq e)=true:=by unfold Ei Mq;rw [h5];rfl
    have h3:Pf (Mq e)=true:=ho.2.2.1;have h4:C9 (Mq e)=0:=ho.2.2.2;rw [h1,h2,h3];exact h4
  · match j,ha with
    | 0,ha=>
      cases ha
      have:Ec (Mq e) 0 = .exps:=by unfold Ec Mq;rw [h5];rfl
      rw [this];exact trS_ok
    | j+1,ha=>cases ha
theorem aP:A3 (Fu t) 0=A3 t 0:=by
 unfold A3 Fu;rw [N2,N2,List.getElem?_set_ne (by decide)]
theorem pV (h:1<t.kids.length):A3 (Fu t) 1=Mq (A3 t 1):=by
 show (t.kids.set 1 (Mq (A3 t 1))).getD 1 Mz=_;rw [N2,List.getElem?_set_self h];rfl
theorem aX:(Fu t).kids.drop 2=t.kids.drop 2:=by
 show (t.kids.set 1 (Mq (A3 t 1))).drop 2=_
 match t.kids with
 | []=>rfl
 | [a]=>rfl
 | a::b::r=>rfl
structure Bare (t:Syn):Prop where
 five:(A3 t 1).kind=5
 none:(A3 t 1).kids = []
theorem kR (ht:QryOK t)(hb:Bare t):A4 (Fu t) (.only 3)=0:=by
 have hl:=ht.len;have ho:=Gq (F6 ht.c).1;refine iZ ?_ fun j a ha=>?_
 ·
  unfold Ro;have h1:(Pl.only 3).at (Fu t).kind=true:=ho.1
  have h2:Ei (Fu t)=true:=by
   have:=ho.2.1;unfold Ei at this ⊢;rw [show (Fu t).kind=3 from ht.kind,show (Fu t).kids.length=t.kids.length from aG ..];simp;omega
  have h3:Pf (Fu t)=true:=ho.2.2.1;have h4:C9 (Fu t)=0:=ho.2.2.2;rw [h1,h2,h3];exact h4
 have hkc:Ec (Fu t) j=Ec t j:=by
  unfold Ec;rw [show (Fu t).kind=t.kind from rfl,ht.kind];rfl
 rw [hkc];by_cases hj:j=1
 ·
  subst hj;have:(t.kids.set 1 (Mq (A3 t 1)))[1]? = some a:=ha;rw [List.getElem?_set_self (by omega)] at this;cases this
  exact evW_ok (Gn ht.c (D8 (by omega))).1 hb.five
 have:(t.kids.set 1 (Mq (A3 t 1)))[j]? = some a:=ha;rw [List.getElem?_set_ne (by omega)] at this;exact (Gn ht.c this).1
theorem M9 (ht:QryOK t):∃a b r,t.kids=a::b::r∧A3 t 1=b:=by
 have hl:=ht.len
 match hk:t.kids with
 | []=>rw [hk] at hl;simp at hl
 | [a]=>rw [hk] at hl;simp at hl
 | a::b::r=>exact ⟨a,b,r,rfl,by unfold A3;rw [hk];rfl⟩
theorem lH (ht:QryOK t)(hb:Bare t):Fz (Fu t)=Fz t:=by
 obtain ⟨a,b,r,hk,h1⟩:=M9 ht;have hn:=hb.none;have h5:=hb.five;rw [h1] at hn h5;rw [M8,M8 t];have:(Fu t).kids=a::Mq b::r:=by show t.kids.set 1 (Mq (A3 t 1))=_;rw [hk,h1];rfl
 rw [this,hk,show (Fu t).kind=t.kind from rfl]
 have hd:Fz (Mq b)=Fz b:=by
  rw [M8,M8 b,hn,show (Mq b).kids = [qT] from rfl,show (Mq b).kind=b.kind from rfl,h5];show Ff 5 [qT]+0=Ff 5 []+0;rw [Ff,Ff,Ff];rfl
 rw [Ff,Ff,Ff,Ff,hd];rfl
theorem wW (ht:QryOK t)(hb:Bare t):(Ak (Fu t)).length=(Ak t).length+8:=by
 obtain ⟨a,b,r,hk,h1⟩:=M9 ht;have hn:=hb.none;have h5:=hb.five;rw [h1] at hn h5;have hkw:(Fu t).kids=a::Mq b::r:=by show t.kids.set 1 (Mq (A3 t 1))=_;rw [hk,h1];rfl
 have hw:(Ak (Mq b)).length=(Ak b).length+8:=by
  rw [Jb,Jb b,hn,show (Mq b).kids = [qT] from rfl];unfold Fj;rw [show (Mq b).kind=b.kind from rfl,h5];have htr:Ak qT = [116,114,117,101]:=by kernel_rfl
  show ((Mq b).text ++ [32]++(Mq b).name++([32]++Y8 ++ [32]++Ak qT)).length=(b.text ++ [32]++b.name ++ []).length+8;rw [htr];have:Y8.length=2:=rfl;simp only [D9,Ep,Ch,this];show b.text.length+1+b.name.length+_=_;omega
 rw [Jb,Jb t,hkw,hk];unfold Fj;rw [show (Fu t).kind=t.kind from rfl,ht.kind,aP];show (Fk ++ [32]++t.text++_ ++ [10]++Gb ++ [32]++Ak (Mq b) ++ [10]++Gi ++ [32]++Cz (r.map Ak) ++ [59,10]).length=(Fk ++ [32]++t.text++_ ++ [10]++Gb ++ [32]++Ak b ++ [10]++Gi ++ [32]++Cz (r.map Ak) ++ [59,10]).length+8;simp only [D9,hw];omega
theorem cN (hf:I7 t=true)(hb:Bare t)(h:((By t (.only 3)).2 != 0)=false):((By (Fu t) (.only 3)).2 != 0)=false:=by
  have ht:QryOK t:=⟨Kv hf,K9 h⟩;have h1:=kR ht hb;have h2:=lH ht hb;have h3:=wW ht hb;have h4:=pI t _ ht.c;have h5:=(dS t hf).2;unfold By at h ⊢;rw [ht.c] at h;rw [h1,h2];cases h6:decide (64<(Fz t:Int)) with
  | true=>rw [h6] at h;cases h
  | false=>
    have h7:decide (65536<((Ak (Fu t)).length:Int))=false:=decide_eq_false (by omega);rw [h7];rfl
theorem yC (hf:I7 t=true)(ht:QryOK t)(hb:Bare t):E7 (Fu t):=by
 obtain ⟨a,b,r,hk,h1⟩:=M9 ht;have h2:=eA hf;have hkw:(Fu t).kids=a::Mq b::r:=by show t.kids.set 1 (Mq (A3 t 1))=_;rw [hk,h1];rfl
 have h3:wC (Mq b)≤wC b+5:=by
  rw [Ln,Ln b,show (Mq b).kids = [qT] from rfl];show 1+b.text.length+b.name.length+wL [qT]≤_;have:wL [qT]=5:=by kernel_rfl
  omega
 rw [Ln,hk,wL,wL] at h2;unfold E7;rw [Ln,hkw,wL,wL];show 1+t.text.length+t.name.length+_≤_;omega
theorem w_walk {e:Syn}(h5:e.kind=5)(hn:e.kids = []):D4 T V (Mq e)=O3∧D4 T V e=O3:=by
 have hl:∀x:Syn,x.kind=5→G7 T V x=O3:=fun x hx=>dL (by rw [hx];rfl)
 have ht:D4 T V qT=O3:=by rw [U6 (by rw [dL (by rfl)];rfl)];rfl
 constructor
 · rw [U6 (by rw [hl (Mq e) h5];rfl),show (Mq e).kids = [qT] from rfl,Fh,ht];rfl
 rw [U6 (by rw [hl e h5];rfl),hn];rfl
theorem sS (ht:QryOK t)(hb:Bare t)(h:((Cg T t).2.err != 0)=false):Cg T (Fu t)=Cg T t:=by
 have hl:=ht.len;have hg:=cJ h;have hk1:=pV (t:=t) (by omega);have hev:I4 (A3 (Fu t) 1) = [Mq (A3 t 1)]:=by rw [hk1,Oc,if_pos (by rw [show (Mq (A3 t 1)).kind=(A3 t 1).kind from rfl,hb.five];rfl)]
 have hev2:I4 (A3 t 1) = [A3 t 1]:=by rw [Oc,if_pos (by rw [hb.five];rfl)]
 have hd:Hi T [] (I4 (A3 (Fu t) 1))=Hi T [] (I4 (A3 t 1)):=by
  rw [hev,hev2,Hi,Hi];rfl
 have hv:D1 T (Fu t)=D1 T t:=by unfold D1;rw [hd]
 have hvf:nM T (Fu t)=nM T t:=by unfold nM;rw [hd]
 have hky:∀V,Rv T (Fu t) V=Rv T t V:=fun V=>by unfold Rv;rw [aP]
 have hw:∀V,D4 T V (Fu t)=D4 T V t:=fun V=>by
  obtain ⟨a,b,r,hk,h1⟩:=M9 ht;have hww:=w_walk (T:=T) (V:=V) hb.five hb.none;rw [h1] at hww;have hkw:(Fu t).kids=a::Mq b::r:=by show t.kids.set 1 (Mq (A3 t 1))=_;rw [hk,h1];rfl
  have hlk:∀x:Syn,x.kind=3→G7 T V x=O3:=fun x hx=>dL (by rw [hx];rfl)
  rw [U6 (by rw [hlk (Fu t) ht.kind];rfl),U6 (t:=t) (by rw [hlk t ht.kind];rfl),hkw,hk,Fh,Fh,Fh,Fh,hww.1,hww.2]
 have hp:∀V,aA T (Fu t) V=aA T t V:=fun V=>by
  unfold aA;rw [hk1,Q6,Q6 T V (A3 t 1)];have h5:=hb.five;have h5w:((Mq (A3 t 1)).kind==5)=true:=by show ((A3 t 1).kind==5)=true;rw [h5];rfl
  have h5b:((A3 t 1).kind==5)=true:=by rw [h5];rfl
  rw [pk_5 h5w,pk_5 h5b,Dq,Dq,wF h5w,wF h5b]
  have hc:Ij T V (Mq (A3 t 1))=Ij T V (A3 t 1):=by
   rw [tT (t:=A3 t 1) (by rw [hb.none];rfl),sH (by rfl)];show Cp T V qT=Pn;rw [Fq,eE (by rfl)];rfl
  rw [hc];rfl
 have e1:Cg T (Fu t)=(X4 T (Fu t) (D1 T t),O3):=by
  rw [rJ (by rw [hvf];exact hg.v),hv,uU (by rw [hky];exact hg.k),qr_d (by rw [hw];simpa using hg.w),qr_e (by rw [hp];exact hg.p)];unfold yY;rw [aX,if_neg (by rw [hg.r];decide)]
 rw [e1,hg.ok];unfold X4;rw [hp,hky,aX];rfl
theorem w_qryP (hf:I7 t=true)(hb:Bare t)(h:((Dr T t).2.2 != 0)=false):Dr T (Fu t)=((Dr T t).1,0,0):=by
 obtain ⟨h1,h2,h3,hg⟩:=Mc h;have ht:QryOK t:=⟨Kv hf,K9 h2⟩;have h4:((Cg T t).2.err != 0)=false:=by rw [hg.ok];rfl
 rw [eF _ _ h1 (cN hf hb h2),sS ht hb h4,h3,hg.ok];rfl
end
end Go.Proofs.YtckhoadldibflaaGreatDoor

namespace Go.Aw
open Go
section
variable {P:Program} {T:List (Nat×TD)} {d:Option Nat} {ty:TypeId} {pos:String} {aft:Array Edge} {gd:Option (Nat×Bool)} {ρ:Operand→AV}
theorem gA {x y:Operand}{t e k z:Nat}{td te:TD}{v:Value}{cs:List (List AV)}{H:List HO}(hT:Hl P T)(hx:ρ x = .row v z [])(hy:ρ y = .sl z cs)(ht:Bj T t=some td)(hk:td.kind = .slice e)
    (hte:Bj T e=some te) (hz:te.size=z) (hp:Nat.blt 0 z=true) (hH:H[k]? = some (.row v 0 e z)) (hs:∀c∈cs,Bb c=true) (hne:cs≠[]) (hb:cs.length*te.bytes≤140737488355328) (hm:cs.length≤maxLen) :
    Lu P ⟨d,.call ⟨.builtin .append,#[x,y],#[t,t]⟩,ty,pos,aft,gd⟩ ρ H (fun r H'=>∃b cap J,r = .val (.slice (some ⟨b,0,none⟩) cs.length cap)∧cs.length≤cap∧cap≤maxLen∧H'=H.set k (.box b e (cs.flatten++J))):=by
  intro g w a next Q hr hHK hn
  have hpos:0<z:=by simpa using hp
  have e1:=(hx▸hr x (by simp [Op.operands,Call.operands]):Rep g w _ _).inv_row.1;have r2:=(hy▸hr y (by simp [Op.operands,Call.operands]):Rep g w _ _);have hu:=C6 (hT t td ht) hk;obtain ⟨it,hit,his,hib,zv,hzv,hzs,_⟩:=(hT e te hte).info;have hok:=hHK.ok _ (B4 hH);obtain ⟨a2,m,c2,h21,h22,h23,h24,_⟩:=r2.inv_sl;subst h22;have hn0:0<cs.length:=qR.2 hne
  have fin:∀b cap J g' w',(Builtin.append_ #[t,t] ty #[a.eval x,a.eval y]).run P w = .ok (.slice (some ⟨b,0,none⟩) cs.length cap) w'→cs.length≤cap→cap≤maxLen→HOK g' w' (H.set k (.box b e (cs.flatten++J)))→Ext g w g' w'→Oper.wp P ⟨d,.call ⟨.builtin .append,#[x,y],#[t,t]⟩,ty,pos,aft,gd⟩ a w next Q:=by
    intro b cap J g' w' hrun h1 h2 hok' hext;unfold Oper.wp
    rw [El (v:=.slice (some ⟨b,0,none⟩) cs.length cap) (w':=w') (by
      have:(#[x,y]:Array Operand).map a.eval = #[a.eval x,a.eval y]:=by simp
      rw [this];simp only [builtin,Sem.run_bind,hrun,Result.andThen_ok,Sem.run_pure])]
    exact hn g' w' _ _ _ ⟨b,cap,J,rfl,h1,h2,rfl⟩ (.val _) hok' hext
  rw [h21] at r2;obtain ⟨_,hz2,b2,o2,hb2,news,n1,n2,n3,n4⟩:=J0 r2 hpos hs hne;subst hb2;have hnews:∀j u,news[j]? = some u→w.cell? ((⟨b2,o2,none⟩:Addr).add j)=some u:=fun j u hj=>by rw [Ek];exact (n4 j u hj).2
  have hsz:it.size=z:=by rw [his,hz]
  have hnl:news.length=cs.length*it.size:=by rw [n1,hsz]
  have hmax:maxLen=9223372036854775807:=rfl;have hfl:cs.flatten.length=news.length:=by rw [←n2.1];simp
  -- what a new block holds
  have hnew:∀{g':Gh} {w':World} (cur:Array Value),Ext g w g' w'→news.length≤cur.size→(∀i,i<news.length→cur.getD i undef=news.toArray.getD i undef)→Cd g' w' cur (cs.flatten++List.replicate (cur.size-news.length) .junk):=fun {g' w'} cur hext hle hc=>by
    refine ⟨by simp [hfl];omega,fun i x hi=>?_⟩;rw [List.getElem?_append] at hi;split at hi
    · rename_i hlt
      rw [hc i (by omega)];exact (n2.mono hext).2 i x hi
    · have:=List.eq_of_mem_replicate (B4 hi)
      rw [this];exact .junk _
  rcases hok with ⟨rfl,_⟩ | ⟨b,cap,cur,rfl,hg,hcur,hcsz,hcap,hcmax⟩
  · have hbb:cs.length*it.bytes≤281474976710656:=by rw [hib];omega
    have hrun:=run_append_nil (P:=P) w t ty e it zv hu hit hzv ⟨b2,o2,none⟩ cs.length c2 news hnl hnews hn0 (by omega) hbb;have hext:Ext g w (g.put w.heap.size (some 0)) (w.drew.alloc (.cells (news.toArray++Builtin.zeroCells zv.cells (grownCap w cs.length 0 e-cs.length)) e)):=(Ext.drew g w).trans (Ext.alloc g w.drew _ _);have hcapm:cs.length≤grownCap w cs.length 0 e:=grownCap_ge w cs.length 0 e;have hcapM:=grownCap_le_maxLen w cs.length 0 e (by omega);refine fin _ _ (List.replicate ((news.toArray++Builtin.zeroCells zv.cells (grownCap w cs.length 0 e-cs.length)).size-news.length) .junk) (g.put w.heap.size (some 0)) _ (by rw [e1,h21];exact hrun) hcapm hcapM ?_ hext;refine hHK.set hext hH (fun b hb=>?_) ⟨Gh.Aaf _ _ _,_,B1 w.drew _,hnew _ hext (by simp) fun i hi=>?_⟩ (fun c hc _ _=>?_)
    · simp only [HO.blk,Option.some.injEq] at hb;exact .inr (by omega)
    · rw [Hf,Hf,Array.getElem?_append_left (by simpa using hi)]
    exact ⟨Gh.Aaj _ _ (by omega),Fl w.drew _ hc⟩
  · rw [Nat.zero_mul] at hg
    by_cases hroom:0+cs.length≤cap
    · have hfit:0*it.size+news.length≤cur.size:=by
        rw [Nat.zero_mul,F9,n1,hcsz];exact Wi z (by omega)
      have hrun:=run_append_room (P:=P) w t ty e it hu hit b 0 cap cur hcur ⟨b2,o2,none⟩ cs.length c2 news hnl hnews n3 hroom hfit;rw [Nat.zero_mul,F9] at hrun hfit;rw [F9] at hrun hroom;have hnw:=setRow_heap w b cur (cur.toList.take 0++news++cur.toList.drop news.length).toArray e (0,0) hcur;have hext:Ext g w g (w.setRow b (cur.toList.take 0++news++cur.toList.drop news.length).toArray):=Ext.setRow hg;refine fin b cap (List.replicate ((cur.toList.take 0++news++cur.toList.drop news.length).toArray.size-news.length) .junk) g _ (by rw [e1,h21];exact hrun) hroom hcmax ?_ hext;refine hHK.set hext hH (fun b' hb'=>.inl hb') ⟨hg,_,hnw,hnew _ hext ?_ fun i hi=>?_⟩ (fun c hc hne _=>?_)
      · simp
      · simp only [List.take_zero,Je,Hf,List.getElem?_toArray]
        rw [List.getElem?_append_left hi]
      exact ⟨rfl,setRow_other w b c _ (fun h=>hne (by rw [h];rfl))⟩
    · have hg':cap<0+cs.length:=by omega
      have hfit:Builtin.nextslicecap (0+cs.length) cap*it.bytes≤281474976710656:=growslice_fits hg' (by rw [hib,F9];exact hb);have hrun:=run_append_grow (P:=P) w t ty e it zv hu hit hzv ⟨b,0,none⟩ 0 cap [] (by simp) (by simp) ⟨b2,o2,none⟩ cs.length c2 news hnl hnews hg' (by omega) hfit;rw [F9] at hrun;have hext:Ext g w (g.put w.heap.size (some 0)) (w.drew.alloc (.cells ((#[]:Array Value)++news.toArray++Builtin.zeroCells zv.cells (grownCap w cs.length cap e-cs.length)) e)):=(Ext.drew g w).trans (Ext.alloc g w.drew _ _);have hcapm:=grownCap_ge w cs.length cap e;have hcapM:=grownCap_le_maxLen w cs.length cap e (by omega);refine fin _ _ (List.replicate (((#[]:Array Value)++news.toArray++Builtin.zeroCells zv.cells (grownCap w cs.length cap e-cs.length)).size-news.length) .junk) (g.put w.heap.size (some 0)) _ (by rw [e1,h21];exact hrun) hcapm hcapM ?_ hext;refine hHK.set hext hH (fun b' hb'=>?_) ⟨Gh.Aaf _ _ _,_,B1 w.drew _,hnew _ hext (by simp) fun i hi=>?_⟩ (fun c hc _ _=>?_)
      · simp only [HO.blk,Option.some.injEq] at hb';exact .inr (by omega)
      · simp only [Hf]
        rw [Array.getElem?_append_left (by simpa using hi)];simp
      exact ⟨Gh.Aaj _ _ (by omega),Fl w.drew _ hc⟩
end
theorem GS.freezeSlCell {sl:List (Nat×AV)}{H H2:List HO}{n b bb TT T2 m c z:Nat}{cs2 cs cs' J:List AV}{es:List (List AV)}(k j o:Nat)(hk:H[k]? = some (.box b T2 cs2))(hj:(H.eraseIdx k)[j]? = some (.box bb TT cs))(hc:cs[o]? = some (.val (.slice (some ⟨b,0,none⟩) m c)))(hf:es.flatten++J=cs2)(hm:m=es.length)(hmc:m≤c)(hcm:c≤maxLen)
  (hz:∀e∈es,e.length=z) (hcs:cs.set o (.sl z es)=cs') (hH2:(H.eraseIdx k).set j (.box bb TT cs')=H2):GS ⟨sl,H,n⟩ ⟨sl,H2,n⟩:=fun g a w hG=>by
 subst hcs;subst hH2;obtain ⟨hg,vs,h1,h2⟩:=hG.heap.ok _ (B4 hk)
 have hx:Ext g w (g.put b none) w:=by
  refine ⟨rfl,rfl,rfl,C4 _,fun c hc hgc=>⟨?_,rfl⟩,fun c m hc hgc=>⟨fun m' hm=>?_,fun _ _=>rfl⟩⟩
  ·
   by_cases e:c=b
   · subst e;exact Gh.Aaf _ _ _
   rw [Gh.Aaj _ _ e];exact hgc
  by_cases e:c=b
  · subst e;rw [Gh.Aaf] at hm;cases hm
  rw [Gh.Aaj _ _ e,hgc] at hm;cases hm;exact C4 _
 have hv:Rep (g.put b none) w (.slice (some ⟨b,0,none⟩) m c) (.sl z es):=by
  refine .sl b 0 m c z es hm hmc hcm hz (fun i j=>vs.getD (i*z+j) undef) (fun i e hi j y hj=>⟨by unfold C0;rw [Gh.Aaf];trivial,?_⟩) (fun i e hi j y hj=>?_)
  ·
   have h3:=Fv hz hi hj;have h4:cs2[i*z+j]? = some y:=by rw [←hf,List.getElem?_append_left (List.getElem?_eq_some_iff.1 h3).1];exact h3
   have hlt:i*z+j<vs.size:=by rw [h2.1];exact (List.getElem?_eq_some_iff.1 h4).1
   rw [F9,Bd h1];simp [hlt]
  have h3:=Fv hz hi hj;have h4:cs2[i*z+j]? = some y:=by rw [←hf,List.getElem?_append_left (List.getElem?_eq_some_iff.1 h3).1];exact h3
  exact (h2.2 _ _ h4).mono hx
 have hH:HOK (g.put b none) w (H.eraseIdx k):=by
  have hsub:(H.eraseIdx k).Sublist H:=List.eraseIdx_sublist ..;refine ⟨(hG.heap.sub hsub).nodup,fun o ho=>?_,hG.heap.glob.mono hx⟩;obtain ⟨i,hi⟩:=List.getElem?_of_mem ho;rw [List.getElem?_eraseIdx] at hi
  obtain ⟨j',hjk,hj'⟩:∃j',j'≠k∧H[j']? = some o:=by
   split at hi
   · exact ⟨i,by omega,hi⟩
   exact ⟨i+1,by omega,hi⟩
  have hok:=hG.heap.ok o (B4 hj');refine HO.ok_of_same hx hok fun c hc=>⟨Gh.Aaj _ _ fun e=>hjk (hG.heap.nodup_blk hj' hk (e▸hc) rfl),rfl⟩
 refine ⟨g.put b none,⟨hG.size,hG.defers,fun i=>(hG.sl i).mono hx,?_⟩,hx⟩;refine hH.set (Ext.refl _ w) hj (fun b h=>.inl h) ?_ (fun _ _ _ _=>⟨rfl,rfl⟩);obtain ⟨hg2,us,hus,hr⟩:=hH.ok _ (B4 hj);refine ⟨hg2,us,hus,by rw [aG];exact hr.1,fun i x hi=>?_⟩;rw [List.getElem?_set] at hi;by_cases e:o=i
 ·
  subst e;have hlt:=(List.getElem?_eq_some_iff.1 hc).1;simp only [if_true,hlt,Option.some.injEq] at hi;subst hi;have h5:=(hr.2 o _ hc).inv_val;rw [h5];exact hv
 rw [if_neg e] at hi;exact hr.2 i x hi
end Go.Aw
