/-
  Several texts in one: P16, P1, P2, P3, P5, P7, P17, P8, X12, V5, V6, V7, V8. No condition.
-/
import Derived.Test.YtibcelnfkhdjaaaGreatDoorK04
import Derived.Test.YtibcelnfkhdjaaaGreatDoorK02
import Derived.KernelRfl
import Derived.Test.YtibcelnfkhdjaaaGreatDoorK03
set_option linter.unusedVariables false
set_option linter.unusedSimpArgs false
set_option maxHeartbeats 3200000
set_option maxRecDepth 20000
namespace Go.Proofs.YtibcelnfkhdjaaaGreatDoor
open Go Go.Aw
structure Cx where
 pre:List Tok
 post:List Tok
 k:Int
 hk:0<=k
 hc:∀c r,post=c::r->c.kind=3
 hpre:pre.map erT=pre
 hpost:post.map erT=post
def Cx.no (x:Cx)(w:Ac):Prop:=∀c r,x.post=c::r->(c.text==w)=false
structure Ok (d:Int) (st:PS):Prop where
 era:er st=st
 dep:st.depth=d
 inn:st.pos<=st.toks.length
 good:st.bad=0
variable {x:Cx} {d:Int} {st:PS}
theorem Ok.off (h:Ok d st):D4 st=0:=by rw [<-h.era];exact M6 st
theorem nxt_end {k:Int}(hi:Nt k st=true):endP st=false:=by
 unfold Nt at hi;cases e:endP st with
 | true=>rw [e] at hi;exact absurd hi (by simp)
 | false=>rfl
theorem is_end {w:Ac}(hi:Ea w st=true):endP st=false:=by
 unfold Ea at hi;cases e:endP st with
 | true=>rw [e] at hi;exact absurd hi (by simp)
 | false=>rfl
theorem exp_yes (h:st.bad=0){w:Ac}(hi:Ea w st=true):Bb w st=adv st:=by
 unfold Bb;rw [h,hi,Gd hi];rfl
theorem exp_no (h:st.bad=0){w:Ac}(hi:Ea w st=false):(Bb w st).bad=4:=by
 unfold Bb;rw [h,hi];unfold Gw;rw [h];rfl
theorem tok_no (h:st.bad=0){k:Int}(hi:Nt k st=false):(Cm k st).bad=4:=by
 unfold Cm;rw [hi];unfold Gw;rw [h];rfl
def Cx.Ex (x:Cx):Prop:=∀c r,x.post=c::r->c.text=Gp\/c.text=Cl
theorem sL {l:List (Ac×Int)}{s:Ac×Int}(h:l.find? (fun s=>Ea s.1 st)=some s):Ea s.1 st=true:=by
 have:=List.find?_some h;exact this
section
variable {E E' N N':PS->Syn×PS}
def cmpK (E:PS->Syn×PS)(a:Syn)(s:PS):Syn×PS:=
 if Ea w_lt s then (K6 7 a (Fu E (adv s)).1 a.pos,(Fu E (adv s)).2)
 else if Ea w_le s then (K6 8 a (Fu E (adv s)).1 a.pos,(Fu E (adv s)).2)
 else if Ea w_gt s then (K6 7 (Fu E (adv s)).1 a a.pos,(Fu E (adv s)).2)
 else if Ea w_ge s then (K6 8 (Fu E (adv s)).1 a a.pos,(Fu E (adv s)).2)
 else if Ea rC s then (K6 9 a (Fu E (adv s)).1 a.pos,(Fu E (adv s)).2)
 else if Ea Aae s then (⟨18,[],[],0,[K6 9 a (Fu E (adv s)).1 a.pos],a.pos⟩,(Fu E (adv s)).2)
 else (a,s)
theorem cmpP_K (E:PS->Syn×PS)(st:PS):L5 E st=cmpK E (Fu E st).1 (Fu E st).2:=rfl
end
section
variable {E E' T T':PS->Syn×PS}
def mN (E T:PS->Syn×PS)(k:Int)(z:Syn)(s:PS):Syn×PS:=
 ((Fp E T k { z with kids:=[(T (Bb Ds s)).1] } (T (Bb Ds s)).2).1,Bb Gp (Fp E T k { z with kids:=[(T (Bb Ds s)).1] } (T (Bb Ds s)).2).2)
end
theorem N4 {p:UInt8->Bool}(h:(List.range 256).all (fun n=>p (UInt8.ofNat n))=true)(c:UInt8):p c=true:=by
 rw [F3] at h;have:=h c.toNat (Lk.2 c.toNat_lt)
 rwa [UInt8.ofNat_toNat] at this
theorem bt_drop (s:Ac)(k j:Nat):bt (s.drop k) j=bt s (k+j):=by simp [bt,Dm,List.getElem?_drop]
theorem Nr {s:Ac}{n i:Nat}{b:Ac}:Fz s (n+1) i b =
 if decide ((i:Int)<(s.length:Int)) then
  if (((bt s i).toNat:Int)==34) then
   if decide (64<(b.length:Int)) then Lp 0 13 else Xf 2 b ((i:Int)+1)
  else if (((bt s i).toNat:Int)==92) then
   if ((Kg (s.drop i)).2==0) then Lp i 4 else Fz s n (i+(Kg (s.drop i)).2.toNat) (b ++ [(Kg (s.drop i)).1])
  else if (decide (((bt s i).toNat:Int)<32)||decide (126<((bt s i).toNat:Int))) then Lp i 4
  else Fz s n (i+1) (b ++ [bt s i])
 else Lp s.length 4:=rfl
def okSign:Ac->Bool
 | [_]=>true
 | [_,b]=>b==61
 | _=>false
def Zj (c:UInt8)(two:Bool):Ac->Bool
 | [a]=>a==c
 | [a,_]=>a==c&&two
 | _=>false
theorem nF (c:UInt8)(r:Ac):∀l:List Ac,l.all okSign=true->It (c::r) l=match l.find? (Zj c (Lib.hasPrefix r [61])) with | none=>Lp 0 4 | some x=>Xf 3 x x.length
  | [],_=>rfl
  | x::l,h=>by
    simp only [Kx,Ce] at h
    have e:Lib.hasPrefix (c::r) x=Zj c (Lib.hasPrefix r [61]) x:=by
      match x,h.1 with
      | [a],_=>simp [Lib.hasPrefix,Zj,List.isPrefixOf]
      | [a,b],h=>
        have:b=61:=by simpa [okSign] using h
        subst this;simp [Lib.hasPrefix,Zj,List.isPrefixOf]
    rw [It,e,List.find?_cons];cases Zj c (Lib.hasPrefix r [61]) x with
    | true=>rfl
    | false=>simpa using nF c r l h.2
def Lf (c:UInt8)(two:Bool):Option Ac:=qX.find? (Zj c two)
def dJ (c:UInt8)(two:Bool):Int:=if sign2 c&&two then 2 else if sign1 c then 1 else 0
theorem signV_N (c:UInt8)(two:Bool):(Lf c two=none/\dJ c two=0)\/(two=true/\Lf c two=some [c,61]/\dJ c two=2)\/(Lf c two=some [c]/\dJ c two=1):=by
  cases two with
  | true=>
    have:=N4 (p:=fun c=>decide ((Lf c true=none/\dJ c true=0)\/(true=true/\Lf c true=some [c,61]/\dJ c true=2)\/(Lf c true=some [c]/\dJ c true=1))) (by kernel_rfl) c;exact Ec this
  | false=>
    have:=N4 (p:=fun c=>decide ((Lf c false=none/\dJ c false=0)\/(false=true/\Lf c false=some [c,61]/\dJ c false=2)\/(Lf c false=some [c]/\dJ c false=1))) (by kernel_rfl) c;exact Ec this
theorem sV {pos e:Int}(h:e≠0):M0 (Lp pos e)=true:=by
 unfold M0 Lp;simp [h]
theorem sW {k:Int}{t:Ac}{n:Int}(h:0<n):M0 (Xf k t n)=true:=by
 unfold M0 Xf;simp [h]
theorem quote_byte {c:UInt8}:((c.toNat:Int)==34)=true->C6 c=false/\A5 c=false:=by
 have:=N4 (p:=fun c=>decide (((c.toNat:Int)==34)=true->C6 c=false/\A5 c=false)) (by kernel_rfl) c;exact Ec this
theorem Tg {s:Ac}{n i:Nat}{out:List Tok}:Ks s (n+1) i out =
 if decide ((i:Int)<(s.length:Int)) then
  if decide (0<Jw (s.drop i)) then Ks s n (i+(Jw (s.drop i)).toNat) out
  else if ((By (s.drop i)).err != 0) then (([],(i:Int)+(By (s.drop i)).pos,(By (s.drop i)).err):List Tok×Int×Int)
  else Ks s n (i+(By (s.drop i)).bytes.toNat) (out ++ [⟨(By (s.drop i)).tok.kind,(By (s.drop i)).tok.text,i⟩])
 else (out,0,0):=rfl
theorem tD {s:Ac}{i:Nat}(h:i<s.length):decide ((i:Int)<(s.length:Int))=true:=by simp only [Cb];omega
theorem bT (s sub:Ac):Lib.contains s sub=true↔∃j,j<=s.length/\Lib.occAt s sub j=true:=by
 unfold Lib.contains;rw [Cb];rcases Lib.index_spec s sub with ⟨h1,h2⟩ | ⟨i,h1,h2,h3,_⟩
 .
  rw [h1]
  constructor
  . intro h;omega
  rintro ⟨j,hj,ho⟩;rw [h2 j hj] at ho;cases ho
 rw [h1];exact ⟨fun _=>⟨i,h2,h3⟩,fun _=>by omega⟩
theorem bU (s:Ac)(c:UInt8):Lib.contains s [c]=true↔c∈s:=by
 rw [bT]
 constructor
 .
  rintro ⟨j,_,ho⟩;unfold Lib.occAt at ho;rw [gG] at ho;obtain ⟨t,ht⟩:=ho;exact Wd (i:=j) (by rw [<-ht];simp)
 intro h;obtain ⟨u,v,rfl⟩:=List.append_of_mem h;refine ⟨u.length,by simp,?_⟩;unfold Lib.occAt;rw [List.drop_left,gG];exact ⟨v,rfl⟩
def kwL:List Ac:=[[97,108,108],[97,108,116],[97,110,100],[98,111,111,108],[98,121],[99,111,117,110,116],[102,97,108,115,101],[102,105,114,115,116],[105,102],[105,110,116],[108,97,99,107,115],[108,97,115,116],[109,97,116,99,104],[109,97,120],[109,105,110],[110,111,116],[111,114],[112,108,117,115],[113,117,101,114,121],[114,101,116,117,114,110],[115,101,113],[115,116,114,105,110,103],[115,117,109],[116,105,109,101],[116,114,117,101],[116,121,112,101],[119,104,101,114,101],[119,105,116,104,105,110]]
theorem keyR_any (s:Ac):keyR s=kwL.any (fun w=>s==w):=by
 unfold keyR kwL;simp only [O5,List.any_nil,Sl,Bool.or_assoc]
theorem keyR_mem (s:Ac):keyR s=true↔s∈kwL:=by
 rw [keyR_any,List.any_eq_true]
 constructor
 .
  rintro ⟨w,hw,he⟩;rw [beq_iff_eq] at he;exact he▸hw
 intro h;exact ⟨s,h,beq_self_eq_true _⟩
theorem yD:∀(s l:Ac),32∉s->(s ++ [32]).isPrefixOf l=true->s=l.takeWhile (fun c=>c != 32)/\32∈l
  | [],l,_,h=>by
    cases l with
    | nil=>cases h
    | cons b t=>
      have:(32:UInt8)=b:=by simpa [List.isPrefixOf] using h
      subst this;exact ⟨rfl,by simp⟩
  | c::r,l,hn,h=>by
    cases l with
    | nil=>cases h
    | cons b t=>
      simp only [Cp,List.isPrefixOf,Ce,beq_iff_eq] at h;obtain ⟨rfl,h⟩:=h;have hc:(32:UInt8)≠c:=fun e=>hn (by simp [e])
      obtain ⟨i1,i2⟩:=yD r t (fun e=>hn (Gs _ e)) h;have e:(c != 32)=true:=by simpa [bne] using fun e=>hc e.symm
      refine ⟨?_,Gs _ i2⟩;rw [List.takeWhile_cons_of_pos (p:=fun c=>c != 32) e,<-i1]
def kwAt (l:Ac):Bool:=match l with
 | []=>true
 | c::r=>if c==32&&r.contains 32 then kwL.contains (r.takeWhile (fun c=>c != 32))||((r.takeWhile (fun c=>c != 32)) == []) else true
theorem kw_all:(List.range 200).all (fun j=>kwAt (lR.drop j))=true:=by kernel_rfl
theorem kw_len:lR.length<=199:=Ec (by kernel_rfl)
theorem kw_back:kwL.all (fun w=>Lib.contains lR ([32]++w ++ [32]) && !(w == []) && !(w.contains 32))=true:=by kernel_rfl
theorem key_eq (s:Ac):Ro s=keyR s:=by
  rw [Bool.eq_iff_iff,keyR_mem];unfold Ro;simp only [Ce,A2]
  constructor
  . rintro ⟨⟨h1,h2⟩,h3⟩
    have hn:32∉s:=fun h=>by rw [(bU s 32).2 h] at h2;cases h2
    obtain ⟨j,hj,ho⟩:=(bT _ _).1 h3;have hk:=F3.1 kw_all j (Lk.2 (by have:=kw_len;omega));unfold Lib.occAt at ho;generalize lR.drop j=l at ho hk;cases l with
    | nil=>cases ho
    | cons b t=>
      simp only [Cp,Cv,List.isPrefixOf,Ce,beq_iff_eq] at ho;obtain ⟨rfl,ho⟩:=ho;obtain ⟨i1,i2⟩:=yD s t hn ho;unfold kwAt at hk;have e:t.contains 32=true:=by simpa using i2
      simp only [e,<-i1] at hk;have e0:((32:UInt8)==32&&true)=true:=rfl;rw [e0,if_pos rfl,h1,Sl] at hk;simpa using hk
  . intro h
    have:=F3.1 kw_back s h;simp only [Ce,A2] at this;obtain ⟨⟨k1,k2⟩,k3⟩:=this;refine ⟨⟨k2,?_⟩,k1⟩;rw [zqal52];intro h;rw [bU] at h;have:s.contains 32=true:=by simpa using h
    rw [this] at k3;cases k3
theorem idx_any (p:UInt8->Bool):∀s:Ac,decide (0<=L7 p s)=s.any p
  | []=>rfl
  | c :: r => by
    have ih:=idx_any p r;rw [O5,<-ih,L7];cases p c with
    | true=>rfl
    | false=>
      by_cases h:L7 p r = -1
      . rw [if_neg (by decide),if_pos h,h];rfl
      . rw [if_neg (by decide),if_neg h,Ky]
        refine decide_eq_decide.2 ?_
        have:∀s:Ac,-1<=L7 p s:=by
          intro s
          induction s with
          | nil=>exact D6 _
          | cons c r ih=>
            unfold L7;split
            . decide
            . split
              . decide
              omega
        have:=this r;omega
theorem nI (p:UInt8->Bool):∀s:Ac,decide (Bd p s=s.length)=s.all p
  | []=>rfl
  | c::r=>by
    have ih:=nI p r;rw [Kx,<-ih,Bd];cases p c with
    | true=>rw [if_pos rfl,Gu,A8];exact decide_eq_decide.2 (by omega)
    | false=>rw [if_neg (by decide),O6,A8];exact Gc (by omega)
theorem tF (c:UInt8):(C6 c&&A5 c)=false:=by
 have:=N4 (p:=fun c=>(C6 c&&A5 c)==false) (by kernel_rfl) c;exact eq_of_beq this
theorem name_eq (s:Ac):Ib s=nameR s:=by
  unfold Ib nameR;rw [key_eq,idx_any];cases s with
  | nil=>rfl
  | cons c r=>
    have hb:bt (c::r) 0=c:=rfl
    have hs:((Bd E4 (c::r):Int) != ((c::r).length:Int))=(c::r).any tM:=by
      have h:=nI E4 (c::r)
      have h2:(c::r).any tM = !((c::r).all E4):=by
        have:tM=fun c=>!(E4 c):=by funext c;unfold tM E4;rw [Bool.not_or]
        rw [this,<-List.not_all_eq_any_not]
      rw [h2,<-h,Bool.eq_iff_iff,bne_iff_ne,A2,Jh];omega
    rw [hs,hb,O5];have ho:tM c=(!C6 c && !A5 c):=rfl;rw [ho];have hld:=tF c;generalize keyR (c::r)=K;generalize decide (24<((c::r).length:Int))=A;have e0:(c::r == [])=false:=rfl;rw [e0];generalize r.any tM=O;generalize C6 c=L at *;generalize A5 c=D at *
    revert hld
    cases K <;> cases A <;> cases O <;> cases L <;> cases D <;> decide
theorem mW (c:UInt8):1<=(Hl c).length/\(Hl c).length<=4:=by
 have:=N4 (p:=fun c=>decide (1<=(Hl c).length/\(Hl c).length<=4)) (by kernel_rfl) c;exact Ec this
theorem Vu:∀s:Ac,s.length<=(Bw s).length/\(Bw s).length<=4*s.length
  | []=>⟨Be _,Be _⟩
  | c::r=>by
    have h1:=mW c;have h2:=Vu r;rw [Bw,Al,A8];omega
def backB (c:UInt8)(w:Ac):Bool:=
 if ((bt w 0).toNat:Int)==92 then (Kg w).2==(w.length:Int)&&(Kg w).1==c else w == [c] && !(((c.toNat:Int)==34)) && !(decide ((c.toNat:Int)<32)||decide (126<(c.toNat:Int)))
theorem back_ok (c:UInt8):backB c (Hl c)=true:=N4 (p:=fun c=>backB c (Hl c)) (by kernel_rfl) c
theorem Yl {u v:Ac}{i:Nat}(h:i<u.length):bt (u++v) i=bt u i:=by
 simp only [bt,Dm];rw [List.getElem?_append_left h]
theorem pL {u v:Ac}(h:(Kg u).2≠0):Kg (u++v)=Kg u:=by
  have hl:((u++v).length:Int)=(u.length:Int)+(v.length:Int):=by rw [Al];omega
  unfold Kg at h ⊢;by_cases h2:(2:Int)<=(u.length:Int)
  . have e1:decide ((2:Int)<=(u.length:Int))=true:=Gt h2
    have e2:decide ((2:Int)<=((u++v).length:Int))=true:=Gt (by omega);rw [e1] at h ⊢;rw [e2,Yl (show 1<u.length by omega)];cases hB:(((bt u 1).toNat:Int)==34||((bt u 1).toNat:Int)==92) with
    | true=>rfl
    | false=>
      rw [hB] at h;simp only [Gu,Ah,↓reduceIte] at h ⊢;by_cases h4:(4:Int)<=(u.length:Int)
      . have e3:decide ((4:Int)<=(u.length:Int))=true:=Gt h4
        have e4:decide ((4:Int)<=((u++v).length:Int))=true:=Gt (by omega);rw [e3,e4,Yl (show 2<u.length by omega),Yl (show 3<u.length by omega)]
      . have e3:decide ((4:Int)<=(u.length:Int))=false:=Gc h4
        rw [e3] at h;exact absurd rfl h
  . have e1:decide ((2:Int)<=(u.length:Int))=false:=Gc h2
    have e3:decide ((4:Int)<=(u.length:Int))=false:=Gc (by omega);rw [e1,e3] at h;exact absurd rfl h
theorem bt_mid (p:Ac)(c:UInt8)(v:Ac):bt (p++c::v) p.length=c:=by
 simp [bt,Dm]
theorem gV (rest:Ac):∀(r p b:Ac) (n:Nat),r.length<n->(b++r).length<=64->
    Fz (p++(Bw r++34::rest)) n p.length b=Xf 2 (b++r) ((p.length:Int)+((Bw r).length:Int)+1)
  | [],p,b,n,hn,hb=>by
    obtain ⟨m,rfl⟩:∃m,n=m+1:=⟨n-1,by simp at hn;omega⟩;rw [Nr,Bw,Cv,bt_mid];have e1:decide ((p.length:Int)<((p++34::rest).length:Int))=true:=Gt (by rw [Al,A8];omega);have e2:(((34:UInt8).toNat:Int)==34)=true:=rfl;have e3:decide (64<(b.length:Int))=false:=Gc (by simp at hb;omega);rw [e1,e2,e3,A1];simp
  | c::r,p,b,n,hn,hb=>by
    obtain ⟨m,rfl⟩:∃m,n=m+1:=⟨n-1,by simp at hn;omega⟩;have hk:=back_ok c;have hlen:=mW c;have hlr:(Hl c++Bw r).length=(Hl c).length+(Bw r).length:=Al ..
    have ih:∀b',b'=b ++ [c]->Fz ((p++Hl c)++(Bw r++34::rest)) m (p++Hl c).length b'=Xf 2 (b'++r) (((p++Hl c).length:Int)+((Bw r).length:Int)+1):=fun b' e=>
      gV rest r (p++Hl c) b' m (by simp at hn;omega) (by subst e;simpa [T2,Nat.add_comm 1] using hb)
    have ih:=ih _ rfl;have eb:(b ++ [c])++r=b++c::r:=by simp
    rw [eb] at ih;rw [Bw,C4,<-C4 p]
    have ep:((p++Hl c).length:Int)+((Bw r).length:Int)+1=(p.length:Int)+((Hl c++Bw r).length:Int)+1:=by
      rw [hlr,Al];omega
    rw [ep] at ih;rw [<-ih,Nr];generalize hq:Hl c=q at *
    obtain ⟨x,q',rfl⟩:∃x q',q=x::q':=by
      cases q with
      | nil=>simp at hlen
      | cons x q'=>exact ⟨x,q',rfl⟩
    have e0:bt ((p++x::q')++(Bw r++34::rest)) p.length=x:=by
      rw [C4,Cp,bt_mid]
    have e1:decide ((p.length:Int)<(((p++x::q')++(Bw r++34::rest)).length:Int))=true:=Gt (by simp only [Al,A8];omega)
    have ed:((p++x::q')++(Bw r++34::rest)).drop p.length=(x::q')++(Bw r++34::rest):=by
      rw [C4,List.drop_left]
    rw [e0,e1,ed];simp only [↓reduceIte];unfold backB at hk;have hx0:bt (x::q') 0=x:=rfl;rw [hx0] at hk;cases h92:((x.toNat:Int)==92) with
    | true=>
      rw [h92] at hk;simp only [↓reduceIte,Ce,beq_iff_eq] at hk;obtain ⟨k1,k2⟩:=hk
      have h34:((x.toNat:Int)==34)=false:=by
        rw [Hz];rw [beq_iff_eq] at h92;omega
      have hne:(Kg (x::q')).2≠0:=by rw [k1,A8];omega
      rw [pL hne,h34,k1,k2];have e5:(((x::q').length:Int)==0)=false:=by rw [Hz,A8];omega
      rw [e5];simp only [Ah,↓reduceIte];have e6:((x::q').length:Int).toNat=(x::q').length:=Ma _;rw [e6,<-Al]
    | false=>
      rw [h92] at hk;simp only [Ah,↓reduceIte,Ce,beq_iff_eq,A2] at hk;obtain ⟨⟨k1,k2⟩,k3⟩:=hk;have kx:x=c:=(List.cons.inj k1).1;have kq:q' = []:=(List.cons.inj k1).2;subst kx kq;rw [k2,k3];simp only [Ah,↓reduceIte];rw [Al,E6]
theorem mB (s rest:Ac)(hs:s.length<=64):By (34::(Bw s++34::rest))=Xf 2 s (((Bw s).length:Int)+2):=by
 have hb:bt (34::(Bw s++34::rest)) 0=34:=rfl;have hn:Lq (34::(Bw s++34::rest))=foZ:=by unfold Lq;rw [hb];rfl
 have hm:Gy (34::(Bw s++34::rest))=foZ:=by
  unfold Gy;have:Bd A5 (34::(Bw s++34::rest))=0:=by rw [Bd];rfl
  rw [this];rfl
 have hl:Mq (34::(Bw s++34::rest))=Xf 2 s (((Bw s).length:Int)+2):=by
  unfold Mq;rw [hb];have e:(((34:UInt8).toNat:Int) != 34)=false:=rfl;rw [e];have h:=gV rest s [34] [] ((34::(Bw s++34::rest)).length+1) (by have:=(Vu s).1;simp only [Al,A8];omega) (by simpa using hs)
  have e2:(((([34]:Ac)).length:Int)+((Bw s).length:Int)+1)=((Bw s).length:Int)+2:=by
   have:((([34]:Ac)).length:Int)=1:=rfl;rw [this];omega
  rw [e2] at h;exact h
 unfold By;have hz:M0 foZ=false:=rfl;rw [hn,hm,hl,hz];simp only [Ah,↓reduceIte];rw [if_pos (sW (by omega))]
theorem Qk {u:Ac}(h:C6 (bt u 0)=true)(h0:0<u.length):By u=if decide (24<(Bd E4 u:Int)) then Lp 0 8 else Xf 0 (u.take (Bd E4 u)) (Bd E4 u):=by
 have hp:0<Bd E4 u:=by
  have:=Uv (p:=E4) (s:=u) (k:=0) h0 (by unfold E4;rw [h];rfl);simpa using this
 have hn:Lq u=if decide (24<(Bd E4 u:Int)) then Lp 0 8 else Xf 0 (u.take (Bd E4 u)) (Bd E4 u):=by unfold Lq;rw [h];rfl
 have hh:M0 (Lq u)=true:=by
  rw [hn];split
  . exact sV (by decide)
  exact sW (by omega)
 unfold By;rw [hh,hn];rfl
theorem fG {u:Ac}(h:C6 (bt u 0)=false):Lq u=foZ:=by unfold Lq;rw [h];rfl
theorem Uo {u:Ac}(h1:C6 (bt u 0)=false)(h:A5 (bt u 0)=true)(h0:0<u.length):By u =
  if ((Tu (u.take (Bd A5 u))).2 != 0) then Lp 0 (Tu (u.take (Bd A5 u))).2
  else if (decide ((Bd A5 u:Int)<(u.length:Int))&&C6 (bt u (Bd A5 u))) then Lp (Bd A5 u) 4
  else Xf 1 (u.take (Bd A5 u)) (Bd A5 u):=by
 have hp:0<Bd A5 u:=by
  have:=Uv (p:=A5) (s:=u) (k:=0) h0 h;simpa using this
 have hn:Gy u=if ((Tu (u.take (Bd A5 u))).2 != 0) then Lp 0 (Tu (u.take (Bd A5 u))).2
  else if (decide ((Bd A5 u:Int)<(u.length:Int))&&C6 (bt u (Bd A5 u))) then Lp (Bd A5 u) 4
  else Xf 1 (u.take (Bd A5 u)) (Bd A5 u):=by
  unfold Gy;have e:((Bd A5 u:Int)==0)=false:=by rw [Hz];omega
  rw [e];rfl
 have hh:M0 (Gy u)=true:=by
  rw [hn];split
  . rename_i h;exact sV (by simpa using h)
  split
  . exact sV (by decide)
  exact sW (by omega)
 unfold By;rw [fG h1,hh,hn];rfl
theorem xU {u:Ac}(h:A5 (bt u 0)=false)(h0:0<u.length):Gy u=foZ:=by
 unfold Gy
 have:Bd A5 u=0:=by
  obtain ⟨c,r,rfl⟩:∃c r,u=c::r:=by cases u with | nil=>cases h0 | cons c r=>exact ⟨c,r,rfl⟩
  rw [Bd,if_neg (by rw [show A5 c=false from h];decide)]
 rw [this];rfl
theorem cR {u:Ac}(h:(((bt u 0).toNat:Int)==34)=true)(h0:0<u.length):By u=if M0 (Fz u (u.length+1) 1 []) then Fz u (u.length+1) 1 [] else Ni u:=by
 have hq:=quote_byte h
 have hl:Mq u=Fz u (u.length+1) 1 []:=by
  unfold Mq;have e:(((bt u 0).toNat:Int) != 34)=false:=by simp only [bne,h];rfl
  rw [e];rfl
 unfold By;rw [fG hq.1,xU hq.2 h0,hl];rfl
theorem Mm {u:Ac}(h1:C6 (bt u 0)=false)(h2:A5 (bt u 0)=false)(h3:(((bt u 0).toNat:Int)==34)=false)(h0:0<u.length):By u=Ni u:=by
 have hl:Mq u=foZ:=by
  unfold Mq;have e:(((bt u 0).toNat:Int) != 34)=true:=by simp only [bne,h3];rfl
  rw [e];rfl
 unfold By;rw [fG h1,xU h2 h0,hl];rfl
def Ph (w:Ac):Prop:=∀c r,w=c::r->E4 c=false/\c≠61
theorem Ph.cons {c:UInt8}{r:Ac}(h:E4 c=false)(h2:c≠61):Ph (c::r):=fun _ _ e=>by
 rw [<-(List.cons.inj e).1];exact ⟨h,h2⟩
theorem Uu {p:UInt8->Bool}{w:Ac}(hw:∀c r,w=c::r->p c=false):∀u:Ac,Bd p (u++w)=Bd p u
  | []=>by
    cases w with
    | nil=>rfl
    | cons c r=>
      show (if p c then Bd p r+1 else 0)=0;rw [hw c r rfl];rfl
  | c::r=>by
    rw [Cp,Bd,Bd,Uu hw r]
theorem jO {c:UInt8}(h:E4 c=false):C6 c=false/\A5 c=false:=by
 unfold E4 at h;rw [Ey] at h;exact h
theorem vI {u w:Ac}:bt (u++w) u.length=bt w 0:=by
 simp only [bt,Dm];rw [List.getElem?_append_right (Be _),Nat.sub_self]
theorem take_left' {u w:Ac}{n:Nat}(h:n<=u.length):(u++w).take n=u.take n:=jP h
theorem lX {u w:Ac}:∀(n m i:Nat) (b:Ac),(Fz u n i b).err=0->n<=m->Fz (u++w) m i b=Fz u n i b
  | 0,m,i,b,h,_=>by simp [Fz,Lp] at h
  | n+1,m,i,b,h,hm=>by
    obtain ⟨m,rfl⟩:∃m',m=m'+1:=⟨m-1,by omega⟩;rw [Nr] at h ⊢;rw [Nr];by_cases hi:i<u.length
    . have e1:decide ((i:Int)<(u.length:Int))=true:=Gt (by omega)
      have e2:decide ((i:Int)<((u++w).length:Int))=true:=Gt (by rw [Al];omega);rw [e1] at h ⊢;rw [e2,Yl hi];simp only [↓reduceIte] at h ⊢;cases h34:(((bt u i).toNat:Int)==34) with
      | true=>rfl
      | false=>
        rw [h34] at h;simp only [Ah,↓reduceIte] at h ⊢;cases h92:(((bt u i).toNat:Int)==92) with
        | true=>
          rw [h92] at h;simp only [↓reduceIte] at h ⊢;rw [List.drop_append_of_le_length (by omega)];by_cases he:(Kg (u.drop i)).2=0
          . rw [he] at h;exact absurd h (by simp [Lp])
          . rw [pL he]
            have e3:((Kg (u.drop i)).2==0)=false:=by rw [Hz];exact he
            rw [e3] at h ⊢;simp only [Ah,↓reduceIte] at h ⊢;exact lX n m _ _ h (by omega)
        | false=>
          rw [h92] at h;simp only [Ah,↓reduceIte] at h ⊢;cases hr:(decide (((bt u i).toNat:Int)<32)||decide (126<((bt u i).toNat:Int))) with
          | true=>rw [hr] at h;exact absurd h (by simp [Lp])
          | false=>
            rw [hr] at h;simp only [Ah,↓reduceIte] at h ⊢;exact lX n m _ _ h (by omega)
    . have e1:decide ((i:Int)<(u.length:Int))=false:=Gc (by omega)
      rw [e1] at h;exact absurd h (by simp [Lp])
theorem Is (c:UInt8)(r:Ac):Ni (c::r)=match Lf c (Lib.hasPrefix r [61]) with | none=>Lp 0 4 | some x=>Xf 3 x x.length:=nF c r qX (by decide)
theorem yG {r w:Ac}(hw:Ph w):Lib.hasPrefix (r++w) [61]=Lib.hasPrefix r [61]:=by
  cases r with
  | nil=>
    cases w with
    | nil=>rfl
    | cons c w=>
      have h:=(hw c w rfl).2;show ((61:UInt8)==c&&([]:Ac).isPrefixOf w)=false;have e:((61:UInt8)==c)=false:=by rw [Hz];exact fun e=>h e.symm
      rw [e];rfl
  | cons c r=>simp [Lib.hasPrefix,List.isPrefixOf]
theorem qK {u w:Ac}(hw:Ph w)(h0:0<u.length)(he:(By u).err=0):By (u++w)=By u:=by
  have h0':0<(u++w).length:=by rw [Al];omega
  have hb:bt (u++w) 0=bt u 0:=Yl h0;have sw:Bd E4 (u++w)=Bd E4 u:=Uu (fun c r e=>(hw c r e).1) u;have sd:Bd A5 (u++w)=Bd A5 u:=Uu (fun c r e=>(jO (hw c r e).1).2) u;cases h1:C6 (bt u 0) with
  | true=>rw [Qk h1 h0,Qk (by rw [hb];exact h1) h0',sw,take_left' (Kc _ _)]
  | false=>
    cases h2:A5 (bt u 0) with
    | true=>
      rw [Uo h1 h2 h0] at he ⊢;rw [Uo (by rw [hb];exact h1) (by rw [hb];exact h2) h0',sd,take_left' (Kc _ _)]
      have e:(decide ((Bd A5 u:Int)<((u++w).length:Int))&&C6 (bt (u++w) (Bd A5 u)))=(decide ((Bd A5 u:Int)<(u.length:Int))&&C6 (bt u (Bd A5 u))):=by
        have hle:=Kc A5 u;by_cases hs:Bd A5 u<u.length
        . have e1:decide ((Bd A5 u:Int)<((u++w).length:Int))=true:=Gt (by rw [Al];omega)
          have e2:decide ((Bd A5 u:Int)<(u.length:Int))=true:=Gt (by omega);rw [e1,e2,Yl hs]
        . have hs2:Bd A5 u=u.length:=by omega
          have e2:decide ((u.length:Int)<(u.length:Int))=false:=Gc (by omega);rw [hs2,e2,vI,O6];cases w with
          | nil=>rw [A1,e2];rfl
          | cons c w=>
            have:C6 (bt (c::w) 0)=false:=(jO (hw c w rfl).1).1;rw [this,Su]
      rw [e]
    | false=>
      cases h3:(((bt u 0).toNat:Int)==34) with
      | true=>
        rw [cR h3 h0] at he ⊢;rw [cR (by rw [hb];exact h3) h0'];by_cases hh:M0 (Fz u (u.length+1) 1 [])=true
        . rw [if_pos hh] at he ⊢
          have:=lX (w:=w) (u.length+1) ((u++w).length+1) 1 [] he (by rw [Al];omega);rw [this,if_pos hh]
        . exfalso
          rw [if_neg hh] at he;obtain ⟨c,r,rfl⟩:∃c r,u=c::r:=by cases u with | nil=>cases h0 | cons c r=>exact ⟨c,r,rfl⟩
          rw [Is] at he
          have hc:c=34:=by
            have:=N4 (p:=fun c=>decide (((c.toNat:Int)==34)=true->c=34)) (by kernel_rfl) c;exact (Ec this) h3
          subst hc
          revert he
          cases Lib.hasPrefix r [61] with
          | true=>intro he;exact absurd he (by decide)
          | false=>intro he;exact absurd he (by decide)
      | false=>
        rw [Mm h1 h2 h3 h0,Mm (by rw [hb];exact h1) (by rw [hb];exact h2) (by rw [hb];exact h3) h0'];obtain ⟨c,r,rfl⟩:∃c r,u=c::r:=by cases u with | nil=>cases h0 | cons c r=>exact ⟨c,r,rfl⟩
        rw [Cp,Is,Is,yG hw]
inductive Sc (s:Ac):Nat->List Tok->Nat->Prop
 | nil (i:Nat):Sc s i [] i
 | sep {i:Nat} {l:List Tok} {j:Nat} (hi:i<s.length) (h:0<Jw (s.drop i)) (hr:Sc s (i+(Jw (s.drop i)).toNat) l j):Sc s i l j
 | tok {i:Nat} {l:List Tok} {j:Nat} (hi:i<s.length) (h:Jw (s.drop i)=0) (he:(By (s.drop i)).err=0) (hr:Sc s (i+(By (s.drop i)).bytes.toNat) l j):Sc s i (⟨(By (s.drop i)).tok.kind,(By (s.drop i)).tok.text,i⟩::l) j
theorem Sc.trans {s:Ac}{i:Nat}{l:List Tok}{j:Nat}(h:Sc s i l j){m:List Tok}{k:Nat}(h2:Sc s j m k):Sc s i (l++m) k:=by
 induction h with
 | nil i=>exact h2
 | sep hi hs hr ih=>exact .sep hi hs (ih h2)
 | tok hi hs he hr ih=>exact .tok hi hs he (ih h2)
theorem Sc.of_scan {s:Ac}:∀(n i:Nat) (out:List Tok),i<=s.length->s.length<n+i->(Ks s n i out).2.2=0->∃l,Ks s n i out=(out++l,0,0)/\Sc s i l s.length
  | 0,i,out,h1,h2,_=>by omega
  | n+1,i,out,h1,h2,h=>by
    rw [Tg] at h ⊢;by_cases hi:i<s.length
    . rw [tD hi] at h ⊢
      simp only [↓reduceIte] at h ⊢;have hs:=uB (s.drop i);have hn:=Y5 (s.drop i) (by rw [Eh];omega);rw [Eh] at hs hn;have hs2:=hs.2 (by omega);by_cases hp:0<Jw (s.drop i)
      . have e:decide (0<Jw (s.drop i))=true:=Gt hp
        rw [e] at h ⊢;simp only [↓reduceIte] at h ⊢;obtain ⟨l,k1,k2⟩:=Sc.of_scan n _ out (by omega) (by omega) h;exact ⟨l,k1,.sep hi hp k2⟩
      . have e:decide (0<Jw (s.drop i))=false:=Gc hp
        rw [e] at h ⊢;simp only [Ah,↓reduceIte] at h ⊢;by_cases he:(By (s.drop i)).err=0
        . have e2:((By (s.drop i)).err != 0)=false:=by rw [he];rfl
          have hpos:=hn.2.2.2.2 he;rw [e2] at h ⊢;simp only [Ah,↓reduceIte] at h ⊢;obtain ⟨l,k1,k2⟩:=Sc.of_scan n _ _ (by omega) (by omega) h;refine ⟨_,?_,.tok hi (by omega) he k2⟩;rw [k1,C4];rfl
        . have e2:((By (s.drop i)).err != 0)=true:=by simpa using he
          rw [e2] at h;exact absurd h he
    . have e:decide ((i:Int)<(s.length:Int))=false:=Gc (by omega)
      have hil:i=s.length:=by omega
      rw [e];exact ⟨[],by simp,hil▸.nil _⟩
theorem Sc.scan {s:Ac}{i:Nat}{l:List Tok}{j:Nat}(h:Sc s i l j):∀(n:Nat) (out:List Tok),j=s.length->i<=s.length->s.length<n+i->Ks s n i out=(out++l,0,0):=by
  induction h with
  | nil i=>
    rintro n out rfl h1 h2;obtain ⟨m,rfl⟩:∃m,n=m+1:=⟨n-1,by omega⟩;have e:decide ((s.length:Int)<(s.length:Int))=false:=Gc (by omega);rw [Tg,e];simp
  | @sep i l j hi hs hr ih=>
    rintro n out rfl h1 h2;obtain ⟨m,rfl⟩:∃m,n=m+1:=⟨n-1,by omega⟩;have hs1:=uB (s.drop i);rw [Eh] at hs1;have hs2:=hs1.2 (by omega);rw [Tg,tD hi,Gt hs];exact ih m out rfl (by omega) (by omega)
  | @tok i l j hi hs he hr ih=>
    rintro n out rfl h1 h2;obtain ⟨m,rfl⟩:∃m,n=m+1:=⟨n-1,by omega⟩;have hn:=Y5 (s.drop i) (by rw [Eh];omega);rw [Eh] at hn;have hpos:=hn.2.2.2.2 he;have e2:((By (s.drop i)).err != 0)=false:=by rw [he];rfl
    have e:decide (0<Jw (s.drop i))=false:=Gc (by omega);rw [Tg,tD hi,e,e2];simp only [Ah,↓reduceIte];rw [ih m _ rfl (by omega) (by omega),C4];rfl
theorem tZ {s:Ac}(h:(Cy s).2.2=0):(Cy s).2.1=0/\Sc s 0 (Cy s).1 s.length:=by
  unfold Cy at h ⊢;cases e:decide (65536<(s.length:Int)) with
  | true=>rw [e] at h;exact absurd h (by simp)
  | false=>
    rw [e] at h;simp only [Ah,↓reduceIte] at h ⊢;obtain ⟨l,k1,k2⟩:=Sc.of_scan _ _ _ (Bk _) (by omega) h;rw [k1];exact ⟨rfl,k2⟩
theorem sc_scan {s:Ac}{l:List Tok}(hl:s.length<=65536)(h:Sc s 0 l s.length):Cy s=(l,0,0):=by
 unfold Cy;rw [Gc (show ¬(65536:Int)<(s.length:Int) by omega)];exact h.scan _ _ rfl (Bk _) (by omega)
def shT (d:Nat)(t:Tok):Tok:=⟨t.kind,t.text,t.pos+(d:Int)⟩
theorem Sc.shift (p:Ac){s:Ac}{i:Nat}{l:List Tok}{j:Nat}(h:Sc s i l j):Sc (p++s) (p.length+i) (l.map (shT p.length)) (p.length+j):=by
  have hd:∀i,(p++s).drop (p.length+i)=s.drop i:=fun i=>by rw [List.drop_append];simp
  induction h with
  | nil i=>exact .nil _
  | @sep i l j hi hs hr ih=>
    refine .sep (by rw [Al];omega) (by rw [hd];exact hs) ?_;rw [hd,T2];exact ih
  | @tok i l j hi hs he hr ih=>
    have:=Sc.tok (s:=p++s) (i:=p.length+i) (l:=l.map (shT p.length)) (j:=p.length+j) (by rw [Al];omega) (by rw [hd];exact hs) (by rw [hd];exact he) (by rw [hd,T2];exact ih);rw [hd] at this
    have e:shT p.length ⟨(By (s.drop i)).tok.kind,(By (s.drop i)).tok.text,i⟩=⟨(By (s.drop i)).tok.kind,(By (s.drop i)).tok.text,((p.length+i:Nat):Int)⟩:=by
      unfold shT;simp only [Tok.mk.injEq,true_and];omega
    rw [Ao,e];exact this
theorem dG {c:UInt8}{r:Ac}(h:c≠35):Jw (c::r)=if decide (0<=Lib.indexByte [32,9,13,10] c) then 1 else 0:=by
 unfold Jw
 have e:(((bt (c::r) 0).toNat:Int)==35)=false:=by
  have:=N4 (p:=fun c=>decide (c≠35->((c.toNat:Int)==35)=false)) (by kernel_rfl) c;exact (Ec this) h
 rw [e];rfl
theorem zI {u w:Ac}(h:35∉u)(h0:0<u.length):Jw (u++w)=Jw u:=by
 obtain ⟨c,r,rfl⟩:∃c r,u=c::r:=by cases u with | nil=>cases h0 | cons c r=>exact ⟨c,r,rfl⟩
 have hc:c≠35:=fun e=>h (by simp [e])
 rw [Cp,dG hc,dG hc]
theorem Sc.left {u:Ac}{w:Ac}(hw:Ph w)(hn:35∉u){i:Nat}{l:List Tok}{j:Nat}(h:Sc u i l j):Sc (u++w) i l j:=by
  induction h with
  | nil i=>exact .nil _
  | @sep i l j hi hs hr ih=>
    have hd:(u++w).drop i=u.drop i++w:=List.drop_append_of_le_length (by omega);have e:Jw ((u++w).drop i)=Jw (u.drop i):=by rw [hd];exact zI (fun h=>hn (Wd h)) (by rw [Eh];omega)
    exact .sep (by rw [Al];omega) (by rw [e];exact hs) (by rw [e];exact ih)
  | @tok i l j hi hs he hr ih=>
    have hd:(u++w).drop i=u.drop i++w:=List.drop_append_of_le_length (by omega);have h0:0<(u.drop i).length:=by rw [Eh];omega
    have e:Jw ((u++w).drop i)=Jw (u.drop i):=by rw [hd];exact zI (fun h=>hn (Wd h)) h0
    have e2:By ((u++w).drop i)=By (u.drop i):=by rw [hd];exact qK hw h0 he
    have:=Sc.tok (s:=u++w) (i:=i) (l:=l) (j:=j) (by rw [Al];omega) (by rw [e];exact hs) (by rw [e2];exact he) (by rw [e2];exact ih);rw [e2] at this;exact this
theorem zO {s:Ac}{i:Nat}{c:UInt8}{r:Ac}{l:List Tok}{j:Nat}(hd:s.drop i=c::r)(hc:c=32\/c=9\/c=13\/c=10)(h:Sc s (i+1) l j):Sc s i l j:=by
 have hi:i<s.length:=Nat.lt_of_not_le fun hge=>by rw [Ss hge] at hd;cases hd
 have e:Jw (s.drop i)=1:=by
  rw [hd];rcases hc with rfl | rfl | rfl | rfl <;> rfl
 exact .sep hi (by rw [e];decide) (by rw [e];exact h)
def Asc:Int->List Tok->Prop
 | _,[]=>True
 | x,t::r=>x<t.pos/\Asc t.pos r
def OkTok (s:Ac)(t:Tok):Prop:=0<=t.pos/\t.pos<(s.length:Int)/\(t.kind=2->bt s t.pos.toNat=34)/\(t.kind≠2->t.text≠[]/\Lib.hasPrefix (s.drop t.pos.toNat) t.text=true)
theorem yH (u:Ac)(n:Nat):Lib.hasPrefix u (u.take n)=true:=by
 unfold Lib.hasPrefix;rw [gG];exact List.take_prefix n u
theorem zM (c:UInt8)(two:Bool):∀x,Lf c two=some x->x≠[]/\(x = [c]\/two=true/\x = [c,61]):=by
 intro x h;rcases signV_N c two with ⟨h1,_⟩ | ⟨h0,h1,_⟩ | ⟨h1,_⟩
 . rw [h1] at h;cases h
 . rw [h1] at h;cases h;exact ⟨by simp,.inr ⟨h0,rfl⟩⟩
 rw [h1] at h;cases h;exact ⟨by simp,.inl rfl⟩
theorem mC {u:Ac}(h0:0<u.length)(he:(By u).err=0) :
    ((By u).tok.kind=2/\bt u 0=34/\By u=Fz u (u.length+1) 1 [])\/((By u).tok.kind≠2/\∃n,0<n/\n<=u.length/\(By u).bytes=(n:Int)/\(By u).tok.text=u.take n):=by
  cases h1:C6 (bt u 0) with
  | true=>
    have hp:0<Bd E4 u:=by
      have:=Uv (p:=E4) (s:=u) (k:=0) h0 (by unfold E4;rw [h1];rfl);simpa using this
    rw [Qk h1 h0] at he ⊢;cases hd:decide (24<(Bd E4 u:Int)) with
    | true=>rw [hd] at he;exact absurd he (by simp [Lp])
    | false=>exact .inr ⟨show (0:Int)≠2 by decide,Bd E4 u,hp,Kc _ _,rfl,rfl⟩
  | false=>
    cases h2:A5 (bt u 0) with
    | true=>
      have hp:0<Bd A5 u:=by
        have:=Uv (p:=A5) (s:=u) (k:=0) h0 h2;simpa using this
      rw [Uo h1 h2 h0] at he ⊢;cases hd:((Tu (u.take (Bd A5 u))).2 != 0) with
      | true=>rw [hd] at he;exact absurd he (by simpa [Lp] using hd)
      | false=>
        rw [hd] at he;simp only [Ah,↓reduceIte] at he ⊢;cases hd2:(decide ((Bd A5 u:Int)<(u.length:Int))&&C6 (bt u (Bd A5 u))) with
        | true=>rw [hd2] at he;exact absurd he (by simp [Lp])
        | false=>exact .inr ⟨show (1:Int)≠2 by decide,Bd A5 u,hp,Kc _ _,rfl,rfl⟩
    | false=>
      obtain ⟨c,r,rfl⟩:∃c r,u=c::r:=by cases u with | nil=>cases h0 | cons c r=>exact ⟨c,r,rfl⟩
      have sgn:(Ni (c::r)).err=0->(Ni (c::r)).tok.kind≠2/\∃n,0<n/\n<=(c::r).length/\(Ni (c::r)).bytes=(n:Int)/\(Ni (c::r)).tok.text=(c::r).take n:=by
        intro he;rw [Is] at he ⊢;cases hv:Lf c (Lib.hasPrefix r [61]) with
        | none=>rw [hv] at he;exact absurd he (by decide)
        | some x=>
          refine ⟨show (3:Int)≠2 by decide,?_⟩;rcases zM c _ x hv with ⟨_,rfl | ⟨h,rfl⟩⟩
          . exact ⟨1,by decide,by simp,rfl,rfl⟩
          . unfold Lib.hasPrefix at h
            rw [gG] at h;obtain ⟨r',rfl⟩:=h;exact ⟨2,by decide,by simp,rfl,rfl⟩
      cases h3:(((bt (c::r) 0).toNat:Int)==34) with
      | true=>
        have hc:bt (c::r) 0=34:=by
          have:=N4 (p:=fun c=>decide (((c.toNat:Int)==34)=true->c=34)) (by kernel_rfl) (bt (c::r) 0);exact (Ec this) h3
        rw [cR h3 h0] at he ⊢;by_cases hh:M0 (Fz (c::r) ((c::r).length+1) 1 [])=true
        . rw [if_pos hh] at he ⊢
          have hk:∀(n i:Nat) (b:Ac),(Fz (c::r) n i b).err=0->(Fz (c::r) n i b).tok.kind=2:=by
            intro n
            induction n with
            | zero=>intro i b h;exact absurd h (by simp [Fz,Lp])
            | succ n ih=>
              intro i b h;rw [Nr] at h ⊢
              repeat' split
              all_goals first | rfl | skip
              all_goals (simp only [*,Ah,↓reduceIte] at h;first | exact ih _ _ h | exact absurd h (by simp [Lp]))
          exact .inl ⟨hk _ _ _ he,hc,rfl⟩
        . rw [if_neg hh] at he ⊢
          exact .inr (sgn he)
      | false=>
        rw [Mm h1 h2 h3 h0] at he ⊢;exact .inr (sgn he)
theorem Sc.stands {s:Ac}{i:Nat}{l:List Tok}{j:Nat}(h:Sc s i l j):∀x:Int,x<(i:Int)->Asc x l/\∀t∈l,OkTok s t:=by
  induction h with
  | nil i=>exact fun x _=>⟨trivial,fun _ h=>by cases h⟩
  | @sep i l j hi hs hr ih=>exact fun x hx=>ih x (by omega)
  | @tok i l j hi hs he hr ih=>
    intro x hx;have h0:0<(s.drop i).length:=by rw [Eh];omega
    have hn:=Y5 (s.drop i) h0;have hpos:=hn.2.2.2.2 he;obtain ⟨k1,k2⟩:=ih (i:Int) (by omega);refine ⟨⟨hx,k1⟩,fun t ht=>?_⟩;rcases Cu.1 ht with rfl | ht
    . have hb:bt (s.drop i) 0=bt s i:=by rw [bt_drop];rfl
      refine ⟨by simp only;omega,by simp only;omega,fun hk=>?_,fun hk=>?_⟩
      . rcases mC h0 he with ⟨_,h,_⟩ | ⟨h,_⟩
        . rw [hb] at h;exact h
        exact absurd hk h
      . rcases mC h0 he with ⟨h,_,_⟩ | ⟨_,n,h1,h2,h3,h4⟩
        . exact absurd h hk
        . simp only [Ma]
          rw [h4];refine ⟨fun e=>?_,yH _ _⟩;have:=congrArg List.length e;rw [Gv,Bn] at this;omega
    exact k2 t ht
def Ur (l:List Tok)(e:Int)(n:Nat):Int:=if decide ((n:Int)<(l.length:Int)) then (l.getD n Pw).pos else e
def Srt (l:List Tok)(e:Int):Prop:=∀n m,n<=m->Ur l e n<=Ur l e m/\Ur l e m<=e
def At (l:List Tok)(e d:Int)(st:PS):Prop:=st.toks=l/\st.fin=e/\st.depth=d/\0<=d/\d<=64
variable {l:List Tok} {e d:Int} {a b st:PS}
theorem At.off (h:At l e d st):D4 st=Ur l e st.pos:=by unfold D4 Ur jM;rw [h.1,h.2.1]
theorem At.next (h:At l e d a)(k:Bo a b):At l e d b:=⟨k.toks.trans h.1,k.fin.trans h.2.1,(k.dep (by unfold iQ;rw [h.2.2.1];exact h.2.2.2)).trans h.2.2.1,h.2.2.2⟩
theorem Bo.good (h:Bo a b)(hb:b.bad=0):a.bad=0:=Classical.byContradiction fun e=>e ((h.bad e).symm.trans hb)
theorem nest_bad (st:PS):((Gj st).bad != 0)=true\/Gj st=st/\st.bad=0:=by
  cases h:((Gj st).bad != 0) with
  | true=>exact .inl rfl
  | false=>
    refine .inr ?_;have h0:(Gj st).bad=0:=by simpa using h
    unfold Gj at h0 ⊢;split
    . rename_i hd
      rw [if_pos hd] at h0;exact absurd (Oi (e:=12) (by decide) st) (by rw [h0];decide)
    . rename_i hd
      rw [if_neg hd] at h0;exact ⟨rfl,h0⟩
theorem At.deep (h:At l e d st)(hd:d<64):At l e (d+1) (deep st):=⟨h.1,h.2.1,by
 show IntKind.i64.wrap (st.depth+1)=d+1;have:=h.2.2.2;rw [h.2.2.1];exact Tk (by omega) (by omega),by have:=h.2.2.2;omega,by omega⟩
theorem asc_lt:∀(l:List Tok) (x:Int),Asc x l->∀n,n<l.length->x<(l.getD n Pw).pos
 | [],_,_,n,h=>absurd h (Nat.not_lt_zero _)
 | t::r,x,h,0,_=>h.1
 | t::r,x,h,n+1,hn=>Int.lt_trans h.1 (asc_lt r t.pos h.2 n (by simpa using hn))
theorem vF:∀(l:List Tok) (x:Int),Asc x l->∀n m,n<=m->m<l.length->(l.getD n Pw).pos<=(l.getD m Pw).pos
 | [],_,_,n,m,_,h=>absurd h (Nat.not_lt_zero _)
 | t::r,x,h,0,0,_,_=>D6 _
 | t::r,x,h,0,m+1,_,hm=>Int.le_of_lt (asc_lt r t.pos h.2 m (by simpa using hm))
 | t::r,x,h,n+1,m+1,hn,hm=>vF r t.pos h.2 n m (by omega) (by simpa using hm)
theorem asc_srt {l:List Tok}{x e:Int}(h:Asc x l)(hx:∀t∈l,t.pos<=e):Srt l e:=by
 have top:∀m,Ur l e m<=e:=fun m=>by
  unfold Ur;split
  .
   rename_i hm;have hm:=Ec hm;have h2:m<l.length:=by omega
   have e1:l.getD m Pw=l[m]:=by simp [Dm,List.getElem?_eq_getElem h2]
   rw [e1];exact hx _ (X7 h2)
  exact D6 _
 intro n m hnm;refine ⟨?_,top m⟩;by_cases hm:m<l.length
 .
  unfold Ur;rw [if_pos (Gt (by omega)),if_pos (Gt (by omega))];exact vF l x h n m hnm hm
 have:Ur l e m=e:=by unfold Ur;rw [if_neg (by simp only [Cb];omega)]
 rw [this];exact top n
theorem scan_srt {s:Ac}(h:(Cy s).2.2=0):Srt (Cy s).1 s.length/\∀t∈(Cy s).1,0<=t.pos/\t.pos<=(s.length:Int):=by
 have hs:=(tZ h).2.stands (-1) (by decide);have hp:∀t∈(Cy s).1,0<=t.pos/\t.pos<=(s.length:Int):=fun t ht=>⟨(hs.2 t ht).1,Int.le_of_lt (hs.2 t ht).2.1⟩
 exact ⟨asc_srt hs.1 fun t ht=>(hp t ht).2,hp⟩
theorem mM {F:PS->Syn×PS}{s:Ac}(h:(Dh F s).2.2=0):(Cy s).2.2=0/\(F (Ht (Cy s).1 s.length)).2.bad=0/\(F (Ht (Cy s).1 s.length)).2.toks.length<=(F (Ht (Cy s).1 s.length)).2.pos/\Dh F s=((F (Ht (Cy s).1 s.length)).1,0,0):=by
 unfold Dh at h ⊢;by_cases h1:((Cy s).2.2 != 0)=true
 .
  rw [if_pos h1] at h;exact absurd h (by simpa using h1)
 rw [if_neg h1] at h ⊢;refine ⟨by simpa using h1,?_⟩;generalize F (Ht (Cy s).1 s.length)=r at h ⊢;unfold Ud at h ⊢;simp only at h ⊢;by_cases h2:decide ((r.2.pos:Int)<(r.2.toks.length:Int))=true
 .
  rw [if_pos h2,Oi (by decide),if_pos rfl] at h;exact absurd h (by have:=Oi (e:=4) (by decide) r.2;simpa using this)
 rw [if_neg h2] at h ⊢;by_cases h3:(r.2.bad != 0)=true
 .
  rw [if_pos h3] at h;exact absurd h (by simpa using h3)
 rw [if_neg h3];refine ⟨by simpa using h3,?_,rfl⟩;simp only [Cb] at h2;omega
def M9 (t:Tok):Ac:=if (t.kind != 2) then t.text else (Rz t.text).1
theorem fT (p:UInt8->Bool):∀u:Ac,Bd p (u.take (Bd p u))=Bd p u
  | []=>rfl
  | c::r=>by
    cases h:p c with
    | true=>
      have e:Bd p (c::r)=Bd p r+1:=by rw [Bd,if_pos h]
      rw [e,bH,Bd,if_pos h,fT p r]
    | false=>
      have e:Bd p (c::r)=0:=by rw [Bd,if_neg (by rw [h];decide)]
      rw [e];rfl
theorem rP {u:Ac}{n:Nat}(h:0<n):bt (u.take n) 0=bt u 0:=by
 obtain ⟨m,rfl⟩:∃m,n=m+1:=⟨n-1,by omega⟩;cases u <;> rfl
theorem sign_back:∀c:UInt8,(Lf c true=some [c]->Lf c false=some [c]):=by
 intro c;have:=N4 (p:=fun c=>decide (Lf c true=some [c]->Lf c false=some [c])) (by kernel_rfl) c;exact Ec this
theorem oJ (r:Ac):(Ni (34::r)).err≠0:=by
 rw [Is];cases Lib.hasPrefix r [61] <;> decide
theorem c34_of {c:UInt8}(h:((c.toNat:Int)==34)=true):c=34:=by
 have:=N4 (p:=fun c=>decide (((c.toNat:Int)==34)=true->c=34)) (by kernel_rfl) c;exact (Ec this) h
theorem lit_ok (s:Ac):∀(n i:Nat) (b:Ac),(Fz s n i b).err=0->∃(t:Ac) (m:Nat),Fz s n i b=Xf 2 t m/\t.length<=64/\t.length+i+1<=b.length+m
  | 0,i,b,h=>by simp [Fz,Lp] at h
  | n+1,i,b,h=>by
    rw [Nr] at h ⊢;cases h1:decide ((i:Int)<(s.length:Int)) with
    | false=>rw [h1] at h;exact absurd h (by simp [Lp])
    | true=>
      rw [h1] at h;simp only [↓reduceIte] at h ⊢;cases h2:(((bt s i).toNat:Int)==34) with
      | true=>
        rw [h2] at h;simp only [↓reduceIte] at h ⊢;cases h3:decide (64<(b.length:Int)) with
        | true=>rw [h3] at h;exact absurd h (by simp [Lp])
        | false=>
          simp only [Jh] at h3;exact ⟨b,i+1,by simp,by omega,by omega⟩
      | false=>
        rw [h2] at h;simp only [Ah,↓reduceIte] at h ⊢;cases h3:(((bt s i).toNat:Int)==92) with
        | true=>
          rw [h3] at h;simp only [↓reduceIte] at h ⊢;cases h4:((Kg (s.drop i)).2==0) with
          | true=>rw [h4] at h;exact absurd h (by simp [Lp])
          | false=>
            rw [h4] at h;simp only [Ah,↓reduceIte] at h ⊢;obtain ⟨t,m,k1,k2,k3⟩:=lit_ok s n _ _ h;rw [Al,E6] at k3
            have hge:0<(Kg (s.drop i)).2.toNat:=by
              have e:(Kg (s.drop i)).2≠0:=by simpa using h4
              unfold Kg at e ⊢;split at e
              . rename_i q;rw [if_pos q];exact (by decide:0<(2:Int).toNat)
              . rename_i q
                rw [if_neg q];split at e
                . rename_i q2
                  rw [if_pos q2];split at e
                  . rename_i q3;rw [if_pos q3];exact (by decide:0<(4:Int).toNat)
                  exact absurd rfl e
                exact absurd rfl e
            exact ⟨t,m,k1,k2,by omega⟩
        | false=>
          rw [h3] at h;simp only [Ah,↓reduceIte] at h ⊢;cases h4:(decide (((bt s i).toNat:Int)<32)||decide (126<((bt s i).toNat:Int))) with
          | true=>rw [h4] at h;exact absurd h (by simp [Lp])
          | false=>
            rw [h4] at h;simp only [Ah,↓reduceIte] at h ⊢;obtain ⟨t,m,k1,k2,k3⟩:=lit_ok s n _ _ h;rw [Al,E6] at k3;exact ⟨t,m,k1,k2,by omega⟩
theorem next_take {u:Ac}(h0:0<u.length)(he:(By u).err=0) :
    (∃(t:Ac) (m:Nat),By u=Xf 2 t m/\t.length<=64/\t.length+2<=m)\/(∃(k:Int) (n:Nat),k≠2/\0<n/\n<=u.length/\By u=Xf k (u.take n) n/\By (u.take n)=Xf k (u.take n) n):=by
  have tl:∀n,n<=u.length->(u.take n).length=n:=fun n h=>by rw [Gv];omega
  cases h1:C6 (bt u 0) with
  | true=>
    have hp:0<Bd E4 u:=by
      have:=Uv (p:=E4) (s:=u) (k:=0) h0 (by unfold E4;rw [h1];rfl);simpa using this
    have hle:=Kc E4 u;rw [Qk h1 h0] at he ⊢;cases hd:decide (24<(Bd E4 u:Int)) with
    | true=>rw [hd] at he;exact absurd he (by simp [Lp])
    | false=>
      refine .inr ⟨0,Bd E4 u,by decide,hp,hle,rfl,?_⟩;rw [Qk (by rw [rP hp];exact h1) (by rw [tl _ hle];exact hp),fT,hd,List.take_take,Nat.min_self];rfl
  | false=>
    cases h2:A5 (bt u 0) with
    | true=>
      have hp:0<Bd A5 u:=by
        have:=Uv (p:=A5) (s:=u) (k:=0) h0 h2;simpa using this
      have hle:=Kc A5 u;rw [Uo h1 h2 h0] at he ⊢;cases hd:((Tu (u.take (Bd A5 u))).2 != 0) with
      | true=>rw [hd] at he;exact absurd he (by simpa [Lp] using hd)
      | false=>
        rw [hd] at he;simp only [Ah,↓reduceIte] at he ⊢;cases hd2:(decide ((Bd A5 u:Int)<(u.length:Int))&&C6 (bt u (Bd A5 u))) with
        | true=>rw [hd2] at he;exact absurd he (by simp [Lp])
        | false=>
          refine .inr ⟨1,Bd A5 u,by decide,hp,hle,rfl,?_⟩;rw [Uo (by rw [rP hp];exact h1) (by rw [rP hp];exact h2) (by rw [tl _ hle];exact hp),fT,List.take_take,Nat.min_self,hd,tl _ hle];have e:decide ((Bd A5 u:Int)<(Bd A5 u:Int))=false:=Gc (by omega);rw [e];rfl
    | false=>
      obtain ⟨c,r,rfl⟩:∃c r,u=c::r:=by cases u with | nil=>cases h0 | cons c r=>exact ⟨c,r,rfl⟩
      cases h3:(((bt (c::r) 0).toNat:Int)==34) with
      | true=>
        have hc:c=34:=c34_of h3;subst hc;rw [cR h3 h0] at he ⊢;by_cases hh:M0 (Fz (34::r) ((34::r).length+1) 1 [])=true
        . rw [if_pos hh] at he ⊢
          obtain ⟨t,m,k1,k2,k3⟩:=lit_ok _ _ _ _ he;rw [Bn] at k3;exact .inl ⟨t,m,k1,k2,by omega⟩
        . rw [if_neg hh] at he
          exact absurd he (oJ r)
      | false=>
        rw [Mm h1 h2 h3 h0] at he ⊢;rw [Is] at he ⊢;cases hv:Lf c (Lib.hasPrefix r [61]) with
        | none=>rw [hv] at he;exact absurd he (by decide)
        | some x=>
          rcases zM c _ x hv with ⟨_,rfl | ⟨h,rfl⟩⟩
          . refine .inr ⟨3,1,by decide,by decide,by simp,rfl,?_⟩
            rw [Mm (u:=(c::r).take 1) h1 h2 h3 (by simp)];show Ni [c]=_;rw [Is]
            have:Lf c (Lib.hasPrefix [] [61])=some [c]:=by
              cases hb:Lib.hasPrefix r [61] with
              | true=>rw [hb] at hv;exact sign_back c hv
              | false=>rw [hb] at hv;exact hv
            rw [this];rfl
          . have hv2:Lf c true=some [c,61]:=by rw [h] at hv;exact hv
            unfold Lib.hasPrefix at h;rw [gG] at h;obtain ⟨r',rfl⟩:=h;refine .inr ⟨3,2,by decide,by decide,by simp,rfl,?_⟩;rw [Mm (u:=(c::([61]++r')).take 2) h1 h2 h3 (by simp)];show Ni [c,61]=_;rw [Is];have:Lf c (Lib.hasPrefix [61] [61])=some [c,61]:=hv2;rw [this];rfl
theorem sep_zero {c:UInt8}{r:Ac}(r':Ac)(h:Jw (c::r)=0):Jw (c::r')=0:=by
 have hc:c≠35:=by
  rintro rfl;have:Jw (35::r)=(Bd xH (35::r):Int):=rfl;rw [this,Bd,if_pos (by decide)] at h;omega
 rw [dG hc] at h ⊢;exact h
def Mp (t:Tok)(n:Nat):Prop:=
 (∀rest,Ph rest->By (M9 t++rest)=Xf t.kind t.text (M9 t).length)/\(∀rest,Jw (M9 t++rest)=0)/\0<(M9 t).length/\(M9 t).length<=4*n/\t.text.length<=n
theorem good_next {u:Ac}(h0:0<u.length)(hs:Jw u=0)(he:(By u).err=0)(i:Int):Mp ⟨(By u).tok.kind,(By u).tok.text,i⟩ (By u).bytes.toNat:=by
 rcases next_take h0 he with ⟨t,m,h1,h2,h3⟩ | ⟨k,n,hk,hp,hn,h1,h2⟩
 .
  rw [h1]
  have hw:M9 ⟨2,t,i⟩=34::(Bw t++34 :: []):=by
   unfold M9 Rz;have e:decide (64<(t.length:Int))=false:=Gc (by omega);simp only [e];simp
  have hq:=Vu t;show Mp ⟨2,t,i⟩ ((m:Int)).toNat;unfold Mp;rw [hw];have hl:(34::(Bw t++34 :: [])).length=(Bw t).length+2:=by simp
  refine ⟨fun rest _=>?_,fun rest=>rfl,by rw [hl];omega,by rw [hl];omega,by simp only;omega⟩;have:=mB t rest h2;rw [hl];have e:34::(Bw t++34 :: [])++rest=34::(Bw t++34::rest):=by simp
  rw [e,this]
  congr 1
 rw [h1]
 have hw:M9 ⟨k,u.take n,i⟩=u.take n:=by
  unfold M9;have e:(k != 2)=true:=by simpa using hk
  simp only [e];rfl
 have tl:(u.take n).length=n:=by rw [Gv];omega
 show Mp ⟨k,u.take n,i⟩ ((n:Int)).toNat;unfold Mp;rw [hw];refine ⟨fun rest hr=>?_,fun rest=>?_,by omega,by omega,by simp only;omega⟩
 . rw [qK hr (by omega) (by rw [h2];rfl),h2,tl]
 obtain ⟨c,r,rfl⟩:∃c r,u=c::r:=by cases u with | nil=>cases h0 | cons c r=>exact ⟨c,r,rfl⟩
 obtain ⟨m,rfl⟩:∃m,n=m+1:=⟨n-1,by omega⟩;exact sep_zero _ hs
abbrev kt (t:Tok):Int×Ac:=(t.kind,t.text)
theorem GS.refl (s:St):GS s s:=fun g a w h=>⟨g,h,Ext.refl g w⟩
theorem AW.ghostPost {P:Program}{c:Code}{Q:Exit->St->Prop}{s:St}(h:AW P c (fun e s=>∃s',GS s s'/\Q e s') s):AW P c Q s:=by
 intro Q' g a w hG hQ;refine h Q' g a w hG fun e g' s' a' w' h1 h2 ⟨s2,h3,h4⟩=>?_
 obtain ⟨g2,k1,k2⟩:=h3 g' a' w' h1;exact hQ e g2 s2 a' w' k1 (h2.trans k2) h4
section
variable {P:Program} {T:List (Nat×TD)} {d:Option Nat} {ty:TypeId} {pos:String} {aft:Array Edge} {gd:Option (Nat×Bool)} {ρ:Operand->AV} {K:List HO->Prop}
theorem N7 {t e z:Nat}{td te:TD}{vs:Array Value}{es:List (List AV)}(hT:Kh P T)(ht:Bt T t=some td)(hk:td.kind = .slice e)(hte:Bt T e=some te)(hz:te.size=z)
    (hb:Nat.ble (1*z) 16777216=true) (hl:Nat.beq vs.toList.length z=true) (hs:Av (vs.toList.map AV.val)=true) (hp:Nat.blt 0 z=true) (hes:[vs.toList.map AV.val]=es):D1 P ⟨d,.buildSlice t 1 #[(0,.const (.agg vs))],ty,pos,aft,gd⟩ ρ K (.sl z es):=by
  have h:=bM (d:=d) (ty:=ty) (pos:=pos) (aft:=aft) (gd:=gd) (K:=K) (ρ:=fun _=>.agg (vs.toList.map AV.val)) (parts:=#[(0,.const (.agg vs))]) (n:=1) (es:=es) hT ht hk hte hz rfl hb
    (by simp only [Z3,C1,Bg,Nat.beq_refl,Gu,Dt,hs,hl]) hp (by subst hes;rfl)
  intro g w a H next Q hr hH hK hn
  refine h g w a H next Q (fun y hy=>?_) hH hK hn
  simp only [Op.operands,List.map_toArray,Ao,A0,List.mem_toArray,D5] at hy;subst hy;refine .agg vs _ (by simp) (fun i x hi=>?_);rw [List.getElem?_map] at hi;cases hv:vs.toList[i]? with
  | none=>rw [hv] at hi;cases hi
  | some u=>
    rw [hv] at hi;cases hi
    have:vs.getD i undef=u:=by
      rw [E7];have:vs[i]? = some u:=by simpa using hv
      rw [this];rfl
    rw [this];exact .val _
end
theorem xQ (read:Syn->PS->Syn×PS)(z:Syn)(st:PS):M4 read z st=if ((Gj st).bad != 0) then (z,Gj st) else ((read z (adv (deep st))).1,shallow (read z (adv (deep st))).2):=rfl
theorem fH (read:Syn->PS->Syn×PS)(z:Syn)(st:PS)(bp bo:Nat)(R:List HO)(f:Nat)(hf:Y0 Tryz.prog f=true)(first cap:List AV)(hlt:st.pos<st.toks.length)(hS:Wi st)
  (hcl:(Gj st).bad=0->Cc Tryz.prog f (.box bp 116 (cP (adv (deep st))) :: .box bo 25 (cSyn z)::R) (first ++ []++cap) (fun r H'=>r = .tuple []/\H' = .box bp 116 (cP (read z (adv (deep st))).2) :: .box bo 25 (cSyn (read z (adv (deep st))).1)::R)) :
  Cc Tryz.prog 151 (.box bp 116 (cP st) :: .box bo 25 (cSyn z)::R) [.val (.pointer (some ⟨bp,0,none⟩)),.fn (.func f) first cap] (fun r H'=>r = .tuple []/\H' = .box bp 116 (cP (M4 read z st).2) :: .box bo 25 (cSyn (M4 read z st).1)::R):=by
 refine p_nested st (read z (adv (deep st))).2 (M4 read z st).2 bp (.box bo 25 (cSyn z)::R) (.box bo 25 (cSyn (M4 read z st).1)::R) f hf first cap hlt hS (fun hb=>?_) (fun hb=>?_)
 .
  have e:M4 read z st=((read z (adv (deep st))).1,shallow (read z (adv (deep st))).2):=by rw [xQ,hb];rfl
  refine Cc.mono' (hcl hb) fun r K hk=>⟨?_,by rw [e]⟩
  rw [hk.2,e]
 have e:M4 read z st=(z,Gj st):=by rw [xQ,if_pos (by simpa using hb)]
 rw [e];exact ⟨rfl,rfl⟩
theorem mG {D:Int}{st:PS}(hD:0<=D)(h:okD D st)(hb:(Gj st).bad=0):okD (D+1) (adv (deep st)):=by
 obtain ⟨h1,h2,h3⟩:=h
 have hd:¬64<=st.depth:=fun hd=>by
  unfold Gj at hb;rw [if_pos (Gt hd)] at hb;exact absurd (Oi (e:=12) (by decide) st) (by simp [hb])
 have e1:(deep st).depth=st.depth+1:=Tk (by omega) (by omega);exact ⟨h1,show D+1<=(deep st).depth by omega,show (deep st).depth<=64 by omega⟩
theorem tot_get (k:Nat)(h:k<4):∃s,totL[k]? = some s/\(Mo.drop (k*2)).take 2 = [AV.str s.1,.int .i64 s.2]/\s.1.length<=1048576:=by
 match k,h with
 | 0,_=>exact ⟨_,rfl,rfl,by decide⟩
 | 1,_=>exact ⟨_,rfl,rfl,by decide⟩
 | 2,_=>exact ⟨_,rfl,rfl,by decide⟩
 | 3,_=>exact ⟨_,rfl,rfl,by decide⟩
theorem p_unit_1 (st:PS)(bp:Nat)(z:Syn)(bo:Nat)(R:List HO)(D:Int)(hD:0<=D)(E:PS->Syn×PS)(hFE:Du E)(hE:∀(st:PS) (bp:Nat),okD (D+1) st->Bp Tryz.prog 90 bp 116 (cP st) (cP (E st).2) [.val (.pointer (some ⟨bp,0,none⟩))] (.agg (cSyn (E st).1)))(hO:okD (D+1) st):Cc Tryz.prog 230 (.box bp 116 (cP st) :: .box bo 25 (cSyn z)::R) [.ptr [.val (.pointer (some ⟨bp,0,none⟩))],.val (.pointer (some ⟨bo,0,none⟩))] (fun r H'=>r = .tuple []/\H' = .box bp 116 (cP (Bb Gp (E st).2)) :: .box bo 25 (cSyn (E st).1)::R):=by
 have hS:=((hFE.okD (by omega) hO).1);refine Jz 6 Tryz.func230 rfl ?_;refine Ab (Qp Md (Rcl ((hE st bp hO).at (k:=0) (H2:=_::_::_) rfl rfl) ?_));refine B4 1 Aj (_::_::_) (A7 (AW.region (Qp Md ?_)));refine Rt (D2 rfl ((Ee _ _ _ (by simpa using hS) (by first | assumption | decide)).at (k:=0) (H2:=_::_::_) rfl rfl)) ?_;refine AOL.nil ?_;refine ⟨.inl rfl,[],.nil,_,.refl _,?_⟩;exact ⟨rfl,rfl⟩
theorem kV {α:Type}{p:α->Bool}{l:List α}{k:Nat}(hk:¬k<l.length)(hn:∀j y,j<k->l[j]? = some y->p y=false):l.find? p=none:=
 pO fun j y hj hy=>hn j y (by omega) hy
theorem p_unit (st:PS)(bp:Nat)(D:Int)(hD:0<=D)(E:PS->Syn×PS)(hFE:Du E)(hE:∀(st:PS) (bp:Nat),okD (D+1) st->Bp Tryz.prog 90 bp 116 (cP st) (cP (E st).2) [.val (.pointer (some ⟨bp,0,none⟩))] (.agg (cSyn (E st).1)))(hO:okD D st):Bp Tryz.prog 224 bp 116 (cP st) (cP ((D0 E st).2)) [.val (.pointer (some ⟨bp,0,none⟩))] (.agg (cSyn (D0 E st).1)):=by
 intro H;have hS:=hO.1;refine Jz 83 Tryz.func224 rfl ?_;refine Ab (Qp (Zx (v:=.val _) (cs:=[_]) rfl rfl rfl) ?_);refine E8 Kb fun b2=>?_
 refine Cf (Qp Md ?_);refine AOL.Aaq (C0 (k:=1) (by kernel_rfl) rfl rfl (Lr _ _)) rfl rfl ?_;refine Qp A3 (A7 (Cj (Qp Md ?_)));refine AOL.Aaq (C0 (k:=1) (by kernel_rfl) rfl rfl (p_is _ _ _ (by simpa using hS) (by first | assumption | decide))) rfl rfl ?_;refine Br (fun hc1=>?_) fun hc1=>?_
 .
  try simp only [A2,Bf] at hc1
  refine Ab ?_;refine E8 Kb fun b4=>?_
  refine Cf (Qp Md (Qp (Ca (l:=[]) (l':=[.ptr _,.val _]) rfl rfl) ?_));refine Rt (D2 rfl (Cc.front2 (R:=_::_) 0 1 rfl rfl rfl (fH (fun _ s=>((E s).1,Bb Gp (E s).2)) Iz st bp b4 _ 230 (by kernel_rfl) [] [.ptr [.val (.pointer (some ⟨bp,0,none⟩))],.val (.pointer (some ⟨b4,0,none⟩))] (Z2 hc1) hS (fun hb=>p_unit_1 _ bp Iz b4 _ D hD E hFE hE (mG hD hO hb))))) ?_;refine Cf (Tn 1 Aj rfl ?_);refine B4 2 Aj (_::_::_::_) (Rc ?_);refine ⟨.inr rfl,[.agg Aj],.cons (.box _ _ _ 2 _ _ _ _ rfl rfl rfl rfl rfl rfl) <| .nil,_,.cons_cons _ (.cons _ (.cons _ (.refl _))),?_⟩;refine ⟨?_,congrArg (fun c=>HO.box bp 116 c::H) ?_⟩
  .
   try simp only [Af,D0,cSyn,Ao,A0,Bi,hc1,↓reduceIte,Ah,A6,Bs]
   try rfl
  try simp only [cP,D0,hc1,↓reduceIte,Ah,A6,Bs]
  try rfl
 try simp only [A2,Bf] at hc1
 refine B8 (Cj ?_);refine Qp (Wy (l:=Mo) tok (⟨_,by simp [globals],fun _ h=>h⟩) rfl rfl rfl rfl) ?_;refine Qp Ax (A7 (AW.block ?_));refine AW.Aan (fun (k:Nat)=>(⟨[(1,.ptr [.val (.pointer (some ⟨bp,0,none⟩))]),(2,.val (.pointer (some ⟨b2,0,none⟩))),(3,.int .i64 (D4 st)),(19,.agg Mo),(20,.int .i64 (k:Int))],.box b2 25 (cSyn Iz) :: .box bp 116 (cP st)::H,83⟩:St)) (fun k=>k<=4/\∀j y,j<k->totL[j]? = some y->Ea y.1 st=false) (fun k=>4-k) (0) ?_ Dp ?_
 . exact ⟨Bk _,fun j y hj=>absurd hj (Nat.not_lt_zero _)⟩
 rintro k hR;refine Ab (Qp C5 (Re (Hs (fun hc2=>?_) fun hc2=>?_)))
 .
  try simp only [A2,Bf] at hc2
  have hk:k<4:=by have:=Ec hc2;omega
  refine (tot_get k hk).elim fun x hx3=>?_
  have hx:=hx3.1;have hx2:=hx3.2.1;have hwx:=hx3.2.2;refine B8 (AW.seq (AW.block (Ab ?_)));refine Qp (rI (l:=[.str x.1,.int .i64 x.2]) tok rfl rfl rfl rfl rfl rfl (by omega) (by omega) (by show k*2+2<=8;omega) (hx2)) ?_;refine E8 gjy fun b6=>?_
  refine B4 0 J6 (_::_::_::_) ?_;refine Me 6 0 rfl ?_;refine Cf (Qp Md (Qp (Qf J6) (Qp Hn ?_)));refine Rt (D2 rfl ((Fl _ _ _ (by simpa using hS) (by first | assumption | decide)).at (k:=1) (H2:=_::_::_) rfl rfl)) ?_;refine Br (fun hc3=>?_) fun hc3=>?_
  .
   try simp only [A2,Bf] at hc3
   have hfd:totL.find? (fun s=>Ea s.1 st)=some x:=cC hR.2 hx hc3;refine AW.ghost (GS.Aap (H2:=_::_::_) 1 rfl (congrArg cP (Gd hc3)) rfl) ?_;refine Ab (Qp (Qf [Iq _]) (Qp B7 (Qp Ax (Qp (Gz Aj) ?_))));refine E8 Kb fun b7=>?_
   refine B4 0 Aj (_::_::_::_) (Cf (Qp Md ?_));refine Rt (D2 rfl (Cc.front2 (R:=_::_) 0 1 rfl rfl rfl (yB (adv st) bp (⟨16,[],[],x.2,[],D4 st⟩) b7 (by simpa using hS) _))) ?_;refine Cf (Qp Md ?_);refine Rt (D2 rfl ((Ee _ _ _ (by simpa using hS) (by first | assumption | decide)).at (k:=0) (H2:=_::_::_::_) rfl rfl)) ?_;refine Cf (Qp Md ?_);refine Rt (D2 rfl ((mI _ _ (by simpa using hS)).at (k:=0) (H2:=_::_::_::_) rfl rfl)) ?_;refine Qp (Kf [Aj] rfl) (Qp Dg ?_);refine B4 1 Aj (_::_::_::_) (Cf (Qp Md ?_));refine Rt (D2 rfl ((Ee _ _ _ (by simpa using hS) (by first | assumption | decide)).at (k:=0) (H2:=_::_::_::_) rfl rfl)) ?_;refine Cf (Tn 1 Aj rfl ?_);refine B4 2 Aj (_::_::_::_) (Ra (Bc (Ep (Bc ?_))));refine ⟨.inr rfl,[.agg Aj],.cons (.box _ _ _ 2 _ _ _ _ rfl rfl rfl rfl rfl rfl) <| .nil,_,.cons_cons _ (.cons _ (.cons _ (.refl _))),?_⟩;refine ⟨?_,congrArg (fun c=>HO.box bp 116 c::H) ?_⟩
   .
    try simp only [Af,D0,hfd,cSyn,Ao,A0,Bi,hc1,hc2,hc3,↓reduceIte,Ah,A6,Bs]
    try rfl
   try simp only [cP,D0,hfd,hc1,hc2,hc3,↓reduceIte,Ah,A6,Bs]
   try rfl
  try simp only [A2,Bf] at hc3
  refine AW.ghost (GS.Aap (H2:=_::_::_) 1 rfl (congrArg cP (I4 hc3)) rfl) ?_;refine Rf (AW.region (Qp Ii (Qp Ax (A7 ?_))));refine ⟨k+1,?_,?_,Dp⟩
  . exact ⟨hk,fun j y hj hy=>by rcases dQ.1 hj with h | rfl;exact hR.2 j y h hy;rw [hx] at hy;cases hy;exact hc3⟩
  omega
 try simp only [A2,Bf] at hc2
 have hkn:¬k<4:=by have:=He hc2;omega
 have hfd:totL.find? (fun s=>Ea s.1 st)=none:=kV (k:=k) hkn hR.2;refine AW.exit ?_;refine B9 (Ri (AW.seq (AW.block (Ab (Qp Md ?_)))));refine Rt (D2 rfl ((Fl _ _ _ (by simpa using hS) (by first | assumption | decide)).at (k:=1) (H2:=_::_::_) rfl rfl)) ?_;refine Qp Bl (Br (fun hc4=>?_) fun hc4=>?_)
 .
  try simp only [A2,Bf] at hc4
  refine AW.ghost (GS.Aap (H2:=_::_::_) 1 rfl (congrArg cP (Gd hc4)) rfl) ?_;refine Ab (Qp Ax (Qp (Gz Aj) ?_));refine E8 Kb fun b8=>?_
  refine B4 0 Aj (_::_::_::_) (Cf (Qp Md ?_));refine Rt (D2 rfl (Cc.front2 (R:=_::_) 0 1 rfl rfl rfl (yB (adv st) bp (⟨16,[],[],1,[],D4 st⟩) b8 (by simpa using hS) _))) ?_;refine Cf (Qp Md ?_);refine Rt (D2 rfl ((Ee _ _ _ (by simpa using hS) (by first | assumption | decide)).at (k:=0) (H2:=_::_::_::_) rfl rfl)) ?_;refine Cf (Tn 1 Aj rfl ?_);refine B4 2 Aj (_::_::_::_) (Ra ?_);refine ⟨.inr rfl,[.agg Aj],.cons (.box _ _ _ 2 _ _ _ _ rfl rfl rfl rfl rfl rfl) <| .nil,_,.cons_cons _ (.cons _ (.cons _ (.refl _))),?_⟩;refine ⟨?_,congrArg (fun c=>HO.box bp 116 c::H) ?_⟩
  .
   try simp only [Af,D0,hfd,cSyn,Ao,A0,Bi,hc1,hc2,hc4,↓reduceIte,Ah,A6,Bs]
   try rfl
  try simp only [cP,D0,hfd,hc1,hc2,hc4,↓reduceIte,Ah,A6,Bs]
  try rfl
 try simp only [A2,Bf] at hc4
 refine AW.ghost (GS.Aap (H2:=_::_::_) 1 rfl (congrArg cP (I4 hc4)) rfl) ?_;refine Ab (Qp Md ?_);refine Rt (D2 rfl ((Fl _ _ _ (by simpa using hS) (by first | assumption | decide)).at (k:=1) (H2:=_::_::_) rfl rfl)) ?_;refine Qp Bl (Br (fun hc5=>?_) fun hc5=>?_)
 .
  try simp only [A2,Bf] at hc5
  refine AW.ghost (GS.Aap (H2:=_::_::_) 1 rfl (congrArg cP (Gd hc5)) rfl) ?_;refine Ab (Qp Md ?_);refine Rt (D2 rfl ((Ee _ _ _ (by simpa using hS) (by first | assumption | decide)).at (k:=1) (H2:=_::_::_) rfl rfl)) ?_;refine Cf (Qp Md ?_);refine Rt (D2 rfl ((Rv _ _ (by simpa using hS)).at (k:=1) (H2:=_::_::_) rfl rfl)) ?_;refine Qp Ax (Qp (Gz Aj) ?_);refine E8 Kb fun b9=>?_
  refine B4 0 Aj (_::_::_::_) ?_;refine Me 9 0 rfl ?_;refine Cf (Qp Md ?_);refine Rt (D2 rfl ((Ee _ _ _ (by simpa using hS) (by first | assumption | decide)).at (k:=1) (H2:=_::_::_) rfl rfl)) ?_;refine Cf (Qp (C8 Aj) ?_);refine B4 0 Aj (_::_::_) (Ra ?_);refine ⟨.inr rfl,[.agg Aj],Zb 0,_,S1,?_⟩;refine ⟨?_,congrArg (fun c=>HO.box bp 116 c::H) ?_⟩
  .
   try simp only [Af,D0,hfd,cSyn,Ao,A0,Bi,hc1,hc2,hc4,hc5,↓reduceIte,Ah,A6,Bs]
   try rfl
  try simp only [cP,D0,hfd,hc1,hc2,hc4,hc5,↓reduceIte,Ah,A6,Bs]
  try rfl
 try simp only [A2,Bf] at hc5
 refine AW.ghost (GS.Aap (H2:=_::_::_) 1 rfl (congrArg cP (I4 hc5)) rfl) ?_;refine Ab (Qp Md ?_);refine AOL.Aaq (C0 (k:=1) (by kernel_rfl) rfl rfl (p_next _ _ _ (by simpa using hS))) rfl rfl ?_;refine Qp Bl (Br (fun hc6=>?_) fun hc6=>?_)
 .
  try simp only [A2,Bf] at hc6
  refine Ab (Qp Md ?_);refine Rt (D2 rfl ((Rv _ _ (by simpa using hS)).at (k:=1) (H2:=_::_::_) rfl rfl)) ?_;refine Qp Ax (Qp (Gz Aj) ?_);refine E8 Kb fun b10=>?_
  refine B4 0 Aj (_::_::_::_) (Cf (Qp Md ?_));refine Rt (D2 rfl ((Ee _ _ _ (by simpa using hS) (by first | assumption | decide)).at (k:=2) (H2:=_::_::_::_) rfl rfl)) ?_;refine A7 (Cj (Qp Md ?_));refine Rt (D2 rfl ((Fl _ _ _ (by simpa using hS) (by first | assumption | decide)).at (k:=2) (H2:=_::_::_::_) rfl rfl)) ?_;refine Br (fun hc7=>?_) fun hc7=>?_
  .
   try simp only [A2,Bf] at hc7
   refine AW.ghost (GS.Aap (H2:=_::_::_::_) 2 rfl (congrArg cP (Gd hc7)) rfl) ?_;refine AW.region (Qp Dg ?_);refine B4 0 Aj (_::_::_::_) (Cf (Tn 0 Aj rfl ?_));refine B4 1 Aj (_::_::_::_) (Ra ?_);refine ⟨.inr rfl,[.agg Aj],Zb 1,_,S2,?_⟩;refine ⟨?_,congrArg (fun c=>HO.box bp 116 c::H) ?_⟩
   .
    try simp only [Af,D0,hfd,cSyn,Ao,A0,Bi,hc1,hc2,hc4,hc5,hc6,hc7,↓reduceIte,Ah,A6,Bs]
    try rfl
   try simp only [cP,D0,hfd,hc1,hc2,hc4,hc5,hc6,hc7,↓reduceIte,Ah,A6,Bs]
   try rfl
  try simp only [A2,Bf] at hc7
  refine AW.ghost (GS.Aap (H2:=_::_::_::_) 2 rfl (congrArg cP (I4 hc7)) rfl) ?_;refine AW.region (Qp Md ?_);refine Rt (D2 rfl ((Rv _ _ (by simpa using hS)).at (k:=2) (H2:=_::_::_::_) rfl rfl)) ?_;refine Qp Dg ?_;refine B4 0 Aj (_::_::_::_) (Cf (Tn 0 Aj rfl ?_));refine B4 1 Aj (_::_::_::_) (Ra ?_);refine ⟨.inr rfl,[.agg Aj],Zb 1,_,S2,?_⟩;refine ⟨?_,congrArg (fun c=>HO.box bp 116 c::H) ?_⟩
  .
   try simp only [Af,D0,hfd,cSyn,Ao,A0,Bi,hc1,hc2,hc4,hc5,hc6,hc7,↓reduceIte,Ah,A6,Bs]
   try rfl
  try simp only [cP,D0,hfd,hc1,hc2,hc4,hc5,hc6,hc7,↓reduceIte,Ah,A6,Bs]
  try rfl
 try simp only [A2,Bf] at hc6
 refine Rf (Ab (Qp Md ?_));refine Rt (D2 rfl ((mI _ _ (by simpa using hS)).at (k:=1) (H2:=_::_::_) rfl rfl)) ?_;refine B4 0 Aj (_::_::_) (Rb ?_);refine ⟨.inr rfl,[.agg Aj],Zb 0,_,S1,?_⟩;refine ⟨?_,congrArg (fun c=>HO.box bp 116 c::H) ?_⟩
 .
  try simp only [Af,D0,hfd,cSyn,Ao,A0,Bi,hc1,hc2,hc4,hc5,hc6,↓reduceIte,Ah,A6,Bs]
  try rfl
 try simp only [cP,D0,hfd,hc1,hc2,hc4,hc5,hc6,↓reduceIte,Ah,A6,Bs]
 try rfl
theorem mL (st:PS)(bp:Nat)(D:Int)(hD:0<=D)(E:PS->Syn×PS)(hFE:Du E)(hE:∀(st:PS) (bp:Nat),okD (D+1) st->Bp Tryz.prog 90 bp 116 (cP st) (cP (E st).2) [.val (.pointer (some ⟨bp,0,none⟩))] (.agg (cSyn (E st).1)))(hO:okD D st):Bp Tryz.prog 219 bp 116 (cP st) (cP ((Fu E st).2)) [.val (.pointer (some ⟨bp,0,none⟩))] (.agg (cSyn (Fu E st).1)):=by
 intro H;refine Jz 8 Tryz.func219 rfl ?_;refine Ab ?_;refine E8 Kb fun b2=>?_
 refine Cf (Qp B3 (Qp B3 (Qp (Ca (l:=[.val _]) (l':=[]) rfl rfl) ?_)));refine Qp (U2 (es:=uG.map cSg) tok (⟨fun cs=>cs=Uw,by simp [globals],fun _ h=>h⟩) rfl rfl rfl rfl rfl rfl rfl rfl rfl) ?_;refine Rt (D2 rfl ((tP st bp D hD 224 (by kernel_rfl) [.val (.pointer (some ⟨bp,0,none⟩))] [] (D0 E) (pP hFE) (fun s ho=>p_unit s bp D hD E hFE hE ho) hO uG (by decide) (by decide)).at (k:=1) (H2:=_::_::_) rfl rfl)) ?_;refine B4 0 Aj (_::_::_) (Rb ?_);refine ⟨.inr rfl,[.agg Aj],Zb 0,_,S1,?_⟩;refine ⟨rfl,rfl⟩
theorem p_compare (st:PS)(bp:Nat)(D:Int)(hD:0<=D)(E:PS->Syn×PS)(hFE:Du E)(hE:∀(st:PS) (bp:Nat),okD (D+1) st->Bp Tryz.prog 90 bp 116 (cP st) (cP (E st).2) [.val (.pointer (some ⟨bp,0,none⟩))] (.agg (cSyn (E st).1)))(hO:okD D st):Bp Tryz.prog 212 bp 116 (cP st) (cP ((L5 E st).2)) [.val (.pointer (some ⟨bp,0,none⟩))] (.agg (cSyn (L5 E st).1)):=by
 intro H;have hO2:=(kY hFE).okD hD hO;have hS:=hO2.1;refine Jz 65 Tryz.func212 rfl ?_;refine Ab ?_;refine E8 Kb fun b2=>?_
 refine Cf (Qp B3 (Rcl ((mL st bp D hD E hFE hE hO).at (k:=1) (H2:=_::_::_) rfl rfl) ?_));refine E8 Kb fun b3=>?_
 refine B4 0 Aj (_::_::_::_) ?_;refine Me 3 0 rfl ?_;refine Re (AW.block (Ab (Qp B3 ?_)));refine Rt (D2 rfl ((Fl _ _ _ (by simpa using hS) (by decide)).at (k:=1) (H2:=_::_::_) rfl rfl)) ?_;refine Qp Bl (Br (fun hc1=>?_) fun hc1=>?_)
 .
  try simp only [A2,Bf] at hc1
  refine AW.ghost (GS.Aap (H2:=_::_::_) 1 rfl (congrArg cP (Gd hc1)) rfl) ?_;refine AW.seq ?_;refine Oe ?_;refine Qn 0 rfl (C8 Aj) (Qn 1 rfl B3 (Qn 3 rfl (Qf [Iq _]) (Qn 4 rfl B7 ?_)));refine Qz 2 rfl (D2 rfl ((mL (adv (Fu E st).2) bp D hD E hFE hE (by simpa using hO2)).at (k:=1) (H2:=_::_::_) rfl rfl)) ?_;refine Qn 5 rfl (Qc rfl (Nv _ _ _ _)) ?_;refine Qz 6 rfl (Mf 0 (.agg _) Aj (_::_::_) rfl) ?_;refine Jr ?_;refine Ap (AW.ret (Ep (Bc ?_)));refine ⟨.inr rfl,[.agg Aj],Zb 0,_,S1,?_⟩;refine ⟨?_,congrArg (fun c=>HO.box bp 116 c::H) ?_⟩
  .
   try simp only [Af,L5,cSyn,Ao,A0,Bi,hc1,↓reduceIte,Ah,A6,Bs]
   try rfl
  try simp only [cP,L5,hc1,↓reduceIte,Ah,A6,Bs]
  try rfl
 try simp only [A2,Bf] at hc1
 refine AW.ghost (GS.Aap (H2:=_::_::_) 1 rfl (congrArg cP (I4 hc1)) rfl) ?_;refine Ab (Qp B3 ?_);refine Rt (D2 rfl ((Fl _ _ _ (by simpa using hS) (by decide)).at (k:=1) (H2:=_::_::_) rfl rfl)) ?_;refine Qp Bl (Br (fun hc2=>?_) fun hc2=>?_)
 .
  try simp only [A2,Bf] at hc2
  refine AW.ghost (GS.Aap (H2:=_::_::_) 1 rfl (congrArg cP (Gd hc2)) rfl) ?_;refine AW.seq ?_;refine Oe ?_;refine Qn 0 rfl (C8 Aj) (Qn 1 rfl B3 (Qn 3 rfl (Qf [Iq _]) (Qn 4 rfl B7 ?_)));refine Qz 2 rfl (D2 rfl ((mL (adv (Fu E st).2) bp D hD E hFE hE (by simpa using hO2)).at (k:=1) (H2:=_::_::_) rfl rfl)) ?_;refine Qn 5 rfl (Qc rfl (Nv _ _ _ _)) ?_;refine Qz 6 rfl (Mf 0 (.agg _) Aj (_::_::_) rfl) ?_;refine Jr ?_;refine Ap (AW.ret (Ep (Bc ?_)));refine ⟨.inr rfl,[.agg Aj],Zb 0,_,S1,?_⟩;refine ⟨?_,congrArg (fun c=>HO.box bp 116 c::H) ?_⟩
  .
   try simp only [Af,L5,cSyn,Ao,A0,Bi,hc1,hc2,↓reduceIte,Ah,A6,Bs]
   try rfl
  try simp only [cP,L5,hc1,hc2,↓reduceIte,Ah,A6,Bs]
  try rfl
 try simp only [A2,Bf] at hc2
 refine AW.ghost (GS.Aap (H2:=_::_::_) 1 rfl (congrArg cP (I4 hc2)) rfl) ?_;refine Ab (Qp B3 ?_);refine Rt (D2 rfl ((Fl _ _ _ (by simpa using hS) (by decide)).at (k:=1) (H2:=_::_::_) rfl rfl)) ?_;refine Qp Bl (Br (fun hc3=>?_) fun hc3=>?_)
 .
  try simp only [A2,Bf] at hc3
  refine AW.ghost (GS.Aap (H2:=_::_::_) 1 rfl (congrArg cP (Gd hc3)) rfl) ?_;refine AW.seq ?_;refine Oe ?_;refine Qn 0 rfl B3 (Qn 2 rfl (C8 Aj) (Qn 3 rfl (Qf [Iq _]) (Qn 4 rfl B7 ?_)));refine Qz 1 rfl (D2 rfl ((mL (adv (Fu E st).2) bp D hD E hFE hE (by simpa using hO2)).at (k:=1) (H2:=_::_::_) rfl rfl)) ?_;refine Qn 5 rfl (Qc rfl (Nv _ _ _ _)) ?_;refine Qz 6 rfl (Mf 0 (.agg _) Aj (_::_::_) rfl) ?_;refine Jr ?_;refine Ap (AW.ret (Ep (Bc ?_)));refine ⟨.inr rfl,[.agg Aj],Zb 0,_,S1,?_⟩;refine ⟨?_,congrArg (fun c=>HO.box bp 116 c::H) ?_⟩
  .
   try simp only [Af,L5,cSyn,Ao,A0,Bi,hc1,hc2,hc3,↓reduceIte,Ah,A6,Bs]
   try rfl
  try simp only [cP,L5,hc1,hc2,hc3,↓reduceIte,Ah,A6,Bs]
  try rfl
 try simp only [A2,Bf] at hc3
 refine AW.ghost (GS.Aap (H2:=_::_::_) 1 rfl (congrArg cP (I4 hc3)) rfl) ?_;refine Ab (Qp B3 ?_);refine Rt (D2 rfl ((Fl _ _ _ (by simpa using hS) (by decide)).at (k:=1) (H2:=_::_::_) rfl rfl)) ?_;refine Qp Bl (Br (fun hc4=>?_) fun hc4=>?_)
 .
  try simp only [A2,Bf] at hc4
  refine AW.ghost (GS.Aap (H2:=_::_::_) 1 rfl (congrArg cP (Gd hc4)) rfl) ?_;refine AW.seq ?_;refine Oe ?_;refine Qn 0 rfl B3 (Qn 2 rfl (C8 Aj) (Qn 3 rfl (Qf [Iq _]) (Qn 4 rfl B7 ?_)));refine Qz 1 rfl (D2 rfl ((mL (adv (Fu E st).2) bp D hD E hFE hE (by simpa using hO2)).at (k:=1) (H2:=_::_::_) rfl rfl)) ?_;refine Qn 5 rfl (Qc rfl (Nv _ _ _ _)) ?_;refine Qz 6 rfl (Mf 0 (.agg _) Aj (_::_::_) rfl) ?_;refine Jr ?_;refine Ap (AW.ret (Ep (Bc ?_)));refine ⟨.inr rfl,[.agg Aj],Zb 0,_,S1,?_⟩;refine ⟨?_,congrArg (fun c=>HO.box bp 116 c::H) ?_⟩
  .
   try simp only [Af,L5,cSyn,Ao,A0,Bi,hc1,hc2,hc3,hc4,↓reduceIte,Ah,A6,Bs]
   try rfl
  try simp only [cP,L5,hc1,hc2,hc3,hc4,↓reduceIte,Ah,A6,Bs]
  try rfl
 try simp only [A2,Bf] at hc4
 refine AW.ghost (GS.Aap (H2:=_::_::_) 1 rfl (congrArg cP (I4 hc4)) rfl) ?_;refine Ab (Qp B3 ?_);refine Rt (D2 rfl ((Fl _ _ _ (by simpa using hS) (by decide)).at (k:=1) (H2:=_::_::_) rfl rfl)) ?_;refine Qp Bl (Br (fun hc5=>?_) fun hc5=>?_)
 .
  try simp only [A2,Bf] at hc5
  refine AW.ghost (GS.Aap (H2:=_::_::_) 1 rfl (congrArg cP (Gd hc5)) rfl) ?_;refine AW.seq ?_;refine Oe ?_;refine Qn 0 rfl (C8 Aj) (Qn 1 rfl B3 (Qn 3 rfl (Qf [Iq _]) (Qn 4 rfl B7 ?_)));refine Qz 2 rfl (D2 rfl ((mL (adv (Fu E st).2) bp D hD E hFE hE (by simpa using hO2)).at (k:=1) (H2:=_::_::_) rfl rfl)) ?_;refine Qn 5 rfl (Qc rfl (Nv _ _ _ _)) ?_;refine Qz 6 rfl (Mf 0 (.agg _) Aj (_::_::_) rfl) ?_;refine Jr ?_;refine Ap (AW.ret (Ep (Bc ?_)));refine ⟨.inr rfl,[.agg Aj],Zb 0,_,S1,?_⟩;refine ⟨?_,congrArg (fun c=>HO.box bp 116 c::H) ?_⟩
  .
   try simp only [Af,L5,cSyn,Ao,A0,Bi,hc1,hc2,hc3,hc4,hc5,↓reduceIte,Ah,A6,Bs]
   try rfl
  try simp only [cP,L5,hc1,hc2,hc3,hc4,hc5,↓reduceIte,Ah,A6,Bs]
  try rfl
 try simp only [A2,Bf] at hc5
 refine AW.ghost (GS.Aap (H2:=_::_::_) 1 rfl (congrArg cP (I4 hc5)) rfl) ?_;refine Ab (Qp B3 ?_);refine Rt (D2 rfl ((Fl _ _ _ (by simpa using hS) (by decide)).at (k:=1) (H2:=_::_::_) rfl rfl)) ?_;refine Qp Bl (Br (fun hc6=>?_) fun hc6=>?_)
 .
  try simp only [A2,Bf] at hc6
  refine AW.ghost (GS.Aap (H2:=_::_::_) 1 rfl (congrArg cP (Gd hc6)) rfl) ?_;refine AW.seq ?_;refine Oe ?_;refine Qn 0 rfl (C8 Aj) (Qn 1 rfl B3 (Qn 3 rfl (Qf [Iq _]) (Qn 4 rfl B7 (Qn 7 rfl (Qf [Iq _]) (Qn 8 rfl B7 ?_)))));refine Qz 2 rfl (D2 rfl ((mL (adv (Fu E st).2) bp D hD E hFE hE (by simpa using hO2)).at (k:=1) (H2:=_::_::_) rfl rfl)) ?_;refine Qn 5 rfl (Qc rfl (Nv _ _ _ _)) (Qn 6 rfl (Kf [Aj] rfl) (Qn 9 rfl (Gz Aj) ?_));refine Qz 10 rfl (Mf 0 (.agg _) Aj (_::_::_) rfl) ?_;refine Jr ?_;refine Ap (AW.ret (Ep (Bc ?_)));refine ⟨.inr rfl,[.agg Aj],Zb 0,_,S1,?_⟩;refine ⟨?_,congrArg (fun c=>HO.box bp 116 c::H) ?_⟩
  .
   try simp only [Af,L5,cSyn,Ao,A0,Bi,hc1,hc2,hc3,hc4,hc5,hc6,↓reduceIte,Ah,A6,Bs]
   try rfl
  try simp only [cP,L5,hc1,hc2,hc3,hc4,hc5,hc6,↓reduceIte,Ah,A6,Bs]
  try rfl
 try simp only [A2,Bf] at hc6
 refine AW.ghost (GS.Aap (H2:=_::_::_) 1 rfl (congrArg cP (I4 hc6)) rfl) ?_;refine Rf (Ab (Qp (C8 Aj) ?_));refine B4 0 Aj (_::_::_) (Rb ?_);refine ⟨.inr rfl,[.agg Aj],Zb 0,_,S1,?_⟩;refine ⟨?_,congrArg (fun c=>HO.box bp 116 c::H) ?_⟩
 .
  try simp only [Af,L5,cSyn,Ao,A0,Bi,hc1,hc2,hc3,hc4,hc5,hc6,↓reduceIte,Ah,A6,Bs]
  try rfl
 try simp only [cP,L5,hc1,hc2,hc3,hc4,hc5,hc6,↓reduceIte,Ah,A6,Bs]
 try rfl
theorem p_not_1 (st:PS)(bp:Nat)(z:Syn)(bo:Nat)(R:List HO)(D:Int)(hD:0<=D)(E:PS->Syn×PS)(hFE:Du E)(hE:∀(st:PS) (bp:Nat),okD (D+1) st->Bp Tryz.prog 90 bp 116 (cP st) (cP (E st).2) [.val (.pointer (some ⟨bp,0,none⟩))] (.agg (cSyn (E st).1)))(N:PS->Syn×PS)(hFN:Du N)(hN:∀(st:PS) (bp:Nat),okD (D+1) st->Bp Tryz.prog 195 bp 116 (cP st) (cP (N st).2) [.val (.pointer (some ⟨bp,0,none⟩))] (.agg (cSyn (N st).1)))(hO:okD (D+1) st):Cc Tryz.prog 213 (.box bp 116 (cP st) :: .box bo 25 (cSyn z)::R) [.ptr [.val (.pointer (some ⟨bp,0,none⟩))],.val (.pointer (some ⟨bo,0,none⟩))] (fun r H'=>r = .tuple []/\H' = .box bp 116 (cP (N st).2) :: .box bo 25 (cSyn { z with kids:=[(N st).1] })::R):=by
 refine Jz 6 Tryz.func213 rfl ?_;refine AW.region (Qp Md (Rcl ((hN st bp hO).at (k:=0) (H2:=_::_::_) rfl rfl) (Qp (Kf [Aj] rfl) (Qp Dg ?_))));refine B4 1 Aj (_::_::_) (AOL.nil ?_);refine ⟨.inl rfl,[],.nil,_,.refl _,?_⟩;exact ⟨rfl,congrArg (fun l=>HO.box bp 116 (cP (N st).2)::HO.box bo 25 [.int .i64 z.kind,.str z.text,.str z.name,.int .i64 z.num,.sl 6 l,.int .i64 z.pos]::R) (by rw [Ao,A0,Bi])⟩
theorem p_not (st:PS)(bp:Nat)(D:Int)(hD:0<=D)(E:PS->Syn×PS)(hFE:Du E)(hE:∀(st:PS) (bp:Nat),okD (D+1) st->Bp Tryz.prog 90 bp 116 (cP st) (cP (E st).2) [.val (.pointer (some ⟨bp,0,none⟩))] (.agg (cSyn (E st).1)))(N:PS->Syn×PS)(hFN:Du N)(hN:∀(st:PS) (bp:Nat),okD (D+1) st->Bp Tryz.prog 195 bp 116 (cP st) (cP (N st).2) [.val (.pointer (some ⟨bp,0,none⟩))] (.agg (cSyn (N st).1)))(hO:okD D st):Bp Tryz.prog 195 bp 116 (cP st) (cP ((M5 E N st).2)) [.val (.pointer (some ⟨bp,0,none⟩))] (.agg (cSyn (M5 E N st).1)):=by
 intro H;have hS:=hO.1;refine Jz 16 Tryz.func195 rfl ?_;refine Ab (Qp (Zx (v:=.val _) (cs:=[_]) rfl rfl rfl) ?_);refine E8 Kb fun b2=>?_
 refine A7 (Cj (Qp Md ?_));refine AOL.Aaq (C0 (k:=1) (by kernel_rfl) rfl rfl (p_is _ _ _ (by simpa using hS) (by decide))) rfl rfl ?_;refine Qp Ke (Br (fun hc1=>?_) fun hc1=>?_)
 .
  try simp only [A2,Bf] at hc1
  refine Ab (Qp Md (Rcl ((p_compare st bp D hD E hFE hE hO).at (k:=1) (H2:=_::_::_) rfl rfl) ?_));refine B4 0 Aj (_::_::_) (Rc ?_);refine ⟨.inr rfl,[.agg Aj],Zb 0,_,S1,?_⟩;refine ⟨?_,congrArg (fun c=>HO.box bp 116 c::H) ?_⟩
  .
   try simp only [Af,M5,cSyn,Ao,A0,Bi,hc1,↓reduceIte,Ah,A6,Bs]
   try rfl
  try simp only [cP,M5,hc1,↓reduceIte,Ah,A6,Bs]
  try rfl
 try simp only [A2,Bf] at hc1
 refine B8 (Ab (Qp Md ?_));refine AOL.Aaq (C0 (k:=1) (by kernel_rfl) rfl rfl (Lr _ _)) rfl rfl ?_;refine Qp (Gz Aj) ?_;refine E8 Kb fun b3=>?_
 refine B4 0 Aj (_::_::_::_) (Cf (Qp Md (Qp (Ca (l:=[]) (l':=[.ptr _,.val _]) rfl rfl) ?_)));refine Rt (D2 rfl (Cc.front2 (R:=_::_) 0 1 rfl rfl rfl (fH (fun z s=>({ z with kids:=[(N s).1] },(N s).2)) ⟨18,[],[],0,[],D4 st⟩ st bp b3 _ 213 (by kernel_rfl) [] [.ptr [.val (.pointer (some ⟨bp,0,none⟩))],.val (.pointer (some ⟨b3,0,none⟩))] (Z2 hc1) hS (fun hb=>p_not_1 _ bp ⟨18,[],[],0,[],D4 st⟩ b3 _ D hD E hFE hE N hFN hN (mG hD hO hb))))) ?_;refine Cf (Tn 1 Aj rfl ?_);refine B4 2 Aj (_::_::_::_) (Rb ?_);refine ⟨.inr rfl,[.agg Aj],.cons (.box _ _ _ 2 _ _ _ _ rfl rfl rfl rfl rfl rfl) <| .nil,_,.cons_cons _ (.cons _ (.cons _ (.refl _))),?_⟩;refine ⟨?_,congrArg (fun c=>HO.box bp 116 c::H) ?_⟩
 .
  try simp only [Af,M5,cSyn,Ao,A0,Bi,hc1,↓reduceIte,Ah,A6,Bs]
  try rfl
 try simp only [cP,M5,hc1,↓reduceIte,Ah,A6,Bs]
 try rfl
theorem p_and (st:PS)(bp:Nat)(D:Int)(hD:0<=D)(E:PS->Syn×PS)(hFE:Du E)(hE:∀(st:PS) (bp:Nat),okD (D+1) st->Bp Tryz.prog 90 bp 116 (cP st) (cP (E st).2) [.val (.pointer (some ⟨bp,0,none⟩))] (.agg (cSyn (E st).1)))(N:PS->Syn×PS)(hFN:Du N)(hN:∀(st:PS) (bp:Nat),okD (D+1) st->Bp Tryz.prog 195 bp 116 (cP st) (cP (N st).2) [.val (.pointer (some ⟨bp,0,none⟩))] (.agg (cSyn (N st).1)))(hO:okD D st):Bp Tryz.prog 155 bp 116 (cP st) (cP ((iH E N st).2)) [.val (.pointer (some ⟨bp,0,none⟩))] (.agg (cSyn (iH E N st).1)):=by
 intro H;refine Jz 8 Tryz.func155 rfl ?_;refine Ab ?_;refine E8 Kb fun b2=>?_
 refine Cf (Qp B3 (Qp B3 (Qp (Ca (l:=[.val _]) (l':=[]) rfl rfl) ?_)));refine Qp (U2 (es:=kA.map cSg) tok (⟨fun cs=>cs=Ub,by simp [globals],fun _ h=>h⟩) rfl rfl rfl rfl rfl rfl rfl rfl rfl) ?_;refine Rt (D2 rfl ((tP st bp D hD 195 (by kernel_rfl) [.val (.pointer (some ⟨bp,0,none⟩))] [] (M5 E N) (Xe hFE hFN) (fun s ho=>p_not s bp D hD E hFE hE N hFN hN ho) hO kA (by decide) (by decide)).at (k:=1) (H2:=_::_::_) rfl rfl)) ?_;refine B4 0 Aj (_::_::_) (Rb ?_);refine ⟨.inr rfl,[.agg Aj],Zb 0,_,S1,?_⟩;refine ⟨rfl,rfl⟩
theorem p_expr (st:PS)(bp:Nat)(D:Int)(hD:0<=D)(E:PS->Syn×PS)(hFE:Du E)(hE:∀(st:PS) (bp:Nat),okD (D+1) st->Bp Tryz.prog 90 bp 116 (cP st) (cP (E st).2) [.val (.pointer (some ⟨bp,0,none⟩))] (.agg (cSyn (E st).1)))(N:PS->Syn×PS)(hFN:Du N)(hN:∀(st:PS) (bp:Nat),okD (D+1) st->Bp Tryz.prog 195 bp 116 (cP st) (cP (N st).2) [.val (.pointer (some ⟨bp,0,none⟩))] (.agg (cSyn (N st).1)))(hO:okD D st):Bp Tryz.prog 90 bp 116 (cP st) (cP ((orP E N st).2)) [.val (.pointer (some ⟨bp,0,none⟩))] (.agg (cSyn (orP E N st).1)):=by
 intro H;refine Jz 8 Tryz.func90 rfl ?_;refine Ab ?_;refine E8 Kb fun b2=>?_
 refine Cf (Qp B3 (Qp B3 (Qp (Ca (l:=[.val _]) (l':=[]) rfl rfl) ?_)));refine Qp (U2 (es:=orL.map cSg) tok (⟨fun cs=>cs=Xp,by simp [globals],fun _ h=>h⟩) rfl rfl rfl rfl rfl rfl rfl rfl rfl) ?_;refine Rt (D2 rfl ((tP st bp D hD 155 (by kernel_rfl) [.val (.pointer (some ⟨bp,0,none⟩))] [] (iH E N) (Ve (Xe hFE hFN) kA) (fun s ho=>p_and s bp D hD E hFE hE N hFN hN ho) hO orL (by decide) (by decide)).at (k:=1) (H2:=_::_::_) rfl rfl)) ?_;refine B4 0 Aj (_::_::_) (Rb ?_);refine ⟨.inr rfl,[.agg Aj],Zb 0,_,S1,?_⟩;refine ⟨rfl,rfl⟩
theorem Xo {st:PS}(h:okD (64+1) st):False:=by have:=h.2.1;have:=h.2.2;omega
theorem neg_all:∀(n:Nat),n<=64->(∀(st:PS) (bp:Nat),okD (64-(n:Int)) st->Bp Tryz.prog 195 bp 116 (cP st) (cP ((L8 n).1 st).2) [.val (.pointer (some ⟨bp,0,none⟩))] (.agg (cSyn ((L8 n).1 st).1)))/\(∀(st:PS) (bp:Nat),okD (64-(n:Int)) st->Bp Tryz.prog 90 bp 116 (cP st) (cP ((L8 n).2 st).2) [.val (.pointer (some ⟨bp,0,none⟩))] (.agg (cSyn ((L8 n).2 st).1)))
  | 0,_=>⟨fun st bp hO=>p_not st bp 64 (by decide) G0 J2 (fun _ _ h=>(Xo h).elim) G0 J2 (fun _ _ h=>(Xo h).elim) hO,fun st bp hO=>p_expr st bp 64 (by decide) G0 J2 (fun _ _ h=>(Xo h).elim) G0 J2 (fun _ _ h=>(Xo h).elim) hO⟩
  | n+1,hn=>by
    have ih:=neg_all n (by omega);have e:∀st,okD (64-((n+1:Nat):Int)+1) st->okD (64-(n:Int)) st:=fun st h=>⟨h.1,by have:=h.2.1;omega,h.2.2⟩
    have hD:0<=64-((n+1:Nat):Int):=by omega
    exact ⟨fun st bp hO=>p_not st bp _ hD (L8 n).2 (Mz n).2 (fun s b h=>ih.2 s b (e s h)) (L8 n).1 (Mz n).1 (fun s b h=>ih.1 s b (e s h)) hO,fun st bp hO=>p_expr st bp _ hD (L8 n).2 (Mz n).2 (fun s b h=>ih.2 s b (e s h)) (L8 n).1 (Mz n).1 (fun s b h=>ih.1 s b (e s h)) hO⟩
theorem mH {D:Int}(hD:0<=D){st:PS}(h:okD D st):okD 0 st:=⟨h.1,by have:=h.2.1;omega,h.2.2⟩
theorem Ps {D:Int}(hD:0<=D){st:PS}(h:okD D st):iQ st:=⟨by have:=h.2.1;omega,h.2.2⟩
theorem Om {D:Int}{a b:PS}(h:okD D a)(g:K1 a b):okD D b:=(fJ g.1 g.2.2).2 h
abbrev cRw (z:Syn)(v:Value)(es:List (List AV)):List AV:=[.int .i64 z.kind,.str z.text,.str z.name,.int .i64 z.num,.row v 6 es,.int .i64 z.pos]
theorem p_event (st:PS)(bp:Nat)(E:PS->Syn×PS)(hFE:Du E)(hE:∀(st:PS) (bp:Nat),okD 0 st->Bp Tryz.prog 90 bp 116 (cP st) (cP (E st).2) [.val (.pointer (some ⟨bp,0,none⟩))] (.agg (cSyn (E st).1)))(hO:okD 0 st):Bp Tryz.prog 153 bp 116 (cP st) (cP ((Hu E st).2)) [.val (.pointer (some ⟨bp,0,none⟩))] (.agg (cSyn (Hu E st).1)):=by
 intro H;have hS:=hO.1;refine Jz 18 Tryz.func153 rfl ?_;refine Ab ?_;refine E8 Kb fun b2=>?_
 refine Cf (Qp B3 ?_);refine AOL.Aaq (C0 (k:=1) (by kernel_rfl) rfl rfl (Lr _ _)) rfl rfl ?_;refine Qp B3 ?_;refine Rt (D2 rfl ((Rv _ _ (by simpa using hS)).at (k:=1) (H2:=_::_::_) rfl rfl)) ?_;refine Qp B3 ?_;refine Rt (D2 rfl ((Rv _ _ (by simpa using hS)).at (k:=1) (H2:=_::_::_) rfl rfl)) ?_;refine Qp (Gz Aj) ?_;refine E8 Kb fun b3=>?_
 refine B4 0 Aj (_::_::_::_) (A7 (Cj (Qp B3 ?_)));refine Rt (D2 rfl ((Fl _ _ _ (by simpa using hS) (by decide)).at (k:=2) (H2:=_::_::_::_) rfl rfl)) ?_;refine Br (fun hc1=>?_) fun hc1=>?_
 .
  try simp only [A2,Bf] at hc1
  refine AW.ghost (GS.Aap (H2:=_::_::_::_) 2 rfl (congrArg cP (Gd hc1)) rfl) ?_;refine AW.region (Qp B3 ?_);refine Rt (D2 rfl ((hE _ bp (by simpa using hO)).at (k:=2) (H2:=_::_::_::_) rfl rfl)) ?_;refine Qp (Kf [Aj] rfl) (Qp Dg ?_);refine B4 0 Aj (_::_::_::_) (Cf (Tn 0 Aj rfl ?_));refine B4 1 Aj (_::_::_::_) (Rb ?_);refine ⟨.inr rfl,[.agg Aj],Zb 1,_,S2,?_⟩;refine ⟨?_,congrArg (fun c=>HO.box bp 116 c::H) ?_⟩
  .
   try simp only [Af,Hu,cSyn,Ao,A0,Bi,hc1,↓reduceIte,Ah,A6,Bs]
   try rfl
  try simp only [cP,Hu,hc1,↓reduceIte,Ah,A6,Bs]
  try rfl
 try simp only [A2,Bf] at hc1
 refine AW.ghost (GS.Aap (H2:=_::_::_::_) 2 rfl (congrArg cP (I4 hc1)) rfl) ?_;refine B8 (Ab (Tn 0 Aj rfl ?_));refine B4 1 Aj (_::_::_::_) (Rb ?_);refine ⟨.inr rfl,[.agg Aj],Zb 1,_,S2,?_⟩;refine ⟨?_,congrArg (fun c=>HO.box bp 116 c::H) ?_⟩
 .
  try simp only [Af,Hu,cSyn,Ao,A0,Bi,hc1,↓reduceIte,Ah,A6,Bs]
  try rfl
 try simp only [cP,Hu,hc1,↓reduceIte,Ah,A6,Bs]
 try rfl
theorem p_form2 (st:PS)(bp:Nat)(z:Syn)(bo:Nat)(v:Value)(es:List (List AV))(he:es=z.kids.map Df)(hz:z.kids.length<=1000)(R:List HO)(E:PS->Syn×PS)(hFE:Du E)(hE:∀(st:PS) (bp:Nat),okD 0 st->Bp Tryz.prog 90 bp 116 (cP st) (cP (E st).2) [.val (.pointer (some ⟨bp,0,none⟩))] (.agg (cSyn (E st).1)))(hO:okD 0 st):Cc Tryz.prog 190 (.box bp 116 (cP st) :: .box bo 25 (cRw z v es) :: .row v es.length 25 6::R) [.val (.pointer (some ⟨bp,0,none⟩)),.val (.pointer (some ⟨bo,0,none⟩))] (fun r H'=>r = .tuple []/\∃v' es',es'=(Fp E G0 10 z st).1.kids.map Df/\H' = .box bp 116 (cP (Fp E G0 10 z st).2) :: .box bo 25 (cRw (Fp E G0 10 z st).1 v' es') :: .row v' es'.length 25 6::R):=by
 have hS:=hO.1;have hsc:∀c∈es,Av c=true:=by rw [he];exact Xx _
 have hel:es.length<=1000:=by rw [he,Bg];exact hz
 refine Jz 18 Tryz.func190 rfl ?_;refine AW.ghostPost (Ab (Qp B3 ?_));refine Rt (D2 rfl ((Ee _ _ _ (by simpa using hS) (by decide)).at (k:=0) (H2:=_::_::_::_) rfl rfl)) ?_;refine A7 (T6 1 rfl (Qn 0 rfl B3 (Qn 1 rfl (Aa rfl) (Qn 2 rfl Dg (Qn 3 rfl (Nc (.row _ _ _) rfl) (Qn 4 rfl B3 (Qn 6 rfl (Ho tok rfl rfl rfl rfl) (Qn 7 rfl (N7 tok rfl rfl rfl rfl rfl rfl rfl rfl rfl) ?_))))))));refine aB 5 rfl (D2 rfl ((p_event (Bb Cl st) bp E hFE hE (by simpa using hO)).at (k:=0) (H2:=_::_::_::_) rfl rfl)) (by rintro _ _ ⟨rfl,rfl⟩;simp) ?_;rintro _ _ ⟨rfl,rfl⟩;refine H9.sync (fun _=>True) _ _ 8 _ _ rfl (by kernel_rfl) rfl rfl (Yd (k:=2) tok rfl rfl rfl rfl rfl rfl rfl rfl (Ff rfl) rfl (hsc) (by simp;omega) (by simp [maxLen];omega)) (by kernel_rfl) (fun _ _ _=>trivial) ?_;rintro _ _ ⟨ba14,ca14,rfl,rfl⟩;refine Qn 9 rfl (F7 (o':=es.length*6) tok rfl rfl rfl rfl rfl (by omega) (by omega) (by simp)) ?_;refine Qn 11 rfl (Aa rfl) (Qn 12 rfl Dg ?_);refine H9.two _ _ 10 13 _ _ _ _ rfl rfl (by kernel_rfl) rfl rfl rfl rfl (Ki (k:=2) (v:=.agg _) (H2:=_::_::_::_) tok rfl rfl rfl rfl (by simp) (by simp) rfl rfl rfl rfl) (Mf 1 (.val _) Aj (_::_::_::_) rfl) (by rintro _ _ ⟨rfl,rfl⟩;trivial) (by rintro _ _ ⟨rfl,rfl⟩;trivial) ?_ ?_
 .
  rintro _ _ ⟨rfl,rfl⟩;refine Qz 13 rfl (Mf 1 (.val _) Aj (_::_::_::_) rfl) ?_;refine Jr ?_;refine ⟨_,GS.appCell (H2:=_::_::_::_) 2 1 4 rfl (by simp) rfl rfl rfl rfl,.inl rfl,[],.nil,_,.refl _,?_⟩;exact ⟨rfl,_,_,Lu he,rfl⟩
 rintro _ _ ⟨rfl,rfl⟩;refine Qz 10 rfl (Ki (k:=2) (v:=.agg _) (H2:=_::_::_::_) tok rfl rfl rfl rfl (by simp) (by simp) rfl rfl rfl rfl) ?_;refine Jr ?_;refine ⟨_,GS.appCell (H2:=_::_::_::_) 2 1 4 rfl (by simp) rfl rfl rfl rfl,.inl rfl,[],.nil,_,.refl _,?_⟩;exact ⟨rfl,_,_,Lu he,rfl⟩
theorem p_form1 (st:PS)(bp:Nat)(z:Syn)(bo:Nat)(v:Value)(es:List (List AV))(he:es=z.kids.map Df)(hz:z.kids.length<=1000)(R:List HO):Cc Tryz.prog 189 (.box bp 116 (cP st) :: .box bo 25 (cRw z v es) :: .row v es.length 25 6::R) [.val (.pointer (some ⟨bp,0,none⟩)),.val (.pointer (some ⟨bo,0,none⟩))] (fun r H'=>r = .tuple []/\∃v' es',es'=(Fp G0 G0 9 z st).1.kids.map Df/\H' = .box bp 116 (cP (Fp G0 G0 9 z st).2) :: .box bo 25 (cRw (Fp G0 G0 9 z st).1 v' es') :: .row v' es'.length 25 6::R):=by
 refine Jz 4 Tryz.func189 rfl ?_;refine AW.skip ?_;refine ⟨.inl rfl,[],.nil,_,.refl _,?_⟩;exact ⟨rfl,_,_,he,rfl⟩
theorem p_form3 (st:PS)(bp:Nat)(z:Syn)(bo:Nat)(v:Value)(es:List (List AV))(he:es=z.kids.map Df)(hz:z.kids.length<=1000)(R:List HO)(hS:Wi st):Cc Tryz.prog 191 (.box bp 116 (cP st) :: .box bo 25 (cRw z v es) :: .row v es.length 25 6::R) [.val (.pointer (some ⟨bp,0,none⟩)),.val (.pointer (some ⟨bo,0,none⟩))] (fun r H'=>r = .tuple []/\∃v' es',es'=(Fp G0 G0 11 z st).1.kids.map Df/\H' = .box bp 116 (cP (Fp G0 G0 11 z st).2) :: .box bo 25 (cRw (Fp G0 G0 11 z st).1 v' es') :: .row v' es'.length 25 6::R):=by
 refine Jz 11 Tryz.func191 rfl ?_;refine Ab (Qp B3 ?_);refine Rt (D2 rfl ((Ee _ _ _ (by simpa using hS) (by decide)).at (k:=0) (H2:=_::_::_::_) rfl rfl)) ?_;refine A7 (AW.region (Qp B3 (Qp B3 ?_)));refine Rt (D2 rfl ((mK _ _ (by simpa using hS)).at (k:=0) (H2:=_::_::_::_) rfl rfl)) ?_;refine Qp (Aa rfl) (Qp Dg ?_);refine B4 1 Aj (_::_::_::_) (AOL.nil ?_);refine ⟨.inl rfl,[],.nil,_,.refl _,?_⟩;exact ⟨rfl,_,_,he,rfl⟩
theorem p_form4 (st:PS)(bp:Nat)(z:Syn)(bo:Nat)(v:Value)(es:List (List AV))(he:es=z.kids.map Df)(hz:z.kids.length<=1000)(R:List HO)(E:PS->Syn×PS)(hFE:Du E)(hE:∀(st:PS) (bp:Nat),okD 0 st->Bp Tryz.prog 90 bp 116 (cP st) (cP (E st).2) [.val (.pointer (some ⟨bp,0,none⟩))] (.agg (cSyn (E st).1)))(hO:okD 0 st):Cc Tryz.prog 193 (.box bp 116 (cP st) :: .box bo 25 (cRw z v es) :: .row v es.length 25 6::R) [.val (.pointer (some ⟨bp,0,none⟩)),.val (.pointer (some ⟨bo,0,none⟩))] (fun r H'=>r = .tuple []/\∃v' es',es'=(Fp E G0 12 z st).1.kids.map Df/\H' = .box bp 116 (cP (Fp E G0 12 z st).2) :: .box bo 25 (cRw (Fp E G0 12 z st).1 v' es') :: .row v' es'.length 25 6::R):=by
 have hS:=hO.1;have hsc:∀c∈es,Av c=true:=by rw [he];exact Xx _
 have hel:es.length<=1000:=by rw [he,Bg];exact hz
 refine Jz 18 Tryz.func193 rfl ?_;refine AW.ghostPost (Ab (Qp B3 ?_));refine Rt (D2 rfl ((Ee _ _ _ (by simpa using hS) (by decide)).at (k:=0) (H2:=_::_::_::_) rfl rfl)) ?_;refine A7 (T6 1 rfl (Qn 0 rfl B3 (Qn 1 rfl (Aa rfl) (Qn 2 rfl Dg (Qn 3 rfl (Nc (.row _ _ _) rfl) (Qn 4 rfl B3 (Qn 6 rfl (Ho tok rfl rfl rfl rfl) (Qn 7 rfl (N7 tok rfl rfl rfl rfl rfl rfl rfl rfl rfl) ?_))))))));refine aB 5 rfl (D2 rfl ((hE (Bb Cl st) bp (by simpa using hO)).at (k:=0) (H2:=_::_::_::_) rfl rfl)) (by rintro _ _ ⟨rfl,rfl⟩;simp) ?_;rintro _ _ ⟨rfl,rfl⟩;refine H9.sync (fun _=>True) _ _ 8 _ _ rfl (by kernel_rfl) rfl rfl (Yd (k:=2) tok rfl rfl rfl rfl rfl rfl rfl rfl (Ff rfl) rfl (hsc) (by simp;omega) (by simp [maxLen];omega)) (by kernel_rfl) (fun _ _ _=>trivial) ?_;rintro _ _ ⟨ba14,ca14,rfl,rfl⟩;refine Qn 9 rfl (F7 (o':=es.length*6) tok rfl rfl rfl rfl rfl (by omega) (by omega) (by simp)) ?_;refine Qn 11 rfl (Aa rfl) (Qn 12 rfl Dg ?_);refine H9.two _ _ 10 13 _ _ _ _ rfl rfl (by kernel_rfl) rfl rfl rfl rfl (Ki (k:=2) (v:=.agg _) (H2:=_::_::_::_) tok rfl rfl rfl rfl (by simp) (by simp) rfl rfl rfl rfl) (Mf 1 (.val _) Aj (_::_::_::_) rfl) (by rintro _ _ ⟨rfl,rfl⟩;trivial) (by rintro _ _ ⟨rfl,rfl⟩;trivial) ?_ ?_
 .
  rintro _ _ ⟨rfl,rfl⟩;refine Qz 13 rfl (Mf 1 (.val _) Aj (_::_::_::_) rfl) ?_;refine Jr ?_;refine ⟨_,GS.appCell (H2:=_::_::_::_) 2 1 4 rfl (by simp) rfl rfl rfl rfl,.inl rfl,[],.nil,_,.refl _,?_⟩;exact ⟨rfl,_,_,Lu he,rfl⟩
 rintro _ _ ⟨rfl,rfl⟩;refine Qz 10 rfl (Ki (k:=2) (v:=.agg _) (H2:=_::_::_::_) tok rfl rfl rfl rfl (by simp) (by simp) rfl rfl rfl rfl) ?_;refine Jr ?_;refine ⟨_,GS.appCell (H2:=_::_::_::_) 2 1 4 rfl (by simp) rfl rfl rfl rfl,.inl rfl,[],.nil,_,.refl _,?_⟩;exact ⟨rfl,_,_,Lu he,rfl⟩
abbrev dH (T:PS->Syn×PS)(st:PS):Syn×PS:=T (Bb Cl st)
theorem p_several (st:PS)(bp:Nat)(z:Syn)(bo:Nat)(v:Value)(es:List (List AV))(he:es=z.kids.map Df)(hz:z.kids.length<=1000)(R:List HO)(D:Int)(hD:0<=D)(T:PS->Syn×PS)(hFT:Du T)(hT:∀(st:PS) (bp:Nat),okD D st->Bp Tryz.prog 89 bp 116 (cP st) (cP (T st).2) [.val (.pointer (some ⟨bp,0,none⟩))] (.agg (cSyn (T st).1)))(hO:okD D st):Cc Tryz.prog 188 (.box bp 116 (cP st) :: .box bo 25 (cRw z v es) :: .row v es.length 25 6::R) [.val (.pointer (some ⟨bp,0,none⟩)),.val (.pointer (some ⟨bo,0,none⟩))] (fun r H'=>r = .tuple []/\∃v' es',es'=(dI T z st).1.kids.map Df/\H' = .box bp 116 (cP (dI T z st).2) :: .box bo 25 (cRw (dI T z st).1 v' es') :: .row v' es'.length 25 6::R):=by
 have hS:=hO.1;have hsc:∀c∈es,Av c=true:=by rw [he];exact Xx _
 have hel:es.length<=1000:=by rw [he,Bg];exact hz
 have hO1:okD D (Bb Cl st):=by simpa using hO
 have hO3:okD D (dH T st).2:=hFT.okD hD hO1;refine Jz 32 Tryz.func188 rfl ?_;refine AW.ghostPost (Ab (Qp B3 ?_));refine Rt (D2 rfl ((Ee _ _ _ (by simpa using hS) (by decide)).at (k:=0) (H2:=_::_::_::_) rfl rfl)) ?_;refine A7 ?_;refine AW.Aat (fun (q:Value)=>(⟨[(0,.val (.pointer (some ⟨bp,0,none⟩))),(1,.val (.pointer (some ⟨bo,0,none⟩)))],.box bp 116 (cP (dH T st).2) :: .box bo 25 (cRw z q (es ++ [cSyn (dH T st).1])) :: .row q (es ++ [cSyn (dH T st).1]).length 25 6::R,32⟩:St)) (fun q=>True) ?_ ?_
 .
  refine T6 1 rfl (Qn 0 rfl B3 (Qn 1 rfl (Aa rfl) (Qn 2 rfl Dg (Qn 3 rfl (Nc (.row _ _ _) rfl) (Qn 4 rfl B3 (Qn 6 rfl (Ho tok rfl rfl rfl rfl) (Qn 7 rfl (N7 tok rfl rfl rfl rfl rfl rfl rfl rfl rfl) ?_)))))));refine aB 5 rfl (D2 rfl ((hT (Bb Cl st) bp hO1).at (k:=0) (H2:=_::_::_::_) rfl rfl)) (by rintro _ _ ⟨rfl,rfl⟩;simp) ?_;rintro _ _ ⟨rfl,rfl⟩;refine H9.sync (fun _=>True) _ _ 8 _ _ rfl (by kernel_rfl) rfl rfl (Yd (k:=2) tok rfl rfl rfl rfl rfl rfl rfl rfl (Ff rfl) rfl (hsc) (by simp;omega) (by simp [maxLen];omega)) (by kernel_rfl) (fun _ _ _=>trivial) ?_;rintro _ _ ⟨ba14,ca14,rfl,rfl⟩;refine Qn 9 rfl (F7 (o':=es.length*6) tok rfl rfl rfl rfl rfl (by omega) (by omega) (by simp)) ?_;refine Qn 11 rfl (Aa rfl) (Qn 12 rfl Dg ?_);refine H9.two _ _ 10 13 _ _ _ _ rfl rfl (by kernel_rfl) rfl rfl rfl rfl (Ki (k:=2) (v:=.agg _) (H2:=_::_::_::_) tok rfl rfl rfl rfl (by simp) (by simp) rfl rfl rfl rfl) (Mf 1 (.val _) Aj (_::_::_::_) rfl) (by rintro _ _ ⟨rfl,rfl⟩;trivial) (by rintro _ _ ⟨rfl,rfl⟩;trivial) ?_ ?_
  .
   rintro _ _ ⟨rfl,rfl⟩;refine Qz 13 rfl (Mf 1 (.val _) Aj (_::_::_::_) rfl) ?_;refine Jr ?_;refine Ap ?_;refine ⟨.slice (some ⟨ba14,0,none⟩) (es.length+1) ca14,?_,GS.trans (GS.appCell (H2:=_::_::_::_) 2 1 4 rfl (by simp) rfl rfl rfl rfl) Dp⟩
   trivial
  rintro _ _ ⟨rfl,rfl⟩;refine Qz 10 rfl (Ki (k:=2) (v:=.agg _) (H2:=_::_::_::_) tok rfl rfl rfl rfl (by simp) (by simp) rfl rfl rfl rfl) ?_;refine Jr ?_;refine Ap ?_;refine ⟨.slice (some ⟨ba14,0,none⟩) (es.length+1) ca14,?_,GS.trans (GS.appCell (H2:=_::_::_::_) 2 1 4 rfl (by simp) rfl rfl rfl rfl) Dp⟩
  trivial
 rintro q _;refine AW.block ?_;refine AW.Aan (fun (p:Nat×PS×List Syn×List (List AV)×Value)=>(⟨[(0,.val (.pointer (some ⟨bp,0,none⟩))),(1,.val (.pointer (some ⟨bo,0,none⟩)))],.box bp 116 (cP p.2.1) :: .box bo 25 (cRw z p.2.2.2.2 p.2.2.2.1) :: .row p.2.2.2.2 p.2.2.2.1.length 25 6::R,32⟩:St)) (fun p=>p.2.2.2.1=p.2.2.1.map Df/\okD D p.2.1/\B1 p.2.1<=p.1/\p.2.2.1.length<=p.2.1.pos+1002/\Gb T (B1 (dH T st).2) (dH T st).2 (z.kids ++ [(dH T st).1])=Gb T p.1 p.2.1 p.2.2.1) (fun p=>p.1) ((B1 (dH T st).2,(dH T st).2,z.kids ++ [(dH T st).1],es ++ [cSyn (dH T st).1],q)) ?_ Dp ?_
 . exact ⟨Lu he,hO3,Be _,by simp only [Al,E6];omega,rfl⟩
 rintro p hR;have hes:p.2.2.2.1=p.2.2.1.map Df:=hR.1;have hO2:okD D p.2.1:=hR.2.1;have hS:=hO2.1;have hfu:B1 p.2.1<=p.1:=hR.2.2.1;have hn:0<p.1:=by unfold B1 at hfu;omega
 have hol:p.2.2.1.length<=p.2.1.pos+1002:=hR.2.2.2.1;have hsc2:∀c∈p.2.2.2.1,Av c=true:=by rw [hes];exact Xx _
 have hel2:p.2.2.2.1.length=p.2.2.1.length:=by rw [hes,Bg]
 refine Cj (Qp B3 ?_);refine Rt (D2 rfl ((Fl _ _ _ (by simpa using hS) (by decide)).at (k:=0) (H2:=_::_::_::_) rfl rfl)) ?_;refine Br (fun hc1=>?_) fun hc1=>?_
 .
  try simp only [A2,Bf] at hc1
  have hlt:=Z2 hc1;have hml:=hS.1;have hFa:=hFT (adv p.2.1) (by have:=hO2.2.1;show (0:Int)<=p.2.1.depth;omega) hO2.2.2;have hps:p.2.1.pos+1<=(T (adv p.2.1)).2.pos:=hFa.2.1;have hts:(T (adv p.2.1)).2.toks=p.2.1.toks:=hFa.1;refine AW.ghost (GS.Aap (H2:=_::_::_::_) 0 rfl (congrArg cP (Gd hc1)) rfl) ?_;refine B8 (AW.block (T6 1 rfl (Qn 0 rfl B3 (Qn 1 rfl (Aa rfl) (Qn 2 rfl Dg (Qn 3 rfl (Nc (.row _ _ _) rfl) (Qn 4 rfl B3 (Qn 6 rfl (Ho tok rfl rfl rfl rfl) (Qn 7 rfl (N7 tok rfl rfl rfl rfl rfl rfl rfl rfl rfl) ?_)))))))));refine aB 5 rfl (D2 rfl ((hT _ bp (by simpa using hO2)).at (k:=0) (H2:=_::_::_::_) rfl rfl)) (by rintro _ _ ⟨rfl,rfl⟩;simp) ?_;rintro _ _ ⟨rfl,rfl⟩;refine H9.sync (fun _=>True) _ _ 8 _ _ rfl (by kernel_rfl) rfl rfl (Yd (k:=2) tok rfl rfl rfl rfl rfl rfl rfl rfl (Ff rfl) rfl (hsc2) (by simp;omega) (by simp [maxLen];omega)) (by kernel_rfl) (fun _ _ _=>trivial) ?_;rintro _ _ ⟨ba28,ca28,rfl,rfl⟩;refine Qn 9 rfl (F7 (o':=p.2.2.2.1.length*6) tok rfl rfl rfl rfl rfl (by omega) (by omega) (by simp)) ?_;refine Qn 11 rfl (Aa rfl) (Qn 12 rfl Dg ?_);refine H9.two _ _ 10 13 _ _ _ _ rfl rfl (by kernel_rfl) rfl rfl rfl rfl (Ki (k:=2) (v:=.agg _) (H2:=_::_::_::_) tok rfl rfl rfl rfl (by simp) (by simp) rfl rfl rfl rfl) (Mf 1 (.val _) Aj (_::_::_::_) rfl) (by rintro _ _ ⟨rfl,rfl⟩;trivial) (by rintro _ _ ⟨rfl,rfl⟩;trivial) ?_ ?_
  .
   rintro _ _ ⟨rfl,rfl⟩;refine Qz 13 rfl (Mf 1 (.val _) Aj (_::_::_::_) rfl) ?_;refine Jr ?_;refine Km (Ap ?_);refine ⟨(p.1-1,(T (adv p.2.1)).2,p.2.2.1 ++ [(T (adv p.2.1)).1],p.2.2.2.1 ++ [cSyn (T (adv p.2.1)).1],.slice (some ⟨ba28,0,none⟩) (p.2.2.2.1.length+1) ca28),?_,?_,GS.trans (GS.appCell (H2:=_::_::_::_) 2 1 4 rfl (by simp) rfl rfl rfl rfl) Dp⟩
   . exact ⟨Lu hes,hFT.okD hD (by simpa using hO2),by unfold B1 at hfu ⊢;rw [hts];simp only;omega,by simp only [Al,E6];omega,hR.2.2.2.2.trans (by rw [Rq hn,if_pos hc1])⟩
   simp only;omega
  rintro _ _ ⟨rfl,rfl⟩;refine Qz 10 rfl (Ki (k:=2) (v:=.agg _) (H2:=_::_::_::_) tok rfl rfl rfl rfl (by simp) (by simp) rfl rfl rfl rfl) ?_;refine Jr ?_;refine Km (Ap ?_);refine ⟨(p.1-1,(T (adv p.2.1)).2,p.2.2.1 ++ [(T (adv p.2.1)).1],p.2.2.2.1 ++ [cSyn (T (adv p.2.1)).1],.slice (some ⟨ba28,0,none⟩) (p.2.2.2.1.length+1) ca28),?_,?_,GS.trans (GS.appCell (H2:=_::_::_::_) 2 1 4 rfl (by simp) rfl rfl rfl rfl) Dp⟩
  . exact ⟨Lu hes,hFT.okD hD (by simpa using hO2),by unfold B1 at hfu ⊢;rw [hts];simp only;omega,by simp only [Al,E6];omega,hR.2.2.2.2.trans (by rw [Rq hn,if_pos hc1])⟩
  simp only;omega
 try simp only [A2,Bf] at hc1
 refine AW.ghost (GS.Aap (H2:=_::_::_::_) 0 rfl (congrArg cP (I4 hc1)) rfl) ?_;refine AW.exit ?_;refine B9 (B9 (W0 ?_));refine ⟨_,GS.refl _,.inl rfl,[],.nil,_,.refl _,?_⟩
 have h9:dI T z st=({ z with kids:=p.2.2.1 },p.2.1):=by
  have h8:Gb T (B1 (dH T st).2) (dH T st).2 (z.kids ++ [(dH T st).1])=(p.2.2.1,p.2.1):=hR.2.2.2.2.trans (by rw [Rq hn,iN hc1]);unfold dI;simp only;rw [h8]
 exact ⟨rfl,p.2.2.2.2,p.2.2.2.1,by rw [h9];exact hes,by rw [h9]⟩
def formC:List (List AV):=[[.str Z8,.int .i64 6,.fn (.func 188) [] []],[.str Z7,.int .i64 7,.fn (.func 188) [] []],[.str Z6,.int .i64 8,.fn (.func 188) [] []],[.str T0,.int .i64 9,.fn (.func 189) [] []],[.str Oc,.int .i64 10,.fn (.func 190) [] []],[.str Lx,.int .i64 11,.fn (.func 191) [] []],[.str Lw,.int .i64 12,.fn (.func 193) [] []]]
theorem pp_forms  : Au Tryz.prog 150 [] (.sl 3 formC):=by
 refine G3 9 Tryz.func150 rfl fun H=>?_
 refine Ab (Qp (Ck (z:=3) rfl) (Cf (Qp (Gz wQ) (Qp (Gz wQ) (Qp (Gz wQ) (Qp (Gz wQ) (Qp (Gz wQ) (Qp (Gz wQ) (Qp (Gz wQ) (Qp (Kf [wQ,wQ,wQ,wQ,wQ,wQ,wQ] rfl) (Qp rL (Rb (Qr (.sl _ _) ?_)))))))))))));rfl
def aA (fn:Nat)(E T:PS->Syn×PS)(D:Int)(k:Int):Prop:=∀(st:PS) (bp:Nat) (z:Syn) (bo:Nat) (v:Value) (es:List (List AV)) (he:es=z.kids.map Df) (hz:z.kids.length<=1000) (R:List HO),okD D st->Cc Tryz.prog fn (.box bp 116 (cP st) :: .box bo 25 (cRw z v es) :: .row v es.length 25 6::R) [.val (.pointer (some ⟨bp,0,none⟩)),.val (.pointer (some ⟨bo,0,none⟩))] (fun r H'=>r = .tuple []/\∃v' es',es'=(Fp E T k z st).1.kids.map Df/\H' = .box bp 116 (cP (Fp E T k z st).2) :: .box bo 25 (cRw (Fp E T k z st).1 v' es') :: .row v' es'.length 25 6::R)
theorem Vw (D:Int)(hD:0<=D)(T:PS->Syn×PS)(hFT:Du T)(hT:∀(st:PS) (bp:Nat),okD D st->Bp Tryz.prog 89 bp 116 (cP st) (cP (T st).2) [.val (.pointer (some ⟨bp,0,none⟩))] (.agg (cSyn (T st).1)))(E:PS->Syn×PS)(k:Int)(h:k<=8):aA 188 E T D k:=fun st bp z bo v es he hz R hO=>by
 have e:Fp E T k z st=dI T z st:=by unfold Fp;rw [if_pos (Gt h)]
 rw [e];exact p_several st bp z bo v es he hz R D hD T hFT hT hO
theorem rest_plus (D:Int)(E T:PS->Syn×PS):aA 189 E T D 9:=fun st bp z bo v es he hz R hO=>p_form1 st bp z bo v es he hz R
theorem rest_lacks (E:PS->Syn×PS)(hFE:Du E)(hE:∀(st:PS) (bp:Nat),okD 0 st->Bp Tryz.prog 90 bp 116 (cP st) (cP (E st).2) [.val (.pointer (some ⟨bp,0,none⟩))] (.agg (cSyn (E st).1)))(D:Int)(hD:0<=D)(T:PS->Syn×PS):aA 190 E T D 10:=fun st bp z bo v es he hz R hO=>p_form2 st bp z bo v es he hz R E hFE hE (mH hD hO)
theorem yS (D:Int)(E T:PS->Syn×PS):aA 191 E T D 11:=fun st bp z bo v es he hz R hO=>p_form3 st bp z bo v es he hz R hO.1
theorem rest_where (E:PS->Syn×PS)(hFE:Du E)(hE:∀(st:PS) (bp:Nat),okD 0 st->Bp Tryz.prog 90 bp 116 (cP st) (cP (E st).2) [.val (.pointer (some ⟨bp,0,none⟩))] (.agg (cSyn (E st).1)))(D:Int)(hD:0<=D)(T:PS->Syn×PS):aA 193 E T D 12:=fun st bp z bo v es he hz R hO=>p_form4 st bp z bo v es he hz R E hFE hE (mH hD hO)
theorem form_get (E:PS->Syn×PS)(hFE:Du E)(hE:∀(st:PS) (bp:Nat),okD 0 st->Bp Tryz.prog 90 bp 116 (cP st) (cP (E st).2) [.val (.pointer (some ⟨bp,0,none⟩))] (.agg (cSyn (E st).1)))(D:Int)(hD:0<=D)(T:PS->Syn×PS)(hFT:Du T)(hT:∀(st:PS) (bp:Nat),okD D st->Bp Tryz.prog 89 bp 116 (cP st) (cP (T st).2) [.val (.pointer (some ⟨bp,0,none⟩))] (.agg (cSyn (T st).1)))(k:Nat)(hk:k<7):∃(x:Ac×Int) (fn:Nat),formL[k]? = some x/\formC[k]? = some [.str x.1,.int .i64 x.2,.fn (.func fn) [] []]/\Y0 Tryz.prog fn=true/\x.1.length<=1048576/\aA fn E T D x.2:=by
 match k,hk with
 | 0,_=>exact ⟨_,_,rfl,rfl,by kernel_rfl,by decide,Vw D hD T hFT hT E 6 (by decide)⟩
 | 1,_=>exact ⟨_,_,rfl,rfl,by kernel_rfl,by decide,Vw D hD T hFT hT E 7 (by decide)⟩
 | 2,_=>exact ⟨_,_,rfl,rfl,by kernel_rfl,by decide,Vw D hD T hFT hT E 8 (by decide)⟩
 | 3,_=>exact ⟨_,_,rfl,rfl,by kernel_rfl,by decide,rest_plus D E T⟩
 | 4,_=>exact ⟨_,_,rfl,rfl,by kernel_rfl,by decide,rest_lacks E hFE hE D hD T⟩
 | 5,_=>exact ⟨_,_,rfl,rfl,by kernel_rfl,by decide,yS D E T⟩
 | 6,_=>exact ⟨_,_,rfl,rfl,by kernel_rfl,by decide,rest_where E hFE hE D hD T⟩
def patRd (E T:PS->Syn×PS)(k:Int)(z:Syn)(s:PS):Syn×PS:=((Fp E T k { z with kids:=[(T (Bb Ds s)).1] } (T (Bb Ds s)).2).1,Bb Gp (Fp E T k { z with kids:=[(T (Bb Ds s)).1] } (T (Bb Ds s)).2).2)
theorem yC (st:PS)(bp:Nat)(z:Syn)(bo:Nat)(R:List HO)(E:PS->Syn×PS)(hFE:Du E)(hE:∀(st:PS) (bp:Nat),okD 0 st->Bp Tryz.prog 90 bp 116 (cP st) (cP (E st).2) [.val (.pointer (some ⟨bp,0,none⟩))] (.agg (cSyn (E st).1)))(D:Int)(hD:0<=D)(T:PS->Syn×PS)(hFT:Du T)(hT:∀(st:PS) (bp:Nat),okD (D+1) st->Bp Tryz.prog 89 bp 116 (cP st) (cP (T st).2) [.val (.pointer (some ⟨bp,0,none⟩))] (.agg (cSyn (T st).1)))(w:Ac)(k:Int)(fn:Nat)(hfn:Y0 Tryz.prog fn=true)(hr:aA fn E T (D+1) k)(hO:okD (D+1) st):Cc Tryz.prog 152 (.box bp 116 (cP st) :: .box bo 25 (cSyn z)::R) [.ptr [.val (.pointer (some ⟨bp,0,none⟩))],.val (.pointer (some ⟨bo,0,none⟩)),.ptr [.str w,.int .i64 k,.fn (.func fn) [] []]] (fun r H'=>r = .tuple []/\H' = .box bp 116 (cP (patRd E T k z st).2) :: .box bo 25 (cSyn (patRd E T k z st).1)::R):=by
 have hS:=hO.1;have hO1:okD (D+1) (Bb Ds st):=by simpa using hO
 have hO2:=hFT.okD (by omega) hO1;have hO4:okD (D+1) (Fp E T k { z with kids:=[(T (Bb Ds st)).1] } (T (Bb Ds st)).2).2:=Om hO2 (qA hFE hFT k { z with kids:=[(T (Bb Ds st)).1] } (Ps (by omega) hO2));refine Jz 15 Tryz.func152 rfl ?_;refine AW.ghostPost (Ab (Qp Md ?_));refine Rt (D2 rfl ((Ee _ _ _ (by simpa using hS) (by decide)).at (k:=0) (H2:=_::_::_) rfl rfl)) ?_;refine Cf (Qp Md (Rcl ((hT (Bb Ds st) bp hO1).at (k:=0) (H2:=_::_::_) rfl rfl) (Qe (Jl (es:=[Aj]) tok rfl rfl rfl rfl rfl rfl rfl rfl rfl) ?_)));rintro _ _ ⟨v7,rfl,rfl⟩;refine Qp Dg ?_;refine B4 2 Aj (_::_::_::_) (Cf (Qp (Qf [_]) (Qp (E1 (c:=.fn _ _ _) tok rfl rfl rfl) (Qp Md ?_))));refine Qe (Ms (hfn) rfl rfl rfl (Cc.front2 (R:=_::_) 2 1 rfl rfl rfl (hr (T (Bb Ds st)).2 bp { z with kids:=[(T (Bb Ds st)).1] } bo _ _ (by rw [Ao,A0,Bi]) (by simp) _ hO2))) ?_;rintro _ _ ⟨rfl,v2,e2,rfl,rfl⟩;have hS:=hO4.1;refine A7 (AW.region (Qp Md ?_));refine Rt (D2 rfl ((Ee _ _ _ (by simpa using hS) (by decide)).at (k:=0) (H2:=_::_::_::_) rfl rfl)) ?_;refine AOL.nil ?_;refine ⟨_,GS.cell (H2:=_::_::_::_) 1 4 rfl rfl rfl rfl Fg,.inl rfl,[],.nil,_,.cons_cons _ (.cons_cons _ (.cons _ (.refl _))),?_⟩;exact ⟨rfl,rfl⟩
theorem qN (st:PS)(bp:Nat)(E:PS->Syn×PS)(hFE:Du E)(hE:∀(st:PS) (bp:Nat),okD 0 st->Bp Tryz.prog 90 bp 116 (cP st) (cP (E st).2) [.val (.pointer (some ⟨bp,0,none⟩))] (.agg (cSyn (E st).1)))(D:Int)(hD:0<=D)(T:PS->Syn×PS)(hFT:Du T)(hT:∀(st:PS) (bp:Nat),okD (D+1) st->Bp Tryz.prog 89 bp 116 (cP st) (cP (T st).2) [.val (.pointer (some ⟨bp,0,none⟩))] (.agg (cSyn (T st).1)))(hO:okD D st):Bp Tryz.prog 89 bp 116 (cP st) (cP ((Sv E T st).2)) [.val (.pointer (some ⟨bp,0,none⟩))] (.agg (cSyn (Sv E T st).1)):=by
 intro H;have hS:=hO.1;refine Jz 29 Tryz.func89 rfl ?_;refine Ab (Qp (Zx (v:=.val _) (cs:=[_]) rfl rfl rfl) ?_);refine E8 Kb fun b2=>?_
 refine A7 (Cj (Qp (Qc rfl (pp_forms )) (Qp (G6 7 rfl rfl (rfl)) (Qp Ax (A7 (AW.block ?_))))));refine AW.Aan (fun (k:Nat)=>(⟨[(1,.ptr [.val (.pointer (some ⟨bp,0,none⟩))]),(2,.val (.pointer (some ⟨b2,0,none⟩))),(6,.sl 3 formC),(7,.int .i64 7),(8,.int .i64 (k:Int))],.box b2 25 (cSyn Iz) :: .box bp 116 (cP st)::H,29⟩:St)) (fun k=>k<=7/\∀j y,j<k->formL[j]? = some y->Ea y.1 st=false) (fun k=>7-k) (0) ?_ Dp ?_
 . exact ⟨Bk _,fun j y hj=>absurd hj (Nat.not_lt_zero _)⟩
 rintro k hR;refine Ab (Qp C5 (Re (Hs (fun hc1=>?_) fun hc1=>?_)))
 .
  try simp only [A2,Bf] at hc1
  have hk:k<7:=by have:=Ec hc1;omega
  refine (form_get E hFE hE (D+1) (by omega) T hFT hT k hk).elim fun x hx0=>hx0.elim fun fn hx3=>?_
  have hx:=hx3.1;have hx2:=hx3.2.1;have hfn:=hx3.2.2.1;have hwx:=hx3.2.2.2.1;have hrk:=hx3.2.2.2.2;refine B8 (AW.seq (AW.block (Ab ?_)));refine Qp (F5 ([.str x.1,.int .i64 x.2,.fn (.func fn) [] []]) rfl rfl (by omega) (hx2)) ?_;refine Qp (C8 wQ) (E8 [.str [],.int .i64 0,.val .nilFunc] fun b4=>?_);refine B4 0 wQ (_::_::_::_) ?_;refine Me 4 0 rfl ?_;refine A7 (Cj (Qp Md (Qp (Qf wQ) (Qp Hn ?_))));refine AOL.Aaq (C0 (k:=1) (by kernel_rfl) rfl rfl (p_is _ _ _ (by simpa using hS) (by assumption))) rfl rfl ?_;refine Qp Ke (Br (fun hc2=>?_) fun hc2=>?_)
  .
   try simp only [A2,Bf] at hc2
   refine AW.exit (Ri (AW.region (Qp Ii (Qp Ax (A7 ?_)))));refine ⟨k+1,?_,?_,Dp⟩
   . exact ⟨hk,fun j y hj hy=>by rcases dQ.1 hj with h | rfl;exact hR.2 j y h hy;rw [hx] at hy;cases hy;exact hc2⟩
   omega
  try simp only [A2,Bf] at hc2
  have hfd:formL.find? (fun f=>Ea f.1 st)=some x:=cC hR.2 hx hc2;refine B8 (AW.seq (T6 1 rfl (Qn 0 rfl (Qf [Iq _,_]) (Qn 1 rfl B7 (Qn 2 rfl Md ?_)))));refine Qn 3 rfl (D1.mem (fun k=>C0 (k:=k) (by kernel_rfl) rfl rfl (Lr _ _)) (fun _ h=>h)) ?_;refine Qn 4 rfl (Gz Aj) ?_;refine aB 5 rfl (G5 (l:=Kb) (by kernel_rfl)) (by rintro _ _ ⟨b5,rfl,rfl⟩;simp) ?_;rintro _ _ ⟨b5,rfl,rfl⟩;refine iR 6 rfl (Mf 0 (.agg _) Aj (_::_::_::_) rfl) ?_;rintro _ _ ⟨rfl,rfl⟩;refine Ap (Ab (Qp Md (Qp (Ca (l:=[]) (l':=[.ptr _,.val _,.ptr _]) rfl rfl) ?_)));refine Rt (D2 rfl (Cc.front2 (R:=_::_) 0 1 rfl rfl rfl (fH (patRd E T x.2) ⟨x.2,[],[],0,[],D4 st⟩ st bp b5 _ 152 (by kernel_rfl) [] [.ptr [.val (.pointer (some ⟨bp,0,none⟩))],.val (.pointer (some ⟨b5,0,none⟩)),.ptr [.str x.1,.int .i64 x.2,.fn (.func fn) [] []]] (Z2 hc2) hS (fun hb=>yC _ bp ⟨x.2,[],[],0,[],D4 st⟩ b5 _ E hFE hE D hD T hFT hT x.1 x.2 fn hfn hrk (mG hD hO hb))))) ?_;refine Cf (Tn 1 Aj rfl ?_);refine B4 2 Aj (_::_::_::_) (Ra (Bc (Ep (Bc ?_))));refine ⟨.inr rfl,[.agg Aj],.cons (.box _ _ _ 2 _ _ _ _ rfl rfl rfl rfl rfl rfl) <| .nil,_,.cons_cons _ (.cons _ (.cons _ (.refl _))),?_⟩;have h9:Sv E T st=M4 (patRd E T x.2) ⟨x.2,[],[],0,[],D4 st⟩ st:=by unfold Sv;rw [hfd];rfl
  exact ⟨by rw [h9];rfl,congrArg (fun s=>HO.box bp 116 (cP s)::H) (by rw [h9])⟩
 try simp only [A2,Bf] at hc1
 have hkn:¬k<7:=by have:=He hc1;omega
 have hfd:formL.find? (fun f=>Ea f.1 st)=none:=kV (k:=k) hkn hR.2;refine AW.exit ?_;refine B9 (Ri (Ab (Qp Md ?_)));refine Rcl ((p_event st bp E hFE hE (mH hD hO)).at (k:=1) (H2:=_::_::_) rfl rfl) ?_;refine B4 0 Aj (_::_::_) (Rb ?_);refine ⟨.inr rfl,[.agg Aj],Zb 0,_,S1,?_⟩;have h9:Sv E T st=Hu E st:=by unfold Sv;rw [hfd]
 exact ⟨by rw [h9];rfl,congrArg (fun s=>HO.box bp 116 (cP s)::H) (by rw [h9])⟩
theorem pat_all (E:PS->Syn×PS)(hFE:Du E)(hE:∀(st:PS) (bp:Nat),okD 0 st->Bp Tryz.prog 90 bp 116 (cP st) (cP (E st).2) [.val (.pointer (some ⟨bp,0,none⟩))] (.agg (cSyn (E st).1))):∀(n:Nat),n<=64->∀(st:PS) (bp:Nat),okD (64-(n:Int)) st->Bp Tryz.prog 89 bp 116 (cP st) (cP (fK E n st).2) [.val (.pointer (some ⟨bp,0,none⟩))] (.agg (cSyn (fK E n st).1))
  | 0,_=>fun st bp hO=>qN st bp E hFE hE 64 (by decide) G0 J2 (fun _ _ h=>(Xo h).elim) hO
  | n+1,hn=>fun st bp hO=>by
    have ih:=pat_all E hFE hE n (by omega);exact qN st bp E hFE hE (64-((n+1:Nat):Int)) (by omega) (fK E n) (eS hFE n) (fun s b h=>ih s b ⟨h.1,by have:=h.2.1;omega,h.2.2⟩) hO
theorem jA:Du EE:=(Mz 64).2
theorem fine_TT:Du TT:=eS jA 64
theorem p_EE (st:PS)(bp:Nat)(h:okD 0 st):Bp Tryz.prog 90 bp 116 (cP st) (cP (EE st).2) [.val (.pointer (some ⟨bp,0,none⟩))] (.agg (cSyn (EE st).1)):=(neg_all 64 (Be _)).2 st bp h
theorem p_TT (st:PS)(bp:Nat)(h:okD 0 st):Bp Tryz.prog 89 bp 116 (cP st) (cP (TT st).2) [.val (.pointer (some ⟨bp,0,none⟩))] (.agg (cSyn (TT st).1)):=pat_all EE jA p_EE 64 (Be _) st bp h
end Go.Proofs.YtibcelnfkhdjaaaGreatDoor
