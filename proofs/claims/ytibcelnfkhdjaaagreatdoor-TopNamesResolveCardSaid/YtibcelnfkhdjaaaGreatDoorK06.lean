/-
  Several texts in one: P5, P7, P17, P8, X12, V5, V6, V7, V8, V9. No condition.
-/
import Derived.Test.YtibcelnfkhdjaaaGreatDoorK05
import Derived.Test.YtibcelnfkhdjaaaGreatDoorK04
import Derived.Test.YtibcelnfkhdjaaaGreatDoorK03
import Derived.KernelRfl
set_option linter.unusedVariables false
set_option linter.unusedSimpArgs false
set_option maxHeartbeats 3200000
set_option maxRecDepth 20000
namespace Go.Proofs.YtibcelnfkhdjaaaGreatDoor
open Go Go.Aw
theorem Xj (s sub:Ag):Lib.contains s sub=true↔∃j,j<=s.length/\Lib.occAt s sub j=true:=by
 unfold Lib.contains;rw [Ea];rcases Lib.index_spec s sub with ⟨h1,h2⟩ | ⟨i,h1,h2,h3,_⟩
 .
  rw [h1]
  constructor
  . intro h;omega
  rintro ⟨j,hj,ho⟩;rw [h2 j hj] at ho;cases ho
 rw [h1];exact ⟨fun _=>⟨i,h2,h3⟩,fun _=>by omega⟩
theorem Xk (s:Ag)(c:UInt8):Lib.contains s [c]=true↔c∈s:=by
 rw [Xj]
 constructor
 .
  rintro ⟨j,_,ho⟩;unfold Lib.occAt at ho;rw [Z6] at ho;obtain ⟨t,ht⟩:=ho;exact List.mem_of_mem_drop (i:=j) (by rw [<-ht];simp)
 intro h;obtain ⟨u,v,rfl⟩:=List.append_of_mem h;refine ⟨u.length,by simp,?_⟩;unfold Lib.occAt;rw [List.drop_left,Z6];exact ⟨v,rfl⟩
def kwL:List Ag:=[[97,108,108],[97,108,116],[97,110,100],[98,111,111,108],[98,121],[99,111,117,110,116],[102,97,108,115,101],[102,105,114,115,116],[105,102],[105,110,116],[108,97,99,107,115],[108,97,115,116],[109,97,116,99,104],[109,97,120],[109,105,110],[110,111,116],[111,114],[112,108,117,115],[113,117,101,114,121],[114,101,116,117,114,110],[115,101,113],[115,116,114,105,110,103],[115,117,109],[116,105,109,101],[116,114,117,101],[116,121,112,101],[119,104,101,114,101],[119,105,116,104,105,110]]
theorem keyR_any (s:Ag):xO s=kwL.any (fun w=>s==w):=by
 unfold xO kwL;simp only [L0,List.any_nil,Pn,Bool.or_assoc]
theorem keyR_mem (s:Ag):xO s=true↔s∈kwL:=by
 rw [keyR_any,List.any_eq_true]
 constructor
 .
  rintro ⟨w,hw,he⟩;rw [beq_iff_eq] at he;exact he▸hw
 intro h;exact ⟨s,h,beq_self_eq_true _⟩
theorem oK:∀(s l:Ag),32∉s->(s ++ [32]).isPrefixOf l=true->s=l.takeWhile (fun c=>c != 32)/\32∈l
  | [],l,_,h=>by
    cases l with
    | nil=>cases h
    | cons b t=>
      have:(32:UInt8)=b:=by simpa [List.isPrefixOf] using h
      subst this;exact ⟨rfl,by simp⟩
  | c::r,l,hn,h=>by
    cases l with
    | nil=>cases h
    | cons b t=>
      simp only [Dn,List.isPrefixOf,Cy,beq_iff_eq] at h;obtain ⟨rfl,h⟩:=h;have hc:(32:UInt8)≠c:=fun e=>hn (by simp [e])
      obtain ⟨i1,i2⟩:=oK r t (fun e=>hn (Ha _ e)) h;have e:(c != 32)=true:=by simpa [bne] using fun e=>hc e.symm
      refine ⟨?_,Ha _ i2⟩;rw [List.takeWhile_cons_of_pos (p:=fun c=>c != 32) e,<-i1]
def kwAt (l:Ag):Bool:=match l with
 | []=>true
 | c::r=>if c==32&&r.contains 32 then kwL.contains (r.takeWhile (fun c=>c != 32))||((r.takeWhile (fun c=>c != 32)) == []) else true
theorem kw_all:(List.range 200).all (fun j=>kwAt (dO.drop j))=true:=by kernel_rfl
theorem kw_len:dO.length<=199:=C6 (by kernel_rfl)
theorem kw_back:kwL.all (fun w=>Lib.contains dO ([32]++w ++ [32]) && !(w == []) && !(w.contains 32))=true:=by kernel_rfl
theorem key_eq (s:Ag):rM s=xO s:=by
  rw [Bool.eq_iff_iff,keyR_mem];unfold rM;simp only [Cy,A5]
  constructor
  . rintro ⟨⟨h1,h2⟩,h3⟩
    have hn:32∉s:=fun h=>by rw [(Xk s 32).2 h] at h2;cases h2
    obtain ⟨j,hj,ho⟩:=(Xj _ _).1 h3;have hk:=Ht.1 kw_all j (K9.2 (by have:=kw_len;omega));unfold Lib.occAt at ho;generalize dO.drop j=l at ho hk;cases l with
    | nil=>cases ho
    | cons b t=>
      simp only [Dn,Du,List.isPrefixOf,Cy,beq_iff_eq] at ho;obtain ⟨rfl,ho⟩:=ho;obtain ⟨i1,i2⟩:=oK s t hn ho;unfold kwAt at hk;have e:t.contains 32=true:=by simpa using i2
      simp only [e,<-i1] at hk;have e0:((32:UInt8)==32&&true)=true:=rfl;rw [e0,if_pos rfl,h1,Pn] at hk;simpa using hk
  . intro h
    have:=Ht.1 kw_back s h;simp only [Cy,A5] at this;obtain ⟨⟨k1,k2⟩,k3⟩:=this;refine ⟨⟨k2,?_⟩,k1⟩;rw [Oe];intro h;rw [Xk] at h;have:s.contains 32=true:=by simpa using h
    rw [this] at k3;cases k3
theorem uW (p:UInt8->Bool):∀s:Ag,decide (0<=J8 p s)=s.any p
  | []=>rfl
  | c :: r => by
    have ih:=uW p r;rw [L0,<-ih,J8];cases p c with
    | true=>rfl
    | false=>
      by_cases h:J8 p r = -1
      . rw [if_neg (by decide),if_pos h,h];rfl
      . rw [if_neg (by decide),if_neg h,Ke]
        refine decide_eq_decide.2 ?_
        have:∀s:Ag,-1<=J8 p s:=by
          intro s
          induction s with
          | nil=>exact Fr _
          | cons c r ih=>
            unfold J8;split
            . decide
            . split
              . decide
              omega
        have:=this r;omega
theorem pR (p:UInt8->Bool):∀s:Ag,decide (Bb p s=s.length)=s.all p
  | []=>rfl
  | c::r=>by
    have ih:=pR p r;rw [Lz,<-ih,Bb];cases p c with
    | true=>rw [if_pos rfl,Fj,A1];exact decide_eq_decide.2 (by omega)
    | false=>rw [if_neg (by decide),Mt,A1];exact I5 (by omega)
theorem kL (c:UInt8):(C7 c&&A9 c)=false:=by
 have:=Mr (p:=fun c=>(C7 c&&A9 c)==false) (by kernel_rfl) c;exact eq_of_beq this
theorem name_eq (s:Ag):F7 s=nameR s:=by
  unfold F7 nameR;rw [key_eq,uW];cases s with
  | nil=>rfl
  | cons c r=>
    have hb:bt (c::r) 0=c:=rfl
    have hs:((Bb Ek (c::r):Int) != ((c::r).length:Int))=(c::r).any kO:=by
      have h:=pR Ek (c::r)
      have h2:(c::r).any kO = !((c::r).all Ek):=by
        have:kO=fun c=>!(Ek c):=by funext c;unfold kO Ek;rw [Bool.not_or]
        rw [this,<-List.not_all_eq_any_not]
      rw [h2,<-h,Bool.eq_iff_iff,bne_iff_ne,A5,I6];omega
    rw [hs,hb,L0];have ho:kO c=(!C7 c && !A9 c):=rfl;rw [ho];have hld:=kL c;generalize xO (c::r)=K;generalize decide (24<((c::r).length:Int))=A;have e0:(c::r == [])=false:=rfl;rw [e0];generalize r.any kO=O;generalize C7 c=L at *;generalize A9 c=D at *
    revert hld
    cases K <;> cases A <;> cases O <;> cases L <;> cases D <;> decide
theorem eM (c:UInt8):1<=(Fm c).length/\(Fm c).length<=4:=by
 have:=Mr (p:=fun c=>decide (1<=(Fm c).length/\(Fm c).length<=4)) (by kernel_rfl) c;exact C6 this
theorem Si:∀s:Ag,s.length<=(Bx s).length/\(Bx s).length<=4*s.length
  | []=>⟨Bc _,Bc _⟩
  | c::r=>by
    have h1:=eM c;have h2:=Si r;rw [Bx,Ao,A1];omega
def Aag (c:UInt8)(w:Ag):Bool:=
 if ((bt w 0).toNat:Int)==92 then (Is w).2==(w.length:Int)&&(Is w).1==c else w == [c] && !(((c.toNat:Int)==34)) && !(decide ((c.toNat:Int)<32)||decide (126<(c.toNat:Int)))
theorem back_ok (c:UInt8):Aag c (Fm c)=true:=Mr (p:=fun c=>Aag c (Fm c)) (by kernel_rfl) c
theorem Un {u v:Ag}{i:Nat}(h:i<u.length):bt (u++v) i=bt u i:=by
 simp only [bt,E6];rw [List.getElem?_append_left h]
theorem iA {u v:Ag}(h:(Is u).2≠0):Is (u++v)=Is u:=by
  have hl:((u++v).length:Int)=(u.length:Int)+(v.length:Int):=by rw [Ao];omega
  unfold Is at h ⊢;by_cases h2:(2:Int)<=(u.length:Int)
  . have e1:decide ((2:Int)<=(u.length:Int))=true:=Gc h2
    have e2:decide ((2:Int)<=((u++v).length:Int))=true:=Gc (by omega);rw [e1] at h ⊢;rw [e2,Un (show 1<u.length by omega)];cases hB:(((bt u 1).toNat:Int)==34||((bt u 1).toNat:Int)==92) with
    | true=>rfl
    | false=>
      rw [hB] at h;simp only [Fj,Al,↓reduceIte] at h ⊢;by_cases h4:(4:Int)<=(u.length:Int)
      . have e3:decide ((4:Int)<=(u.length:Int))=true:=Gc h4
        have e4:decide ((4:Int)<=((u++v).length:Int))=true:=Gc (by omega);rw [e3,e4,Un (show 2<u.length by omega),Un (show 3<u.length by omega)]
      . have e3:decide ((4:Int)<=(u.length:Int))=false:=I5 h4
        rw [e3] at h;exact absurd rfl h
  . have e1:decide ((2:Int)<=(u.length:Int))=false:=I5 h2
    have e3:decide ((4:Int)<=(u.length:Int))=false:=I5 (by omega);rw [e1,e3] at h;exact absurd rfl h
theorem Aal (p:Ag)(c:UInt8)(v:Ag):bt (p++c::v) p.length=c:=by
 simp [bt,E6]
theorem aO (rest:Ag):∀(r p b:Ag) (n:Nat),r.length<n->(b++r).length<=64->
    Eh (p++(Bx r++34::rest)) n p.length b=Vw 2 (b++r) ((p.length:Int)+((Bx r).length:Int)+1)
  | [],p,b,n,hn,hb=>by
    obtain ⟨m,rfl⟩:∃m,n=m+1:=⟨n-1,by simp at hn;omega⟩;rw [Lr,Bx,Du,Aal];have e1:decide ((p.length:Int)<((p++34::rest).length:Int))=true:=Gc (by rw [Ao,A1];omega);have e2:(((34:UInt8).toNat:Int)==34)=true:=rfl;have e3:decide (64<(b.length:Int))=false:=I5 (by simp at hb;omega);rw [e1,e2,e3,A3];simp
  | c::r,p,b,n,hn,hb=>by
    obtain ⟨m,rfl⟩:∃m,n=m+1:=⟨n-1,by simp at hn;omega⟩;have hk:=back_ok c;have hlen:=eM c;have hlr:(Fm c++Bx r).length=(Fm c).length+(Bx r).length:=Ao ..
    have ih:∀b',b'=b ++ [c]->Eh ((p++Fm c)++(Bx r++34::rest)) m (p++Fm c).length b'=Vw 2 (b'++r) (((p++Fm c).length:Int)+((Bx r).length:Int)+1):=fun b' e=>
      aO rest r (p++Fm c) b' m (by simp at hn;omega) (by subst e;simpa [Nat.add_assoc,Nat.add_comm 1] using hb)
    have ih:=ih _ rfl;have eb:(b ++ [c])++r=b++c::r:=by simp
    rw [eb] at ih;rw [Bx,Dy,<-Dy p]
    have ep:((p++Fm c).length:Int)+((Bx r).length:Int)+1=(p.length:Int)+((Fm c++Bx r).length:Int)+1:=by
      rw [hlr,Ao];omega
    rw [ep] at ih;rw [<-ih,Lr];generalize hq:Fm c=q at *
    obtain ⟨x,q',rfl⟩:∃x q',q=x::q':=by
      cases q with
      | nil=>simp at hlen
      | cons x q'=>exact ⟨x,q',rfl⟩
    have e0:bt ((p++x::q')++(Bx r++34::rest)) p.length=x:=by
      rw [Dy,Dn,Aal]
    have e1:decide ((p.length:Int)<(((p++x::q')++(Bx r++34::rest)).length:Int))=true:=Gc (by simp only [Ao,A1];omega)
    have ed:((p++x::q')++(Bx r++34::rest)).drop p.length=(x::q')++(Bx r++34::rest):=by
      rw [Dy,List.drop_left]
    rw [e0,e1,ed];simp only [↓reduceIte];unfold Aag at hk;have hx0:bt (x::q') 0=x:=rfl;rw [hx0] at hk;cases h92:((x.toNat:Int)==92) with
    | true=>
      rw [h92] at hk;simp only [↓reduceIte,Cy,beq_iff_eq] at hk;obtain ⟨k1,k2⟩:=hk
      have h34:((x.toNat:Int)==34)=false:=by
        rw [Fs];rw [beq_iff_eq] at h92;omega
      have hne:(Is (x::q')).2≠0:=by rw [k1,A1];omega
      rw [iA hne,h34,k1,k2];have e5:(((x::q').length:Int)==0)=false:=by rw [Fs,A1];omega
      rw [e5];simp only [Al,↓reduceIte];have e6:((x::q').length:Int).toNat=(x::q').length:=Sq _;rw [e6,<-Ao]
    | false=>
      rw [h92] at hk;simp only [Al,↓reduceIte,Cy,beq_iff_eq,A5] at hk;obtain ⟨⟨k1,k2⟩,k3⟩:=hk;have kx:x=c:=(List.cons.inj k1).1;have kq:q' = []:=(List.cons.inj k1).2;subst kx kq;rw [k2,k3];simp only [Al,↓reduceIte];rw [Ao,D2]
theorem rT (s rest:Ag)(hs:s.length<=64):B3 (34::(Bx s++34::rest))=Vw 2 s (((Bx s).length:Int)+2):=by
 have hb:bt (34::(Bx s++34::rest)) 0=34:=rfl;have hn:Jw (34::(Bx s++34::rest))=rI:=by unfold Jw;rw [hb];rfl
 have hm:E1 (34::(Bx s++34::rest))=rI:=by
  unfold E1;have:Bb A9 (34::(Bx s++34::rest))=0:=by rw [Bb];rfl
  rw [this];rfl
 have hl:Kp (34::(Bx s++34::rest))=Vw 2 s (((Bx s).length:Int)+2):=by
  unfold Kp;rw [hb];have e:(((34:UInt8).toNat:Int) != 34)=false:=rfl;rw [e];have h:=aO rest s [34] [] ((34::(Bx s++34::rest)).length+1) (by have:=(Si s).1;simp only [Ao,A1];omega) (by simpa using hs)
  have e2:(((([34]:Ag)).length:Int)+((Bx s).length:Int)+1)=((Bx s).length:Int)+2:=by
   have:((([34]:Ag)).length:Int)=1:=rfl;rw [this];omega
  rw [e2] at h;exact h
 unfold B3;have hz:Ky rI=false:=rfl;rw [hn,hm,hl,hz];simp only [Al,↓reduceIte];rw [if_pos (kE (by omega))]
theorem Qm {u:Ag}(h:C7 (bt u 0)=true)(h0:0<u.length):B3 u=if decide (24<(Bb Ek u:Int)) then Jv 0 8 else Vw 0 (u.take (Bb Ek u)) (Bb Ek u):=by
 have hp:0<Bb Ek u:=by
  have:=Qx (p:=Ek) (s:=u) (k:=0) h0 (by unfold Ek;rw [h];rfl);simpa using this
 have hn:Jw u=if decide (24<(Bb Ek u:Int)) then Jv 0 8 else Vw 0 (u.take (Bb Ek u)) (Bb Ek u):=by unfold Jw;rw [h];rfl
 have hh:Ky (Jw u)=true:=by
  rw [hn];split
  . exact kD (by decide)
  exact kE (by omega)
 unfold B3;rw [hh,hn];rfl
theorem Zl {u:Ag}(h:C7 (bt u 0)=false):Jw u=rI:=by unfold Jw;rw [h];rfl
theorem Tu {u:Ag}(h1:C7 (bt u 0)=false)(h:A9 (bt u 0)=true)(h0:0<u.length):B3 u =
  if ((Ve (u.take (Bb A9 u))).2 != 0) then Jv 0 (Ve (u.take (Bb A9 u))).2
  else if (decide ((Bb A9 u:Int)<(u.length:Int))&&C7 (bt u (Bb A9 u))) then Jv (Bb A9 u) 4
  else Vw 1 (u.take (Bb A9 u)) (Bb A9 u):=by
 have hp:0<Bb A9 u:=by
  have:=Qx (p:=A9) (s:=u) (k:=0) h0 h;simpa using this
 have hn:E1 u=if ((Ve (u.take (Bb A9 u))).2 != 0) then Jv 0 (Ve (u.take (Bb A9 u))).2
  else if (decide ((Bb A9 u:Int)<(u.length:Int))&&C7 (bt u (Bb A9 u))) then Jv (Bb A9 u) 4
  else Vw 1 (u.take (Bb A9 u)) (Bb A9 u):=by
  unfold E1;have e:((Bb A9 u:Int)==0)=false:=by rw [Fs];omega
  rw [e];rfl
 have hh:Ky (E1 u)=true:=by
  rw [hn];split
  . rename_i h;exact kD (by simpa using h)
  split
  . exact kD (by decide)
  exact kE (by omega)
 unfold B3;rw [Zl h1,hh,hn];rfl
theorem oD {u:Ag}(h:A9 (bt u 0)=false)(h0:0<u.length):E1 u=rI:=by
 unfold E1
 have:Bb A9 u=0:=by
  obtain ⟨c,r,rfl⟩:∃c r,u=c::r:=by cases u with | nil=>cases h0 | cons c r=>exact ⟨c,r,rfl⟩
  rw [Bb,if_neg (by rw [show A9 c=false from h];decide)]
 rw [this];rfl
theorem Xz {u:Ag}(h:(((bt u 0).toNat:Int)==34)=true)(h0:0<u.length):B3 u=if Ky (Eh u (u.length+1) 1 []) then Eh u (u.length+1) 1 [] else Lh u:=by
 have hq:=sH h
 have hl:Kp u=Eh u (u.length+1) 1 []:=by
  unfold Kp;have e:(((bt u 0).toNat:Int) != 34)=false:=by simp only [bne,h];rfl
  rw [e];rfl
 unfold B3;rw [Zl hq.1,oD hq.2 h0,hl];rfl
theorem Nj {u:Ag}(h1:C7 (bt u 0)=false)(h2:A9 (bt u 0)=false)(h3:(((bt u 0).toNat:Int)==34)=false)(h0:0<u.length):B3 u=Lh u:=by
 have hl:Kp u=rI:=by
  unfold Kp;have e:(((bt u 0).toNat:Int) != 34)=true:=by simp only [bne,h3];rfl
  rw [e];rfl
 unfold B3;rw [Zl h1,oD h2 h0,hl];rfl
def Sepd (w:Ag):Prop:=∀c r,w=c::r->Ek c=false/\c≠61
theorem Zw {p:UInt8->Bool}{w:Ag}(hw:∀c r,w=c::r->p c=false):∀u:Ag,Bb p (u++w)=Bb p u
  | []=>by
    cases w with
    | nil=>rfl
    | cons c r=>
      show (if p c then Bb p r+1 else 0)=0;rw [hw c r rfl];rfl
  | c::r=>by
    rw [Dn,Bb,Bb,Zw hw r]
theorem wS {c:UInt8}(h:Ek c=false):C7 c=false/\A9 c=false:=by
 unfold Ek at h;rw [Ft] at h;exact h
theorem Aam {u w:Ag}:bt (u++w) u.length=bt w 0:=by
 simp only [bt,E6];rw [List.getElem?_append_right (Bc _),Nat.sub_self]
theorem take_left' {u w:Ag}{n:Nat}(h:n<=u.length):(u++w).take n=u.take n:=bT h
theorem dU {u w:Ag}:∀(n m i:Nat) (b:Ag),(Eh u n i b).err=0->n<=m->Eh (u++w) m i b=Eh u n i b
  | 0,m,i,b,h,_=>by simp [Eh,Jv] at h
  | n+1,m,i,b,h,hm=>by
    obtain ⟨m,rfl⟩:∃m',m=m'+1:=⟨m-1,by omega⟩;rw [Lr] at h ⊢;rw [Lr];by_cases hi:i<u.length
    . have e1:decide ((i:Int)<(u.length:Int))=true:=Gc (by omega)
      have e2:decide ((i:Int)<((u++w).length:Int))=true:=Gc (by rw [Ao];omega);rw [e1] at h ⊢;rw [e2,Un hi];simp only [↓reduceIte] at h ⊢;cases h34:(((bt u i).toNat:Int)==34) with
      | true=>rfl
      | false=>
        rw [h34] at h;simp only [Al,↓reduceIte] at h ⊢;cases h92:(((bt u i).toNat:Int)==92) with
        | true=>
          rw [h92] at h;simp only [↓reduceIte] at h ⊢;rw [List.drop_append_of_le_length (by omega)];by_cases he:(Is (u.drop i)).2=0
          . rw [he] at h;exact absurd h (by simp [Jv])
          . rw [iA he]
            have e3:((Is (u.drop i)).2==0)=false:=by rw [Fs];exact he
            rw [e3] at h ⊢;simp only [Al,↓reduceIte] at h ⊢;exact dU n m _ _ h (by omega)
        | false=>
          rw [h92] at h;simp only [Al,↓reduceIte] at h ⊢;cases hr:(decide (((bt u i).toNat:Int)<32)||decide (126<((bt u i).toNat:Int))) with
          | true=>rw [hr] at h;exact absurd h (by simp [Jv])
          | false=>
            rw [hr] at h;simp only [Al,↓reduceIte] at h ⊢;exact dU n m _ _ h (by omega)
    . have e1:decide ((i:Int)<(u.length:Int))=false:=I5 (by omega)
      rw [e1] at h;exact absurd h (by simp [Jv])
theorem I3 (c:UInt8)(r:Ag):Lh (c::r)=match Kk c (Lib.hasPrefix r [61]) with | none=>Jv 0 4 | some x=>Vw 3 x x.length:=eX c r iV (by decide)
theorem oP {r w:Ag}(hw:Sepd w):Lib.hasPrefix (r++w) [61]=Lib.hasPrefix r [61]:=by
  cases r with
  | nil=>
    cases w with
    | nil=>rfl
    | cons c w=>
      have h:=(hw c w rfl).2;show ((61:UInt8)==c&&([]:Ag).isPrefixOf w)=false;have e:((61:UInt8)==c)=false:=by rw [Fs];exact fun e=>h e.symm
      rw [e];rfl
  | cons c r=>simp [Lib.hasPrefix,List.isPrefixOf]
theorem xR {u w:Ag}(hw:Sepd w)(h0:0<u.length)(he:(B3 u).err=0):B3 (u++w)=B3 u:=by
  have h0':0<(u++w).length:=by rw [Ao];omega
  have hb:bt (u++w) 0=bt u 0:=Un h0;have sw:Bb Ek (u++w)=Bb Ek u:=Zw (fun c r e=>(hw c r e).1) u;have sd:Bb A9 (u++w)=Bb A9 u:=Zw (fun c r e=>(wS (hw c r e).1).2) u;cases h1:C7 (bt u 0) with
  | true=>rw [Qm h1 h0,Qm (by rw [hb];exact h1) h0',sw,take_left' (Io _ _)]
  | false=>
    cases h2:A9 (bt u 0) with
    | true=>
      rw [Tu h1 h2 h0] at he ⊢;rw [Tu (by rw [hb];exact h1) (by rw [hb];exact h2) h0',sd,take_left' (Io _ _)]
      have e:(decide ((Bb A9 u:Int)<((u++w).length:Int))&&C7 (bt (u++w) (Bb A9 u)))=(decide ((Bb A9 u:Int)<(u.length:Int))&&C7 (bt u (Bb A9 u))):=by
        have hle:=Io A9 u;by_cases hs:Bb A9 u<u.length
        . have e1:decide ((Bb A9 u:Int)<((u++w).length:Int))=true:=Gc (by rw [Ao];omega)
          have e2:decide ((Bb A9 u:Int)<(u.length:Int))=true:=Gc (by omega);rw [e1,e2,Un hs]
        . have hs2:Bb A9 u=u.length:=by omega
          have e2:decide ((u.length:Int)<(u.length:Int))=false:=I5 (by omega);rw [hs2,e2,Aam,Mt];cases w with
          | nil=>rw [A3,e2];rfl
          | cons c w=>
            have:C7 (bt (c::w) 0)=false:=(wS (hw c w rfl).1).1;rw [this,Oj]
      rw [e]
    | false=>
      cases h3:(((bt u 0).toNat:Int)==34) with
      | true=>
        rw [Xz h3 h0] at he ⊢;rw [Xz (by rw [hb];exact h3) h0'];by_cases hh:Ky (Eh u (u.length+1) 1 [])=true
        . rw [if_pos hh] at he ⊢
          have:=dU (w:=w) (u.length+1) ((u++w).length+1) 1 [] he (by rw [Ao];omega);rw [this,if_pos hh]
        . exfalso
          rw [if_neg hh] at he;obtain ⟨c,r,rfl⟩:∃c r,u=c::r:=by cases u with | nil=>cases h0 | cons c r=>exact ⟨c,r,rfl⟩
          rw [I3] at he
          have hc:c=34:=by
            have:=Mr (p:=fun c=>decide (((c.toNat:Int)==34)=true->c=34)) (by kernel_rfl) c;exact (C6 this) h3
          subst hc
          revert he
          cases Lib.hasPrefix r [61] with
          | true=>intro he;exact absurd he (by decide)
          | false=>intro he;exact absurd he (by decide)
      | false=>
        rw [Nj h1 h2 h3 h0,Nj (by rw [hb];exact h1) (by rw [hb];exact h2) (by rw [hb];exact h3) h0'];obtain ⟨c,r,rfl⟩:∃c r,u=c::r:=by cases u with | nil=>cases h0 | cons c r=>exact ⟨c,r,rfl⟩
        rw [Dn,I3,I3,oP hw]
inductive Sc (s:Ag):Nat->List Tok->Nat->Prop
 | nil (i:Nat):Sc s i [] i
 | sep {i:Nat} {l:List Tok} {j:Nat} (hi:i<s.length) (h:0<Lc (s.drop i)) (hr:Sc s (i+(Lc (s.drop i)).toNat) l j):Sc s i l j
 | tok {i:Nat} {l:List Tok} {j:Nat} (hi:i<s.length) (h:Lc (s.drop i)=0) (he:(B3 (s.drop i)).err=0) (hr:Sc s (i+(B3 (s.drop i)).bytes.toNat) l j):Sc s i (⟨(B3 (s.drop i)).tok.kind,(B3 (s.drop i)).tok.text,i⟩::l) j
theorem Sc.of_scan {s:Ag}:∀(n i:Nat) (out:List Tok),i<=s.length->s.length<n+i->(Jm s n i out).2.2=0->∃l,Jm s n i out=(out++l,0,0)/\Sc s i l s.length
  | 0,i,out,h1,h2,_=>by omega
  | n+1,i,out,h1,h2,h=>by
    rw [pL] at h ⊢;by_cases hi:i<s.length
    . rw [in_text hi] at h ⊢
      simp only [↓reduceIte] at h ⊢;have hs:=sU (s.drop i);have hn:=Xy (s.drop i) (by rw [C4];omega);rw [C4] at hs hn;have hs2:=hs.2 (by omega);by_cases hp:0<Lc (s.drop i)
      . have e:decide (0<Lc (s.drop i))=true:=Gc hp
        rw [e] at h ⊢;simp only [↓reduceIte] at h ⊢;obtain ⟨l,k1,k2⟩:=Sc.of_scan n _ out (by omega) (by omega) h;exact ⟨l,k1,.sep hi hp k2⟩
      . have e:decide (0<Lc (s.drop i))=false:=I5 hp
        rw [e] at h ⊢;simp only [Al,↓reduceIte] at h ⊢;by_cases he:(B3 (s.drop i)).err=0
        . have e2:((B3 (s.drop i)).err != 0)=false:=by rw [he];rfl
          have hpos:=hn.2.2.2.2 he;rw [e2] at h ⊢;simp only [Al,↓reduceIte] at h ⊢;obtain ⟨l,k1,k2⟩:=Sc.of_scan n _ _ (by omega) (by omega) h;refine ⟨_,?_,.tok hi (by omega) he k2⟩;rw [k1,Dy];rfl
        . have e2:((B3 (s.drop i)).err != 0)=true:=by simpa using he
          rw [e2] at h;exact absurd h he
    . have e:decide ((i:Int)<(s.length:Int))=false:=I5 (by omega)
      have hil:i=s.length:=by omega
      rw [e];exact ⟨[],by simp,hil▸.nil _⟩
theorem vX {s:Ag}(h:(Dl s).2.2=0):(Dl s).2.1=0/\Sc s 0 (Dl s).1 s.length:=by
  unfold Dl at h ⊢;cases e:decide (65536<(s.length:Int)) with
  | true=>rw [e] at h;exact absurd h (by simp)
  | false=>
    rw [e] at h;simp only [Al,↓reduceIte] at h ⊢;obtain ⟨l,k1,k2⟩:=Sc.of_scan _ _ _ (A7 _) (by omega) h;rw [k1];exact ⟨rfl,k2⟩
theorem sep_head {c:UInt8}{r:Ag}(h:c≠35):Lc (c::r)=if decide (0<=Lib.indexByte [32,9,13,10] c) then 1 else 0:=by
 unfold Lc
 have e:(((bt (c::r) 0).toNat:Int)==35)=false:=by
  have:=Mr (p:=fun c=>decide (c≠35->((c.toNat:Int)==35)=false)) (by kernel_rfl) c;exact (C6 this) h
 rw [e];rfl
def Asc:Int->List Tok->Prop
 | _,[]=>True
 | x,t::r=>x<t.pos/\Asc t.pos r
def OkTok (s:Ag)(t:Tok):Prop:=0<=t.pos/\t.pos<(s.length:Int)/\(t.kind=2->bt s t.pos.toNat=34)/\(t.kind≠2->t.text≠[]/\Lib.hasPrefix (s.drop t.pos.toNat) t.text=true)
theorem oQ (u:Ag)(n:Nat):Lib.hasPrefix u (u.take n)=true:=by
 unfold Lib.hasPrefix;rw [Z6];exact List.take_prefix n u
theorem pP (c:UInt8)(two:Bool):∀x,Kk c two=some x->x≠[]/\(x = [c]\/two=true/\x = [c,61]):=by
 intro x h;rcases signV_N c two with ⟨h1,_⟩ | ⟨h0,h1,_⟩ | ⟨h1,_⟩
 . rw [h1] at h;cases h
 . rw [h1] at h;cases h;exact ⟨by simp,.inr ⟨h0,rfl⟩⟩
 rw [h1] at h;cases h;exact ⟨by simp,.inl rfl⟩
theorem dX {u:Ag}(h0:0<u.length)(he:(B3 u).err=0) :
    ((B3 u).tok.kind=2/\bt u 0=34/\B3 u=Eh u (u.length+1) 1 [])\/((B3 u).tok.kind≠2/\∃n,0<n/\n<=u.length/\(B3 u).bytes=(n:Int)/\(B3 u).tok.text=u.take n):=by
  cases h1:C7 (bt u 0) with
  | true=>
    have hp:0<Bb Ek u:=by
      have:=Qx (p:=Ek) (s:=u) (k:=0) h0 (by unfold Ek;rw [h1];rfl);simpa using this
    rw [Qm h1 h0] at he ⊢;cases hd:decide (24<(Bb Ek u:Int)) with
    | true=>rw [hd] at he;exact absurd he (by simp [Jv])
    | false=>exact .inr ⟨show (0:Int)≠2 by decide,Bb Ek u,hp,Io _ _,rfl,rfl⟩
  | false=>
    cases h2:A9 (bt u 0) with
    | true=>
      have hp:0<Bb A9 u:=by
        have:=Qx (p:=A9) (s:=u) (k:=0) h0 h2;simpa using this
      rw [Tu h1 h2 h0] at he ⊢;cases hd:((Ve (u.take (Bb A9 u))).2 != 0) with
      | true=>rw [hd] at he;exact absurd he (by simpa [Jv] using hd)
      | false=>
        rw [hd] at he;simp only [Al,↓reduceIte] at he ⊢;cases hd2:(decide ((Bb A9 u:Int)<(u.length:Int))&&C7 (bt u (Bb A9 u))) with
        | true=>rw [hd2] at he;exact absurd he (by simp [Jv])
        | false=>exact .inr ⟨show (1:Int)≠2 by decide,Bb A9 u,hp,Io _ _,rfl,rfl⟩
    | false=>
      obtain ⟨c,r,rfl⟩:∃c r,u=c::r:=by cases u with | nil=>cases h0 | cons c r=>exact ⟨c,r,rfl⟩
      have sgn:(Lh (c::r)).err=0->(Lh (c::r)).tok.kind≠2/\∃n,0<n/\n<=(c::r).length/\(Lh (c::r)).bytes=(n:Int)/\(Lh (c::r)).tok.text=(c::r).take n:=by
        intro he;rw [I3] at he ⊢;cases hv:Kk c (Lib.hasPrefix r [61]) with
        | none=>rw [hv] at he;exact absurd he (by decide)
        | some x=>
          refine ⟨show (3:Int)≠2 by decide,?_⟩;rcases pP c _ x hv with ⟨_,rfl | ⟨h,rfl⟩⟩
          . exact ⟨1,by decide,by simp,rfl,rfl⟩
          . unfold Lib.hasPrefix at h
            rw [Z6] at h;obtain ⟨r',rfl⟩:=h;exact ⟨2,by decide,by simp,rfl,rfl⟩
      cases h3:(((bt (c::r) 0).toNat:Int)==34) with
      | true=>
        have hc:bt (c::r) 0=34:=by
          have:=Mr (p:=fun c=>decide (((c.toNat:Int)==34)=true->c=34)) (by kernel_rfl) (bt (c::r) 0);exact (C6 this) h3
        rw [Xz h3 h0] at he ⊢;by_cases hh:Ky (Eh (c::r) ((c::r).length+1) 1 [])=true
        . rw [if_pos hh] at he ⊢
          have hk:∀(n i:Nat) (b:Ag),(Eh (c::r) n i b).err=0->(Eh (c::r) n i b).tok.kind=2:=by
            intro n
            induction n with
            | zero=>intro i b h;exact absurd h (by simp [Eh,Jv])
            | succ n ih=>
              intro i b h;rw [Lr] at h ⊢
              repeat' split
              all_goals first | rfl | skip
              all_goals (simp only [*,Al,↓reduceIte] at h;first | exact ih _ _ h | exact absurd h (by simp [Jv]))
          exact .inl ⟨hk _ _ _ he,hc,rfl⟩
        . rw [if_neg hh] at he ⊢
          exact .inr (sgn he)
      | false=>
        rw [Nj h1 h2 h3 h0] at he ⊢;exact .inr (sgn he)
theorem Sc.stands {s:Ag}{i:Nat}{l:List Tok}{j:Nat}(h:Sc s i l j):∀x:Int,x<(i:Int)->Asc x l/\∀t∈l,OkTok s t:=by
  induction h with
  | nil i=>exact fun x _=>⟨trivial,fun _ h=>by cases h⟩
  | @sep i l j hi hs hr ih=>exact fun x hx=>ih x (by omega)
  | @tok i l j hi hs he hr ih=>
    intro x hx;have h0:0<(s.drop i).length:=by rw [C4];omega
    have hn:=Xy (s.drop i) h0;have hpos:=hn.2.2.2.2 he;obtain ⟨k1,k2⟩:=ih (i:Int) (by omega);refine ⟨⟨hx,k1⟩,fun t ht=>?_⟩;rcases Cn.1 ht with rfl | ht
    . have hb:bt (s.drop i) 0=bt s i:=by rw [bt_drop];rfl
      refine ⟨by simp only;omega,by simp only;omega,fun hk=>?_,fun hk=>?_⟩
      . rcases dX h0 he with ⟨_,h,_⟩ | ⟨h,_⟩
        . rw [hb] at h;exact h
        exact absurd hk h
      . rcases dX h0 he with ⟨h,_,_⟩ | ⟨_,n,h1,h2,h3,h4⟩
        . exact absurd h hk
        . simp only [Sq]
          rw [h4];refine ⟨fun e=>?_,oQ _ _⟩;have:=congrArg List.length e;rw [Df,Bi] at this;omega
    exact k2 t ht
def Qt (l:List Tok)(e:Int)(n:Nat):Int:=if decide ((n:Int)<(l.length:Int)) then (l.getD n M9).pos else e
def Srt (l:List Tok)(e:Int):Prop:=∀n m,n<=m->Qt l e n<=Qt l e m/\Qt l e m<=e
def At (l:List Tok)(e d:Int)(st:PS):Prop:=st.toks=l/\st.fin=e/\st.depth=d/\0<=d/\d<=64
variable {l:List Tok} {e d:Int} {a b st:PS}
theorem At.off (h:At l e d st):D0 st=Qt l e st.pos:=by unfold D0 Qt lD;rw [h.1,h.2.1]
theorem At.next (h:At l e d a)(k:Bo a b):At l e d b:=⟨k.toks.trans h.1,k.fin.trans h.2.1,(k.dep (by unfold bE;rw [h.2.2.1];exact h.2.2.2)).trans h.2.2.1,h.2.2.2⟩
theorem Bo.good (h:Bo a b)(hb:b.bad=0):a.bad=0:=Classical.byContradiction fun e=>e ((h.bad e).symm.trans hb)
theorem nest_bad (st:PS):((F8 st).bad != 0)=true\/F8 st=st/\st.bad=0:=by
  cases h:((F8 st).bad != 0) with
  | true=>exact .inl rfl
  | false=>
    refine .inr ?_;have h0:(F8 st).bad=0:=by simpa using h
    unfold F8 at h0 ⊢;split
    . rename_i hd
      rw [if_pos hd] at h0;exact absurd (Md (e:=12) (by decide) st) (by rw [h0];decide)
    . rename_i hd
      rw [if_neg hd] at h0;exact ⟨rfl,h0⟩
theorem At.deep (h:At l e d st)(hd:d<64):At l e (d+1) (deep st):=⟨h.1,h.2.1,by
 show IntKind.i64.wrap (st.depth+1)=d+1;have:=h.2.2.2;rw [h.2.2.1];exact U9 (by omega) (by omega),by have:=h.2.2.2;omega,by omega⟩
theorem zZ:∀(l:List Tok) (x:Int),Asc x l->∀n,n<l.length->x<(l.getD n M9).pos
 | [],_,_,n,h=>absurd h (Nat.not_lt_zero _)
 | t::r,x,h,0,_=>h.1
 | t::r,x,h,n+1,hn=>Int.lt_trans h.1 (zZ r t.pos h.2 n (by simpa using hn))
theorem mB:∀(l:List Tok) (x:Int),Asc x l->∀n m,n<=m->m<l.length->(l.getD n M9).pos<=(l.getD m M9).pos
 | [],_,_,n,m,_,h=>absurd h (Nat.not_lt_zero _)
 | t::r,x,h,0,0,_,_=>Fr _
 | t::r,x,h,0,m+1,_,hm=>Int.le_of_lt (zZ r t.pos h.2 m (by simpa using hm))
 | t::r,x,h,n+1,m+1,hn,hm=>mB r t.pos h.2 n m (by omega) (by simpa using hm)
theorem asc_srt {l:List Tok}{x e:Int}(h:Asc x l)(hx:∀t∈l,t.pos<=e):Srt l e:=by
 have top:∀m,Qt l e m<=e:=fun m=>by
  unfold Qt;split
  .
   rename_i hm;have hm:=C6 hm;have h2:m<l.length:=by omega
   have e1:l.getD m M9=l[m]:=by simp [E6,List.getElem?_eq_getElem h2]
   rw [e1];exact hx _ (Ub h2)
  exact Fr _
 intro n m hnm;refine ⟨?_,top m⟩;by_cases hm:m<l.length
 .
  unfold Qt;rw [if_pos (Gc (by omega)),if_pos (Gc (by omega))];exact mB l x h n m hnm hm
 have:Qt l e m=e:=by unfold Qt;rw [if_neg (by simp only [Ea];omega)]
 rw [this];exact top n
theorem scan_srt {s:Ag}(h:(Dl s).2.2=0):Srt (Dl s).1 s.length/\∀t∈(Dl s).1,0<=t.pos/\t.pos<=(s.length:Int):=by
 have hs:=(vX h).2.stands (-1) (by decide);have hp:∀t∈(Dl s).1,0<=t.pos/\t.pos<=(s.length:Int):=fun t ht=>⟨(hs.2 t ht).1,Int.le_of_lt (hs.2 t ht).2.1⟩
 exact ⟨asc_srt hs.1 fun t ht=>(hp t ht).2,hp⟩
theorem sA {F:PS->Syn×PS}{s:Ag}(h:(Bv F s).2.2=0):(Dl s).2.2=0/\(F (Hn (Dl s).1 s.length)).2.bad=0/\(F (Hn (Dl s).1 s.length)).2.toks.length<=(F (Hn (Dl s).1 s.length)).2.pos/\Bv F s=((F (Hn (Dl s).1 s.length)).1,0,0):=by
 unfold Bv at h ⊢;by_cases h1:((Dl s).2.2 != 0)=true
 .
  rw [if_pos h1] at h;exact absurd h (by simpa using h1)
 rw [if_neg h1] at h ⊢;refine ⟨by simpa using h1,?_⟩;generalize F (Hn (Dl s).1 s.length)=r at h ⊢;unfold Vi at h ⊢;simp only at h ⊢;by_cases h2:decide ((r.2.pos:Int)<(r.2.toks.length:Int))=true
 .
  rw [if_pos h2,Md (by decide),if_pos rfl] at h;exact absurd h (by have:=Md (e:=4) (by decide) r.2;simpa using this)
 rw [if_neg h2] at h ⊢;by_cases h3:(r.2.bad != 0)=true
 .
  rw [if_pos h3] at h;exact absurd h (by simpa using h3)
 rw [if_neg h3];refine ⟨by simpa using h3,?_,rfl⟩;simp only [Ea] at h2;omega
def K8 (t:Tok):Ag:=if (t.kind != 2) then t.text else (Pi t.text).1
theorem Zx (p:UInt8->Bool):∀u:Ag,Bb p (u.take (Bb p u))=Bb p u
  | []=>rfl
  | c::r=>by
    cases h:p c with
    | true=>
      have e:Bb p (c::r)=Bb p r+1:=by rw [Bb,if_pos h]
      rw [e,Ue,Bb,if_pos h,Zx p r]
    | false=>
      have e:Bb p (c::r)=0:=by rw [Bb,if_neg (by rw [h];decide)]
      rw [e];rfl
theorem jK {u:Ag}{n:Nat}(h:0<n):bt (u.take n) 0=bt u 0:=by
 obtain ⟨m,rfl⟩:∃m,n=m+1:=⟨n-1,by omega⟩;cases u <;> rfl
theorem yW:∀c:UInt8,(Kk c true=some [c]->Kk c false=some [c]):=by
 intro c;have:=Mr (p:=fun c=>decide (Kk c true=some [c]->Kk c false=some [c])) (by kernel_rfl) c;exact C6 this
theorem gD (r:Ag):(Lh (34::r)).err≠0:=by
 rw [I3];cases Lib.hasPrefix r [61] <;> decide
theorem c34_of {c:UInt8}(h:((c.toNat:Int)==34)=true):c=34:=by
 have:=Mr (p:=fun c=>decide (((c.toNat:Int)==34)=true->c=34)) (by kernel_rfl) c;exact (C6 this) h
theorem rQ (s:Ag):∀(n i:Nat) (b:Ag),(Eh s n i b).err=0->∃(t:Ag) (m:Nat),Eh s n i b=Vw 2 t m/\t.length<=64/\t.length+i+1<=b.length+m
  | 0,i,b,h=>by simp [Eh,Jv] at h
  | n+1,i,b,h=>by
    rw [Lr] at h ⊢;cases h1:decide ((i:Int)<(s.length:Int)) with
    | false=>rw [h1] at h;exact absurd h (by simp [Jv])
    | true=>
      rw [h1] at h;simp only [↓reduceIte] at h ⊢;cases h2:(((bt s i).toNat:Int)==34) with
      | true=>
        rw [h2] at h;simp only [↓reduceIte] at h ⊢;cases h3:decide (64<(b.length:Int)) with
        | true=>rw [h3] at h;exact absurd h (by simp [Jv])
        | false=>
          simp only [I6] at h3;exact ⟨b,i+1,by simp,by omega,by omega⟩
      | false=>
        rw [h2] at h;simp only [Al,↓reduceIte] at h ⊢;cases h3:(((bt s i).toNat:Int)==92) with
        | true=>
          rw [h3] at h;simp only [↓reduceIte] at h ⊢;cases h4:((Is (s.drop i)).2==0) with
          | true=>rw [h4] at h;exact absurd h (by simp [Jv])
          | false=>
            rw [h4] at h;simp only [Al,↓reduceIte] at h ⊢;obtain ⟨t,m,k1,k2,k3⟩:=rQ s n _ _ h;rw [Ao,D2] at k3
            have hge:0<(Is (s.drop i)).2.toNat:=by
              have e:(Is (s.drop i)).2≠0:=by simpa using h4
              unfold Is at e ⊢;split at e
              . rename_i q;rw [if_pos q];exact (by decide:0<(2:Int).toNat)
              . rename_i q
                rw [if_neg q];split at e
                . rename_i q2
                  rw [if_pos q2];split at e
                  . rename_i q3;rw [if_pos q3];exact (by decide:0<(4:Int).toNat)
                  exact absurd rfl e
                exact absurd rfl e
            exact ⟨t,m,k1,k2,by omega⟩
        | false=>
          rw [h3] at h;simp only [Al,↓reduceIte] at h ⊢;cases h4:(decide (((bt s i).toNat:Int)<32)||decide (126<((bt s i).toNat:Int))) with
          | true=>rw [h4] at h;exact absurd h (by simp [Jv])
          | false=>
            rw [h4] at h;simp only [Al,↓reduceIte] at h ⊢;obtain ⟨t,m,k1,k2,k3⟩:=rQ s n _ _ h;rw [Ao,D2] at k3;exact ⟨t,m,k1,k2,by omega⟩
theorem xT {u:Ag}(h0:0<u.length)(he:(B3 u).err=0) :
    (∃(t:Ag) (m:Nat),B3 u=Vw 2 t m/\t.length<=64/\t.length+2<=m)\/(∃(k:Int) (n:Nat),k≠2/\0<n/\n<=u.length/\B3 u=Vw k (u.take n) n/\B3 (u.take n)=Vw k (u.take n) n):=by
  have tl:∀n,n<=u.length->(u.take n).length=n:=fun n h=>by rw [Df];omega
  cases h1:C7 (bt u 0) with
  | true=>
    have hp:0<Bb Ek u:=by
      have:=Qx (p:=Ek) (s:=u) (k:=0) h0 (by unfold Ek;rw [h1];rfl);simpa using this
    have hle:=Io Ek u;rw [Qm h1 h0] at he ⊢;cases hd:decide (24<(Bb Ek u:Int)) with
    | true=>rw [hd] at he;exact absurd he (by simp [Jv])
    | false=>
      refine .inr ⟨0,Bb Ek u,by decide,hp,hle,rfl,?_⟩;rw [Qm (by rw [jK hp];exact h1) (by rw [tl _ hle];exact hp),Zx,hd,List.take_take,Nat.min_self];rfl
  | false=>
    cases h2:A9 (bt u 0) with
    | true=>
      have hp:0<Bb A9 u:=by
        have:=Qx (p:=A9) (s:=u) (k:=0) h0 h2;simpa using this
      have hle:=Io A9 u;rw [Tu h1 h2 h0] at he ⊢;cases hd:((Ve (u.take (Bb A9 u))).2 != 0) with
      | true=>rw [hd] at he;exact absurd he (by simpa [Jv] using hd)
      | false=>
        rw [hd] at he;simp only [Al,↓reduceIte] at he ⊢;cases hd2:(decide ((Bb A9 u:Int)<(u.length:Int))&&C7 (bt u (Bb A9 u))) with
        | true=>rw [hd2] at he;exact absurd he (by simp [Jv])
        | false=>
          refine .inr ⟨1,Bb A9 u,by decide,hp,hle,rfl,?_⟩;rw [Tu (by rw [jK hp];exact h1) (by rw [jK hp];exact h2) (by rw [tl _ hle];exact hp),Zx,List.take_take,Nat.min_self,hd,tl _ hle];have e:decide ((Bb A9 u:Int)<(Bb A9 u:Int))=false:=I5 (by omega);rw [e];rfl
    | false=>
      obtain ⟨c,r,rfl⟩:∃c r,u=c::r:=by cases u with | nil=>cases h0 | cons c r=>exact ⟨c,r,rfl⟩
      cases h3:(((bt (c::r) 0).toNat:Int)==34) with
      | true=>
        have hc:c=34:=c34_of h3;subst hc;rw [Xz h3 h0] at he ⊢;by_cases hh:Ky (Eh (34::r) ((34::r).length+1) 1 [])=true
        . rw [if_pos hh] at he ⊢
          obtain ⟨t,m,k1,k2,k3⟩:=rQ _ _ _ _ he;rw [Bi] at k3;exact .inl ⟨t,m,k1,k2,by omega⟩
        . rw [if_neg hh] at he
          exact absurd he (gD r)
      | false=>
        rw [Nj h1 h2 h3 h0] at he ⊢;rw [I3] at he ⊢;cases hv:Kk c (Lib.hasPrefix r [61]) with
        | none=>rw [hv] at he;exact absurd he (by decide)
        | some x=>
          rcases pP c _ x hv with ⟨_,rfl | ⟨h,rfl⟩⟩
          . refine .inr ⟨3,1,by decide,by decide,by simp,rfl,?_⟩
            rw [Nj (u:=(c::r).take 1) h1 h2 h3 (by simp)];show Lh [c]=_;rw [I3]
            have:Kk c (Lib.hasPrefix [] [61])=some [c]:=by
              cases hb:Lib.hasPrefix r [61] with
              | true=>rw [hb] at hv;exact yW c hv
              | false=>rw [hb] at hv;exact hv
            rw [this];rfl
          . have hv2:Kk c true=some [c,61]:=by rw [h] at hv;exact hv
            unfold Lib.hasPrefix at h;rw [Z6] at h;obtain ⟨r',rfl⟩:=h;refine .inr ⟨3,2,by decide,by decide,by simp,rfl,?_⟩;rw [Nj (u:=(c::([61]++r')).take 2) h1 h2 h3 (by simp)];show Lh [c,61]=_;rw [I3];have:Kk c (Lib.hasPrefix [61] [61])=some [c,61]:=hv2;rw [this];rfl
theorem sep_zero {c:UInt8}{r:Ag}(r':Ag)(h:Lc (c::r)=0):Lc (c::r')=0:=by
 have hc:c≠35:=by
  rintro rfl;have:Lc (35::r)=(Bb nR (35::r):Int):=rfl;rw [this,Bb,if_pos (by decide)] at h;omega
 rw [sep_head hc] at h ⊢;exact h
def Ko (t:Tok)(n:Nat):Prop:=
 (∀rest,Sepd rest->B3 (K8 t++rest)=Vw t.kind t.text (K8 t).length)/\(∀rest,Lc (K8 t++rest)=0)/\0<(K8 t).length/\(K8 t).length<=4*n/\t.text.length<=n
theorem xL {u:Ag}(h0:0<u.length)(hs:Lc u=0)(he:(B3 u).err=0)(i:Int):Ko ⟨(B3 u).tok.kind,(B3 u).tok.text,i⟩ (B3 u).bytes.toNat:=by
 rcases xT h0 he with ⟨t,m,h1,h2,h3⟩ | ⟨k,n,hk,hp,hn,h1,h2⟩
 .
  rw [h1]
  have hw:K8 ⟨2,t,i⟩=34::(Bx t++34 :: []):=by
   unfold K8 Pi;have e:decide (64<(t.length:Int))=false:=I5 (by omega);simp only [e];simp
  have hq:=Si t;show Ko ⟨2,t,i⟩ ((m:Int)).toNat;unfold Ko;rw [hw];have hl:(34::(Bx t++34 :: [])).length=(Bx t).length+2:=by simp
  refine ⟨fun rest _=>?_,fun rest=>rfl,by rw [hl];omega,by rw [hl];omega,by simp only;omega⟩;have:=rT t rest h2;rw [hl];have e:34::(Bx t++34 :: [])++rest=34::(Bx t++34::rest):=by simp
  rw [e,this]
  congr 1
 rw [h1]
 have hw:K8 ⟨k,u.take n,i⟩=u.take n:=by
  unfold K8;have e:(k != 2)=true:=by simpa using hk
  simp only [e];rfl
 have tl:(u.take n).length=n:=by rw [Df];omega
 show Ko ⟨k,u.take n,i⟩ ((n:Int)).toNat;unfold Ko;rw [hw];refine ⟨fun rest hr=>?_,fun rest=>?_,by omega,by omega,by simp only;omega⟩
 . rw [xR hr (by omega) (by rw [h2];rfl),h2,tl]
 obtain ⟨c,r,rfl⟩:∃c r,u=c::r:=by cases u with | nil=>cases h0 | cons c r=>exact ⟨c,r,rfl⟩
 obtain ⟨m,rfl⟩:∃m,n=m+1:=⟨n-1,by omega⟩;exact sep_zero _ hs
abbrev kt (t:Tok):Int×Ag:=(t.kind,t.text)
theorem GS.refl (s:St):GS s s:=fun g a w h=>⟨g,h,Ext.refl g w⟩
theorem AW.ghostPost {P:Program}{c:Code}{Q:Exit->St->Prop}{s:St}(h:AW P c (fun e s=>∃s',GS s s'/\Q e s') s):AW P c Q s:=by
 intro Q' g a w hG hQ;refine h Q' g a w hG fun e g' s' a' w' h1 h2 ⟨s2,h3,h4⟩=>?_
 obtain ⟨g2,k1,k2⟩:=h3 g' a' w' h1;exact hQ e g2 s2 a' w' k1 (h2.trans k2) h4
section
variable {P:Program} {T:List (Nat×TD)} {d:Option Nat} {ty:TypeId} {pos:String} {aft:Array Edge} {gd:Option (Nat×Bool)} {ρ:Operand->AV} {K:List HO->Prop}
theorem L8 {t e z:Nat}{td te:TD}{vs:Array Value}{es:List (List AV)}(hT:H6 P T)(ht:Bl T t=some td)(hk:td.kind = .slice e)(hte:Bl T e=some te)(hz:te.size=z)
    (hb:Nat.ble (1*z) 16777216=true) (hl:Nat.beq vs.toList.length z=true) (hs:Au (vs.toList.map AV.val)=true) (hp:Nat.blt 0 z=true) (hes:[vs.toList.map AV.val]=es):Db P ⟨d,.buildSlice t 1 #[(0,.const (.agg vs))],ty,pos,aft,gd⟩ ρ K (.sl z es):=by
  have h:=Mz (d:=d) (ty:=ty) (pos:=pos) (aft:=aft) (gd:=gd) (K:=K) (ρ:=fun _=>.agg (vs.toList.map AV.val)) (parts:=#[(0,.const (.agg vs))]) (n:=1) (es:=es) hT ht hk hte hz rfl hb
    (by simp only [Vm,Cl,By,Nat.beq_refl,Fj,Da,hs,hl]) hp (by subst hes;rfl)
  intro g w a H next Q hr hH hK hn
  refine h g w a H next Q (fun y hy=>?_) hH hK hn
  simp only [Op.operands,List.map_toArray,Be,Bw,List.mem_toArray,Ep] at hy;subst hy;refine .agg vs _ (by simp) (fun i x hi=>?_);rw [List.getElem?_map] at hi;cases hv:vs.toList[i]? with
  | none=>rw [hv] at hi;cases hi
  | some u=>
    rw [hv] at hi;cases hi
    have:vs.getD i undef=u:=by
      rw [Ct];have:vs[i]? = some u:=by simpa using hv
      rw [this];rfl
    rw [this];exact .val _
end
theorem oA (read:Syn->PS->Syn×PS)(z:Syn)(st:PS):Mw read z st=if ((F8 st).bad != 0) then (z,F8 st) else ((read z (adv (deep st))).1,shallow (read z (adv (deep st))).2):=rfl
theorem Zm (read:Syn->PS->Syn×PS)(z:Syn)(st:PS)(bp bo:Nat)(R:List HO)(f:Nat)(hf:Tn Tryz.prog f=true)(first cap:List AV)(hlt:st.pos<st.toks.length)(hS:Sz st)
  (hcl:(F8 st).bad=0->Bt Tryz.prog f (.box bp 116 (cP (adv (deep st))) :: .box bo 25 (cSyn z)::R) (first ++ []++cap) (fun r H'=>r = .tuple []/\H' = .box bp 116 (cP (read z (adv (deep st))).2) :: .box bo 25 (cSyn (read z (adv (deep st))).1)::R)) :
  Bt Tryz.prog 151 (.box bp 116 (cP st) :: .box bo 25 (cSyn z)::R) [.val (.pointer (some ⟨bp,0,none⟩)),.fn (.func f) first cap] (fun r H'=>r = .tuple []/\H' = .box bp 116 (cP (Mw read z st).2) :: .box bo 25 (cSyn (Mw read z st).1)::R):=by
 refine p_nested st (read z (adv (deep st))).2 (Mw read z st).2 bp (.box bo 25 (cSyn z)::R) (.box bo 25 (cSyn (Mw read z st).1)::R) f hf first cap hlt hS (fun hb=>?_) (fun hb=>?_)
 .
  have e:Mw read z st=((read z (adv (deep st))).1,shallow (read z (adv (deep st))).2):=by rw [oA,hb];rfl
  refine Bt.mono' (hcl hb) fun r K hk=>⟨?_,by rw [e]⟩
  rw [hk.2,e]
 have e:Mw read z st=(z,F8 st):=by rw [oA,if_pos (by simpa using hb)]
 rw [e];exact ⟨rfl,rfl⟩
theorem eC {D:Int}{st:PS}(hD:0<=D)(h:okD D st)(hb:(F8 st).bad=0):okD (D+1) (adv (deep st)):=by
 obtain ⟨h1,h2,h3⟩:=h
 have hd:¬64<=st.depth:=fun hd=>by
  unfold F8 at hb;rw [if_pos (Gc hd)] at hb;exact absurd (Md (e:=12) (by decide) st) (by simp [hb])
 have e1:(deep st).depth=st.depth+1:=U9 (by omega) (by omega);exact ⟨h1,show D+1<=(deep st).depth by omega,show (deep st).depth<=64 by omega⟩
theorem tot_get (k:Nat)(h:k<4):∃s,totL[k]? = some s/\(Kl.drop (k*2)).take 2 = [AV.str s.1,.int .i64 s.2]/\s.1.length<=1048576:=by
 match k,h with
 | 0,_=>exact ⟨_,rfl,rfl,by decide⟩
 | 1,_=>exact ⟨_,rfl,rfl,by decide⟩
 | 2,_=>exact ⟨_,rfl,rfl,by decide⟩
 | 3,_=>exact ⟨_,rfl,rfl,by decide⟩
theorem p_unit_1 (st:PS)(bp:Nat)(z:Syn)(bo:Nat)(R:List HO)(D:Int)(hD:0<=D)(E:PS->Syn×PS)(hFE:C5 E)(hE:∀(st:PS) (bp:Nat),okD (D+1) st->Bf Tryz.prog 90 bp 116 (cP st) (cP (E st).2) [.val (.pointer (some ⟨bp,0,none⟩))] (.agg (cSyn (E st).1)))(hO:okD (D+1) st):Bt Tryz.prog 230 (.box bp 116 (cP st) :: .box bo 25 (cSyn z)::R) [.ptr [.val (.pointer (some ⟨bp,0,none⟩))],.val (.pointer (some ⟨bo,0,none⟩))] (fun r H'=>r = .tuple []/\H' = .box bp 116 (cP (Bn Ih (E st).2)) :: .box bo 25 (cSyn (E st).1)::R):=by
 have hS:=((hFE.okD (by omega) hO).1);refine H7 6 Tryz.func230 rfl ?_;refine Af (Qp Kg (qD ((hE st bp hO).at (k:=0) (H2:=_::_::_) rfl rfl) ?_));refine Bz 1 Ak (_::_::_) (A2 (AW.region (Qp Kg ?_)));refine Rt (Dc rfl ((Dk _ _ _ (by simpa using hS) (by first | assumption | decide)).at (k:=0) (H2:=_::_::_) rfl rfl)) ?_;refine AOL.nil ?_;refine ⟨.inl rfl,[],.nil,_,.refl _,?_⟩;exact ⟨rfl,rfl⟩
theorem cU {α:Type}{p:α->Bool}{l:List α}{k:Nat}(hk:¬k<l.length)(hn:∀j y,j<k->l[j]? = some y->p y=false):l.find? p=none:=
 iC fun j y hj hy=>hn j y (by omega) hy
theorem p_unit (st:PS)(bp:Nat)(D:Int)(hD:0<=D)(E:PS->Syn×PS)(hFE:C5 E)(hE:∀(st:PS) (bp:Nat),okD (D+1) st->Bf Tryz.prog 90 bp 116 (cP st) (cP (E st).2) [.val (.pointer (some ⟨bp,0,none⟩))] (.agg (cSyn (E st).1)))(hO:okD D st):Bf Tryz.prog 224 bp 116 (cP st) (cP ((Ip E st).2)) [.val (.pointer (some ⟨bp,0,none⟩))] (.agg (cSyn (Ip E st).1)):=by
 intro H;have hS:=hO.1;refine H7 83 Tryz.func224 rfl ?_;refine Af (Qp (Sw (v:=.val _) (cs:=[_]) rfl rfl rfl) (D7 In fun b2=>B7 (Qp Kg ?_)));refine AOL.Aaz (Cj (k:=1) (by kernel_rfl) rfl rfl (Jy _ _)) rfl rfl ?_;refine Qp Ax (A2 (Cg (Qp Kg ?_)));refine AOL.Aaz (Cj (k:=1) (by kernel_rfl) rfl rfl (rY _ _ _ (by simpa using hS) (by first | assumption | decide))) rfl rfl ?_;refine Bp (fun hc1=>?_) fun hc1=>?_
 .
  try simp only [A5,Bg] at hc1
  refine Af (D7 In fun b4=>B7 (Qp Kg (Qp (B0 (l:=[]) (l':=[.ptr _,.val _]) rfl rfl) ?_)));refine Rt (Dc rfl (Bt.front2 (R:=_::_) 0 1 rfl rfl rfl (Zm (fun _ s=>((E s).1,Bn Ih (E s).2)) He st bp b4 _ 230 (by kernel_rfl) [] [.ptr [.val (.pointer (some ⟨bp,0,none⟩))],.val (.pointer (some ⟨b4,0,none⟩))] (Vk hc1) hS (fun hb=>p_unit_1 _ bp He b4 _ D hD E hFE hE (eC hD hO hb))))) ?_;refine B7 (O3 1 Ak rfl ?_);refine Bz 2 Ak (_::_::_::_) (Rc ?_);refine ⟨.inr rfl,[.agg Ak],.cons (.box _ _ _ 2 _ _ _ _ rfl rfl rfl rfl rfl rfl) <| .nil,_,.cons_cons _ (.cons _ (.cons _ (.refl _))),?_⟩;refine ⟨?_,congrArg (fun c=>HO.box bp 116 c::H) ?_⟩
  .
   try simp only [Ah,Ip,cSyn,Be,Bw,Ba,hc1,↓reduceIte,Al,Av,Bk]
   try rfl
  try simp only [cP,Ip,hc1,↓reduceIte,Al,Av,Bk]
  try rfl
 try simp only [A5,Bg] at hc1
 refine B6 (Cg ?_);refine Qp (Oo (l:=Kl) tok (⟨_,by simp [globals],fun _ h=>h⟩) rfl rfl rfl rfl) ?_;refine Qp A0 (A2 (AW.block ?_));refine AW.loopS (fun (k:Nat)=>(⟨[(1,.ptr [.val (.pointer (some ⟨bp,0,none⟩))]),(2,.val (.pointer (some ⟨b2,0,none⟩))),(3,.int .i64 (D0 st)),(19,.agg Kl),(20,.int .i64 (k:Int))],.box b2 25 (cSyn He) :: .box bp 116 (cP st)::H,83⟩:St)) (fun k=>k<=4/\∀j y,j<k->totL[j]? = some y->G6 y.1 st=false) (fun k=>4-k) (0) ?_ Dh ?_
 . exact ⟨A7 _,fun j y hj=>absurd hj (Nat.not_lt_zero _)⟩
 rintro k hR;refine Af (Qp Cv (Re (Gn (fun hc2=>?_) fun hc2=>?_)))
 .
  try simp only [A5,Bg] at hc2
  have hk:k<4:=by have:=C6 hc2;omega
  refine (tot_get k hk).elim fun x hx3=>?_
  have hx:=hx3.1;have hx2:=hx3.2.1;have hwx:=hx3.2.2;refine B6 (AW.seq (AW.block (Af ?_)));refine Qp (jE (l:=[.str x.1,.int .i64 x.2]) tok rfl rfl rfl rfl rfl rfl (by omega) (by omega) (by show k*2+2<=8;omega) (hx2)) ?_;refine D7 gix fun b6=>?_
  refine Bz 0 Iy (_::_::_::_) ?_;refine Kh 6 0 rfl ?_;refine B7 (Qp Kg (Qp (Qf Iy) (Qp F4 ?_)));refine Rt (Dc rfl ((Ed _ _ _ (by simpa using hS) (by first | assumption | decide)).at (k:=1) (H2:=_::_::_) rfl rfl)) ?_;refine Bp (fun hc3=>?_) fun hc3=>?_
  .
   try simp only [A5,Bg] at hc3
   have hfd:totL.find? (fun s=>G6 s.1 st)=some x:=Xo hR.2 hx hc3;refine AW.ghost (GS.Aay (H2:=_::_::_) 1 rfl (congrArg cP (Et hc3)) rfl) ?_;refine Af (Qp (Qf [Iq _]) (Qp Cd (Qp A0 (Qp (E2 Ak) (D7 In fun b7=>?_)))));refine Bz 0 Ak (_::_::_::_) (B7 (Qp Kg ?_));refine Rt (Dc rfl (Bt.front2 (R:=_::_) 0 1 rfl rfl rfl (oH (adv st) bp (⟨16,[],[],x.2,[],D0 st⟩) b7 (by simpa using hS) _))) ?_;refine B7 (Qp Kg ?_);refine Rt (Dc rfl ((Dk _ _ _ (by simpa using hS) (by first | assumption | decide)).at (k:=0) (H2:=_::_::_::_) rfl rfl)) ?_;refine B7 (Qp Kg ?_);refine Rt (Dc rfl ((eF _ _ (by simpa using hS)).at (k:=0) (H2:=_::_::_::_) rfl rfl)) ?_;refine Qp (Ir [Ak] rfl) (Qp Cw ?_);refine Bz 1 Ak (_::_::_::_) (B7 (Qp Kg ?_));refine Rt (Dc rfl ((Dk _ _ _ (by simpa using hS) (by first | assumption | decide)).at (k:=0) (H2:=_::_::_::_) rfl rfl)) ?_;refine B7 (O3 1 Ak rfl ?_);refine Bz 2 Ak (_::_::_::_) (Ra (A4 (Dw (A4 ?_))));refine ⟨.inr rfl,[.agg Ak],.cons (.box _ _ _ 2 _ _ _ _ rfl rfl rfl rfl rfl rfl) <| .nil,_,.cons_cons _ (.cons _ (.cons _ (.refl _))),?_⟩;refine ⟨?_,congrArg (fun c=>HO.box bp 116 c::H) ?_⟩
   .
    try simp only [Ah,Ip,hfd,cSyn,Be,Bw,Ba,hc1,hc2,hc3,↓reduceIte,Al,Av,Bk]
    try rfl
   try simp only [cP,Ip,hfd,hc1,hc2,hc3,↓reduceIte,Al,Av,Bk]
   try rfl
  try simp only [A5,Bg] at hc3
  refine AW.ghost (GS.Aay (H2:=_::_::_) 1 rfl (congrArg cP (G2 hc3)) rfl) ?_;refine Rf (AW.region (Qp Hb (Qp A0 (A2 ?_))));refine ⟨k+1,?_,?_,Dh⟩
  . exact ⟨hk,fun j y hj hy=>by rcases Ym.1 hj with h | rfl;exact hR.2 j y h hy;rw [hx] at hy;cases hy;exact hc3⟩
  omega
 try simp only [A5,Bg] at hc2
 have hkn:¬k<4:=by have:=Er hc2;omega
 have hfd:totL.find? (fun s=>G6 s.1 st)=none:=cU (k:=k) hkn hR.2;refine AW.exit ?_;refine Br (Ri (AW.seq (AW.block (Af (Qp Kg ?_)))));refine Rt (Dc rfl ((Ed _ _ _ (by simpa using hS) (by first | assumption | decide)).at (k:=1) (H2:=_::_::_) rfl rfl)) ?_;refine Qp Bh (Bp (fun hc4=>?_) fun hc4=>?_)
 .
  try simp only [A5,Bg] at hc4
  refine AW.ghost (GS.Aay (H2:=_::_::_) 1 rfl (congrArg cP (Et hc4)) rfl) ?_;refine Af (Qp A0 (Qp (E2 Ak) (D7 In fun b8=>?_)));refine Bz 0 Ak (_::_::_::_) (B7 (Qp Kg ?_));refine Rt (Dc rfl (Bt.front2 (R:=_::_) 0 1 rfl rfl rfl (oH (adv st) bp (⟨16,[],[],1,[],D0 st⟩) b8 (by simpa using hS) _))) ?_;refine B7 (Qp Kg ?_);refine Rt (Dc rfl ((Dk _ _ _ (by simpa using hS) (by first | assumption | decide)).at (k:=0) (H2:=_::_::_::_) rfl rfl)) ?_;refine B7 (O3 1 Ak rfl ?_);refine Bz 2 Ak (_::_::_::_) (Ra ?_);refine ⟨.inr rfl,[.agg Ak],.cons (.box _ _ _ 2 _ _ _ _ rfl rfl rfl rfl rfl rfl) <| .nil,_,.cons_cons _ (.cons _ (.cons _ (.refl _))),?_⟩;refine ⟨?_,congrArg (fun c=>HO.box bp 116 c::H) ?_⟩
  .
   try simp only [Ah,Ip,hfd,cSyn,Be,Bw,Ba,hc1,hc2,hc4,↓reduceIte,Al,Av,Bk]
   try rfl
  try simp only [cP,Ip,hfd,hc1,hc2,hc4,↓reduceIte,Al,Av,Bk]
  try rfl
 try simp only [A5,Bg] at hc4
 refine AW.ghost (GS.Aay (H2:=_::_::_) 1 rfl (congrArg cP (G2 hc4)) rfl) ?_;refine Af (Qp Kg ?_);refine Rt (Dc rfl ((Ed _ _ _ (by simpa using hS) (by first | assumption | decide)).at (k:=1) (H2:=_::_::_) rfl rfl)) ?_;refine Qp Bh (Bp (fun hc5=>?_) fun hc5=>?_)
 .
  try simp only [A5,Bg] at hc5
  refine AW.ghost (GS.Aay (H2:=_::_::_) 1 rfl (congrArg cP (Et hc5)) rfl) ?_;refine Af (Qp Kg ?_);refine Rt (Dc rfl ((Dk _ _ _ (by simpa using hS) (by first | assumption | decide)).at (k:=1) (H2:=_::_::_) rfl rfl)) ?_;refine B7 (Qp Kg ?_);refine Rt (Dc rfl ((N4 _ _ (by simpa using hS)).at (k:=1) (H2:=_::_::_) rfl rfl)) ?_;refine Qp A0 (Qp (E2 Ak) (D7 In fun b9=>?_));refine Bz 0 Ak (_::_::_::_) ?_;refine Kh 9 0 rfl ?_;refine B7 (Qp Kg ?_);refine Rt (Dc rfl ((Dk _ _ _ (by simpa using hS) (by first | assumption | decide)).at (k:=1) (H2:=_::_::_) rfl rfl)) ?_;refine B7 (Qp (C1 Ak) ?_);refine Bz 0 Ak (_::_::_) (Ra ?_);refine ⟨.inr rfl,[.agg Ak],Zb 0,_,S1,?_⟩;refine ⟨?_,congrArg (fun c=>HO.box bp 116 c::H) ?_⟩
  .
   try simp only [Ah,Ip,hfd,cSyn,Be,Bw,Ba,hc1,hc2,hc4,hc5,↓reduceIte,Al,Av,Bk]
   try rfl
  try simp only [cP,Ip,hfd,hc1,hc2,hc4,hc5,↓reduceIte,Al,Av,Bk]
  try rfl
 try simp only [A5,Bg] at hc5
 refine AW.ghost (GS.Aay (H2:=_::_::_) 1 rfl (congrArg cP (G2 hc5)) rfl) ?_;refine Af (Qp Kg ?_);refine AOL.Aaz (Cj (k:=1) (by kernel_rfl) rfl rfl (rZ _ _ _ (by simpa using hS))) rfl rfl ?_;refine Qp Bh (Bp (fun hc6=>?_) fun hc6=>?_)
 .
  try simp only [A5,Bg] at hc6
  refine Af (Qp Kg ?_);refine Rt (Dc rfl ((N4 _ _ (by simpa using hS)).at (k:=1) (H2:=_::_::_) rfl rfl)) ?_;refine Qp A0 (Qp (E2 Ak) (D7 In fun b10=>?_));refine Bz 0 Ak (_::_::_::_) (B7 (Qp Kg ?_));refine Rt (Dc rfl ((Dk _ _ _ (by simpa using hS) (by first | assumption | decide)).at (k:=2) (H2:=_::_::_::_) rfl rfl)) ?_;refine A2 (Cg (Qp Kg ?_));refine Rt (Dc rfl ((Ed _ _ _ (by simpa using hS) (by first | assumption | decide)).at (k:=2) (H2:=_::_::_::_) rfl rfl)) ?_;refine Bp (fun hc7=>?_) fun hc7=>?_
  .
   try simp only [A5,Bg] at hc7
   refine AW.ghost (GS.Aay (H2:=_::_::_::_) 2 rfl (congrArg cP (Et hc7)) rfl) ?_;refine AW.region (Qp Cw ?_);refine Bz 0 Ak (_::_::_::_) (B7 (O3 0 Ak rfl ?_));refine Bz 1 Ak (_::_::_::_) (Ra ?_);refine ⟨.inr rfl,[.agg Ak],Zb 1,_,S2,?_⟩;refine ⟨?_,congrArg (fun c=>HO.box bp 116 c::H) ?_⟩
   .
    try simp only [Ah,Ip,hfd,cSyn,Be,Bw,Ba,hc1,hc2,hc4,hc5,hc6,hc7,↓reduceIte,Al,Av,Bk]
    try rfl
   try simp only [cP,Ip,hfd,hc1,hc2,hc4,hc5,hc6,hc7,↓reduceIte,Al,Av,Bk]
   try rfl
  try simp only [A5,Bg] at hc7
  refine AW.ghost (GS.Aay (H2:=_::_::_::_) 2 rfl (congrArg cP (G2 hc7)) rfl) ?_;refine AW.region (Qp Kg ?_);refine Rt (Dc rfl ((N4 _ _ (by simpa using hS)).at (k:=2) (H2:=_::_::_::_) rfl rfl)) ?_;refine Qp Cw ?_;refine Bz 0 Ak (_::_::_::_) (B7 (O3 0 Ak rfl ?_));refine Bz 1 Ak (_::_::_::_) (Ra ?_);refine ⟨.inr rfl,[.agg Ak],Zb 1,_,S2,?_⟩;refine ⟨?_,congrArg (fun c=>HO.box bp 116 c::H) ?_⟩
  .
   try simp only [Ah,Ip,hfd,cSyn,Be,Bw,Ba,hc1,hc2,hc4,hc5,hc6,hc7,↓reduceIte,Al,Av,Bk]
   try rfl
  try simp only [cP,Ip,hfd,hc1,hc2,hc4,hc5,hc6,hc7,↓reduceIte,Al,Av,Bk]
  try rfl
 try simp only [A5,Bg] at hc6
 refine Rf (Af (Qp Kg ?_));refine Rt (Dc rfl ((eF _ _ (by simpa using hS)).at (k:=1) (H2:=_::_::_) rfl rfl)) ?_;refine Bz 0 Ak (_::_::_) (Rb ?_);refine ⟨.inr rfl,[.agg Ak],Zb 0,_,S1,?_⟩;refine ⟨?_,congrArg (fun c=>HO.box bp 116 c::H) ?_⟩
 .
  try simp only [Ah,Ip,hfd,cSyn,Be,Bw,Ba,hc1,hc2,hc4,hc5,hc6,↓reduceIte,Al,Av,Bk]
  try rfl
 try simp only [cP,Ip,hfd,hc1,hc2,hc4,hc5,hc6,↓reduceIte,Al,Av,Bk]
 try rfl
theorem eI (st:PS)(bp:Nat)(D:Int)(hD:0<=D)(E:PS->Syn×PS)(hFE:C5 E)(hE:∀(st:PS) (bp:Nat),okD (D+1) st->Bf Tryz.prog 90 bp 116 (cP st) (cP (E st).2) [.val (.pointer (some ⟨bp,0,none⟩))] (.agg (cSyn (E st).1)))(hO:okD D st):Bf Tryz.prog 219 bp 116 (cP st) (cP ((Hd E st).2)) [.val (.pointer (some ⟨bp,0,none⟩))] (.agg (cSyn (Hd E st).1)):=by
 intro H;refine H7 8 Tryz.func219 rfl ?_;refine Af (D7 In fun b2=>B7 (Qp Bu (Qp Bu (Qp (B0 (l:=[.val _]) (l':=[]) rfl rfl) ?_))));refine Qp (Rl (es:=sumL.map cSg) tok (⟨fun cs=>cs=Qz,by simp [globals],fun _ h=>h⟩) rfl rfl rfl rfl rfl rfl rfl rfl rfl) ?_;refine Rt (Dc rfl ((kR st bp D hD 224 (by kernel_rfl) [.val (.pointer (some ⟨bp,0,none⟩))] [] (Ip E) (iD hFE) (fun s ho=>p_unit s bp D hD E hFE hE ho) hO sumL (by decide) (by decide)).at (k:=1) (H2:=_::_::_) rfl rfl)) ?_;refine Bz 0 Ak (_::_::_) (Rb ?_);refine ⟨.inr rfl,[.agg Ak],Zb 0,_,S1,?_⟩;refine ⟨rfl,rfl⟩
theorem yA (st:PS)(bp:Nat)(D:Int)(hD:0<=D)(E:PS->Syn×PS)(hFE:C5 E)(hE:∀(st:PS) (bp:Nat),okD (D+1) st->Bf Tryz.prog 90 bp 116 (cP st) (cP (E st).2) [.val (.pointer (some ⟨bp,0,none⟩))] (.agg (cSyn (E st).1)))(hO:okD D st):Bf Tryz.prog 212 bp 116 (cP st) (cP ((Nv E st).2)) [.val (.pointer (some ⟨bp,0,none⟩))] (.agg (cSyn (Nv E st).1)):=by
 intro H;have hO2:=(cY hFE).okD hD hO;have hS:=hO2.1;refine H7 65 Tryz.func212 rfl ?_;refine Af (D7 In fun b2=>B7 (Qp Bu (qD ((eI st bp D hD E hFE hE hO).at (k:=1) (H2:=_::_::_) rfl rfl) (D7 In fun b3=>?_))));refine Bz 0 Ak (_::_::_::_) ?_;refine Kh 3 0 rfl ?_;refine Re (AW.block (Af (Qp Bu ?_)));refine Rt (Dc rfl ((Ed _ _ _ (by simpa using hS) (by decide)).at (k:=1) (H2:=_::_::_) rfl rfl)) ?_;refine Qp Bh (Bp (fun hc1=>?_) fun hc1=>?_)
 .
  try simp only [A5,Bg] at hc1
  refine AW.ghost (GS.Aay (H2:=_::_::_) 1 rfl (congrArg cP (Et hc1)) rfl) ?_;refine AW.seq ?_;refine Ok ?_;refine Qn 0 rfl (C1 Ak) (Qn 1 rfl Bu (Qn 3 rfl (Qf [Iq _]) (Qn 4 rfl Cd ?_)));refine Ns 2 rfl (Dc rfl ((eI (adv (Hd E st).2) bp D hD E hFE hE (by simpa using hO2)).at (k:=1) (H2:=_::_::_) rfl rfl)) ?_;refine Qn 5 rfl (Qc rfl (Lt _ _ _ _)) ?_;refine Ns 6 rfl (Ki 0 (.agg _) Ak (_::_::_) rfl) ?_;refine Iw ?_;refine Aa (AW.ret (Dw (A4 ?_)));refine ⟨.inr rfl,[.agg Ak],Zb 0,_,S1,?_⟩;refine ⟨?_,congrArg (fun c=>HO.box bp 116 c::H) ?_⟩
  .
   try simp only [Ah,Nv,cSyn,Be,Bw,Ba,hc1,↓reduceIte,Al,Av,Bk]
   try rfl
  try simp only [cP,Nv,hc1,↓reduceIte,Al,Av,Bk]
  try rfl
 try simp only [A5,Bg] at hc1
 refine AW.ghost (GS.Aay (H2:=_::_::_) 1 rfl (congrArg cP (G2 hc1)) rfl) ?_;refine Af (Qp Bu ?_);refine Rt (Dc rfl ((Ed _ _ _ (by simpa using hS) (by decide)).at (k:=1) (H2:=_::_::_) rfl rfl)) ?_;refine Qp Bh (Bp (fun hc2=>?_) fun hc2=>?_)
 .
  try simp only [A5,Bg] at hc2
  refine AW.ghost (GS.Aay (H2:=_::_::_) 1 rfl (congrArg cP (Et hc2)) rfl) ?_;refine AW.seq ?_;refine Ok ?_;refine Qn 0 rfl (C1 Ak) (Qn 1 rfl Bu (Qn 3 rfl (Qf [Iq _]) (Qn 4 rfl Cd ?_)));refine Ns 2 rfl (Dc rfl ((eI (adv (Hd E st).2) bp D hD E hFE hE (by simpa using hO2)).at (k:=1) (H2:=_::_::_) rfl rfl)) ?_;refine Qn 5 rfl (Qc rfl (Lt _ _ _ _)) ?_;refine Ns 6 rfl (Ki 0 (.agg _) Ak (_::_::_) rfl) ?_;refine Iw ?_;refine Aa (AW.ret (Dw (A4 ?_)));refine ⟨.inr rfl,[.agg Ak],Zb 0,_,S1,?_⟩;refine ⟨?_,congrArg (fun c=>HO.box bp 116 c::H) ?_⟩
  .
   try simp only [Ah,Nv,cSyn,Be,Bw,Ba,hc1,hc2,↓reduceIte,Al,Av,Bk]
   try rfl
  try simp only [cP,Nv,hc1,hc2,↓reduceIte,Al,Av,Bk]
  try rfl
 try simp only [A5,Bg] at hc2
 refine AW.ghost (GS.Aay (H2:=_::_::_) 1 rfl (congrArg cP (G2 hc2)) rfl) ?_;refine Af (Qp Bu ?_);refine Rt (Dc rfl ((Ed _ _ _ (by simpa using hS) (by decide)).at (k:=1) (H2:=_::_::_) rfl rfl)) ?_;refine Qp Bh (Bp (fun hc3=>?_) fun hc3=>?_)
 .
  try simp only [A5,Bg] at hc3
  refine AW.ghost (GS.Aay (H2:=_::_::_) 1 rfl (congrArg cP (Et hc3)) rfl) ?_;refine AW.seq ?_;refine Ok ?_;refine Qn 0 rfl Bu (Qn 2 rfl (C1 Ak) (Qn 3 rfl (Qf [Iq _]) (Qn 4 rfl Cd ?_)));refine Ns 1 rfl (Dc rfl ((eI (adv (Hd E st).2) bp D hD E hFE hE (by simpa using hO2)).at (k:=1) (H2:=_::_::_) rfl rfl)) ?_;refine Qn 5 rfl (Qc rfl (Lt _ _ _ _)) ?_;refine Ns 6 rfl (Ki 0 (.agg _) Ak (_::_::_) rfl) ?_;refine Iw ?_;refine Aa (AW.ret (Dw (A4 ?_)));refine ⟨.inr rfl,[.agg Ak],Zb 0,_,S1,?_⟩;refine ⟨?_,congrArg (fun c=>HO.box bp 116 c::H) ?_⟩
  .
   try simp only [Ah,Nv,cSyn,Be,Bw,Ba,hc1,hc2,hc3,↓reduceIte,Al,Av,Bk]
   try rfl
  try simp only [cP,Nv,hc1,hc2,hc3,↓reduceIte,Al,Av,Bk]
  try rfl
 try simp only [A5,Bg] at hc3
 refine AW.ghost (GS.Aay (H2:=_::_::_) 1 rfl (congrArg cP (G2 hc3)) rfl) ?_;refine Af (Qp Bu ?_);refine Rt (Dc rfl ((Ed _ _ _ (by simpa using hS) (by decide)).at (k:=1) (H2:=_::_::_) rfl rfl)) ?_;refine Qp Bh (Bp (fun hc4=>?_) fun hc4=>?_)
 .
  try simp only [A5,Bg] at hc4
  refine AW.ghost (GS.Aay (H2:=_::_::_) 1 rfl (congrArg cP (Et hc4)) rfl) ?_;refine AW.seq ?_;refine Ok ?_;refine Qn 0 rfl Bu (Qn 2 rfl (C1 Ak) (Qn 3 rfl (Qf [Iq _]) (Qn 4 rfl Cd ?_)));refine Ns 1 rfl (Dc rfl ((eI (adv (Hd E st).2) bp D hD E hFE hE (by simpa using hO2)).at (k:=1) (H2:=_::_::_) rfl rfl)) ?_;refine Qn 5 rfl (Qc rfl (Lt _ _ _ _)) ?_;refine Ns 6 rfl (Ki 0 (.agg _) Ak (_::_::_) rfl) ?_;refine Iw ?_;refine Aa (AW.ret (Dw (A4 ?_)));refine ⟨.inr rfl,[.agg Ak],Zb 0,_,S1,?_⟩;refine ⟨?_,congrArg (fun c=>HO.box bp 116 c::H) ?_⟩
  .
   try simp only [Ah,Nv,cSyn,Be,Bw,Ba,hc1,hc2,hc3,hc4,↓reduceIte,Al,Av,Bk]
   try rfl
  try simp only [cP,Nv,hc1,hc2,hc3,hc4,↓reduceIte,Al,Av,Bk]
  try rfl
 try simp only [A5,Bg] at hc4
 refine AW.ghost (GS.Aay (H2:=_::_::_) 1 rfl (congrArg cP (G2 hc4)) rfl) ?_;refine Af (Qp Bu ?_);refine Rt (Dc rfl ((Ed _ _ _ (by simpa using hS) (by decide)).at (k:=1) (H2:=_::_::_) rfl rfl)) ?_;refine Qp Bh (Bp (fun hc5=>?_) fun hc5=>?_)
 .
  try simp only [A5,Bg] at hc5
  refine AW.ghost (GS.Aay (H2:=_::_::_) 1 rfl (congrArg cP (Et hc5)) rfl) ?_;refine AW.seq ?_;refine Ok ?_;refine Qn 0 rfl (C1 Ak) (Qn 1 rfl Bu (Qn 3 rfl (Qf [Iq _]) (Qn 4 rfl Cd ?_)));refine Ns 2 rfl (Dc rfl ((eI (adv (Hd E st).2) bp D hD E hFE hE (by simpa using hO2)).at (k:=1) (H2:=_::_::_) rfl rfl)) ?_;refine Qn 5 rfl (Qc rfl (Lt _ _ _ _)) ?_;refine Ns 6 rfl (Ki 0 (.agg _) Ak (_::_::_) rfl) ?_;refine Iw ?_;refine Aa (AW.ret (Dw (A4 ?_)));refine ⟨.inr rfl,[.agg Ak],Zb 0,_,S1,?_⟩;refine ⟨?_,congrArg (fun c=>HO.box bp 116 c::H) ?_⟩
  .
   try simp only [Ah,Nv,cSyn,Be,Bw,Ba,hc1,hc2,hc3,hc4,hc5,↓reduceIte,Al,Av,Bk]
   try rfl
  try simp only [cP,Nv,hc1,hc2,hc3,hc4,hc5,↓reduceIte,Al,Av,Bk]
  try rfl
 try simp only [A5,Bg] at hc5
 refine AW.ghost (GS.Aay (H2:=_::_::_) 1 rfl (congrArg cP (G2 hc5)) rfl) ?_;refine Af (Qp Bu ?_);refine Rt (Dc rfl ((Ed _ _ _ (by simpa using hS) (by decide)).at (k:=1) (H2:=_::_::_) rfl rfl)) ?_;refine Qp Bh (Bp (fun hc6=>?_) fun hc6=>?_)
 .
  try simp only [A5,Bg] at hc6
  refine AW.ghost (GS.Aay (H2:=_::_::_) 1 rfl (congrArg cP (Et hc6)) rfl) ?_;refine AW.seq ?_;refine Ok ?_;refine Qn 0 rfl (C1 Ak) (Qn 1 rfl Bu (Qn 3 rfl (Qf [Iq _]) (Qn 4 rfl Cd (Qn 7 rfl (Qf [Iq _]) (Qn 8 rfl Cd ?_)))));refine Ns 2 rfl (Dc rfl ((eI (adv (Hd E st).2) bp D hD E hFE hE (by simpa using hO2)).at (k:=1) (H2:=_::_::_) rfl rfl)) ?_;refine Qn 5 rfl (Qc rfl (Lt _ _ _ _)) (Qn 6 rfl (Ir [Ak] rfl) (Qn 9 rfl (E2 Ak) ?_));refine Ns 10 rfl (Ki 0 (.agg _) Ak (_::_::_) rfl) ?_;refine Iw ?_;refine Aa (AW.ret (Dw (A4 ?_)));refine ⟨.inr rfl,[.agg Ak],Zb 0,_,S1,?_⟩;refine ⟨?_,congrArg (fun c=>HO.box bp 116 c::H) ?_⟩
  .
   try simp only [Ah,Nv,cSyn,Be,Bw,Ba,hc1,hc2,hc3,hc4,hc5,hc6,↓reduceIte,Al,Av,Bk]
   try rfl
  try simp only [cP,Nv,hc1,hc2,hc3,hc4,hc5,hc6,↓reduceIte,Al,Av,Bk]
  try rfl
 try simp only [A5,Bg] at hc6
 refine AW.ghost (GS.Aay (H2:=_::_::_) 1 rfl (congrArg cP (G2 hc6)) rfl) ?_;refine Rf (Af (Qp (C1 Ak) ?_));refine Bz 0 Ak (_::_::_) (Rb ?_);refine ⟨.inr rfl,[.agg Ak],Zb 0,_,S1,?_⟩;refine ⟨?_,congrArg (fun c=>HO.box bp 116 c::H) ?_⟩
 .
  try simp only [Ah,Nv,cSyn,Be,Bw,Ba,hc1,hc2,hc3,hc4,hc5,hc6,↓reduceIte,Al,Av,Bk]
  try rfl
 try simp only [cP,Nv,hc1,hc2,hc3,hc4,hc5,hc6,↓reduceIte,Al,Av,Bk]
 try rfl
theorem p_not_1 (st:PS)(bp:Nat)(z:Syn)(bo:Nat)(R:List HO)(D:Int)(hD:0<=D)(E:PS->Syn×PS)(hFE:C5 E)(hE:∀(st:PS) (bp:Nat),okD (D+1) st->Bf Tryz.prog 90 bp 116 (cP st) (cP (E st).2) [.val (.pointer (some ⟨bp,0,none⟩))] (.agg (cSyn (E st).1)))(N:PS->Syn×PS)(hFN:C5 N)(hN:∀(st:PS) (bp:Nat),okD (D+1) st->Bf Tryz.prog 195 bp 116 (cP st) (cP (N st).2) [.val (.pointer (some ⟨bp,0,none⟩))] (.agg (cSyn (N st).1)))(hO:okD (D+1) st):Bt Tryz.prog 213 (.box bp 116 (cP st) :: .box bo 25 (cSyn z)::R) [.ptr [.val (.pointer (some ⟨bp,0,none⟩))],.val (.pointer (some ⟨bo,0,none⟩))] (fun r H'=>r = .tuple []/\H' = .box bp 116 (cP (N st).2) :: .box bo 25 (cSyn { z with kids:=[(N st).1] })::R):=by
 refine H7 6 Tryz.func213 rfl ?_;refine AW.region (Qp Kg (qD ((hN st bp hO).at (k:=0) (H2:=_::_::_) rfl rfl) (Qp (Ir [Ak] rfl) (Qp Cw ?_))));refine Bz 1 Ak (_::_::_) (AOL.nil ?_);refine ⟨.inl rfl,[],.nil,_,.refl _,?_⟩;exact ⟨rfl,congrArg (fun l=>HO.box bp 116 (cP (N st).2)::HO.box bo 25 [.int .i64 z.kind,.str z.text,.str z.name,.int .i64 z.num,.sl 6 l,.int .i64 z.pos]::R) (by rw [Be,Bw,Ba])⟩
theorem p_not (st:PS)(bp:Nat)(D:Int)(hD:0<=D)(E:PS->Syn×PS)(hFE:C5 E)(hE:∀(st:PS) (bp:Nat),okD (D+1) st->Bf Tryz.prog 90 bp 116 (cP st) (cP (E st).2) [.val (.pointer (some ⟨bp,0,none⟩))] (.agg (cSyn (E st).1)))(N:PS->Syn×PS)(hFN:C5 N)(hN:∀(st:PS) (bp:Nat),okD (D+1) st->Bf Tryz.prog 195 bp 116 (cP st) (cP (N st).2) [.val (.pointer (some ⟨bp,0,none⟩))] (.agg (cSyn (N st).1)))(hO:okD D st):Bf Tryz.prog 195 bp 116 (cP st) (cP ((Vd E N st).2)) [.val (.pointer (some ⟨bp,0,none⟩))] (.agg (cSyn (Vd E N st).1)):=by
 intro H;have hS:=hO.1;refine H7 16 Tryz.func195 rfl ?_;refine Af (Qp (Sw (v:=.val _) (cs:=[_]) rfl rfl rfl) (D7 In fun b2=>A2 (Cg (Qp Kg ?_))));refine AOL.Aaz (Cj (k:=1) (by kernel_rfl) rfl rfl (rY _ _ _ (by simpa using hS) (by decide))) rfl rfl ?_;refine Qp J4 (Bp (fun hc1=>?_) fun hc1=>?_)
 .
  try simp only [A5,Bg] at hc1
  refine Af (Qp Kg (qD ((yA st bp D hD E hFE hE hO).at (k:=1) (H2:=_::_::_) rfl rfl) ?_));refine Bz 0 Ak (_::_::_) (Rc ?_);refine ⟨.inr rfl,[.agg Ak],Zb 0,_,S1,?_⟩;refine ⟨?_,congrArg (fun c=>HO.box bp 116 c::H) ?_⟩
  .
   try simp only [Ah,Vd,cSyn,Be,Bw,Ba,hc1,↓reduceIte,Al,Av,Bk]
   try rfl
  try simp only [cP,Vd,hc1,↓reduceIte,Al,Av,Bk]
  try rfl
 try simp only [A5,Bg] at hc1
 refine B6 (Af (Qp Kg ?_));refine AOL.Aaz (Cj (k:=1) (by kernel_rfl) rfl rfl (Jy _ _)) rfl rfl ?_;refine Qp (E2 Ak) (D7 In fun b3=>?_);refine Bz 0 Ak (_::_::_::_) (B7 (Qp Kg (Qp (B0 (l:=[]) (l':=[.ptr _,.val _]) rfl rfl) ?_)));refine Rt (Dc rfl (Bt.front2 (R:=_::_) 0 1 rfl rfl rfl (Zm (fun z s=>({ z with kids:=[(N s).1] },(N s).2)) ⟨18,[],[],0,[],D0 st⟩ st bp b3 _ 213 (by kernel_rfl) [] [.ptr [.val (.pointer (some ⟨bp,0,none⟩))],.val (.pointer (some ⟨b3,0,none⟩))] (Vk hc1) hS (fun hb=>p_not_1 _ bp ⟨18,[],[],0,[],D0 st⟩ b3 _ D hD E hFE hE N hFN hN (eC hD hO hb))))) ?_;refine B7 (O3 1 Ak rfl ?_);refine Bz 2 Ak (_::_::_::_) (Rb ?_);refine ⟨.inr rfl,[.agg Ak],.cons (.box _ _ _ 2 _ _ _ _ rfl rfl rfl rfl rfl rfl) <| .nil,_,.cons_cons _ (.cons _ (.cons _ (.refl _))),?_⟩;refine ⟨?_,congrArg (fun c=>HO.box bp 116 c::H) ?_⟩
 .
  try simp only [Ah,Vd,cSyn,Be,Bw,Ba,hc1,↓reduceIte,Al,Av,Bk]
  try rfl
 try simp only [cP,Vd,hc1,↓reduceIte,Al,Av,Bk]
 try rfl
theorem p_and (st:PS)(bp:Nat)(D:Int)(hD:0<=D)(E:PS->Syn×PS)(hFE:C5 E)(hE:∀(st:PS) (bp:Nat),okD (D+1) st->Bf Tryz.prog 90 bp 116 (cP st) (cP (E st).2) [.val (.pointer (some ⟨bp,0,none⟩))] (.agg (cSyn (E st).1)))(N:PS->Syn×PS)(hFN:C5 N)(hN:∀(st:PS) (bp:Nat),okD (D+1) st->Bf Tryz.prog 195 bp 116 (cP st) (cP (N st).2) [.val (.pointer (some ⟨bp,0,none⟩))] (.agg (cSyn (N st).1)))(hO:okD D st):Bf Tryz.prog 155 bp 116 (cP st) (cP ((andP E N st).2)) [.val (.pointer (some ⟨bp,0,none⟩))] (.agg (cSyn (andP E N st).1)):=by
 intro H;refine H7 8 Tryz.func155 rfl ?_;refine Af (D7 In fun b2=>B7 (Qp Bu (Qp Bu (Qp (B0 (l:=[.val _]) (l':=[]) rfl rfl) ?_))));refine Qp (Rl (es:=qO.map cSg) tok (⟨fun cs=>cs=P0,by simp [globals],fun _ h=>h⟩) rfl rfl rfl rfl rfl rfl rfl rfl rfl) ?_;refine Rt (Dc rfl ((kR st bp D hD 195 (by kernel_rfl) [.val (.pointer (some ⟨bp,0,none⟩))] [] (Vd E N) (Tm hFE hFN) (fun s ho=>p_not s bp D hD E hFE hE N hFN hN ho) hO qO (by decide) (by decide)).at (k:=1) (H2:=_::_::_) rfl rfl)) ?_;refine Bz 0 Ak (_::_::_) (Rb ?_);refine ⟨.inr rfl,[.agg Ak],Zb 0,_,S1,?_⟩;refine ⟨rfl,rfl⟩
theorem p_expr (st:PS)(bp:Nat)(D:Int)(hD:0<=D)(E:PS->Syn×PS)(hFE:C5 E)(hE:∀(st:PS) (bp:Nat),okD (D+1) st->Bf Tryz.prog 90 bp 116 (cP st) (cP (E st).2) [.val (.pointer (some ⟨bp,0,none⟩))] (.agg (cSyn (E st).1)))(N:PS->Syn×PS)(hFN:C5 N)(hN:∀(st:PS) (bp:Nat),okD (D+1) st->Bf Tryz.prog 195 bp 116 (cP st) (cP (N st).2) [.val (.pointer (some ⟨bp,0,none⟩))] (.agg (cSyn (N st).1)))(hO:okD D st):Bf Tryz.prog 90 bp 116 (cP st) (cP ((orP E N st).2)) [.val (.pointer (some ⟨bp,0,none⟩))] (.agg (cSyn (orP E N st).1)):=by
 intro H;refine H7 8 Tryz.func90 rfl ?_;refine Af (D7 In fun b2=>B7 (Qp Bu (Qp Bu (Qp (B0 (l:=[.val _]) (l':=[]) rfl rfl) ?_))));refine Qp (Rl (es:=orL.map cSg) tok (⟨fun cs=>cs=Tx,by simp [globals],fun _ h=>h⟩) rfl rfl rfl rfl rfl rfl rfl rfl rfl) ?_;refine Rt (Dc rfl ((kR st bp D hD 155 (by kernel_rfl) [.val (.pointer (some ⟨bp,0,none⟩))] [] (andP E N) (Rw (Tm hFE hFN) qO) (fun s ho=>p_and s bp D hD E hFE hE N hFN hN ho) hO orL (by decide) (by decide)).at (k:=1) (H2:=_::_::_) rfl rfl)) ?_;refine Bz 0 Ak (_::_::_) (Rb ?_);refine ⟨.inr rfl,[.agg Ak],Zb 0,_,S1,?_⟩;refine ⟨rfl,rfl⟩
theorem Tw {st:PS}(h:okD (64+1) st):False:=by have:=h.2.1;have:=h.2.2;omega
theorem vJ:∀(n:Nat),n<=64->(∀(st:PS) (bp:Nat),okD (64-(n:Int)) st->Bf Tryz.prog 195 bp 116 (cP st) (cP ((Se n).1 st).2) [.val (.pointer (some ⟨bp,0,none⟩))] (.agg (cSyn ((Se n).1 st).1)))/\(∀(st:PS) (bp:Nat),okD (64-(n:Int)) st->Bf Tryz.prog 90 bp 116 (cP st) (cP ((Se n).2 st).2) [.val (.pointer (some ⟨bp,0,none⟩))] (.agg (cSyn ((Se n).2 st).1)))
  | 0,_=>⟨fun st bp hO=>p_not st bp 64 (by decide) F5 H9 (fun _ _ h=>(Tw h).elim) F5 H9 (fun _ _ h=>(Tw h).elim) hO,fun st bp hO=>p_expr st bp 64 (by decide) F5 H9 (fun _ _ h=>(Tw h).elim) F5 H9 (fun _ _ h=>(Tw h).elim) hO⟩
  | n+1,hn=>by
    have ih:=vJ n (by omega);have e:∀st,okD (64-((n+1:Nat):Int)+1) st->okD (64-(n:Int)) st:=fun st h=>⟨h.1,by have:=h.2.1;omega,h.2.2⟩
    have hD:0<=64-((n+1:Nat):Int):=by omega
    exact ⟨fun st bp hO=>p_not st bp _ hD (Se n).2 (Kx n).2 (fun s b h=>ih.2 s b (e s h)) (Se n).1 (Kx n).1 (fun s b h=>ih.1 s b (e s h)) hO,fun st bp hO=>p_expr st bp _ hD (Se n).2 (Kx n).2 (fun s b h=>ih.2 s b (e s h)) (Se n).1 (Kx n).1 (fun s b h=>ih.1 s b (e s h)) hO⟩
theorem eD {D:Int}(hD:0<=D){st:PS}(h:okD D st):okD 0 st:=⟨h.1,by have:=h.2.1;omega,h.2.2⟩
theorem M8 {D:Int}(hD:0<=D){st:PS}(h:okD D st):bE st:=⟨by have:=h.2.1;omega,h.2.2⟩
theorem Mj {D:Int}{a b:PS}(h:okD D a)(g:I9 a b):okD D b:=(Zo g.1 g.2.2).2 h
abbrev uJ (z:Syn)(v:Value)(es:List (List AV)):List AV:=[.int .i64 z.kind,.str z.text,.str z.name,.int .i64 z.num,.row v 6 es,.int .i64 z.pos]
theorem vN (st:PS)(bp:Nat)(E:PS->Syn×PS)(hFE:C5 E)(hE:∀(st:PS) (bp:Nat),okD 0 st->Bf Tryz.prog 90 bp 116 (cP st) (cP (E st).2) [.val (.pointer (some ⟨bp,0,none⟩))] (.agg (cSyn (E st).1)))(hO:okD 0 st):Bf Tryz.prog 153 bp 116 (cP st) (cP ((Jj E st).2)) [.val (.pointer (some ⟨bp,0,none⟩))] (.agg (cSyn (Jj E st).1)):=by
 intro H;have hS:=hO.1;refine H7 18 Tryz.func153 rfl ?_;refine Af (D7 In fun b2=>B7 (Qp Bu ?_));refine AOL.Aaz (Cj (k:=1) (by kernel_rfl) rfl rfl (Jy _ _)) rfl rfl ?_;refine Qp Bu ?_;refine Rt (Dc rfl ((N4 _ _ (by simpa using hS)).at (k:=1) (H2:=_::_::_) rfl rfl)) ?_;refine Qp Bu ?_;refine Rt (Dc rfl ((N4 _ _ (by simpa using hS)).at (k:=1) (H2:=_::_::_) rfl rfl)) ?_;refine Qp (E2 Ak) (D7 In fun b3=>?_);refine Bz 0 Ak (_::_::_::_) (A2 (Cg (Qp Bu ?_)));refine Rt (Dc rfl ((Ed _ _ _ (by simpa using hS) (by decide)).at (k:=2) (H2:=_::_::_::_) rfl rfl)) ?_;refine Bp (fun hc1=>?_) fun hc1=>?_
 .
  try simp only [A5,Bg] at hc1
  refine AW.ghost (GS.Aay (H2:=_::_::_::_) 2 rfl (congrArg cP (Et hc1)) rfl) ?_;refine AW.region (Qp Bu ?_);refine Rt (Dc rfl ((hE _ bp (by simpa using hO)).at (k:=2) (H2:=_::_::_::_) rfl rfl)) ?_;refine Qp (Ir [Ak] rfl) (Qp Cw ?_);refine Bz 0 Ak (_::_::_::_) (B7 (O3 0 Ak rfl ?_));refine Bz 1 Ak (_::_::_::_) (Rb ?_);refine ⟨.inr rfl,[.agg Ak],Zb 1,_,S2,?_⟩;refine ⟨?_,congrArg (fun c=>HO.box bp 116 c::H) ?_⟩
  .
   try simp only [Ah,Jj,cSyn,Be,Bw,Ba,hc1,↓reduceIte,Al,Av,Bk]
   try rfl
  try simp only [cP,Jj,hc1,↓reduceIte,Al,Av,Bk]
  try rfl
 try simp only [A5,Bg] at hc1
 refine AW.ghost (GS.Aay (H2:=_::_::_::_) 2 rfl (congrArg cP (G2 hc1)) rfl) ?_;refine B6 (Af (O3 0 Ak rfl ?_));refine Bz 1 Ak (_::_::_::_) (Rb ?_);refine ⟨.inr rfl,[.agg Ak],Zb 1,_,S2,?_⟩;refine ⟨?_,congrArg (fun c=>HO.box bp 116 c::H) ?_⟩
 .
  try simp only [Ah,Jj,cSyn,Be,Bw,Ba,hc1,↓reduceIte,Al,Av,Bk]
  try rfl
 try simp only [cP,Jj,hc1,↓reduceIte,Al,Av,Bk]
 try rfl
theorem p_form2 (st:PS)(bp:Nat)(z:Syn)(bo:Nat)(v:Value)(es:List (List AV))(he:es=z.kids.map Cu)(hz:z.kids.length<=1000)(R:List HO)(E:PS->Syn×PS)(hFE:C5 E)(hE:∀(st:PS) (bp:Nat),okD 0 st->Bf Tryz.prog 90 bp 116 (cP st) (cP (E st).2) [.val (.pointer (some ⟨bp,0,none⟩))] (.agg (cSyn (E st).1)))(hO:okD 0 st):Bt Tryz.prog 190 (.box bp 116 (cP st) :: .box bo 25 (uJ z v es) :: .row v es.length 25 6::R) [.val (.pointer (some ⟨bp,0,none⟩)),.val (.pointer (some ⟨bo,0,none⟩))] (fun r H'=>r = .tuple []/\∃v' es',es'=(Fz E F5 10 z st).1.kids.map Cu/\H' = .box bp 116 (cP (Fz E F5 10 z st).2) :: .box bo 25 (uJ (Fz E F5 10 z st).1 v' es') :: .row v' es'.length 25 6::R):=by
 have hS:=hO.1;have hsc:∀c∈es,Au c=true:=by rw [he];exact T4 _
 have hel:es.length<=1000:=by rw [he,By];exact hz
 refine H7 18 Tryz.func190 rfl ?_;refine AW.ghostPost (Af (Qp Bu ?_));refine Rt (Dc rfl ((Dk _ _ _ (by simpa using hS) (by decide)).at (k:=0) (H2:=_::_::_::_) rfl rfl)) ?_;refine A2 (Pq 1 rfl (Qn 0 rfl Bu (Qn 1 rfl (Ae rfl) (Qn 2 rfl Cw (Qn 3 rfl (Lb (.row _ _ _) rfl) (Qn 4 rfl Bu (Qn 6 rfl (E8 tok rfl rfl rfl rfl) (Qn 7 rfl (L8 tok rfl rfl rfl rfl rfl rfl rfl rfl rfl) ?_))))))));refine Vr 5 rfl (Dc rfl ((vN (Bn C8 st) bp E hFE hE (by simpa using hO)).at (k:=0) (H2:=_::_::_::_) rfl rfl)) (by rintro _ _ ⟨rfl,rfl⟩;simp) ?_;rintro _ _ ⟨rfl,rfl⟩;refine F3.sync (fun _=>True) _ _ 8 _ _ rfl (by kernel_rfl) rfl rfl (Uh (k:=2) tok rfl rfl rfl rfl rfl rfl rfl rfl (D5 rfl) rfl (hsc) (by simp;omega) (by simp [maxLen];omega)) (by kernel_rfl) (fun _ _ _=>trivial) ?_;rintro _ _ ⟨ba14,ca14,rfl,rfl⟩;refine Qn 9 rfl (Cp (o':=es.length*6) tok rfl rfl rfl rfl rfl (by omega) (by omega) (by simp)) ?_;refine Qn 11 rfl (Ae rfl) (Qn 12 rfl Cw ?_);refine F3.two _ _ 10 13 _ _ _ _ rfl rfl (by kernel_rfl) rfl rfl rfl rfl (It (k:=2) (v:=.agg _) (H2:=_::_::_::_) tok rfl rfl rfl rfl (by simp) (by simp) rfl rfl rfl rfl) (Ki 1 (.val _) Ak (_::_::_::_) rfl) (by rintro _ _ ⟨rfl,rfl⟩;trivial) (by rintro _ _ ⟨rfl,rfl⟩;trivial) ?_ ?_
 .
  rintro _ _ ⟨rfl,rfl⟩;refine Ns 13 rfl (Ki 1 (.val _) Ak (_::_::_::_) rfl) ?_;refine Iw ?_;refine ⟨_,GS.appCell (H2:=_::_::_::_) 2 1 4 rfl (by simp) rfl rfl rfl rfl,.inl rfl,[],.nil,_,.refl _,?_⟩;exact ⟨rfl,_,_,J1 he,rfl⟩
 rintro _ _ ⟨rfl,rfl⟩;refine Ns 10 rfl (It (k:=2) (v:=.agg _) (H2:=_::_::_::_) tok rfl rfl rfl rfl (by simp) (by simp) rfl rfl rfl rfl) ?_;refine Iw ?_;refine ⟨_,GS.appCell (H2:=_::_::_::_) 2 1 4 rfl (by simp) rfl rfl rfl rfl,.inl rfl,[],.nil,_,.refl _,?_⟩;exact ⟨rfl,_,_,J1 he,rfl⟩
theorem p_form1 (st:PS)(bp:Nat)(z:Syn)(bo:Nat)(v:Value)(es:List (List AV))(he:es=z.kids.map Cu)(hz:z.kids.length<=1000)(R:List HO):Bt Tryz.prog 189 (.box bp 116 (cP st) :: .box bo 25 (uJ z v es) :: .row v es.length 25 6::R) [.val (.pointer (some ⟨bp,0,none⟩)),.val (.pointer (some ⟨bo,0,none⟩))] (fun r H'=>r = .tuple []/\∃v' es',es'=(Fz F5 F5 9 z st).1.kids.map Cu/\H' = .box bp 116 (cP (Fz F5 F5 9 z st).2) :: .box bo 25 (uJ (Fz F5 F5 9 z st).1 v' es') :: .row v' es'.length 25 6::R):=by
 refine H7 4 Tryz.func189 rfl ?_;refine AW.skip ?_;refine ⟨.inl rfl,[],.nil,_,.refl _,?_⟩;exact ⟨rfl,_,_,he,rfl⟩
theorem p_form3 (st:PS)(bp:Nat)(z:Syn)(bo:Nat)(v:Value)(es:List (List AV))(he:es=z.kids.map Cu)(hz:z.kids.length<=1000)(R:List HO)(hS:Sz st):Bt Tryz.prog 191 (.box bp 116 (cP st) :: .box bo 25 (uJ z v es) :: .row v es.length 25 6::R) [.val (.pointer (some ⟨bp,0,none⟩)),.val (.pointer (some ⟨bo,0,none⟩))] (fun r H'=>r = .tuple []/\∃v' es',es'=(Fz F5 F5 11 z st).1.kids.map Cu/\H' = .box bp 116 (cP (Fz F5 F5 11 z st).2) :: .box bo 25 (uJ (Fz F5 F5 11 z st).1 v' es') :: .row v' es'.length 25 6::R):=by
 refine H7 11 Tryz.func191 rfl ?_;refine Af (Qp Bu ?_);refine Rt (Dc rfl ((Dk _ _ _ (by simpa using hS) (by decide)).at (k:=0) (H2:=_::_::_::_) rfl rfl)) ?_;refine A2 (AW.region (Qp Bu (Qp Bu ?_)));refine Rt (Dc rfl ((eH _ _ (by simpa using hS)).at (k:=0) (H2:=_::_::_::_) rfl rfl)) ?_;refine Qp (Ae rfl) (Qp Cw ?_);refine Bz 1 Ak (_::_::_::_) (AOL.nil ?_);refine ⟨.inl rfl,[],.nil,_,.refl _,?_⟩;exact ⟨rfl,_,_,he,rfl⟩
theorem p_form4 (st:PS)(bp:Nat)(z:Syn)(bo:Nat)(v:Value)(es:List (List AV))(he:es=z.kids.map Cu)(hz:z.kids.length<=1000)(R:List HO)(E:PS->Syn×PS)(hFE:C5 E)(hE:∀(st:PS) (bp:Nat),okD 0 st->Bf Tryz.prog 90 bp 116 (cP st) (cP (E st).2) [.val (.pointer (some ⟨bp,0,none⟩))] (.agg (cSyn (E st).1)))(hO:okD 0 st):Bt Tryz.prog 193 (.box bp 116 (cP st) :: .box bo 25 (uJ z v es) :: .row v es.length 25 6::R) [.val (.pointer (some ⟨bp,0,none⟩)),.val (.pointer (some ⟨bo,0,none⟩))] (fun r H'=>r = .tuple []/\∃v' es',es'=(Fz E F5 12 z st).1.kids.map Cu/\H' = .box bp 116 (cP (Fz E F5 12 z st).2) :: .box bo 25 (uJ (Fz E F5 12 z st).1 v' es') :: .row v' es'.length 25 6::R):=by
 have hS:=hO.1;have hsc:∀c∈es,Au c=true:=by rw [he];exact T4 _
 have hel:es.length<=1000:=by rw [he,By];exact hz
 refine H7 18 Tryz.func193 rfl ?_;refine AW.ghostPost (Af (Qp Bu ?_));refine Rt (Dc rfl ((Dk _ _ _ (by simpa using hS) (by decide)).at (k:=0) (H2:=_::_::_::_) rfl rfl)) ?_;refine A2 (Pq 1 rfl (Qn 0 rfl Bu (Qn 1 rfl (Ae rfl) (Qn 2 rfl Cw (Qn 3 rfl (Lb (.row _ _ _) rfl) (Qn 4 rfl Bu (Qn 6 rfl (E8 tok rfl rfl rfl rfl) (Qn 7 rfl (L8 tok rfl rfl rfl rfl rfl rfl rfl rfl rfl) ?_))))))));refine Vr 5 rfl (Dc rfl ((hE (Bn C8 st) bp (by simpa using hO)).at (k:=0) (H2:=_::_::_::_) rfl rfl)) (by rintro _ _ ⟨rfl,rfl⟩;simp) ?_;rintro _ _ ⟨rfl,rfl⟩;refine F3.sync (fun _=>True) _ _ 8 _ _ rfl (by kernel_rfl) rfl rfl (Uh (k:=2) tok rfl rfl rfl rfl rfl rfl rfl rfl (D5 rfl) rfl (hsc) (by simp;omega) (by simp [maxLen];omega)) (by kernel_rfl) (fun _ _ _=>trivial) ?_;rintro _ _ ⟨ba14,ca14,rfl,rfl⟩;refine Qn 9 rfl (Cp (o':=es.length*6) tok rfl rfl rfl rfl rfl (by omega) (by omega) (by simp)) ?_;refine Qn 11 rfl (Ae rfl) (Qn 12 rfl Cw ?_);refine F3.two _ _ 10 13 _ _ _ _ rfl rfl (by kernel_rfl) rfl rfl rfl rfl (It (k:=2) (v:=.agg _) (H2:=_::_::_::_) tok rfl rfl rfl rfl (by simp) (by simp) rfl rfl rfl rfl) (Ki 1 (.val _) Ak (_::_::_::_) rfl) (by rintro _ _ ⟨rfl,rfl⟩;trivial) (by rintro _ _ ⟨rfl,rfl⟩;trivial) ?_ ?_
 .
  rintro _ _ ⟨rfl,rfl⟩;refine Ns 13 rfl (Ki 1 (.val _) Ak (_::_::_::_) rfl) ?_;refine Iw ?_;refine ⟨_,GS.appCell (H2:=_::_::_::_) 2 1 4 rfl (by simp) rfl rfl rfl rfl,.inl rfl,[],.nil,_,.refl _,?_⟩;exact ⟨rfl,_,_,J1 he,rfl⟩
 rintro _ _ ⟨rfl,rfl⟩;refine Ns 10 rfl (It (k:=2) (v:=.agg _) (H2:=_::_::_::_) tok rfl rfl rfl rfl (by simp) (by simp) rfl rfl rfl rfl) ?_;refine Iw ?_;refine ⟨_,GS.appCell (H2:=_::_::_::_) 2 1 4 rfl (by simp) rfl rfl rfl rfl,.inl rfl,[],.nil,_,.refl _,?_⟩;exact ⟨rfl,_,_,J1 he,rfl⟩
abbrev X7 (T:PS->Syn×PS)(st:PS):Syn×PS:=T (Bn C8 st)
theorem yC (st:PS)(bp:Nat)(z:Syn)(bo:Nat)(v:Value)(es:List (List AV))(he:es=z.kids.map Cu)(hz:z.kids.length<=1000)(R:List HO)(D:Int)(hD:0<=D)(T:PS->Syn×PS)(hFT:C5 T)(hT:∀(st:PS) (bp:Nat),okD D st->Bf Tryz.prog 89 bp 116 (cP st) (cP (T st).2) [.val (.pointer (some ⟨bp,0,none⟩))] (.agg (cSyn (T st).1)))(hO:okD D st):Bt Tryz.prog 188 (.box bp 116 (cP st) :: .box bo 25 (uJ z v es) :: .row v es.length 25 6::R) [.val (.pointer (some ⟨bp,0,none⟩)),.val (.pointer (some ⟨bo,0,none⟩))] (fun r H'=>r = .tuple []/\∃v' es',es'=(gE T z st).1.kids.map Cu/\H' = .box bp 116 (cP (gE T z st).2) :: .box bo 25 (uJ (gE T z st).1 v' es') :: .row v' es'.length 25 6::R):=by
 have hS:=hO.1;have hsc:∀c∈es,Au c=true:=by rw [he];exact T4 _
 have hel:es.length<=1000:=by rw [he,By];exact hz
 have hO1:okD D (Bn C8 st):=by simpa using hO
 have hO3:okD D (X7 T st).2:=hFT.okD hD hO1;refine H7 32 Tryz.func188 rfl ?_;refine AW.ghostPost (Af (Qp Bu ?_));refine Rt (Dc rfl ((Dk _ _ _ (by simpa using hS) (by decide)).at (k:=0) (H2:=_::_::_::_) rfl rfl)) ?_;refine A2 ?_;refine AW.cut (fun (q:Value)=>(⟨[(0,.val (.pointer (some ⟨bp,0,none⟩))),(1,.val (.pointer (some ⟨bo,0,none⟩)))],.box bp 116 (cP (X7 T st).2) :: .box bo 25 (uJ z q (es ++ [cSyn (X7 T st).1])) :: .row q (es ++ [cSyn (X7 T st).1]).length 25 6::R,32⟩:St)) (fun q=>True) ?_ ?_
 .
  refine Pq 1 rfl (Qn 0 rfl Bu (Qn 1 rfl (Ae rfl) (Qn 2 rfl Cw (Qn 3 rfl (Lb (.row _ _ _) rfl) (Qn 4 rfl Bu (Qn 6 rfl (E8 tok rfl rfl rfl rfl) (Qn 7 rfl (L8 tok rfl rfl rfl rfl rfl rfl rfl rfl rfl) ?_)))))));refine Vr 5 rfl (Dc rfl ((hT (Bn C8 st) bp hO1).at (k:=0) (H2:=_::_::_::_) rfl rfl)) (by rintro _ _ ⟨rfl,rfl⟩;simp) ?_;rintro _ _ ⟨rfl,rfl⟩;refine F3.sync (fun _=>True) _ _ 8 _ _ rfl (by kernel_rfl) rfl rfl (Uh (k:=2) tok rfl rfl rfl rfl rfl rfl rfl rfl (D5 rfl) rfl (hsc) (by simp;omega) (by simp [maxLen];omega)) (by kernel_rfl) (fun _ _ _=>trivial) ?_;rintro _ _ ⟨ba14,ca14,rfl,rfl⟩;refine Qn 9 rfl (Cp (o':=es.length*6) tok rfl rfl rfl rfl rfl (by omega) (by omega) (by simp)) ?_;refine Qn 11 rfl (Ae rfl) (Qn 12 rfl Cw ?_);refine F3.two _ _ 10 13 _ _ _ _ rfl rfl (by kernel_rfl) rfl rfl rfl rfl (It (k:=2) (v:=.agg _) (H2:=_::_::_::_) tok rfl rfl rfl rfl (by simp) (by simp) rfl rfl rfl rfl) (Ki 1 (.val _) Ak (_::_::_::_) rfl) (by rintro _ _ ⟨rfl,rfl⟩;trivial) (by rintro _ _ ⟨rfl,rfl⟩;trivial) ?_ ?_
  .
   rintro _ _ ⟨rfl,rfl⟩;refine Ns 13 rfl (Ki 1 (.val _) Ak (_::_::_::_) rfl) ?_;refine Iw ?_;refine Aa ?_;refine ⟨.slice (some ⟨ba14,0,none⟩) (es.length+1) ca14,?_,GS.trans (GS.appCell (H2:=_::_::_::_) 2 1 4 rfl (by simp) rfl rfl rfl rfl) Dh⟩
   trivial
  rintro _ _ ⟨rfl,rfl⟩;refine Ns 10 rfl (It (k:=2) (v:=.agg _) (H2:=_::_::_::_) tok rfl rfl rfl rfl (by simp) (by simp) rfl rfl rfl rfl) ?_;refine Iw ?_;refine Aa ?_;refine ⟨.slice (some ⟨ba14,0,none⟩) (es.length+1) ca14,?_,GS.trans (GS.appCell (H2:=_::_::_::_) 2 1 4 rfl (by simp) rfl rfl rfl rfl) Dh⟩
  trivial
 rintro q _;refine AW.block ?_;refine AW.loopS (fun (p:Nat×PS×List Syn×List (List AV)×Value)=>(⟨[(0,.val (.pointer (some ⟨bp,0,none⟩))),(1,.val (.pointer (some ⟨bo,0,none⟩)))],.box bp 116 (cP p.2.1) :: .box bo 25 (uJ z p.2.2.2.2 p.2.2.2.1) :: .row p.2.2.2.2 p.2.2.2.1.length 25 6::R,32⟩:St)) (fun p=>p.2.2.2.1=p.2.2.1.map Cu/\okD D p.2.1/\B1 p.2.1<=p.1/\p.2.2.1.length<=p.2.1.pos+1002/\Hr T (B1 (X7 T st).2) (X7 T st).2 (z.kids ++ [(X7 T st).1])=Hr T p.1 p.2.1 p.2.2.1) (fun p=>p.1) ((B1 (X7 T st).2,(X7 T st).2,z.kids ++ [(X7 T st).1],es ++ [cSyn (X7 T st).1],q)) ?_ Dh ?_
 . exact ⟨J1 he,hO3,Bc _,by simp only [Ao,D2];omega,rfl⟩
 rintro p hR;have hes:p.2.2.2.1=p.2.2.1.map Cu:=hR.1;have hO2:okD D p.2.1:=hR.2.1;have hS:=hO2.1;have hfu:B1 p.2.1<=p.1:=hR.2.2.1;have hn:0<p.1:=by unfold B1 at hfu;omega
 have hol:p.2.2.1.length<=p.2.1.pos+1002:=hR.2.2.2.1;have hsc2:∀c∈p.2.2.2.1,Au c=true:=by rw [hes];exact T4 _
 have hel2:p.2.2.2.1.length=p.2.2.1.length:=by rw [hes,By]
 refine Cg (Qp Bu ?_);refine Rt (Dc rfl ((Ed _ _ _ (by simpa using hS) (by decide)).at (k:=0) (H2:=_::_::_::_) rfl rfl)) ?_;refine Bp (fun hc1=>?_) fun hc1=>?_
 .
  try simp only [A5,Bg] at hc1
  have hlt:=Vk hc1;have hml:=hS.1;have hFa:=hFT (adv p.2.1) (by have:=hO2.2.1;show (0:Int)<=p.2.1.depth;omega) hO2.2.2;have hps:p.2.1.pos+1<=(T (adv p.2.1)).2.pos:=hFa.2.1;have hts:(T (adv p.2.1)).2.toks=p.2.1.toks:=hFa.1;refine AW.ghost (GS.Aay (H2:=_::_::_::_) 0 rfl (congrArg cP (Et hc1)) rfl) ?_;refine B6 (AW.block (Pq 1 rfl (Qn 0 rfl Bu (Qn 1 rfl (Ae rfl) (Qn 2 rfl Cw (Qn 3 rfl (Lb (.row _ _ _) rfl) (Qn 4 rfl Bu (Qn 6 rfl (E8 tok rfl rfl rfl rfl) (Qn 7 rfl (L8 tok rfl rfl rfl rfl rfl rfl rfl rfl rfl) ?_)))))))));refine Vr 5 rfl (Dc rfl ((hT _ bp (by simpa using hO2)).at (k:=0) (H2:=_::_::_::_) rfl rfl)) (by rintro _ _ ⟨rfl,rfl⟩;simp) ?_;rintro _ _ ⟨rfl,rfl⟩;refine F3.sync (fun _=>True) _ _ 8 _ _ rfl (by kernel_rfl) rfl rfl (Uh (k:=2) tok rfl rfl rfl rfl rfl rfl rfl rfl (D5 rfl) rfl (hsc2) (by simp;omega) (by simp [maxLen];omega)) (by kernel_rfl) (fun _ _ _=>trivial) ?_;rintro _ _ ⟨ba28,ca28,rfl,rfl⟩;refine Qn 9 rfl (Cp (o':=p.2.2.2.1.length*6) tok rfl rfl rfl rfl rfl (by omega) (by omega) (by simp)) ?_;refine Qn 11 rfl (Ae rfl) (Qn 12 rfl Cw ?_);refine F3.two _ _ 10 13 _ _ _ _ rfl rfl (by kernel_rfl) rfl rfl rfl rfl (It (k:=2) (v:=.agg _) (H2:=_::_::_::_) tok rfl rfl rfl rfl (by simp) (by simp) rfl rfl rfl rfl) (Ki 1 (.val _) Ak (_::_::_::_) rfl) (by rintro _ _ ⟨rfl,rfl⟩;trivial) (by rintro _ _ ⟨rfl,rfl⟩;trivial) ?_ ?_
  .
   rintro _ _ ⟨rfl,rfl⟩;refine Ns 13 rfl (Ki 1 (.val _) Ak (_::_::_::_) rfl) ?_;refine Iw ?_;refine Ff (Aa ?_);refine ⟨(p.1-1,(T (adv p.2.1)).2,p.2.2.1 ++ [(T (adv p.2.1)).1],p.2.2.2.1 ++ [cSyn (T (adv p.2.1)).1],.slice (some ⟨ba28,0,none⟩) (p.2.2.2.1.length+1) ca28),?_,?_,GS.trans (GS.appCell (H2:=_::_::_::_) 2 1 4 rfl (by simp) rfl rfl rfl rfl) Dh⟩
   . exact ⟨J1 hes,hFT.okD hD (by simpa using hO2),by unfold B1 at hfu ⊢;rw [hts];simp only;omega,by simp only [Ao,D2];omega,hR.2.2.2.2.trans (by rw [Nz hn,if_pos hc1])⟩
   simp only;omega
  rintro _ _ ⟨rfl,rfl⟩;refine Ns 10 rfl (It (k:=2) (v:=.agg _) (H2:=_::_::_::_) tok rfl rfl rfl rfl (by simp) (by simp) rfl rfl rfl rfl) ?_;refine Iw ?_;refine Ff (Aa ?_);refine ⟨(p.1-1,(T (adv p.2.1)).2,p.2.2.1 ++ [(T (adv p.2.1)).1],p.2.2.2.1 ++ [cSyn (T (adv p.2.1)).1],.slice (some ⟨ba28,0,none⟩) (p.2.2.2.1.length+1) ca28),?_,?_,GS.trans (GS.appCell (H2:=_::_::_::_) 2 1 4 rfl (by simp) rfl rfl rfl rfl) Dh⟩
  . exact ⟨J1 hes,hFT.okD hD (by simpa using hO2),by unfold B1 at hfu ⊢;rw [hts];simp only;omega,by simp only [Ao,D2];omega,hR.2.2.2.2.trans (by rw [Nz hn,if_pos hc1])⟩
  simp only;omega
 try simp only [A5,Bg] at hc1
 refine AW.ghost (GS.Aay (H2:=_::_::_::_) 0 rfl (congrArg cP (G2 hc1)) rfl) ?_;refine AW.exit ?_;refine Br (Br (Gp ?_));refine ⟨_,GS.refl _,.inl rfl,[],.nil,_,.refl _,?_⟩
 have h9:gE T z st=({ z with kids:=p.2.2.1 },p.2.1):=by
  have h8:Hr T (B1 (X7 T st).2) (X7 T st).2 (z.kids ++ [(X7 T st).1])=(p.2.2.1,p.2.1):=hR.2.2.2.2.trans (by rw [Nz hn,iN hc1]);unfold gE;simp only;rw [h8]
 exact ⟨rfl,p.2.2.2.2,p.2.2.2.1,by rw [h9];exact hes,by rw [h9]⟩
def formC:List (List AV):=[[.str Yj,.int .i64 6,.fn (.func 188) [] []],[.str Yi,.int .i64 7,.fn (.func 188) [] []],[.str Yg,.int .i64 8,.fn (.func 188) [] []],[.str Sp,.int .i64 9,.fn (.func 189) [] []],[.str Na,.int .i64 10,.fn (.func 190) [] []],[.str K6,.int .i64 11,.fn (.func 191) [] []],[.str K5,.int .i64 12,.fn (.func 193) [] []]]
theorem pp_forms  : Ap Tryz.prog 150 [] (.sl 3 formC):=by
 refine Fl 9 Tryz.func150 rfl fun H=>?_
 refine Af (Qp (Cb (z:=3) rfl) (B7 (Qp (E2 nC) (Qp (E2 nC) (Qp (E2 nC) (Qp (E2 nC) (Qp (E2 nC) (Qp (E2 nC) (Qp (E2 nC) (Qp (Ir [nC,nC,nC,nC,nC,nC,nC] rfl) (Qp jF (Rb (Qr (.sl _ _) ?_)))))))))))));rfl
def Vq (fn:Nat)(E T:PS->Syn×PS)(D:Int)(k:Int):Prop:=∀(st:PS) (bp:Nat) (z:Syn) (bo:Nat) (v:Value) (es:List (List AV)) (he:es=z.kids.map Cu) (hz:z.kids.length<=1000) (R:List HO),okD D st->Bt Tryz.prog fn (.box bp 116 (cP st) :: .box bo 25 (uJ z v es) :: .row v es.length 25 6::R) [.val (.pointer (some ⟨bp,0,none⟩)),.val (.pointer (some ⟨bo,0,none⟩))] (fun r H'=>r = .tuple []/\∃v' es',es'=(Fz E T k z st).1.kids.map Cu/\H' = .box bp 116 (cP (Fz E T k z st).2) :: .box bo 25 (uJ (Fz E T k z st).1 v' es') :: .row v' es'.length 25 6::R)
theorem Sk (D:Int)(hD:0<=D)(T:PS->Syn×PS)(hFT:C5 T)(hT:∀(st:PS) (bp:Nat),okD D st->Bf Tryz.prog 89 bp 116 (cP st) (cP (T st).2) [.val (.pointer (some ⟨bp,0,none⟩))] (.agg (cSyn (T st).1)))(E:PS->Syn×PS)(k:Int)(h:k<=8):Vq 188 E T D k:=fun st bp z bo v es he hz R hO=>by
 have e:Fz E T k z st=gE T z st:=by unfold Fz;rw [if_pos (Gc h)]
 rw [e];exact yC st bp z bo v es he hz R D hD T hFT hT hO
theorem yO (D:Int)(E T:PS->Syn×PS):Vq 189 E T D 9:=fun st bp z bo v es he hz R hO=>p_form1 st bp z bo v es he hz R
theorem sK (E:PS->Syn×PS)(hFE:C5 E)(hE:∀(st:PS) (bp:Nat),okD 0 st->Bf Tryz.prog 90 bp 116 (cP st) (cP (E st).2) [.val (.pointer (some ⟨bp,0,none⟩))] (.agg (cSyn (E st).1)))(D:Int)(hD:0<=D)(T:PS->Syn×PS):Vq 190 E T D 10:=fun st bp z bo v es he hz R hO=>p_form2 st bp z bo v es he hz R E hFE hE (eD hD hO)
theorem oX (D:Int)(E T:PS->Syn×PS):Vq 191 E T D 11:=fun st bp z bo v es he hz R hO=>p_form3 st bp z bo v es he hz R hO.1
theorem sL (E:PS->Syn×PS)(hFE:C5 E)(hE:∀(st:PS) (bp:Nat),okD 0 st->Bf Tryz.prog 90 bp 116 (cP st) (cP (E st).2) [.val (.pointer (some ⟨bp,0,none⟩))] (.agg (cSyn (E st).1)))(D:Int)(hD:0<=D)(T:PS->Syn×PS):Vq 193 E T D 12:=fun st bp z bo v es he hz R hO=>p_form4 st bp z bo v es he hz R E hFE hE (eD hD hO)
theorem form_get (E:PS->Syn×PS)(hFE:C5 E)(hE:∀(st:PS) (bp:Nat),okD 0 st->Bf Tryz.prog 90 bp 116 (cP st) (cP (E st).2) [.val (.pointer (some ⟨bp,0,none⟩))] (.agg (cSyn (E st).1)))(D:Int)(hD:0<=D)(T:PS->Syn×PS)(hFT:C5 T)(hT:∀(st:PS) (bp:Nat),okD D st->Bf Tryz.prog 89 bp 116 (cP st) (cP (T st).2) [.val (.pointer (some ⟨bp,0,none⟩))] (.agg (cSyn (T st).1)))(k:Nat)(hk:k<7):∃(x:Ag×Int) (fn:Nat),formL[k]? = some x/\formC[k]? = some [.str x.1,.int .i64 x.2,.fn (.func fn) [] []]/\Tn Tryz.prog fn=true/\x.1.length<=1048576/\Vq fn E T D x.2:=by
 match k,hk with
 | 0,_=>exact ⟨_,_,rfl,rfl,by kernel_rfl,by decide,Sk D hD T hFT hT E 6 (by decide)⟩
 | 1,_=>exact ⟨_,_,rfl,rfl,by kernel_rfl,by decide,Sk D hD T hFT hT E 7 (by decide)⟩
 | 2,_=>exact ⟨_,_,rfl,rfl,by kernel_rfl,by decide,Sk D hD T hFT hT E 8 (by decide)⟩
 | 3,_=>exact ⟨_,_,rfl,rfl,by kernel_rfl,by decide,yO D E T⟩
 | 4,_=>exact ⟨_,_,rfl,rfl,by kernel_rfl,by decide,sK E hFE hE D hD T⟩
 | 5,_=>exact ⟨_,_,rfl,rfl,by kernel_rfl,by decide,oX D E T⟩
 | 6,_=>exact ⟨_,_,rfl,rfl,by kernel_rfl,by decide,sL E hFE hE D hD T⟩
def vO (E T:PS->Syn×PS)(k:Int)(z:Syn)(s:PS):Syn×PS:=((Fz E T k { z with kids:=[(T (Bn Fq s)).1] } (T (Bn Fq s)).2).1,Bn Ih (Fz E T k { z with kids:=[(T (Bn Fq s)).1] } (T (Bn Fq s)).2).2)
theorem oI (st:PS)(bp:Nat)(z:Syn)(bo:Nat)(R:List HO)(E:PS->Syn×PS)(hFE:C5 E)(hE:∀(st:PS) (bp:Nat),okD 0 st->Bf Tryz.prog 90 bp 116 (cP st) (cP (E st).2) [.val (.pointer (some ⟨bp,0,none⟩))] (.agg (cSyn (E st).1)))(D:Int)(hD:0<=D)(T:PS->Syn×PS)(hFT:C5 T)(hT:∀(st:PS) (bp:Nat),okD (D+1) st->Bf Tryz.prog 89 bp 116 (cP st) (cP (T st).2) [.val (.pointer (some ⟨bp,0,none⟩))] (.agg (cSyn (T st).1)))(w:Ag)(k:Int)(fn:Nat)(hfn:Tn Tryz.prog fn=true)(hr:Vq fn E T (D+1) k)(hO:okD (D+1) st):Bt Tryz.prog 152 (.box bp 116 (cP st) :: .box bo 25 (cSyn z)::R) [.ptr [.val (.pointer (some ⟨bp,0,none⟩))],.val (.pointer (some ⟨bo,0,none⟩)),.ptr [.str w,.int .i64 k,.fn (.func fn) [] []]] (fun r H'=>r = .tuple []/\H' = .box bp 116 (cP (vO E T k z st).2) :: .box bo 25 (cSyn (vO E T k z st).1)::R):=by
 have hS:=hO.1;have hO1:okD (D+1) (Bn Fq st):=by simpa using hO
 have hO2:=hFT.okD (by omega) hO1;have hO4:okD (D+1) (Fz E T k { z with kids:=[(T (Bn Fq st)).1] } (T (Bn Fq st)).2).2:=Mj hO2 (iI hFE hFT k { z with kids:=[(T (Bn Fq st)).1] } (M8 (by omega) hO2));refine H7 15 Tryz.func152 rfl ?_;refine AW.ghostPost (Af (Qp Kg ?_));refine Rt (Dc rfl ((Dk _ _ _ (by simpa using hS) (by decide)).at (k:=0) (H2:=_::_::_) rfl rfl)) ?_;refine B7 (Qp Kg (qD ((hT (Bn Fq st) bp hO1).at (k:=0) (H2:=_::_::_) rfl rfl) (Qe (Hk (es:=[Ak]) tok rfl rfl rfl rfl rfl rfl rfl rfl rfl) ?_)));rintro _ _ ⟨v7,rfl,rfl⟩;refine Qp Cw ?_;refine Bz 2 Ak (_::_::_::_) (B7 (Qp (Qf [_]) (Qp (Aq (c:=.fn _ _ _) tok rfl rfl rfl) (Qp Kg ?_))));refine Qe (Kr (hfn) rfl rfl rfl (Bt.front2 (R:=_::_) 2 1 rfl rfl rfl (hr (T (Bn Fq st)).2 bp { z with kids:=[(T (Bn Fq st)).1] } bo _ _ (by rw [Be,Bw,Ba]) (by simp) _ hO2))) ?_;rintro _ _ ⟨rfl,v2,e2,rfl,rfl⟩;have hS:=hO4.1;refine A2 (AW.region (Qp Kg ?_));refine Rt (Dc rfl ((Dk _ _ _ (by simpa using hS) (by decide)).at (k:=0) (H2:=_::_::_::_) rfl rfl)) ?_;refine AOL.nil ?_;refine ⟨_,GS.cell (H2:=_::_::_::_) 1 4 rfl rfl rfl rfl D1,.inl rfl,[],.nil,_,.cons_cons _ (.cons_cons _ (.cons _ (.refl _))),?_⟩;exact ⟨rfl,rfl⟩
theorem iS (st:PS)(bp:Nat)(E:PS->Syn×PS)(hFE:C5 E)(hE:∀(st:PS) (bp:Nat),okD 0 st->Bf Tryz.prog 90 bp 116 (cP st) (cP (E st).2) [.val (.pointer (some ⟨bp,0,none⟩))] (.agg (cSyn (E st).1)))(D:Int)(hD:0<=D)(T:PS->Syn×PS)(hFT:C5 T)(hT:∀(st:PS) (bp:Nat),okD (D+1) st->Bf Tryz.prog 89 bp 116 (cP st) (cP (T st).2) [.val (.pointer (some ⟨bp,0,none⟩))] (.agg (cSyn (T st).1)))(hO:okD D st):Bf Tryz.prog 89 bp 116 (cP st) (cP ((X3 E T st).2)) [.val (.pointer (some ⟨bp,0,none⟩))] (.agg (cSyn (X3 E T st).1)):=by
 intro H;have hS:=hO.1;refine H7 29 Tryz.func89 rfl ?_;refine Af (Qp (Sw (v:=.val _) (cs:=[_]) rfl rfl rfl) (D7 In fun b2=>A2 (Cg (Qp (Qc rfl (pp_forms )) (Qp (G1 7 rfl rfl (rfl)) (Qp A0 (A2 (AW.block ?_))))))));refine AW.loopS (fun (k:Nat)=>(⟨[(1,.ptr [.val (.pointer (some ⟨bp,0,none⟩))]),(2,.val (.pointer (some ⟨b2,0,none⟩))),(6,.sl 3 formC),(7,.int .i64 7),(8,.int .i64 (k:Int))],.box b2 25 (cSyn He) :: .box bp 116 (cP st)::H,29⟩:St)) (fun k=>k<=7/\∀j y,j<k->formL[j]? = some y->G6 y.1 st=false) (fun k=>7-k) (0) ?_ Dh ?_
 . exact ⟨A7 _,fun j y hj=>absurd hj (Nat.not_lt_zero _)⟩
 rintro k hR;refine Af (Qp Cv (Re (Gn (fun hc1=>?_) fun hc1=>?_)))
 .
  try simp only [A5,Bg] at hc1
  have hk:k<7:=by have:=C6 hc1;omega
  refine (form_get E hFE hE (D+1) (by omega) T hFT hT k hk).elim fun x hx0=>hx0.elim fun fn hx3=>?_
  have hx:=hx3.1;have hx2:=hx3.2.1;have hfn:=hx3.2.2.1;have hwx:=hx3.2.2.2.1;have hrk:=hx3.2.2.2.2;refine B6 (AW.seq (AW.block (Af ?_)));refine Qp (E9 ([.str x.1,.int .i64 x.2,.fn (.func fn) [] []]) rfl rfl (by omega) (hx2)) ?_;refine Qp (C1 nC) (D7 [.str [],.int .i64 0,.val .nilFunc] fun b4=>?_);refine Bz 0 nC (_::_::_::_) ?_;refine Kh 4 0 rfl ?_;refine A2 (Cg (Qp Kg (Qp (Qf nC) (Qp F4 ?_))));refine AOL.Aaz (Cj (k:=1) (by kernel_rfl) rfl rfl (rY _ _ _ (by simpa using hS) (by assumption))) rfl rfl ?_;refine Qp J4 (Bp (fun hc2=>?_) fun hc2=>?_)
  .
   try simp only [A5,Bg] at hc2
   refine AW.exit (Ri (AW.region (Qp Hb (Qp A0 (A2 ?_)))));refine ⟨k+1,?_,?_,Dh⟩
   . exact ⟨hk,fun j y hj hy=>by rcases Ym.1 hj with h | rfl;exact hR.2 j y h hy;rw [hx] at hy;cases hy;exact hc2⟩
   omega
  try simp only [A5,Bg] at hc2
  have hfd:formL.find? (fun f=>G6 f.1 st)=some x:=Xo hR.2 hx hc2;refine B6 (AW.seq (Pq 1 rfl (Qn 0 rfl (Qf [Iq _,_]) (Qn 1 rfl Cd (Qn 2 rfl Kg ?_)))));refine Qn 3 rfl (Db.mem (fun k=>Cj (k:=k) (by kernel_rfl) rfl rfl (Jy _ _)) (fun _ h=>h)) ?_;refine Qn 4 rfl (E2 Ak) ?_;refine Vr 5 rfl (Dg (l:=In) (by kernel_rfl)) (by rintro _ _ ⟨b5,rfl,rfl⟩;simp) ?_;rintro _ _ ⟨b5,rfl,rfl⟩;refine bF 6 rfl (Ki 0 (.agg _) Ak (_::_::_::_) rfl) ?_;rintro _ _ ⟨rfl,rfl⟩;refine Aa (Af (Qp Kg (Qp (B0 (l:=[]) (l':=[.ptr _,.val _,.ptr _]) rfl rfl) ?_)));refine Rt (Dc rfl (Bt.front2 (R:=_::_) 0 1 rfl rfl rfl (Zm (vO E T x.2) ⟨x.2,[],[],0,[],D0 st⟩ st bp b5 _ 152 (by kernel_rfl) [] [.ptr [.val (.pointer (some ⟨bp,0,none⟩))],.val (.pointer (some ⟨b5,0,none⟩)),.ptr [.str x.1,.int .i64 x.2,.fn (.func fn) [] []]] (Vk hc2) hS (fun hb=>oI _ bp ⟨x.2,[],[],0,[],D0 st⟩ b5 _ E hFE hE D hD T hFT hT x.1 x.2 fn hfn hrk (eC hD hO hb))))) ?_;refine B7 (O3 1 Ak rfl ?_);refine Bz 2 Ak (_::_::_::_) (Ra (A4 (Dw (A4 ?_))));refine ⟨.inr rfl,[.agg Ak],.cons (.box _ _ _ 2 _ _ _ _ rfl rfl rfl rfl rfl rfl) <| .nil,_,.cons_cons _ (.cons _ (.cons _ (.refl _))),?_⟩;have h9:X3 E T st=Mw (vO E T x.2) ⟨x.2,[],[],0,[],D0 st⟩ st:=by unfold X3;rw [hfd];rfl
  exact ⟨by rw [h9];rfl,congrArg (fun s=>HO.box bp 116 (cP s)::H) (by rw [h9])⟩
 try simp only [A5,Bg] at hc1
 have hkn:¬k<7:=by have:=Er hc1;omega
 have hfd:formL.find? (fun f=>G6 f.1 st)=none:=cU (k:=k) hkn hR.2;refine AW.exit ?_;refine Br (Ri (Af (Qp Kg ?_)));refine qD ((vN st bp E hFE hE (eD hD hO)).at (k:=1) (H2:=_::_::_) rfl rfl) ?_;refine Bz 0 Ak (_::_::_) (Rb ?_);refine ⟨.inr rfl,[.agg Ak],Zb 0,_,S1,?_⟩;have h9:X3 E T st=Jj E st:=by unfold X3;rw [hfd]
 exact ⟨by rw [h9];rfl,congrArg (fun s=>HO.box bp 116 (cP s)::H) (by rw [h9])⟩
theorem vP (E:PS->Syn×PS)(hFE:C5 E)(hE:∀(st:PS) (bp:Nat),okD 0 st->Bf Tryz.prog 90 bp 116 (cP st) (cP (E st).2) [.val (.pointer (some ⟨bp,0,none⟩))] (.agg (cSyn (E st).1))):∀(n:Nat),n<=64->∀(st:PS) (bp:Nat),okD (64-(n:Int)) st->Bf Tryz.prog 89 bp 116 (cP st) (cP (oJ E n st).2) [.val (.pointer (some ⟨bp,0,none⟩))] (.agg (cSyn (oJ E n st).1))
  | 0,_=>fun st bp hO=>iS st bp E hFE hE 64 (by decide) F5 H9 (fun _ _ h=>(Tw h).elim) hO
  | n+1,hn=>fun st bp hO=>by
    have ih:=vP E hFE hE n (by omega);exact iS st bp E hFE hE (64-((n+1:Nat):Int)) (by omega) (oJ E n) (Y4 hFE n) (fun s b h=>ih s b ⟨h.1,by have:=h.2.1;omega,h.2.2⟩) hO
theorem bP:C5 EE:=(Kx 64).2
theorem uP:C5 TT:=Y4 bP 64
theorem p_EE (st:PS)(bp:Nat)(h:okD 0 st):Bf Tryz.prog 90 bp 116 (cP st) (cP (EE st).2) [.val (.pointer (some ⟨bp,0,none⟩))] (.agg (cSyn (EE st).1)):=(vJ 64 (Bc _)).2 st bp h
theorem p_TT (st:PS)(bp:Nat)(h:okD 0 st):Bf Tryz.prog 89 bp 116 (cP st) (cP (TT st).2) [.val (.pointer (some ⟨bp,0,none⟩))] (.agg (cSyn (TT st).1)):=vP EE bP p_EE 64 (Bc _) st bp h
theorem Wc (s:Ag):∀(n i:Nat) (b:Ag),b.length<=i->i<=s.length->(Eh s n i b).tok.text.length<=s.length
  | 0,i,b,h1,h2=>by simp [Eh,Jv,M9]
  | n+1,i,b,h1,h2=>by
    unfold Eh;split
    . rename_i hi
      simp only [Ea] at hi;split
      . split
        . simp [Jv,M9]
        simp only [Vw];omega
      . split
        . split
          . simp [Jv,M9]
          . rename_i he
            have hp:=rE (s.drop i);rw [C4] at hp;have hz:(Is (s.drop i)).2≠0:=by simpa using he
            exact Wc s n _ _ (by rw [Ao,D2];omega) (by omega)
        . split
          . simp [Jv,M9]
          exact Wc s n _ _ (by rw [Ao,D2];omega) (by omega)
    simp [Jv,M9]
theorem aT (s:Ag):∀l:List Ag,(∀x∈l,x.length<=2)->(Gs s l).tok.text.length<=2
  | [],_=>by simp [Gs,Jv,M9]
  | x::r,h=>by
    unfold Gs;split
    . exact h x (I7 ..)
    exact aT s r fun y hy=>h y (Ha _ hy)
theorem xU (t:Ag)(h0:0<t.length):(B3 t).tok.text.length<=t.length+2:=by
 have hn:(Jw t).tok.text.length<=t.length:=by
  unfold Jw;split
  . simp [rI,M9]
  split
  . simp [Jv,M9]
  simp only [Vw,Df];omega
 have hm:(E1 t).tok.text.length<=t.length:=by
  unfold E1;split
  . simp [rI,M9]
  split
  . simp [Jv,M9]
  split
  . simp [Jv,M9]
  simp only [Vw,Df];omega
 have hl:(Kp t).tok.text.length<=t.length:=by
  unfold Kp;split
  . simp [rI,M9]
  exact Wc t _ 1 [] (A7 _) h0
 have hs:=aT t iV (by decide);unfold B3;split
 . omega
 split
 . omega
 split
 . omega
 exact E7 hs (by omega)
theorem scan_okT (s:Ag)(hl:s.length<=100000):okT (Dl s).1:=by
  have key:∀(n i:Nat) (out:List Tok),i<=s.length->out.length<=i->(∀t∈out,t.text.length<=s.length+2)->(Jm s n i out).1.length<=s.length/\∀t∈(Jm s n i out).1,t.text.length<=s.length+2:=by
    intro n
    induction n with
    | zero=>intro i out h1 h2 h3;exact ⟨A7 _,fun t h=>by cases h⟩
    | succ n ih=>
      intro i out h1 h2 h3;unfold Jm;split
      . rename_i hi
        simp only [Ea] at hi;have hs:=sU (s.drop i);have hn:=Xy (s.drop i) (by rw [C4];omega);have ht:=xU (s.drop i) (by rw [C4];omega);rw [C4] at hs hn ht;have hs2:=hs.2 (by omega);split
        . exact ih _ _ (by omega) (by omega) h3
        . split
          . exact ⟨A7 _,fun t h=>by cases h⟩
          . rename_i h4
            have hp:=hn.2.2.2.2 (by simpa using h4);refine ih _ _ (by omega) (by rw [Ao,D2];omega) fun t h=>?_
            rcases Gd.1 h with h | h
            . exact h3 t h
            rw [Ep] at h;subst h;simp only;omega
      exact ⟨E7 h2 h1,h3⟩
  unfold Dl;split
  . exact ⟨A7 _,fun t h=>by cases h⟩
  . have:=key (s.length+1) 0 [] (A7 _) (Bc _) (fun t h=>by cases h)
    exact ⟨by omega,fun t h=>by have:=this.2 t h;omega⟩
theorem wZ (s:Ag)(hl:s.length<=100000):okD 0 (Hn (Dl s).1 s.length):=⟨scan_okT s hl,Fr _,(by decide:(0:Int)<=64)⟩
theorem p_kind (st:PS)(bp:Nat)  (hO:okD 0 st):Bf Tryz.prog 41 bp 116 (cP st) (cP ((H0 st).2)) [.val (.pointer (some ⟨bp,0,none⟩))] (.agg (cSyn (H0 st).1)):=by
 intro H;have hS:=hO.1;have hO2:okD 0 (Bn H1 (Ck 0 (Bn Dq st))):=by simpa using hO
 refine H7 32 Tryz.func41 rfl ?_;refine Af (D7 In fun b2=>B7 (Qp Bu ?_));refine AOL.Aaz (Cj (k:=1) (by kernel_rfl) rfl rfl (Jy _ _)) rfl rfl ?_;refine Qp (E2 Ak) (D7 In fun b3=>?_);refine Bz 0 Ak (_::_::_::_) (B7 (Qp Bu ?_));refine Rt (Dc rfl ((Dk _ _ _ (by simpa using hS) (by decide)).at (k:=2) (H2:=_::_::_::_) rfl rfl)) ?_;refine B7 (Qp Bu ?_);refine Rt (Dc rfl ((N4 _ _ (by simpa using hS)).at (k:=2) (H2:=_::_::_::_) rfl rfl)) ?_;refine Qp Cw ?_;refine Bz 0 Ak (_::_::_::_) (B7 (Qp Bu ?_));refine Rt (Dc rfl ((Dk _ _ _ (by simpa using hS) (by decide)).at (k:=2) (H2:=_::_::_::_) rfl rfl)) ?_;refine A2 (Cg (Qp Bu (Qp (Ae rfl) (Qp Cw (Pz 2 (Iq _) rfl (Qp Bq (Qp Co (Qg [] Qw Bu ?_))))))));refine AOL.gk (y:=.bool _) _ [(20,_)] rfl (bW.all ⟨Ent.Aax _ _,trivial⟩) (fun hG=>Cj (k:=2) (by kernel_rfl) rfl rfl (rY _ _ _ (by simpa using hS) (by decide))) rfl rfl ?_;refine Qg [(21,_)] Qw J4 (Qp Ks (Bp (fun hc1=>?_) fun hc1=>?_))
 .
  try simp only [A5,Bg] at hc1
  have hS:=(Mj hO2 (Ng Rx (M8 (Fr _) hO2))).1;refine AW.region (Qp Bu (Qp Bu (Qp (B0 (l:=[.val _]) (l':=[]) rfl rfl) ?_)));refine Rt (Dc rfl ((p_list (Bn H1 (Ck 0 (Bn Dq st))) bp 0 (by decide) 87 (by kernel_rfl) [.val (.pointer (some ⟨bp,0,none⟩))] [] Jk Rx (fun s ho=>p_field s bp ho.1) hO2).at (k:=2) (H2:=_::_::_::_) rfl rfl)) ?_;refine Qp Cw ?_;refine Bz 0 Ak (_::_::_::_) (B7 (Qp Bu ?_));refine Rt (Dc rfl ((Dk _ _ _ (by simpa using hS) (by decide)).at (k:=2) (H2:=_::_::_::_) rfl rfl)) ?_;refine B7 (O3 0 Ak rfl ?_);refine Bz 1 Ak (_::_::_::_) (Rb ?_);refine ⟨.inr rfl,[.agg Ak],Zb 1,_,S2,?_⟩;refine ⟨?_,congrArg (fun c=>HO.box bp 116 c::H) ?_⟩
  .
   try simp only [Ah,H0,cSyn,Be,Bw,Ba,hc1,↓reduceIte,Al,Av,Bk]
   try rfl
  try simp only [cP,H0,hc1,↓reduceIte,Al,Av,Bk]
  try rfl
 try simp only [A5,Bg] at hc1
 refine B6 (Af (Qp Bu ?_));refine Rt (Dc rfl ((Dk _ _ _ (by simpa using hS) (by decide)).at (k:=2) (H2:=_::_::_::_) rfl rfl)) ?_;refine B7 (O3 0 Ak rfl ?_);refine Bz 1 Ak (_::_::_::_) (Rb ?_);refine ⟨.inr rfl,[.agg Ak],Zb 1,_,S2,?_⟩;refine ⟨?_,congrArg (fun c=>HO.box bp 116 c::H) ?_⟩
 .
  try simp only [Ah,H0,cSyn,Be,Bw,Ba,hc1,↓reduceIte,Al,Av,Bk]
  try rfl
 try simp only [cP,H0,hc1,↓reduceIte,Al,Av,Bk]
 try rfl
theorem sc_pair (x y:Syn):∀c∈[cSyn x,cSyn y],Au c=true:=by
 intro c hc;simp only [Cn,Og,or_false] at hc;rcases hc with rfl | rfl <;> rfl
abbrev q1 (st:PS):PS:=Bn Dm st
abbrev q2 (st:PS):Syn×PS:=O9 (Ck 0 (q1 st)) (D0 st)
abbrev q3 (T:PS->Syn×PS)(st:PS):Syn×PS:=T (Bn Gk (q2 st).2)
abbrev q4 (T:PS->Syn×PS)(st:PS):PS:=Bn G9 (q3 T st).2
theorem list_len {F:PS->Syn×PS}(hF:C5 F){st:PS}(h:okD 0 st):(Mh F st).1.length<=1048600:=by
  have key:∀(n:Nat) (st:PS) (out:List Syn),okD 0 st->out.length<=st.pos+1->out.length<=1048580->(Hr F n st out).1.length<=1048600:=by
    intro n
    induction n with
    | zero=>intro st out _ _ h;exact E7 h (by decide)
    | succ n ih=>
      intro st out hO h1 h2;unfold Hr;split
      . rename_i hi
        have hlt:=Vk hi;have hg:=hF.goes (a:=adv st) (M8 (Fr _) hO);have hp:st.pos+1<=(F (adv st)).2.pos:=hg.2.1;have hml:=hO.1.1;exact ih _ _ (Mj hO ((I9.adv st).trans hg)) (by rw [Ao,D2];omega) (by rw [Ao,D2];omega)
      exact E7 h2 (by decide)
  exact key _ _ _ (Mj h (hF.goes (M8 (Fr _) h))) (by simp) (by simp)
theorem p_query (st:PS)(bp:Nat)(E:PS->Syn×PS)(hFE:C5 E)(hE:∀(st:PS) (bp:Nat),okD 0 st->Bf Tryz.prog 90 bp 116 (cP st) (cP (E st).2) [.val (.pointer (some ⟨bp,0,none⟩))] (.agg (cSyn (E st).1)))(T:PS->Syn×PS)(hFT:C5 T)(hT:∀(st:PS) (bp:Nat),okD 0 st->Bf Tryz.prog 89 bp 116 (cP st) (cP (T st).2) [.val (.pointer (some ⟨bp,0,none⟩))] (.agg (cSyn (T st).1)))(hO:okD 0 st):Bf Tryz.prog 42 bp 116 (cP st) (cP ((I1 E T st).2)) [.val (.pointer (some ⟨bp,0,none⟩))] (.agg (cSyn (I1 E T st).1)):=by
 intro H;have hS:=hO.1;have hO2:okD 0 (q2 st).2:=Mj (a:=Ck 0 (q1 st)) (by simpa using hO) (dF _ _);have hO3:okD 0 (q3 T st).2:=hFT.okD (Fr _) (by simpa using hO2);have hO4:okD 0 (q4 T st):=by simpa using hO3
 have hO5:=Mj hO4 (Ng hFE (M8 (Fr _) hO4));have hll:=list_len hFE hO4;refine H7 44 Tryz.func42 rfl ?_;refine Af (D7 In fun b2=>B7 (Qp Bu ?_));refine AOL.Aaz (Cj (k:=1) (by kernel_rfl) rfl rfl (Jy _ _)) rfl rfl ?_;refine Qp (E2 Ak) (D7 In fun b3=>?_);refine Bz 0 Ak (_::_::_::_) (B7 (Qp Bu ?_));refine Rt (Dc rfl ((Dk _ _ _ (by simpa using hS) (by decide)).at (k:=2) (H2:=_::_::_::_) rfl rfl)) ?_;refine B7 (Qp Bu ?_);refine Rt (Dc rfl ((N4 _ _ (by simpa using hS)).at (k:=2) (H2:=_::_::_::_) rfl rfl)) ?_;refine Qp Cw ?_;refine Bz 0 Ak (_::_::_::_) (B7 (Qp Cw (Pz 0 (Iq _) rfl (Qp (E2 Ak) (D7 In fun b4=>?_)))));refine Bz 0 Ak (_::_::_::_::_) (A2 ?_);refine AW.cut (fun (k:Syn×PS)=>(⟨[(0,.val (.pointer (some ⟨bp,0,none⟩))),(2,.val (.pointer (some ⟨b2,0,none⟩))),(3,.val (.pointer (some ⟨b3,0,none⟩))),(4,.val (.pointer (some ⟨b4,0,none⟩)))],.box b4 25 (cSyn k.1) :: .box b3 25 [.int .i64 3,.str (G7 0 (q1 st)),.str [],.int .i64 0,.sl 6 [],.int .i64 (D0 st)] :: .box b2 25 (cSyn He) :: .box bp 116 (cP k.2)::H,44⟩:St)) (fun k=>k=q2 st) ?_ ?_
 .
  refine Af (Qp Bu ?_);refine Rt (Dc rfl ((Ed _ _ _ (by simpa using hS) (by decide)).at (k:=3) (H2:=_::_::_::_::_) rfl rfl)) ?_;refine Bp (fun hc1=>?_) fun hc1=>?_
  .
   try simp only [A5,Bg] at hc1
   refine AW.ghost (GS.Aay (H2:=_::_::_::_::_) 3 rfl (congrArg cP (Et hc1)) rfl) ?_;refine Af (Qp Bu ?_);refine AOL.Aaz (Cj (k:=3) (by kernel_rfl) rfl rfl (Jy _ _)) rfl rfl ?_;refine Qp Cw ?_;refine Bz 0 Ak (_::_::_::_::_) (A2 (AW.region (Qp Bu ?_)));refine Rt (Dc rfl ((N4 _ _ (by simpa using hS)).at (k:=3) (H2:=_::_::_::_::_) rfl rfl)) ?_;refine Qp Cw ?_;refine Bz 0 Ak (_::_::_::_::_) (A2 ?_);refine ⟨(⟨4,G7 0 (adv (Ck 0 (q1 st))),[],0,[],D0 (adv (Ck 0 (q1 st)))⟩,Ck 0 (adv (Ck 0 (q1 st)))),?_,Dh⟩;exact (by unfold q2 O9;rw [if_pos (show G6 tF (Ck 0 (q1 st))=true from hc1)])
  try simp only [A5,Bg] at hc1
  refine AW.ghost (GS.Aay (H2:=_::_::_::_::_) 3 rfl (congrArg cP (G2 hc1)) rfl) ?_;refine B6 ?_;refine ⟨(⟨4,[],[],0,[],D0 st⟩,Ck 0 (q1 st)),?_,Dh⟩;exact (by unfold q2 O9;rw [if_neg (Oe.mp (show G6 tF (Ck 0 (q1 st))=false from hc1))])
 rintro k rfl;have hS:=hO2.1;refine Af (Qp Bu ?_);refine Rt (Dc rfl ((Dk _ _ _ (by simpa using hS) (by decide)).at (k:=3) (H2:=_::_::_::_::_) rfl rfl)) ?_;refine Re (Pq 0 rfl (Qn 0 rfl (Db.mem (fun k=>Iu (k:=k) (l:=Ak) tok rfl rfl rfl rfl rfl) (fun _ h=>h)) ?_));refine Qn 1 rfl Bu ?_;refine Vr 2 rfl (Dc rfl ((hT (Bn Gk (q2 st).2) bp (by simpa using hO2)).at (k:=3) (H2:=_::_::_::_::_) rfl rfl)) (by rintro _ _ ⟨rfl,rfl⟩;simp) ?_;rintro _ _ ⟨rfl,rfl⟩;have hS:=hO3.1;refine Vr 3 rfl (Hk (es:=[Ak,Ak]) tok rfl rfl rfl rfl rfl rfl rfl rfl rfl) (by rintro _ _ ⟨v29,rfl,rfl⟩;simp) ?_;rintro _ _ ⟨v29,rfl,rfl⟩;refine Qn 4 rfl Cw ?_;refine bF 5 rfl (Ki 2 (.row _ _ _) Ak (_::_::_::_::_::_) rfl) ?_;rintro _ _ ⟨rfl,rfl⟩;refine Aa (Af (Qp Bu ?_));refine Rt (Dc rfl ((Dk _ _ _ (by simpa using hS) (by decide)).at (k:=4) (H2:=_::_::_::_::_::_) rfl rfl)) ?_;refine Re (Pq 2 rfl (Qn 0 rfl Cw (Qn 1 rfl (Lb (.row _ _ _) rfl) (Qn 2 rfl Bu (Qn 3 rfl Bu (Qn 4 rfl (B0 (l:=[.val _]) (l':=[]) rfl rfl) ?_))))));refine Vr 5 rfl (Dc rfl ((p_list (q4 T st) bp 0 (by decide) 90 (by kernel_rfl) [.val (.pointer (some ⟨bp,0,none⟩))] [] E hFE (fun s ho=>hE s bp ho) hO4).at (k:=4) (H2:=_::_::_::_::_::_) rfl rfl)) (by rintro _ _ ⟨rfl,rfl⟩;simp) ?_;rintro _ _ ⟨rfl,rfl⟩;have hS:=hO5.1;refine Vr 6 rfl (Vc 0 rfl (T4 _) (sc_pair _ _) (by simp;omega) (by simp [maxLen];omega)) (by rintro _ _ ⟨v39,rfl,rfl⟩;simp) ?_;rintro _ _ ⟨v39,rfl,rfl⟩;refine Qn 7 rfl Cw ?_;refine bF 8 rfl (Ki 2 (.row _ _ _) Ak (_::_::_::_::_::_) rfl) ?_;rintro _ _ ⟨rfl,rfl⟩;refine Aa (Af (Qp Bu ?_));refine Rt (Dc rfl ((Dk _ _ _ (by simpa using hS) (by decide)).at (k:=4) (H2:=_::_::_::_::_::_) rfl rfl)) ?_;refine B7 ?_;refine AOL.ghost (GS.cell (H2:=_::_::_::_::_::_) 2 4 rfl rfl rfl rfl D1) ?_;refine O3 2 Ak rfl ?_;refine Bz 3 Ak (_::_::_::_::_::_) (Rb ?_);refine ⟨.inr rfl,[.agg Ak],Zb 3,_,S4,?_⟩;exact ⟨congrArg (fun l=>AV.agg [.int .i64 3,.str (G7 0 (q1 st)),.str [],.int .i64 0,.sl 6 l,.int .i64 (D0 st)]) (by unfold I1;simp only [E5,Be,Bw,Ba]),rfl⟩
end Go.Proofs.YtibcelnfkhdjaaaGreatDoor
