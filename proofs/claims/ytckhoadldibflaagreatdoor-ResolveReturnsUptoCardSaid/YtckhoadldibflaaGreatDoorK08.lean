/-
  Several texts in one: P7, P17, P8, X12, V5, V6. No condition.
-/
import Derived.Test.YtckhoadldibflaaGreatDoorK07
import Derived.Test.YtckhoadldibflaaGreatDoorK04
import Derived.Test.YtckhoadldibflaaGreatDoorK01
import Derived.KernelRfl
set_option linter.unusedVariables false
set_option linter.unusedSimpArgs false
set_option maxHeartbeats 3200000
set_option maxRecDepth 20000
namespace Go.Proofs.YtckhoadldibflaaGreatDoor
open Go Go.Aw
theorem cX {u:Ag}(h:Di (bt u 0)=true)(h0:0<u.length):Ca u=if decide (24<(B4 G5 u:Int)) then Nw 0 8 else Y4 0 (u.take (B4 G5 u)) (B4 G5 u):=by
 have hp:0<B4 G5 u:=by
  have:=vX (p:=G5) (s:=u) (k:=0) h0 (by unfold G5;rw [h];rfl);simpa using this
 have hn:Kx u=if decide (24<(B4 G5 u:Int)) then Nw 0 8 else Y4 0 (u.take (B4 G5 u)) (B4 G5 u):=by unfold Kx;rw [h];rfl
 have hh:Mv (Kx u)=true:=by
  rw [hn];split
  . exact pJ (by decide)
  exact pK (by omega)
 unfold Ca;rw [hh,hn];rfl
theorem cU {u:Ag}(h:Di (bt u 0)=false):Kx u=xW:=by unfold Kx;rw [h];rfl
theorem jS {u:Ag}(h1:Di (bt u 0)=false)(h:Bn (bt u 0)=true)(h0:0<u.length):Ca u =
  if ((Ua (u.take (B4 Bn u))).2 != 0) then Nw 0 (Ua (u.take (B4 Bn u))).2
  else if (decide ((B4 Bn u:Int)<(u.length:Int))&&Di (bt u (B4 Bn u))) then Nw (B4 Bn u) 4
  else Y4 1 (u.take (B4 Bn u)) (B4 Bn u):=by
 have hp:0<B4 Bn u:=by
  have:=vX (p:=Bn) (s:=u) (k:=0) h0 h;simpa using this
 have hn:F4 u=if ((Ua (u.take (B4 Bn u))).2 != 0) then Nw 0 (Ua (u.take (B4 Bn u))).2
  else if (decide ((B4 Bn u:Int)<(u.length:Int))&&Di (bt u (B4 Bn u))) then Nw (B4 Bn u) 4
  else Y4 1 (u.take (B4 Bn u)) (B4 Bn u):=by
  unfold F4;have e:((B4 Bn u:Int)==0)=false:=by rw [Hm];omega
  rw [e];rfl
 have hh:Mv (F4 u)=true:=by
  rw [hn];split
  . rename_i h;exact pJ (by simpa using h)
  split
  . exact pJ (by decide)
  exact pK (by omega)
 unfold Ca;rw [cU h1,hh,hn];rfl
theorem uL {u:Ag}(h:Bn (bt u 0)=false)(h0:0<u.length):F4 u=xW:=by
 unfold F4
 have:B4 Bn u=0:=by
  obtain ⟨c,r,rfl⟩:∃c r,u=c::r:=by cases u with | nil=>cases h0 | cons c r=>exact ⟨c,r,rfl⟩
  rw [B4,if_neg (by rw [show Bn c=false from h];decide)]
 rw [this];rfl
theorem uI {u:Ag}(h:(((bt u 0).toNat:Int)==34)=true)(h0:0<u.length):Ca u=if Mv (Hr u (u.length+1) 1 []) then Hr u (u.length+1) 1 [] else Wf u:=by
 have hq:=yX h
 have hl:Lq u=Hr u (u.length+1) 1 []:=by
  unfold Lq;have e:(((bt u 0).toNat:Int) != 34)=false:=by simp only [bne,h];rfl
  rw [e];rfl
 unfold Ca;rw [cU hq.1,uL hq.2 h0,hl];rfl
theorem Xv {u:Ag}(h1:Di (bt u 0)=false)(h2:Bn (bt u 0)=false)(h3:(((bt u 0).toNat:Int)==34)=false)(h0:0<u.length):Ca u=Wf u:=by
 have hl:Lq u=xW:=by
  unfold Lq;have e:(((bt u 0).toNat:Int) != 34)=true:=by simp only [bne,h3];rfl
  rw [e];rfl
 unfold Ca;rw [cU h1,uL h2 h0,hl];rfl
def Ol (w:Ag):Prop:=∀c r,w=c::r->G5 c=false/\c≠61
theorem Ol.cons {c:UInt8}{r:Ag}(h:G5 c=false)(h2:c≠61):Ol (c::r):=fun _ _ e=>by
 rw [<-(List.cons.inj e).1];exact ⟨h,h2⟩
theorem Tj {p:UInt8->Bool}{w:Ag}(hw:∀c r,w=c::r->p c=false):∀u:Ag,B4 p (u++w)=B4 p u
  | []=>by
    cases w with
    | nil=>rfl
    | cons c r=>
      show (if p c then B4 p r+1 else 0)=0;rw [hw c r rfl];rfl
  | c::r=>by
    rw [Co,B4,B4,Tj hw r]
theorem gO {c:UInt8}(h:G5 c=false):Di c=false/\Bn c=false:=by
 unfold G5 at h;rw [Eb] at h;exact h
theorem rY {u w:Ag}:bt (u++w) u.length=bt w 0:=by
 simp only [bt,Ez];rw [List.getElem?_append_right (Br _),Nat.sub_self]
theorem take_left' {u w:Ag}{n:Nat}(h:n<=u.length):(u++w).take n=u.take n:=gQ h
theorem jO {u w:Ag}:∀(n m i:Nat) (b:Ag),(Hr u n i b).err=0->n<=m->Hr (u++w) m i b=Hr u n i b
  | 0,m,i,b,h,_=>by simp [Hr,Nw] at h
  | n+1,m,i,b,h,hm=>by
    obtain ⟨m,rfl⟩:∃m',m=m'+1:=⟨m-1,by omega⟩;rw [T6] at h ⊢;rw [T6];by_cases hi:i<u.length
    . have e1:decide ((i:Int)<(u.length:Int))=true:=Iu (by omega)
      have e2:decide ((i:Int)<((u++w).length:Int))=true:=Iu (by rw [Au];omega);rw [e1] at h ⊢;rw [e2,Xg hi];simp only [↓reduceIte] at h ⊢;cases h34:(((bt u i).toNat:Int)==34) with
      | true=>rfl
      | false=>
        rw [h34] at h;simp only [Ak,↓reduceIte] at h ⊢;cases h92:(((bt u i).toNat:Int)==92) with
        | true=>
          rw [h92] at h;simp only [↓reduceIte] at h ⊢;rw [List.drop_append_of_le_length (by omega)];by_cases he:(Kw (u.drop i)).2=0
          . rw [he] at h;exact absurd h (by simp [Nw])
          . rw [mQ he]
            have e3:((Kw (u.drop i)).2==0)=false:=by rw [Hm];exact he
            rw [e3] at h ⊢;simp only [Ak,↓reduceIte] at h ⊢;exact jO n m _ _ h (by omega)
        | false=>
          rw [h92] at h;simp only [Ak,↓reduceIte] at h ⊢;cases hr:(decide (((bt u i).toNat:Int)<32)||decide (126<((bt u i).toNat:Int))) with
          | true=>rw [hr] at h;exact absurd h (by simp [Nw])
          | false=>
            rw [hr] at h;simp only [Ak,↓reduceIte] at h ⊢;exact jO n m _ _ h (by omega)
    . have e1:decide ((i:Int)<(u.length:Int))=false:=I8 (by omega)
      rw [e1] at h;exact absurd h (by simp [Nw])
theorem P0 (c:UInt8)(r:Ag):Wf (c::r)=match signV c (Lib.hasPrefix r [61]) with | none=>Nw 0 4 | some x=>Y4 3 x x.length:=kR c r nT (by decide)
theorem uV {r w:Ag}(hw:Ol w):Lib.hasPrefix (r++w) [61]=Lib.hasPrefix r [61]:=by
  cases r with
  | nil=>
    cases w with
    | nil=>rfl
    | cons c w=>
      have h:=(hw c w rfl).2;show ((61:UInt8)==c&&([]:Ag).isPrefixOf w)=false;have e:((61:UInt8)==c)=false:=by rw [Hm];exact fun e=>h e.symm
      rw [e];rfl
  | cons c r=>simp [Lib.hasPrefix,List.isPrefixOf]
theorem next_left {u w:Ag}(hw:Ol w)(h0:0<u.length)(he:(Ca u).err=0):Ca (u++w)=Ca u:=by
  have h0':0<(u++w).length:=by rw [Au];omega
  have hb:bt (u++w) 0=bt u 0:=Xg h0;have sw:B4 G5 (u++w)=B4 G5 u:=Tj (fun c r e=>(hw c r e).1) u;have sd:B4 Bn (u++w)=B4 Bn u:=Tj (fun c r e=>(gO (hw c r e).1).2) u;cases h1:Di (bt u 0) with
  | true=>rw [cX h1 h0,cX (by rw [hb];exact h1) h0',sw,take_left' (Ng _ _)]
  | false=>
    cases h2:Bn (bt u 0) with
    | true=>
      rw [jS h1 h2 h0] at he ⊢;rw [jS (by rw [hb];exact h1) (by rw [hb];exact h2) h0',sd,take_left' (Ng _ _)]
      have e:(decide ((B4 Bn u:Int)<((u++w).length:Int))&&Di (bt (u++w) (B4 Bn u)))=(decide ((B4 Bn u:Int)<(u.length:Int))&&Di (bt u (B4 Bn u))):=by
        have hle:=Ng Bn u;by_cases hs:B4 Bn u<u.length
        . have e1:decide ((B4 Bn u:Int)<((u++w).length:Int))=true:=Iu (by rw [Au];omega)
          have e2:decide ((B4 Bn u:Int)<(u.length:Int))=true:=Iu (by omega);rw [e1,e2,Xg hs]
        . have hs2:B4 Bn u=u.length:=by omega
          have e2:decide ((u.length:Int)<(u.length:Int))=false:=I8 (by omega);rw [hs2,e2,rY,Oc];cases w with
          | nil=>rw [A8,e2];rfl
          | cons c w=>
            have:Di (bt (c::w) 0)=false:=(gO (hw c w rfl).1).1;rw [this,Qx]
      rw [e]
    | false=>
      cases h3:(((bt u 0).toNat:Int)==34) with
      | true=>
        rw [uI h3 h0] at he ⊢;rw [uI (by rw [hb];exact h3) h0'];by_cases hh:Mv (Hr u (u.length+1) 1 [])=true
        . rw [if_pos hh] at he ⊢
          have:=jO (w:=w) (u.length+1) ((u++w).length+1) 1 [] he (by rw [Au];omega);rw [this,if_pos hh]
        . exfalso
          rw [if_neg hh] at he;obtain ⟨c,r,rfl⟩:∃c r,u=c::r:=by cases u with | nil=>cases h0 | cons c r=>exact ⟨c,r,rfl⟩
          rw [P0] at he
          have hc:c=34:=by
            have:=Wl (p:=fun c=>decide (((c.toNat:Int)==34)=true->c=34)) (by kernel_rfl) c;exact (Ey this) h3
          subst hc
          revert he
          cases Lib.hasPrefix r [61] with
          | true=>intro he;exact absurd he (by decide)
          | false=>intro he;exact absurd he (by decide)
      | false=>
        rw [Xv h1 h2 h3 h0,Xv (by rw [hb];exact h1) (by rw [hb];exact h2) (by rw [hb];exact h3) h0'];obtain ⟨c,r,rfl⟩:∃c r,u=c::r:=by cases u with | nil=>cases h0 | cons c r=>exact ⟨c,r,rfl⟩
        rw [Co,P0,P0,uV hw]
inductive Sc (s:Ag):Nat->List Tok->Nat->Prop
 | nil (i:Nat):Sc s i [] i
 | sep {i:Nat} {l:List Tok} {j:Nat} (hi:i<s.length) (h:0<Kl (s.drop i)) (hr:Sc s (i+(Kl (s.drop i)).toNat) l j):Sc s i l j
 | tok {i:Nat} {l:List Tok} {j:Nat} (hi:i<s.length) (h:Kl (s.drop i)=0) (he:(Ca (s.drop i)).err=0) (hr:Sc s (i+(Ca (s.drop i)).bytes.toNat) l j):Sc s i (⟨(Ca (s.drop i)).tok.kind,(Ca (s.drop i)).tok.text,i⟩::l) j
theorem Sc.trans {s:Ag}{i:Nat}{l:List Tok}{j:Nat}(h:Sc s i l j){m:List Tok}{k:Nat}(h2:Sc s j m k):Sc s i (l++m) k:=by
 induction h with
 | nil i=>exact h2
 | sep hi hs hr ih=>exact .sep hi hs (ih h2)
 | tok hi hs he hr ih=>exact .tok hi hs he (ih h2)
theorem Sc.of_scan {s:Ag}:∀(n i:Nat) (out:List Tok),i<=s.length->s.length<n+i->(J8 s n i out).2.2=0->∃l,J8 s n i out=(out++l,0,0)/\Sc s i l s.length
  | 0,i,out,h1,h2,_=>by omega
  | n+1,i,out,h1,h2,h=>by
    rw [Rx] at h ⊢;by_cases hi:i<s.length
    . rw [pO hi] at h ⊢
      simp only [↓reduceIte] at h ⊢;have hs:=qM (s.drop i);have hn:=gK (s.drop i) (by rw [Ej];omega);rw [Ej] at hs hn;have hs2:=hs.2 (by omega);by_cases hp:0<Kl (s.drop i)
      . have e:decide (0<Kl (s.drop i))=true:=Iu hp
        rw [e] at h ⊢;simp only [↓reduceIte] at h ⊢;obtain ⟨l,k1,k2⟩:=Sc.of_scan n _ out (by omega) (by omega) h;exact ⟨l,k1,.sep hi hp k2⟩
      . have e:decide (0<Kl (s.drop i))=false:=I8 hp
        rw [e] at h ⊢;simp only [Ak,↓reduceIte] at h ⊢;by_cases he:(Ca (s.drop i)).err=0
        . have e2:((Ca (s.drop i)).err != 0)=false:=by rw [he];rfl
          have hpos:=hn.2.2.2.2 he;rw [e2] at h ⊢;simp only [Ak,↓reduceIte] at h ⊢;obtain ⟨l,k1,k2⟩:=Sc.of_scan n _ _ (by omega) (by omega) h;refine ⟨_,?_,.tok hi (by omega) he k2⟩;rw [k1,C1];rfl
        . have e2:((Ca (s.drop i)).err != 0)=true:=by simpa using he
          rw [e2] at h;exact absurd h he
    . have e:decide ((i:Int)<(s.length:Int))=false:=I8 (by omega)
      have hil:i=s.length:=by omega
      rw [e];exact ⟨[],by simp,hil▸.nil _⟩
theorem Sc.scan {s:Ag}{i:Nat}{l:List Tok}{j:Nat}(h:Sc s i l j):∀(n:Nat) (out:List Tok),j=s.length->i<=s.length->s.length<n+i->J8 s n i out=(out++l,0,0):=by
  induction h with
  | nil i=>
    rintro n out rfl h1 h2;obtain ⟨m,rfl⟩:∃m,n=m+1:=⟨n-1,by omega⟩;have e:decide ((s.length:Int)<(s.length:Int))=false:=I8 (by omega);rw [Rx,e];simp
  | @sep i l j hi hs hr ih=>
    rintro n out rfl h1 h2;obtain ⟨m,rfl⟩:∃m,n=m+1:=⟨n-1,by omega⟩;have hs1:=qM (s.drop i);rw [Ej] at hs1;have hs2:=hs1.2 (by omega);rw [Rx,pO hi,Iu hs];exact ih m out rfl (by omega) (by omega)
  | @tok i l j hi hs he hr ih=>
    rintro n out rfl h1 h2;obtain ⟨m,rfl⟩:∃m,n=m+1:=⟨n-1,by omega⟩;have hn:=gK (s.drop i) (by rw [Ej];omega);rw [Ej] at hn;have hpos:=hn.2.2.2.2 he;have e2:((Ca (s.drop i)).err != 0)=false:=by rw [he];rfl
    have e:decide (0<Kl (s.drop i))=false:=I8 (by omega);rw [Rx,pO hi,e,e2];simp only [Ak,↓reduceIte];rw [ih m _ rfl (by omega) (by omega),C1];rfl
theorem scan_sc {s:Ag}(h:(Dx s).2.2=0):(Dx s).2.1=0/\Sc s 0 (Dx s).1 s.length:=by
  unfold Dx at h ⊢;cases e:decide (65536<(s.length:Int)) with
  | true=>rw [e] at h;exact absurd h (by simp)
  | false=>
    rw [e] at h;simp only [Ak,↓reduceIte] at h ⊢;obtain ⟨l,k1,k2⟩:=Sc.of_scan _ _ _ (A9 _) (by omega) h;rw [k1];exact ⟨rfl,k2⟩
theorem sc_scan {s:Ag}{l:List Tok}(hl:s.length<=65536)(h:Sc s 0 l s.length):Dx s=(l,0,0):=by
 unfold Dx;rw [I8 (show ¬(65536:Int)<(s.length:Int) by omega)];exact h.scan _ _ rfl (A9 _) (by omega)
def shT (d:Nat)(t:Tok):Tok:=⟨t.kind,t.text,t.pos+(d:Int)⟩
theorem Sc.shift (p:Ag){s:Ag}{i:Nat}{l:List Tok}{j:Nat}(h:Sc s i l j):Sc (p++s) (p.length+i) (l.map (shT p.length)) (p.length+j):=by
  have hd:∀i,(p++s).drop (p.length+i)=s.drop i:=fun i=>by rw [List.drop_append];simp
  induction h with
  | nil i=>exact .nil _
  | @sep i l j hi hs hr ih=>
    refine .sep (by rw [Au];omega) (by rw [hd];exact hs) ?_;rw [hd,Qq];exact ih
  | @tok i l j hi hs he hr ih=>
    have:=Sc.tok (s:=p++s) (i:=p.length+i) (l:=l.map (shT p.length)) (j:=p.length+j) (by rw [Au];omega) (by rw [hd];exact hs) (by rw [hd];exact he) (by rw [hd,Qq];exact ih);rw [hd] at this
    have e:shT p.length ⟨(Ca (s.drop i)).tok.kind,(Ca (s.drop i)).tok.text,i⟩=⟨(Ca (s.drop i)).tok.kind,(Ca (s.drop i)).tok.text,((p.length+i:Nat):Int)⟩:=by
      unfold shT;simp only [Tok.mk.injEq,true_and];omega
    rw [Ao,e];exact this
theorem kQ {c:UInt8}{r:Ag}(h:c≠35):Kl (c::r)=if decide (0<=Lib.indexByte [32,9,13,10] c) then 1 else 0:=by
 unfold Kl
 have e:(((bt (c::r) 0).toNat:Int)==35)=false:=by
  have:=Wl (p:=fun c=>decide (c≠35->((c.toNat:Int)==35)=false)) (by kernel_rfl) c;exact (Ey this) h
 rw [e];rfl
theorem vT {u w:Ag}(h:35∉u)(h0:0<u.length):Kl (u++w)=Kl u:=by
 obtain ⟨c,r,rfl⟩:∃c r,u=c::r:=by cases u with | nil=>cases h0 | cons c r=>exact ⟨c,r,rfl⟩
 have hc:c≠35:=fun e=>h (by simp [e])
 rw [Co,kQ hc,kQ hc]
theorem Sc.left {u:Ag}{w:Ag}(hw:Ol w)(hn:35∉u){i:Nat}{l:List Tok}{j:Nat}(h:Sc u i l j):Sc (u++w) i l j:=by
  induction h with
  | nil i=>exact .nil _
  | @sep i l j hi hs hr ih=>
    have hd:(u++w).drop i=u.drop i++w:=List.drop_append_of_le_length (by omega);have e:Kl ((u++w).drop i)=Kl (u.drop i):=by rw [hd];exact vT (fun h=>hn (eD h)) (by rw [Ej];omega)
    exact .sep (by rw [Au];omega) (by rw [e];exact hs) (by rw [e];exact ih)
  | @tok i l j hi hs he hr ih=>
    have hd:(u++w).drop i=u.drop i++w:=List.drop_append_of_le_length (by omega);have h0:0<(u.drop i).length:=by rw [Ej];omega
    have e:Kl ((u++w).drop i)=Kl (u.drop i):=by rw [hd];exact vT (fun h=>hn (eD h)) h0
    have e2:Ca ((u++w).drop i)=Ca (u.drop i):=by rw [hd];exact next_left hw h0 he
    have:=Sc.tok (s:=u++w) (i:=i) (l:=l) (j:=j) (by rw [Au];omega) (by rw [e];exact hs) (by rw [e2];exact he) (by rw [e2];exact ih);rw [e2] at this;exact this
theorem vW {s:Ag}{i:Nat}{c:UInt8}{r:Ag}{l:List Tok}{j:Nat}(hd:s.drop i=c::r)(hc:c=32\/c=9\/c=13\/c=10)(h:Sc s (i+1) l j):Sc s i l j:=by
 have hi:i<s.length:=Nat.lt_of_not_le fun hge=>by rw [Q8 hge] at hd;cases hd
 have e:Kl (s.drop i)=1:=by
  rw [hd];rcases hc with rfl | rfl | rfl | rfl <;> rfl
 exact .sep hi (by rw [e];decide) (by rw [e];exact h)
variable {l:List Tok} {e d:Int} {a b st:PS}
theorem yT {F:PS->Syn×PS}{s:Ag}(h:(Df F s).2.2=0):(Dx s).2.2=0/\(F (J0 (Dx s).1 s.length)).2.bad=0/\(F (J0 (Dx s).1 s.length)).2.toks.length<=(F (J0 (Dx s).1 s.length)).2.pos/\Df F s=((F (J0 (Dx s).1 s.length)).1,0,0):=by
 unfold Df at h ⊢;by_cases h1:((Dx s).2.2 != 0)=true
 .
  rw [if_pos h1] at h;exact absurd h (by simpa using h1)
 rw [if_neg h1] at h ⊢;refine ⟨by simpa using h1,?_⟩;generalize F (J0 (Dx s).1 s.length)=r at h ⊢;unfold Sz at h ⊢;simp only at h ⊢;by_cases h2:decide ((r.2.pos:Int)<(r.2.toks.length:Int))=true
 .
  rw [if_pos h2,Vd (by decide),if_pos rfl] at h;exact absurd h (by have:=Vd (e:=4) (by decide) r.2;simpa using this)
 rw [if_neg h2] at h ⊢;by_cases h3:(r.2.bad != 0)=true
 .
  rw [if_pos h3] at h;exact absurd h (by simpa using h3)
 rw [if_neg h3];refine ⟨by simpa using h3,?_,rfl⟩;simp only [Ck] at h2;omega
def Wo (t:Tok):Ag:=if (t.kind != 2) then t.text else (Sj t.text).1
def Nz (t:Tok)(n:Nat):Prop:=
 (∀rest,Ol rest->Ca (Wo t++rest)=Y4 t.kind t.text (Wo t).length)/\(∀rest,Kl (Wo t++rest)=0)/\0<(Wo t).length/\(Wo t).length<=4*n/\t.text.length<=n
abbrev kt (t:Tok):Int×Ag:=(t.kind,t.text)
theorem GS.refl (s:St):GS s s:=fun g a w h=>⟨g,h,Ext.refl g w⟩
theorem AW.ghostPost {P:Program}{c:Code}{Q:Exit->St->Prop}{s:St}(h:AW P c (fun e s=>∃s',GS s s'/\Q e s') s):AW P c Q s:=by
 intro Q' g a w hG hQ;refine h Q' g a w hG fun e g' s' a' w' h1 h2 ⟨s2,h3,h4⟩=>?_
 obtain ⟨g2,k1,k2⟩:=h3 g' a' w' h1;exact hQ e g2 s2 a' w' k1 (h2.trans k2) h4
section
variable {P:Program} {T:List (Nat×TD)} {d:Option Nat} {ty:TypeId} {pos:String} {aft:Array Edge} {gd:Option (Nat×Bool)} {ρ:Operand->AV} {K:List HO->Prop}
theorem M9 {t e z:Nat}{td te:TD}{vs:Array Value}{es:List (List AV)}(hT:Jw P T)(ht:Bs T t=some td)(hk:td.kind = .slice e)(hte:Bs T e=some te)(hz:te.size=z)
    (hb:Nat.ble (1*z) 16777216=true) (hl:Nat.beq vs.toList.length z=true) (hs:A0 (vs.toList.map AV.val)=true) (hp:Nat.blt 0 z=true) (hes:[vs.toList.map AV.val]=es):Dp P ⟨d,.buildSlice t 1 #[(0,.const (.agg vs))],ty,pos,aft,gd⟩ ρ K (.sl z es):=by
  have h:=Zy (d:=d) (ty:=ty) (pos:=pos) (aft:=aft) (gd:=gd) (K:=K) (ρ:=fun _=>.agg (vs.toList.map AV.val)) (parts:=#[(0,.const (.agg vs))]) (n:=1) (es:=es) hT ht hk hte hz rfl hb
    (by simp only [Yg,Cy,Bt,Nat.beq_refl,Gq,Dg,hs,hl]) hp (by subst hes;rfl)
  intro g w a H next Q hr hH hK hn
  refine h g w a H next Q (fun y hy=>?_) hH hK hn
  simp only [Op.operands,List.map_toArray,Ao,A5,List.mem_toArray,Ft] at hy;subst hy;refine .agg vs _ (by simp) (fun i x hi=>?_);rw [List.getElem?_map] at hi;cases hv:vs.toList[i]? with
  | none=>rw [hv] at hi;cases hi
  | some u=>
    rw [hv] at hi;cases hi
    have:vs.getD i undef=u:=by
      rw [Ek];have:vs[i]? = some u:=by simpa using hv
      rw [this];rfl
    rw [this];exact .val _
end
theorem uG (read:Syn->PS->Syn×PS)(z:Syn)(st:PS):Np read z st=if ((H4 st).bad != 0) then (z,H4 st) else ((read z (adv (La st))).1,Km (read z (adv (La st))).2):=rfl
theorem cW (read:Syn->PS->Syn×PS)(z:Syn)(st:PS)(bp bo:Nat)(R:List HO)(f:Nat)(hf:Xq Tryz.prog f=true)(first cap:List AV)(hlt:st.pos<st.toks.length)(hS:Uw st)
  (hcl:(H4 st).bad=0->Cf Tryz.prog f (.box bp 223 (cP (adv (La st))) :: .box bo 25 (cSyn z)::R) (first ++ []++cap) (fun r H'=>r = .tuple []/\H' = .box bp 223 (cP (read z (adv (La st))).2) :: .box bo 25 (cSyn (read z (adv (La st))).1)::R)) :
  Cf Tryz.prog 226 (.box bp 223 (cP st) :: .box bo 25 (cSyn z)::R) [.val (.pointer (some ⟨bp,0,none⟩)),.fn (.func f) first cap] (fun r H'=>r = .tuple []/\H' = .box bp 223 (cP (Np read z st).2) :: .box bo 25 (cSyn (Np read z st).1)::R):=by
 refine p_nested st (read z (adv (La st))).2 (Np read z st).2 bp (.box bo 25 (cSyn z)::R) (.box bo 25 (cSyn (Np read z st).1)::R) f hf first cap hlt hS (fun hb=>?_) (fun hb=>?_)
 .
  have e:Np read z st=((read z (adv (La st))).1,Km (read z (adv (La st))).2):=by rw [uG,hb];rfl
  refine Cf.mono' (hcl hb) fun r K hk=>⟨?_,by rw [e]⟩
  rw [hk.2,e]
 have e:Np read z st=(z,H4 st):=by rw [uG,if_pos (by simpa using hb)]
 rw [e];exact ⟨rfl,rfl⟩
theorem jW {D:Int}{st:PS}(hD:0<=D)(h:okD D st)(hb:(H4 st).bad=0):okD (D+1) (adv (La st)):=by
 obtain ⟨h1,h2,h3⟩:=h
 have hd:¬64<=st.depth:=fun hd=>by
  unfold H4 at hb;rw [if_pos (Iu hd)] at hb;exact absurd (Vd (e:=12) (by decide) st) (by simp [hb])
 have e1:(La st).depth=st.depth+1:=bH (by omega) (by omega);exact ⟨h1,show D+1<=(La st).depth by omega,show (La st).depth<=64 by omega⟩
theorem tot_get (k:Nat)(h:k<4):∃s,totL[k]? = some s/\(Lo.drop (k*2)).take 2 = [AV.str s.1,.int .i64 s.2]/\s.1.length<=1048576:=by
 match k,h with
 | 0,_=>exact ⟨_,rfl,rfl,by decide⟩
 | 1,_=>exact ⟨_,rfl,rfl,by decide⟩
 | 2,_=>exact ⟨_,rfl,rfl,by decide⟩
 | 3,_=>exact ⟨_,rfl,rfl,by decide⟩
theorem p_unit_1 (st:PS)(bp:Nat)(z:Syn)(bo:Nat)(R:List HO)(D:Int)(hD:0<=D)(E:PS->Syn×PS)(hFE:Dh E)(hE:∀(st:PS) (bp:Nat),okD (D+1) st->Bk Tryz.prog 164 bp 223 (cP st) (cP (E st).2) [.val (.pointer (some ⟨bp,0,none⟩))] (.agg (cSyn (E st).1)))(hO:okD (D+1) st):Cf Tryz.prog 328 (.box bp 223 (cP st) :: .box bo 25 (cSyn z)::R) [.ptr [.val (.pointer (some ⟨bp,0,none⟩))],.val (.pointer (some ⟨bo,0,none⟩))] (fun r H'=>r = .tuple []/\H' = .box bp 223 (cP (Ce Jo (E st).2)) :: .box bo 25 (cSyn (E st).1)::R):=by
 have hS:=((hFE.okD (by omega) hO).1);refine Jg 6 Tryz.func328 rfl ?_;refine Aa (Qp Lh (wX ((hE st bp hO).at (k:=0) (H2:=_::_::_) rfl rfl) ?_));refine By 1 Ai (_::_::_) (Ax (AW.region (Qp Lh ?_)));refine Rt (Dq rfl ((D0 _ _ _ (by simpa using hS) (by first | assumption | decide)).at (k:=0) (H2:=_::_::_) rfl rfl)) ?_;refine AOL.nil ?_;refine ⟨.inl rfl,[],.nil,_,.refl _,?_⟩;exact ⟨rfl,rfl⟩
theorem iT {α:Type}{p:α->Bool}{l:List α}{k:Nat}(hk:¬k<l.length)(hn:∀j y,j<k->l[j]? = some y->p y=false):l.find? p=none:=
 mT fun j y hj hy=>hn j y (by omega) hy
theorem p_unit (st:PS)(bp:Nat)(D:Int)(hD:0<=D)(E:PS->Syn×PS)(hFE:Dh E)(hE:∀(st:PS) (bp:Nat),okD (D+1) st->Bk Tryz.prog 164 bp 223 (cP st) (cP (E st).2) [.val (.pointer (some ⟨bp,0,none⟩))] (.agg (cSyn (E st).1)))(hO:okD D st):Bk Tryz.prog 322 bp 223 (cP st) (cP ((D3 E st).2)) [.val (.pointer (some ⟨bp,0,none⟩))] (.agg (cSyn (D3 E st).1)):=by
 intro H;have hS:=hO.1;refine Jg 83 Tryz.func322 rfl ?_;refine Aa (Qp (X9 (v:=.val _) (cs:=[_]) rfl rfl rfl) ?_);refine D5 I6 fun b2=>?_
 refine B7 (Qp Lh ?_);refine AOL.Aag (Cu (k:=1) (by kernel_rfl) rfl rfl (Ky _ _)) rfl rfl ?_;refine Qp Aq (Ax (B5 (Qp Lh ?_)));refine AOL.Aag (Cu (k:=1) (by kernel_rfl) rfl rfl (yR _ _ _ (by simpa using hS) (by first | assumption | decide))) rfl rfl ?_;refine Bh (fun hc1=>?_) fun hc1=>?_
 .
  try simp only [A4,Bd] at hc1
  refine Aa ?_;refine D5 I6 fun b4=>?_
  refine B7 (Qp Lh (Qp (B9 (l:=[]) (l':=[.ptr _,.val _]) rfl rfl) ?_));refine Rt (Dq rfl (Cf.front2 (R:=_::_) 0 1 rfl rfl rfl (cW (fun _ s=>((E s).1,Ce Jo (E s).2)) Gz st bp b4 _ 328 (by kernel_rfl) [] [.ptr [.val (.pointer (some ⟨bp,0,none⟩))],.val (.pointer (some ⟨b4,0,none⟩))] (Yf hc1) hS (fun hb=>p_unit_1 _ bp Gz b4 _ D hD E hFE hE (jW hD hO hb))))) ?_;refine B7 (Sb 1 Ai rfl ?_);refine By 2 Ai (_::_::_::_) (Rc ?_);refine ⟨.inr rfl,[.agg Ai],.cons (.box _ _ _ 2 _ _ _ _ rfl rfl rfl rfl rfl rfl) <| .nil,_,.cons_cons _ (.cons _ (.cons _ (.refl _))),?_⟩;refine ⟨?_,congrArg (fun c=>HO.box bp 223 c::H) ?_⟩
  .
   try simp only [Ah,D3,cSyn,Ao,A5,Bf,hc1,↓reduceIte,Ak,Bu,Bm]
   try rfl
  try simp only [cP,D3,hc1,↓reduceIte,Ak,Bu,Bm]
  try rfl
 try simp only [A4,Bd] at hc1
 refine B2 (B5 ?_);refine Qp (U7 (l:=Lo) tok (⟨_,by simp [globals],fun _ h=>h⟩) rfl rfl rfl rfl) ?_;refine Qp Ap (Ax (AW.block ?_));refine AW.Aad (fun (k:Nat)=>(⟨[(1,.ptr [.val (.pointer (some ⟨bp,0,none⟩))]),(2,.val (.pointer (some ⟨b2,0,none⟩))),(3,.int .i64 (Fs st)),(19,.agg Lo),(20,.int .i64 (k:Int))],.box b2 25 (cSyn Gz) :: .box bp 223 (cP st)::H,83⟩:St)) (fun k=>k<=4/\∀j y,j<k->totL[j]? = some y->Ea y.1 st=false) (fun k=>4-k) (0) ?_ C2 ?_
 . exact ⟨A9 _,fun j y hj=>absurd hj (Nat.not_lt_zero _)⟩
 rintro k hR;refine Aa (Qp Cn (Re (Hb (fun hc2=>?_) fun hc2=>?_)))
 .
  try simp only [A4,Bd] at hc2
  have hk:k<4:=by have:=Ey hc2;omega
  refine (tot_get k hk).elim fun x hx3=>?_
  have hx:=hx3.1;have hx2:=hx3.2.1;have hwx:=hx3.2.2;refine B2 (AW.seq (AW.block (Aa ?_)));refine Qp (oD (l:=[.str x.1,.int .i64 x.2]) tok rfl rfl rfl rfl rfl rfl (by omega) (by omega) (by show k*2+2<=8;omega) (hx2)) ?_;refine D5 gkx fun b6=>?_
  refine By 0 Iv (_::_::_::_) ?_;refine Kc 6 0 rfl ?_;refine B7 (Qp Lh (Qp (Qf Iv) (Qp Gr ?_)));refine Rt (Dq rfl ((E2 _ _ _ (by simpa using hS) (by first | assumption | decide)).at (k:=1) (H2:=_::_::_) rfl rfl)) ?_;refine Bh (fun hc3=>?_) fun hc3=>?_
  .
   try simp only [A4,Bd] at hc3
   have hfd:totL.find? (fun s=>Ea s.1 st)=some x:=aC hR.2 hx hc3;refine AW.ghost (GS.Aaf (H2:=_::_::_) 1 rfl (congrArg cP (Fv hc3)) rfl) ?_;refine Aa (Qp (Qf [Iq _]) (Qp B6 (Qp Ap (Qp (Fj Ai) ?_))));refine D5 I6 fun b7=>?_
   refine By 0 Ai (_::_::_::_) (B7 (Qp Lh ?_));refine Rt (Dq rfl (Cf.front2 (R:=_::_) 0 1 rfl rfl rfl (uR (adv st) bp (⟨16,[],[],x.2,[],Fs st⟩) b7 (by simpa using hS) _))) ?_;refine B7 (Qp Lh ?_);refine Rt (Dq rfl ((D0 _ _ _ (by simpa using hS) (by first | assumption | decide)).at (k:=0) (H2:=_::_::_::_) rfl rfl)) ?_;refine B7 (Qp Lh ?_);refine Rt (Dq rfl ((jY _ _ (by simpa using hS)).at (k:=0) (H2:=_::_::_::_) rfl rfl)) ?_;refine Qp (Jh [Ai] rfl) (Qp Cw ?_);refine By 1 Ai (_::_::_::_) (B7 (Qp Lh ?_));refine Rt (Dq rfl ((D0 _ _ _ (by simpa using hS) (by first | assumption | decide)).at (k:=0) (H2:=_::_::_::_) rfl rfl)) ?_;refine B7 (Sb 1 Ai rfl ?_);refine By 2 Ai (_::_::_::_) (Ra (A7 (Dz (A7 ?_))));refine ⟨.inr rfl,[.agg Ai],.cons (.box _ _ _ 2 _ _ _ _ rfl rfl rfl rfl rfl rfl) <| .nil,_,.cons_cons _ (.cons _ (.cons _ (.refl _))),?_⟩;refine ⟨?_,congrArg (fun c=>HO.box bp 223 c::H) ?_⟩
   .
    try simp only [Ah,D3,hfd,cSyn,Ao,A5,Bf,hc1,hc2,hc3,↓reduceIte,Ak,Bu,Bm]
    try rfl
   try simp only [cP,D3,hfd,hc1,hc2,hc3,↓reduceIte,Ak,Bu,Bm]
   try rfl
  try simp only [A4,Bd] at hc3
  refine AW.ghost (GS.Aaf (H2:=_::_::_) 1 rfl (congrArg cP (Ii hc3)) rfl) ?_;refine Rf (AW.region (Qp Gw (Qp Ap (Ax ?_))));refine ⟨k+1,?_,?_,C2⟩
  . exact ⟨hk,fun j y hj hy=>by rcases bK.1 hj with h | rfl;exact hR.2 j y h hy;rw [hx] at hy;cases hy;exact hc3⟩
  omega
 try simp only [A4,Bd] at hc2
 have hkn:¬k<4:=by have:=G3 hc2;omega
 have hfd:totL.find? (fun s=>Ea s.1 st)=none:=iT (k:=k) hkn hR.2;refine AW.exit ?_;refine B1 (Ri (AW.seq (AW.block (Aa (Qp Lh ?_)))));refine Rt (Dq rfl ((E2 _ _ _ (by simpa using hS) (by first | assumption | decide)).at (k:=1) (H2:=_::_::_) rfl rfl)) ?_;refine Qp Bc (Bh (fun hc4=>?_) fun hc4=>?_)
 .
  try simp only [A4,Bd] at hc4
  refine AW.ghost (GS.Aaf (H2:=_::_::_) 1 rfl (congrArg cP (Fv hc4)) rfl) ?_;refine Aa (Qp Ap (Qp (Fj Ai) ?_));refine D5 I6 fun b8=>?_
  refine By 0 Ai (_::_::_::_) (B7 (Qp Lh ?_));refine Rt (Dq rfl (Cf.front2 (R:=_::_) 0 1 rfl rfl rfl (uR (adv st) bp (⟨16,[],[],1,[],Fs st⟩) b8 (by simpa using hS) _))) ?_;refine B7 (Qp Lh ?_);refine Rt (Dq rfl ((D0 _ _ _ (by simpa using hS) (by first | assumption | decide)).at (k:=0) (H2:=_::_::_::_) rfl rfl)) ?_;refine B7 (Sb 1 Ai rfl ?_);refine By 2 Ai (_::_::_::_) (Ra ?_);refine ⟨.inr rfl,[.agg Ai],.cons (.box _ _ _ 2 _ _ _ _ rfl rfl rfl rfl rfl rfl) <| .nil,_,.cons_cons _ (.cons _ (.cons _ (.refl _))),?_⟩;refine ⟨?_,congrArg (fun c=>HO.box bp 223 c::H) ?_⟩
  .
   try simp only [Ah,D3,hfd,cSyn,Ao,A5,Bf,hc1,hc2,hc4,↓reduceIte,Ak,Bu,Bm]
   try rfl
  try simp only [cP,D3,hfd,hc1,hc2,hc4,↓reduceIte,Ak,Bu,Bm]
  try rfl
 try simp only [A4,Bd] at hc4
 refine AW.ghost (GS.Aaf (H2:=_::_::_) 1 rfl (congrArg cP (Ii hc4)) rfl) ?_;refine Aa (Qp Lh ?_);refine Rt (Dq rfl ((E2 _ _ _ (by simpa using hS) (by first | assumption | decide)).at (k:=1) (H2:=_::_::_) rfl rfl)) ?_;refine Qp Bc (Bh (fun hc5=>?_) fun hc5=>?_)
 .
  try simp only [A4,Bd] at hc5
  refine AW.ghost (GS.Aaf (H2:=_::_::_) 1 rfl (congrArg cP (Fv hc5)) rfl) ?_;refine Aa (Qp Lh ?_);refine Rt (Dq rfl ((D0 _ _ _ (by simpa using hS) (by first | assumption | decide)).at (k:=1) (H2:=_::_::_) rfl rfl)) ?_;refine B7 (Qp Lh ?_);refine Rt (Dq rfl ((Pu _ _ (by simpa using hS)).at (k:=1) (H2:=_::_::_) rfl rfl)) ?_;refine Qp Ap (Qp (Fj Ai) ?_);refine D5 I6 fun b9=>?_
  refine By 0 Ai (_::_::_::_) ?_;refine Kc 9 0 rfl ?_;refine B7 (Qp Lh ?_);refine Rt (Dq rfl ((D0 _ _ _ (by simpa using hS) (by first | assumption | decide)).at (k:=1) (H2:=_::_::_) rfl rfl)) ?_;refine B7 (Qp (Cm Ai) ?_);refine By 0 Ai (_::_::_) (Ra ?_);refine ⟨.inr rfl,[.agg Ai],Zb 0,_,S1,?_⟩;refine ⟨?_,congrArg (fun c=>HO.box bp 223 c::H) ?_⟩
  .
   try simp only [Ah,D3,hfd,cSyn,Ao,A5,Bf,hc1,hc2,hc4,hc5,↓reduceIte,Ak,Bu,Bm]
   try rfl
  try simp only [cP,D3,hfd,hc1,hc2,hc4,hc5,↓reduceIte,Ak,Bu,Bm]
  try rfl
 try simp only [A4,Bd] at hc5
 refine AW.ghost (GS.Aaf (H2:=_::_::_) 1 rfl (congrArg cP (Ii hc5)) rfl) ?_;refine Aa (Qp Lh ?_);refine AOL.Aag (Cu (k:=1) (by kernel_rfl) rfl rfl (yS _ _ _ (by simpa using hS))) rfl rfl ?_;refine Qp Bc (Bh (fun hc6=>?_) fun hc6=>?_)
 .
  try simp only [A4,Bd] at hc6
  refine Aa (Qp Lh ?_);refine Rt (Dq rfl ((Pu _ _ (by simpa using hS)).at (k:=1) (H2:=_::_::_) rfl rfl)) ?_;refine Qp Ap (Qp (Fj Ai) ?_);refine D5 I6 fun b10=>?_
  refine By 0 Ai (_::_::_::_) (B7 (Qp Lh ?_));refine Rt (Dq rfl ((D0 _ _ _ (by simpa using hS) (by first | assumption | decide)).at (k:=2) (H2:=_::_::_::_) rfl rfl)) ?_;refine Ax (B5 (Qp Lh ?_));refine Rt (Dq rfl ((E2 _ _ _ (by simpa using hS) (by first | assumption | decide)).at (k:=2) (H2:=_::_::_::_) rfl rfl)) ?_;refine Bh (fun hc7=>?_) fun hc7=>?_
  .
   try simp only [A4,Bd] at hc7
   refine AW.ghost (GS.Aaf (H2:=_::_::_::_) 2 rfl (congrArg cP (Fv hc7)) rfl) ?_;refine AW.region (Qp Cw ?_);refine By 0 Ai (_::_::_::_) (B7 (Sb 0 Ai rfl ?_));refine By 1 Ai (_::_::_::_) (Ra ?_);refine ⟨.inr rfl,[.agg Ai],Zb 1,_,S2,?_⟩;refine ⟨?_,congrArg (fun c=>HO.box bp 223 c::H) ?_⟩
   .
    try simp only [Ah,D3,hfd,cSyn,Ao,A5,Bf,hc1,hc2,hc4,hc5,hc6,hc7,↓reduceIte,Ak,Bu,Bm]
    try rfl
   try simp only [cP,D3,hfd,hc1,hc2,hc4,hc5,hc6,hc7,↓reduceIte,Ak,Bu,Bm]
   try rfl
  try simp only [A4,Bd] at hc7
  refine AW.ghost (GS.Aaf (H2:=_::_::_::_) 2 rfl (congrArg cP (Ii hc7)) rfl) ?_;refine AW.region (Qp Lh ?_);refine Rt (Dq rfl ((Pu _ _ (by simpa using hS)).at (k:=2) (H2:=_::_::_::_) rfl rfl)) ?_;refine Qp Cw ?_;refine By 0 Ai (_::_::_::_) (B7 (Sb 0 Ai rfl ?_));refine By 1 Ai (_::_::_::_) (Ra ?_);refine ⟨.inr rfl,[.agg Ai],Zb 1,_,S2,?_⟩;refine ⟨?_,congrArg (fun c=>HO.box bp 223 c::H) ?_⟩
  .
   try simp only [Ah,D3,hfd,cSyn,Ao,A5,Bf,hc1,hc2,hc4,hc5,hc6,hc7,↓reduceIte,Ak,Bu,Bm]
   try rfl
  try simp only [cP,D3,hfd,hc1,hc2,hc4,hc5,hc6,hc7,↓reduceIte,Ak,Bu,Bm]
  try rfl
 try simp only [A4,Bd] at hc6
 refine Rf (Aa (Qp Lh ?_));refine Rt (Dq rfl ((jY _ _ (by simpa using hS)).at (k:=1) (H2:=_::_::_) rfl rfl)) ?_;refine By 0 Ai (_::_::_) (Rb ?_);refine ⟨.inr rfl,[.agg Ai],Zb 0,_,S1,?_⟩;refine ⟨?_,congrArg (fun c=>HO.box bp 223 c::H) ?_⟩
 .
  try simp only [Ah,D3,hfd,cSyn,Ao,A5,Bf,hc1,hc2,hc4,hc5,hc6,↓reduceIte,Ak,Bu,Bm]
  try rfl
 try simp only [cP,D3,hfd,hc1,hc2,hc4,hc5,hc6,↓reduceIte,Ak,Bu,Bm]
 try rfl
theorem kB (st:PS)(bp:Nat)(D:Int)(hD:0<=D)(E:PS->Syn×PS)(hFE:Dh E)(hE:∀(st:PS) (bp:Nat),okD (D+1) st->Bk Tryz.prog 164 bp 223 (cP st) (cP (E st).2) [.val (.pointer (some ⟨bp,0,none⟩))] (.agg (cSyn (E st).1)))(hO:okD D st):Bk Tryz.prog 316 bp 223 (cP st) (cP ((Kn E st).2)) [.val (.pointer (some ⟨bp,0,none⟩))] (.agg (cSyn (Kn E st).1)):=by
 intro H;refine Jg 8 Tryz.func316 rfl ?_;refine Aa ?_;refine D5 I6 fun b2=>?_
 refine B7 (Qp Bx (Qp Bx (Qp (B9 (l:=[.val _]) (l':=[]) rfl rfl) ?_)));refine Qp (Tr (es:=zQ.map cSg) tok (⟨fun cs=>cs=Tk,by simp [globals],fun _ h=>h⟩) rfl rfl rfl rfl rfl rfl rfl rfl rfl) ?_;refine Rt (Dq rfl ((qB st bp D hD 322 (by kernel_rfl) [.val (.pointer (some ⟨bp,0,none⟩))] [] (D3 E) (mU hFE) (fun s ho=>p_unit s bp D hD E hFE hE ho) hO zQ (by decide) (by decide)).at (k:=1) (H2:=_::_::_) rfl rfl)) ?_;refine By 0 Ai (_::_::_) (Rb ?_);refine ⟨.inr rfl,[.agg Ai],Zb 0,_,S1,?_⟩;refine ⟨rfl,rfl⟩
theorem p_compare (st:PS)(bp:Nat)(D:Int)(hD:0<=D)(E:PS->Syn×PS)(hFE:Dh E)(hE:∀(st:PS) (bp:Nat),okD (D+1) st->Bk Tryz.prog 164 bp 223 (cP st) (cP (E st).2) [.val (.pointer (some ⟨bp,0,none⟩))] (.agg (cSyn (E st).1)))(hO:okD D st):Bk Tryz.prog 306 bp 223 (cP st) (cP ((Ms E st).2)) [.val (.pointer (some ⟨bp,0,none⟩))] (.agg (cSyn (Ms E st).1)):=by
 intro H;have hO2:=(iV hFE).okD hD hO;have hS:=hO2.1;refine Jg 65 Tryz.func306 rfl ?_;refine Aa ?_;refine D5 I6 fun b2=>?_
 refine B7 (Qp Bx (wX ((kB st bp D hD E hFE hE hO).at (k:=1) (H2:=_::_::_) rfl rfl) ?_));refine D5 I6 fun b3=>?_
 refine By 0 Ai (_::_::_::_) ?_;refine Kc 3 0 rfl ?_;refine Re (AW.block (Aa (Qp Bx ?_)));refine Rt (Dq rfl ((E2 _ _ _ (by simpa using hS) (by decide)).at (k:=1) (H2:=_::_::_) rfl rfl)) ?_;refine Qp Bc (Bh (fun hc1=>?_) fun hc1=>?_)
 .
  try simp only [A4,Bd] at hc1
  refine AW.ghost (GS.Aaf (H2:=_::_::_) 1 rfl (congrArg cP (Fv hc1)) rfl) ?_;refine AW.seq ?_;refine Mo ?_;refine Qn 0 rfl (Cm Ai) (Qn 1 rfl Bx (Qn 3 rfl (Qf [Iq _]) (Qn 4 rfl B6 ?_)));refine Oj 2 rfl (Dq rfl ((kB (adv (Kn E st).2) bp D hD E hFE hE (by simpa using hO2)).at (k:=1) (H2:=_::_::_) rfl rfl)) ?_;refine Qn 5 rfl (Qc rfl (M1 _ _ _ _)) ?_;refine Oj 6 rfl (Kt 0 (.agg _) Ai (_::_::_) rfl) ?_;refine Ig ?_;refine Av (AW.ret (Dz (A7 ?_)));refine ⟨.inr rfl,[.agg Ai],Zb 0,_,S1,?_⟩;refine ⟨?_,congrArg (fun c=>HO.box bp 223 c::H) ?_⟩
  .
   try simp only [Ah,Ms,cSyn,Ao,A5,Bf,hc1,↓reduceIte,Ak,Bu,Bm]
   try rfl
  try simp only [cP,Ms,hc1,↓reduceIte,Ak,Bu,Bm]
  try rfl
 try simp only [A4,Bd] at hc1
 refine AW.ghost (GS.Aaf (H2:=_::_::_) 1 rfl (congrArg cP (Ii hc1)) rfl) ?_;refine Aa (Qp Bx ?_);refine Rt (Dq rfl ((E2 _ _ _ (by simpa using hS) (by decide)).at (k:=1) (H2:=_::_::_) rfl rfl)) ?_;refine Qp Bc (Bh (fun hc2=>?_) fun hc2=>?_)
 .
  try simp only [A4,Bd] at hc2
  refine AW.ghost (GS.Aaf (H2:=_::_::_) 1 rfl (congrArg cP (Fv hc2)) rfl) ?_;refine AW.seq ?_;refine Mo ?_;refine Qn 0 rfl (Cm Ai) (Qn 1 rfl Bx (Qn 3 rfl (Qf [Iq _]) (Qn 4 rfl B6 ?_)));refine Oj 2 rfl (Dq rfl ((kB (adv (Kn E st).2) bp D hD E hFE hE (by simpa using hO2)).at (k:=1) (H2:=_::_::_) rfl rfl)) ?_;refine Qn 5 rfl (Qc rfl (M1 _ _ _ _)) ?_;refine Oj 6 rfl (Kt 0 (.agg _) Ai (_::_::_) rfl) ?_;refine Ig ?_;refine Av (AW.ret (Dz (A7 ?_)));refine ⟨.inr rfl,[.agg Ai],Zb 0,_,S1,?_⟩;refine ⟨?_,congrArg (fun c=>HO.box bp 223 c::H) ?_⟩
  .
   try simp only [Ah,Ms,cSyn,Ao,A5,Bf,hc1,hc2,↓reduceIte,Ak,Bu,Bm]
   try rfl
  try simp only [cP,Ms,hc1,hc2,↓reduceIte,Ak,Bu,Bm]
  try rfl
 try simp only [A4,Bd] at hc2
 refine AW.ghost (GS.Aaf (H2:=_::_::_) 1 rfl (congrArg cP (Ii hc2)) rfl) ?_;refine Aa (Qp Bx ?_);refine Rt (Dq rfl ((E2 _ _ _ (by simpa using hS) (by decide)).at (k:=1) (H2:=_::_::_) rfl rfl)) ?_;refine Qp Bc (Bh (fun hc3=>?_) fun hc3=>?_)
 .
  try simp only [A4,Bd] at hc3
  refine AW.ghost (GS.Aaf (H2:=_::_::_) 1 rfl (congrArg cP (Fv hc3)) rfl) ?_;refine AW.seq ?_;refine Mo ?_;refine Qn 0 rfl Bx (Qn 2 rfl (Cm Ai) (Qn 3 rfl (Qf [Iq _]) (Qn 4 rfl B6 ?_)));refine Oj 1 rfl (Dq rfl ((kB (adv (Kn E st).2) bp D hD E hFE hE (by simpa using hO2)).at (k:=1) (H2:=_::_::_) rfl rfl)) ?_;refine Qn 5 rfl (Qc rfl (M1 _ _ _ _)) ?_;refine Oj 6 rfl (Kt 0 (.agg _) Ai (_::_::_) rfl) ?_;refine Ig ?_;refine Av (AW.ret (Dz (A7 ?_)));refine ⟨.inr rfl,[.agg Ai],Zb 0,_,S1,?_⟩;refine ⟨?_,congrArg (fun c=>HO.box bp 223 c::H) ?_⟩
  .
   try simp only [Ah,Ms,cSyn,Ao,A5,Bf,hc1,hc2,hc3,↓reduceIte,Ak,Bu,Bm]
   try rfl
  try simp only [cP,Ms,hc1,hc2,hc3,↓reduceIte,Ak,Bu,Bm]
  try rfl
 try simp only [A4,Bd] at hc3
 refine AW.ghost (GS.Aaf (H2:=_::_::_) 1 rfl (congrArg cP (Ii hc3)) rfl) ?_;refine Aa (Qp Bx ?_);refine Rt (Dq rfl ((E2 _ _ _ (by simpa using hS) (by decide)).at (k:=1) (H2:=_::_::_) rfl rfl)) ?_;refine Qp Bc (Bh (fun hc4=>?_) fun hc4=>?_)
 .
  try simp only [A4,Bd] at hc4
  refine AW.ghost (GS.Aaf (H2:=_::_::_) 1 rfl (congrArg cP (Fv hc4)) rfl) ?_;refine AW.seq ?_;refine Mo ?_;refine Qn 0 rfl Bx (Qn 2 rfl (Cm Ai) (Qn 3 rfl (Qf [Iq _]) (Qn 4 rfl B6 ?_)));refine Oj 1 rfl (Dq rfl ((kB (adv (Kn E st).2) bp D hD E hFE hE (by simpa using hO2)).at (k:=1) (H2:=_::_::_) rfl rfl)) ?_;refine Qn 5 rfl (Qc rfl (M1 _ _ _ _)) ?_;refine Oj 6 rfl (Kt 0 (.agg _) Ai (_::_::_) rfl) ?_;refine Ig ?_;refine Av (AW.ret (Dz (A7 ?_)));refine ⟨.inr rfl,[.agg Ai],Zb 0,_,S1,?_⟩;refine ⟨?_,congrArg (fun c=>HO.box bp 223 c::H) ?_⟩
  .
   try simp only [Ah,Ms,cSyn,Ao,A5,Bf,hc1,hc2,hc3,hc4,↓reduceIte,Ak,Bu,Bm]
   try rfl
  try simp only [cP,Ms,hc1,hc2,hc3,hc4,↓reduceIte,Ak,Bu,Bm]
  try rfl
 try simp only [A4,Bd] at hc4
 refine AW.ghost (GS.Aaf (H2:=_::_::_) 1 rfl (congrArg cP (Ii hc4)) rfl) ?_;refine Aa (Qp Bx ?_);refine Rt (Dq rfl ((E2 _ _ _ (by simpa using hS) (by decide)).at (k:=1) (H2:=_::_::_) rfl rfl)) ?_;refine Qp Bc (Bh (fun hc5=>?_) fun hc5=>?_)
 .
  try simp only [A4,Bd] at hc5
  refine AW.ghost (GS.Aaf (H2:=_::_::_) 1 rfl (congrArg cP (Fv hc5)) rfl) ?_;refine AW.seq ?_;refine Mo ?_;refine Qn 0 rfl (Cm Ai) (Qn 1 rfl Bx (Qn 3 rfl (Qf [Iq _]) (Qn 4 rfl B6 ?_)));refine Oj 2 rfl (Dq rfl ((kB (adv (Kn E st).2) bp D hD E hFE hE (by simpa using hO2)).at (k:=1) (H2:=_::_::_) rfl rfl)) ?_;refine Qn 5 rfl (Qc rfl (M1 _ _ _ _)) ?_;refine Oj 6 rfl (Kt 0 (.agg _) Ai (_::_::_) rfl) ?_;refine Ig ?_;refine Av (AW.ret (Dz (A7 ?_)));refine ⟨.inr rfl,[.agg Ai],Zb 0,_,S1,?_⟩;refine ⟨?_,congrArg (fun c=>HO.box bp 223 c::H) ?_⟩
  .
   try simp only [Ah,Ms,cSyn,Ao,A5,Bf,hc1,hc2,hc3,hc4,hc5,↓reduceIte,Ak,Bu,Bm]
   try rfl
  try simp only [cP,Ms,hc1,hc2,hc3,hc4,hc5,↓reduceIte,Ak,Bu,Bm]
  try rfl
 try simp only [A4,Bd] at hc5
 refine AW.ghost (GS.Aaf (H2:=_::_::_) 1 rfl (congrArg cP (Ii hc5)) rfl) ?_;refine Aa (Qp Bx ?_);refine Rt (Dq rfl ((E2 _ _ _ (by simpa using hS) (by decide)).at (k:=1) (H2:=_::_::_) rfl rfl)) ?_;refine Qp Bc (Bh (fun hc6=>?_) fun hc6=>?_)
 .
  try simp only [A4,Bd] at hc6
  refine AW.ghost (GS.Aaf (H2:=_::_::_) 1 rfl (congrArg cP (Fv hc6)) rfl) ?_;refine AW.seq ?_;refine Mo ?_;refine Qn 0 rfl (Cm Ai) (Qn 1 rfl Bx (Qn 3 rfl (Qf [Iq _]) (Qn 4 rfl B6 (Qn 7 rfl (Qf [Iq _]) (Qn 8 rfl B6 ?_)))));refine Oj 2 rfl (Dq rfl ((kB (adv (Kn E st).2) bp D hD E hFE hE (by simpa using hO2)).at (k:=1) (H2:=_::_::_) rfl rfl)) ?_;refine Qn 5 rfl (Qc rfl (M1 _ _ _ _)) (Qn 6 rfl (Jh [Ai] rfl) (Qn 9 rfl (Fj Ai) ?_));refine Oj 10 rfl (Kt 0 (.agg _) Ai (_::_::_) rfl) ?_;refine Ig ?_;refine Av (AW.ret (Dz (A7 ?_)));refine ⟨.inr rfl,[.agg Ai],Zb 0,_,S1,?_⟩;refine ⟨?_,congrArg (fun c=>HO.box bp 223 c::H) ?_⟩
  .
   try simp only [Ah,Ms,cSyn,Ao,A5,Bf,hc1,hc2,hc3,hc4,hc5,hc6,↓reduceIte,Ak,Bu,Bm]
   try rfl
  try simp only [cP,Ms,hc1,hc2,hc3,hc4,hc5,hc6,↓reduceIte,Ak,Bu,Bm]
  try rfl
 try simp only [A4,Bd] at hc6
 refine AW.ghost (GS.Aaf (H2:=_::_::_) 1 rfl (congrArg cP (Ii hc6)) rfl) ?_;refine Rf (Aa (Qp (Cm Ai) ?_));refine By 0 Ai (_::_::_) (Rb ?_);refine ⟨.inr rfl,[.agg Ai],Zb 0,_,S1,?_⟩;refine ⟨?_,congrArg (fun c=>HO.box bp 223 c::H) ?_⟩
 .
  try simp only [Ah,Ms,cSyn,Ao,A5,Bf,hc1,hc2,hc3,hc4,hc5,hc6,↓reduceIte,Ak,Bu,Bm]
  try rfl
 try simp only [cP,Ms,hc1,hc2,hc3,hc4,hc5,hc6,↓reduceIte,Ak,Bu,Bm]
 try rfl
theorem p_not_1 (st:PS)(bp:Nat)(z:Syn)(bo:Nat)(R:List HO)(D:Int)(hD:0<=D)(E:PS->Syn×PS)(hFE:Dh E)(hE:∀(st:PS) (bp:Nat),okD (D+1) st->Bk Tryz.prog 164 bp 223 (cP st) (cP (E st).2) [.val (.pointer (some ⟨bp,0,none⟩))] (.agg (cSyn (E st).1)))(N:PS->Syn×PS)(hFN:Dh N)(hN:∀(st:PS) (bp:Nat),okD (D+1) st->Bk Tryz.prog 288 bp 223 (cP st) (cP (N st).2) [.val (.pointer (some ⟨bp,0,none⟩))] (.agg (cSyn (N st).1)))(hO:okD (D+1) st):Cf Tryz.prog 307 (.box bp 223 (cP st) :: .box bo 25 (cSyn z)::R) [.ptr [.val (.pointer (some ⟨bp,0,none⟩))],.val (.pointer (some ⟨bo,0,none⟩))] (fun r H'=>r = .tuple []/\H' = .box bp 223 (cP (N st).2) :: .box bo 25 (cSyn { z with kids:=[(N st).1] })::R):=by
 refine Jg 6 Tryz.func307 rfl ?_;refine AW.region (Qp Lh (wX ((hN st bp hO).at (k:=0) (H2:=_::_::_) rfl rfl) (Qp (Jh [Ai] rfl) (Qp Cw ?_))));refine By 1 Ai (_::_::_) (AOL.nil ?_);refine ⟨.inl rfl,[],.nil,_,.refl _,?_⟩;exact ⟨rfl,congrArg (fun l=>HO.box bp 223 (cP (N st).2)::HO.box bo 25 [.int .i64 z.kind,.str z.text,.str z.name,.int .i64 z.num,.sl 6 l,.int .i64 z.pos]::R) (by rw [Ao,A5,Bf])⟩
theorem p_not (st:PS)(bp:Nat)(D:Int)(hD:0<=D)(E:PS->Syn×PS)(hFE:Dh E)(hE:∀(st:PS) (bp:Nat),okD (D+1) st->Bk Tryz.prog 164 bp 223 (cP st) (cP (E st).2) [.val (.pointer (some ⟨bp,0,none⟩))] (.agg (cSyn (E st).1)))(N:PS->Syn×PS)(hFN:Dh N)(hN:∀(st:PS) (bp:Nat),okD (D+1) st->Bk Tryz.prog 288 bp 223 (cP st) (cP (N st).2) [.val (.pointer (some ⟨bp,0,none⟩))] (.agg (cSyn (N st).1)))(hO:okD D st):Bk Tryz.prog 288 bp 223 (cP st) (cP ((N3 E N st).2)) [.val (.pointer (some ⟨bp,0,none⟩))] (.agg (cSyn (N3 E N st).1)):=by
 intro H;have hS:=hO.1;refine Jg 16 Tryz.func288 rfl ?_;refine Aa (Qp (X9 (v:=.val _) (cs:=[_]) rfl rfl rfl) ?_);refine D5 I6 fun b2=>?_
 refine Ax (B5 (Qp Lh ?_));refine AOL.Aag (Cu (k:=1) (by kernel_rfl) rfl rfl (yR _ _ _ (by simpa using hS) (by decide))) rfl rfl ?_;refine Qp Ix (Bh (fun hc1=>?_) fun hc1=>?_)
 .
  try simp only [A4,Bd] at hc1
  refine Aa (Qp Lh (wX ((p_compare st bp D hD E hFE hE hO).at (k:=1) (H2:=_::_::_) rfl rfl) ?_));refine By 0 Ai (_::_::_) (Rc ?_);refine ⟨.inr rfl,[.agg Ai],Zb 0,_,S1,?_⟩;refine ⟨?_,congrArg (fun c=>HO.box bp 223 c::H) ?_⟩
  .
   try simp only [Ah,N3,cSyn,Ao,A5,Bf,hc1,↓reduceIte,Ak,Bu,Bm]
   try rfl
  try simp only [cP,N3,hc1,↓reduceIte,Ak,Bu,Bm]
  try rfl
 try simp only [A4,Bd] at hc1
 refine B2 (Aa (Qp Lh ?_));refine AOL.Aag (Cu (k:=1) (by kernel_rfl) rfl rfl (Ky _ _)) rfl rfl ?_;refine Qp (Fj Ai) ?_;refine D5 I6 fun b3=>?_
 refine By 0 Ai (_::_::_::_) (B7 (Qp Lh (Qp (B9 (l:=[]) (l':=[.ptr _,.val _]) rfl rfl) ?_)));refine Rt (Dq rfl (Cf.front2 (R:=_::_) 0 1 rfl rfl rfl (cW (fun z s=>({ z with kids:=[(N s).1] },(N s).2)) ⟨18,[],[],0,[],Fs st⟩ st bp b3 _ 307 (by kernel_rfl) [] [.ptr [.val (.pointer (some ⟨bp,0,none⟩))],.val (.pointer (some ⟨b3,0,none⟩))] (Yf hc1) hS (fun hb=>p_not_1 _ bp ⟨18,[],[],0,[],Fs st⟩ b3 _ D hD E hFE hE N hFN hN (jW hD hO hb))))) ?_;refine B7 (Sb 1 Ai rfl ?_);refine By 2 Ai (_::_::_::_) (Rb ?_);refine ⟨.inr rfl,[.agg Ai],.cons (.box _ _ _ 2 _ _ _ _ rfl rfl rfl rfl rfl rfl) <| .nil,_,.cons_cons _ (.cons _ (.cons _ (.refl _))),?_⟩;refine ⟨?_,congrArg (fun c=>HO.box bp 223 c::H) ?_⟩
 .
  try simp only [Ah,N3,cSyn,Ao,A5,Bf,hc1,↓reduceIte,Ak,Bu,Bm]
  try rfl
 try simp only [cP,N3,hc1,↓reduceIte,Ak,Bu,Bm]
 try rfl
theorem p_and (st:PS)(bp:Nat)(D:Int)(hD:0<=D)(E:PS->Syn×PS)(hFE:Dh E)(hE:∀(st:PS) (bp:Nat),okD (D+1) st->Bk Tryz.prog 164 bp 223 (cP st) (cP (E st).2) [.val (.pointer (some ⟨bp,0,none⟩))] (.agg (cSyn (E st).1)))(N:PS->Syn×PS)(hFN:Dh N)(hN:∀(st:PS) (bp:Nat),okD (D+1) st->Bk Tryz.prog 288 bp 223 (cP st) (cP (N st).2) [.val (.pointer (some ⟨bp,0,none⟩))] (.agg (cSyn (N st).1)))(hO:okD D st):Bk Tryz.prog 230 bp 223 (cP st) (cP ((fO E N st).2)) [.val (.pointer (some ⟨bp,0,none⟩))] (.agg (cSyn (fO E N st).1)):=by
 intro H;refine Jg 8 Tryz.func230 rfl ?_;refine Aa ?_;refine D5 I6 fun b2=>?_
 refine B7 (Qp Bx (Qp Bx (Qp (B9 (l:=[.val _]) (l':=[]) rfl rfl) ?_)));refine Qp (Tr (es:=rX.map cSg) tok (⟨fun cs=>cs=Sx,by simp [globals],fun _ h=>h⟩) rfl rfl rfl rfl rfl rfl rfl rfl rfl) ?_;refine Rt (Dq rfl ((qB st bp D hD 288 (by kernel_rfl) [.val (.pointer (some ⟨bp,0,none⟩))] [] (N3 E N) (Vf hFE hFN) (fun s ho=>p_not s bp D hD E hFE hE N hFN hN ho) hO rX (by decide) (by decide)).at (k:=1) (H2:=_::_::_) rfl rfl)) ?_;refine By 0 Ai (_::_::_) (Rb ?_);refine ⟨.inr rfl,[.agg Ai],Zb 0,_,S1,?_⟩;refine ⟨rfl,rfl⟩
theorem p_expr (st:PS)(bp:Nat)(D:Int)(hD:0<=D)(E:PS->Syn×PS)(hFE:Dh E)(hE:∀(st:PS) (bp:Nat),okD (D+1) st->Bk Tryz.prog 164 bp 223 (cP st) (cP (E st).2) [.val (.pointer (some ⟨bp,0,none⟩))] (.agg (cSyn (E st).1)))(N:PS->Syn×PS)(hFN:Dh N)(hN:∀(st:PS) (bp:Nat),okD (D+1) st->Bk Tryz.prog 288 bp 223 (cP st) (cP (N st).2) [.val (.pointer (some ⟨bp,0,none⟩))] (.agg (cSyn (N st).1)))(hO:okD D st):Bk Tryz.prog 164 bp 223 (cP st) (cP ((orP E N st).2)) [.val (.pointer (some ⟨bp,0,none⟩))] (.agg (cSyn (orP E N st).1)):=by
 intro H;refine Jg 8 Tryz.func164 rfl ?_;refine Aa ?_;refine D5 I6 fun b2=>?_
 refine B7 (Qp Bx (Qp Bx (Qp (B9 (l:=[.val _]) (l':=[]) rfl rfl) ?_)));refine Qp (Tr (es:=orL.map cSg) tok (⟨fun cs=>cs=Vs,by simp [globals],fun _ h=>h⟩) rfl rfl rfl rfl rfl rfl rfl rfl rfl) ?_;refine Rt (Dq rfl ((qB st bp D hD 230 (by kernel_rfl) [.val (.pointer (some ⟨bp,0,none⟩))] [] (fO E N) (T1 (Vf hFE hFN) rX) (fun s ho=>p_and s bp D hD E hFE hE N hFN hN ho) hO orL (by decide) (by decide)).at (k:=1) (H2:=_::_::_) rfl rfl)) ?_;refine By 0 Ai (_::_::_) (Rb ?_);refine ⟨.inr rfl,[.agg Ai],Zb 0,_,S1,?_⟩;refine ⟨rfl,rfl⟩
theorem Vr {st:PS}(h:okD (64+1) st):False:=by have:=h.2.1;have:=h.2.2;omega
theorem neg_all:∀(n:Nat),n<=64->(∀(st:PS) (bp:Nat),okD (64-(n:Int)) st->Bk Tryz.prog 288 bp 223 (cP st) (cP ((My n).1 st).2) [.val (.pointer (some ⟨bp,0,none⟩))] (.agg (cSyn ((My n).1 st).1)))/\(∀(st:PS) (bp:Nat),okD (64-(n:Int)) st->Bk Tryz.prog 164 bp 223 (cP st) (cP ((My n).2 st).2) [.val (.pointer (some ⟨bp,0,none⟩))] (.agg (cSyn ((My n).2 st).1)))
  | 0,_=>⟨fun st bp hO=>p_not st bp 64 (by decide) Gd Jj (fun _ _ h=>(Vr h).elim) Gd Jj (fun _ _ h=>(Vr h).elim) hO,fun st bp hO=>p_expr st bp 64 (by decide) Gd Jj (fun _ _ h=>(Vr h).elim) Gd Jj (fun _ _ h=>(Vr h).elim) hO⟩
  | n+1,hn=>by
    have ih:=neg_all n (by omega);have e:∀st,okD (64-((n+1:Nat):Int)+1) st->okD (64-(n:Int)) st:=fun st h=>⟨h.1,by have:=h.2.1;omega,h.2.2⟩
    have hD:0<=64-((n+1:Nat):Int):=by omega
    exact ⟨fun st bp hO=>p_not st bp _ hD (My n).2 (L5 n).2 (fun s b h=>ih.2 s b (e s h)) (My n).1 (L5 n).1 (fun s b h=>ih.1 s b (e s h)) hO,fun st bp hO=>p_expr st bp _ hD (My n).2 (L5 n).2 (fun s b h=>ih.2 s b (e s h)) (My n).1 (L5 n).1 (fun s b h=>ih.1 s b (e s h)) hO⟩
end Go.Proofs.YtckhoadldibflaaGreatDoor
