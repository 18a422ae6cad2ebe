/-
  Several texts in one: P1, P2, P3, P5. No condition.
-/
import Derived.Test.YtckhoadldibflaaGreatDoorK07
import Derived.KernelRfl
set_option linter.unusedVariables false
set_option linter.unusedSimpArgs false
namespace Go.Proofs.YtckhoadldibflaaGreatDoor
open Go Go.Aw

theorem oD {p:UInt8→Bool}(h:(List.range 256).all (fun n=>p (UInt8.ofNat n))=true)(c:UInt8):p c=true:=by
 rw [List.all_eq_true] at h
 have:=h c.toNat (List.mem_range.2 c.toNat_lt)
 rwa [UInt8.ofNat_toNat] at this
def LRel (i:Nat)(f:Fo)(r:Aq×Int×Int):Prop:=
 if f.err=0 then f.tok.kind=2∧0<f.bytes∧r=(f.tok.text,(i:Int)+f.bytes,0) else r.2=((i:Int)+f.pos,f.err)
theorem vZ {s:Aq}{k n i:Nat}{b:Aq}:Rf s k (n+1) i b =
 if decide ((s.length:Int)≤(i:Int)) then (([],(s.length:Int),4):Aq×Int×Int)
 else if (((bt s i).toNat:Int)==34) then if decide (64<(b.length:Int)) then ([],(k:Int),13) else (b,(i:Int)+1,0)
 else if X4 (bt s i) then Rf s k n (i+1) (b ++ [bt s i])
 else if (((bt s i).toNat:Int) != 92)||((fT s i).2==0) then ([],(i:Int),4)
 else Rf s k n (fT s i).2.toNat (b ++ [(fT s i).1]):=rfl
theorem Aaf {s:Aq}{n i:Nat}{b:Aq}:Gw s (n+1) i b =
 if decide ((i:Int)<(s.length:Int)) then
  if (((bt s i).toNat:Int)==34) then
   if decide (64<(b.length:Int)) then Lv 0 13 else fA 2 b ((i:Int)+1)
  else if (((bt s i).toNat:Int)==92) then
   if ((Io (s.drop i)).2==0) then Lv i 4 else Gw s n (i+(Io (s.drop i)).2.toNat) (b ++ [(Io (s.drop i)).1])
  else if (decide (((bt s i).toNat:Int)<32)||decide (126<((bt s i).toNat:Int))) then Lv i 4
  else Gw s n (i+1) (b ++ [bt s i])
 else Lv s.length 4:=rfl

def okSign:Aq→Bool
 | [_]=>true
 | [_,b]=>b==61
 | _=>false
def rT (c:UInt8)(two:Bool):Aq→Bool
 | [a]=>a==c
 | [a,_]=>a==c&&two
 | _=>false
def signV (c:UInt8)(two:Bool):Option Aq:=Zp.find? (rT c two)
def signN (c:UInt8)(two:Bool):Int:=if wD c&&two then 2 else if wG c then 1 else 0
def TRel (i:Nat)(f:Fo)(r:Tok×Int×Int):Prop:=
 (f.err=0∧0<f.bytes∧r=(⟨f.tok.kind,f.tok.text,i⟩,(i:Int)+f.bytes,0))∨(f.err≠0∧r.2=((i:Int)+f.pos,f.err))

theorem vG {s:Aq}{n i:Nat}{out:List Tok}:He s (n+1) i out =
 if decide ((i:Int)<(s.length:Int)) then
  if decide (0<N9 (s.drop i)) then He s n (i+(N9 (s.drop i)).toNat) out
  else if ((Cw (s.drop i)).err != 0) then (([],(i:Int)+(Cw (s.drop i)).pos,(Cw (s.drop i)).err):List Tok×Int×Int)
  else He s n (i+(Cw (s.drop i)).bytes.toNat) (out ++ [⟨(Cw (s.drop i)).tok.kind,(Cw (s.drop i)).tok.text,i⟩])
 else (out,0,0):=rfl
theorem qV {s:Aq}{n i:Nat}{c:Bool}{out:List Tok}:Nc s (n+1) i c out =
 if decide ((i:Int)<(s.length:Int)) then
  if ((c||pL (bt s i))||(((bt s i).toNat:Int)==35)) then Nc s n (i+1) ((c||(((bt s i).toNat:Int)==35))&&(((bt s i).toNat:Int) != 10)) out
  else if ((Kf s i).2.2 != 0) then (([],(Kf s i).2.1,(Kf s i).2.2):List Tok×Int×Int)
  else Nc s n (Kf s i).2.1.toNat false (out ++ [(Kf s i).1])
 else (out,0,0):=rfl

theorem Ps (s sub:Aq):Lib.contains s sub=true↔∃j,j≤s.length∧Lib.occAt s sub j=true:=by
 unfold Lib.contains
 rw [decide_eq_true_eq]
 rcases Lib.index_spec s sub with ⟨h1,h2⟩ | ⟨i,h1,h2,h3,_⟩
 ·
  rw [h1]
  constructor
  · intro h;omega
  · rintro ⟨j,hj,ho⟩;rw [h2 j hj] at ho;cases ho
 ·
  rw [h1]
  exact ⟨fun _=>⟨i,h2,h3⟩,fun _=>by omega⟩
theorem Pw (s:Aq)(c:UInt8):Lib.contains s [c]=true↔c∈s:=by
 rw [Ps]
 constructor
 ·
  rintro ⟨j,_,ho⟩
  unfold Lib.occAt at ho
  rw [List.isPrefixOf_iff_prefix] at ho
  obtain ⟨t,ht⟩:=ho
  exact List.mem_of_mem_drop (i:=j) (by rw [←ht];simp)
 ·
  intro h
  obtain ⟨u,v,rfl⟩:=List.append_of_mem h
  refine ⟨u.length,by simp,?_⟩
  unfold Lib.occAt
  rw [List.drop_left,List.isPrefixOf_iff_prefix]
  exact ⟨v,rfl⟩

def kwL:List Aq:=[[97,108,108],[97,108,116],[97,110,100],[98,111,111,108],[98,121],[99,111,117,110,116],[102,97,108,115,101],[102,105,114,115,116],[105,102],[105,110,116],[108,97,99,107,115],[108,97,115,116],[109,97,116,99,104],[109,97,120],[109,105,110],[110,111,116],[111,114],[112,108,117,115],[113,117,101,114,121],[114,101,116,117,114,110],[115,101,113],[115,116,114,105,110,103],[115,117,109],[116,105,109,101],[116,114,117,101],[116,121,112,101],[119,104,101,114,101],[119,105,116,104,105,110]]
theorem jI (s:Aq):U7 s=kwL.any (fun w=>s==w):=by
 unfold U7 kwL
 simp only [List.any_cons,List.any_nil,Bool.or_false,Bool.or_assoc]
theorem jK (s:Aq):U7 s=true↔s∈kwL:=by
 rw [jI,List.any_eq_true]
 constructor
 ·
  rintro ⟨w,hw,he⟩
  rw [beq_iff_eq] at he
  exact he▸hw
 · intro h;exact ⟨s,h,beq_self_eq_true _⟩
theorem Z0:∀(s l:Aq),32∉s→(s ++ [32]).isPrefixOf l=true→s=l.takeWhile (fun c=>c != 32)∧32∈l
  | [],l,_,h=>by
    cases l with
    | nil=>cases h
    | cons b t=>
      have:(32:UInt8)=b:=by simpa [List.isPrefixOf] using h
      subst this
      exact ⟨rfl,by simp⟩
  | c::r,l,hn,h=>by
    cases l with
    | nil=>cases h
    | cons b t=>
      simp only [List.cons_append,List.isPrefixOf,Bool.and_eq_true,beq_iff_eq] at h
      obtain ⟨rfl,h⟩:=h
      have hc:(32:UInt8)≠c:=fun e=>hn (by simp [e])
      obtain ⟨i1,i2⟩:=Z0 r t (fun e=>hn (List.mem_cons_of_mem _ e)) h
      have e:(c != 32)=true:=by simpa [bne] using fun e=>hc e.symm
      refine ⟨?_,List.mem_cons_of_mem _ i2⟩
      rw [List.takeWhile_cons_of_pos (p:=fun c=>c != 32) e,←i1]
def kwAt (l:Aq):Bool:=match l with
 | []=>true
 | c::r=>if c==32&&r.contains 32 then kwL.contains (r.takeWhile (fun c=>c != 32))||((r.takeWhile (fun c=>c != 32)) == []) else true
theorem zZ:(List.range 200).all (fun j=>kwAt (Tn.drop j))=true:=by kernel_rfl
theorem zI:Tn.length≤199:=of_decide_eq_true (by kernel_rfl)
theorem rR:kwL.all (fun w=>Lib.contains Tn ([32]++w ++ [32]) && !(w == []) && !(w.contains 32))=true:=by kernel_rfl
theorem xR (s:Aq):iC s=U7 s:=by
  rw [Bool.eq_iff_iff,jK]
  unfold iC
  simp only [Bool.and_eq_true,Bool.not_eq_true']
  constructor
  · rintro ⟨⟨h1,h2⟩,h3⟩
    have hn:32∉s:=fun h=>by rw [(Pw s 32).2 h] at h2;cases h2
    obtain ⟨j,hj,ho⟩:=(Ps _ _).1 h3
    have hk:=List.all_eq_true.1 zZ j (List.mem_range.2 (by have:=zI;omega))
    unfold Lib.occAt at ho
    generalize Tn.drop j=l at ho hk
    cases l with
    | nil=>cases ho
    | cons b t=>
      simp only [List.cons_append,List.nil_append,List.isPrefixOf,Bool.and_eq_true,beq_iff_eq] at ho
      obtain ⟨rfl,ho⟩:=ho
      obtain ⟨i1,i2⟩:=Z0 s t hn ho
      unfold kwAt at hk
      have e:t.contains 32=true:=by simpa using i2
      simp only [e,←i1] at hk
      have e0:((32:UInt8)==32&&true)=true:=rfl
      rw [e0,if_pos rfl,h1,Bool.or_false] at hk
      simpa using hk
  · intro h
    have:=List.all_eq_true.1 rR s h
    simp only [Bool.and_eq_true,Bool.not_eq_true'] at this
    obtain ⟨⟨k1,k2⟩,k3⟩:=this
    refine ⟨⟨k2,?_⟩,k1⟩
    rw [Bool.eq_false_iff]
    intro h
    rw [Pw] at h
    have:s.contains 32=true:=by simpa using h
    rw [this] at k3;cases k3

theorem dT (p:UInt8→Bool):∀s:Aq,decide (0≤Gn p s)=s.any p
  | []=>rfl
  | c :: r => by
    have ih:=dT p r
    rw [List.any_cons,←ih,Gn]
    cases p c with
    | true=>rfl
    | false=>
      by_cases h:Gn p r = -1
      · rw [if_neg (by decide),if_pos h,h];rfl
      · rw [if_neg (by decide),if_neg h,Bool.false_or]
        refine decide_eq_decide.2 ?_
        have:∀s:Aq,-1≤Gn p s:=by
          intro s
          induction s with
          | nil=>exact Int.le_refl _
          | cons c r ih=>
            unfold Gn
            split
            · decide
            · split
              · decide
              · omega
        have:=this r
        omega
theorem aO (p:UInt8→Bool):∀s:Aq,decide (C3 p s=s.length)=s.all p
  | []=>rfl
  | c::r=>by
    have ih:=aO p r
    rw [List.all_cons,←ih,C3]
    cases p c with
    | true=>rw [if_pos rfl,Bool.true_and,List.length_cons];exact decide_eq_decide.2 (by omega)
    | false=>rw [if_neg (by decide),Bool.false_and,List.length_cons];exact decide_eq_false (by omega)
theorem X2 (c:UInt8):(F1 c&&C1 c)=false:=by
 have:=oD (p:=fun c=>(F1 c&&C1 c)==false) (by kernel_rfl) c
 exact eq_of_beq this
theorem rK (s:Aq):Tm s=Wu s:=by
  unfold Tm Wu
  rw [xR,dT]
  cases s with
  | nil=>rfl
  | cons c r=>
    have hb:bt (c::r) 0=c:=rfl
    have hs:((C3 Hg (c::r):Int) != ((c::r).length:Int))=(c::r).any Xe:=by
      have h:=aO Hg (c::r)
      have h2:(c::r).any Xe = !((c::r).all Hg):=by
        have:Xe=fun c=>!(Hg c):=by funext c;unfold Xe Hg;rw [Bool.not_or]
        rw [this,←List.not_all_eq_any_not]
      rw [h2,←h,Bool.eq_iff_iff,bne_iff_ne,Bool.not_eq_true',decide_eq_false_iff_not]
      omega
    rw [hs,hb,List.any_cons]
    have ho:Xe c=(!F1 c && !C1 c):=rfl
    rw [ho]
    have hld:=X2 c
    generalize U7 (c::r)=K
    generalize decide (24<((c::r).length:Int))=A
    have e0:(c::r == [])=false:=rfl
    rw [e0]
    generalize r.any Xe=O
    generalize F1 c=L at *
    generalize C1 c=D at *
    revert hld
    cases K <;> cases A <;> cases O <;> cases L <;> cases D <;> decide

theorem gN (c:UInt8):Jt c=I1 c:=by
 have:=oD (p:=fun c=>Jt c==I1 c) (by kernel_rfl) c
 exact eq_of_beq this
theorem T9:∀s:Aq,Dd s=C6 s
 | []=>rfl
 | c::r=>by rw [Dd,C6,gN,T9 r]
theorem kJ (s:Aq):Ja s=N1 s:=by unfold Ja N1;rw [T9]

def backB (c:UInt8)(w:Aq):Bool:=
 if ((bt w 0).toNat:Int)==92 then (Io w).2==(w.length:Int)&&(Io w).1==c else w == [c] && !(((c.toNat:Int)==34)) && !(decide ((c.toNat:Int)<32)||decide (126<(c.toNat:Int)))
end Go.Proofs.YtckhoadldibflaaGreatDoor
