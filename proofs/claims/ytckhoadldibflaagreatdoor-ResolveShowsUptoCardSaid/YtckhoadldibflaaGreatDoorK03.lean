/-
  Several texts in one: W7, W8, W9, V1, V2, V3, V4, F12, W13a, R2. No condition.
-/
import Derived.Test.YtckhoadldibflaaGreatDoorK01
import Derived.Test.YtckhoadldibflaaGreatDoorK02
import Derived.KernelRfl
import Derived.Test.YtckhoadldibflaaGreatDoorTab
import Derived.Test.YtckhoadldibflaaGreatDoorAx
set_option linter.unusedVariables false
set_option linter.unusedSimpArgs false
set_option maxHeartbeats 3200000
set_option maxRecDepth 20000
namespace Go.Proofs.YtckhoadldibflaaGreatDoor
open Go Go.Aw
theorem sep_le (t:Av):0<=Sk t/\(0<t.length->Sk t<=t.length):=by
 unfold Sk;have:=Sm wR t;split
 . omega
 split <;> omega
theorem xV (t:Av):∀l:List Av,(∀x∈l,0<x.length)->(Hs t l).err=4/\(Hs t l).pos=0/\(Hs t l).bytes=0\/(Hs t l).err=0/\(Hs t l).pos=0/\0<(Hs t l).bytes/\(Hs t l).bytes<=t.length
  | [],_=>.inl ⟨rfl,rfl,rfl⟩
  | x::r,h=>by
    unfold Hs;split
    . rename_i hp
      right;have hpre:x.isPrefixOf t=true:=hp;have:=(List.isPrefixOf_iff_prefix.1 hpre).length_le;have h2:=h x (by simp);exact ⟨rfl,rfl,by show (0:Int)<(x.length:Int);omega,by show (x.length:Int)<=_;omega⟩
    exact xV t r fun y hy=>h y (by simp [hy])
theorem fP (s:Av):∀(n i:Nat) (b:Av),i<=s.length->0<=(Kh s n i b).pos/\(Kh s n i b).pos<=s.length/\0<=(Kh s n i b).bytes/\(Kh s n i b).bytes<=s.length
  | 0,i,b,_=>by simp [Kh,Sy]
  | n+1,i,b,hi=>by
    unfold Kh;split
    . rename_i h;simp at h
      split
      . split
        . simp [Sy]
        simp [sY];omega
      . split
        . split
          . simp [Sy];omega
          . rename_i h3
            have he:=sU (s.drop i);rw [Fk] at he;exact fP s n _ _ (by omega)
        . split
          . simp [Sy];omega
          exact fP s n _ _ (by omega)
    simp [Sy]
theorem wW (t:Av)(h0:0<t.length):0<=(Du t).pos/\(Du t).pos<=t.length/\0<=(Du t).bytes/\(Du t).bytes<=t.length/\((Du t).err=0->0<(Du t).bytes):=by
 have hit:∀f:Fo,Tg f=true->(f.err=0->0<f.bytes):=fun f h e=>by
  unfold Tg at h;rw [e] at h;simpa using h
 unfold Du;split
 .
  rename_i h;have:=Sm J0 t;refine ⟨?_,?_,?_,?_,hit _ h⟩ <;> (unfold O7;split <;> (try split) <;> simp [foZ,Sy,sY,On] <;> omega)
 split
 .
  rename_i h;have:=Sm Eb t;refine ⟨?_,?_,?_,?_,hit _ h⟩ <;> (unfold Im;split <;> (try split) <;> (try split) <;> simp [foZ,Sy,sY,On] <;> omega)
 split
 .
  rename_i h
  have hl:0<=(Np t).pos/\(Np t).pos<=t.length/\0<=(Np t).bytes/\(Np t).bytes<=t.length:=by
   unfold Np;split
   . simp [foZ]
   exact fP t _ _ _ (by omega)
  exact ⟨hl.1,hl.2.1,hl.2.2.1,hl.2.2.2,hit _ h⟩
 rcases xV t rD (by decide) with h | h
 . unfold cB;rw [h.1,h.2.1,h.2.2];simp
 unfold cB;rw [h.1,h.2.1];omega
theorem Vg {s:Av}{n i:Nat}{out:List Tok}(h:0<n):K8 s n i out =
  if decide ((i:Int)<(s.length:Int)) then
   if decide (0<Sk (s.drop i)) then K8 s (n-1) (i+(Sk (s.drop i)).toNat) out
   else if ((Du (s.drop i)).err != 0) then (([],(i:Int)+(Du (s.drop i)).pos,(Du (s.drop i)).err):List Tok×Int×Int)
   else K8 s (n-1) (i+(Du (s.drop i)).bytes.toNat) (out ++ [⟨(Du (s.drop i)).tok.kind,(Du (s.drop i)).tok.text,i⟩])
  else (out,0,0):=by
 cases n with
 | zero=>omega
 | succ n=>rfl
theorem tok_next {es:List (List AV)}{out:List Tok}(h:es=out.map pF)(t:Tok):es ++ [[AV.int .i64 t.kind,.str t.text,.int .i64 t.pos]]=(out ++ [t]).map pF:=by rw [h,Em];rfl
theorem sc_tok (l:List Tok):∀x∈l.map pF,A7 x=true:=uO fun _=>rfl
def cScan (p:List Tok×Int×Int):AV:=.tuple [.sl 3 (p.1.map pF),.int .i64 p.2.1,.int .i64 p.2.2]
theorem c13 (s:Av)(hl:s.length<=1048576):Ak Tryz.prog 154 [.str s] (cScan (In s)):=by
 refine Cw 51 Tryz.func154 rfl fun H=>?_
 refine Aa ?_;refine Qp (Cm (z:=3) rfl) ?_;refine Qp Ah (Qp Ah (Aq (Ba (Qp D3 ?_))));refine Qp (Ck tok rfl rfl rfl rfl) ?_;refine Qp De (Ap (fun hc1=>?_) fun hc1=>?_)
 .
  refine Aa ?_;refine Qp (Cm (z:=3) rfl) ?_;refine Qp Ah (Qp Ah (Rc ?_));refine Yx [.sl _ _,Iq _,Iq _] Zg S0 ?_;have h9:In s=([],0,13):=by unfold In;rw [if_pos hc1]
  rw [h9];rfl
 refine A5 (Aa (Qp Qh ?_));refine AOL.ghost (GS.row (t:=5) 254 3 rfl) ?_;refine Aq (Ba (Qp Ah (Aq (AW.block ?_))));refine AW.Aan (fun (p:Nat×Nat×List Tok×List (List AV)×Value)=>(⟨[(0,.str s),(5,.row p.2.2.2.2 3 p.2.2.2.1),(6,.int .i64 (p.2.1:Int))],.row p.2.2.2.2 p.2.2.2.1.length 254 3::H,51⟩:St)) (fun p=>p.2.1<=s.length/\s.length<p.1+p.2.1/\p.2.2.2.1=p.2.2.1.map pF/\p.2.2.1.length<=p.2.1/\K8 s (s.length+1) 0 []=K8 s p.1 p.2.1 p.2.2.1) (fun p=>p.1) ((s.length+1,0,[],[],.slice none 0 0)) ?_ Bx ?_
 . exact ⟨A3 _,by simp only;omega,rfl,A3 _,rfl⟩
 rintro p hR;have hle:p.2.1<=s.length:=hR.1;have hfu:s.length<p.1+p.2.1:=hR.2.1;have hes:p.2.2.2.1=p.2.2.1.map pF:=hR.2.2.1;have hbl:p.2.2.1.length<=p.2.1:=hR.2.2.2.1;have hn:0<p.1:=by omega
 have hsc:∀c∈p.2.2.2.1,A7 c=true:=by rw [hes];exact sc_tok _
 have hel:p.2.2.2.1.length<=s.length:=by rw [hes,B7];omega
 refine Ba (Qp Ai (Qp D3 ?_));refine Qp (Ck tok rfl rfl rfl rfl) ?_;refine Qp Bt (Ap (fun hc2=>?_) fun hc2=>?_)
 .
  have hi:p.2.1<s.length:=by simp at hc2;omega
  have hsp:=sep_le (s.drop p.2.1);have hnx:=wW (s.drop p.2.1) (by rw [Fk];omega);rw [Fk] at hsp hnx;have hsp1:=hsp.1;have hsp2:=hsp.2 (by omega);have hn1:=hnx.1;have hn2:=hnx.2.1;have hn3:=hnx.2.2.1;have hn4:=hnx.2.2.2.1;refine A5 (AW.block (Ba (Qp D3 (Qp Ai ?_))));refine Qp (Ka (l:=p.2.1) (h:=s.length) tok rfl rfl rfl (⟨_,rfl⟩) (rfl) (hle) (B6 _) (congrArg (List.drop _) Ld)) ?_;refine Qp (Qc rfl (c32 (s.drop p.2.1) (by rw [Fk];omega) (by rw [Fk];omega))) ?_;refine Qp Ah (B2 (Qp Ai (Qp De (Ap (fun hc3=>?_) fun hc3=>?_))))
  .
   have hpos:0<(Sk (s.drop p.2.1)):=by simpa using hc3
   refine Aa (Qp Ai (Qp Ai (Qp Dt (Qp Ah (Aq ?_)))));refine AW.exit ?_;refine Ri ?_;refine ⟨(p.1-1,p.2.1+(Sk (s.drop p.2.1)).toNat,p.2.2.1,p.2.2.2.1,p.2.2.2.2),?_,?_,GS.weaken ⟨rfl,rfl,congrArg (AV.int .i64) (by simp only;omega),trivial⟩ (.refl _)⟩
   . exact ⟨by simp only;omega,by simp only;omega,hes,by simp only;omega,hR.2.2.2.2.trans (by rw [Vg hn,if_pos hc2,if_pos hc3])⟩
   simp only;omega
  refine A5 (Aa (Qp D3 (Qp Ai ?_)));refine Qp (Ka (l:=p.2.1) (h:=s.length) tok rfl rfl rfl (⟨_,rfl⟩) (rfl) (hle) (B6 _) (congrArg (List.drop _) Ld)) ?_;refine Qp (Qc rfl (c33 (s.drop p.2.1) (by rw [Fk];omega) (by rw [Fk];omega))) ?_;refine Dx gix fun b8=>?_
  refine Bw 0 Mq (_::_::_) ?_;refine Aq (Ba (Qp Co ?_));refine Sw 0 (Iq _) rfl ?_;refine Qp Bq (Ap (fun hc4=>?_) fun hc4=>?_)
  .
   refine AW.seq ?_;refine N3 0 rfl ?_;refine Qn 0 rfl Ai (Qn 1 rfl Co ?_);refine Qn 2 rfl (Kn (Iq _) rfl) ?_;refine Qn 3 rfl Dt (Qn 4 rfl Co ?_);refine Qn 5 rfl (Kn (Iq _) rfl) ?_;refine Qn 6 rfl (Cm (z:=3) rfl) ?_;refine Qn 7 rfl Ah (Qn 8 rfl Ah ?_);refine Fs ?_;refine A2 (Qrt (Cn (Au (Cn (Au ?_)))));refine Yx [.sl _ _,Iq _,Iq _] Zg S2 ?_
   have h9:In s=([],(p.2.1:Int)+(Du (s.drop p.2.1)).pos,(Du (s.drop p.2.1)).err):=by
    unfold In;rw [iN hc1,hR.2.2.2.2,Vg hn,if_pos hc2,iN hc3,if_pos hc4]
   rw [h9];rfl
  have hpos:=hnx.2.2.2.2 (by simpa using hc4);refine A5 (Aa (Qp Ai (Qp Co (Qp Co ?_))));refine Bw 0 Mq (_::_::_) ?_;refine B2 ?_;refine Qp (A0 (v:=.row _ _ _) rfl) ?_;refine Qp Co ?_;refine Nu 0 oN rfl ?_;refine Qp (G0 [oN] rfl) ?_;refine Qe (Pk 1 rfl (Dl rfl) (hsc) (by simp;omega) (by simp [maxLen];omega)) ?_;rintro _ _ ⟨v45,rfl,rfl⟩;refine Qp (Bb (v:=.row _ _ _) rfl) ?_;refine Aq (AW.region (Qp Ai (Qp Co ?_)));refine Sw 0 (Iq _) rfl ?_;refine Qp Dt (Qp Ah (Rk ?_));refine ⟨(p.1-1,p.2.1+(Du (s.drop p.2.1)).bytes.toNat,p.2.2.1 ++ [⟨(Du (s.drop p.2.1)).tok.kind,(Du (s.drop p.2.1)).tok.text,p.2.1⟩],p.2.2.2.1 ++ [[.int .i64 (Du (s.drop p.2.1)).tok.kind,.str (Du (s.drop p.2.1)).tok.text,.int .i64 (p.2.1:Int)]],v45),?_,?_,GS.weaken ⟨rfl,rfl,congrArg (AV.int .i64) (by simp only;omega),trivial⟩ (.cons _ (.refl _))⟩
  . exact ⟨by simp only;omega,by simp only;omega,tok_next hes ⟨(Du (s.drop p.2.1)).tok.kind,(Du (s.drop p.2.1)).tok.text,p.2.1⟩,by simp only [Ax,A1,A6];omega,hR.2.2.2.2.trans (by rw [Vg hn,if_pos hc2,iN hc3,iN hc4])⟩
  simp only;omega
 refine AW.exit ?_;refine Bn (Ri (Aa ?_));refine AOL.ghost (GS.unrow 5 rfl) ?_;refine Qp Ez (Qp Xk (Qp Ah (Qp Ah (Rb ?_))));refine Yx [.sl _ _,Iq _,Iq _] Zg S1 ?_
 have h9:In s=(p.2.2.1,0,0):=by
  unfold In;rw [iN hc1,hR.2.2.2.2,Vg hn,iN hc2]
 rw [h9];simp only [Ad,cScan,hes]
def cTokR (r:Tok×Int×Int):AV:=.tuple [.agg (cTok r.1),.int .i64 r.2.1,.int .i64 r.2.2]
theorem sZ {α:Type}{l:List α}{k:Nat}(h:k<l.length):∃x,l[k]? = some x:=⟨_,List.getElem?_eq_getElem h⟩
def sameS (a b:List Tok):Bool:=decide (a=b)
def okT (l:List Tok):Prop:=l.length<=1048576/\∀t∈l,t.text.length<=1048576
def Th (st:PS):Prop:=okT st.toks
theorem at_get {st:PS}(h:st.pos<st.toks.length):st.toks[st.pos]? = some (mQ st):=by
 simp [mQ,Ii,List.getElem?_eq_getElem h]
theorem Xo {st:PS}(h:st.pos<st.toks.length):(st.toks.map pF)[st.pos]? = some (cTok (mQ st)):=by rw [List.getElem?_map,at_get h];rfl
theorem pV {st:PS}(h:Th st)(hp:st.pos<st.toks.length):(mQ st).text.length<=1048576:=h.2 _ (An (at_get hp))
theorem dF {st:PS}(h:endP st=false):st.pos<st.toks.length:=by
 unfold endP at h;rw [En,Ih] at h;omega
theorem bU {w:Av}{st:PS}(h:Jj w st=true):st.pos<st.toks.length:=by
 unfold Jj at h;cases he:endP st with
 | true=>rw [he] at h;cases h
 | false=>exact dF he
theorem nxt_lt {k:Int}{st:PS}(h:Yk k st=true):st.pos<st.toks.length:=by
 unfold Yk at h;cases he:endP st with
 | true=>rw [he] at h;cases h
 | false=>exact dF he
theorem acc_bad {w:Av}{st:PS}(h:¬M2 [((st.bad==0),true)]):st=Qj w st:=by
 have hb:(st.bad==0)=false:=by
  cases hq:(st.bad==0) with
  | false=>rfl
  | true=>exact absurd (fun p hp=>by simp only [Hv] at hp;subst hp;exact hq) h
 have:Jj w st=false:=by
  unfold Jj endP;have:(st.bad != 0)=true:=by simp only [bne,hb];rfl
  rw [this];rfl
 unfold Qj;rw [this];rfl
theorem Hl {w:Av}{st:PS}(h:Jj w st=false):Qj w st=st:=by unfold Qj;rw [h];rfl
theorem and_snd {a b:Bool}(h:(a&&b)=true):b=true:=by rw [Cz] at h;exact h.2
theorem txt_le {k:Int}{st:PS}(h:Th st):(Jh k st).length<=1048576:=by
 unfold Jh;cases hn:Yk k st with
 | true=>exact pV h (nxt_lt hn)
 | false=>exact A3 _
theorem toks_adv (st:PS):(adv st).toks=st.toks:=rfl
theorem toks_deep (st:PS):(Jx st).toks=st.toks:=rfl
theorem toks_shallow (st:PS):(Jf st).toks=st.toks:=rfl
theorem Oo (e:Int)(st:PS):(G8 e st).toks=st.toks:=by unfold G8;split <;> rfl
theorem aP (w:Av)(st:PS):(Qj w st).toks=st.toks:=by unfold Qj;split <;> rfl
theorem aQ (w:Av)(st:PS):(Df w st).toks=st.toks:=by unfold Df;split;exact Oo _ _;exact aP _ _
theorem aR (k:Int)(st:PS):(Fr k st).toks=st.toks:=by unfold Fr;split;rfl;exact Oo _ _
theorem Pu {a b:PS}(h:a.toks=b.toks):Th a↔Th b:=by unfold Th;rw [h]
@[simp] theorem okS_adv (st : PS) : Th (adv st) ↔ Th st := Pu rfl
@[simp] theorem okS_deep (st : PS) : Th (Jx st) ↔ Th st := Pu rfl
@[simp] theorem okS_shallow (st : PS) : Th (Jf st) ↔ Th st := Pu rfl
@[simp] theorem okS_failP (e : Int) (st : PS) : Th (G8 e st) ↔ Th st := Pu (Oo _ _)
@[simp] theorem okS_accP (w : Av) (st : PS) : Th (Qj w st) ↔ Th st := Pu (aP _ _)
@[simp] theorem okS_expP (w : Av) (st : PS) : Th (Df w st) ↔ Th st := Pu (aQ _ _)
@[simp] theorem okS_tokP (k : Int) (st : PS) : Th (Fr k st) ↔ Th st := Pu (aR _ _)
theorem Mt (st:PS)(bp:Nat):By Tryz.prog 158 bp 223 (cP st) (cP (st)) [.val (.pointer (some ⟨bp,0,none⟩))] (.int .i64 (D2 st)):=by
 intro H;refine Is 28 Tryz.func158 rfl ?_;refine Aa (Qp Ah (Re (AW.seq (N3 0 rfl (Qn 0 rfl Ce (Qn 1 rfl (Af rfl) (Qn 2 rfl Co (Qn 3 rfl (Kn (Iq _) rfl) (Qn 4 rfl Ce (Qn 5 rfl (Af rfl) (Qn 6 rfl Co (Qn 7 rfl (Kn (.sl _ _) rfl) ?_))))))))))));refine Qn 8 rfl (Da st.toks.length rfl rfl (by simp)) ?_;refine Qn 9 rfl Bt ?_;refine Fs ?_;refine A2 (E9 (fun hc1=>?_) fun hc1=>?_)
 .
  try simp only [Bk,Bs] at hc1
  have hlt:st.pos<st.toks.length:=by simpa using hc1
  refine AW.seq (N3 0 rfl (Qn 0 rfl Ce (Qn 1 rfl (Af rfl) (Qn 2 rfl Co (Qn 3 rfl (Kn (.sl _ _) rfl) (Qn 4 rfl Ce (Qn 5 rfl (Af rfl) (Qn 6 rfl Co (Qn 7 rfl (Kn (Iq _) rfl) ?_)))))))));refine Qn 8 rfl (Cp oN rfl rfl (by omega) (Xo hlt)) ?_;refine Qn 9 rfl (Qf [Iq _]) (Qn 10 rfl Be (Qn 11 rfl Ah ?_));refine Fs ?_;refine A2 (Qrt ?_);refine ⟨.inr rfl,[Iq _],Ze,_,S0,?_⟩;refine ⟨?_,congrArg (fun c=>HO.box bp 223 c::H) ?_⟩
  .
   try simp only [Ad,D2,cSyn,Bj,Ca,Bi,hc1,↓reduceIte,Al,Bc,Bv]
   try rfl
  try simp only [cP,D2,hc1,↓reduceIte,Al,Bc,Bv]
  try rfl
 try simp only [Bk,Bs] at hc1
 refine A5 (Aa (Qp Ce (Qp (Af rfl) (Qp Co (Sw 0 (Iq _) rfl (Qp Ah (Rb ?_)))))));refine ⟨.inr rfl,[Iq _],Ze,_,S0,?_⟩;refine ⟨?_,congrArg (fun c=>HO.box bp 223 c::H) ?_⟩
 .
  try simp only [Ad,D2,cSyn,Bj,Ca,Bi,hc1,↓reduceIte,Al,Bc,Bv]
  try rfl
 try simp only [cP,D2,hc1,↓reduceIte,Al,Bc,Bv]
 try rfl
theorem p_is (st:PS)(bp:Nat)(w:Av)(hS:Th st)(hw:w.length<=1048576):By Tryz.prog 156 bp 223 (cP st) (cP (st)) [.val (.pointer (some ⟨bp,0,none⟩)),.str w] (.bool (Jj w st)):=by
 intro H;refine Is 51 Tryz.func156 rfl ?_;refine Aa (Qp Ao (Re (AW.seq ?_)));refine N3 0 rfl ?_;refine Qn 0 rfl Ce ?_;refine Qn 1 rfl (Af rfl) ?_;refine Qn 2 rfl Co ?_;refine Qn 3 rfl (Kn (Iq _) rfl) ?_;refine Qn 4 rfl Bq (Qn 5 rfl A8 (Qo 6 rfl [] Qw Ce ?_));refine Qo 7 rfl [(12,_)] Qw (Af rfl) ?_;refine Qo 8 rfl [(13,_)] Qw Co ?_;refine Qo 9 rfl [(14,_)] Qw (Kn (Iq _) rfl) ?_;refine Qo 10 rfl [] Qw Ce ?_;refine Qo 11 rfl [(16,_)] Qw (Af rfl) ?_;refine Qo 12 rfl [(17,_)] Qw Co ?_;refine Qo 13 rfl [(18,_)] Qw (Kn (.sl _ _) rfl) ?_;refine Yo 14 rfl [(19,_)] Qw (fun hG=>Da st.toks.length rfl rfl (by simp)) ?_;refine Qo 15 rfl [(15,_),(20,_)] Yw Fc ?_;refine Qn 16 rfl Cr ?_;refine Fs ?_;refine A2 (E9 (fun hc1=>?_) fun hc1=>?_)
 .
  try simp only [Bk,Bs] at hc1
  refine Aa (Qp Ao (Rc ?_));refine ⟨.inr rfl,[.bool _],Ze,_,S0,?_⟩;refine ⟨?_,congrArg (fun c=>HO.box bp 223 c::H) ?_⟩
  .
   try simp only [Ad,Jj,endP,cSyn,Bj,Ca,Bi,hc1,↓reduceIte,Al,Bc,Bv]
   try rfl
  try simp only [cP,Jj,endP,hc1,↓reduceIte,Al,Bc,Bv]
  try rfl
 try simp only [Bk,Bs] at hc1
 have hlt:=dF (st:=st) hc1;refine A5 (AW.seq ?_);refine N3 0 rfl ?_;refine Qn 0 rfl Ce ?_;refine Qn 1 rfl (Af rfl) ?_;refine Qn 2 rfl Co ?_;refine Qn 3 rfl (Kn (.sl _ _) rfl) ?_;refine Qn 4 rfl Ce ?_;refine Qn 5 rfl (Af rfl) ?_;refine Qn 6 rfl Co ?_;refine Qn 7 rfl (Kn (Iq _) rfl) ?_;refine Qn 8 rfl (Cp oN rfl rfl (by omega) (Xo hlt)) ?_;refine Qn 9 rfl (B1 oN) ?_;refine Ur 10 rfl (Gp (l:=[.int .i64 0,.str [],.int .i64 0]) (by kernel_rfl)) (by rintro _ _ ⟨b5,rfl,rfl⟩;simp) ?_;rintro _ _ ⟨b5,rfl,rfl⟩;refine bH 11 rfl (Hx 0 (.agg _) oN (_::_::_) rfl) ?_;rintro _ _ ⟨rfl,rfl⟩;refine A2 ?_;refine AW.ghost (GS.freeze (t:=5) 0 rfl rfl) ?_;refine Aa (Qp (Qf E4) (Qp Dk (Qp D3 ?_)));refine Qp (A9 rfl rfl) ?_;refine Qp A8 (Qg [] Qw (Qf oN) (Qg [(38,_)] Qw Be (Qg [(39,_)] Qw Aj (Qg [(40,_)] Qw A8 (Qg [] Qw (Qf oN) (Qg [(42,_)] Qw Be (Qg [(43,_)] Qw Aj (Qg [(44,_)] Qw A8 (Qg [] Qw D3 ?_)))))))));refine Qg [(46,_)] Qw (Qc rfl (c22 w hw)) ?_;refine Qg [(45,_),(47,_)] Qw Ej (Qg [(41,_),(48,_)] Qw Cr (Qp Ej (Qp Ao (Rb ?_))));refine ⟨.inr rfl,[.bool _],Ze,_,S0,?_⟩;refine ⟨?_,congrArg (fun c=>HO.box bp 223 c::H) ?_⟩
 .
  try simp only [Ad,Jj,endP,cSyn,Bj,Ca,Bi,hc1,↓reduceIte,Al,Bc,Bv]
  try rfl
 try simp only [cP,Jj,endP,hc1,↓reduceIte,Al,Bc,Bv]
 try rfl
theorem Ep (st:PS)(bp:Nat)(w:Av)(hS:Th st)(hw:w.length<=1048576):By Tryz.prog 161 bp 223 (cP st) (cP (Qj w st)) [.val (.pointer (some ⟨bp,0,none⟩)),.str w] (.bool (Jj w st)):=by
 intro H;refine Is 16 Tryz.func161 rfl ?_;refine Aa (Qp Ao (Aq (Ba (Qp Ce (Qp D3 ?_)))));refine AOL.Aas (C9 (k:=0) (by kernel_rfl) rfl rfl (p_is _ _ _ (by simpa using hS) (by first | assumption | decide))) rfl rfl ?_;refine Qp E7 (Ap (fun hc1=>?_) fun hc1=>?_)
 .
  try simp only [Bk,Bs] at hc1
  refine Aa (Qp Ao (Rc ?_));refine ⟨.inr rfl,[.bool _],Ze,_,S0,?_⟩;refine ⟨?_,congrArg (fun c=>HO.box bp 223 c::H) ?_⟩
  .
   try simp only [Ad,Qj,cSyn,Bj,Ca,Bi,hc1,↓reduceIte,Al,Bc,Bv]
   try rfl
  try simp only [cP,Qj,hc1,↓reduceIte,Al,Bc,Bv]
  try rfl
 try simp only [Bk,Bs] at hc1
 have hlt:=bU (w:=w) (st:=st) hc1;have hml:=hS.1;refine A5 (Aa (Qp Ce (Qp (Af rfl) (Qp Co (Sw 0 (Iq _) rfl (Qp Dt (Qp (Af rfl) (Qp Co ?_))))))));refine Bw 0 gjz (_::_) (B2 (Qp Ao (Rb ?_)));refine ⟨.inr rfl,[.bool _],Ze,_,S0,?_⟩;refine ⟨?_,congrArg (fun c=>HO.box bp 223 c::H) ?_⟩
 .
  try simp only [Ad,Qj,cSyn,Bj,Ca,Bi,hc1,↓reduceIte,Al,Bc,Bv]
  try rfl
 try simp only [cP,Qj,hc1,↓reduceIte,Al,Bc,Bv]
 try rfl
theorem mC (st:PS)(bp:Nat)(e:Int):By Tryz.prog 155 bp 223 (cP st) (cP (G8 e st)) [.val (.pointer (some ⟨bp,0,none⟩)),.int .i64 e] (.tuple []):=by
 intro H;refine Is 18 Tryz.func155 rfl ?_;refine Aa (Qp Ce (Qp (Af rfl) (Qp Co (Sw 0 (Iq _) rfl (Qp Aj (Ap (fun hc1=>?_) fun hc1=>?_))))))
 .
  try simp only [Bk,Bs] at hc1
  refine AW.region (Qp Ce (Qp Ce (Qp Ai (Qp Ce ?_))));refine AOL.Aas (C9 (k:=0) (by kernel_rfl) rfl rfl (Mt _ _)) rfl rfl ?_;refine Qp (Af rfl) (Qp Co ?_);refine Bw 0 gjz (_::_) (Qp (Af rfl) (Qp Co ?_));refine Bw 0 gjz (_::_) (AOL.nil ?_);refine ⟨.inl rfl,[],.nil,_,.refl _,?_⟩;refine ⟨?_,congrArg (fun c=>HO.box bp 223 c::H) ?_⟩
  .
   try simp only [Ad,G8,cSyn,Bj,Ca,Bi,hc1,↓reduceIte,Al,Bc,Bv]
   try rfl
  try simp only [cP,G8,hc1,↓reduceIte,Al,Bc,Bv]
  try rfl
 try simp only [Bk,Bs] at hc1
 refine AW.skip ?_;refine ⟨.inl rfl,[],.nil,_,.refl _,?_⟩;refine ⟨?_,congrArg (fun c=>HO.box bp 223 c::H) ?_⟩
 .
  try simp only [Ad,G8,cSyn,Bj,Ca,Bi,hc1,↓reduceIte,Al,Bc,Bv]
  try rfl
 try simp only [cP,G8,hc1,↓reduceIte,Al,Bc,Bv]
 try rfl
theorem Et (st:PS)(bp:Nat)(w:Av)(hS:Th st)(hw:w.length<=1048576):By Tryz.prog 159 bp 223 (cP st) (cP (Df w st)) [.val (.pointer (some ⟨bp,0,none⟩)),.str w] (.tuple []):=by
 intro H;refine Is 17 Tryz.func159 rfl ?_;refine Aa (Qp Ce (Qp (Af rfl) (Qp Co (Sw 0 (Iq _) rfl (Qp Aj (Qp A8 (Qg [] Qw Ce (Qg [] Qw D3 ?_))))))));refine AOL.ge _ [(10,_),(11,_)] rfl (dN.all ⟨vC.self _ _,vC.self _ _,trivial⟩) (fun hG=>Dr rfl ((Ep _ _ _ (by simpa using hS) (by first | assumption | decide)).at (k:=0) (H2:=_::_) rfl rfl)) (fun hG=>congrArg (fun s=>HO.box bp 223 (cP s)::H) (acc_bad hG)) rfl ?_;refine Qg [(12,_)] Qw E7 (Qp Ej (Ap (fun hc1=>?_) fun hc1=>?_))
 .
  try simp only [Bk,Bs] at hc1
  refine AW.region (Qp Ce (sH ((mC _ _ _).at (k:=0) (H2:=_::_) rfl rfl) (AOL.nil ?_)));refine ⟨.inl rfl,[],.nil,_,.refl _,?_⟩;refine ⟨?_,congrArg (fun c=>HO.box bp 223 c::H) ?_⟩
  .
   try simp only [Ad,Df,cSyn,Bj,Ca,Bi,hc1,↓reduceIte,Al,Bc,Bv]
   try rfl
  try simp only [cP,Df,Hl (by simpa using and_snd hc1),hc1,↓reduceIte,Al,Bc,Bv]
  try rfl
 try simp only [Bk,Bs] at hc1
 refine AW.skip ?_;refine ⟨.inl rfl,[],.nil,_,.refl _,?_⟩;refine ⟨?_,congrArg (fun c=>HO.box bp 223 c::H) ?_⟩
 .
  try simp only [Ad,Df,cSyn,Bj,Ca,Bi,hc1,↓reduceIte,Al,Bc,Bv]
  try rfl
 try simp only [cP,Df,hc1,↓reduceIte,Al,Bc,Bv]
 try rfl
theorem tV (st:PS)(bp:Nat)(k:Int)(hS:Th st):By Tryz.prog 280 bp 223 (cP st) (cP (st)) [.val (.pointer (some ⟨bp,0,none⟩)),.int .i64 k] (.bool (Yk k st)):=by
 intro H;refine Is 47 Tryz.func280 rfl ?_;refine Aa (Qp Ao (Re (AW.seq ?_)));refine N3 0 rfl ?_;refine Qn 0 rfl Ce ?_;refine Qn 1 rfl (Af rfl) ?_;refine Qn 2 rfl Co ?_;refine Qn 3 rfl (Kn (Iq _) rfl) ?_;refine Qn 4 rfl Bq (Qn 5 rfl A8 (Qo 6 rfl [] Qw Ce ?_));refine Qo 7 rfl [(12,_)] Qw (Af rfl) ?_;refine Qo 8 rfl [(13,_)] Qw Co ?_;refine Qo 9 rfl [(14,_)] Qw (Kn (Iq _) rfl) ?_;refine Qo 10 rfl [] Qw Ce ?_;refine Qo 11 rfl [(16,_)] Qw (Af rfl) ?_;refine Qo 12 rfl [(17,_)] Qw Co ?_;refine Qo 13 rfl [(18,_)] Qw (Kn (.sl _ _) rfl) ?_;refine Yo 14 rfl [(19,_)] Qw (fun hG=>Da st.toks.length rfl rfl (by simp)) ?_;refine Qo 15 rfl [(15,_),(20,_)] Yw Fc ?_;refine Qn 16 rfl Cr ?_;refine Fs ?_;refine A2 (E9 (fun hc1=>?_) fun hc1=>?_)
 .
  try simp only [Bk,Bs] at hc1
  refine Aa (Qp Ao (Rc ?_));refine ⟨.inr rfl,[.bool _],Ze,_,S0,?_⟩;refine ⟨?_,congrArg (fun c=>HO.box bp 223 c::H) ?_⟩
  .
   try simp only [Ad,Yk,endP,cSyn,Bj,Ca,Bi,hc1,↓reduceIte,Al,Bc,Bv]
   try rfl
  try simp only [cP,Yk,endP,hc1,↓reduceIte,Al,Bc,Bv]
  try rfl
 try simp only [Bk,Bs] at hc1
 have hlt:=dF (st:=st) hc1;refine A5 (AW.seq ?_);refine N3 0 rfl ?_;refine Qn 0 rfl Ce ?_;refine Qn 1 rfl (Af rfl) ?_;refine Qn 2 rfl Co ?_;refine Qn 3 rfl (Kn (.sl _ _) rfl) ?_;refine Qn 4 rfl Ce ?_;refine Qn 5 rfl (Af rfl) ?_;refine Qn 6 rfl Co ?_;refine Qn 7 rfl (Kn (Iq _) rfl) ?_;refine Qn 8 rfl (Cp oN rfl rfl (by omega) (Xo hlt)) ?_;refine Qn 9 rfl (B1 oN) ?_;refine Ur 10 rfl (Gp (l:=[.int .i64 0,.str [],.int .i64 0]) (by kernel_rfl)) (by rintro _ _ ⟨b5,rfl,rfl⟩;simp) ?_;rintro _ _ ⟨b5,rfl,rfl⟩;refine bH 11 rfl (Hx 0 (.agg _) oN (_::_::_) rfl) ?_;rintro _ _ ⟨rfl,rfl⟩;refine A2 ?_;refine AW.ghost (GS.freeze (t:=5) 0 rfl rfl) ?_;refine Aa (Qp (Qf oN) (Qp Be (Qp Ai (Qp Aj (Qp A8 (Qg [] Qw Ai (Qg [(38,_)] Qw Bq (Qg [(39,_)] Qw A8 (Qg [] Qw (Qf E4) ?_)))))))));refine Qg [(41,_)] Qw Dk ?_;refine Qg [(42,_)] Qw (Qc rfl (c22 (mQ st).text (pV hS hlt))) ?_;refine Qg [(43,_)] Qw E7 (Qg [(40,_),(44,_)] Qw Cr (Qp Ej (Qp Ao (Rb ?_))));refine ⟨.inr rfl,[.bool _],Ze,_,S0,?_⟩;refine ⟨?_,congrArg (fun c=>HO.box bp 223 c::H) ?_⟩
 .
  try simp only [Ad,Yk,endP,cSyn,Bj,Ca,Bi,hc1,↓reduceIte,Al,Bc,Bv]
  try rfl
 try simp only [cP,Yk,endP,hc1,↓reduceIte,Al,Bc,Bv]
 try rfl
theorem mD (st:PS)(bp:Nat)(k:Int)(hS:Th st):By Tryz.prog 224 bp 223 (cP st) (cP (Fr k st)) [.val (.pointer (some ⟨bp,0,none⟩)),.int .i64 k] (.tuple [.str (Jh k st),.bool (Yk k st)]):=by
 intro H;refine Is 31 Tryz.func224 rfl ?_;refine Aa (Qp Dj (Qp Ao (Aq (Ba (Qp Ce (Qp Ai ?_))))));refine AOL.Aas (C9 (k:=0) (by kernel_rfl) rfl rfl (tV _ _ _ (by simpa using hS))) rfl rfl ?_;refine Qp E7 (Ap (fun hc1=>?_) fun hc1=>?_)
 .
  try simp only [Bk,Bs] at hc1
  refine Aa (Qp Ce (sH ((mC _ _ _).at (k:=0) (H2:=_::_) rfl rfl) (B2 (Qp Dj (Qp Ao (Rc ?_))))));refine ⟨.inr rfl,[.str _,.bool _],Zf,_,S0,?_⟩;refine ⟨?_,congrArg (fun c=>HO.box bp 223 c::H) ?_⟩
  .
   try simp only [Ad,Fr,Jh,cSyn,Bj,Ca,Bi,hc1,↓reduceIte,Al,Bc,Bv]
   try rfl
  try simp only [cP,Fr,Jh,hc1,↓reduceIte,Al,Bc,Bv]
  try rfl
 try simp only [Bk,Bs] at hc1
 have hlt:=nxt_lt (k:=k) (st:=st) hc1;have hml:=hS.1;refine A5 (Aa (Qp Ce (Qp (Af rfl) (Qp Co (Sw 0 (Iq _) rfl (Qp Dt (Qp (Af rfl) (Qp Co ?_))))))));refine Bw 0 gjz (_::_) (Re (N3 0 rfl (Qn 0 rfl Ce (Qn 1 rfl (Af rfl) (Qn 2 rfl Co (Qn 3 rfl (Kn (.sl _ _) rfl) (Qn 4 rfl Ce (Qn 5 rfl (Af rfl) (Qn 6 rfl Co (Qn 7 rfl (Kn (Iq _) rfl) ?_))))))))));refine Qn 8 rfl (P_sub rfl rfl rfl (by constructor <;> omega)) ?_;refine Qn 9 rfl (Cp oN rfl rfl (by omega) (by rw [show ((st.pos:Int)+1-1).toNat=st.pos by omega];exact Xo hlt)) ?_;refine Qn 10 rfl (Qf E4) (Qn 11 rfl Dk (Qn 12 rfl Dj (Qn 13 rfl Ao ?_)));refine Fs ?_;refine A2 (AW.ret ?_);refine ⟨.inr rfl,[.str _,.bool _],Zf,_,S0,?_⟩;refine ⟨?_,congrArg (fun c=>HO.box bp 223 c::H) ?_⟩
 .
  try simp only [Ad,Fr,Jh,cSyn,Bj,Ca,Bi,hc1,↓reduceIte,Al,Bc,Bv]
  try rfl
 try simp only [cP,Fr,Jh,hc1,↓reduceIte,Al,Bc,Bv]
 try rfl
theorem Se (st:PS)(bp:Nat)  (hS:Th st):By Tryz.prog 160 bp 223 (cP st) (cP (Fr 0 st)) [.val (.pointer (some ⟨bp,0,none⟩))] (.str (Jh 0 st)):=by
 intro H;refine Is 11 Tryz.func160 rfl ?_;refine Aa (Qp Dj (B2 (Qp Ce ?_)));refine Rt (Dr rfl ((mD _ _ _ (by simpa using hS)).at (k:=0) (H2:=_::_) rfl rfl)) ?_;refine Qp Ml (Qp kT (Qp bG (Qp Dj (Qp Ao (B2 (Qp D3 (Qp Dj (Rb ?_))))))));refine ⟨.inr rfl,[.str _],Ze,_,S0,?_⟩;refine ⟨?_,congrArg (fun c=>HO.box bp 223 c::H) ?_⟩
 .
  try simp only [Ad,cSyn,Bj,Ca,Bi,↓reduceIte,Al,Bc,Bv]
  try rfl
 try simp only [cP,↓reduceIte,Al,Bc,Bv]
 try rfl
theorem fZ (st:PS)(bp:Nat)  (hS:Th st):By Tryz.prog 285 bp 223 (cP st) (cP (Fr 1 st)) [.val (.pointer (some ⟨bp,0,none⟩))] (.int .i64 (fT st)):=by
 intro H;refine Is 20 Tryz.func285 rfl ?_;refine Aa (Qp Ah (B2 (Qp Ce ?_)));refine Rt (Dr rfl ((mD _ _ _ (by simpa using hS)).at (k:=0) (H2:=_::_) rfl rfl)) ?_;refine Qp Ml (Qp kT (Qp bG (Qp Dj (Qp Ao (Aq (Ba (Qp A8 (Qp E7 (Ap (fun hc1=>?_) fun hc1=>?_)))))))))
 .
  try simp only [Bk,Bs] at hc1
  refine Aa (Qp Ah (Rc ?_));refine ⟨.inr rfl,[Iq _],Ze,_,S0,?_⟩;refine ⟨?_,congrArg (fun c=>HO.box bp 223 c::H) ?_⟩
  .
   try simp only [Ad,fT,Jh,cSyn,Bj,Ca,Bi,hc1,↓reduceIte,Al,Bc,Bv]
   try rfl
  try simp only [cP,fT,Jh,hc1,↓reduceIte,Al,Bc,Bv]
  try rfl
 try simp only [Bk,Bs] at hc1
 refine A5 (Aa (Qp D3 (Qp (Qc rfl (c18 _ (txt_le hS))) (Qp Ml (Qp Km (Qp Km (Qp Ah (Qp Ah (B2 (Qp Ai (Qp Ah (Rb ?_))))))))))));refine ⟨.inr rfl,[Iq _],Ze,_,S0,?_⟩;refine ⟨?_,congrArg (fun c=>HO.box bp 223 c::H) ?_⟩
 .
  try simp only [Ad,fT,Jh,cSyn,Bj,Ca,Bi,hc1,↓reduceIte,Al,Bc,Bv]
  try rfl
 try simp only [cP,fT,Jh,hc1,↓reduceIte,Al,Bc,Bv]
 try rfl
theorem Ge {w:Av}{st:PS}(h:Jj w st=true):Qj w st=adv st:=by unfold Qj;rw [h];rfl
def okD (D:Int)(st:PS):Prop:=Th st/\D<=st.depth/\st.depth<=64
def Ds (F:PS->Syn×PS):Prop:=∀st,0<=st.depth->st.depth<=64->(F st).2.toks=st.toks/\st.pos<=(F st).2.pos/\(F st).2.depth=st.depth
theorem Ux (e:Int)(st:PS):(G8 e st).depth=st.depth:=by unfold G8;split <;> rfl
theorem nV (w:Av)(st:PS):(Qj w st).depth=st.depth:=by unfold Qj;split <;> rfl
theorem nW (w:Av)(st:PS):(Df w st).depth=st.depth:=by unfold Df;split;exact Ux _ _;exact nV _ _
theorem nX (k:Int)(st:PS):(Fr k st).depth=st.depth:=by unfold Fr;split;rfl;exact Ux _ _
theorem aC {D:Int}{a b:PS}(h:a.toks=b.toks)(h2:a.depth=b.depth):okD D a↔okD D b:=by unfold okD Th;rw [h,h2]
@[simp] theorem okD_adv (D : Int) (st : PS) : okD D (adv st) ↔ okD D st := aC rfl rfl
@[simp] theorem okD_failP (D : Int) (e : Int) (st : PS) : okD D (G8 e st) ↔ okD D st := aC (Oo _ _) (Ux _ _)
@[simp] theorem okD_accP (D : Int) (w : Av) (st : PS) : okD D (Qj w st) ↔ okD D st := aC (aP _ _) (nV _ _)
@[simp] theorem okD_expP (D : Int) (w : Av) (st : PS) : okD D (Df w st) ↔ okD D st := aC (aQ _ _) (nW _ _)
@[simp] theorem okD_tokP (D : Int) (k : Int) (st : PS) : okD D (Fr k st) ↔ okD D st := aC (aR _ _) (nX _ _)
theorem Ds.okD {F:PS->Syn×PS}(h:Ds F){D:Int}(hD:0<=D){st:PS}(ho:okD D st):okD D (F st).2:=by
 obtain ⟨h1,h2,h3⟩:=ho;obtain ⟨k1,k2,k3⟩:=h st (by omega) h3;exact ⟨(Pu k1).2 h1,by omega,by omega⟩
theorem aG (e:Int)(st:PS):(G8 e st).pos=st.pos:=by unfold G8;split <;> rfl
theorem pos_accP (w:Av)(st:PS):st.pos<=(Qj w st).pos:=by
 unfold Qj;split
 . exact Nat.le_succ _
 exact B6 _
theorem pos_expP (w:Av)(st:PS):st.pos<=(Df w st).pos:=by unfold Df;split;exact Nat.le_of_eq (aG _ _).symm;exact pos_accP _ _
theorem pos_tokP (k:Int)(st:PS):st.pos<=(Fr k st).pos:=by unfold Fr;split;exact Nat.le_succ _;exact Nat.le_of_eq (aG _ _).symm
theorem eS {e:Int}(he:e≠0)(st:PS):((G8 e st).bad != 0)=true:=by
 unfold G8;split
 . simpa using he
 rename_i h;simpa using h
def Jk (st:PS):PS:=if decide (64<=st.depth) then G8 12 st else st
theorem Oa {F:PS->Syn×PS}{n:Nat}{st:PS}{out:List Syn}(h:0<n):Lq F n st out=if Jj Dm st then Lq F (n-1) (F (adv st)).2 (out ++ [(F (adv st)).1]) else (out,st):=by
 obtain ⟨m,rfl⟩:∃m,n=m+1:=⟨n-1,by omega⟩;rfl
theorem aL (l:List Syn):∀x∈l.map C3,A7 x=true:=uO fun a=>by rw [Bi];rfl
theorem Mw {es:List (List AV)}{out:List Syn}{t:Syn}(h:es=out.map C3):es ++ [cSyn t]=(out ++ [t]).map C3:=by rw [h,Em,P9,Bi]
theorem p_nested (st st2 st3:PS)(bp:Nat)(R R3:List HO)(f:Nat)(hf:U3 Tryz.prog f=true)(first cap:List AV)(hlt:st.pos<st.toks.length)(hS:Th st)(hcl:(Jk st).bad=0->Cj Tryz.prog f (.box bp 223 (cP (adv (Jx st)))::R) (first ++ []++cap) (fun _ H'=>H' = .box bp 223 (cP st2)::R3/\st3=Jf st2))(hno:(Jk st).bad≠0->st3=Jk st/\R3=R):Cj Tryz.prog 226 (.box bp 223 (cP st)::R) [.val (.pointer (some ⟨bp,0,none⟩)),.fn (.func f) first cap] (fun r H'=>r = .tuple []/\H' = .box bp 223 (cP st3)::R3):=by
 refine Is 39 Tryz.func226 rfl ?_;refine Ba (Qp Ce ?_);refine Qp (Af rfl) ?_;refine Qp Co ?_;refine Sw 0 (Iq _) rfl ?_;refine Qp Fc (Ap (fun hc1=>?_) fun hc1=>?_)
 .
  try simp only [Bk,Bs] at hc1
  refine AW.region (Qp Ce ?_);refine sH ((mC _ _ _).at (k:=0) (H2:=_::_) rfl rfl) ?_;refine Aq (Ba (Qp Ce ?_));refine Qp (Af rfl) ?_;refine Qp Co ?_;refine Sw 0 (Iq _) rfl ?_;refine Qp Bq (Ap (fun hc2=>?_) fun hc2=>?_)
  .
   try simp only [Bk,Bs] at hc2
   have hml:=hS.1;refine Qrt ?_;refine ⟨.inr rfl,[],.nil,_,.refl _,?_⟩;obtain ⟨e1,e2⟩:=hno (by unfold Jk;rw [hc1];simpa using hc2);subst e1;subst e2;exact ⟨rfl,congrArg (fun s=>HO.box bp 223 (cP s)::R3) (by unfold Jk;rw [hc1];rfl)⟩
  try simp only [Bk,Bs] at hc2
  exact absurd ((eS (e:=12) (by decide) st).symm.trans hc2) (by decide)
 try simp only [Bk,Bs] at hc1
 refine A5 (Ba (Qp Ce ?_));refine Qp (Af rfl) ?_;refine Qp Co ?_;refine Sw 0 (Iq _) rfl ?_;refine Qp Bq (Ap (fun hc3=>?_) fun hc3=>?_)
 .
  try simp only [Bk,Bs] at hc3
  refine Qrt ?_;refine ⟨.inr rfl,[],.nil,_,.refl _,?_⟩;obtain ⟨e1,e2⟩:=hno (by unfold Jk;rw [hc1];simpa using hc3);subst e1;subst e2;exact ⟨rfl,congrArg (fun s=>HO.box bp 223 (cP s)::R3) (by unfold Jk;rw [hc1];rfl)⟩
 try simp only [Bk,Bs] at hc3
 have hml:=hS.1;have h9:(Jk st).bad=0:=by unfold Jk;rw [hc1];simpa using hc3
 refine A5 (Aa (Qp Ce ?_));refine Qp (Af rfl) ?_;refine Qp Co ?_;refine Sw 0 (Iq _) rfl ?_;refine Qp (P_addw rfl rfl) ?_;refine Qp (Af rfl) ?_;refine Qp Co ?_;refine Bw 0 gjz (_::_) ?_;refine B2 (Qp Ce ?_);refine Qp (Af rfl) ?_;refine Qp Co ?_;refine Sw 0 (Iq _) rfl ?_;refine Qp Dt ?_;refine Qp (Af rfl) ?_;refine Qp Co ?_;refine Bw 0 gjz (_::_) ?_;refine B2 ?_;refine Qp (A0 (v:=.fn _ _ _) rfl) ?_;refine Qe (Ks hf rfl rfl rfl (hcl h9)) ?_;rintro _ _ ⟨rfl,h3⟩;refine Aq (AW.region (Qp Ce ?_));refine Qp (Af rfl) ?_;refine Qp Co ?_;refine Sw 0 (Iq _) rfl ?_;refine Qp (sF rfl rfl) ?_;refine Qp (Af rfl) ?_;refine Qp Co ?_;refine Bw 0 gjz (_::_) ?_;refine AOL.nil ?_;refine ⟨.inl rfl,[],.nil,_,.refl _,?_⟩;subst h3;exact ⟨rfl,rfl⟩
theorem p_list (st:PS)(bp:Nat)(D:Int)(hD:0<=D)(f:Nat)(hf:U3 Tryz.prog f=true)(first cap:List AV)(F:PS->Syn×PS)(hF:Ds F)(hc:∀st,okD D st->By Tryz.prog f bp 223 (cP st) (cP (F st).2) (first ++ []++cap) (.agg (cSyn (F st).1)))(hO:okD D st):By Tryz.prog 163 bp 223 (cP st) (cP ((Yc F st).2)) [.val (.pointer (some ⟨bp,0,none⟩)),.fn (.func f) first cap] (.sl 6 ((Yc F st).1.map C3)):=by
 intro H;refine Is 17 Tryz.func163 rfl ?_;refine Aa (Qp (Cm (z:=6) rfl) (B2 (Qp (A0 (v:=.fn _ _ _) rfl) (Rt (Ks (hf) rfl rfl rfl ((hc st hO).at (k:=0) (H2:=_::_) rfl rfl)) (Qe (D7 (es:=[Ag]) tok rfl rfl rfl rfl rfl rfl rfl rfl rfl) ?_)))));rintro _ _ ⟨v8,rfl,rfl⟩;refine Qp (Bb (v:=.row _ _ _) rfl) (Re (AW.block ?_));refine AW.Aan (fun (p:Nat×PS×List Syn×List (List AV)×Value)=>(⟨[(0,.val (.pointer (some ⟨bp,0,none⟩))),(1,.fn (.func f) first cap),(5,.row p.2.2.2.2 6 p.2.2.2.1)],.row p.2.2.2.2 p.2.2.2.1.length 25 6 :: .box bp 223 (cP p.2.1)::H,17⟩:St)) (fun p=>p.2.2.2.1=p.2.2.1.map C3/\okD D p.2.1/\Bm p.2.1<=p.1/\p.2.2.1.length<=p.2.1.pos+1/\Yc F st=Lq F p.1 p.2.1 p.2.2.1) (fun p=>p.1) ((Bm (F st).2,(F st).2,[(F st).1],[cSyn (F st).1],v8)) ?_ Bx ?_
 . exact ⟨by rw [P9,Bi],hF.okD hD hO,B6 _,by simp,rfl⟩
 rintro p hR;have hes:p.2.2.2.1=p.2.2.1.map C3:=hR.1;have hO2:okD D p.2.1:=hR.2.1;have hS:=hO2.1;have hfu:Bm p.2.1<=p.1:=hR.2.2.1;have hn:0<p.1:=by unfold Bm at hfu;omega
 have hol:p.2.2.1.length<=p.2.1.pos+1:=hR.2.2.2.1;have hsc:∀c∈p.2.2.2.1,A7 c=true:=by rw [hes];exact aL _
 have hel:p.2.2.2.1.length=p.2.2.1.length:=by rw [hes,B7]
 refine Ba (Qp Ce ?_);refine Rt (Dr rfl ((Ep _ _ _ (by simpa using hS) (by first | assumption | decide)).at (k:=1) (H2:=_::_::_) rfl rfl)) ?_;refine Ap (fun hc1=>?_) fun hc1=>?_
 .
  try simp only [Bk,Bs] at hc1
  have hlt:=bU hc1;have hml:=hS.1;have hFa:=hF (adv p.2.1) (by have:=hO2.2.1;show (0:Int)<=p.2.1.depth;omega) hO2.2.2;have hps:p.2.1.pos+1<=(F (adv p.2.1)).2.pos:=hFa.2.1;have hts:(F (adv p.2.1)).2.toks=p.2.1.toks:=hFa.1;refine AW.ghost (GS.Aap (H2:=_::_::_) 1 rfl (congrArg cP (Ge hc1)) rfl) ?_;refine A5 (AW.block (AW.region (Qp (A0 (v:=.row _ _ _) rfl) (Qp (A0 (v:=.fn _ _ _) rfl) ?_))));refine Rt (Ks (hf) rfl rfl rfl ((hc _ (by simpa using hO2)).at (k:=1) (H2:=_::_::_) rfl rfl)) ?_;refine Qp (G0 [Ag] rfl) ?_;refine Qe (Pk 0 rfl (Dl rfl) (hsc) (by simp;omega) (by simp [maxLen];omega)) ?_;rintro _ _ ⟨v15,rfl,rfl⟩;refine Qp (Bb (v:=.row _ _ _) rfl) (Rk ?_);refine ⟨(p.1-1,(F (adv p.2.1)).2,p.2.2.1 ++ [(F (adv p.2.1)).1],p.2.2.2.1 ++ [cSyn (F (adv p.2.1)).1],v15),?_,?_,Bx⟩
  . exact ⟨Mw hes,hF.okD hD (by simpa using hO2),by unfold Bm at hfu ⊢;rw [hts];simp only;omega,by simp only [Ax,Ot];omega,hR.2.2.2.2.trans (by rw [Oa hn,if_pos hc1])⟩
  simp only;omega
 try simp only [Bk,Bs] at hc1
 refine AW.ghost (GS.Aap (H2:=_::_::_) 1 rfl (congrArg cP (Hl hc1)) rfl) ?_;refine AW.exit ?_;refine Bn (Ri (Aa ?_));refine AOL.ghost (GS.unrow 5 rfl) ?_;refine Qp Ez (Qp Xk (Rb ?_));refine ⟨.inr rfl,[.sl _ _],Ze,_,S1,?_⟩;have h9:Yc F st=(p.2.2.1,p.2.1):=hR.2.2.2.2.trans (by rw [Oa hn,iN hc1]);exact ⟨by rw [h9,<-hes];rfl,congrArg (fun s=>HO.box bp 223 (cP s)::H) (by rw [h9])⟩
abbrev cSg (s:Av×Int):List AV:=[.str s.1,.int .i64 s.2]
theorem sg_at {sg:List (Av×Int)}{k:Nat}{s:Av×Int}(h:sg[k]? = some s):(sg.map cSg)[k]? = some [.str s.1,.int .i64 s.2]:=by rw [List.getElem?_map,h];rfl
theorem X1 {α:Type}{p:α->Bool}:∀{l:List α} {k:Nat} {x:α},(∀j y,j<k->l[j]? = some y->p y=false)->l[k]? = some x->p x=true->l.find? p=some x
  | [],k,x,_,h,_=>by simp at h
  | a::l,0,x,_,h,hp=>by
    simp only [List.getElem?_cons_zero,Option.some.injEq] at h;subst h;rw [List.find?_cons,hp]
  | a::l,k+1,x,hn,h,hp=>by
    rw [List.find?_cons,hn 0 a (by omega) rfl];exact X1 (l:=l) (k:=k) (fun j y hj hy=>hn (j+1) y (by omega) hy) h hp
theorem jK {α:Type}{p:α->Bool}{l:List α}(hn:∀j y,j<l.length->l[j]? = some y->p y=false):l.find? p=none:=by
 rw [List.find?_eq_none];intro x hx;obtain ⟨k,hk⟩:=List.getElem?_of_mem hx;have:=hn k x (List.getElem?_eq_some_iff.1 hk).1 hk;rw [this];decide
theorem bL {F:PS->Syn×PS}{sg:List (Av×Int)}{n:Nat}{st:PS}{out:Syn}(h:0<n):Rm F sg n st out=match sg.find? (fun s=>Jj s.1 st) with
  | some s=>Rm F sg (n-1) (F (adv st)).2 (Nk s.2 out (F (adv st)).1 out.pos)
  | none=>(out,st):=by
 obtain ⟨m,rfl⟩:∃m,n=m+1:=⟨n-1,by omega⟩;rfl
theorem Lu (op:Int)(x y:Syn)(k:Int):Ak Tryz.prog 287 [.int .i64 op,.agg (cSyn x),.agg (cSyn y),.int .i64 k] (.agg (cSyn (Nk op x y k))):=by
 refine Cw 15 Tryz.func287 rfl fun H=>?_
 refine Aa (Qp (Eh Ag) (Qp (Eh Ag) (Dx F1 fun b8=>B2 (Qp Ai (Qp (B1 Ag) (Qp (B1 Ag) (Qp (G0 [Ag,Ag] rfl) (Qp Ai (Qp (D0 Ag) ?_)))))))));refine Bw 0 Ag (_::_) (Rb ?_);refine Yx [.agg Ag] (Zb 0) S1 ?_;exact congrArg (fun l=>AV.agg [.int .i64 17,.str [],.str [],.int .i64 op,.sl 6 l,.int .i64 k]) (by rw [Bj,Bj,Ca,Bi,Bi]:[cSyn x,cSyn y] = [x,y].map C3)
theorem mB (st:PS)(bp:Nat)(D:Int)(hD:0<=D)(f:Nat)(hf:U3 Tryz.prog f=true)(first cap:List AV)(F:PS->Syn×PS)(hF:Ds F)(hc:∀st,okD D st->By Tryz.prog f bp 223 (cP st) (cP (F st).2) (first ++ []++cap) (.agg (cSyn (F st).1)))(hO:okD D st)(sg:List (Av×Int))(hsg:∀s∈sg,s.1.length<=1048576)(hsl:sg.length<=100):By Tryz.prog 229 bp 223 (cP st) (cP ((Tm F sg st).2)) [.val (.pointer (some ⟨bp,0,none⟩)),.fn (.func f) first cap,.sl 2 (sg.map cSg)] (.agg (cSyn (Tm F sg st).1)):=by
 intro H;refine Is 34 Tryz.func229 rfl ?_;refine Aa (Dx F1 fun b6=>B2 (Qp (A0 (v:=.fn _ _ _) rfl) (Rt (Ks (hf) rfl rfl rfl ((hc st hO).at (k:=1) (H2:=_::_::_) rfl rfl)) (Dx F1 fun b7=>?_))));refine Bw 0 Ag (_::_::_::_) (Aq (Ba (Qp Ao (Aq (AW.block ?_)))));refine AW.Aan (fun (p:Nat×PS×Syn×Bool)=>(⟨[(0,.val (.pointer (some ⟨bp,0,none⟩))),(1,.fn (.func f) first cap),(2,.sl 2 (sg.map cSg)),(6,.val (.pointer (some ⟨b6,0,none⟩))),(7,.val (.pointer (some ⟨b7,0,none⟩))),(8,.bool p.2.2.2)],.box b7 25 (cSyn p.2.2.1) :: .box b6 25 (cSyn Hb) :: .box bp 223 (cP p.2.1)::H,34⟩:St)) (fun p=>okD D p.2.1/\Bm p.2.1<=p.1/\(p.2.2.2=true->Tm F sg st=Rm F sg p.1 p.2.1 p.2.2.1)/\(p.2.2.2=false->Tm F sg st=(p.2.2.1,p.2.1))) (fun p=>(if p.2.2.2 then p.1+1 else 0)) ((Bm (F st).2,(F st).2,(F st).1,true)) ?_ Bx ?_
 . exact ⟨hF.okD hD hO,B6 _,fun _=>rfl,fun h=>(by cases h)⟩
 rintro p hR;have hO2:okD D p.2.1:=hR.1;have hS:=hO2.1;have hfu:Bm p.2.1<=p.1:=hR.2.1;have hn:0<p.1:=by unfold Bm at hfu;omega
 refine Ba (Qp A8 (Ap (fun hc1=>?_) fun hc1=>?_))
 .
  try simp only [Bk,Bs] at hc1
  refine A5 (AW.block (Aa (Qp Ao (B2 (Qp Ez ?_)))));refine Qp (Da sg.length rfl rfl (by simp)) ?_;refine Qp Ai (Aq (AW.block ?_));refine AW.Aan (fun (k:Nat)=>(⟨[(0,.val (.pointer (some ⟨bp,0,none⟩))),(1,.fn (.func f) first cap),(2,.sl 2 (sg.map cSg)),(6,.val (.pointer (some ⟨b6,0,none⟩))),(7,.val (.pointer (some ⟨b7,0,none⟩))),(8,.bool false),(14,.sl 2 (sg.map cSg)),(15,.int .i64 (sg.length:Int)),(16,.int .i64 (k:Int))],.box b7 25 (cSyn p.2.2.1) :: .box b6 25 (cSyn Hb) :: .box bp 223 (cP p.2.1)::H,34⟩:St)) (fun k=>k<=sg.length/\∀j y,j<k->sg[j]? = some y->Jj y.1 p.2.1=false) (fun k=>sg.length-k) (0) ?_ Bx ?_
  . exact ⟨A3 _,fun j y hj=>absurd hj (Nat.not_lt_zero _)⟩
  rintro k hK;refine Aa (Qp Bt (Re (E9 (fun hc2=>?_) fun hc2=>?_)))
  .
   try simp only [Bk,Bs] at hc2
   have hk:k<sg.length:=by simpa using hc2
   refine (sZ hk).elim fun x hx=>?_
   have hwx:x.1.length<=1048576:=hsg x (An hx);refine A5 (AW.seq (AW.block (Aa ?_)));refine Qp (Cp E4 rfl rfl (by omega) (sg_at hx)) ?_;refine Qp (B1 E4) (Dx gjy fun b10=>?_);refine Bw 0 E4 (_::_::_::_::_) ?_;refine Ji 10 0 rfl ?_;refine B2 (Qp Ce (Qp (Qf E4) (Qp Dk ?_)));refine Rt (Dr rfl ((Ep _ _ _ (by simpa using hS) (by first | assumption | decide)).at (k:=2) (H2:=_::_::_::_) rfl rfl)) ?_;refine Ap (fun hc3=>?_) fun hc3=>?_
   .
    try simp only [Bk,Bs] at hc3
    have hfd:sg.find? (fun s=>Jj s.1 p.2.1)=some x:=X1 hK.2 hx hc3;have hlt:=bU hc3;have hml:=hS.1;have hFa:=hF (adv p.2.1) (by have:=hO2.2.1;show (0:Int)<=p.2.1.depth;omega) hO2.2.2;have hps:p.2.1.pos+1<=(F (adv p.2.1)).2.pos:=hFa.2.1;have hts:(F (adv p.2.1)).2.toks=p.2.1.toks:=hFa.1;refine AW.ghost (GS.Aap (H2:=_::_::_::_) 2 rfl (congrArg cP (Ge hc3)) rfl) ?_;refine AW.seq (N3 0 rfl (Qn 0 rfl (Qf [Iq _]) (Qn 1 rfl Be (Qn 2 rfl (Dc.mem (fun k=>G3 (k:=k) (l:=Ag) tok rfl rfl rfl rfl rfl) (fun _ h=>h)) ?_))));refine Qn 3 rfl (A0 (v:=.fn _ _ _) rfl) (Qn 5 rfl Co (Qn 6 rfl (Kn (Iq _) rfl) ?_));refine Ur 4 rfl (Ks (hf) rfl rfl rfl ((hc _ (by simpa using hO2)).at (k:=2) (H2:=_::_::_::_) rfl rfl)) (by rintro _ _ ⟨rfl,rfl⟩;simp) ?_;rintro _ _ ⟨rfl,rfl⟩;refine Qn 7 rfl (Qc rfl (Lu _ _ _ _)) ?_;refine bH 8 rfl (Hx 0 (.agg _) Ag (_::_::_::_) rfl) ?_;rintro _ _ ⟨rfl,rfl⟩;refine A2 (Aa (Qp Ao (Aq (AW.exit ?_))));refine blkMiss rfl ?_;refine Bn (Bn (Tl (Gv (A2 ?_))));refine ⟨(p.1-1,(F (adv p.2.1)).2,Nk x.2 p.2.2.1 (F (adv p.2.1)).1 p.2.2.1.pos,true),?_,?_,Bx⟩
    . exact ⟨hF.okD hD (by simpa using hO2),by unfold Bm at hfu ⊢;rw [hts];simp only;omega,fun _=>(hR.2.2.1 hc1).trans (by rw [bL hn,hfd]),fun h=>(by cases h)⟩
    simp only [hc1,↓reduceIte,Al];omega
   try simp only [Bk,Bs] at hc3
   refine AW.ghost (GS.Aap (H2:=_::_::_::_) 2 rfl (congrArg cP (Hl hc3)) rfl) ?_;refine Rf (AW.region (Qp Dt (Qp Ai (Aq ?_))));refine ⟨k+1,?_,?_,Bx⟩
   . exact ⟨hk,fun j y hj hy=>by rcases Nat.lt_succ_iff_lt_or_eq.1 hj with h | rfl;exact hK.2 j y h hy;rw [hx] at hy;cases hy;exact hc3⟩
   omega
  try simp only [Bk,Bs] at hc2
  have hkn:¬k<sg.length:=by simpa using hc2
  have hfd:sg.find? (fun s=>Jj s.1 p.2.1)=none:=jK fun j y hj hy=>hK.2 j y (by omega) hy
  refine AW.exit ?_;refine Bn (Bn (Tl (Gv (A2 ?_))));refine ⟨(p.1,p.2.1,p.2.2.1,false),?_,?_,Bx⟩
  . exact ⟨hO2,hfu,fun h=>(by cases h),fun _=>(hR.2.2.1 hc1).trans (by rw [bL hn,hfd])⟩
  simp only [hc1,↓reduceIte,Al];omega
 try simp only [Bk,Bs] at hc1
 refine AW.exit ?_;refine Bn (Ri (Aa ?_));refine Nu 0 Ag rfl ?_;refine Bw 1 Ag (_::_::_::_) (Rb ?_);refine ⟨.inr rfl,[.agg Ag],Zb 1,_,S2,?_⟩;have h9:=hR.2.2.2 hc1;exact ⟨by rw [h9];rfl,congrArg (fun s=>HO.box bp 223 (cP s)::H) (by rw [h9])⟩
theorem u8_all' {p:UInt8->Bool}(h:(List.range 256).all (fun n=>p (UInt8.ofNat n))=true)(c:UInt8):p c=true:=by
 rw [E3] at h;have:=h c.toNat (Lf.2 c.toNat_lt)
 rwa [UInt8.ofNat_toNat] at this
def kindW:List Av:=[Gd,E6,D4]
abbrev fS (st:PS):PS:=Df Mg (Fr 0 st)
theorem pT:∀(s:Av) (n:Int),0<=n->n<=1099511627776->0<=(O9 s n).1/\(O9 s n).1<=1099511627776
  | [],n,h0,h1=>⟨h0,h1⟩
  | c::r,n,h0,h1=>by
    unfold O9;split
    . decide
    . rename_i h
      have hd:0<=dvS c:=by
        have:=u8_all' (p:=fun c=>decide (0<=dvS c)) (by kernel_rfl) c;exact Do this
      simp only [Dp,Int.not_lt] at h;exact pT r _ (by omega) h
theorem numP_le (st:PS):0<=fT st/\fT st<=1099511627776:=by
 unfold fT;split
 .
  unfold iD;split
  . decide
  exact pT _ _ (by decide) (by decide)
 decide
theorem fY (st:PS)(bp:Nat)  (hS:Th st):By Tryz.prog 330 bp 223 (cP st) (cP ((Hn st).2)) [.val (.pointer (some ⟨bp,0,none⟩))] (.agg (cSyn (Hn st).1)):=by
 intro H;refine Is 37 Tryz.func330 rfl ?_;refine Aa (Dx F1 fun b2=>B2 (Qp Ce ?_));refine AOL.Aas (C9 (k:=1) (by kernel_rfl) rfl rfl (Mt _ _)) rfl rfl ?_;refine Qp (D0 Ag) (Dx F1 fun b3=>?_);refine Bw 0 Ag (_::_::_::_) (Re (AW.block (Aa (Qp Ce ?_))));refine Rt (Dr rfl ((Ep _ _ _ (by simpa using hS) (by decide)).at (k:=2) (H2:=_::_::_::_) rfl rfl)) ?_;refine Qp Ao (Ap (fun hc1=>?_) fun hc1=>?_)
 .
  try simp only [Bk,Bs] at hc1
  refine AW.ghost (GS.Aap (H2:=_::_::_::_) 2 rfl (congrArg cP (Ge hc1)) rfl) ?_;refine AW.region (Qp Ce ?_);refine Rt (Dr rfl ((fZ _ _ (by simpa using hS)).at (k:=2) (H2:=_::_::_::_) rfl rfl)) ?_;refine Qp (P_neg rfl rfl (by have:=numP_le (adv st);constructor <;> omega)) ?_;refine Qp Co ?_;refine Bw 0 Ag (_::_::_::_) (Rk (Aa (Nu 0 Ag rfl ?_)));refine Bw 1 Ag (_::_::_::_) (Rb ?_);refine ⟨.inr rfl,[.agg Ag],Zb 1,_,S2,?_⟩;refine ⟨?_,congrArg (fun c=>HO.box bp 223 c::H) ?_⟩
  .
   try simp only [Ad,Hn,cSyn,Bj,Ca,Bi,hc1,↓reduceIte,Al,Bc,Bv]
   try rfl
  try simp only [cP,Hn,hc1,↓reduceIte,Al,Bc,Bv]
  try rfl
 try simp only [Bk,Bs] at hc1
 refine AW.ghost (GS.Aap (H2:=_::_::_::_) 2 rfl (congrArg cP (Hl hc1)) rfl) ?_;refine Aa (Qp Ce ?_);refine AOL.Aas (C9 (k:=2) (by kernel_rfl) rfl rfl (tV _ _ _ (by simpa using hS))) rfl rfl ?_;refine Qp Ao (Ap (fun hc2=>?_) fun hc2=>?_)
 .
  try simp only [Bk,Bs] at hc2
  refine AW.region (Qp Ce ?_);refine Rt (Dr rfl ((fZ _ _ (by simpa using hS)).at (k:=2) (H2:=_::_::_::_) rfl rfl)) ?_;refine Qp Co ?_;refine Bw 0 Ag (_::_::_::_) (Rk (Aa (Nu 0 Ag rfl ?_)));refine Bw 1 Ag (_::_::_::_) (Rb ?_);refine ⟨.inr rfl,[.agg Ag],Zb 1,_,S2,?_⟩;refine ⟨?_,congrArg (fun c=>HO.box bp 223 c::H) ?_⟩
  .
   try simp only [Ad,Hn,cSyn,Bj,Ca,Bi,hc1,hc2,↓reduceIte,Al,Bc,Bv]
   try rfl
  try simp only [cP,Hn,hc1,hc2,↓reduceIte,Al,Bc,Bv]
  try rfl
 try simp only [Bk,Bs] at hc2
 refine Aa (Qp Ce ?_);refine Rt (Dr rfl ((Ep _ _ _ (by simpa using hS) (by decide)).at (k:=2) (H2:=_::_::_::_) rfl rfl)) ?_;refine Qp Ao (Ap (fun hc3=>?_) fun hc3=>?_)
 .
  try simp only [Bk,Bs] at hc3
  refine AW.ghost (GS.Aap (H2:=_::_::_::_) 2 rfl (congrArg cP (Ge hc3)) rfl) ?_;refine AW.region (Qp Co ?_);refine Bw 0 Ag (_::_::_::_) (Qp Co ?_);refine Bw 0 Ag (_::_::_::_) (Rk (Aa (Nu 0 Ag rfl ?_)));refine Bw 1 Ag (_::_::_::_) (Rb ?_);refine ⟨.inr rfl,[.agg Ag],Zb 1,_,S2,?_⟩;refine ⟨?_,congrArg (fun c=>HO.box bp 223 c::H) ?_⟩
  .
   try simp only [Ad,Hn,cSyn,Bj,Ca,Bi,hc1,hc2,hc3,↓reduceIte,Al,Bc,Bv]
   try rfl
  try simp only [cP,Hn,hc1,hc2,hc3,↓reduceIte,Al,Bc,Bv]
  try rfl
 try simp only [Bk,Bs] at hc3
 refine AW.ghost (GS.Aap (H2:=_::_::_::_) 2 rfl (congrArg cP (Hl hc3)) rfl) ?_;refine Aa (Qp Ce ?_);refine Rt (Dr rfl ((Ep _ _ _ (by simpa using hS) (by decide)).at (k:=2) (H2:=_::_::_::_) rfl rfl)) ?_;refine Qp Ao (Ap (fun hc4=>?_) fun hc4=>?_)
 .
  try simp only [Bk,Bs] at hc4
  refine AW.ghost (GS.Aap (H2:=_::_::_::_) 2 rfl (congrArg cP (Ge hc4)) rfl) ?_;refine AW.region (Qp Co ?_);refine Bw 0 Ag (_::_::_::_) (Rk (Aa (Nu 0 Ag rfl ?_)));refine Bw 1 Ag (_::_::_::_) (Rb ?_);refine ⟨.inr rfl,[.agg Ag],Zb 1,_,S2,?_⟩;refine ⟨?_,congrArg (fun c=>HO.box bp 223 c::H) ?_⟩
  .
   try simp only [Ad,Hn,cSyn,Bj,Ca,Bi,hc1,hc2,hc3,hc4,↓reduceIte,Al,Bc,Bv]
   try rfl
  try simp only [cP,Hn,hc1,hc2,hc3,hc4,↓reduceIte,Al,Bc,Bv]
  try rfl
 try simp only [Bk,Bs] at hc4
 refine AW.ghost (GS.Aap (H2:=_::_::_::_) 2 rfl (congrArg cP (Hl hc4)) rfl) ?_;refine Aa (Qp Co ?_);refine Bw 0 Ag (_::_::_::_) (Aq (AW.region (Qp Ce ?_)));refine Rt (Dr rfl ((mD _ _ _ (by simpa using hS)).at (k:=2) (H2:=_::_::_::_) rfl rfl)) ?_;refine Qp Ml (Qp kT (Qp bG (Qp Co ?_)));refine Bw 0 Ag (_::_::_::_) (Rk (Aa (Nu 0 Ag rfl ?_)));refine Bw 1 Ag (_::_::_::_) (Rb ?_);refine ⟨.inr rfl,[.agg Ag],Zb 1,_,S2,?_⟩;refine ⟨?_,congrArg (fun c=>HO.box bp 223 c::H) ?_⟩
 .
  try simp only [Ad,Hn,cSyn,Bj,Ca,Bi,hc1,hc2,hc3,hc4,↓reduceIte,Al,Bc,Bv]
  try rfl
 try simp only [cP,Hn,hc1,hc2,hc3,hc4,↓reduceIte,Al,Bc,Bv]
 try rfl
theorem pY (st:PS)(bp:Nat)(z:Syn)(bo:Nat)(hS:Th st)(R:List HO):Cj Tryz.prog 329 (.box bp 223 (cP st) :: .box bo 25 (cSyn z)::R) [.val (.pointer (some ⟨bp,0,none⟩)),.val (.pointer (some ⟨bo,0,none⟩))] (fun r H'=>r = .tuple []/\H' = .box bp 223 (cP (tD st).2) :: .box bo 25 (cSyn { z with text:=(tD st).1.1,name:=(tD st).1.2 })::R):=by
 refine Is 18 Tryz.func329 rfl ?_;refine Aa (Qp Ce ?_);refine Rt (Dr rfl ((Et _ _ _ (by simpa using hS) (by decide)).at (k:=0) (H2:=_::_::_) rfl rfl)) ?_;refine B2 (Qp Ce (Qp Ce ?_));refine Rt (Dr rfl ((Se _ _ (by simpa using hS)).at (k:=0) (H2:=_::_::_) rfl rfl)) ?_;refine Qp (Af rfl) (Qp Co ?_);refine Bw 1 Ag (_::_::_) (B2 (Qp Ce ?_));refine Rt (Dr rfl ((Et _ _ _ (by simpa using hS) (by decide)).at (k:=0) (H2:=_::_::_) rfl rfl)) ?_;refine Aq (AW.region (Qp Ce (Qp Ce ?_)));refine Rt (Dr rfl ((Se _ _ (by simpa using hS)).at (k:=0) (H2:=_::_::_) rfl rfl)) ?_;refine Qp (Af rfl) (Qp Co ?_);refine Bw 1 Ag (_::_::_) (AOL.nil ?_);refine ⟨.inl rfl,[],.nil,_,.refl _,?_⟩;exact ⟨rfl,rfl⟩
def Lg (a b:PS):Prop:=b.toks=a.toks/\a.pos<=b.pos/\b.depth=a.depth
theorem Lg.refl (a:PS):Lg a a:=⟨rfl,B6 _,rfl⟩
theorem Lg.trans {a b c:PS}(h:Lg a b)(k:Lg b c):Lg a c:=⟨k.1.trans h.1,Fl h.2.1 k.2.1,k.2.2.trans h.2.2⟩
theorem Lg.adv (a:PS):Lg a (adv a):=⟨rfl,Nat.le_succ _,rfl⟩
theorem Lg.fail (e:Int)(a:PS):Lg a (G8 e a):=⟨Oo _ _,Nat.le_of_eq (aG _ _).symm,Ux _ _⟩
theorem Lg.exp (w:Av)(a:PS):Lg a (Df w a):=⟨aQ _ _,pos_expP _ _,nW _ _⟩
theorem Lg.tok (k:Int)(a:PS):Lg a (Fr k a):=⟨aR _ _,pos_tokP _ _,nX _ _⟩
def sI (a:PS):Prop:=0<=a.depth/\a.depth<=64
theorem Lg.rng {a b:PS}(h:Lg a b)(r:sI a):sI b:=by unfold sI;rw [h.2.2];exact r
theorem Ds.goes {F:PS->Syn×PS}(h:Ds F){a:PS}(r:sI a):Lg a (F a).2:=h a r.1 r.2
theorem Lg.read {F:PS->Syn×PS}(h:Ds F){a b:PS}(r:sI a)(k:Lg a b):Lg a (F b).2:=k.trans (h.goes (k.rng r))
theorem Ds.of {F:PS->Syn×PS}(h:∀st,sI st->Lg st (F st).2):Ds F:=fun st h0 h1=>h st ⟨h0,h1⟩
theorem Tu {F:PS->Syn×PS}(hF:Ds F):∀(n:Nat) (st:PS) (out:List Syn),sI st->Lg st (Lq F n st out).2
  | 0,st,out,r=>.refl _
  | n+1,st,out,r=>by
    unfold Lq;split
    . have h:=Lg.read hF r (.adv st)
      exact h.trans (Tu hF n _ _ (h.rng r))
    exact .refl _
theorem jO {F:PS->Syn×PS}(hF:Ds F){st:PS}(r:sI st):Lg st (Yc F st).2:=by
 have h:=hF.goes r;exact h.trans (Tu hF _ _ _ (h.rng r))
theorem fA (st:PS):Lg st (Hn st).2:=by
 unfold Hn;split
 . exact (Lg.adv _).trans (.tok _ _)
 split
 . exact .tok _ _
 split
 . exact .adv _
 split
 . exact .adv _
 exact .tok _ _
theorem fine_const:Ds Hn:=.of fun st _=>fA st
theorem fB (st:PS):Lg st (tD st).2:=((((Lg.exp _ _).trans (.tok _ _)).trans (.exp _ _)).trans (.tok _ _))
@[simp] theorem okS_insP (st : PS) : Th (tD st).2 ↔ Th st := Pu (fB st).1
@[simp] theorem okS_constP (st : PS) : Th (Hn st).2 ↔ Th st := Pu (fA st).1
theorem nB {n:Int}(h0 : -1000<=n)(h1:n<=1000):IntKind.i64.wrap n=n:=by
 unfold IntKind.wrap IntKind.signed IntKind.bits;simp only [↓reduceIte,Ee,Dp,ge_iff_le];split <;> omega
theorem Zz {read:Syn->PS->Syn×PS}{z:Syn}{st:PS}(r:sI st)(h:∀s:PS,sI s->Lg s (read z s).2):Lg st (O8 read z st).2:=by
 have hf:Lg st (Jk st):=by
  unfold Jk;split
  . exact .fail _ _
  exact .refl _
 have e0:O8 read z st=if ((Jk st).bad != 0) then (z,Jk st) else ((read z (adv (Jx st))).1,Jf (read z (adv (Jx st))).2):=rfl
 rw [e0];split
 . exact hf
 rename_i hb;by_cases hd:64<=st.depth
 .
  exfalso
  apply hb
  unfold Jk;rw [if_pos (decide_eq_true hd)];exact eS (by decide) _
 have e1:(Jx st).depth=st.depth+1:=nB (by have:=r.1;omega) (by omega);have k:=h (adv (Jx st)) ⟨show 0<=(Jx st).depth by rw [e1];have:=r.1;omega,show (Jx st).depth<=64 by rw [e1];omega⟩;refine ⟨k.1,Fl (Nat.le_succ _) k.2.1,?_⟩;show IntKind.i64.wrap ((read z (adv (Jx st))).2.depth-1)=st.depth;rw [k.2.2,show (adv (Jx st)).depth=(Jx st).depth from rfl,e1,nB (by have:=r.1;omega) (by omega)];omega
theorem jL {E:PS->Syn×PS}(hE:Ds E):Ds (Kk E):=.of fun st r=>by
 unfold Kk;split
 . exact Zz r fun s r=>(hE.goes r).trans (.exp _ _)
 split
 .
  simp only;have h:=((Lg.adv st).trans (fB _)).trans (.exp Dm _);exact (h.trans (fine_const.goes (h.rng r))).trans (.exp _ _)
 split
 . exact ((Lg.adv st).trans (fB _)).trans (.exp _ _)
 split
 . exact (((Lg.adv st).trans (.exp _ _)).trans (.tok _ _)).trans (.exp _ _)
 split
 .
  simp only;split
  . exact ((Lg.tok _ _).trans (.exp _ _)).trans (.adv _)
  exact ((Lg.tok _ _).trans (.exp _ _)).trans (.tok _ _)
 exact fine_const.goes r
theorem X6 {F:PS->Syn×PS}(hF:Ds F){sg:List (Av×Int)}:∀(n:Nat) (st:PS) (out:Syn),sI st->Lg st (Rm F sg n st out).2
  | 0,st,out,r=>.refl _
  | n+1,st,out,r=>by
    unfold Rm;split
    . have h:=Lg.read hF r (.adv st)
      exact h.trans (X6 hF n _ _ (h.rng r))
    exact .refl _
theorem Ru {F:PS->Syn×PS}(hF:Ds F)(sg:List (Av×Int)):Ds (Tm F sg):=.of fun st r=>by
 have h:=hF.goes r;exact h.trans (X6 hF _ _ _ (h.rng r))
theorem eV {E:PS->Syn×PS}(hE:Ds E):Ds (L3 E):=Ru (jL hE) sumL
theorem fine_cmp {E:PS->Syn×PS}(hE:Ds E):Ds (Qm E):=.of fun st r=>by
 have h:=(eV hE).goes r;have h2:=(h.trans (.adv _)).trans ((eV hE).goes ((h.trans (.adv _)).rng r));unfold Qm;simp only
 repeat' split
 all_goals first | exact h2 | exact h
theorem Tp {E N:PS->Syn×PS}(hE:Ds E)(hN:Ds N):Ds (cN E N):=.of fun st r=>by
 unfold cN;split
 . exact (fine_cmp hE).goes r
 exact Zz r fun s r=>hN.goes r
theorem vV {E N:PS->Syn×PS}(hE:Ds E)(hN:Ds N):Ds (orP E N):=Ru (Ru (Tp hE hN) andL) orL
theorem Ia:Ds Ft:=.of fun st _=>.refl _
theorem K3:∀n,Ds (Wo n).1/\Ds (Wo n).2
 | 0=>⟨Tp Ia Ia,vV Ia Ia⟩
 | n+1=>⟨Tp (K3 n).2 (K3 n).1,vV (K3 n).2 (K3 n).1⟩
theorem eU {E:PS->Syn×PS}(hE:Ds E):Ds (M5 E):=.of fun st r=>by
 have h:Lg st (Fr 0 (Fr 0 st)):=(Lg.tok _ _).trans (.tok _ _);unfold M5;simp only;split
 . exact Lg.read hE r (h.trans (.adv _))
 exact h
theorem goes_sev {T:PS->Syn×PS}(hT:Ds T)(z:Syn){st:PS}(r:sI st):Lg st (rA T z st).2:=by
 have h:=Lg.read hT r (.exp Dm st);exact h.trans (Tu hT _ _ _ (h.rng r))
theorem jP {E T:PS->Syn×PS}(hE:Ds E)(hT:Ds T)(k:Int)(z:Syn){st:PS}(r:sI st):Lg st (H1 E T k z st).2:=by
 unfold H1;split
 . exact goes_sev hT z r
 split
 . exact .refl _
 split
 . exact Lg.read (eU hE) r (.exp _ _)
 split
 . exact (Lg.exp _ _).trans (.tok _ _)
 exact Lg.read hE r (.exp _ _)
theorem oH {E T:PS->Syn×PS}(hE:Ds E)(hT:Ds T):Ds (iE E T):=.of fun st r=>by
 unfold iE;split
 .
  refine Zz r fun s r=>?_
  have h:=Lg.read hT r (.exp Fh s);exact (h.trans (jP hE hT _ _ (h.rng r))).trans (.exp _ _)
 exact (eU hE).goes r
theorem Zv {E:PS->Syn×PS}(hE:Ds E):∀n,Ds (zS E n)
 | 0=>oH hE Ia
 | n+1=>oH hE (Zv hE n)
theorem oQ (st:PS)(k:Int):Lg st (tE st k).2:=by
 unfold tE;split
 . exact (Lg.adv _).trans (.tok _ _)
 exact .refl _
theorem sX {E T:PS->Syn×PS}(hE:Ds E)(hT:Ds T):Ds (I0 E T):=.of fun st r=>by
 have h1:Lg st (Df H4 (tE (Fr 0 (Df He st)) (D2 st)).2):=(((Lg.exp _ _).trans (.tok _ _)).trans (oQ _ _)).trans (.exp _ _);have h2:=(Lg.read hT r h1).trans (.exp Ib _);exact (h2.trans (jO hE (h2.rng r))).trans (.exp _ _)
theorem Bl {α:Type}{c:Bool}{a b:α}(h:c=false):(if c=true then a else b)=b:=iN h
theorem gt2 {α:Type}{l:List α}{k:Nat}(h:k<l.length):∃x,l[k]? = some x:=⟨_,List.getElem?_eq_getElem h⟩
theorem Sz {α:Type}{l:List α}{k:Nat}{x:α}(h:l[k]? = some x):k<l.length:=(List.getElem?_eq_some_iff.1 h).1
theorem lP {t:Syn}{k:Nat}(h:k<t.kids.length):t.kids[k]? = some (Cd t k):=by simp [Cd,Ii,List.getElem?_eq_getElem h]
theorem X7 {t:Syn}{i:Nat}{x:Bool}(hi:i<t.kids.length)(hG:M2 [(x,true),((((i:Int)==0)),false)]):0<=(i:Int)-1/\(t.kids.map C3)[((i:Int)-1).toNat]? = some (cSyn (Cd t (i-1))):=by
 have h0:((i:Int)==0)=false:=hG (((i:Int)==0),false) (by simp);have h1:i≠0:=by intro e;subst e;cases h0
 have hw:(i:Int)-1=((i-1:Nat):Int):=by omega
 rw [hw,Um];exact ⟨by omega,C8 (lP (by omega))⟩
def nF:Pl->AV
 | .only k=>.fn (.func 153) [] [.ptr [.int .i64 k]]
 | .pats=>.fn (.func 206) [] []
 | .exps=>.fn (.func 266) [] []
theorem w_pats (k:Int):Ak Tryz.prog 206 [.int .i64 k] (.bool (isPat k)):=by
 refine Cw 9 Tryz.func206 rfl fun H=>?_
 refine Aa (Qp Ao (B2 (Qp Ai (Qp Fc (Qp A8 (Qg [] Qw Ai (Qg [(6,_)] Qw Mk (Qp Ej (Qp Ao (Rb (Qr (.bool _) ?_)))))))))));rfl
theorem w_exps (k:Int):Ak Tryz.prog 266 [.int .i64 k] (.bool (isExp k)):=by
 refine Cw 9 Tryz.func266 rfl fun H=>?_
 refine Aa (Qp Ao (B2 (Qp Ai (Qp Fc (Qp A8 (Qg [] Qw Ai (Qg [(6,_)] Qw Mk (Qp Ej (Qp Ao (Rb (Qr (.bool _) ?_)))))))))));rfl
theorem Uh (k:Int):Ak Tryz.prog 88 [.int .i64 k] (nF (.only k)):=by
 refine Cw 4 Tryz.func88 rfl fun H=>?_
 refine Aa (Qp (Vk (v:=Iq _) (cs:=[Iq _]) rfl rfl rfl) (Qp Qh (B2 (Qp (Ci (l:=[]) (l':=[.ptr _]) rfl rfl) (Qp (Bb (v:=.fn _ _ _) rfl) (Rb (Qr (.fn _ _ _) ?_)))))));rfl
theorem w_only1 (k x:Int):Ak Tryz.prog 153 [.int .i64 x,.ptr [.int .i64 k]] (.bool (x==k)):=by
 refine Cw 7 Tryz.func153 rfl fun H=>?_
 refine Aa (Qp Ao (B2 (Qp Ai (Qp Be (Qp Aj (Qp Ao (Rb (Qr (.bool _) ?_))))))));rfl
theorem rT (p k:Int):Ak Tryz.prog 205 [.int .i64 p,.int .i64 k] (.bool (Gq p k)):=by
 refine Cw 18 Tryz.func205 rfl fun H=>?_
 refine Aa (Qp Ao (Aq (Ba (Qp Ai (Aq (AW.block (Aa (Qp Aj (Qp Ao (Ap (fun hc1=>Aa (Qp Ai (Qp Aj (Qp A8 (Qg [] Qw Ai (Qg [(11,_)] Qw Aj (Qp Cr (Qp Ao (Rb (Cn (Au (Qr (.bool _) ?_)))))))))))) fun hc1=>?_))))))))))
 . simp only [Ad,Gq,hc1,↓reduceIte,Al]
 refine Aa (Qp Aj (Qp Ao (Ap (fun hc2=>Aa (Qp Ai (Qp Aj (Qp Ao (Ra (Qr (.bool _) ?_)))))) fun hc2=>Rf (Aa (Qp Ao (Rb (Qr (.bool _) ?_)))))))
 . simp only [Ad,Gq,hc1,hc2,↓reduceIte,Al]
 simp only [Ad,Gq,hc1,hc2,↓reduceIte,Al]
theorem pl_fn (p:Pl):∃f first cap,nF p = .fn (.func f) first cap/\U3 Tryz.prog f=true/\∀k,Ak Tryz.prog f (first ++ [.int .i64 k]++cap) (.bool (p.at k)):=by
 cases p with
 | only k=>exact ⟨_,_,_,rfl,by kernel_rfl,fun x=>w_only1 k x⟩
 | pats=>exact ⟨_,_,_,rfl,by kernel_rfl,fun x=>w_pats x⟩
 | exps=>exact ⟨_,_,_,rfl,by kernel_rfl,fun x=>w_exps x⟩
theorem w_shaped (t:Syn):Ak Tryz.prog 201 [.agg (cSyn t)] (.bool (Fy t)):=by
 refine Cw 49 Tryz.func201 rfl fun H=>?_
 refine Aa (Qp (Eh Ag) (Qp Ao (B2 (Qp (Qf Iv) (Qp Cg ?_)))));refine Qp (Da t.kids.length rfl rfl (by simp)) ?_;refine Qp Ah (Aq (Ba (Qp (Qf Ag) (Qp Be (Aq (AW.block ?_))))));refine AW.Aar (fun (_:Unit)=>(⟨[(1,.ptr (cSyn t)),(3,.int .i64 (t.kids.length:Int)),(8,.int .i64 t.kind),(9,.bool (((t.kind==0)||(t.kind==1))))],H,49⟩:St)) (fun _=>True) ?_ ?_
 .
  refine Aa (Qp Aj (Qp Ao (Ap (fun hc1=>A5 ?_) fun hc1=>AW.region (Qp Aj (Qp Ao (Aq ?_))))))
  .
   refine ⟨(),?_,GS.weaken ⟨rfl,rfl,rfl,congrArg AV.bool (by simp [*]),trivial⟩ (.refl _)⟩
   trivial
  refine ⟨(),?_,GS.weaken ⟨rfl,rfl,rfl,congrArg AV.bool (by simp [*]),trivial⟩ (.refl _)⟩
  trivial
 rintro _ _;refine E9 (fun hc2=>Aa (Qp Ao (Ra (Qr (.bool _) ?_)))) fun hc2=>Aa (Qp Aj (Qp Ao (Ap (fun hc3=>Aa (Qp Ai (Qp Fc (Qp Ao (Ra (Qr (.bool _) ?_)))))) fun hc3=>Aa (Qp Aj (Qp Ao (Ap (fun hc4=>Aa (Qp Ai (Qp Mk (Qp Ao (Ra (Qr (.bool _) ?_)))))) fun hc4=>?_))))))
 . simp only [Ad,Fy,hc2,↓reduceIte,Al]
 . simp only [Ad,Fy,hc2,hc3,↓reduceIte,Al]
 . simp only [Ad,Fy,hc2,hc3,hc4,↓reduceIte,Al]
 refine AW.Aar (fun (_:Unit)=>(⟨[(1,.ptr (cSyn t)),(3,.int .i64 (t.kids.length:Int)),(8,.int .i64 t.kind),(20,.bool ((((t.kind==6)||(t.kind==7))||(t.kind==8))))],H,49⟩:St)) (fun _=>True) ?_ ?_
 .
  refine Aa (Qp Aj (Qp Ao (Ap (fun hc5=>A5 ?_) fun hc5=>Aa (Qp Aj (Qp Ao (Ap (fun hc6=>A5 ?_) fun hc6=>AW.region (Qp Aj (Qp Ao (Aq ?_)))))))))
  .
   refine ⟨(),?_,GS.weaken ⟨rfl,rfl,rfl,congrArg AV.bool (by simp [*]),trivial⟩ (.refl _)⟩
   trivial
  .
   refine ⟨(),?_,GS.weaken ⟨rfl,rfl,rfl,congrArg AV.bool (by simp [*]),trivial⟩ (.refl _)⟩
   trivial
  refine ⟨(),?_,GS.weaken ⟨rfl,rfl,rfl,congrArg AV.bool (by simp [*]),trivial⟩ (.refl _)⟩
  trivial
 rintro _ _;refine E9 (fun hc7=>Aa (Qp Ai (Qp Fc (Qp Ao (Ra (Qr (.bool _) ?_)))))) fun hc7=>?_
 . simp only [Ad,Fy,hc2,hc3,hc4,hc7,↓reduceIte,Al]
 refine AW.Aar (fun (_:Unit)=>(⟨[(1,.ptr (cSyn t)),(3,.int .i64 (t.kids.length:Int)),(8,.int .i64 t.kind),(26,.bool ((((t.kind==9)||(t.kind==11))||(t.kind==18))))],H,49⟩:St)) (fun _=>True) ?_ ?_
 .
  refine Aa (Qp Aj (Qp Ao (Ap (fun hc8=>A5 ?_) fun hc8=>Aa (Qp Aj (Qp Ao (Ap (fun hc9=>A5 ?_) fun hc9=>AW.region (Qp Aj (Qp Ao (Aq ?_)))))))))
  .
   refine ⟨(),?_,GS.weaken ⟨rfl,rfl,rfl,congrArg AV.bool (by simp [*]),trivial⟩ (.refl _)⟩
   trivial
  .
   refine ⟨(),?_,GS.weaken ⟨rfl,rfl,rfl,congrArg AV.bool (by simp [*]),trivial⟩ (.refl _)⟩
   trivial
  refine ⟨(),?_,GS.weaken ⟨rfl,rfl,rfl,congrArg AV.bool (by simp [*]),trivial⟩ (.refl _)⟩
  trivial
 rintro _ _;refine E9 (fun hc10=>Aa (Qp Ai (Qp Aj (Qp Ao (Ra (Qr (.bool _) ?_)))))) fun hc10=>?_
 . simp only [Ad,Fy,hc2,hc3,hc4,hc7,hc10,↓reduceIte,Al]
 refine AW.Aar (fun (_:Unit)=>(⟨[(1,.ptr (cSyn t)),(3,.int .i64 (t.kids.length:Int)),(8,.int .i64 t.kind),(32,.bool ((((t.kind==10)||(t.kind==12))||(t.kind==17))))],H,49⟩:St)) (fun _=>True) ?_ ?_
 .
  refine Aa (Qp Aj (Qp Ao (Ap (fun hc11=>A5 ?_) fun hc11=>Aa (Qp Aj (Qp Ao (Ap (fun hc12=>A5 ?_) fun hc12=>AW.region (Qp Aj (Qp Ao (Aq ?_)))))))))
  .
   refine ⟨(),?_,GS.weaken ⟨rfl,rfl,rfl,congrArg AV.bool (by simp [*]),trivial⟩ (.refl _)⟩
   trivial
  .
   refine ⟨(),?_,GS.weaken ⟨rfl,rfl,rfl,congrArg AV.bool (by simp [*]),trivial⟩ (.refl _)⟩
   trivial
  refine ⟨(),?_,GS.weaken ⟨rfl,rfl,rfl,congrArg AV.bool (by simp [*]),trivial⟩ (.refl _)⟩
  trivial
 rintro _ _;refine E9 (fun hc13=>Aa (Qp Ai (Qp Aj (Qp Ao (Ra (Qr (.bool _) ?_)))))) fun hc13=>?_
 . simp only [Ad,Fy,hc2,hc3,hc4,hc7,hc10,hc13,↓reduceIte,Al]
 refine Aa (Qp Aj (Qp Ao (Ap (fun hc14=>Ba (Qp (Qf M7) (Qp Be (Qp Aj (Ap (fun hc15=>Aa (Qp Ai (Qp Aj (Qp Ao (Rc (Cn (Au (Qr (.bool _) ?_)))))))) fun hc15=>A5 (Aa (Qp Ai (Qp Aj (Qp Ao (Ra (Qr (.bool _) ?_))))))))))) fun hc14=>?_)))
 . simp only [Ad,Fy,hc2,hc3,hc4,hc7,hc10,hc13,hc14,hc15,↓reduceIte,Al]
 . simp only [Ad,Fy,hc2,hc3,hc4,hc7,hc10,hc13,hc14,hc15,↓reduceIte,Al]
 refine Rf (Aa (Qp Ai (Qp Aj (Qp Ao (Rb (Qr (.bool _) ?_))))));simp only [Ad,Fy,hc2,hc3,hc4,hc7,hc10,hc13,hc14,↓reduceIte,Al]
theorem w_uses (k:Int):Ak Tryz.prog 263 [.int .i64 k] (.tuple [.bool (Te k).1,.bool (Te k).2]):=by
 refine Cw 15 Tryz.func263 rfl fun H=>?_
 refine Aa (Qp Ao (Qp Ao (Aq (Ba (Qp Ai (Aq (AW.block ?_)))))));refine AW.Aar (fun (_:Unit)=>(⟨[(4,.int .i64 k),(5,.bool ((((k==5)||(k==14))||(k==16))))],H,15⟩:St)) (fun _=>True) ?_ ?_
 .
  refine Aa (Qp Aj (Qp Ao (Ap (fun hc1=>A5 ?_) fun hc1=>Aa (Qp Aj (Qp Ao (Ap (fun hc2=>A5 ?_) fun hc2=>AW.region (Qp Aj (Qp Ao (Aq ?_)))))))))
  .
   refine ⟨(),?_,GS.weaken ⟨rfl,congrArg AV.bool (by simp [*]),trivial⟩ (.refl _)⟩
   trivial
  .
   refine ⟨(),?_,GS.weaken ⟨rfl,congrArg AV.bool (by simp [*]),trivial⟩ (.refl _)⟩
   trivial
  refine ⟨(),?_,GS.weaken ⟨rfl,congrArg AV.bool (by simp [*]),trivial⟩ (.refl _)⟩
  trivial
 rintro _ _;refine E9 (fun hc3=>Aa (Qp Ao (Qp Ao (Ra (Ku (.bool _) (.bool _) ?_))))) fun hc3=>?_
 . simp only [Ad,Te,hc3,↓reduceIte,Al]
 refine AW.Aar (fun (_:Unit)=>(⟨[(4,.int .i64 k),(9,.bool ((((((k==1)||(k==2))||(k==3))||(k==4))||(k==15))))],H,15⟩:St)) (fun _=>True) ?_ ?_
 .
  refine Aa (Qp Aj (Qp Ao (Ap (fun hc4=>A5 ?_) fun hc4=>Aa (Qp Aj (Qp Ao (Ap (fun hc5=>A5 ?_) fun hc5=>Aa (Qp Aj (Qp Ao (Ap (fun hc6=>A5 ?_) fun hc6=>Aa (Qp Aj (Qp Ao (Ap (fun hc7=>A5 ?_) fun hc7=>AW.region (Qp Aj (Qp Ao (Aq ?_)))))))))))))))
  .
   refine ⟨(),?_,GS.weaken ⟨rfl,congrArg AV.bool (by simp [*]),trivial⟩ (.refl _)⟩
   trivial
  .
   refine ⟨(),?_,GS.weaken ⟨rfl,congrArg AV.bool (by simp [*]),trivial⟩ (.refl _)⟩
   trivial
  .
   refine ⟨(),?_,GS.weaken ⟨rfl,congrArg AV.bool (by simp [*]),trivial⟩ (.refl _)⟩
   trivial
  .
   refine ⟨(),?_,GS.weaken ⟨rfl,congrArg AV.bool (by simp [*]),trivial⟩ (.refl _)⟩
   trivial
  refine ⟨(),?_,GS.weaken ⟨rfl,congrArg AV.bool (by simp [*]),trivial⟩ (.refl _)⟩
  trivial
 rintro _ _;refine E9 (fun hc8=>Aa (Qp Ao (Qp Ao (Ra (Ku (.bool _) (.bool _) ?_))))) fun hc8=>Rf (Aa (Qp Ao (Qp Ao (Rb (Ku (.bool _) (.bool _) ?_)))))
 . simp only [Ad,Te,hc3,hc8,↓reduceIte,Al]
 simp only [Ad,Te,hc3,hc8,↓reduceIte,Al]
theorem w_is (s:Av)(hl:s.length<=1048576):Ak Tryz.prog 262 [.str s] (.bool (Q3 s)):=by
 refine Cw 6 Tryz.func262 rfl fun H=>?_
 refine Aa (Qp Ao (B2 (Qp D3 (Qp (Qc rfl (c20 s hl)) (Qp Aj (Qp Ao (Rb (Qr (.bool _) ?_))))))));rfl
theorem w_named (t:Syn)(ht:t.text.length<=1048576)(hn:t.name.length<=1048576):Ak Tryz.prog 202 [.agg (cSyn t)] (.bool (Wm t)):=by
 refine Cw 48 Tryz.func202 rfl fun H=>?_
 refine Aa (Qp (Eh Ag) (Qp Ao (B2 (Qp (Bb (v:=.fn _ _ _) rfl) (B2 (Qp (Qf Ag) (Qp Be (Qp (Qc rfl (w_uses t.kind)) (Qp Ml (Qp bG (Qp bG (Qp Ao (Qp Ao (Aq (Ba (Qp A8 (Qp A8 (Qg [] Qw (A0 (v:=.fn _ _ _) rfl) (Qg [] Qw (Qf Oy) (Qg [(15,_)] Qw Dk ?_))))))))))))))))))));refine Yh [(16,_),(14,_)] Yw (fun hG=>Pi (by kernel_rfl) rfl rfl rfl (w_is t.text ht)) ?_;refine Qg [(17,_)] Qw E7 (Qp Ej (Qp A8 (Qg [] Qw (Qf Ag) (Qg [(21,_)] Qw Be (Qg [(22,_)] Qw Bq (Qg [(23,_)] Qw A8 (Qg [] Qw (Qf Oy) (Qg [(25,_)] Qw Dk ?_))))))));refine Qg [(26,_)] Qw (Dq rfl rfl) (Qg [(24,_),(27,_)] Qw Cr (Qp Ej (Ap (fun hc1=>Aa (Qp Ao (Rc (Qr (.bool _) ?_)))) fun hc1=>A5 (Aa (Qp A8 (Qp E7 (Qp A8 (Qg [] Qw (A0 (v:=.fn _ _ _) rfl) (Qg [] Qw (Qf Xe) (Qg [(34,_)] Qw Dk ?_))))))))))
 .
  simp only [Ad,Wm];rw [if_pos hc1]
 refine Yh [(35,_),(33,_)] Yw (fun hG=>Pi (by kernel_rfl) rfl rfl rfl (w_is t.name hn)) ?_;refine Qp Cr (Qp A8 (Qg [] Qw (Qf Ag) (Qg [(39,_)] Qw Be (Qg [(40,_)] Qw Aj (Qg [(41,_)] Qw A8 (Qg [] Qw (Qf Xe) (Qg [(43,_)] Qw Dk (Qg [(44,_)] Qw (A9 rfl rfl) (Qg [(42,_),(45,_)] Qw Ej (Qp Cr (Qp Ao (Rb (Qr (.bool _) ?_)))))))))))));simp only [Ad,Wm];rw [Bl hc1]
theorem w_const (t:Syn):Ak Tryz.prog 264 [.agg (cSyn t)] (.int .i64 (G7 t)):=by
 refine Cw 37 Tryz.func264 rfl fun H=>?_
 refine Aa (Qp (Eh Ag) (Qp Ah (B2 (Qp Ah (Qp Ah (Aq (Ba (Qp (Qf Xe) ?_))))))));refine Qp Dk (Aq (AW.block (Aa (Qp (A9 rfl rfl) (Qp Ao (Ap (fun hc1=>Rf (AW.seq (AW.block (Aa (Qp (Qf M7) (Qp Be (Qp Ai (Qp Bt (Qp A8 (Qg [] Qw (Qf M7) (Qg [(28,_)] Qw Be (Qg [] Qw Ai ?_)))))))))))) fun hc1=>?_))))))
 .
  refine Qg [(29,_),(30,_)] Yw De (Qp Cr (Qp Ao (Ap (fun hc2=>Aa (Qp Ah (Ra (Qr (Iq _) ?_)))) fun hc2=>Aa (Qp (Qf Oy) (Qp Dk (Qp (Dq rfl rfl) (Qp Ao (Ap (fun hc3=>Aa (Qp Ah (Ra (Qr (Iq _) ?_)))) fun hc3=>Rf (Aa (Qp Ah (Rb (Qr (Iq _) ?_))))))))))))
  .
   simp only [Ad,G7];rw [if_pos hc1,if_pos hc2]
  .
   simp only [Ad,G7];rw [if_pos hc1,Bl hc2,if_pos hc3]
  simp only [Ad,G7];rw [if_pos hc1,Bl hc2,Bl hc3]
 refine Aa (Qp (A9 rfl rfl) (Qp Ao (Ap (fun hc4=>AW.region (Qp Ah (Qp Ah (Rk (AW.seq (AW.block (Aa (Qp (Qf M7) (Qp Be (Qp Ai (Qp Bt (Qp A8 (Qg [] Qw (Qf M7) (Qg [(28,_)] Qw Be (Qg [] Qw Ai ?_))))))))))))))) fun hc4=>?_)))
 .
  refine Qg [(29,_),(30,_)] Yw De (Qp Cr (Qp Ao (Ap (fun hc5=>Aa (Qp Ah (Ra (Qr (Iq _) ?_)))) fun hc5=>Aa (Qp (Qf Oy) (Qp Dk (Qp (Dq rfl rfl) (Qp Ao (Ap (fun hc6=>Aa (Qp Ah (Ra (Qr (Iq _) ?_)))) fun hc6=>Rf (Aa (Qp Ah (Rb (Qr (Iq _) ?_))))))))))))
  .
   simp only [Ad,G7];rw [Bl hc1,if_pos hc4,if_pos hc5]
  .
   simp only [Ad,G7];rw [Bl hc1,if_pos hc4,Bl hc5,if_pos hc6]
  simp only [Ad,G7];rw [Bl hc1,if_pos hc4,Bl hc5,Bl hc6]
 refine Aa (Qp (A9 rfl rfl) (Qp Ao (Ap (fun hc7=>?_) fun hc7=>Aa (Qp Ah (Ra (Qr (Iq _) ?_))))))
 .
  refine AW.seq (AW.block (Aa (Qp (Qf Oy) (Qp Dk (Qp (Ck tok rfl rfl rfl rfl) (Qp De (Qp Ao (Ap (fun hc8=>Aa (Qp Ah (Ra (Cn (Au (Qr (Iq _) ?_)))))) fun hc8=>Aa (Qp (Qf M7) (Qp Be (Qp Bq (Qp Ao (Ap (fun hc9=>Aa (Qp Ah (Ra (Cn (Au (Qr (Iq _) ?_)))))) fun hc9=>Rf (Aa (Qp Ah (Ra (Qr (Iq _) ?_)))))))))))))))))
  .
   simp only [Ad,G7];rw [Bl hc1,Bl hc4,if_pos hc7,if_pos hc8]
  .
   simp only [Ad,G7];rw [Bl hc1,Bl hc4,if_pos hc7,Bl hc8,if_pos hc9]
  simp only [Ad,G7];rw [Bl hc1,Bl hc4,if_pos hc7,Bl hc8,Bl hc9]
 simp only [Ad,G7];rw [Bl hc1,Bl hc4,Bl hc7]
theorem w_number (t:Syn):Ak Tryz.prog 265 [.agg (cSyn t)] (.int .i64 (Q5 t)):=by
 refine Cw 27 Tryz.func265 rfl fun H=>?_
 refine Aa (Qp (Eh Ag) (Qp Ah (B2 (Qp Ah (Qp Ah (Qp Ah (Aq (Ba ?_))))))));refine Qp (Qf Ag) (Qp Be (Aq (AW.block (Aa (Qp Aj (Qp Ao (Ap (fun hc1=>AW.region (Qp Ah (Qp Ah (Qp Ah (Rk (Ba (Qp (Qf M7) ?_))))))) fun hc1=>Aa (Qp Aj (Qp Ao (Ap (fun hc3=>AW.region (Qp Ah (Qp Ah (Qp Ah (Rk (Ba (Qp (Qf M7) ?_))))))) fun hc3=>?_))))))))))
 .
  refine Qp Be (Qp Ai (Qp Bt (Qp A8 (Qg [] Qw (Qf M7) (Qg [(21,_)] Qw Be (Qg [] Qw Ai (Qg [(22,_),(23,_)] Yw De (Qp Cr (Ap (fun hc2=>Aa (Qp Ai (Qp Ah (Rc (Qr (Iq _) ?_))))) fun hc2=>A5 (Aa (Qp Ah (Rb (Qr (Iq _) ?_)))))))))))))
  . simp only [Ad,Q5,hc1,hc2,↓reduceIte,Al]
  simp only [Ad,Q5,hc1,hc2,↓reduceIte,Al]
 .
  refine Qp Be (Qp Ai (Qp Bt (Qp A8 (Qg [] Qw (Qf M7) (Qg [(21,_)] Qw Be (Qg [] Qw Ai (Qg [(22,_),(23,_)] Yw De (Qp Cr (Ap (fun hc4=>Aa (Qp Ai (Qp Ah (Rc (Qr (Iq _) ?_))))) fun hc4=>A5 (Aa (Qp Ah (Rb (Qr (Iq _) ?_)))))))))))))
  . simp only [Ad,Q5,hc1,hc3,hc4,↓reduceIte,Al]
  simp only [Ad,Q5,hc1,hc3,hc4,↓reduceIte,Al]
 refine Aa (Qp Aj (Qp Ao (Ap (fun hc5=>AW.region (Qp Ah (Qp Ah (Qp Ah (Rk (Ba (Qp (Qf M7) ?_))))))) fun hc5=>Aa (Qp Aj (Qp Ao (Ap (fun hc7=>AW.region (Qp Ah (Qp Ah (Rk (Ba (Qp (Qf M7) (Qp Be ?_))))))) fun hc7=>?_))))))
 .
  refine Qp Be (Qp Ai (Qp Bt (Qp A8 (Qg [] Qw (Qf M7) (Qg [(21,_)] Qw Be (Qg [] Qw Ai (Qg [(22,_),(23,_)] Yw De (Qp Cr (Ap (fun hc6=>Aa (Qp Ai (Qp Ah (Rc (Qr (Iq _) ?_))))) fun hc6=>A5 (Aa (Qp Ah (Rb (Qr (Iq _) ?_)))))))))))))
  . simp only [Ad,Q5,hc1,hc3,hc5,hc6,↓reduceIte,Al]
  simp only [Ad,Q5,hc1,hc3,hc5,hc6,↓reduceIte,Al]
 .
  refine Qp Ai (Qp Bt (Qp A8 (Qg [] Qw (Qf M7) (Qg [(21,_)] Qw Be (Qg [] Qw Ai (Qg [(22,_),(23,_)] Yw De (Qp Cr (Ap (fun hc8=>Aa (Qp Ai (Qp Ah (Rc (Qr (Iq _) ?_))))) fun hc8=>A5 (Aa (Qp Ah (Rb (Qr (Iq _) ?_))))))))))))
  . simp only [Ad,Q5,hc1,hc3,hc5,hc7,hc8,↓reduceIte,Al]
  simp only [Ad,Q5,hc1,hc3,hc5,hc7,hc8,↓reduceIte,Al]
 refine Rf (Ba (Qp (Qf M7) (Qp Be (Qp Ai (Qp Bt (Qp A8 (Qg [] Qw (Qf M7) (Qg [(21,_)] Qw Be (Qg [] Qw Ai (Qg [(22,_),(23,_)] Yw De (Qp Cr (Ap (fun hc9=>Aa (Qp Ai (Qp Ah (Rc (Qr (Iq _) ?_))))) fun hc9=>A5 (Aa (Qp Ah (Rb (Qr (Iq _) ?_))))))))))))))))
 . simp only [Ad,Q5,hc1,hc3,hc5,hc7,hc9,↓reduceIte,Al]
 simp only [Ad,Q5,hc1,hc3,hc5,hc7,hc9,↓reduceIte,Al]
theorem w_fields (t:Syn):Ak Tryz.prog 203 [.agg (cSyn t)] (.int .i64 (D8 t)):=by
 refine Cw 38 Tryz.func203 rfl fun H=>?_
 refine Aa (Qp (Eh Ag) (Qp Ah (Aq (Ba (Qp (Qf Ag) (Qp Be (Qp Aj (Ap (fun hc1=>Aa (Qp (B1 Ag) (Qp (Qc rfl (w_const t)) (Qp Ah (Rc (Qr (Iq _) ?_)))))) fun hc1=>?_))))))))
 .
  simp only [Ad,D8];rw [if_pos hc1]
 refine A5 (Ba (Qp (B1 Ag) (Qp (Qc rfl (w_number t)) (Qp Ah (B2 (Qp Ai (Qp Bq (Ap (fun hc2=>Aa (Qp Ai (Qp Ah (Rc (Qr (Iq _) ?_))))) fun hc2=>?_))))))))
 .
  simp only [Ad,D8];rw [Bl hc1,if_pos hc2]
 refine A5 (Ba (Qp (Qf Ag) (Qp Be (Qp (Qc rfl (w_uses t.kind)) (Qp Ml (Qp bG (Qp bG (Qp Ao (Qp Ao (B2 (Qp A8 (Qp E7 (Qp A8 (Qg [] Qw (Qf Oy) (Qg [(25,_)] Qw Dk ?_)))))))))))))));refine Qg [(26,_)] Qw (Dq rfl rfl) (Qp Ej (Qp A8 (Qg [] Qw A8 (Qg [(30,_)] Qw E7 (Qg [(31,_)] Qw A8 (Qg [] Qw (Qf Xe) (Qg [(33,_)] Qw Dk (Qg [(34,_)] Qw (Dq rfl rfl) (Qg [(32,_),(35,_)] Qw Ej (Qp Cr (Ap (fun hc3=>Aa (Qp Ah (Rc (Qr (Iq _) ?_)))) fun hc3=>A5 (Aa (Qp Ah (Rb (Qr (Iq _) ?_)))))))))))))))
 .
  simp only [Ad,D8];rw [Bl hc1,Bl hc2,if_pos hc3]
 simp only [Ad,D8];rw [Bl hc1,Bl hc2,Bl hc3]
theorem w_kid (t:Syn)(i:Nat)(hi:i<t.kids.length)(hl:t.kids.length<=1048576):Ak Tryz.prog 204 [.agg (cSyn t),.int .i64 (i:Int)] (nF (G1 t i)):=by
 refine Cw 59 Tryz.func204 rfl fun H=>?_
 refine Aa (Qp (Eh Ag) (Qp Qh (Aq (Ba (Qp (Qf Ag) (Qp Be (Aq (AW.block (Aa (Qp Aj (Qp Ao (Ap (fun hc1=>Ba (Qp (Qf Iv) (Qp Cg (Qp Ai ?_)))) fun hc1=>Aa (Qp Aj (Qp Ao (Ap (fun hc3=>Aa (Qp (Qc rfl (Uh _)) (Qp (Bb (v:=.fn _ _ _) rfl) (Ra (Qr (.fn _ _ _) ?_))))) fun hc3=>?_)))))))))))))))
 .
  refine Qp (Cp (cSyn (Cd t i)) rfl rfl (by omega) (C8 (lP hi))) ?_;refine Qp (Qf Ag) (Qp Be (Qp Aj (Qp A8 (Qg [] Qw Ai (Qg [(17,_)] Qw Aj (Qg [(18,_)] Qw A8 (Qg [] Qw (Qf Iv) (Qg [(20,_)] Qw Cg (Qg [] Qw Ai ?_)))))))));refine Yh [(22,_)] Qw (fun hG=>P_sub rfl rfl rfl (by constructor <;> omega)) ?_;refine Yh [(21,_),(23,_)] (Yv rfl Es Es) (fun hG=>Cp (cSyn (Cd t (i-1))) rfl rfl ((X7 hi hG).1) ((X7 hi hG).2)) ?_;refine Qg [(24,_)] Qw (Qf Ag) (Qg [(25,_)] Qw Be (Qg [(26,_)] Qw Aj (Qg [(19,_),(27,_)] Qw Cr (Qp Ej (Ap (fun hc2=>Aa (Qp (Qc rfl (Uh _)) (Qp (Bb (v:=.fn _ _ _) rfl) (Rc (Cn (Au (Qr (.fn _ _ _) ?_))))))) fun hc2=>A5 (Aa (Qp (Qc rfl (Uh _)) (Qp (Bb (v:=.fn _ _ _) rfl) (Ra (Qr (.fn _ _ _) ?_))))))))))
  . simp only [Ad,G1,nF,hc1,hc2,↓reduceIte,Al]
  simp only [Ad,G1,nF,hc1,hc2,↓reduceIte,Al]
 . simp only [Ad,G1,nF,hc1,hc3,↓reduceIte,Al]
 refine Aa (Qp Aj (Qp Ao (Ap (fun hc4=>Ba (Qp Ai (Aq (AW.block (Aa (Qp Aj (Qp Ao (Ap (fun hc5=>Aa (Qp (Qc rfl (Uh _)) (Qp (Bb (v:=.fn _ _ _) rfl) (Ra (Cn (Au (Qr (.fn _ _ _) ?_))))))) fun hc5=>Aa (Qp Aj (Qp Ao (Ap (fun hc6=>Aa (Qp (Bb (v:=.fn _ _ _) rfl) (Ra (Cn (Au (Qr (.fn _ _ _) ?_)))))) fun hc6=>Rf (Aa (Qp (Bb (v:=.fn _ _ _) rfl) (Ra (Qr (.fn _ _ _) ?_))))))))))))))) fun hc4=>?_)))
 . simp only [Ad,G1,nF,hc1,hc3,hc4,hc5,↓reduceIte,Al]
 . simp only [Ad,G1,nF,hc1,hc3,hc4,hc5,hc6,↓reduceIte,Al]
 . simp only [Ad,G1,nF,hc1,hc3,hc4,hc5,hc6,↓reduceIte,Al]
 refine Aa (Qp Aj (Qp Ao (Ap (fun hc7=>Aa (Qp Ai (Qp Aj (Ap (fun hc8=>Aa (Qp (Qc rfl (Uh _)) (Qp (Bb (v:=.fn _ _ _) rfl) (Ra (Qr (.fn _ _ _) ?_))))) fun hc8=>Rf (Aa (Qp (Bb (v:=.fn _ _ _) rfl) (Rb (Qr (.fn _ _ _) ?_)))))))) fun hc7=>?_)))
 . simp only [Ad,G1,nF,hc1,hc3,hc4,hc7,hc8,↓reduceIte,Al]
 . simp only [Ad,G1,nF,hc1,hc3,hc4,hc7,hc8,↓reduceIte,Al]
 refine Aa (Qp Aj (Qp Ao (Ap (fun hc9=>Aa (Qp Ai (Qp Aj (Ap (fun hc10=>Aa (Qp (Bb (v:=.fn _ _ _) rfl) (Ra (Qr (.fn _ _ _) ?_)))) fun hc10=>Rf (Aa (Qp (Bb (v:=.fn _ _ _) rfl) (Rb (Qr (.fn _ _ _) ?_)))))))) fun hc9=>Aa (Qp Aj (Qp Ao (Ap (fun hc11=>Aa (Qp (Qc rfl (Uh _)) (Qp (Bb (v:=.fn _ _ _) rfl) (Ra (Qr (.fn _ _ _) ?_))))) fun hc11=>?_))))))
 . simp only [Ad,G1,nF,hc1,hc3,hc4,hc7,hc9,hc10,↓reduceIte,Al]
 . simp only [Ad,G1,nF,hc1,hc3,hc4,hc7,hc9,hc10,↓reduceIte,Al]
 . simp only [Ad,G1,nF,hc1,hc3,hc4,hc7,hc9,hc11,↓reduceIte,Al]
 refine AW.Aar (fun (_:Unit)=>(⟨[(2,.ptr (cSyn t)),(55,.bool ((((t.kind==5)||(t.kind==17))||(t.kind==18))))],H,59⟩:St)) (fun _=>True) ?_ ?_
 .
  refine Aa (Qp Aj (Qp Ao (Ap (fun hc12=>A5 ?_) fun hc12=>Aa (Qp Aj (Qp Ao (Ap (fun hc13=>A5 ?_) fun hc13=>AW.region (Qp Aj (Qp Ao (Aq ?_)))))))))
  .
   refine ⟨(),?_,GS.weaken ⟨rfl,congrArg AV.bool (by simp [*]),trivial⟩ (.refl _)⟩
   trivial
  .
   refine ⟨(),?_,GS.weaken ⟨rfl,congrArg AV.bool (by simp [*]),trivial⟩ (.refl _)⟩
   trivial
  refine ⟨(),?_,GS.weaken ⟨rfl,congrArg AV.bool (by simp [*]),trivial⟩ (.refl _)⟩
  trivial
 rintro _ _;refine E9 (fun hc14=>Aa (Qp (Bb (v:=.fn _ _ _) rfl) (Ra (Qr (.fn _ _ _) ?_)))) fun hc14=>Rf (Aa (Qp (Bb (v:=.fn _ _ _) rfl) (Rb (Qr (.fn _ _ _) ?_))))
 . simp only [Ad,G1,nF,hc1,hc3,hc4,hc7,hc9,hc11,hc14,↓reduceIte,Al]
 simp only [Ad,G1,nF,hc1,hc3,hc4,hc7,hc9,hc11,hc14,↓reduceIte,Al]
end Go.Proofs.YtckhoadldibflaaGreatDoor
namespace Go.Aw
open Go
section
variable {P:Program} {T:List (Nat×TD)} {d:Option Nat} {ty:TypeId} {pos:String} {aft:Array Edge} {gd:Option (Nat×Bool)} {ρ:Operand->AV} {K:List HO->Prop}
theorem nL {t:TypeId}{m k v:Operand}{kt et b i:Nat}{td tk:TD}{n:List UInt8}{ks:List (List UInt8)}{x:Int}{H H2:List HO}(hT:Ir P T)(ht:Bu T t=some td)(hk:td.kind = .map kt et)(htk:Bu T kt=some tk)(hkk:tk.kind = .str)
  (hm:ρ m = .val (.map (some b))) (hkey:ρ k = .str n) (hv:ρ v = .int .i64 x) (hH:H[i]? = some (.smap b (Pw ks))) (hx:x=(ks.length:Int)) (hnew:ks.contains n=false) (hH2:H.set i (.smap b (Pw (ks ++ [n])))=H2) :
  Mj P ⟨d,.mapUpdate t m k v,ty,pos,aft,gd⟩ ρ H (fun y H'=>y = .junk/\H'=H2):=by
 subst hx;exact bA hT ht hk htk hkk hm hkey hv hH (smI_new hnew) (by rw [smI_add];exact hH2)
end
end Go.Aw
namespace Go.Proofs.YtckhoadldibflaaGreatDoor
open Go Go.Aw
def Wd {α:Type}(p:α->Bool):List α->Int
 | []=>-1
 | a::r=>if p a then 0 else if Wd p r<0 then -1 else Wd p r+1
theorem fC {α:Type}(p:α->Bool):∀l:List α,(-1<=Wd p l)/\decide (0<=Wd p l)=l.any p
  | []=>⟨I8 _,rfl⟩
  | a::r=>by
    obtain ⟨h0,h1⟩:=fC p r;rw [Wd,Ow];cases h:p a with
    | true=>exact ⟨by rw [if_pos rfl];decide,by rw [if_pos rfl];rfl⟩
    | false=>
      rw [if_neg (by decide),Fz,<-h1];by_cases h2:Wd p r<0
      . rw [if_pos h2]
        exact ⟨I8 _,by rw [decide_eq_decide];constructor <;> intro h <;> omega⟩
      . rw [if_neg h2]
        exact ⟨by omega,by rw [decide_eq_decide];constructor <;> intro h <;> omega⟩
theorem fD {α:Type}{p:α->Bool}:∀{l:List α} {k:Nat} {a:α},l[k]? = some a->(l.take k).any p=false->p a=true->Wd p l=(k:Int)
  | [],k,a,h,_,_=>by simp at h
  | b::r,0,a,h,_,hp=>by simp at h;subst h;rw [Wd,if_pos hp];rfl
  | b::r,k+1,a,h,hn,hp=>by
    rw [W0,Ow,En] at hn;have ih:=fD (l:=r) (k:=k) (by simpa using h) hn.2 hp;rw [Wd,if_neg (by rw [hn.1];decide),ih,if_neg (by omega)];omega
theorem Z0 {α:Type}{p:α->Bool}:∀{l:List α},l.any p=false->Wd p l = -1
  | [],_=>rfl
  | b::r,h=>by
    rw [Ow,En] at h;rw [Wd,if_neg (by rw [h.1];decide),Z0 h.2];rfl
theorem fE {α:Type}(f:α->Av)(n:Av):∀l:List α,Wd (fun a=>f a==n) l=Ha (l.map f) n
  | []=>rfl
  | a::r=>by
    have ih:=fE f n r;unfold Ha at ih ⊢;rw [Wd,Bj,List.contains_cons,List.idxOf_cons,ih];by_cases h:f a=n
    . subst h;simp
    . have h1:(f a==n)=false:=by rw [F0];exact h
      have h2:(n==f a)=false:=by rw [F0];exact fun e=>h e.symm
      rw [h1,h2,if_neg (by decide),Fz];cases hc:(r.map f).contains n with
      | false=>simp
      | true=>simp;omega
theorem Hr {α:Type}{l:List α}{k:Nat}{a:α}{p:α->Bool}(h:(l.take k).any p=false)(ha:l[k]? = some a)(hp:p a=false):(l.take (k+1)).any p=false:=by
 rw [List.take_add_one,ha];simp [h,hp]
theorem eL {f:Syn->Fa}:∀{l:List Syn} {k:Nat} {a:Syn},l[k]? = some a->(l.take k).any (fun x=>(f x).err != 0)=false->((f a).err != 0)=true->Mp f l=f a
  | [],k,a,h,_,_=>by simp at h
  | b::r,0,a,h,_,hp=>by simp at h;subst h;rw [Mp,if_pos hp]
  | b::r,k+1,a,h,hn,hp=>by
    rw [W0,Ow,En] at hn;rw [Mp,if_neg (by rw [hn.1];decide)];exact eL (by simpa using h) hn.2 hp
theorem Zq {f:Syn->Fa}:∀{l:List Syn},l.any (fun x=>(f x).err != 0)=false->Mp f l=Xy
  | [],_=>rfl
  | b::r,h=>by
    rw [Ow,En] at h;rw [Mp,if_neg (by rw [h.1];decide)];exact Zq h.2
theorem I4 {l:List Syn}{k:Nat}{a:Syn}(h:l[k]? = some a):(l.map C3)[k]? = some (cSyn a):=by rw [List.getElem?_map,h];exact congrArg some (Bi a)
theorem Ie {t:Syn}{k:Nat}(h:k<t.kids.length):t.kids[k]? = some (Cd t k):=by unfold Cd;rw [Ii,List.getElem?_eq_getElem h];rfl
def Zj (T:List e8Sc)(V:List Va)(s:Nx):List AV:=[.sl 2 (T.map Js),.smapv (Pw (Nz T)),.sl 2 (V.map Ox),.smapv (Pw (Lh V)),.int .i64 s.next,.int .i64 s.scopes]
end Go.Proofs.YtckhoadldibflaaGreatDoor
