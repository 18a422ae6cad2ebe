/-
  Several texts in one: R14, R16, R17, R20, R1w, R2w. No condition.
-/
import Derived.Test.YtckhoadldibflaaGreatDoorK15
import Derived.Test.YtckhoadldibflaaGreatDoorK01
import Derived.Test.YtckhoadldibflaaGreatDoorK12
import Derived.KernelRfl
set_option linter.unusedVariables false
set_option linter.unusedSimpArgs false
namespace Go.Proofs.YtckhoadldibflaaGreatDoor
open Go Go.Aw
@[reducible] def cNm (T : List e8Sc) (V : List Va) : List AV := [.sl 2 (T.map G7), .sl 2 (V.map O1)]
theorem Xh (ns:List Aq)(n:Aq):decide (0≤E6 ns n)=ns.contains n:=by
 unfold E6
 cases ns.contains n with
 | true=>rw [if_pos rfl];simp
 | false=>rfl
section
variable {T:List e8Sc} {V:List Va} {t:Syn}
end
def Dq:List e8Sc→List Syn→List e8Sc×Fa
  | out,[]=>(out,Mq)
  | out,k::r=>
    if (k.kind==1) then
      if ((out.length:Int)==16) then ([],⟨k.pos,5⟩)
      else if (Gb out).contains k.text then ([],⟨k.pos,7⟩)
      else if ((Dw [] k.kids).2.err != 0) then ([],(Dw [] k.kids).2)
      else Dq (out ++ [⟨k.text,(Dw [] k.kids).1⟩]) r
    else (out,Mq)
section
variable {out:List e8Sc} {l:List Syn} {k:Nat} {a:Syn}
theorem wM (ha:l[k]? = some a)(h:(a.kind==1)=false):Dq out (l.drop k)=(out,Mq):=by rw [Bj ha,Dq,Bu h]
theorem tyf_5 (ha:l[k]? = some a)(h:(a.kind==1)=true)(h2:((out.length:Int)==16)=true):Dq out (l.drop k)=([],⟨a.pos,5⟩):=by rw [Bj ha,Dq,if_pos h,if_pos h2]
theorem tyf_7 (ha:l[k]? = some a)(h:(a.kind==1)=true)(h2:((out.length:Int)==16)=false)(h3:(Gb out).contains a.text=true):Dq out (l.drop k)=([],⟨a.pos,7⟩):=by rw [Bj ha,Dq,if_pos h,Bu h2,if_pos h3]
theorem vN (ha:l[k]? = some a)(h:(a.kind==1)=true)(h2:((out.length:Int)==16)=false)(h3:(Gb out).contains a.text=false):Dq out (l.drop k)=if ((Dw [] a.kids).2.err != 0) then ([],(Dw [] a.kids).2) else Dq (out ++ [⟨a.text,(Dw [] a.kids).1⟩]) (l.drop (k+1)):=by rw [Bj ha,Dq,if_pos h,Bu h2,Bu h3]
theorem vE (ha:l[k]? = some a)(h:(a.kind==1)=true)(h2:((out.length:Int)==16)=false)(h3:(Gb out).contains a.text=false){fs:List Fi}{f:Fa}(hf:Dw [] a.kids=(fs,f))(he:f.err≠0):Dq out (l.drop k)=([],f):=by
 rw [vN ha h h2 h3,hf];exact if_pos (by simpa using he)
theorem yF (ha:l[k]? = some a)(h:(a.kind==1)=true)(h2:((out.length:Int)==16)=false)(h3:(Gb out).contains a.text=false){fs:List Fi}(hf:Dw [] a.kids=(fs,Mq)):Dq out (l.drop k)=Dq (out ++ [⟨a.text,fs⟩]) (l.drop (k+1)):=by
 rw [vN ha h h2 h3,hf];rfl
end
def bF (t:Syn):List e8Sc×Int×Int:=if ((Bo t (.only 0)).2 != 0) then ([],0,3) else ((Dq [] t.kids).1,(Dq [] t.kids).2.pos,(Dq [] t.kids).2.err)
theorem tq_1 {t:Syn}(h:((Bo t (.only 0)).2 != 0)=true):bF t=([],0,3):=if_pos h
theorem gJ {t:Syn}(h:((Bo t (.only 0)).2 != 0)=false){p:List e8Sc×Fa}(h2:Dq [] t.kids=p):bF t=(p.1,p.2.pos,p.2.err):=by subst h2;exact Bu h
theorem uQ {t:Syn}(hc:Bg t (.only 0)=0):Dq [] t.kids=Mh t:=by
  have hk:=Ie (Hi (Hm hc).1).1
  have hkid:∀(j:Nat) (a:Syn),t.kids[j]? = some a→a.kind=1∨a.kind=3:=fun j a ha=>by
    have h:=(H1 hc ha).2
    unfold Ee at h
    rw [hk,if_pos (by decide)] at h
    split at h <;> · have:=Ie h;omega
  have hnext:∀(j:Nat) (a b:Syn),t.kids[j]? = some a→t.kids[j+1]? = some b→a.kind≠1→b.kind≠1:=fun j a b ha hb hne he=>by
    have h:=(H1 hc hb).2
    unfold Ee at h
    rw [hk,if_pos (by decide)] at h
    have hj:Bn t (j+1-1)=a:=by unfold Bn;rw [Nat.add_sub_cancel,List.getD_eq_getElem?_getD,ha];rfl
    rw [hj] at h
    rw [if_neg (by simp;intro _;exact ⟨by omega,hne⟩)] at h
    have:=Ie h;omega
  have tail:∀(n k:Nat) (out:List e8Sc),n=t.kids.length-k→(∀a,t.kids[k]? = some a→a.kind≠1)→Ep out (t.kids.drop k)=(out,Mq):=by
    intro n
    induction n with
    | zero=>intro k out hn _;rw [List.drop_eq_nil_of_le (by omega),Ep]
    | succ n ih=>
      intro k out hn hne
      have hl:k<t.kids.length:=by omega
      have ha:=List.getElem?_eq_getElem hl
      rw [Zl ha (by simpa using hne _ ha)]
      exact ih (k+1) out (by omega) fun b hb=>hnext k _ b ha hb (hne _ ha)
  have main:∀(n k:Nat) (out:List e8Sc),n=t.kids.length-k→Dq out (t.kids.drop k)=Ep out (t.kids.drop k):=by
    intro n
    induction n with
    | zero=>intro k out hn;rw [List.drop_eq_nil_of_le (by omega),Ep,Dq]
    | succ n ih=>
      intro k out hn
      have hl:k<t.kids.length:=by omega
      have ha:=List.getElem?_eq_getElem hl
      by_cases h1:t.kids[k].kind=1
      · have e1:(t.kids[k].kind==1)=true:=by simpa using h1
        have e2:(t.kids[k].kind != 1)=false:=by simpa using h1
        rw [Bj ha,Dq,Ep,if_pos e1,Bu e2,ih (k+1) _ (by omega)]
      · rw [wM ha (by simpa using h1),tail _ k out rfl fun b hb=>by rw [ha] at hb;cases hb;exact h1]
  exact main _ 0 [] rfl
end Go.Proofs.YtckhoadldibflaaGreatDoor

namespace Go.Aw
open Go
theorem Ap.row1 {P:Program}{f:FuncId}{y r:AV}{z:Nat}{v:Value}{es:List (List AV)}(h:Ap P f [.sl z es,y] r):Ap P f [.row v z es,y] r:=by
 intro H g w vs hH ha
 refine h H g w vs hH ⟨ha.1,fun i x hi=>?_⟩
 match i,hi with
 | 0,hi=>cases hi;exact (ha.2 0 _ rfl).inv_row.2
 | 1,hi=>cases hi;exact ha.2 1 _ rfl
 | i+2,hi=>simp at hi
end Go.Aw
namespace Go.Proofs.YtckhoadldibflaaGreatDoor
open Go Go.Aw
@[reducible] def cPtW (p : Pt) (rs : AV) : List AV := [.int .i64 p.op, rs, .int .i64 p.type, .int .i64 p.var, .int .i64 p.scope, .int .i64 p.span, .int .i64 p.cond.op, .sl 8 (p.cond.args.map L2), .int .i64 p.cond.var, .int .i64 p.cond.field, .int .i64 p.cond.kind, .int .i64 p.cond.val.kind, .int .i64 p.cond.val.num, .str p.cond.val.text]
def tyV (V:List Va)(i:Int):Int:=((V[i.toNat]?).getD va0).type
section
variable (T:List e8Sc) (V:List Va)
def rptN (t:Syn)(xs:List Pt):Pt:=
 if (t.kind==5) then ⟨0,xs,tyV V (E6 (Ic V) t.name),E6 (Ic V) t.name,0,0,Ju T V t⟩
 else if (t.kind==10) then ⟨5,xs,tyV V (E6 (Ic V) (Bn t 1).name),E6 (Ic V) (Bn t 1).name,0,0,Ju T V (Bn t 1)⟩
 else if (t.kind==11) then ⟨6,xs,0,0,0,t.num,Sk⟩
 else if (t.kind==12) then ⟨7,xs,0,0,0,0,Eb T V (Bn t 1)⟩
 else ⟨t.kind-5,xs,0,0,0,0,Sk⟩
mutual
def rptT:Syn→Pt
 | ⟨k,x,n,m,kids,p⟩=>rptN T V ⟨k,x,n,m,kids,p⟩ (if (k==5) then [] else if (k==10)||(k==12) then rptH kids else rptL kids)
def rptH:List Syn→List Pt
 | []=>[]
 | x::_=>[rptT x]
def rptL:List Syn→List Pt
 | []=>[]
 | x::r=>rptT x::rptL r
end
end
section
variable {T:List e8Sc} {V:List Va} {t:Syn}
end

def scoN (p:Pt)(n:Int)(xs:List Pt):Pt:=⟨p.op,xs,p.type,p.var,if (dF p||Y5 p) then n else p.scope,p.span,p.cond⟩
def scoF (p:Pt)(n:Int):Int:=if (dF p||Y5 p) then n+1 else n
mutual
def yK:Pt→Int→Pt×Int
 | ⟨o,xs,t,v,s,e,c⟩,n=>(scoN ⟨o,xs,t,v,s,e,c⟩ n (pR xs (scoF ⟨o,xs,t,v,s,e,c⟩ n)).1,(pR xs (scoF ⟨o,xs,t,v,s,e,c⟩ n)).2)
def pR:List Pt→Int→List Pt×Int
 | [],n=>([],n)
 | a::r,n=>((yK a n).1::(pR r (yK a n).2).1,(pR r (yK a n).2).2)
end
def vaG (T:List e8Sc):List Va→List Syn→List Va×Fa
 | V,[]=>(V,Mq)
 | V,t::r=>if (In T V t != 0) then ([],⟨t.pos,In T V t⟩) else vaG T (V ++ [P7 T t]) r
section
variable {T:List e8Sc} {V:List Va} {l:List Syn} {k:Nat} {a:Syn}
end
section
variable {T:List e8Sc} {V:List Va}
end
section
variable {T:List e8Sc} {V:List Va}
end
def vqR (T:List e8Sc)(t:Syn):List Va:=if ((vfR T t).err != 0) then [] else Pz T t
section
variable {T:List e8Sc} {V:List Va} {t:Syn}
end
def Aai (T:List e8Sc):List Qy→List Syn→List Qy×Fa
  | qs,[]=>(qs,Mq)
  | qs,k::r=>
    if ((qs.length:Int)==16) then ([],⟨k.pos,5⟩)
    else if (qs.map (·.name)).contains k.text then ([],⟨k.pos,7⟩)
    else if ((F8 T k).2.err != 0) then ([],(F8 T k).2)
    else Aai T (qs ++ [(F8 T k).1]) r
section
variable {T:List e8Sc} {qs:List Qy} {l:List Syn} {k:Nat} {a:Syn}
end
theorem tS {t:Syn}(h:((Bo t (.only 0)).2 != 0)=false):bF t=Ok t:=by
 rw [gJ h rfl,tp_2 h,uQ (Yr h)]
theorem lA (t:Syn):bF t=Ok t:=by
 cases h:(Bo t (.only 0)).2 != 0 with
 | true=>rw [tq_1 h,tp_1 h]
 | false=>exact tS h
structure medQ (q:Qy):Prop where
 v:q.vars.length≤1048576
 k:q.key.length≤1048576
 r:q.returns.length≤1048576
 p:medP q.pattern
 e:∀e∈q.returns,Cq e≤1048576
structure medG (p:Pg):Prop where
 t:p.types.length≤1048576
 f:∀s∈p.types,s.fields.length≤1048576
 q:p.queries.length≤1048576
 m:∀q∈p.queries,medQ q
set_option maxHeartbeats 800000
set_option maxRecDepth 20000

theorem J1  : Ap Tryz.prog 101 [] (.agg (M1 Mq)):=by
 refine Ap.body (n:=2) tok Tryz.func101 rfl rfl rfl fun H=>?_
 refine Ad ?_
 refine Qe (An (l:=[.int .i64 0,.int .i64 0]) (by kernel_rfl)) ?_
 rintro _ _ ⟨b0,rfl,rfl⟩
 refine By (Qp (Ea [Iq _,Iq _]) ?_)
 refine B0 0 [Iq _,Iq _] (_::_) ?_
 refine Aa (AW.ret ?_)
 refine ⟨.inr rfl,[.agg [Iq _,Iq _]],.cons (.box _ _ _ 0 _ _ _ _ rfl rfl rfl rfl rfl rfl) <| .nil,.cons _ (.refl _),?_⟩
 rfl
theorem jY  : Ap Tryz.prog 195 [] (.agg (cE N7)):=by
 refine Ap.body (n:=3) tok Tryz.func195 rfl rfl rfl fun H=>?_
 refine Ad ?_
 refine Qe (An (l:=[.int .i64 0,.sl 8 [],.int .i64 0,.int .i64 0,.int .i64 0,.int .i64 0,.int .i64 0,.str []]) (by kernel_rfl)) ?_
 rintro _ _ ⟨b0,rfl,rfl⟩
 refine By (Qp (Ea [Iq _,Iq _,.str _]) (Qp (Ea [Iq _,_,Iq _,Iq _,Iq _,Iq _,Iq _,.str _]) ?_))
 refine B0 0 [Iq _,_,Iq _,Iq _,Iq _,Iq _,Iq _,.str _] (_::_) ?_
 refine Aa (AW.ret ?_)
 refine ⟨.inr rfl,[.agg [Iq _,_,Iq _,Iq _,Iq _,Iq _,Iq _,.str _]],.cons (.box _ _ _ 0 _ _ _ _ rfl rfl rfl rfl rfl rfl) <| .nil,.cons _ (.refl _),?_⟩
 rfl
theorem Zm (t:Syn):Ap Tryz.prog 173 [.agg (cSyn t)] (.agg (cV (aA t))):=by
 refine Ap.body (n:=18) tok Tryz.func173 rfl rfl rfl fun H=>?_
 refine Ad (Qp (Eu [Iq _,.str _,.str _,Iq _,_,Iq _]) ?_)
 refine Qe (An (l:=[.int .i64 0,.int .i64 0,.str []]) (by kernel_rfl)) ?_
 rintro _ _ ⟨b2,rfl,rfl⟩
 refine Aa (AW.seq (Ad (Qp (Qf [.str _,Iq _,_,Iq _]) (Qp Df (Aa (AW.block (Ad ?_)))))))
 refine Qp (A5 rfl rfl) ?_
 refine Qp A3 (Aa (Au (fun hc1=>?_) fun hc1=>?_))
 ·
  refine Ad (Qp (Qf [Iq _,_,Iq _]) (Qp Bt (Qp (Ea [Iq _,Iq _,.str _]) ?_)))
  refine B0 0 [Iq _,Iq _,.str _] (_::_) ?_
  refine Aa (AW.ret (Ao (Ai ?_)))
  refine ⟨.inr rfl,[.agg [Iq _,Iq _,.str _]],.cons (.box _ _ _ 0 _ _ _ _ rfl rfl rfl rfl rfl rfl) <| .nil,.cons _ (.refl _),?_⟩
  simp only [Ae,aA,hc1,↓reduceIte,Bool.false_eq_true]
  rfl
 ·
  refine Ad ?_
  refine Qp (A5 rfl rfl) ?_
  refine Qp A3 (Aa (Au (fun hc2=>?_) fun hc2=>?_))
  ·
   refine Ad (Qp (Qf [.str _,.str _,Iq _,_,Iq _]) (Qp Df (Qp (Ea [Iq _,Iq _,.str _]) ?_)))
   refine B0 0 [Iq _,Iq _,.str _] (_::_) ?_
   refine Aa (AW.ret (Ao (Ai ?_)))
   refine ⟨.inr rfl,[.agg [Iq _,Iq _,.str _]],.cons (.box _ _ _ 0 _ _ _ _ rfl rfl rfl rfl rfl rfl) <| .nil,.cons _ (.refl _),?_⟩
   simp only [Ae,aA,hc1,hc2,↓reduceIte,Bool.false_eq_true]
   rfl
  ·
   refine AW.skip (Bc (Af (Ad (Qp (Qf [Iq _,_,Iq _]) (Qp Bt (Qp (Ea [Iq _,Iq _,.str _]) ?_))))))
   refine B0 0 [Iq _,Iq _,.str _] (_::_) ?_
   refine Aa (AW.ret ?_)
   refine ⟨.inr rfl,[.agg [Iq _,Iq _,.str _]],.cons (.box _ _ _ 0 _ _ _ _ rfl rfl rfl rfl rfl rfl) <| .nil,.cons _ (.refl _),?_⟩
   simp only [Ae,aA,hc1,hc2,↓reduceIte,Bool.false_eq_true]
   rfl
theorem rV (f:Fi)(n:Aq):Ap Tryz.prog 234 [.agg (cT f),.ptr [.str n]] (.bool (f.name==n)):=by
 refine Ap.body (n:=8) tok Tryz.func234 rfl rfl rfl fun H=>?_
 refine Ad (Qp (Eu [.str _,Iq _]) (Qp A3 (By (Qp (Qf [.str _,Iq _]) (Qp Df (Qp Df ?_))))))
 refine Qp (A5 rfl rfl) ?_
 refine Qp A3 (Aa (AW.ret ?_))
 refine Qr (.bool _) ?_
 rfl
theorem pA (l:List Fi)(hl:l.length≤1048576)(K:FuncId)(hK:Oo Tryz.prog K=true)(cs:List AV)(p:Fi→Bool)(hf:∀a∈l,Ap Tryz.prog K (.agg (cT a)::cs) (.bool (p a))):Ap Tryz.prog 146 [.sl 2 (l.map cT),.fn (.func K) [] cs] (.int .i64 (U5 p l)):=by
 refine Ap.body (n:=19) tok Tryz.func146 rfl rfl rfl fun H=>?_
 refine Ad (Qp A0 (Aa (AW.seq (Ad (Qp K4 ?_)))))
 refine Qp (Ax (n:=l.length) tok rfl rfl rfl (by simp)) ?_
 refine Qp A4 (Aa (AW.block ?_))
 refine AW.Aat (fun (k:Nat)=>(⟨[(0,.sl 2 (l.map cT)),(1,.fn (.func K) [] cs),(6,.sl 2 (l.map cT)),(7,.int .i64 l.length),(8,.int .i64 (k:Int))],H,19⟩:St)) (fun (k:Nat)=>k≤l.length∧(l.take k).any p=false) (fun (k:Nat)=>l.length-k) (0) ?_ (GS.weaken ⟨rfl,rfl,rfl,rfl,rfl,trivial⟩ (.refl _)) ?_
 · exact ⟨Nat.zero_le _,by simp⟩
 ·
  rintro k hR
  refine Ad (Qp B7 (Aa (AW.seq (Au (fun hc1=>?_) fun hc1=>?_))))
  ·
   obtain ⟨a,ha⟩:=Dl hc1
   have hlt:=Cm ha
   have hm:=List.mem_of_getElem? ha
   refine Bl (AW.seq (AW.block (Ad (Qp A4 (Qp A0 (By ?_))))))
   refine Qp (A1 (v:=.fn _ _ _) rfl) ?_
   refine Qp K4 (Qp A4 ?_)
   refine Qp (Ag (c:=[.str _,Iq _]) tok rfl rfl rfl rfl rfl rfl (by omega) (Ff ha)) ?_
   refine Qp (B2 [.str _,Iq _]) ?_
   refine Qp (Lj hK rfl rfl rfl (hf a (List.mem_of_getElem? ha))) ?_
   refine Aa (Au (fun hc2=>?_) fun hc2=>?_)
   ·
    refine Ad (Qp A4 (Qp A0 (Aa (AW.ret (Ao (Ai (Ai (Ao (Ai ?_)))))))))
    refine Qr (Iq _) ?_
    exact Eq.trans rfl (congrArg (fun q:Int=>AV.int .i64 q) (Yz ha hR.2 hc2)).symm
   ·
    refine AW.skip (Bc (Af (AW.region (Qp Ei (Qp A4 (Aa ?_))))))
    refine ⟨k+1,?_,?_,GS.weaken ⟨rfl,rfl,rfl,rfl,rfl,trivial⟩ (.refl _)⟩
    · exact ⟨hlt,Nw hR.2 ha hc2⟩
    · omega
  ·
   have hte:=E8 hc1
   have hall:=hR.2
   rw [hte] at hall
   refine AW.exit ?_
   refine A7 (A7 (Bp (Af (Ad (Qp A0 (Aa (AW.ret ?_)))))))
   refine Qr (Iq _) ?_
   exact Eq.trans rfl (congrArg (fun q:Int=>AV.int .i64 q) (Vu hall)).symm
theorem J7 (s:e8Sc)(hs:s.fields.length≤1048576)(n:Aq):Ap Tryz.prog 168 [.agg (G7 s),.str n] (.int .i64 (Ho s n)):=by
 refine Ap.body (n:=9) tok Tryz.func168 rfl rfl rfl fun H=>?_
 refine Ad (Qp (Eu [.str _,_]) ?_)
 refine Qp (Pn (v:=.str _) (cs:=[.str _]) rfl rfl rfl) ?_
 refine Qp A0 (By (Qp (Qf [_]) (Qp Dg ?_)))
 refine Qp (Bv (l:=[]) (l':=[.ptr _]) rfl rfl) ?_
 refine Qp (Qc rfl (pA s.fields hs 234 (by kernel_rfl) [.ptr [.str n]] (fun f=>f.name==n) (fun a _=>rV a n))) ?_
 refine Qp A0 (Aa (AW.ret ?_))
 refine Qr (Iq _) ?_
 exact Eq.trans rfl (congrArg (fun q:Int=>AV.int .i64 q) (Tf (fun f:Fi=>f.name) n s.fields))
theorem sI (bp TT:Nat)(cs:List AV)(l:List Syn)(hl:l.length≤1048576)(K:FuncId)(hK:Oo Tryz.prog K=true)(fs:List AV)(f:Syn→Fa)(hf:∀a∈l,Bd Tryz.prog K bp TT cs cs (fs ++ [.agg (cSyn a)]) (.agg (M1 (f a)))):Bd Tryz.prog 94 bp TT cs cs [.sl 6 (l.map Cl),.fn (.func K) fs []] (.agg (M1 (Ir f l))):=by
 intro H
 refine Bw.body (n:=23) tok Tryz.func94 rfl rfl rfl ?_
 refine Ad ?_
 refine Qe (An (l:=[.int .i64 0,.int .i64 0]) (by kernel_rfl)) ?_
 rintro _ _ ⟨b4,rfl,rfl⟩
 refine Aa (AW.seq (Ad (Qp K4 ?_)))
 refine Qp (Ax (n:=l.length) tok rfl rfl rfl (by simp)) ?_
 refine Qp A4 (Aa (AW.block ?_))
 refine AW.Aat (fun (k:Nat)=>(⟨[(0,.sl 6 (l.map Cl)),(1,.fn (.func K) fs []),(4,.val (.pointer (some ⟨b4,0,none⟩))),(8,.sl 6 (l.map Cl)),(9,.int .i64 l.length),(10,.int .i64 (k:Int))],.box b4 94 [.int .i64 0,.int .i64 0] :: .box bp TT cs::H,23⟩:St)) (fun (k:Nat)=>k≤l.length∧(l.take k).any (fun x=>(f x).err != 0)=false) (fun (k:Nat)=>l.length-k) (0) ?_ (GS.weaken ⟨rfl,rfl,rfl,rfl,rfl,rfl,trivial⟩ (.refl _)) ?_
 · exact ⟨Nat.zero_le _,by simp⟩
 ·
  rintro k hR
  refine Ad (Qp B7 (Aa (AW.seq (Au (fun hc1=>?_) fun hc1=>?_))))
  ·
   obtain ⟨a,ha⟩:=Dl hc1
   have hlt:=Cm ha
   have hm:=List.mem_of_getElem? ha
   refine Bl (AW.seq (AW.block (Ad ?_)))
   refine Qp (Ag (c:=[Iq _,.str _,.str _,Iq _,_,Iq _]) tok rfl rfl rfl rfl rfl rfl (by omega) (Dk ha)) ?_
   refine Qp (B2 [Iq _,.str _,.str _,Iq _,_,Iq _]) ?_
   refine Qe (An (l:=[.int .i64 0,.str [],.str [],.int .i64 0,.sl 6 [],.int .i64 0]) (by kernel_rfl)) ?_
   rintro _ _ ⟨b6,rfl,rfl⟩
   refine B0 0 [Iq _,.str _,.str _,Iq _,_,Iq _] (_::_::_::_) ?_
   refine AOL.ghost (GS.freeze (t:=6) 0 rfl rfl) ?_
   refine By ?_
   refine Qp (A1 (v:=.fn _ _ _) rfl) ?_
   refine Qp (B2 [Iq _,.str _,.str _,Iq _,_,Iq _]) ?_
   refine Qe (Hb hK rfl rfl (List.append_nil _) ((hf a hm).at (k:=1) (H2:=_::_::_) rfl rfl)) ?_
   rintro _ _ ⟨rfl,rfl⟩
   refine Qe (An (l:=[.int .i64 0,.int .i64 0]) (by kernel_rfl)) ?_
   rintro _ _ ⟨b7,rfl,rfl⟩
   refine B0 0 [Iq _,Iq _] (_::_::_::_) ?_
   refine AOL.ghost (GS.freeze (t:=7) 0 rfl rfl) ?_
   refine By (Qp (Qf [Iq _]) (Qp Bt (Qp B9 (Aa (Au (fun hc2=>?_) fun hc2=>?_)))))
   ·
    refine Ad (Qp (B2 [Iq _,Iq _]) ?_)
    refine B0 0 [Iq _,Iq _] (_::_::_) ?_
    refine Aa (AW.ret (Ao (Ai (Ai (Ao (Ai ?_))))))
    refine ⟨.inr rfl,[.agg [Iq _,Iq _]],.cons (.box _ _ _ 0 _ _ _ _ rfl rfl rfl rfl rfl rfl) <| .nil,_,.cons _ (.refl _),?_⟩
    exact ⟨Eq.trans rfl (congrArg (fun q:Fa=>AV.agg (M1 q)) (Tv ha hR.2 hc2)).symm,rfl⟩
   ·
    refine AW.skip (Bc (Af (AW.region (Qp Ei (Qp A4 (Aa ?_))))))
    refine ⟨k+1,?_,?_,GS.weaken ⟨rfl,rfl,rfl,rfl,rfl,rfl,trivial⟩ (.refl _)⟩
    · exact ⟨hlt,Nw hR.2 ha hc2⟩
    · omega
  ·
   have hte:=E8 hc1
   have hall:=hR.2
   rw [hte] at hall
   refine AW.exit ?_
   refine A7 (A7 (Bp (Af (Ad ?_))))
   refine Qp (Qc rfl (J1)) ?_
   refine B0 0 [Iq _,Iq _] (_::_::_) ?_
   refine Aa (AW.ret ?_)
   refine ⟨.inr rfl,[.agg [Iq _,Iq _]],.cons (.box _ _ _ 0 _ _ _ _ rfl rfl rfl rfl rfl rfl) <| .nil,_,.cons _ (.refl _),?_⟩
   exact ⟨Eq.trans rfl (congrArg (fun q:Fa=>AV.agg (M1 q)) (Q5 hall)).symm,rfl⟩

set_option maxHeartbeats 1600000
set_option maxRecDepth 20000

theorem sE (T:List e8Sc)(V:List Va)(s:Nx)(bp:Nat)(hrv:RvOK T V)(t:Syn)(ht:Eg t):Bd Tryz.prog 169 bp 159 (Qi T V s) (Qi T V s) [.val (.pointer (some ⟨bp,0,none⟩)),.agg (cSyn t)] (.agg (M1 (Ij T V t))):=by
 intro H
 refine Bw.body (n:=72) tok Tryz.func169 rfl rfl rfl ?_
 refine Ad (Qp (Eu [Iq _,.str _,.str _,Iq _,_,Iq _]) ?_)
 refine Qe (An (l:=[.int .i64 0,.int .i64 0]) (by kernel_rfl)) ?_
 rintro _ _ ⟨b4,rfl,rfl⟩
 refine Aa (AW.seq (Ad (Qp (Qf [Iq _,.str _,.str _,Iq _,_,Iq _]) (Qp Bt (Qp B9 (Qp Bq (Qg [] Qw (Qf [Iq _,.str _,.str _,Iq _,_,Iq _]) (Qg [(11,_)] Qw Bt (Qg [(12,_)] Qw B9 ?_)))))))))
 refine Qp Et (Qp Bq (Qg [] Qw (Qf [Iq _,.str _,.str _,Iq _,_,Iq _]) (Qg [(16,_)] Qw Bt (Qg [(17,_)] Qw B9 (Qp Et (Aa (Au (fun hc1=>?_) fun hc1=>?_)))))))
 ·
  refine Ad ?_
  refine Qp (Qc rfl (J1)) ?_
  refine B0 0 [Iq _,Iq _] (_::_::_) ?_
  refine Aa (Cx ?_)
  refine ⟨.inr rfl,[.agg [Iq _,Iq _]],.cons (.box _ _ _ 0 _ _ _ _ rfl rfl rfl rfl rfl rfl) <| .nil,_,.cons _ (.refl _),?_⟩
  exact ⟨Eq.trans rfl (congrArg (fun q:Fa=>AV.agg (M1 q)) (zV hc1)).symm,rfl⟩
 ·
  refine Bl (AW.seq ?_)
  refine AW.draw mixed (fun H'=>_∈H') (List.mem_of_getElem? (i:=1) rfl) (by kernel_rfl) ?_
  refine Qn 0 rfl Br ?_
  refine Qn 1 rfl (Ak rfl) ?_
  refine Qn 2 rfl Cb ?_
  refine Qn 3 rfl (OpP.Aas (fun k=>Aj (k:=k) (c:=.smapv _) tok rfl rfl rfl rfl) (fun _ h=>h)) ?_
  refine Qn 4 rfl (Qf [.str _,.str _,Iq _,_,Iq _]) (Qn 5 rfl Df ?_)
  refine Qn 6 rfl (U0 (es:=Kb (Ic V)) tok rfl rfl rfl rfl rfl (by kernel_rfl) rfl rfl (Mt _ _ rfl) (cZ _ _)) ?_
  refine Qn 7 rfl L0 (Qn 8 rfl Jw (Qn 9 rfl cF (Qn 10 rfl A0 (Qn 11 rfl A3 ?_))))
  refine Hs.done _ _ (by kernel_rfl) ?_
  refine Af (AW.seq (Ad (Qp Bq (Qp Fz (Aa (Au (fun hc2=>?_) fun hc2=>?_))))))
  ·
   refine Ad (Qp (Qf [Iq _]) (Qp Bt (Qp (Ea [Iq _,Iq _]) ?_)))
   refine B0 0 [Iq _,Iq _] (_::_::_) ?_
   refine Aa (Cx ?_)
   refine ⟨.inr rfl,[.agg [Iq _,Iq _]],.cons (.box _ _ _ 0 _ _ _ _ rfl rfl rfl rfl rfl rfl) <| .nil,_,.cons _ (.refl _),?_⟩
   exact ⟨Eq.trans rfl (congrArg (fun q:Fa=>AV.agg (M1 q)) (yN hc1 hc2)).symm,rfl⟩
  ·
   have hct:(Ic V).contains t.text=true:=by simpa using hc2
   refine (cQ hct).elim fun va hva=>?_
   have hix:=I6 hct
   have hix2:=hix.2
   rw [List.length_map] at hix2
   have hvm:=List.mem_of_getElem? hva
   have hvt:=hrv.ty va hvm
   refine (Ye hrv hvm).elim fun sc hsc=>?_
   have hsr:=cN hva hsc
   have hfl:=hrv.fl sc (List.mem_of_getElem? hsc)
   refine Bl (AW.seq (Ad (Qp (Qf [Iq _,.str _,.str _,Iq _,_,Iq _]) (Qp Bt (Qp Av (Qp Bq (Qg [] Qw (Qf [Iq _,.str _,.str _,Iq _,_,Iq _]) (Qg [(40,_)] Qw Bt (Qg [(41,_)] Qw Av ?_)))))))))
   refine Qg [(42,_)] Qw Bq (Qg [] Qw (Qf [.str _,Iq _,_,Iq _]) (Qg [(44,_)] Qw Df ?_))
   refine AOL.Aap (y:=.bool _) _ [(45,_)] rfl (iB.all ⟨Ent.Aao _ _,trivial⟩) (fun hG=>A5 rfl rfl) rfl ?_
   refine Qg [(43,_),(46,_)] Qw Et (Qp Cy (Aa (Au (fun hc3=>?_) fun hc3=>?_)))
   ·
    refine Ad ?_
    refine Qp (Qc rfl (J1)) ?_
    refine B0 0 [Iq _,Iq _] (_::_::_) ?_
    refine Aa (Cx ?_)
    refine ⟨.inr rfl,[.agg [Iq _,Iq _]],.cons (.box _ _ _ 0 _ _ _ _ rfl rfl rfl rfl rfl rfl) <| .nil,_,.cons _ (.refl _),?_⟩
    exact ⟨Eq.trans rfl (congrArg (fun q:Fa=>AV.agg (M1 q)) (look_3 hc1 hc2 hc3)).symm,rfl⟩
   ·
    refine Bl (AW.seq (AW.seq ?_))
    refine AW.draw mixed (fun H'=>_∈H') (List.mem_of_getElem? (i:=1) rfl) (by kernel_rfl) ?_
    refine Qn 0 rfl Br ?_
    refine Qn 1 rfl (Ak rfl) ?_
    refine Qn 2 rfl Cb ?_
    refine Qn 3 rfl (OpP.Aas (fun k=>Aj (k:=k) (c:=.sl _ _) tok rfl rfl rfl rfl) (fun _ h=>h)) ?_
    refine Qn 4 rfl Br ?_
    refine Qn 5 rfl (Ak rfl) ?_
    refine Qn 6 rfl Cb ?_
    refine Qn 7 rfl (OpP.Aas (fun k=>Aj (k:=k) (c:=.sl _ _) tok rfl rfl rfl rfl) (fun _ h=>h)) ?_
    refine Qn 8 rfl A4 ?_
    refine Qn 9 rfl (Ag (c:=[.str _,Iq _]) tok rfl rfl rfl rfl rfl rfl (hix.1) (Ff hva)) ?_
    refine Qn 10 rfl (Qf [Iq _]) (Qn 11 rfl Bt ?_)
    refine Qn 12 rfl (Ag (c:=[.str _,_]) tok rfl rfl rfl rfl rfl rfl (hvt.1) (Ff hsc)) ?_
    refine Qn 13 rfl (B2 [.str _,_]) (Qn 14 rfl (Qf [.str _,Iq _,_,Iq _]) (Qn 15 rfl Df ?_))
    refine Qn 16 rfl (Qc rfl (J7 sc hfl t.name)) ?_
    refine Qn 17 rfl B7 ?_
    refine Hs.done _ _ (by kernel_rfl) ?_
    refine Af (Au (fun hc4=>?_) fun hc4=>?_)
    ·
     refine Ad (Qp (Qf [Iq _]) (Qp Bt (Qp (Ea [Iq _,Iq _]) ?_)))
     refine B0 0 [Iq _,Iq _] (_::_::_) ?_
     refine Aa (Cx ?_)
     refine ⟨.inr rfl,[.agg [Iq _,Iq _]],.cons (.box _ _ _ 0 _ _ _ _ rfl rfl rfl rfl rfl rfl) <| .nil,_,.cons _ (.refl _),?_⟩
     exact ⟨Eq.trans rfl (congrArg (fun q:Fa=>AV.agg (M1 q)) (zK hc1 hc2 hc3 (by rw [hsr];exact hc4))).symm,rfl⟩
    ·
     refine Bl (Ad ?_)
     refine Qp (Qc rfl (J1)) ?_
     refine B0 0 [Iq _,Iq _] (_::_::_) ?_
     refine Aa (AW.ret ?_)
     refine ⟨.inr rfl,[.agg [Iq _,Iq _]],.cons (.box _ _ _ 0 _ _ _ _ rfl rfl rfl rfl rfl rfl) <| .nil,_,.cons _ (.refl _),?_⟩
     exact ⟨Eq.trans rfl (congrArg (fun q:Fa=>AV.agg (M1 q)) (zM hc1 hc2 hc3 (by rw [hsr];exact hc4))).symm,rfl⟩
theorem qO (T:List e8Sc)(V:List Va)(s:Nx)(bp:Nat)(hrv:RvOK T V)(t:Syn)(ht:Eg t):Bd Tryz.prog 98 bp 159 (Qi T V s) (Qi T V s) [.val (.pointer (some ⟨bp,0,none⟩)),.agg (cSyn t)] (.agg (M1 (Fj T V t))):=by
 intro H
 revert H
 induction t using Syn.ind
 rename_i t ih
 intro H
 refine Bw.body (n:=18) tok Tryz.func98 rfl rfl rfl ?_
 refine Ad (Qp (Eu [Iq _,.str _,.str _,Iq _,_,Iq _]) ?_)
 refine Qe (An (l:=[.int .i64 0,.int .i64 0]) (by kernel_rfl)) ?_
 rintro _ _ ⟨b4,rfl,rfl⟩
 refine Aa (AW.seq (Ad (Qp Br (Qp (B2 [Iq _,.str _,.str _,Iq _,_,Iq _]) ?_))))
 refine AOL.Aaq (Ce (k:=1) (by kernel_rfl) rfl rfl (sE T V s bp hrv t ht)) rfl rfl ?_
 refine Qe (An (l:=[.int .i64 0,.int .i64 0]) (by kernel_rfl)) ?_
 rintro _ _ ⟨b5,rfl,rfl⟩
 refine B0 0 [Iq _,Iq _] (_::_::_::_) ?_
 refine AOL.ghost (GS.freeze (t:=5) 0 rfl rfl) ?_
 refine By (Qp (Qf [Iq _]) (Qp Bt (Qp B9 (Aa (Au (fun hc1=>?_) fun hc1=>?_)))))
 ·
  refine Ad (Qp (B2 [Iq _,Iq _]) ?_)
  refine B0 0 [Iq _,Iq _] (_::_::_) ?_
  refine Aa (Cx ?_)
  refine ⟨.inr rfl,[.agg [Iq _,Iq _]],.cons (.box _ _ _ 0 _ _ _ _ rfl rfl rfl rfl rfl rfl) <| .nil,_,.cons _ (.refl _),?_⟩
  exact ⟨Eq.trans rfl (congrArg (fun q:Fa=>AV.agg (M1 q)) (xS hc1)).symm,rfl⟩
 ·
  refine Bl (Ad (Qp (Qf [_,Iq _]) (Qp Dg (Qp Br ?_))))
  refine Qp (Bv (l:=[.val _]) (l':=[]) rfl rfl) ?_
  refine Qe (Al (by kernel_rfl) rfl rfl ((sI bp 159 _ t.kids (Nat.le_trans (Hl ht) (by decide)) 98 (by kernel_rfl) [.val (.pointer (some ⟨bp,0,none⟩))] (Fj T V) (fun a ha=>fun R=>ih a ha (Ec ht ha) R)).at (k:=1) (H2:=_::_::_) rfl rfl)) ?_
  rintro _ _ ⟨rfl,rfl⟩
  refine B0 0 [Iq _,Iq _] (_::_::_) ?_
  refine Aa (AW.ret ?_)
  refine ⟨.inr rfl,[.agg [Iq _,Iq _]],.cons (.box _ _ _ 0 _ _ _ _ rfl rfl rfl rfl rfl rfl) <| .nil,_,.cons _ (.refl _),?_⟩
  exact ⟨Eq.trans rfl (congrArg (fun q:Fa=>AV.agg (M1 q)) (xN hc1)).symm,rfl⟩

end Go.Proofs.YtckhoadldibflaaGreatDoor
