/-
  Several texts in one: U12, U13, U14, Paw, Au, As, U1. No condition.
-/
import Derived.Test.YtkdhionilabokaaGreatDoorK04
import Derived.Test.YtkdhionilabokaaGreatDoorK03
import Derived.KernelRfl
set_option linter.unusedVariables false
set_option linter.unusedSimpArgs false
set_option maxHeartbeats 3200000
set_option maxRecDepth 20000
namespace Go.Proofs.YtkdhionilabokaaGreatDoor
open Go Go.Aw
def Wt (w w':List Lt):Prop:=∀x,x∈w↔x∈w'
structure WOK (n m:Nat) (s:List Pr) (w:List Lt):Prop where
 asc:rO s
 at':∀x∈w,n<=x.a/\x.a<m
 ws:∀x∈w,(⟨x.v,x.a⟩:Pr)∈s
 sw:∀y∈s,∃x∈w,x.v=y.v/\x.a=y.a
 one:∀x∈w,∀y∈w,x.a=y.a->x=y
structure FndOK (n m k:Nat) (vs:List Int) (f:Fnd):Prop extends WOK n m f.s f.w where
 ne:f.s≠[]
 var:∀x∈f.w,x.v∈vs
 sz:M4 f.d<=k*f.s.length
structure EnOK (m k lp:Nat) (vs:List Int) (e:En):Prop where
 ok:∀o n,n<=m->∀f∈e o n,FndOK n m k vs f
 ne:∀o n,n<=m->(e o n).Pairwise fun f g=>¬Wt f.w g.w
 fl:lp<=1->∀o n,n<=m->∀f∈e o n,∀x∈f.w,x.b=false
 var:lp=0->∀o n,n<=m->∀f∈e o n,∀x∈f.w,∀y∈f.w,x.v=y.v->x=y
 anti:lp=0->∀o n,n<=m->∀f∈e o n,∀o' n',n'<=m->∀g∈e o' n',(∀x∈f.w,∃y∈g.w,y.v=x.v)->∀y∈g.w,∃x∈f.w,x.v=y.v
theorem WOK.nil {n m:Nat}:WOK n m [] []:=⟨.nil,fun _ h=>(by cases h),fun _ h=>(by cases h),fun _ h=>(by cases h),fun _ h=>(by cases h)⟩
theorem FndOK.wne {n m k:Nat}{vs:List Int}{f:Fnd}(h:FndOK n m k vs f):∃x∈f.w,x.a=lasP f.s:=by
 obtain ⟨y,hy,e⟩:=N2 h.ne;obtain ⟨x,hx,_,e2⟩:=h.sw y hy;exact ⟨x,hx,e2.trans e⟩
theorem FndOK.last {n m k:Nat}{vs:List Int}{f:Fnd}(h:FndOK n m k vs f){x:Lt}(hx:x∈f.w):x.a<=lasP f.s:=bM h.asc (h.ws x hx)
theorem FndOK.lasP {n m k:Nat}{vs:List Int}{f:Fnd}(h:FndOK n m k vs f):n<=lasP f.s/\lasP f.s<m:=by
 obtain ⟨x,hx,e⟩:=h.wne;rw [<-e];exact h.at' x hx
theorem E1 {b:Bool}{w:List Lt}{x:Lt}:x∈Ng b w↔x.b=b/\∃y∈w,y.v=x.v/\y.a=x.a:=by
 unfold Ng;rw [B7]
 constructor
 . rintro ⟨y,hy,rfl⟩;exact ⟨rfl,y,hy,rfl,rfl⟩
 rintro ⟨h,y,hy,h1,h2⟩;exact ⟨y,hy,by cases x;simp_all⟩
theorem WOK.join {n m:Nat}{s t:List Pr}{w u:List Lt}(hm:m<=1048576)(h1:WOK n m s w)(h2:WOK n m t u)(hd:∀x∈s,∀y∈t,x.a≠y.a):WOK n m (Ch s t) (w++u):=by
 refine ⟨Sm (fun x hx=>?_) hd h1.asc h2.asc,fun x hx=>?_,fun x hx=>?_,fun y hy=>?_,fun x hx y hy e=>?_⟩
 .
  rcases Da.1 hx with hx | hx
  . obtain ⟨z,hz,_,e⟩:=h1.sw x hx;have:=h1.at' z hz;omega
  obtain ⟨z,hz,_,e⟩:=h2.sw x hx;have:=h2.at' z hz;omega
 .
  rcases Da.1 hx with hx | hx
  . exact h1.at' x hx
  exact h2.at' x hx
 .
  rcases Da.1 hx with hx | hx
  . exact F5.2 (.inl (h1.ws x hx))
  exact F5.2 (.inr (h2.ws x hx))
 .
  rcases F5.1 hy with hy | hy
  . obtain ⟨z,hz,e⟩:=h1.sw y hy;exact ⟨z,La _ hz,e⟩
  obtain ⟨z,hz,e⟩:=h2.sw y hy;exact ⟨z,Qb _ hz,e⟩
 rcases Da.1 hx with hx | hx <;> rcases Da.1 hy with hy | hy
 . exact h1.one x hx y hy e
 . exact absurd e (hd _ (h1.ws x hx) _ (h2.ws y hy))
 . exact absurd e.symm (hd _ (h1.ws y hy) _ (h2.ws x hx))
 exact h2.one x hx y hy e
theorem WOK.mark {n m:Nat}{s:List Pr}{w:List Lt}(b:Bool)(h:WOK n m s w):WOK n m s (Ng b w):=by
 refine ⟨h.asc,fun x hx=>?_,fun x hx=>?_,fun y hy=>?_,fun x hx y hy e=>?_⟩
 . obtain ⟨_,z,hz,e1,e2⟩:=E1.1 hx;rw [<-e2];exact h.at' z hz
 . obtain ⟨_,z,hz,e1,e2⟩:=E1.1 hx;rw [<-e1,<-e2];exact h.ws z hz
 . obtain ⟨z,hz,e⟩:=h.sw y hy;exact ⟨⟨z.v,z.a,b⟩,E1.2 ⟨rfl,z,hz,rfl,rfl⟩,e⟩
 obtain ⟨f1,z1,hz1,e1,e2⟩:=E1.1 hx;obtain ⟨f2,z2,hz2,e3,e4⟩:=E1.1 hy;have:z1=z2:=h.one z1 hz1 z2 hz2 (by omega);subst this;cases x;cases y;simp_all
theorem WOK.mono {n n' m:Nat}{s:List Pr}{w:List Lt}(h:WOK n m s w)(hn:n'<=n):WOK n' m s w:=⟨h.asc,fun x hx=>⟨Fp hn (h.at' x hx).1,(h.at' x hx).2⟩,h.ws,h.sw,h.one⟩
theorem dD (l:List Dv)(d:Dv):((l ++ [d]).map M4).sum=(l.map M4).sum+M4 d:=by simp
theorem Zi {α β:Type}{R:β->β->Prop}{S:α->α->Prop}{g:α->List β}:∀{l:List α},l.Pairwise S->(∀x∈l,(g x).Pairwise R)->(∀x∈l,∀y∈l,S x y->∀a∈g x,∀b∈g y,R a b)->(l.flatMap g).Pairwise R
  | [],_,_,_=>by simp
  | x::l,h,h1,h2=>by
    rw [G8,List.pairwise_append];have h3:=L0.1 h;refine ⟨h1 x (Fs ..),Zi h3.2 (fun y hy=>h1 y (Ft _ hy)) (fun y hy z hz=>h2 y (Ft _ hy) z (Ft _ hz)),?_⟩;intro a ha b hb;obtain ⟨y,hy,hb⟩:=K8.1 hb;exact h2 x (Fs ..) y (Ft _ hy) (h3.1 y hy) a ha b hb
section
variable (vss:List (List Int)) (es:List En) (n0 m k lp:Nat)
def Vi (i:Nat)(v:Int):Prop:=∃vs,vss[i]? = some vs/\v∈vs
structure LsOK:Prop where
 ok:∀(i:Nat) (e:En),es[i]? = some e->∃vs,vss[i]? = some vs/\EnOK m k lp vs e
 dis:∀i j v,Vi vss i v->Vi vss j v->i=j
structure LSt (j:Nat) (kids:List Dv) (s:List Pr) (w:List Lt):Prop extends WOK n0 m s w where
 ne:0<j->s≠[]
 vi:∀x∈w,∃i,i<j/\Vi vss i x.v
 sz:(kids.map M4).sum<=k*s.length
 fl:lp<=1->∀x∈w,x.b=false
 part:∀(i:Nat) (e:En),i<j->es[i]? = some e->∃o n f,n<=m/\f∈e o n/\∀x,x∈f.w↔(x∈w/\Vi vss i x.v)
end
theorem LSt.step {vss:List (List Int)}{es:List En}{n0 m k lp j a:Nat}{kids:List Dv}{s:List Pr}{w:List Lt}{e:En}{o:List Pr}{f:Fnd}(hm:m<=1048576)(hE:LsOK vss es m k lp)(h:LSt vss es n0 m k lp j kids s w)(he:es[j]? = some e)(ha:a<=m)(hn:n0<=a)(hf:f∈e o a)
  (hd:Hz s f.s=true):LSt vss es n0 m k lp (j+1) (kids ++ [f.d]) (Ch s f.s) (w++f.w)/\(∀x∈f.w,Vi vss j x.v)/\FndOK a m k ((vss[j]?).getD []) f:=by
 obtain ⟨vs,hvs,hok⟩:=hE.ok j e he;have hfo:=hok.ok o a ha f hf;have hfv:∀x∈f.w,Vi vss j x.v:=fun x hx=>⟨vs,hvs,hfo.var x hx⟩
 refine ⟨⟨WOK.join hm h.toWOK (hfo.toWOK.mono hn) (X3 hd),fun _ hnil=>?_,fun x hx=>?_,?_,fun hl x hx=>?_,fun i e' hi he'=>?_⟩,hfv,by rw [hvs];exact hfo⟩
 .
  obtain ⟨y,hy,_⟩:=N2 hfo.ne;have:y∈Ch s f.s:=F5.2 (.inr hy);rw [hnil] at this;cases this
 .
  rcases Da.1 hx with hx | hx
  . obtain ⟨i,hi,hv⟩:=h.vi x hx;exact ⟨i,by omega,hv⟩
  exact ⟨j,by omega,hfv x hx⟩
 .
  rw [dD,Mc,Nat.mul_add];have:=h.sz;have:=hfo.sz;omega
 .
  rcases Da.1 hx with hx | hx
  . exact h.fl hl x hx
  exact hok.fl hl o a ha f hf x hx
 rcases Ix i j with hij | hij
 .
  obtain ⟨o',n',g,hn',hg,hgw⟩:=h.part i e' hij he';refine ⟨o',n',g,hn',hg,fun x=>?_⟩;rw [hgw,Da]
  constructor
  . rintro ⟨h1,h2⟩;exact ⟨.inl h1,h2⟩
  rintro ⟨h1 | h1,h2⟩
  . exact ⟨h1,h2⟩
  have:=hE.dis i j _ h2 (hfv x h1);omega
 have:i=j:=by omega
 subst this;rw [he] at he';cases he';refine ⟨o,a,f,ha,hf,fun x=>?_⟩;rw [Da]
 constructor
 . intro hx;exact ⟨.inr hx,hfv x hx⟩
 rintro ⟨h1 | h1,h2⟩
 .
  obtain ⟨i',hi',hv'⟩:=h.vi x h1;have:=hE.dis _ _ _ hv' h2;omega
 exact h1
theorem iA {vss:List (List Int)}{es:List En}{n0 m k lp:Nat}(sq:Bool)(o:List Pr)(hm:m<=1048576)(hE:LsOK vss es m k lp):∀(n a:Nat) (kids:List Dv) (s:List Pr) (w:List Lt),kids.length<=es.length->a<=m->n0<=a->LSt vss es n0 m k lp kids.length kids s w->
    (∀r∈Ps false sq false es o n a kids s w,(∃ks,r.d=⟨fJ,0,ks⟩/\LSt vss es n0 m k lp es.length ks r.s r.w)/\∃X,r.w=w++X/\∀x∈X,∃i,kids.length<=i/\Vi vss i x.v)/\
    (Ps false sq false es o n a kids s w).Pairwise fun f g=>¬Wt f.w g.w
  | 0,a,kids,s,w,_,_,_,_=>by rw [Ps];exact ⟨fun r hr=>(by cases hr),.nil⟩
  | n+1,a,kids,s,w,hk,ha,hna,hst=>by
    rw [Ps];simp only [A2,if_false,Bs,Bo];by_cases hkl:kids.length=es.length
    . have hb:(kids.length==es.length)=true:=by simpa using hkl
      rw [if_pos hb,if_pos hb,H1];refine ⟨fun r hr=>?_,by simp⟩;rw [F3] at hr;subst hr;exact ⟨⟨kids,rfl,hkl▸hst⟩,[],by simp [gU],fun x hx=>by cases hx⟩
    . have hb:(kids.length==es.length)=false:=by simpa using hkl
      rw [if_neg (by rw [hb];decide),if_neg (by rw [hb];decide),H6,Nat.mod_eq_of_lt (by omega)];obtain ⟨e,he⟩:∃e,es[kids.length]? = some e:=⟨_,List.getElem?_eq_getElem (by omega)⟩;rw [he,K7];obtain ⟨vs,hvs,hok⟩:=hE.ok _ e he
      have key:∀f∈e (if sq then Ch o s else o) a,Hz s f.s=true->
          (∀x∈f.w,Vi vss kids.length x.v)/\((∀r∈Ps false sq false es o n (if sq then lasP f.s+1 else a) (kids ++ [f.d]) (Ch s f.s) (w++f.w),(∃ks,r.d=⟨fJ,0,ks⟩/\LSt vss es n0 m k lp es.length ks r.s r.w)/\∃X,r.w=(w++f.w)++X/\∀x∈X,∃i,kids.length+1<=i/\Vi vss i x.v)/\
          (Ps false sq false es o n (if sq then lasP f.s+1 else a) (kids ++ [f.d]) (Ch s f.s) (w++f.w)).Pairwise fun f g=>¬Wt f.w g.w):=by
        intro f hf hd;obtain ⟨h1,h2,h3⟩:=LSt.step hm hE hst he ha hna hf hd;have h4:=h3.lasP;have:=iA (n0:=n0) sq o hm hE n (if sq then lasP f.s+1 else a) (kids ++ [f.d]) (Ch s f.s) (w++f.w) (by simp;omega) (by split <;> omega) (by split <;> omega) (by simpa using h1);refine ⟨h2,?_⟩;simpa using this
      refine ⟨fun r hr=>?_,?_⟩
      . obtain ⟨f,hf,hr⟩:=K8.1 hr
        by_cases hd:Hz s f.s=true
        . rw [if_pos hd] at hr
          obtain ⟨h2,h3,_⟩:=key f hf hd;obtain ⟨h4,X,h5,h6⟩:=h3 r hr;refine ⟨h4,f.w++X,by rw [h5,Cs],fun x hx=>?_⟩;rcases Da.1 hx with hx | hx
          . exact ⟨_,Bi _,h2 x hx⟩
          obtain ⟨i,hi,hv⟩:=h6 x hx;exact ⟨i,by omega,hv⟩
        rw [if_neg hd] at hr;cases hr
      . refine Zi (hok.ne _ a ha) (fun f hf=>?_) (fun f hf g hg hfg r hr r' hr'=>?_)
        . by_cases hd:Hz s f.s=true
          . rw [if_pos hd];exact (key f hf hd).2.2
          rw [if_neg hd];exact .nil
        . by_cases hd:Hz s f.s=true
          . by_cases hd':Hz s g.s=true
            . rw [if_pos hd] at hr
              rw [if_pos hd'] at hr';obtain ⟨h2,h3,_⟩:=key f hf hd;obtain ⟨h2',h3',_⟩:=key g hg hd';obtain ⟨_,X,h5,h6⟩:=h3 r hr;obtain ⟨_,X',h5',h6'⟩:=h3' r' hr'
              have half:∀(u u' X X':List Lt),(∀x∈u,Vi vss kids.length x.v)->(∀x∈X',∃i,kids.length+1<=i/\Vi vss i x.v)->(∀x,x∈(w++u)++X->x∈(w++u')++X')->∀x∈u,x∈u':=by
                intro u u' X X' h1 h2 h3 x hx;have hv:=h1 x hx;rcases Da.1 (h3 x (by simp [hx])) with h | h
                . rcases Da.1 h with h | h
                  . obtain ⟨i,hi,hvi⟩:=hst.vi x h
                    have:=hE.dis _ _ _ hvi hv;omega
                  exact h
                . obtain ⟨i,hi,hvi⟩:=h2 x h
                  have:=hE.dis _ _ _ hvi hv;omega
              intro hs;rw [h5,h5'] at hs;exact hfg fun x=>⟨half f.w g.w X X' h2 h6' (fun x=>(hs x).1) x,half g.w f.w X' X h2' h6 (fun x=>(hs x).2) x⟩
            rw [if_neg hd'] at hr';cases hr'
          rw [if_neg hd] at hr;cases hr
structure PSt (vs:List Int) (n0 m k lp:Nat) (a:Nat) (kids:List Dv) (s:List Pr) (w:List Lt):Prop extends WOK n0 m s w where
 ne:0<kids.length->s≠[]
 lt:∀x∈w,x.a<a
 var:∀x∈w,x.v∈vs
 sz:(kids.map M4).sum<=k*s.length
 fl:lp=0->∀x∈w,x.b=false
theorem Aac (n:Nat):((n+1) % 2==1) = !(n % 2==1):=by
 rcases Nat.mod_two_eq_zero_or_one n with h | h
 .
  have h2:(n+1) % 2=1:=by omega
  rw [h,h2];rfl
 have h2:(n+1) % 2=0:=by omega
 rw [h,h2];rfl
def Sx (lp n:Nat)(w:List Lt):List Lt:=if decide (1<=lp) then Ng (n % 2==1) w else w
theorem Vz {lp n:Nat}{w:List Lt}{x:Lt}(h:x∈Sx lp n w):∃y∈w,y.v=x.v/\y.a=x.a:=by
 unfold Sx at h;split at h
 . exact (E1.1 h).2
 exact ⟨x,h,rfl,rfl⟩
theorem rd_of {lp n:Nat}{w:List Lt}{y:Lt}(h:y∈w):∃x∈Sx lp n w,x.v=y.v/\x.a=y.a:=by
 unfold Sx;split
 . exact ⟨⟨y.v,y.a,n % 2==1⟩,E1.2 ⟨rfl,y,h,rfl,rfl⟩,rfl,rfl⟩
 exact ⟨y,h,rfl,rfl⟩
theorem rd_wok {lp c n m:Nat}{s:List Pr}{w:List Lt}(h:WOK n m s w):WOK n m s (Sx lp c w):=by
 unfold Sx;split
 . exact h.mark _
 exact h
theorem PSt.step {vs:List Int}{n0 m k lp a:Nat}{kids:List Dv}{s:List Pr}{w:List Lt}{e:En}{o:List Pr}{f:Fnd}(hm:m<=1048576)(hE:EnOK m k lp vs e)(h:PSt vs n0 m k lp a kids s w)(ha:a<=m)(hn:n0<=a)(hf:f∈e o a)(hd:Hz s f.s=true) :
  PSt vs n0 m k lp (lasP f.s+1) (kids ++ [f.d]) (Ch s f.s) (w++Sx lp kids.length f.w):=by
 have hfo:=hE.ok o a ha f hf;have hl:=hfo.lasP;refine ⟨WOK.join hm h.toWOK (rd_wok (hfo.toWOK.mono hn)) (X3 hd),fun _ hnil=>?_,fun x hx=>?_,fun x hx=>?_,?_,fun hl0 x hx=>?_⟩
 .
  obtain ⟨y,hy,_⟩:=N2 hfo.ne;have:y∈Ch s f.s:=F5.2 (.inr hy);rw [hnil] at this;cases this
 .
  rcases Da.1 hx with hx | hx
  . have:=h.lt x hx;omega
  obtain ⟨y,hy,_,e2⟩:=Vz hx;have:=hfo.last hy;omega
 .
  rcases Da.1 hx with hx | hx
  . exact h.var x hx
  obtain ⟨y,hy,e1,_⟩:=Vz hx;rw [<-e1];exact hfo.var y hy
 .
  rw [dD,Mc,Nat.mul_add];have:=h.sz;have:=hfo.sz;omega
 rcases Da.1 hx with hx | hx
 . exact h.fl hl0 x hx
 unfold Sx at hx;subst hl0;exact hE.fl (by omega) o a ha f hf x (by simpa using hx)
theorem cO {vs:List Int}{m k lp a c:Nat}{e:En}{o:List Pr}{f g:Fnd}{X Y:List Lt}(hlp:lp<=1)(hE:EnOK m k lp vs e)(ha:a<=m)(hf:f∈e o a)(hg:g∈e o a)(hle:lasP f.s<=lasP g.s)
    (hX:∀x∈X,lasP f.s+1<=x.a) (hY:∀x∈Y,lasP g.s+1<=x.a) (hP:lp=1->X = []\/∃y∈X,y.b = !(c % 2==1)/\∀z∈X,z.b=(c % 2==1)->y.a<z.a)
    (hs:∀x,x∈Sx lp c f.w++X↔x∈Sx lp c g.w++Y):Wt f.w g.w:=by
  have hfo:=hE.ok o a ha f hf;have hgo:=hE.ok o a ha g hg
  -- the letters of the first are letters of the second
  have sub:∀x∈Sx lp c f.w,x∈Sx lp c g.w:=by
    intro x hx;rcases Da.1 ((hs x).1 (La _ hx)) with h | h
    . exact h
    . obtain ⟨y,hy,_,e2⟩:=Vz hx
      have:=hfo.last hy;have:=hY x h;omega
  rcases Ix 0 lp with h1 | h1
  . have hl1:lp=1:=by omega
    subst hl1;have e1:∀w,Sx 1 c w=Ng (c % 2==1) w:=fun w=>rfl
    simp only [e1] at sub hs;have hff:=hE.fl (Bi _) o a ha f hf;have hgf:=hE.fl (Bi _) o a ha g hg
    -- the second is no longer
    have hge:lasP g.s<=lasP f.s:=by
      rcases Ix (lasP f.s) (lasP g.s) with hlt | hge
      . exfalso
        obtain ⟨x2,hx2,ex2⟩:=hgo.wne;have hmx:(⟨x2.v,x2.a,c % 2==1⟩:Lt)∈Ng (c % 2==1) g.w:=E1.2 ⟨rfl,x2,hx2,rfl,rfl⟩;rcases Da.1 ((hs _).2 (La Y hmx)) with h | h
        . obtain ⟨_,y,hy,_,e2⟩:=E1.1 h
          have:=hfo.last hy;simp only at e2;omega
        . rcases hP rfl with hnil | ⟨y,hy,hyb,hyz⟩
          . rw [hnil] at h;cases h
          . have h7:=hyz _ h rfl
            simp only at h7;rcases Da.1 ((hs y).1 (Qb _ hy)) with h8 | h8
            . have:=(E1.1 h8).1
              rw [this] at hyb;exact absurd hyb (by cases (c % 2==1) <;> decide)
            have:=hY y h8;omega
      exact hge
    have sub2:∀x∈Ng (c % 2==1) g.w,x∈Ng (c % 2==1) f.w:=by
      intro x hx;rcases Da.1 ((hs x).2 (La _ hx)) with h | h
      . exact h
      . obtain ⟨_,y,hy,_,e2⟩:=E1.1 hx
        have:=hgo.last hy;have:=hX x h;omega
    intro x
    constructor
    . intro hx
      obtain ⟨_,y,hy,e1,e2⟩:=E1.1 (sub ⟨x.v,x.a,c % 2==1⟩ (E1.2 ⟨rfl,x,hx,rfl,rfl⟩));have:x=y:=by have:=hff x hx;have:=hgf y hy;cases x;cases y;simp_all
      rw [this];exact hy
    . intro hx
      obtain ⟨_,y,hy,e1,e2⟩:=E1.1 (sub2 ⟨x.v,x.a,c % 2==1⟩ (E1.2 ⟨rfl,x,hx,rfl,rfl⟩));have:x=y:=by have:=hgf x hx;have:=hff y hy;cases x;cases y;simp_all
      rw [this];exact hy
  . have hl0:lp=0:=by omega
    subst hl0;have e1:∀w,Sx 0 c w=w:=fun w=>rfl
    simp only [e1] at sub;refine fun x=>⟨sub x,fun hx=>?_⟩
    obtain ⟨y,hy,hv⟩:=hE.anti rfl o a ha f hf o a ha g hg (fun x hx=>⟨x,sub x hx,rfl⟩) x hx;rw [<-hE.var rfl o a ha g hg y (sub y hy) x hx hv];exact hy
theorem iB {vs:List Int}{e:En}{n0 m k lp:Nat}(o:List Pr)(hm:m<=1048576)(hlp:lp<=1)(hE:EnOK m k lp vs e):∀(n a:Nat) (kids:List Dv) (s:List Pr) (w:List Lt),a<=m->n0<=a->PSt vs n0 m k lp a kids s w->
    (∀r∈Ps true true (decide (1<=lp)) [e] o n a kids s w,(∃ks,0<ks.length/\r.d=⟨fJ,0,ks⟩/\PSt vs n0 m k lp m ks r.s r.w)/\
      ∃X,r.w=w++X/\(∀x∈X,a<=x.a)/\(lp=1->X = []\/∃y∈X,y.b=(kids.length % 2==1)/\∀z∈X,z.b=(!(kids.length % 2==1))->y.a<z.a))/\
    (Ps true true (decide (1<=lp)) [e] o n a kids s w).Pairwise fun f g=>¬Wt f.w g.w
  | 0,a,kids,s,w,_,_,_=>by rw [Ps];exact ⟨fun r hr=>(by cases hr),.nil⟩
  | n+1,a,kids,s,w,ha,hna,hst=>by
    rw [Ps];simp only [if_true,Bz,Be,A2,if_false,Nb,Nat.mod_one,List.getElem?_cons_zero,K7]
    have key:∀f∈e (Ch o s) a,Hz s f.s=true->FndOK a m k vs f/\
        ((∀r∈Ps true true (decide (1<=lp)) [e] o n (lasP f.s+1) (kids ++ [f.d]) (Ch s f.s) (w++Sx lp kids.length f.w),(∃ks,0<ks.length/\r.d=⟨fJ,0,ks⟩/\PSt vs n0 m k lp m ks r.s r.w)/\
          ∃X,r.w=(w++Sx lp kids.length f.w)++X/\(∀x∈X,lasP f.s+1<=x.a)/\(lp=1->X = []\/∃y∈X,y.b=(!(kids.length % 2==1))/\∀z∈X,z.b=(kids.length % 2==1)->y.a<z.a))/\
        (Ps true true (decide (1<=lp)) [e] o n (lasP f.s+1) (kids ++ [f.d]) (Ch s f.s) (w++Sx lp kids.length f.w)).Pairwise fun f g=>¬Wt f.w g.w):=by
      intro f hf hd;have h1:=hst.step hm hE ha hna hf hd;have hfo:=hE.ok _ a ha f hf;have h4:=hfo.lasP;have:=iB (n0:=n0) o hm hlp hE n (lasP f.s+1) (kids ++ [f.d]) (Ch s f.s) (w++Sx lp kids.length f.w) (by omega) (by omega) h1;refine ⟨hfo,fun r hr=>?_,this.2⟩;obtain ⟨h5,X,h6,h7,h8⟩:=this.1 r hr;refine ⟨h5,X,h6,h7,fun hl=>?_⟩;have h9:=h8 hl;rw [Do,Nb,Aac,Bool.not_not] at h9;exact h9
    have later:∀f∈e (Ch o s) a,∀r∈(if Hz s f.s then Ps true true (decide (1<=lp)) [e] o n (lasP f.s+1) (kids ++ [f.d]) (Ch s f.s) (w++Sx lp kids.length f.w) else []),∃X,r.w=(w++Sx lp kids.length f.w)++X/\∀x∈X,lasP f.s+1<=x.a:=by
      intro f hf r hr;by_cases hd:Hz s f.s=true
      . rw [if_pos hd] at hr
        obtain ⟨_,h3,_⟩:=key f hf hd;obtain ⟨_,X,h5,h6,_⟩:=h3 r hr;exact ⟨X,h5,h6⟩
      rw [if_neg hd] at hr;cases hr
    refine ⟨fun r hr=>?_,?_⟩
    . rcases Da.1 hr with hr | hr
      . by_cases hk:decide (0<kids.length)=true
        . rw [if_pos hk,F3] at hr
          subst hr;refine ⟨⟨kids,B2 hk,rfl,⟨hst.toWOK,hst.ne,fun x hx=>?_,hst.var,hst.sz,hst.fl⟩⟩,[],by simp [gU],fun x hx=>(by cases hx),fun _=>.inl rfl⟩;have:=hst.lt x hx;omega
        rw [if_neg hk] at hr;cases hr
      . obtain ⟨f,hf,hr⟩:=K8.1 hr
        by_cases hd:Hz s f.s=true
        . have hr':r∈(if Hz s f.s then Ps true true (decide (1<=lp)) [e] o n (lasP f.s+1) (kids ++ [f.d]) (Ch s f.s) (w++Sx lp kids.length f.w) else []):=hr
          rw [if_pos hd] at hr';obtain ⟨hfo,h3,_⟩:=key f hf hd;obtain ⟨h4,X,h5,h6,h7⟩:=h3 r hr';have hll:=hfo.lasP;refine ⟨h4,Sx lp kids.length f.w++X,by rw [h5,Cs],fun x hx=>?_,fun hl=>.inr ?_⟩
          . rcases Da.1 hx with hx | hx
            . obtain ⟨y,hy,_,e2⟩:=Vz hx
              have:=hfo.at' y hy;omega
            have:=h6 x hx;omega
          . obtain ⟨y,hy,ey⟩:=hfo.wne
            subst hl;refine ⟨⟨y.v,y.a,kids.length % 2==1⟩,La _ (E1.2 ⟨rfl,y,hy,rfl,rfl⟩),rfl,fun z hz hzb=>?_⟩;rcases Da.1 hz with hz | hz
            . have:=(E1.1 hz).1
              rw [this] at hzb;exact absurd hzb (by cases (kids.length % 2==1) <;> decide)
            . have:=h6 z hz
              show y.a<z.a;omega
        . have hr':r∈(if Hz s f.s then Ps true true (decide (1<=lp)) [e] o n (lasP f.s+1) (kids ++ [f.d]) (Ch s f.s) (w++Sx lp kids.length f.w) else []):=hr
          rw [if_neg hd] at hr';cases hr'
    . rw [List.pairwise_append]
      refine ⟨?_,?_,?_⟩
      . split
        . simp
        exact .nil
      . refine Zi (hE.ne _ a ha) (fun f hf=>?_) (fun f hf g hg hfg r hr r' hr' hs=>?_)
        . by_cases hd:Hz s f.s=true
          . rw [if_pos hd];exact (key f hf hd).2.2
          rw [if_neg hd];exact .nil
        . by_cases hd:Hz s f.s=true
          . by_cases hd':Hz s g.s=true
            . rw [if_pos hd] at hr
              rw [if_pos hd'] at hr';obtain ⟨hfo,h3,_⟩:=key f hf hd;obtain ⟨hgo,h3',_⟩:=key g hg hd';obtain ⟨_,X,h5,h6,h7⟩:=h3 r hr;obtain ⟨_,Y,h5',h6',h7'⟩:=h3' r' hr';rw [h5,h5'] at hs
              have low:∀(h:Fnd) (Z:List Lt),FndOK a m k vs h->(∀x∈Z,lasP h.s+1<=x.a)->∀x,(x∈Sx lp kids.length h.w++Z↔x∈(w++Sx lp kids.length h.w)++Z/\a<=x.a):=by
                intro h Z hho hZ x;rw [Cs,Da (s:=w)]
                constructor
                . intro hx
                  refine ⟨.inr hx,?_⟩;rcases Da.1 hx with hx | hx
                  . obtain ⟨y,hy,_,e2⟩:=Vz hx
                    have:=hho.at' y hy;omega
                  have:=hZ x hx;have:=hho.lasP;omega
                . rintro ⟨hx | hx,hle⟩
                  . have:=hst.lt x hx;omega
                  exact hx
              have hs2:∀x,x∈Sx lp kids.length f.w++X↔x∈Sx lp kids.length g.w++Y:=fun x=>by rw [low f X hfo h6,low g Y hgo h6',hs x]
              rcases Nat.le_total (lasP f.s) (lasP g.s) with hle | hle
              . exact hfg (cO hlp hE ha hf hg hle h6 h6' h7 hs2)
              exact hfg fun x=>(cO hlp hE ha hg hf hle h6' h6 h7' (fun x=>(hs2 x).symm) x).symm
            rw [if_neg hd'] at hr';cases hr'
          rw [if_neg hd] at hr;cases hr
      . intro r hr r' hr' hs
        obtain ⟨f,hf,hr'⟩:=K8.1 hr';obtain ⟨X,h5,_⟩:=later f hf r' hr';split at hr
        . rw [F3] at hr
          subst hr;have hfo:=hE.ok _ a ha f hf;obtain ⟨y,hy,_⟩:=hfo.wne;obtain ⟨x,hx,_,ex⟩:=rd_of (lp:=lp) (n:=kids.length) hy;have h8:=(hs x).2 (by rw [h5];simp [hx]);have h9:=hst.lt x h8;have:=hfo.at' y hy;omega
        cases hr
theorem FndOK.mono {n m k k':Nat}{vs vs':List Int}{f:Fnd}(h:FndOK n m k vs f)(hk:k<=k')(hv:∀v∈vs,v∈vs'):FndOK n m k' vs' f:=⟨h.toWOK,h.ne,fun x hx=>hv _ (h.var x hx),Fp h.sz (Fu _ hk)⟩
theorem EnOK.mono {m k k' lp lp':Nat}{vs vs':List Int}{e:En}(h:EnOK m k lp vs e)(hk:k<=k')(hl:lp<=lp')(hv:∀v∈vs,v∈vs'):EnOK m k' lp' vs' e:=
 ⟨fun o n hn f hf=>(h.ok o n hn f hf).mono hk hv,h.ne,fun h1=>h.fl (by omega),fun h1=>h.var (by omega),fun h1=>h.anti (by omega)⟩
theorem FndOK.wrap {n m k:Nat}{vs:List Int}{f g:Fnd}(h:FndOK n m k vs f)(hs:g.s=f.s)(hw:g.w=f.w)(hd:M4 g.d=M4 f.d+1):FndOK n m (k+1) vs g:=by
 refine ⟨by rw [hs,hw];exact h.toWOK,by rw [hs];exact h.ne,by rw [hw];exact h.var,?_⟩;rw [hs,hd,Fj,Iy];have:=h.sz;have:=Iw.2 h.ne;omega
theorem yI (m k lp:Nat)(vs:List Int):EnOK m k lp vs fun _ _=>[]:=⟨fun _ _ _ _ h=>(by cases h),fun _ _ _=>.nil,fun _ _ _ _ _ h=>(by cases h),fun _ _ _ _ _ h=>(by cases h),fun _ _ _ _ _ h=>(by cases h)⟩
theorem qX (r:Rz)(c:Int)(d:Dv):M4 ⟨r,c,[d]⟩=M4 d+1:=by rw [Od];simp
theorem yG {m k lp:Nat}{vs vs':List Int}{e:En}{es:List En}{i:Nat}(h:EnOK m k lp vs e)(h':EnOK m (k+1) lp vs' (Ia es (i+1)))(hd:∀v∈vs,v∉vs'):EnOK m (k+1) lp (vs++vs') (Ia (e::es) i):=by
 have hmem:∀{o:List Pr} {n:Nat} {f:Fnd},f∈Ia (e::es) i o n->(∃g∈e o n,f=eK i g)\/f∈Ia es (i+1) o n:=by
  intro o n f hf;rw [Ia] at hf;rcases Da.1 hf with hf | hf
  . obtain ⟨g,hg,rfl⟩:=B7.1 hf;exact .inl ⟨g,hg,rfl⟩
  exact .inr hf
 refine ⟨fun o n hn f hf=>?_,fun o n hn=>?_,fun hl o n hn f hf=>?_,fun hl o n hn f hf=>?_,fun hl o n hn f hf o' n' hn' g hg hfg=>?_⟩
 .
  rcases hmem hf with ⟨g,hg,rfl⟩ | hf
  . exact ((h.ok o n hn g hg).wrap (g:=eK i g) rfl rfl (qX ..)).mono (Bi _) fun v hv=>La _ hv
  exact (h'.ok o n hn f hf).mono (Bi _) fun v hv=>Qb _ hv
 .
  rw [Ia,List.pairwise_append];refine ⟨List.pairwise_map.2 (h.ne o n hn),h'.ne o n hn,fun f hf g hg hs=>?_⟩;obtain ⟨f',hf',rfl⟩:=B7.1 hf;have hfo:=h.ok o n hn f' hf';obtain ⟨x,hx,_⟩:=hfo.wne;exact hd _ (hfo.var x hx) ((h'.ok o n hn g hg).var x ((hs x).1 hx))
 .
  rcases hmem hf with ⟨g,hg,rfl⟩ | hf
  . exact h.fl hl o n hn g hg
  exact h'.fl hl o n hn f hf
 .
  rcases hmem hf with ⟨g,hg,rfl⟩ | hf
  . exact h.var hl o n hn g hg
  exact h'.var hl o n hn f hf
 rcases hmem hf with ⟨f1,hf1,rfl⟩ | hf <;> rcases hmem hg with ⟨g1,hg1,rfl⟩ | hg
 . exact h.anti hl o n hn f1 hf1 o' n' hn' g1 hg1 hfg
 .
  exfalso;have hfo:=h.ok o n hn f1 hf1;obtain ⟨x,hx,_⟩:=hfo.wne;obtain ⟨y,hy,e1⟩:=hfg x hx;exact hd _ (hfo.var x hx) (e1▸(h'.ok o' n' hn' g hg).var y hy)
 .
  exfalso;have hfo:=h'.ok o n hn f hf;obtain ⟨x,hx,_⟩:=hfo.wne;obtain ⟨y,hy,e1⟩:=hfg x hx;exact hd _ ((h.ok o' n' hn' g1 hg1).var y hy) (e1▸hfo.var x hx)
 exact h'.anti hl o n hn f hf o' n' hn' g hg hfg
theorem gP {m k lp:Nat}:∀{es:List En} {vss:List (List Int)} (i:Nat),es.length=vss.length->(∀(j:Nat) (e:En) (vs:List Int),es[j]? = some e->vss[j]? = some vs->EnOK m k lp vs e)->vss.flatten.Nodup->EnOK m (k+1) lp vss.flatten (Ia es i)
  | [],vss,i,hl,h,hd=>by
    have:(Ia [] i:En)=fun _ _=>[]:=by funext o n;rw [Ia]
    rw [this];exact yI ..
  | e::es,[],i,hl,h,hd=>by simp at hl
  | e::es,vs::vss,i,hl,h,hd=>by
    rw [Jz] at hd ⊢;have h1:=List.nodup_append.1 hd;exact yG (h 0 e vs rfl rfl) (gP (i+1) (by simpa using hl) (fun j e' vs' h2 h3=>h (j+1) e' vs' h2 h3) h1.2.1) fun v hv hv'=>h1.2.2 v hv v hv' rfl
theorem yJ {m k lp:Nat}{vs:List Int}{e e':En}(h:EnOK m k lp vs e)(q:List Pr->Fnd->Bool)(he:∀o n,e' o n=((e o n).filter (q o)).map wK):EnOK m (k+1) lp vs e':=by
 have hmem:∀{o:List Pr} {n:Nat} {f:Fnd},f∈e' o n->∃g∈e o n,f=wK g:=by
  intro o n f hf;rw [he] at hf;obtain ⟨g,hg,rfl⟩:=B7.1 hf;exact ⟨g,(F1.1 hg).1,rfl⟩
 refine ⟨fun o n hn f hf=>?_,fun o n hn=>?_,fun hl o n hn f hf=>?_,fun hl o n hn f hf=>?_,fun hl o n hn f hf o' n' hn' g hg hfg=>?_⟩
 .
  obtain ⟨g,hg,rfl⟩:=hmem hf;exact (h.ok o n hn g hg).wrap (g:=wK g) rfl rfl (qX ..)
 .
  rw [he];exact List.pairwise_map.2 ((h.ne o n hn).sublist List.filter_sublist)
 . obtain ⟨g,hg,rfl⟩:=hmem hf;exact h.fl hl o n hn g hg
 . obtain ⟨g,hg,rfl⟩:=hmem hf;exact h.var hl o n hn g hg
 obtain ⟨f1,hf1,rfl⟩:=hmem hf;obtain ⟨g1,hg1,rfl⟩:=hmem hg;exact h.anti hl o n hn f1 hf1 o' n' hn' g1 hg1 hfg
theorem dO:∀{vss:List (List Int)} {i j:Nat} {v:Int},vss.flatten.Nodup->Vi vss i v->Vi vss j v->i=j
  | [],i,j,v,_,⟨vs,h,_⟩,_=>by simp at h
  | w::vss,i,j,v,hd,⟨vs,h,hv⟩,⟨us,h2,hv2⟩=>by
    rw [Jz] at hd;have h1:=List.nodup_append.1 hd;cases i with
    | zero=>
      cases j with
      | zero=>rfl
      | succ j=>
        simp only [List.getElem?_cons_zero,Option.some.injEq] at h;subst h;exact absurd rfl (h1.2.2 v hv v (List.mem_flatten.2 ⟨us,A0 h2,hv2⟩))
    | succ i=>
      cases j with
      | zero=>
        simp only [List.getElem?_cons_zero,Option.some.injEq] at h2;subst h2;exact absurd rfl (h1.2.2 v hv2 v (List.mem_flatten.2 ⟨vs,A0 h,hv⟩))
      | succ j=>rw [dO h1.2.1 ⟨vs,h,hv⟩ ⟨us,h2,hv2⟩]
theorem sX {m k lp:Nat}{es:List En}{vss:List (List Int)}(sq:Bool)(c:Nat)(hm:m<=1048576)(hl:es.length=vss.length)(h0:0<es.length)(h:∀(j:Nat) (e:En) (vs:List Int),es[j]? = some e->vss[j]? = some vs->EnOK m k lp vs e)(hd:vss.flatten.Nodup) :
  EnOK m (k+1) lp vss.flatten fun o n=>Ps false sq false es o c n [] [] []:=by
 have hE:LsOK vss es m k lp:=⟨fun i e he=>by
  have hi:=(List.getElem?_eq_some_iff.1 he).1;exact ⟨_,List.getElem?_eq_getElem (by omega),h i e _ he (List.getElem?_eq_getElem (by omega))⟩,fun i j v h1 h2=>dO hd h1 h2⟩
 have key:=fun (o:List Pr) (n:Nat) (hn:n<=m)=>iA (n0:=n) sq o hm hE c n [] [] [] (Bn _) hn (Bi _) ⟨.nil,fun h=>absurd h (Nat.lt_irrefl 0),fun x hx=>(by cases hx),Bn _,fun _ x hx=>(by cases hx),fun i e hi=>absurd hi (Nat.not_lt_zero _)⟩
 have vfl:∀{i:Nat} {v:Int},Vi vss i v->v∈vss.flatten:=fun ⟨vs,h1,h2⟩=>List.mem_flatten.2 ⟨vs,A0 h1,h2⟩
 refine ⟨fun o n hn f hf=>?_,fun o n hn=>(key o n hn).2,fun hl o n hn f hf=>?_,fun hl o n hn f hf x hx y hy e=>?_,fun hl o n hn f hf o' n' hn' g hg hfg y hy=>?_⟩
 .
  obtain ⟨⟨ks,hd,hst⟩,_⟩:=(key o n hn).1 f hf;refine ⟨hst.toWOK,hst.ne h0,fun x hx=>?_,?_⟩
  . obtain ⟨i,_,hv⟩:=hst.vi x hx;exact vfl hv
  rw [hd,Od,Fj,Iy];have:=hst.sz;have:=Iw.2 (hst.ne h0);simp only;omega
 .
  obtain ⟨⟨ks,hd,hst⟩,_⟩:=(key o n hn).1 f hf;exact hst.fl hl
 .
  obtain ⟨⟨ks,hd,hst⟩,_⟩:=(key o n hn).1 f hf;obtain ⟨i,hi,hv⟩:=hst.vi x hx;obtain ⟨e',he'⟩:∃e',es[i]? = some e':=⟨_,List.getElem?_eq_getElem hi⟩;obtain ⟨o1,n1,g,hn1,hg,hgw⟩:=hst.part i e' hi he';obtain ⟨vs,_,hok⟩:=hE.ok i e' he';exact hok.var hl o1 n1 hn1 g hg x ((hgw x).2 ⟨hx,hv⟩) y ((hgw y).2 ⟨hy,e▸hv⟩) e
 obtain ⟨⟨ks,hd,hst⟩,_⟩:=(key o n hn).1 f hf;obtain ⟨⟨ks',hd',hst'⟩,_⟩:=(key o' n' hn').1 g hg;obtain ⟨i,hi,hv⟩:=hst'.vi y hy;obtain ⟨e',he'⟩:∃e',es[i]? = some e':=⟨_,List.getElem?_eq_getElem hi⟩;obtain ⟨o1,n1,f1,hn1,hf1,hfw⟩:=hst.part i e' hi he';obtain ⟨o2,n2,g1,hn2,hg1,hgw⟩:=hst'.part i e' hi he';obtain ⟨vs,_,hok⟩:=hE.ok i e' he'
 obtain ⟨x,hx,ex⟩:=hok.anti hl o1 n1 hn1 f1 hf1 o2 n2 hn2 g1 hg1 (fun x hx=>by
  have hx2:=(hfw x).1 hx;obtain ⟨z,hz,ez⟩:=hfg x hx2.1;exact ⟨z,(hgw z).2 ⟨hz,ez▸hx2.2⟩,ez⟩) y ((hgw y).2 ⟨hy,hv⟩)
 exact ⟨x,((hfw x).1 hx).1,ex⟩
theorem sY {m k lp:Nat}{e:En}{vs:List Int}(c:Nat)(hm:m<=1048576)(hlp:lp<=1)(h:EnOK m k lp vs e):EnOK m (k+1) (lp+1) vs fun o n=>Ps true true (decide (1<=lp)) [e] o c n [] [] []:=by
 have key:=fun (o:List Pr) (n:Nat) (hn:n<=m)=>iB (n0:=n) o hm hlp h c n [] [] [] hn (Bi _) ⟨.nil,fun h=>absurd h (Nat.lt_irrefl 0),fun x hx=>(by cases hx),fun x hx=>(by cases hx),Bn _,fun _ x hx=>(by cases hx)⟩
 refine ⟨fun o n hn f hf=>?_,fun o n hn=>(key o n hn).2,fun hl o n hn f hf=>?_,fun hl=>absurd hl (by omega),fun hl=>absurd hl (by omega)⟩
 .
  obtain ⟨⟨ks,hk,hd,hst⟩,_⟩:=(key o n hn).1 f hf;refine ⟨hst.toWOK,hst.ne hk,hst.var,?_⟩;rw [hd,Od,Fj,Iy];have:=hst.sz;have:=Iw.2 (hst.ne hk);simp only;omega
 obtain ⟨⟨ks,hk,hd,hst⟩,_⟩:=(key o n hn).1 f hf;exact hst.fl (by omega)
theorem Xo:∀(n c:Nat),(List.range' n c).Pairwise (·≠·)
  | n,0=>.nil
  | n,c+1=>by
    rw [List.range'_succ,L0];exact ⟨fun x hx e=>by have:=(List.mem_range'_1.1 hx).1;omega,Xo (n+1) c⟩
theorem en_ev {m:Nat}{v:Int}{e:En}(mk:Nat->Fnd)(q:List Pr->Nat->Bool)(hmk:∀a,(mk a).s = [⟨v,a⟩]/\(mk a).w = [⟨v,a,false⟩]/\M4 (mk a).d=1)(he:∀o n,e o n=((List.range' n (m-n)).filter (q o)).map mk):EnOK m 1 0 [v] e:=by
 have hmem:∀{o:List Pr} {n:Nat} {f:Fnd},f∈e o n->∃a,n<=a/\a<m/\f.s = [⟨v,a⟩]/\f.w = [⟨v,a,false⟩]/\M4 f.d=1:=by
  intro o n f hf;rw [he] at hf;obtain ⟨a,ha,rfl⟩:=B7.1 hf;have h1:=List.mem_range'_1.1 (F1.1 ha).1;exact ⟨a,h1.1,by omega,hmk a⟩
 refine ⟨fun o n hn f hf=>?_,fun o n hn=>?_,fun hl o n hn f hf x hx=>?_,fun hl o n hn f hf x hx y hy _=>?_,fun hl o n hn f hf o' n' hn' g hg hfg y hy=>?_⟩
 .
  obtain ⟨a,h1,h2,h3,h4,h5⟩:=hmem hf;refine ⟨⟨?_,fun x hx=>?_,fun x hx=>?_,fun y hy=>?_,fun x hx y hy _=>?_⟩,?_,fun x hx=>?_,?_⟩
  . rw [h3];exact List.pairwise_singleton ..
  . rw [h4,F3] at hx;subst hx;exact ⟨h1,h2⟩
  . rw [h4,F3] at hx;subst hx;rw [h3];simp
  . rw [h3,F3] at hy;subst hy;exact ⟨⟨v,a,false⟩,by rw [h4];simp,rfl,rfl⟩
  . rw [h4,F3] at hx hy;rw [hx,hy]
  . rw [h3];simp
  . rw [h4,F3] at hx;subst hx;simp
  rw [h5,h3];simp
 .
  rw [he];refine List.pairwise_map.2 (((Xo n (m-n)).sublist List.filter_sublist).imp fun {a b} hab hs=>hab ?_);have:=(hs ⟨v,a,false⟩).1 (by rw [(hmk a).2.1];simp);rw [(hmk b).2.1,F3] at this
  injection this
 .
  obtain ⟨a,h1,h2,h3,h4,h5⟩:=hmem hf;rw [h4,F3] at hx;subst hx;rfl
 .
  obtain ⟨a,h1,h2,h3,h4,h5⟩:=hmem hf;rw [h4,F3] at hx hy;rw [hx,hy]
 obtain ⟨a,h1,h2,h3,h4,h5⟩:=hmem hf;obtain ⟨b,k1,k2,k3,k4,k5⟩:=hmem hg;rw [k4,F3] at hy;subst hy;exact ⟨⟨v,a,false⟩,by rw [h4];simp,rfl⟩
def eC {β:Type}(A:List β):Nat->List (List β)
 | 0=>[[]]
 | n+1=>A.flatMap fun a=>(eC A n).map (a :: ·)
theorem Z3 {β:Type}(A:List β):∀n,(eC A n).length=A.length ^ n
  | 0=>rfl
  | n+1=>by
    have:∀B:List β,(B.flatMap fun a=>(eC A n).map (a :: ·)).length=B.length*A.length ^ n:=by
      intro B
      induction B with
      | nil=>simp
      | cons b B ih=>rw [G8,Do,ih,B1,Z3 A n,Eb,Fj,Iy,Nat.add_comm]
    rw [eC,this,Nat.pow_succ,Nat.mul_comm]
theorem Z4 {β:Type}{A:List β}:∀{w:List β},(∀b∈w,b∈A)->w∈eC A w.length
  | [],_=>by simp [eC]
  | b::w,h=>by
    rw [Eb,eC];exact K8.2 ⟨b,h b (Fs ..),B7.2 ⟨w,Z4 fun x hx=>h x (Ft _ hx),rfl⟩⟩
theorem Vw {β:Type}[DecidableEq β]:∀{l m:List β},l.Nodup->(∀x∈l,x∈m)->l.length<=m.length
  | [],m,_,_=>Bn _
  | x::l,m,h,hs=>by
    have h1:=H8.1 h;have hx:=hs x (Fs ..);have h2:=Vw (l:=l) (m:=m.erase x) h1.2 fun y hy=>(List.mem_erase_of_ne (fun e=>h1.1 (by rw [<-e];exact hy))).2 (hs y (Ft _ hy))
    have h3:=List.length_erase_of_mem hx;have h4:=Lb hx;rw [Eb];omega
theorem Sg {α β:Type}[DecidableEq β]{l:List α}(T:α->List β)(A:List β)(n:Nat)(hl:∀x∈l,(T x).length=n/\∀b∈T x,b∈A)(hne:l.Pairwise fun x y=>T x≠T y):l.length<=A.length ^ n:=by
 rw [<-Z3 A n,<-B1 (f:=T)];refine Vw (List.pairwise_map.2 hne) fun w hw=>?_
 obtain ⟨x,hx,rfl⟩:=B7.1 hw;rw [<-(hl x hx).1];exact Z4 (hl x hx).2
theorem aR {w:List Lt}{x:Lt}{q:Lt->Bool}(hx:x∈w)(hq:q x=true)(h1:∀y∈w,q y=true->y=x):w.find? q=some x:=by
 cases h:w.find? q with
 | none=>exact absurd hq (by simpa using List.find?_eq_none.1 h x hx)
 | some y=>rw [h1 y (O9 h) (List.find?_some h)]
def fQ (n m:Nat)(w:List Lt):List (Option (Int×Bool)):=(List.range' n (m-n)).map fun a=>(w.find? fun x=>x.a==a).map fun x=>(x.v,x.b)
theorem Ry {n m:Nat}{s:List Pr}{w w':List Lt}(h:WOK n m s w)(e:fQ n m w=fQ n m w'):∀x∈w,x∈w':=by
  intro x hx;have hb:=h.at' x hx;have h1:=congrArg (fun l=>l[x.a-n]?) e;unfold fQ at h1;simp only [List.getElem?_map,List.getElem?_range' (show x.a-n<m-n by omega),E4,Option.some.injEq] at h1;rw [show n+1*(x.a-n)=x.a by omega,aR hx (by simp) fun y hy hq=>h.one y hy x hx (by simpa using hq)] at h1;cases h2:w'.find? fun y=>y.a==x.a with
  | none=>rw [h2] at h1;cases h1
  | some y=>
    rw [h2] at h1;simp only [E4,Option.some.injEq,Prod.mk.injEq] at h1;have h3:=List.find?_some h2;have:x=y:=by cases x;cases y;simp_all
    rw [this];exact O9 h2
def qY (vs:List Int)(w:List Lt):List (Option Nat):=vs.map fun v=>(w.find? fun x=>x.v==v).map fun x=>x.a
theorem dE {vs:List Int}{w w':List Lt}(hv:∀x∈w,x.v∈vs)(h1:∀x∈w,∀y∈w,x.v=y.v->x=y)(hb:∀x∈w,x.b=false)(hb':∀x∈w',x.b=false)(e:qY vs w=qY vs w'):∀x∈w,x∈w':=by
  intro x hx;obtain ⟨i,hi,e1⟩:=List.getElem_of_mem (hv x hx);have h2:=congrArg (fun l=>l[i]?) e;unfold qY at h2;simp only [List.getElem?_map,List.getElem?_eq_getElem hi,E4,Option.some.injEq,e1] at h2;rw [aR hx (by simp) fun y hy hq=>h1 y hy x hx (by simpa using hq)] at h2;cases h3:w'.find? fun y=>y.v==x.v with
  | none=>rw [h3] at h2;cases h2
  | some y=>
    rw [h3] at h2;simp only [E4,Option.some.injEq] at h2;have h4:=List.find?_some h3;have h5:=O9 h3;have:x=y:=by have:=hb x hx;have:=hb' y h5;cases x;cases y;simp_all
    rw [this];exact h5
theorem jY {m k lp:Nat}{vs:List Int}{e:En}(h:EnOK m k lp vs e){o:List Pr}{n:Nat}(hn:n<=m):(e o n).length<=(2*vs.length+1) ^ (m-n):=by
  have:=Sg (l:=e o n) (fun f=>fQ n m f.w) (none::((vs.map fun v=>some (v,false))++vs.map fun v=>some (v,true))) (m-n) (fun f hf=>⟨by simp [fQ],fun b hb=>?_⟩) ((List.Pairwise.and_mem.1 (h.ne o n hn)).imp ?_)
  . simp only [Eb,Do,B1] at this
    rwa [show vs.length+vs.length=2*vs.length by omega] at this
  . have hfo:=h.ok o n hn f hf
    obtain ⟨a,_,rfl⟩:=B7.1 hb;cases h2:f.w.find? fun x=>x.a==a with
    | none=>simp
    | some x=>
      have hv:=hfo.var x (O9 h2);cases hxb:x.b <;> simp [hxb,hv]
  . rintro f g ⟨hf,hg,hs⟩ ht
    exact hs fun x=>⟨Ry (h.ok o n hn f hf).toWOK ht x,Ry (h.ok o n hn g hg).toWOK ht.symm x⟩
theorem jX {m k lp:Nat}{vs:List Int}{e:En}(h:EnOK m k lp vs e)(hl:lp<=1){o:List Pr}{n:Nat}(hn:n<=m):(e o n).length<=(vs.length+1) ^ (m-n):=by
  have:=Sg (l:=e o n) (fun f=>fQ n m f.w) (none::(vs.map fun v=>some (v,false))) (m-n) (fun f hf=>⟨by simp [fQ],fun b hb=>?_⟩) ((List.Pairwise.and_mem.1 (h.ne o n hn)).imp ?_)
  . simpa using this
  . have hfo:=h.ok o n hn f hf
    obtain ⟨a,_,rfl⟩:=B7.1 hb;cases h2:f.w.find? fun x=>x.a==a with
    | none=>simp
    | some x=>
      have hm:=O9 h2;have hv:=hfo.var x hm;have hxb:=h.fl hl o n hn f hf x hm;simp [hxb,hv]
  . rintro f g ⟨hf,hg,hs⟩ ht
    exact hs fun x=>⟨Ry (h.ok o n hn f hf).toWOK ht x,Ry (h.ok o n hn g hg).toWOK ht.symm x⟩
theorem jW {m k lp:Nat}{vs:List Int}{e:En}(h:EnOK m k lp vs e)(hl:lp=0){o:List Pr}{n:Nat}(hn:n<=m):(e o n).length<=(m-n+1) ^ vs.length:=by
  have:=Sg (l:=e o n) (fun f=>qY vs f.w) (none::((List.range' n (m-n)).map some)) vs.length (fun f hf=>⟨by simp [qY],fun b hb=>?_⟩) ((List.Pairwise.and_mem.1 (h.ne o n hn)).imp ?_)
  . simpa using this
  . have hfo:=h.ok o n hn f hf
    obtain ⟨v,_,rfl⟩:=B7.1 hb;cases h2:f.w.find? fun x=>x.v==v with
    | none=>simp
    | some x=>
      have hm:=O9 h2;have hv:=hfo.at' x hm;simp only [E4,Cz,B7];exact .inr ⟨x.a,List.mem_range'_1.2 (by omega),rfl⟩
  . rintro f g ⟨hf,hg,hs⟩ ht
    have hf1:=h.ok o n hn f hf;have hg1:=h.ok o n hn g hg;have f0:=h.fl (by omega) o n hn;exact hs fun x=>⟨dE hf1.var (h.var hl o n hn f hf) (f0 f hf) (f0 g hg) ht x,dE hg1.var (h.var hl o n hn g hg) (f0 g hg) (f0 f hf) ht.symm x⟩
def Hv (p:Pt):List Int:=((Cw p).filter fun q=>q.op==0).map fun q=>q.var
theorem N3 (p:Pt):Hv p=(if p.op==0 then [p.var] else [])++(p.args.map Hv).flatten:=by
 have key:∀l:List Pt,((l.flatMap Cw).filter fun q=>q.op==0).map (fun q=>q.var)=(l.map Hv).flatten:=by
  intro l
  induction l with
  | nil=>rfl
  | cons a r ih=>rw [G8,Gi,Cy,ih,Ba,Jz];rfl
 unfold Hv;rw [In,Fq];split
 . rw [Ba,key];rfl
 rw [key];rfl
theorem bP (p:Pt):(Hv p).length=Jk p:=by
  induction p using Pt.ind with
  | h p ih=>
    rw [N3,Pp,Do,List.length_flatten,Lw]
    congr 1
    . split <;> rfl
    . congr 1
      exact List.map_congr_left ih
theorem aG:∀(l:List Pt) (c:Cnt),(l.foldl Ff c).ok=true->c.ok=true/\((l.filter fun q=>(D6 q.op).typed).map fun q=>q.var).Pairwise (· < ·)/\∀q∈l,(D6 q.op).typed=true->c.vars<=q.var
  | [],c,h=>⟨h,by simp,fun q hq=>by cases hq⟩
  | p::l,c,h=>by
    rw [Jf] at h;obtain ⟨h1,h2,h3⟩:=aG l (Ff c p) h;unfold Ff at h1 h3;simp only [Cq,Ek,Bu,beq_iff_eq] at h1 h3;refine ⟨h1.1.1,?_,fun q hq ht=>?_⟩
    . rw [Fq]
      split
      . rename_i ht
        rw [Ba,L0];refine ⟨fun v hv=>?_,h2⟩;obtain ⟨q,hq,rfl⟩:=B7.1 hv;have hq2:=F1.1 hq;have h4:=h3 q hq2.1 hq2.2;rw [if_pos ht] at h4;rcases h1.1.2 with h5 | h5
        . rw [h5] at ht;cases ht
        omega
      exact h2
    . rcases Cz.1 hq with rfl | hq
      . rcases h1.1.2 with h5 | h5
        . rw [h5] at ht;cases ht
        omega
      . have:=h3 q hq ht
        split at this <;> omega
theorem eO {p:Pt}(h:(Hf p).ok=true):(Hv p).Nodup:=by
 have h1:=(aG _ _ h).2.1;refine (List.Pairwise.sublist (List.Sublist.map _ ?_) h1).imp fun h e=>by omega
 have:(Cw p).filter (fun q=>q.op==0)=((Cw p).filter fun q=>(D6 q.op).typed).filter fun q=>q.op==0:=by
  rw [List.filter_filter];refine List.filter_congr fun q _=>?_
  cases hq:q.op==0 with
  | false=>rfl
  | true=>rw [beq_iff_eq] at hq;rw [hq];rfl
 rw [this];exact List.filter_sublist
structure Wf (p:Pt):Prop where
 lo:0<=p.op
 hi:p.op<8
 leaf:p.op=0->p.args = []
 some:p.op≠0->0<p.args.length
 one:4<=p.op->p.args.length=1
 vr:p.op=0->0<=p.var/\p.var<16
def dR (p:Pt):Prop:=∀q∈Cw p,Wf q
theorem dR.arg {p a:Pt}(h:dR p)(ha:a∈p.args):dR a:=fun q hq=>h q (Lu ha hq)
theorem dR.self {p:Pt}(h:dR p):Wf p:=h p (Gr p)
theorem ck_wf {p:Pt}(h:Nt p=0)(h8:p.op<8):Wf p:=by
 unfold Nt at h;split at h
 . cases h
 rename_i h1;simp only [Ek,Di,not_or,Int.not_lt,Int.not_le] at h1;unfold ckR at h;split at h
 . cases h
 rename_i h2;simp only [Ek,Di,not_or,Int.not_lt,Int.not_le] at h2;split at h
 . cases h
 rename_i h3;have h0:=h1.1;have:p.op=0\/p.op=1\/p.op=2\/p.op=3\/p.op=4\/p.op=5\/p.op=6\/p.op=7:=by omega
 refine ⟨h0,h8,fun e=>?_,fun e=>?_,fun e=>?_,fun e=>?_⟩
 .
  rw [e] at h2;have:(p.args.length:Int)<=0:=h2.2;exact List.length_eq_zero_iff.1 (by omega)
 .
  rcases this with e' | e' | e' | e' | e' | e' | e' | e' <;> rw [e'] at h2
  . exact absurd e' e
  all_goals
   have h9:=h2.1;simp only [D6,vF] at h9;have h10:(1:Int)<=(p.args.length:Int):=Int.le_trans (by decide) h9;omega
 .
  rcases this with e' | e' | e' | e' | e' | e' | e' | e' <;> try omega
  all_goals
   rw [e'] at h2;have h9:(1:Int)<=(p.args.length:Int):=h2.1;have h10:(p.args.length:Int)<=1:=h2.2;omega
 rw [e] at h3;unfold wA at h3;simp only [Ek,not_or,Bu,Bool.not_eq_false] at h3;have h4:=h3.1.1.2;unfold vR at h4;have h5:(!(D6 0).typed)=false:=rfl;rw [h5,Bl,Cq,Di,Di] at h4;omega
theorem whl_wf {p:Pt}(h:Hw p=0):dR p:=by
  unfold Hw at h;split at h
  . rename_i h1;rw [h] at h1;cases h1
  . rename_i h1
    have h2:Gl p=0:=by simpa using h1
    unfold Gl at h2;split at h2
    . cases h2
    . split at h2
      . cases h2
      . intro q hq
        split at h
        . cases h
        . rename_i h3
          rw [Bool.not_eq_true,List.any_eq_false] at h3;have h4:=h3 q hq;rw [Di] at h4;refine ck_wf ?_ (by omega)
          have:∀l:List Pt,Ax Nt l=0->∀q∈l,Nt q=0:=by
            intro l
            induction l with
            | nil=>intro _ q hq;cases hq
            | cons a r ih=>
              intro h q hq;rw [Ax] at h;by_cases ha:Nt a=0
              . rcases Cz.1 hq with rfl | hq
                . exact ha
                exact ih (by simpa [ha] using h) q hq
              exfalso;apply ha;simp [ha] at h
          exact this _ h2 q hq
theorem Mr {p:Pt}(h:Gk p=0):dR p/\(Hv p).Nodup:=by
 unfold Gk at h;split at h
 . rename_i h1;rw [h] at h1;cases h1
 rename_i h1;split at h
 . cases h
 rename_i h2;exact ⟨whl_wf (by simpa using h1),eO (by simpa using h2)⟩
theorem eH:∀{l:List Pt} {a:Pt},a∈l->Pn a<=Mt l
  | x::r,a,h=>by
    rw [Mt];rcases Cz.1 h with rfl | h
    . omega
    have:=eH h;omega
theorem Vs {p a:Pt}(h:(Hv p).Nodup)(ha:a∈p.args):(Hv a).Nodup:=by
 rw [N3] at h;have h1:=(List.nodup_append.1 h).2.1;exact (List.pairwise_flatten.1 h1).1 _ (List.mem_map_of_mem ha)
theorem fA {l:List Pt}(h:l.length=1):∃a,l = [a]:=List.length_eq_one_iff.1 h
theorem eJ {L:List Ev}(hm:L.length<=1048576)(p:Pt):dR p->Lm p<=2->(Hv p).Nodup->EnOK L.length (Pn p) (Lm p) (Hv p) (B6 L p):=by
  induction p using Pt.ind with
  | h p ih=>
    intro hw hl hnd;have hs:=hw.self;have hlo:=hs.lo;have hhi:=hs.hi;have hfl:(p.args.map Hv).flatten.Nodup:=by rw [N3] at hnd;exact (List.nodup_append.1 hnd).2.1
    have hk:∀a∈p.args,Lm a<=2->EnOK L.length (Mt p.args) (Kr p.args) (Hv a) (B6 L a):=fun a ha h2=>
      (ih a ha (hw.arg ha) h2 (Vs hnd ha)).mono (eH ha) (Vt ha) fun v hv=>hv
    rw [Id,Po,Mx];rw [Mx] at hl;unfold N8;have hll:∀a∈p.args,Lm a<=2:=fun a ha=>by have:=Vt ha;omega
    have hmap:∀(j:Nat) (e:En) (vs:List Int),(p.args.map (B6 L))[j]? = some e->(p.args.map Hv)[j]? = some vs->EnOK L.length (Mt p.args) (Kr p.args) vs e:=by
      intro j e vs h1 h2;rw [List.getElem?_map] at h1 h2;cases hj:p.args[j]? with
      | none=>rw [hj] at h1;cases h1
      | some a=>
        rw [hj] at h1 h2;cases h1;cases h2
        have ha:=A0 hj;exact hk a ha (hll a ha)
    by_cases h0:p.op=0
    . have ha:=hs.leaf h0
      have e4:(p.op==4)=false:=by rw [h0];rfl
      have e0:(p.op==0)=true:=by rw [h0];rfl
      rw [N3,if_pos e0,if_pos e0,e4,ha];exact en_ev (wJ L p) (Fi L p) (fun a=>⟨rfl,rfl,by rw [Od];rfl⟩) fun o n=>rfl
    . have e0:(p.op==0)=false:=by simpa using h0
      rw [N3,e0,if_neg (by decide:¬(false=true)),if_neg (by decide:¬(false=true)),H6];by_cases h2:p.op=2
      . have e2:(p.op==2)=true:=by rw [h2];rfl
        have e4:(p.op==4)=false:=by rw [h2];rfl
        rw [e2,if_pos rfl,e4];exact gP 0 (by simp) hmap hfl
      . have e2:(p.op==2)=false:=by simpa using h2
        rw [e2,if_neg (by decide:¬(false=true))];by_cases h13:p.op=1\/p.op=3
        . have e3:((p.op==1||p.op==3)||p.op==4)=true:=by rcases h13 with h | h <;> rw [h] <;> rfl
          have e4:(p.op==4)=false:=by rcases h13 with h | h <;> rw [h] <;> rfl
          rw [if_pos e3,e4,Be];exact sX (p.op != 3) _ hm (by simp) (by have:=hs.some h0;simpa using this) hmap hfl
        . by_cases h4:p.op=4
          . have e3:((p.op==1||p.op==3)||p.op==4)=true:=by rw [h4];rfl
            have e4:(p.op==4)=true:=by rw [h4];rfl
            have e5:(p.op != 3)=true:=by rw [h4];rfl
            obtain ⟨a,ha⟩:=fA (hs.one (by omega));have hma:a∈p.args:=by rw [ha];simp
            have hka:=hk a hma (hll a hma);rw [if_pos e3,e4,e5,Bo,ha];rw [ha] at hka hl;rw [if_pos e4] at hl;have:=sY (L.length+([a].map (B6 L)).length+1) hm (by omega) hka;simpa using this
          . have e3:((p.op==1||p.op==3)||p.op==4)=false:=by
              simp only [Fv,Iu];omega
            have e4:(p.op==4)=false:=by simpa using h4
            obtain ⟨a,ha⟩:=fA (hs.one (by omega));have hma:a∈p.args:=by rw [ha];simp
            have hka:=hk a hma (hll a hma);rw [e3,if_neg (by decide:¬(false=true)),e4,ha];rw [ha] at hka;have:=yJ hka (fun o f=>He L p o f.s) (e':=scE L p (B6 L a)) fun o n=>rfl
            simpa using this
theorem oQ {p a:Pt}(h:a∈Cw p):a=p\/∃b∈p.args,a∈Cw b:=by
 rw [In] at h;rcases Cz.1 h with rfl | h
 . exact .inl rfl
 obtain ⟨b,hb,ha⟩:=K8.1 h;exact .inr ⟨b,hb,ha⟩
theorem yM {p a:Pt}(h:a∈p.args):Jk a<=Jk p:=by
  rw [Pp p]
  have:∀l:List Pt,a∈l->Jk a<=(l.map Jk).sum:=by
    intro l
    induction l with
    | nil=>intro h;cases h
    | cons x r ih => intro h; rw [Ba, Dq]; rcases Cz.1 h with rfl | h
                     . omega
                     have:=ih h;omega
  have:=this _ h;omega
theorem nd_le (p:Pt):∀a∈Cw p,Jk a<=Jk p/\Lm a<=Lm p/\Pn a<=Pn p/\(dR p->dR a)/\((Hv p).Nodup->(Hv a).Nodup):=by
  induction p using Pt.ind with
  | h p ih=>
    intro a ha;rcases oQ ha with rfl | ⟨b,hb,ha⟩
    . exact ⟨Bi _,Bi _,Bi _,id,id⟩
    . obtain ⟨h1,h2,h3,h4,h5⟩:=ih b hb a ha
      have e1:=yM hb;have e2:Lm b<=Lm p:=by have:=Vt hb;rw [Mx p];omega
      have e3:Pn b<=Pn p:=by have:=eH hb;rw [Po p];omega
      exact ⟨by omega,by omega,by omega,fun h=>h4 (h.arg hb),fun h=>h5 (Vs h hb)⟩
theorem eW {p:Pt}(h:dR p):∀v∈Hv p,0<=v/\v<16:=by
 intro v hv;obtain ⟨q,hq,rfl⟩:=B7.1 hv;have h1:=F1.1 hq;exact (h q h1.1).vr (by simpa using h1.2)
theorem ev_16 {p:Pt}(h:dR p)(hn:(Hv p).Nodup):Jk p<=16:=by
 rw [<-bP]
 have:=Vw (l:=Hv p) (m:=(List.range 16).map fun i:Nat=>(i:Int)) hn fun v hv=>by
  have:=eW h v hv;exact B7.2 ⟨v.toNat,by rw [Hq];omega,by omega⟩
 simpa using this
theorem kQ:∀l:Fin 11,∀v:Fin 17,l.1 ^ v.1<=1500->(v.1+1) ^ l.1<=4096\/(l.1+1) ^ v.1<=4096:=by decide +kernel
theorem mO {L:List Ev}{p:Pt}(hw:dR p)(hn:(Hv p).Nodup)(hs:lN p L=true):∀a∈Cw p,∀(o:List Pr) (n:Nat),n<=L.length->(B6 L a o n).length<=4096:=by
 intro a ha o n hnL;unfold lN at hs;split at hs
 . cases hs
 rename_i h1;simp only [Ek,Bu,Di,not_or,Bool.not_eq_false,Nat.not_lt] at h1;obtain ⟨hsm,hlp⟩:=h1;rw [Di] at hs;unfold lD at hsm;split at hsm
 . cases hsm
 rename_i h2;simp only [Ek,Bu,Di,not_or,Bool.not_eq_false,Nat.not_lt] at h2;split at hsm
 . cases hsm
 obtain ⟨e1,e2,e3,e4,e5⟩:=nd_le p a ha;have hE:=eJ (L:=L) (by omega) a (e4 hw) (by omega) (e5 hn);have hv:=bP a;have h16:=ev_16 hw hn;have mono1:(Jk a+1) ^ (L.length-n)<=(Jk p+1) ^ L.length:=Fp (Nat.pow_le_pow_left (by omega) _) (Nat.pow_le_pow_right (by omega) (by omega))
 have c1:Lm a<=1->(B6 L a o n).length<=(Jk p+1) ^ L.length:=fun hl=>by
  have:=jX hE hl (o:=o) hnL;rw [hv] at this;omega
 split at hsm
 .
  rename_i h3;rw [Di] at h3;have h4:=Ug h3;rw [h4,Iy] at h3;by_cases hl:Lm a<=1
  . have:=c1 hl;omega
  have hl2:Lm p=2:=by omega
  rw [if_pos hl2] at hs;have h5:=Ug hs;rw [h5,Iy] at hs;have h6:=jY hE (o:=o) hnL;rw [hv] at h6;have h7:(2*Jk a+1) ^ (L.length-n)<=(2*Jk p+1) ^ L.length:=Fp (Nat.pow_le_pow_left (by omega) _) (Nat.pow_le_pow_right (by omega) (by omega));omega
 rw [Cq,Bu,Di] at hsm;obtain ⟨h3,h4⟩:=hsm;have h5:=Ug h4;rw [h5,Iy] at h4;have hl0:=it_lp p h3;rcases kQ ⟨L.length,by omega⟩ ⟨Jk p,by omega⟩ h4 with h6 | h6
 . have:=c1 (by omega);simp only at h6;omega
 have h7:=jW hE (by omega) (o:=o) hnL;rw [hv] at h7;have h8:(L.length-n+1) ^ Jk a<=(L.length+1) ^ Jk p:=Fp (Nat.pow_le_pow_left (by omega) _) (Nat.pow_le_pow_right (by omega) e1);simp only at h6;omega
theorem qI (H:List HO)(n:Nat)(h0:0<n)(hn:n<=1048576):Cb Tryz.prog 46 H [.sl 1 [[.int .i64 (-1)]],.int .i64 (n:Int)] (fun r H'=>∃b,r = .val (.slice (some ⟨b,0,none⟩) n n)/\H' = .box b 3 (bI (oT n))::H):=by
 have hmx:1048576<=maxLen:=by decide
 refine Cb.body (n:=48) Ai Tryz.func46 rfl rfl rfl ?_;refine AW.seq (AW.region (AOL.Aag (Dg (z:=1) rfl) rfl (AOL.nil (Aa (AW.seq (AW.seq (AW.region (AOL.Aag (Ae (v:=.int .i64 _) rfl) rfl (AOL.Aag (B9 rfl rfl) rfl (AOL.nil (Aa (AW.cond (b:=_) rfl (fun hc1=>?_) (fun hc1=>AW.skip (Aa (AW.seq (AW.region (AOL.Aag (Ae (v:=.sl _ _) rfl) rfl (AOL.Aag (Av (n:=1) Ai rfl rfl rfl (rfl)) rfl (AOL.Aag (I6 (m:=1) Ai rfl rfl rfl rfl rfl (rfl)) rfl (AOL.Aag (Ae (v:=.int .i64 _) rfl) rfl (AOL.Aag (I6 (m:=(n:Int)) Ai rfl rfl rfl rfl rfl (rF hn)) rfl ?_)))))))))))))))))))))
 .
  have:=B2 hc1;omega
 refine AOL.Aag (Ak (by kernel_rfl) rfl rfl (kMul1 n hn)) rfl ?_;refine AOL.Aag (Ae (v:=.tuple _) rfl) rfl (AOL.Aag (A4 (v:=.int .u64 _) rfl rfl) rfl (AOL.Aag (A4 (v:=.int .u64 _) rfl rfl) rfl (AOL.Aag (Ag (v:=.int .u64 _) rfl) rfl (AOL.Aag (Ag (v:=.int .u64 _) rfl) rfl (AOL.nil (Aa (AW.seq (AW.seq (AW.region (AOL.Aag (Ae (v:=.int .u64 _) rfl) rfl (AOL.Aag (Gy rfl rfl) rfl (AOL.Aag (Ae (v:=.bool _) rfl) rfl (AOL.Aah (y:=.int .u64 _) _ [] rfl (Un.all trivial) (fun hG=>Ae (v:=.int .u64 _) rfl) rfl ?_)))))))))))));refine AOL.Aah (y:=.bool _) _ [(24,_)] rfl (Un.all ⟨Zs.self _ _,trivial⟩) (fun hG=>Gy rfl rfl) rfl ?_;refine AOL.Aag (E7 rfl rfl rfl) rfl (AOL.nil (Aa (AW.cond (b:=_) rfl (fun hc2=>?_) (fun hc2=>AW.skip (Aa (AW.seq (AW.region (AOL.Aag (Ae (v:=.int .u64 _) rfl) rfl (AOL.Aag (I6 (m:=(n:Int)) Ai rfl rfl rfl rfl rfl (i64_in hn)) rfl ?_)))))))))
 . exact absurd hc2 (by simp;omega)
 refine AOL.e (Nn (n:=n) Ai rfl rfl rfl rfl rfl rfl rfl (by show 8*n<=_;omega) (by omega)) rfl ?_;rintro _ _ ⟨b30,rfl,rfl⟩;refine AOL.Aag (Ag (v:=.val _) rfl) rfl ?_;refine AOL.ghost (GS.cells 0 rfl ((sJ n).trans (congrArg bI (show List.replicate n 0=K5 n 0 by simp [K5])))) ?_;refine AOL.nil (Aa (AW.seq (AW.region (AOL.Aag (Ae (v:=.val _) rfl) rfl (AOL.Aag (Ae (v:=.sl _ _) rfl) rfl ?_)))));refine AOL.e (lO (k:=0) (m:=1) (cs':=bI (K5 n 1)) (H2:=_::_) Ai rfl rfl rfl rfl rfl rfl rfl (by simp) (Hn rfl) (Nat.min_eq_left (by show 1<=n;omega)) (by rw [Ut,V0 (by omega)];omega) (fH h0) rfl) rfl ?_;rintro _ _ ⟨rfl,rfl⟩;refine AOL.Aag (Ag (v:=.int .i64 _) rfl) rfl (AOL.nil (Aa (AW.seq (AW.block ?_))));refine AW.loopS (fun (k:Nat)=>(⟨[(7,.val (.slice (some ⟨b30,0,none⟩) n n)),(8,.int .i64 (k:Int))],.box b30 3 (bI (K5 n k))::H,48⟩:St)) (fun k=>1<=k/\k<=n) (fun k=>n-k) (1) ?_ (GS.weaken ⟨rfl,rfl,trivial⟩ (.refl _)) ?_
 . exact ⟨Bi _,h0⟩
 rintro k hR;refine AW.seq (AW.seq (AW.region (AOL.Aag (Ae (v:=.int .i64 _) rfl) rfl (AOL.Aag (Ae (v:=.val _) rfl) rfl (AOL.Aag (E6 Ai rfl rfl rfl) rfl (AOL.Aag (B9 rfl rfl) rfl (AOL.nil (Aa (AW.cond (b:=_) rfl (fun hc3=>?_) (fun hc3=>?_))))))))))
 .
  have hlt:k<n:=by have:=B2 hc3;omega
  refine AW.skip (Aa (AW.block ?_));refine AW.draw mixed (fun _=>True) trivial (by kernel_rfl) ?_;refine E5.pure _ _ 0 _ _ rfl (by kernel_rfl) (by kernel_rfl) rfl (.run rfl (Ae (v:=.int .i64 _) rfl)) ?_;refine E5.pure _ _ 1 _ _ rfl (by kernel_rfl) (by kernel_rfl) rfl (.run rfl (Ae (v:=.val _) rfl)) ?_;refine E5.pure _ _ 2 _ _ rfl (by kernel_rfl) (by kernel_rfl) rfl (.run rfl (Ae (v:=.int .i64 _) rfl)) ?_;refine E5.pure _ _ 3 _ _ rfl (by kernel_rfl) (by kernel_rfl) rfl (.run rfl (Nq (l:=k) (h:=n) (o':=k) Ai rfl rfl rfl rfl rfl (⟨_,rfl⟩) (rfl) (by omega) (by omega) (by omega) (by omega) (by simp))) ?_;refine E5.pure _ _ 4 _ _ rfl (by kernel_rfl) (by kernel_rfl) rfl (.run rfl (Ae (v:=.val _) rfl)) ?_;refine E5.pure _ _ 5 _ _ rfl (by kernel_rfl) (by kernel_rfl) rfl (.run rfl (Ae (v:=.int .i64 _) rfl)) ?_;refine E5.pure _ _ 6 _ _ rfl (by kernel_rfl) (by kernel_rfl) rfl (.run rfl (Nq (l:=0) (h:=k) (o':=0) Ai rfl rfl rfl rfl rfl (rfl) (⟨_,rfl⟩) (by omega) (by omega) (by omega) (by omega) (rfl))) ?_;refine E5.eff _ _ 7 _ _ rfl (by kernel_rfl) rfl rfl (jE (k:=0) (m:=min k (n-k)) (cs':=bI (K5 n (k+min k (n-k)))) (H2:=_::_) Ai rfl rfl rfl rfl rfl rfl rfl (bI_sc _) (by first | rfl | (simp only [Nat.sub_zero];done) | (simp only [Nat.sub_zero];rfl)) (by rw [Ut,V0 hR.2];omega) (by rw [Ut,V0 hR.2];omega) (kU (by omega) (by omega)) rfl) (fun _ _ _=>trivial) ?_;rintro _ _ ⟨rfl,rfl⟩;refine E5.pure _ _ 8 _ _ rfl (by kernel_rfl) (by kernel_rfl) rfl (.run rfl (Cc rfl rfl rfl (by constructor <;> omega))) ?_;refine E5.pure _ _ 9 _ _ rfl (by kernel_rfl) (by kernel_rfl) rfl (.run rfl (Ag (v:=.int .i64 _) rfl)) ?_;refine E5.done _ _ (by kernel_rfl) ?_;refine C9 (Aa ?_);refine ⟨k+min k (n-k),?_,?_,GS.weaken ⟨rfl,rfl,trivial⟩ (.refl _)⟩
  . omega
  omega
 have hkn:k=n:=by have:=C7 hc3;omega
 refine AW.exit ?_;refine A1 (A1 (Cd (Aa ?_)));refine AW.seq (AW.region (AOL.Aag (Ae (v:=.val _) rfl) rfl (AOL.Aag (Ag (v:=.val _) rfl) rfl (AOL.nil (Aa (AW.ret ?_))))));refine ⟨.inr rfl,[.val _],.cons (.tmp _ _ rfl) <| .nil,_,.refl _,?_⟩;exact ⟨b30,rfl,congrArg (fun l=>HO.box b30 3 (bI l)::H) ((congrArg (K5 n) hkn).trans (kV n))⟩
end Go.Proofs.YtkdhionilabokaaGreatDoor
namespace Go.Aw
open Go
section
variable {P:Program} {T:List (Nat×TD)} {d:Option Nat} {ty:TypeId} {pos:String} {aft:Array Edge} {gd:Option (Nat×Bool)} {ρ:Operand->AV} {K:List HO->Prop}
end
end Go.Aw
namespace Go.Aw
open Go
theorem AW.ghostPost {P:Program}{c:Code}{Q:Exit->St->Prop}{s:St}(h:AW P c (fun e s=>∃s',GS s s'/\Q e s') s):AW P c Q s:=by
 intro Q' g a w hG hQ;refine h Q' g a w hG fun e g' s' a' w' h1 h2 ⟨s2,h3,h4⟩=>?_
 obtain ⟨g2,k1,k2⟩:=h3 g' a' w' h1;exact hQ e g2 s2 a' w' k1 (h2.trans k2) h4
section
variable {P:Program} {T:List (Nat×TD)} {d:Option Nat} {ty:TypeId} {pos:String} {aft:Array Edge} {gd:Option (Nat×Bool)} {ρ:Operand->AV}
end
end Go.Aw
namespace Go.Proofs.YtkdhionilabokaaGreatDoor
open Go Go.Aw
theorem dJ (l:List Ev)(k:Nat)(a:Ev):(l.take k).any (fun c=>Hm c a)=(l.take k).any (Hm a):=by
 congr 1;funext c;unfold Hm;rw [show (c.source==a.source)=(a.source==c.source) from Bool.beq_comm,show (c.seq==a.seq)=(a.seq==c.seq) from Bool.beq_comm]
theorem rD {l:List Ev}{k j:Nat}{a c:Ev}(hx:l[j]? = some c)(hj:j<k)(h:Hm c a=true):(l.take k).any (fun c=>Hm c a)=true:=
 Oi.2 ⟨c,List.mem_iff_getElem?.2 ⟨j,by rw [List.getElem?_take,if_pos hj];exact hx⟩,h⟩
theorem r_few1 (l:List Vl):Al Tryz.prog 70 [.sl 3 (l.map cV)] (.bool (Vj l)):=by
 refine Al.body (n:=24) Ai Tryz.func70 rfl rfl rfl fun H=>?_
 refine AW.seq (AW.region (AOL.Aag (Ag (v:=.bool _) rfl) rfl (AOL.nil (Aa (AW.seq (AW.seq (AW.region (AOL.Aag (Ag (v:=.int .i64 _) rfl) rfl (AOL.nil (Aa (AW.block ?_)))))))))));refine AW.loopS (fun (k:Nat)=>(⟨[(0,.sl 3 (l.map cV)),(3,.int .i64 (k:Int))],H,24⟩:St)) (fun k=>k<=40/\(l.take k).any (fun v=>decide (128<v.text.length))=false) (fun k=>40-k) (0) ?_ (GS.weaken ⟨rfl,rfl,trivial⟩ (.refl _)) ?_
 . exact ⟨Bn _,by simp⟩
 rintro k hR;refine AW.seq (AW.seq (AW.region (AOL.Aag (Ae (v:=.int .i64 _) rfl) rfl (AOL.Aag (Ae (v:=.sl _ _) rfl) rfl ?_))));refine AOL.Aag (Av (n:=l.length) Ai rfl rfl rfl (by simp)) rfl ?_;refine AOL.Aag (B9 rfl rfl) rfl (AOL.Aag (Ae (v:=.bool _) rfl) rfl (AOL.Aah (y:=.int .i64 _) _ [] rfl (Un.all trivial) (fun hG=>Ae (v:=.int .i64 _) rfl) rfl ?_));refine AOL.Aah (y:=.bool _) _ [(9,_)] rfl (Un.all ⟨Zs.self _ _,trivial⟩) (fun hG=>B9 rfl rfl) rfl ?_;refine AOL.Aag (Bc rfl rfl rfl) rfl (AOL.nil (Aa (AW.cond (b:=_) rfl (fun hc1=>?_) (fun hc1=>AW.exit ?_))))
 .
  rw [Cq] at hc1;have hk40:k<40:=by have:=B2 hc1.2;omega
  obtain ⟨a,ha⟩:=Dd hc1.1;have hlt:=Bj ha;have hm:=A0 ha;refine AW.skip (Aa (AW.seq (AW.block (AW.seq (AW.region (AOL.Aag (Ae (v:=.sl _ _) rfl) rfl (AOL.Aag (Ae (v:=.int .i64 _) rfl) rfl ?_)))))));refine AOL.Aag (Am (c:=[.int .i64 _,.int .i64 _,.str _]) Ai rfl rfl rfl rfl rfl rfl (by omega) (Co ha)) rfl ?_;refine AOL.Aag (Ad (cs':=[.str _]) Ai rfl rfl rfl rfl rfl rfl) rfl (AOL.Aag (Af (c:=.str _) Ai rfl rfl rfl) rfl (AOL.Aag (R7 (n:=a.text.length) Ai rfl rfl rfl (rfl)) rfl (AOL.Aag (Gy rfl rfl) rfl (AOL.nil (Aa (AW.cond (b:=_) rfl (fun hc2=>AW.seq (AW.region (AOL.Aag (Ag (v:=.bool _) rfl) rfl (AOL.nil (Aa (AW.ret (Cn (Ap (Ap (Cn (Ap ?_))))))))))) (fun hc2=>AW.skip (C9 (Aa (AW.region (AOL.Aag (Ae (v:=.int .i64 _) rfl) rfl ?_)))))))))))
  .
   refine ⟨.inr rfl,[.bool _],.cons (.tmp _ _ rfl) <| .nil,.refl _,?_⟩;exact congrArg AV.bool (mZ ha hk40 hc2).symm
  refine AOL.Aag (Cc rfl rfl rfl (by constructor <;> omega)) rfl ?_;refine AOL.Aag (Ag (v:=.int .i64 _) rfl) rfl (AOL.nil (Aa ?_));refine ⟨k+1,?_,?_,GS.weaken ⟨rfl,rfl,trivial⟩ (.refl _)⟩
  . exact ⟨hk40,kC ha hR.2 hc2⟩
  omega
 refine A1 (A1 (Cd (Aa ?_)));refine AW.seq (AW.region (AOL.Aag (Ae (v:=.sl _ _) rfl) rfl ?_));refine AOL.Aag (Av (n:=l.length) Ai rfl rfl rfl (by simp)) rfl ?_;refine AOL.Aag (B9 rfl rfl) rfl (AOL.Aag (Ag (v:=.bool _) rfl) rfl (AOL.nil (Aa (AW.ret ?_))));refine ⟨.inr rfl,[.bool _],.cons (.tmp _ _ rfl) <| .nil,.refl _,?_⟩;exact congrArg AV.bool (mY hc1 hR.1 hR.2)
theorem r4_few (e:Ev):Al Tryz.prog 29 [.agg (Ec e)] (.bool (Vj e.values)):=by
 refine Al.body (n:=6) Ai Tryz.func29 rfl rfl rfl fun H=>?_
 refine AW.seq (AW.region (AOL.Aag (Bt (v:=.agg _) (cs:=[.int .i64 _,.int .i64 _,.int .i64 _,.int .i64 _,_]) rfl rfl rfl) rfl (AOL.Aag (Ag (v:=.bool _) rfl) rfl (AOL.nil (Aa (AW.seq (AW.region (AOL.Aag (Ad (cs':=[_]) Ai rfl rfl rfl rfl rfl rfl) rfl (AOL.Aag (Af (c:=.sl _ _) Ai rfl rfl rfl) rfl ?_)))))))));refine AOL.Aag (Ak (by kernel_rfl) rfl rfl (r_few1 e.values)) rfl ?_;refine AOL.Aag (Ag (v:=.bool _) rfl) rfl (AOL.nil (Aa (AW.ret ?_)));refine ⟨.inr rfl,[.bool _],.cons (.tmp _ _ rfl) <| .nil,.refl _,?_⟩;rfl
theorem r4_all (l:List Ev):Al Tryz.prog 12 [.sl 5 (l.map Ec)] (.bool (eL l)):=by
 refine Al.body (n:=23) Ai Tryz.func12 rfl rfl rfl fun H=>?_
 refine AW.seq (AW.region (AOL.Aag (Ag (v:=.bool _) rfl) rfl (AOL.nil (Aa (AW.seq (AW.seq (AW.region (AOL.Aag (Ag (v:=.int .i64 _) rfl) rfl (AOL.nil (Aa (AW.block ?_)))))))))));refine AW.loopS (fun (k:Nat)=>(⟨[(0,.sl 5 (l.map Ec)),(3,.int .i64 (k:Int))],H,23⟩:St)) (fun k=>k<=20/\(l.take k).any (fun e=>!Vj e.values)=false) (fun k=>20-k) (0) ?_ (GS.weaken ⟨rfl,rfl,trivial⟩ (.refl _)) ?_
 . exact ⟨Bn _,by simp⟩
 rintro k hR;refine AW.seq (AW.seq (AW.region (AOL.Aag (Ae (v:=.int .i64 _) rfl) rfl (AOL.Aag (Ae (v:=.sl _ _) rfl) rfl ?_))));refine AOL.Aag (Av (n:=l.length) Ai rfl rfl rfl (by simp)) rfl ?_;refine AOL.Aag (B9 rfl rfl) rfl (AOL.Aag (Ae (v:=.bool _) rfl) rfl (AOL.Aah (y:=.int .i64 _) _ [] rfl (Un.all trivial) (fun hG=>Ae (v:=.int .i64 _) rfl) rfl ?_));refine AOL.Aah (y:=.bool _) _ [(9,_)] rfl (Un.all ⟨Zs.self _ _,trivial⟩) (fun hG=>B9 rfl rfl) rfl ?_;refine AOL.Aag (Bc rfl rfl rfl) rfl (AOL.nil (Aa (AW.cond (b:=_) rfl (fun hc1=>?_) (fun hc1=>AW.exit ?_))))
 .
  rw [Cq] at hc1;have hk20:k<20:=by have:=B2 hc1.2;omega
  obtain ⟨a,ha⟩:=Dd hc1.1;have hlt:=Bj ha;have hm:=A0 ha;refine AW.skip (Aa (AW.seq (AW.block (AW.seq (AW.region (AOL.Aag (Ae (v:=.sl _ _) rfl) rfl (AOL.Aag (Ae (v:=.int .i64 _) rfl) rfl ?_)))))));refine AOL.Aag (Am (c:=[.int .i64 _,.int .i64 _,.int .i64 _,.int .i64 _,_]) Ai rfl rfl rfl rfl rfl rfl (by omega) (Co ha)) rfl ?_;refine AOL.Aag (Ah (l:=[.int .i64 _,.int .i64 _,.int .i64 _,.int .i64 _,_]) Ai rfl rfl rfl rfl rfl) rfl ?_;refine AOL.Aag (Ak (by kernel_rfl) rfl rfl (r4_few a)) rfl ?_;refine AOL.Aag (F6 rfl) rfl (AOL.nil (Aa (AW.cond (b:=_) rfl (fun hc2=>AW.seq (AW.region (AOL.Aag (Ag (v:=.bool _) rfl) rfl (AOL.nil (Aa (AW.ret (Cn (Ap (Ap (Cn (Ap ?_))))))))))) (fun hc2=>AW.skip (C9 (Aa (AW.region (AOL.Aag (Ae (v:=.int .i64 _) rfl) rfl ?_))))))))
  .
   refine ⟨.inr rfl,[.bool _],.cons (.tmp _ _ rfl) <| .nil,.refl _,?_⟩;exact congrArg AV.bool (nB ha hk20 hc2).symm
  refine AOL.Aag (Cc rfl rfl rfl (by constructor <;> omega)) rfl ?_;refine AOL.Aag (Ag (v:=.int .i64 _) rfl) rfl (AOL.nil (Aa ?_));refine ⟨k+1,?_,?_,GS.weaken ⟨rfl,rfl,trivial⟩ (.refl _)⟩
  . exact ⟨hk20,by rw [Ky _ ha,hR.2,hc2];rfl⟩
  omega
 refine A1 (A1 (Cd (Aa ?_)));refine AW.seq (AW.region (AOL.Aag (Ae (v:=.sl _ _) rfl) rfl ?_));refine AOL.Aag (Av (n:=l.length) Ai rfl rfl rfl (by simp)) rfl ?_;refine AOL.Aag (I8 rfl rfl) rfl (AOL.Aag (Ag (v:=.bool _) rfl) rfl (AOL.nil (Aa (AW.ret ?_))));refine ⟨.inr rfl,[.bool _],.cons (.tmp _ _ rfl) <| .nil,.refl _,?_⟩;exact congrArg AV.bool (nA hc1 hR.1 hR.2)
theorem iE (n:Int):Al Tryz.prog 123 [.int .i64 n] (.bool false):=by
 refine Al.body (n:=6) Ai Tryz.func123 rfl rfl rfl fun H=>?_
 refine AW.seq (AW.region (AOL.Aag (Ag (v:=.bool _) rfl) rfl (AOL.nil (Aa (AW.seq (AW.region (AOL.Aag (Ae (v:=.int .i64 _) rfl) rfl (AOL.Aag (Ae (v:=.int .i64 _) rfl) rfl (AOL.Aag (Fk rfl rfl) rfl (AOL.Aag (Ag (v:=.bool _) rfl) rfl (AOL.nil (Aa (AW.ret ?_)))))))))))));refine ⟨.inr rfl,[.bool _],.cons (.tmp _ _ rfl) <| .nil,.refl _,?_⟩;simp [Aj]
theorem Vp (n m:Int):Al Tryz.prog 89 [.int .i64 n,.int .i64 m] (.int .i64 (Eh n m)):=by
 refine Al.body (n:=20) Ai Tryz.func89 rfl rfl rfl fun H=>?_
 refine AW.seq (AW.region (AOL.Aag (Ag (v:=.int .i64 _) rfl) rfl (AOL.nil (Aa (AW.seq (AW.region (AOL.Aag (Ae (v:=.int .i64 _) rfl) rfl ?_)))))));refine AOL.Aag (Ak (by kernel_rfl) rfl rfl (iE _)) rfl ?_;refine AOL.Aag (Ag (v:=.bool _) rfl) rfl (AOL.nil (Aa (AW.seq (AW.region (AOL.Aag (Ae (v:=.int .i64 _) rfl) rfl ?_)))));refine AOL.Aag (Ak (by kernel_rfl) rfl rfl (iE _)) rfl ?_;refine AOL.Aag (Ag (v:=.bool _) rfl) rfl (AOL.nil (Aa (AW.seq (AW.seq (AW.region (AOL.Aag (Ae (v:=.bool _) rfl) rfl (AOL.nil (Aa (AW.cond (b:=_) rfl (fun hc1=>?_) (fun hc1=>AW.skip (Aa (AW.seq ?_))))))))))))
 . cases hc1
 refine AW.seq (AW.region (AOL.Aag (Ae (v:=.bool _) rfl) rfl (AOL.nil (Aa (AW.cond (b:=_) rfl (fun hc2=>?_) (fun hc2=>AW.skip (Aa (AW.seq (AW.seq (AW.region (AOL.Aag (Ae (v:=.int .i64 _) rfl) rfl (AOL.Aag (Ae (v:=.int .i64 _) rfl) rfl (AOL.Aag (B9 rfl rfl) rfl (AOL.nil (Aa (AW.cond (b:=_) rfl (fun hc3=>AW.seq (AW.region (AOL.Aag (Ag (v:=.int .i64 _) rfl) rfl (AOL.nil (Aa (AW.ret (Ap ?_))))))) (fun hc3=>AW.skip (Aa (AW.seq (AW.seq (AW.region (AOL.Aag (Ae (v:=.int .i64 _) rfl) rfl (AOL.Aag (Ae (v:=.int .i64 _) rfl) rfl (AOL.Aag (Gy rfl rfl) rfl (AOL.nil (Aa (AW.cond (b:=_) rfl (fun hc4=>AW.seq (AW.region (AOL.Aag (Ag (v:=.int .i64 _) rfl) rfl (AOL.nil (Aa (AW.ret (Ap ?_))))))) (fun hc4=>AW.skip (Aa (AW.seq (AW.region (AOL.Aag (Ag (v:=.int .i64 _) rfl) rfl (AOL.nil (Aa (AW.ret ?_)))))))))))))))))))))))))))))))))))
 . cases hc2
 .
  refine ⟨.inr rfl,[.int .i64 _],.cons (.tmp _ _ rfl) <| .nil,.refl _,?_⟩;simp only [Aj,Eh,hc1,hc2,hc3,↓reduceIte,A2]
 .
  refine ⟨.inr rfl,[.int .i64 _],.cons (.tmp _ _ rfl) <| .nil,.refl _,?_⟩;simp only [Aj,Eh,hc1,hc2,hc3,hc4,↓reduceIte,A2]
 refine ⟨.inr rfl,[.int .i64 _],.cons (.tmp _ _ rfl) <| .nil,.refl _,?_⟩;simp only [Aj,Eh,hc1,hc2,hc3,hc4,↓reduceIte,A2]
theorem zH (l:List Int):Al Tryz.prog 88 [.sl 1 (l.map cI)] (.int .i64 (fB l)):=by
 refine Al.body (n:=18) Ai Tryz.func88 rfl rfl rfl fun H=>?_
 refine AW.seq (AW.region (AOL.Aag (Ag (v:=.int .i64 _) rfl) rfl (AOL.nil (Aa (AW.seq (AW.region (AOL.Aag (Ag (v:=.int .i64 _) rfl) rfl (AOL.nil (Aa (AW.seq (AW.seq (AW.region (AOL.Aag (Ae (v:=.sl _ _) rfl) rfl ?_)))))))))))));refine AOL.Aag (Av (n:=l.length) Ai rfl rfl rfl (by simp)) rfl ?_;refine AOL.Aag (Ae (v:=.int .i64 _) rfl) rfl (AOL.nil (Aa (AW.block (AW.sllen 6 rfl fun hlen=>?_))));simp only [B1,maxLen] at hlen;refine AW.loopS (fun (k:Nat)=>(⟨[(3,.int .i64 0),(6,.sl 1 (l.map cI)),(7,.int .i64 l.length),(8,.int .i64 (k:Int))],H,18⟩:St)) (fun k=>k<=l.length/\fB l=fB (l.drop k)) (fun k=>l.length-k) (0) ?_ (GS.weaken ⟨rfl,rfl,rfl,rfl,trivial⟩ (.refl _)) ?_
 . exact ⟨Bn _,rfl⟩
 rintro k hR;refine AW.seq (AW.region (AOL.Aag (B9 rfl rfl) rfl (AOL.nil (Aa (AW.seq (AW.cond (b:=_) rfl (fun hc1=>?_) (fun hc1=>?_)))))))
 .
  obtain ⟨a,ha⟩:=Dd hc1;have hlt:=Bj ha;have hm:=A0 ha;refine AW.skip (Aa (AW.seq (AW.block (AW.seq (AW.region ?_)))));refine AOL.Aag (Am (c:=[.int .i64 _]) Ai rfl rfl rfl rfl rfl rfl (by omega) (Co ha)) rfl ?_;refine AOL.Aag (Af (c:=.int .i64 _) Ai rfl rfl rfl) rfl (AOL.Aag (Ag (v:=.int .i64 _) rfl) rfl (AOL.nil (Aa (AW.seq (AW.region (AOL.Aag (Ae (v:=.int .i64 _) rfl) rfl (AOL.Aag (Ae (v:=.int .i64 _) rfl) rfl (AOL.Aag (Fk rfl rfl) rfl (AOL.nil (Aa (AW.cond (b:=_) rfl (fun hc2=>AW.seq (AW.region (AOL.Aag (Ae (v:=.int .i64 _) rfl) rfl (AOL.Aag (Ag (v:=.int .i64 _) rfl) rfl (AOL.nil (Aa (AW.ret (Cn (Ap (Ap (Cn (Ap ?_)))))))))))) (fun hc2=>AW.skip (C9 (Aa (AW.region ?_)))))))))))))))
  .
   refine ⟨.inr rfl,[.int .i64 _],.cons (.tmp _ _ rfl) <| .nil,.refl _,?_⟩;exact congrArg (AV.int .i64) (by rw [hR.2,uP ha hc2])
  refine AOL.Aag (Cc rfl rfl rfl (by constructor <;> omega)) rfl ?_;refine AOL.Aag (Ae (v:=.int .i64 _) rfl) rfl (AOL.nil (Aa ?_));refine ⟨k+1,?_,?_,GS.weaken ⟨rfl,rfl,rfl,rfl,trivial⟩ (.refl _)⟩
  . exact ⟨hlt,by rw [hR.2,pA ha hc2]⟩
  omega
 have hd:=Gb hc1;refine AW.exit ?_;refine A1 (A1 (Cd (Aa ?_)));refine AW.seq (AW.region (AOL.Aag (Ae (v:=.int .i64 _) rfl) rfl (AOL.Aag (Ag (v:=.int .i64 _) rfl) rfl (AOL.nil (Aa (AW.ret ?_))))));refine ⟨.inr rfl,[.int .i64 _],.cons (.tmp _ _ rfl) <| .nil,.refl _,?_⟩;exact congrArg (AV.int .i64) (by rw [hR.2,hd];rfl)
theorem gK (e:Ev):Al Tryz.prog 63 [.agg (Ec e)] (.agg (vX (rf e))):=by
 refine Al.body (n:=10) Ai Tryz.func63 rfl rfl rfl fun H=>?_
 refine AW.seq (AW.region (AOL.Aag (Bt (v:=.agg _) (cs:=[.int .i64 _,.int .i64 _,.int .i64 _,.int .i64 _,_]) rfl rfl rfl) rfl ?_));refine AOL.e (Bh (l:=[.int .i64 0,.int .i64 0,.int .i64 0]) (by kernel_rfl)) rfl ?_;rintro _ _ ⟨b2,rfl,rfl⟩;refine AOL.nil (Aa (AW.seq (AW.region (AOL.Aag (Ad (cs':=[.int .i64 _,_]) Ai rfl rfl rfl rfl rfl rfl) rfl (AOL.Aag (Af (c:=.int .i64 _) Ai rfl rfl rfl) rfl (AOL.Aag (Ad (cs':=[.int .i64 _,.int .i64 _,.int .i64 _,.int .i64 _,_]) Ai rfl rfl rfl rfl rfl rfl) rfl (AOL.Aag (Af (c:=.int .i64 _) Ai rfl rfl rfl) rfl (AOL.Aag (Ad (cs':=[.int .i64 _,.int .i64 _,.int .i64 _,_]) Ai rfl rfl rfl rfl rfl rfl) rfl (AOL.Aag (Af (c:=.int .i64 _) Ai rfl rfl rfl) rfl (AOL.Aag (C3 (l:=[.int .i64 _,.int .i64 _,.int .i64 _]) Ai rfl rfl rfl) rfl (AOL.e (Ao (k:=0) (v:=.agg _) (cs':=[.int .i64 _,.int .i64 _,.int .i64 _]) (H2:=_::_) Ai rfl rfl rfl rfl (rfl) rfl rfl rfl rfl) rfl ?_)))))))))));rintro _ _ ⟨rfl,rfl⟩;refine AOL.nil (Aa (AW.ret ?_));refine ⟨.inr rfl,[.agg [.int .i64 _,.int .i64 _,.int .i64 _]],.cons (.box _ _ _ 0 _ _ _ _ rfl rfl rfl rfl rfl rfl) <| .nil,.cons _ (.refl _),?_⟩;rfl
theorem pN (e:Ev):Al Tryz.prog 38 [.agg (Ec e)] (.agg (vX (rf e))):=by
 refine Al.body (n:=10) Ai Tryz.func38 rfl rfl rfl fun H=>?_
 refine AW.seq (AW.region (AOL.Aag (Bt (v:=.agg _) (cs:=[.int .i64 _,.int .i64 _,.int .i64 _,.int .i64 _,_]) rfl rfl rfl) rfl ?_));refine AOL.e (Bh (l:=[.int .i64 0,.int .i64 0,.int .i64 0]) (by kernel_rfl)) rfl ?_;rintro _ _ ⟨b2,rfl,rfl⟩;refine AOL.nil (Aa (AW.seq (AW.region (AOL.Aag (Ad (cs':=[.int .i64 _,_]) Ai rfl rfl rfl rfl rfl rfl) rfl (AOL.Aag (Af (c:=.int .i64 _) Ai rfl rfl rfl) rfl (AOL.Aag (Ad (cs':=[.int .i64 _,.int .i64 _,.int .i64 _,.int .i64 _,_]) Ai rfl rfl rfl rfl rfl rfl) rfl (AOL.Aag (Af (c:=.int .i64 _) Ai rfl rfl rfl) rfl (AOL.Aag (Ad (cs':=[.int .i64 _,.int .i64 _,.int .i64 _,_]) Ai rfl rfl rfl rfl rfl rfl) rfl (AOL.Aag (Af (c:=.int .i64 _) Ai rfl rfl rfl) rfl (AOL.Aag (C3 (l:=[.int .i64 _,.int .i64 _,.int .i64 _]) Ai rfl rfl rfl) rfl (AOL.e (Ao (k:=0) (v:=.agg _) (cs':=[.int .i64 _,.int .i64 _,.int .i64 _]) (H2:=_::_) Ai rfl rfl rfl rfl (rfl) rfl rfl rfl rfl) rfl ?_)))))))))));rintro _ _ ⟨rfl,rfl⟩;refine AOL.nil (Aa (AW.ret ?_));refine ⟨.inr rfl,[.agg [.int .i64 _,.int .i64 _,.int .i64 _]],.cons (.box _ _ _ 0 _ _ _ _ rfl rfl rfl rfl rfl rfl) <| .nil,.cons _ (.refl _),?_⟩;rfl
theorem s_of (e:Ev):Al Tryz.prog 54 [.agg (Ec e)] (.agg [.int .i64 e.source,.int .i64 e.seq]):=by
 refine Al.body (n:=8) Ai Tryz.func54 rfl rfl rfl fun H=>?_
 refine AW.seq (AW.region (AOL.Aag (Bt (v:=.agg _) (cs:=[.int .i64 _,.int .i64 _,.int .i64 _,.int .i64 _,_]) rfl rfl rfl) rfl ?_));refine AOL.e (Bh (l:=[.int .i64 0,.int .i64 0]) (by kernel_rfl)) rfl ?_;rintro _ _ ⟨b2,rfl,rfl⟩;refine AOL.nil (Aa (AW.seq (AW.region (AOL.Aag (Ad (cs':=[.int .i64 _,.int .i64 _,.int .i64 _,.int .i64 _,_]) Ai rfl rfl rfl rfl rfl rfl) rfl (AOL.Aag (Af (c:=.int .i64 _) Ai rfl rfl rfl) rfl (AOL.Aag (Ad (cs':=[.int .i64 _,.int .i64 _,.int .i64 _,_]) Ai rfl rfl rfl rfl rfl rfl) rfl (AOL.Aag (Af (c:=.int .i64 _) Ai rfl rfl rfl) rfl (AOL.Aag (C3 (l:=[.int .i64 _,.int .i64 _]) Ai rfl rfl rfl) rfl (AOL.e (Ao (k:=0) (v:=.agg _) (cs':=[.int .i64 _,.int .i64 _]) (H2:=_::_) Ai rfl rfl rfl rfl (rfl) rfl rfl rfl rfl) rfl ?_)))))))));rintro _ _ ⟨rfl,rfl⟩;refine AOL.nil (Aa (AW.ret ?_));refine ⟨.inr rfl,[.agg [.int .i64 _,.int .i64 _]],.cons (.box _ _ _ 0 _ _ _ _ rfl rfl rfl rfl rfl rfl) <| .nil,.cons _ (.refl _),?_⟩;rfl
theorem W0 (x y:Ev):Al Tryz.prog 53 [.agg (Ec x),.agg (Ec y)] (.int .i64 (Tk x y)):=by
 refine Al.body (n:=27) Ai Tryz.func53 rfl rfl rfl fun H=>?_
 refine AW.seq (AW.region (AOL.Aag (Bt (v:=.agg _) (cs:=[.int .i64 _,.int .i64 _,.int .i64 _,.int .i64 _,_]) rfl rfl rfl) rfl (AOL.Aag (Bt (v:=.agg _) (cs:=[.int .i64 _,.int .i64 _,.int .i64 _,.int .i64 _,_]) rfl rfl rfl) rfl (AOL.Aag (Ag (v:=.int .i64 _) rfl) rfl (AOL.nil (Aa (AW.seq (AW.seq ?_))))))));refine AW.draw mixed (fun _=>True) trivial (by kernel_rfl) ?_;refine E5.pure _ _ 0 _ _ rfl (by kernel_rfl) (by kernel_rfl) rfl (.run rfl (Ah (l:=[.int .i64 _,.int .i64 _,.int .i64 _,.int .i64 _,_]) Ai rfl rfl rfl rfl rfl)) ?_;refine E5.pure _ _ 1 _ _ rfl (by kernel_rfl) (by kernel_rfl) rfl (.run rfl (Ak (by kernel_rfl) rfl rfl (gK x))) ?_;refine E5.pure _ _ 2 _ _ rfl (by kernel_rfl) (by kernel_rfl) rfl (.run rfl (Ah (l:=[.int .i64 _,.int .i64 _,.int .i64 _,.int .i64 _,_]) Ai rfl rfl rfl rfl rfl)) ?_;refine E5.pure _ _ 3 _ _ rfl (by kernel_rfl) (by kernel_rfl) rfl (.run rfl (Ak (by kernel_rfl) rfl rfl (gK y))) ?_;refine E5.pure _ _ 4 _ _ rfl (by kernel_rfl) (by kernel_rfl) rfl (.run rfl (Oo Ai rfl rfl rfl rfl rfl)) ?_;refine E5.done _ _ (by kernel_rfl) ?_;refine Aa (AW.cond (b:=_) rfl (fun hc1=>AW.seq (AW.region (AOL.Aag (Ag (v:=.int .i64 _) rfl) rfl (AOL.nil (Aa (AW.ret (Ap ?_))))))) (fun hc1=>AW.skip (Aa (AW.seq ?_))))
 .
  refine ⟨.inr rfl,[.int .i64 _],.cons (.tmp _ _ rfl) <| .nil,.refl _,?_⟩;exact congrArg (AV.int .i64) (by unfold Tk;rw [if_pos (by unfold Ui;simpa [rf] using hc1)])
 refine AW.draw mixed (fun _=>True) trivial (by kernel_rfl) ?_;refine E5.pure _ _ 0 _ _ rfl (by kernel_rfl) (by kernel_rfl) rfl (.run rfl (Ad (cs':=[.int .i64 _,_]) Ai rfl rfl rfl rfl rfl rfl)) ?_;refine E5.pure _ _ 1 _ _ rfl (by kernel_rfl) (by kernel_rfl) rfl (.run rfl (Af (c:=.int .i64 _) Ai rfl rfl rfl)) ?_;refine E5.pure _ _ 2 _ _ rfl (by kernel_rfl) (by kernel_rfl) rfl (.run rfl (Ad (cs':=[.int .i64 _,_]) Ai rfl rfl rfl rfl rfl rfl)) ?_;refine E5.pure _ _ 3 _ _ rfl (by kernel_rfl) (by kernel_rfl) rfl (.run rfl (Af (c:=.int .i64 _) Ai rfl rfl rfl)) ?_;refine E5.pure _ _ 4 _ _ rfl (by kernel_rfl) (by kernel_rfl) rfl (.run rfl (Ak (by kernel_rfl) rfl rfl (Vp _ _))) ?_;refine E5.pure _ _ 5 _ _ rfl (by kernel_rfl) (by kernel_rfl) rfl (.run rfl (Ad (cs':=[.int .i64 _,.int .i64 _,.int .i64 _,.int .i64 _,_]) Ai rfl rfl rfl rfl rfl rfl)) ?_;refine E5.pure _ _ 6 _ _ rfl (by kernel_rfl) (by kernel_rfl) rfl (.run rfl (Af (c:=.int .i64 _) Ai rfl rfl rfl)) ?_;refine E5.pure _ _ 7 _ _ rfl (by kernel_rfl) (by kernel_rfl) rfl (.run rfl (Ad (cs':=[.int .i64 _,.int .i64 _,.int .i64 _,.int .i64 _,_]) Ai rfl rfl rfl rfl rfl rfl)) ?_;refine E5.pure _ _ 8 _ _ rfl (by kernel_rfl) (by kernel_rfl) rfl (.run rfl (Af (c:=.int .i64 _) Ai rfl rfl rfl)) ?_;refine E5.pure _ _ 9 _ _ rfl (by kernel_rfl) (by kernel_rfl) rfl (.run rfl (Ak (by kernel_rfl) rfl rfl (Vp _ _))) ?_;refine E5.pure _ _ 10 _ _ rfl (by kernel_rfl) (by kernel_rfl) rfl (.run rfl (Ad (cs':=[.int .i64 _,.int .i64 _,.int .i64 _,_]) Ai rfl rfl rfl rfl rfl rfl)) ?_;refine E5.pure _ _ 11 _ _ rfl (by kernel_rfl) (by kernel_rfl) rfl (.run rfl (Af (c:=.int .i64 _) Ai rfl rfl rfl)) ?_;refine E5.pure _ _ 12 _ _ rfl (by kernel_rfl) (by kernel_rfl) rfl (.run rfl (Ad (cs':=[.int .i64 _,.int .i64 _,.int .i64 _,_]) Ai rfl rfl rfl rfl rfl rfl)) ?_;refine E5.pure _ _ 13 _ _ rfl (by kernel_rfl) (by kernel_rfl) rfl (.run rfl (Af (c:=.int .i64 _) Ai rfl rfl rfl)) ?_;refine E5.pure _ _ 14 _ _ rfl (by kernel_rfl) (by kernel_rfl) rfl (.run rfl (Ak (by kernel_rfl) rfl rfl (Vp _ _))) ?_;refine E5.pure _ _ 15 _ _ rfl (by kernel_rfl) (by kernel_rfl) rfl (.run rfl (Bw (es:=[[.int .i64 _],[.int .i64 _],[.int .i64 _]]) Ai rfl rfl rfl rfl rfl rfl rfl rfl rfl)) ?_;refine E5.pure _ _ 16 _ _ rfl (by kernel_rfl) (by kernel_rfl) rfl (.run rfl (Ak (by kernel_rfl) rfl rfl (zH [Eh x.time y.time,Eh x.source y.source,Eh x.seq y.seq]))) ?_;refine E5.pure _ _ 17 _ _ rfl (by kernel_rfl) (by kernel_rfl) rfl (.run rfl (Ag (v:=.int .i64 _) rfl)) ?_;refine E5.done _ _ (by kernel_rfl) ?_;refine Aa (AW.ret ?_);refine ⟨.inr rfl,[.int .i64 _],.cons (.tmp _ _ rfl) <| .nil,.refl _,?_⟩;exact congrArg (AV.int .i64) (by unfold Tk;rw [Ep (by unfold Ui;simpa [rf] using hc1)])
theorem qH (e:Ev):Al Tryz.prog 52 [.agg (Ec e)] (.bool (Uf e)):=by
 refine Al.body (n:=31) Ai Tryz.func52 rfl rfl rfl fun H=>?_
 refine AW.seq (AW.region (AOL.Aag (Bt (v:=.agg _) (cs:=[.int .i64 _,.int .i64 _,.int .i64 _,.int .i64 _,_]) rfl rfl rfl) rfl (AOL.Aag (Ag (v:=.bool _) rfl) rfl (AOL.nil (Aa (AW.seq (AW.region (AOL.Aag (Ad (cs':=[.int .i64 _,_]) Ai rfl rfl rfl rfl rfl rfl) rfl (AOL.Aag (Af (c:=.int .i64 _) Ai rfl rfl rfl) rfl (AOL.Aag (I7 rfl rfl) rfl (AOL.Aag (Ae (v:=.bool _) rfl) rfl (AOL.Aah (y:=.ptr _) _ [] rfl (Un.all trivial) (fun hG=>Ad (cs':=[.int .i64 _,_]) Ai rfl rfl rfl rfl rfl rfl) rfl ?_))))))))))));refine AOL.Aah (y:=.int .i64 _) _ [(7,_)] rfl (Un.all ⟨Zs.self _ _,trivial⟩) (fun hG=>Af (c:=.int .i64 _) Ai rfl rfl rfl) rfl ?_;refine AOL.Aah (y:=.bool _) _ [(8,_)] rfl (Un.all ⟨Zs.self _ _,trivial⟩) (fun hG=>I8 rfl rfl) rfl ?_;refine AOL.Aag (Bc rfl rfl rfl) rfl (AOL.Aag (Ae (v:=.bool _) rfl) rfl (AOL.Aah (y:=.ptr _) _ [] rfl (Un.all trivial) (fun hG=>Ad (cs':=[.int .i64 _,.int .i64 _,.int .i64 _,.int .i64 _,_]) Ai rfl rfl rfl rfl rfl rfl) rfl ?_));refine AOL.Aah (y:=.int .i64 _) _ [(12,_)] rfl (Un.all ⟨Zs.self _ _,trivial⟩) (fun hG=>Af (c:=.int .i64 _) Ai rfl rfl rfl) rfl ?_;refine AOL.Aah (y:=.bool _) _ [(13,_)] rfl (Un.all ⟨Zs.self _ _,trivial⟩) (fun hG=>I7 rfl rfl) rfl ?_;refine AOL.Aag (Bc rfl rfl rfl) rfl (AOL.Aag (Ae (v:=.bool _) rfl) rfl (AOL.Aah (y:=.ptr _) _ [] rfl (Un.all trivial) (fun hG=>Ad (cs':=[.int .i64 _,.int .i64 _,.int .i64 _,.int .i64 _,_]) Ai rfl rfl rfl rfl rfl rfl) rfl ?_));refine AOL.Aah (y:=.int .i64 _) _ [(17,_)] rfl (Un.all ⟨Zs.self _ _,trivial⟩) (fun hG=>Af (c:=.int .i64 _) Ai rfl rfl rfl) rfl ?_;refine AOL.Aah (y:=.bool _) _ [(18,_)] rfl (Un.all ⟨Zs.self _ _,trivial⟩) (fun hG=>B9 rfl rfl) rfl ?_;refine AOL.Aag (Bc rfl rfl rfl) rfl (AOL.Aag (Ae (v:=.bool _) rfl) rfl (AOL.Aah (y:=.ptr _) _ [] rfl (Un.all trivial) (fun hG=>Ad (cs':=[.int .i64 _,.int .i64 _,.int .i64 _,_]) Ai rfl rfl rfl rfl rfl rfl) rfl ?_));refine AOL.Aah (y:=.int .i64 _) _ [(22,_)] rfl (Un.all ⟨Zs.self _ _,trivial⟩) (fun hG=>Af (c:=.int .i64 _) Ai rfl rfl rfl) rfl ?_;refine AOL.Aah (y:=.bool _) _ [(23,_)] rfl (Un.all ⟨Zs.self _ _,trivial⟩) (fun hG=>I7 rfl rfl) rfl ?_;refine AOL.Aag (Bc rfl rfl rfl) rfl (AOL.Aag (Ae (v:=.bool _) rfl) rfl (AOL.Aah (y:=.ptr _) _ [] rfl (Un.all trivial) (fun hG=>Ad (cs':=[.int .i64 _,.int .i64 _,.int .i64 _,_]) Ai rfl rfl rfl rfl rfl rfl) rfl ?_));refine AOL.Aah (y:=.int .i64 _) _ [(27,_)] rfl (Un.all ⟨Zs.self _ _,trivial⟩) (fun hG=>Af (c:=.int .i64 _) Ai rfl rfl rfl) rfl ?_;refine AOL.Aah (y:=.bool _) _ [(28,_)] rfl (Un.all ⟨Zs.self _ _,trivial⟩) (fun hG=>I8 rfl rfl) rfl ?_;refine AOL.Aag (Bc rfl rfl rfl) rfl (AOL.Aag (Ag (v:=.bool _) rfl) rfl (AOL.nil (Aa (AW.ret ?_))));refine ⟨.inr rfl,[.bool _],.cons (.tmp _ _ rfl) <| .nil,.refl _,?_⟩;rfl
theorem iV (l:List Ev):Al Tryz.prog 19 [.sl 5 (l.map Ec)] (.int .i64 (Fh l)):=by
 refine Al.body (n:=43) Ai Tryz.func19 rfl rfl rfl fun H=>?_
 refine AW.seq (AW.region (AOL.Aag (Ag (v:=.int .i64 _) rfl) rfl (AOL.nil (Aa (AW.seq (AW.seq (AW.region (AOL.Aag (Ae (v:=.sl _ _) rfl) rfl ?_))))))));refine AOL.Aag (Av (n:=l.length) Ai rfl rfl rfl (by simp)) rfl ?_;refine AOL.Aag (Gy rfl rfl) rfl (AOL.nil (Aa (AW.cond (b:=_) rfl (fun hc1=>AW.seq (AW.region (AOL.Aag (Ag (v:=.int .i64 _) rfl) rfl (AOL.nil (Aa (AW.ret (Ap ?_))))))) (fun hc1=>AW.skip (Aa (AW.seq (AW.region (AOL.e (dY) rfl ?_))))))))
 .
  refine ⟨.inr rfl,[.int .i64 _],.cons (.tmp _ _ rfl) <| .nil,.refl _,?_⟩;exact congrArg (AV.int .i64) (by unfold Fh;rw [if_pos hc1])
 rintro _ _ ⟨b9,rfl,rfl⟩;refine AOL.Aag (Ag (v:=.val _) rfl) rfl (AOL.nil (Aa (AW.seq (AW.seq (AW.region (AOL.Aag (Ae (v:=.sl _ _) rfl) rfl ?_))))));refine AOL.Aag (Av (n:=l.length) Ai rfl rfl rfl (by simp)) rfl ?_;refine AOL.Aag (Ae (v:=.int .i64 _) rfl) rfl (AOL.nil (Aa (AW.block (AW.sllen 10 rfl fun hlen=>?_))));simp only [B1,maxLen] at hlen;refine AW.loopS (fun (k:Nat)=>(⟨[(0,.sl 5 (l.map Ec)),(3,.val (.map (some b9))),(10,.sl 5 (l.map Ec)),(11,.int .i64 l.length),(12,.int .i64 (k:Int))],.kmap b9 (Pi (l.take k))::H,43⟩:St)) (fun k=>k<=l.length/\Ho [] l=Ho (l.take k) (l.drop k)) (fun k=>l.length-k) (0) ?_ (GS.weaken ⟨rfl,rfl,rfl,rfl,rfl,trivial⟩ (.refl _)) ?_
 . exact ⟨Bn _,by simp⟩
 rintro k hR;refine AW.seq (AW.region (AOL.Aag (B9 rfl rfl) rfl (AOL.nil (Aa (AW.seq (AW.cond (b:=_) rfl (fun hc2=>?_) (fun hc2=>?_)))))))
 .
  obtain ⟨a,ha⟩:=Dd hc2;have hlt:=Bj ha;have hm:=A0 ha;have hst:=iX (l:=l) (k:=k) a (by omega);refine AW.skip (Aa (AW.seq (AW.block (AW.seq (AW.region (AOL.Aag (Ae (v:=.int .i64 _) rfl) rfl ?_))))));refine AOL.Aag (Am (c:=[.int .i64 _,.int .i64 _,.int .i64 _,.int .i64 _,_]) Ai rfl rfl rfl rfl rfl rfl (by omega) (Co ha)) rfl ?_;refine AOL.Aag (Ah (l:=[.int .i64 _,.int .i64 _,.int .i64 _,.int .i64 _,_]) Ai rfl rfl rfl rfl rfl) rfl ?_;refine AOL.e (Bh (l:=[.int .i64 0,.int .i64 0,.int .i64 0,.int .i64 0,.sl 3 []]) (by kernel_rfl)) rfl ?_;rintro _ _ ⟨b5,rfl,rfl⟩;refine AOL.Aag (Ag (v:=.int .i64 _) rfl) rfl (AOL.e (Ao (k:=0) (v:=.agg _) (cs':=[.int .i64 _,.int .i64 _,.int .i64 _,.int .i64 _,_]) (H2:=_::_::_) Ai rfl rfl rfl rfl (rfl) rfl rfl rfl rfl) rfl ?_);rintro _ _ ⟨rfl,rfl⟩;refine AOL.ghost (GS.Aaj (t:=5) 0 rfl rfl) ?_;refine AOL.nil (Aa (AW.seq (AW.block (AW.seq (AW.region (AOL.Aag (Ah (l:=[.int .i64 _,.int .i64 _,.int .i64 _,.int .i64 _,_]) Ai rfl rfl rfl rfl rfl) rfl ?_))))));refine AOL.Aag (Ak (by kernel_rfl) rfl rfl (qH a)) rfl ?_;refine AOL.Aag (F6 rfl) rfl (AOL.Aag (Ag (v:=.bool _) rfl) rfl (AOL.nil (Aa (AW.cond (b:=_) rfl (fun hc3=>AW.seq (AW.region (AOL.Aag (Ag (v:=.int .i64 _) rfl) rfl (AOL.nil (Aa (AW.ret (Cn (Ap (Cn (Ap (Ap (Cn (Ap ?_))))))))))))) (fun hc3=>AW.seq ?_)))))
  .
   refine ⟨.inr rfl,[.int .i64 _],.cons (.tmp _ _ rfl) <| .nil,.cons _ (.refl _),?_⟩;exact congrArg (AV.int .i64) (by unfold Fh;rw [Ep hc1,hR.2,Bf ha,Ox (x:=2) (by rw [hst,if_pos hc3]) (by decide)])
  refine AW.draw mixed (fun _=>True) trivial (by kernel_rfl) ?_;refine E5.pure _ _ 0 _ _ rfl (by kernel_rfl) (by kernel_rfl) rfl (.run rfl (Ae (v:=.int .i64 _) rfl)) ?_;refine E5.pure _ _ 1 _ _ rfl (by kernel_rfl) (by kernel_rfl) rfl (.run rfl (Gy rfl rfl)) ?_;refine E5.pure _ _ 2 _ _ rfl (by kernel_rfl) (by kernel_rfl) rfl (.run rfl (Ae (v:=.bool _) rfl)) ?_;refine E5.pure _ _ 3 _ _ rfl (by kernel_rfl) (by kernel_rfl) rfl (.opt _ (.sl _ _) [] rfl (Un.all trivial) (fun hG=>Ae (v:=.sl _ _) rfl) rfl) ?_;refine E5.pure _ _ 4 _ _ rfl (by kernel_rfl) (by kernel_rfl) rfl (.opt _ (.int .i64 _) [] rfl (Un.all trivial) (fun hG=>Ae (v:=.int .i64 _) rfl) rfl) ?_;refine E5.pure _ _ 5 _ _ rfl (by kernel_rfl) (by kernel_rfl) rfl (.opt _ (.int .i64 _) [(26,_)] rfl (Un.all ⟨Zs.self _ _,trivial⟩) (fun hG=>Gj rfl rfl rfl (by constructor <;> omega)) rfl) ?_;refine E5.pure _ _ 6 _ _ rfl (by kernel_rfl) (by kernel_rfl) rfl (.opt _ (.ptr _) [(25,_),(27,_)] rfl (Un.all ⟨Zs.self _ _,Zs.self _ _,trivial⟩) (fun hG=>Am (c:=Ec ((l[k-1]?).getD Hg)) Ai rfl rfl rfl rfl rfl rfl (by have:=B2 (Ed hG);omega) (iO (by have:=B2 (Ed hG);omega) hlt)) rfl) ?_;refine E5.pure _ _ 7 _ _ rfl (by kernel_rfl) (by kernel_rfl) rfl (.opt _ (.agg _) [(28,_)] rfl (Un.all ⟨Zs.self _ _,trivial⟩) (fun hG=>Ah (l:=[.int .i64 _,.int .i64 _,.int .i64 _,.int .i64 _,_]) Ai rfl rfl rfl rfl rfl) rfl) ?_;refine E5.pure _ _ 8 _ _ rfl (by kernel_rfl) (by kernel_rfl) rfl (.opt _ (.agg _) [] rfl (Un.all trivial) (fun hG=>Ah (l:=[.int .i64 _,.int .i64 _,.int .i64 _,.int .i64 _,_]) Ai rfl rfl rfl rfl rfl) rfl) ?_;refine E5.pure _ _ 9 _ _ rfl (by kernel_rfl) (by kernel_rfl) rfl (.opt _ (.int .i64 _) [(29,_),(30,_)] rfl (Un.all ⟨Zs.self _ _,Zs.self _ _,trivial⟩) (fun hG=>Ak (by kernel_rfl) rfl rfl (W0 _ a)) rfl) ?_;refine E5.pure _ _ 10 _ _ rfl (by kernel_rfl) (by kernel_rfl) rfl (.opt _ (.bool _) [(31,_)] rfl (Un.all ⟨Zs.self _ _,trivial⟩) (fun hG=>I7 rfl rfl) rfl) ?_;refine E5.pure _ _ 11 _ _ rfl (by kernel_rfl) (by kernel_rfl) rfl (.run rfl (Bc rfl rfl rfl)) ?_;refine E5.pure _ _ 12 _ _ rfl (by kernel_rfl) (by kernel_rfl) rfl (.run rfl (Ag (v:=.bool _) rfl)) ?_;refine E5.done _ _ (by kernel_rfl) ?_;refine Aa (AW.cond (b:=_) rfl (fun hc4=>AW.seq (AW.region (AOL.Aag (Ag (v:=.int .i64 _) rfl) rfl (AOL.nil (Aa (AW.ret (Cn (Ap (Cn (Ap (Ap (Cn (Ap ?_))))))))))))) (fun hc4=>AW.seq (AW.region (AOL.Aag (Ae (v:=.val _) rfl) rfl (AOL.Aag (Ah (l:=[.int .i64 _,.int .i64 _,.int .i64 _,.int .i64 _,_]) Ai rfl rfl rfl rfl rfl) rfl ?_)))))
  .
   refine ⟨.inr rfl,[.int .i64 _],.cons (.tmp _ _ rfl) <| .nil,.cons _ (.refl _),?_⟩;exact congrArg (AV.int .i64) (by unfold Fh;rw [Ep hc1,hR.2,Bf ha,Ox (x:=14) (by rw [hst,Ep hc3,if_pos hc4]) (by decide)])
  refine AOL.Aag (Ak (by kernel_rfl) rfl rfl (s_of a)) rfl ?_;refine AOL.Aam (rZ (i:=0) (eq:=X6 a) Ai rfl rfl rfl rfl rfl (by kernel_rfl) rfl rfl (rfl) (bR a (l.take k)) (eP a (l.take k))) rfl rfl ?_;refine AOL.Aag (Ag (v:=.bool _) rfl) rfl (AOL.nil (Aa (AW.cond (b:=_) rfl (fun hc5=>AW.seq (AW.region (AOL.Aag (Ag (v:=.int .i64 _) rfl) rfl (AOL.nil (Aa (AW.ret (Cn (Ap (Cn (Ap (Ap (Cn (Ap ?_))))))))))))) (fun hc5=>?_))))
  .
   refine ⟨.inr rfl,[.int .i64 _],.cons (.tmp _ _ rfl) <| .nil,.cons _ (.refl _),?_⟩;exact congrArg (AV.int .i64) (by unfold Fh;rw [Ep hc1,hR.2,Bf ha,Ox (x:=7) (by rw [hst,Ep hc3,Ep hc4,if_pos hc5]) (by decide)])
  have hs0:Rx (l.take k) a=0:=by rw [hst,Ep hc3,Ep hc4,Ep hc5]
  refine AW.skip (C9 (Aa (AW.region (AOL.Aag (Ae (v:=.val _) rfl) rfl (AOL.Aag (Ah (l:=[.int .i64 _,.int .i64 _,.int .i64 _,.int .i64 _,_]) Ai rfl rfl rfl rfl rfl) rfl ?_)))));refine AOL.Aag (Ak (by kernel_rfl) rfl rfl (s_of a)) rfl ?_;refine AOL.e (jF (i:=0) (eq:=X6 a) (H2:=_::_) Ai rfl rfl rfl rfl rfl rfl rfl (rfl) (bR a (l.take k)) rfl (kM hc5) rfl) rfl ?_;rintro _ _ ⟨rfl,rfl⟩;refine AOL.nil (C9 (Aa (AW.region ?_)));refine AOL.Aag (Cc rfl rfl rfl (by constructor <;> omega)) rfl ?_;refine AOL.Aag (Ae (v:=.int .i64 _) rfl) rfl (AOL.nil (Aa ?_));refine ⟨k+1,?_,?_,GS.trans (GS.heapTo (H2:=_::_) (congrArg (fun x=>HO.kmap b9 x::H) ((eQ a (l.take k)).trans (congrArg Pi (Cr ha).symm)))) (GS.weaken ⟨rfl,rfl,rfl,rfl,rfl,trivial⟩ (.refl _))⟩
  . exact ⟨hlt,by rw [hR.2,Bf ha,iC hs0,Cr ha]⟩
  omega
 have hd:=Gb hc2;refine AW.exit ?_;refine A1 (A1 (Cd (Aa ?_)));refine AW.seq (AW.region (AOL.Aag (Ag (v:=.int .i64 _) rfl) rfl (AOL.nil (Aa (AW.ret ?_)))));refine ⟨.inr rfl,[.int .i64 _],.cons (.tmp _ _ rfl) <| .nil,.cons _ (.refl _),?_⟩;exact congrArg (AV.int .i64) (by unfold Fh;rw [Ep hc1,hR.2,hd];rfl)
theorem fG (n m:Int):Al Tryz.prog 103 [.int .i64 n,.int .i64 m] (.int .i64 (Eh n m)):=by
 refine Al.body (n:=11) Ai Tryz.func103 rfl rfl rfl fun H=>?_
 refine AW.seq (AW.region (AOL.Aag (Ag (v:=.int .i64 _) rfl) rfl (AOL.nil (Aa (AW.seq (AW.seq (AW.region (AOL.Aag (Ae (v:=.int .i64 _) rfl) rfl (AOL.Aag (Ae (v:=.int .i64 _) rfl) rfl (AOL.Aag (B9 rfl rfl) rfl (AOL.nil (Aa (AW.cond (b:=_) rfl (fun hc1=>AW.seq (AW.region (AOL.Aag (Ag (v:=.int .i64 _) rfl) rfl (AOL.nil (Aa (AW.ret (Ap ?_))))))) (fun hc1=>AW.skip (Aa (AW.seq (AW.seq (AW.region (AOL.Aag (Ae (v:=.int .i64 _) rfl) rfl (AOL.Aag (Ae (v:=.int .i64 _) rfl) rfl (AOL.Aag (Gy rfl rfl) rfl (AOL.nil (Aa (AW.cond (b:=_) rfl (fun hc2=>AW.seq (AW.region (AOL.Aag (Ag (v:=.int .i64 _) rfl) rfl (AOL.nil (Aa (AW.ret (Ap ?_))))))) (fun hc2=>AW.skip (Aa (AW.seq (AW.region (AOL.Aag (Ag (v:=.int .i64 _) rfl) rfl (AOL.nil (Aa (AW.ret ?_))))))))))))))))))))))))))))))))
 .
  refine ⟨.inr rfl,[.int .i64 _],.cons (.tmp _ _ rfl) <| .nil,.refl _,?_⟩;simp only [Aj,Eh,hc1,↓reduceIte,A2]
 .
  refine ⟨.inr rfl,[.int .i64 _],.cons (.tmp _ _ rfl) <| .nil,.refl _,?_⟩;simp only [Aj,Eh,hc1,hc2,↓reduceIte,A2]
 refine ⟨.inr rfl,[.int .i64 _],.cons (.tmp _ _ rfl) <| .nil,.refl _,?_⟩;simp only [Aj,Eh,hc1,hc2,↓reduceIte,A2]
theorem r4_cmp (x y:Rz):Al Tryz.prog 61 [.agg (vX x),.agg (vX y)] (.int .i64 (Ic x y)):=by
 refine Al.body (n:=30) Ai Tryz.func61 rfl rfl rfl fun H=>?_
 refine AW.seq (AW.region (AOL.Aag (Bt (v:=.agg _) (cs:=[.int .i64 _,.int .i64 _,.int .i64 _]) rfl rfl rfl) rfl (AOL.Aag (Bt (v:=.agg _) (cs:=[.int .i64 _,.int .i64 _,.int .i64 _]) rfl rfl rfl) rfl (AOL.Aag (Ag (v:=.int .i64 _) rfl) rfl (AOL.nil (Aa ?_))))));refine AW.seq (AW.seq (AW.region (AOL.Aag (Ad (cs':=[.int .i64 _,.int .i64 _,.int .i64 _]) Ai rfl rfl rfl rfl rfl rfl) rfl (AOL.Aag (Af (c:=.int .i64 _) Ai rfl rfl rfl) rfl (AOL.Aag (Ad (cs':=[.int .i64 _,.int .i64 _,.int .i64 _]) Ai rfl rfl rfl rfl rfl rfl) rfl (AOL.Aag (Af (c:=.int .i64 _) Ai rfl rfl rfl) rfl (AOL.Aag (Fk rfl rfl) rfl (AOL.nil (Aa (AW.cond (b:=_) rfl (fun hc1=>AW.seq (AW.region (AOL.Aag (Ad (cs':=[.int .i64 _,.int .i64 _,.int .i64 _]) Ai rfl rfl rfl rfl rfl rfl) rfl (AOL.Aag (Af (c:=.int .i64 _) Ai rfl rfl rfl) rfl (AOL.Aag (Ad (cs':=[.int .i64 _,.int .i64 _,.int .i64 _]) Ai rfl rfl rfl rfl rfl rfl) rfl (AOL.Aag (Af (c:=.int .i64 _) Ai rfl rfl rfl) rfl ?_)))))) (fun hc1=>AW.skip (Aa (AW.seq (AW.seq (AW.region (AOL.Aag (Ad (cs':=[.int .i64 _,.int .i64 _]) Ai rfl rfl rfl rfl rfl rfl) rfl (AOL.Aag (Af (c:=.int .i64 _) Ai rfl rfl rfl) rfl (AOL.Aag (Ad (cs':=[.int .i64 _,.int .i64 _]) Ai rfl rfl rfl rfl rfl rfl) rfl (AOL.Aag (Af (c:=.int .i64 _) Ai rfl rfl rfl) rfl (AOL.Aag (Fk rfl rfl) rfl (AOL.nil (Aa (AW.cond (b:=_) rfl (fun hc2=>AW.seq (AW.region (AOL.Aag (Ad (cs':=[.int .i64 _,.int .i64 _]) Ai rfl rfl rfl rfl rfl rfl) rfl (AOL.Aag (Af (c:=.int .i64 _) Ai rfl rfl rfl) rfl (AOL.Aag (Ad (cs':=[.int .i64 _,.int .i64 _]) Ai rfl rfl rfl rfl rfl rfl) rfl (AOL.Aag (Af (c:=.int .i64 _) Ai rfl rfl rfl) rfl ?_)))))) (fun hc2=>AW.skip (Aa (AW.seq (AW.region (AOL.Aag (Ad (cs':=[.int .i64 _]) Ai rfl rfl rfl rfl rfl rfl) rfl (AOL.Aag (Af (c:=.int .i64 _) Ai rfl rfl rfl) rfl (AOL.Aag (Ad (cs':=[.int .i64 _]) Ai rfl rfl rfl rfl rfl rfl) rfl (AOL.Aag (Af (c:=.int .i64 _) Ai rfl rfl rfl) rfl ?_)))))))))))))))))))))))))))))))
 .
  refine AOL.Aag (Ak (by kernel_rfl) rfl rfl (fG _ _)) rfl ?_;refine AOL.Aag (Ag (v:=.int .i64 _) rfl) rfl (AOL.nil (Aa (AW.ret (Ap ?_))));refine ⟨.inr rfl,[.int .i64 _],.cons (.tmp _ _ rfl) <| .nil,.refl _,?_⟩;simp only [Aj,Ic,Eh,hc1,↓reduceIte,A2]
 .
  refine AOL.Aag (Ak (by kernel_rfl) rfl rfl (fG _ _)) rfl ?_;refine AOL.Aag (Ag (v:=.int .i64 _) rfl) rfl (AOL.nil (Aa (AW.ret (Ap ?_))));refine ⟨.inr rfl,[.int .i64 _],.cons (.tmp _ _ rfl) <| .nil,.refl _,?_⟩;simp only [Aj,Ic,Eh,hc1,hc2,↓reduceIte,A2]
 refine AOL.Aag (Ak (by kernel_rfl) rfl rfl (fG _ _)) rfl ?_;refine AOL.Aag (Ag (v:=.int .i64 _) rfl) rfl (AOL.nil (Aa (AW.ret ?_)));refine ⟨.inr rfl,[.int .i64 _],.cons (.tmp _ _ rfl) <| .nil,.refl _,?_⟩;simp only [Aj,Ic,Eh,hc1,hc2,↓reduceIte,A2]
theorem pM (x y:Rz):Al Tryz.prog 37 [.agg (vX x),.agg (vX y)] (.int .i64 (Ic x y)):=by
 refine Al.body (n:=35) Ai Tryz.func37 rfl rfl rfl fun H=>?_
 refine AW.seq (AW.region (AOL.Aag (Bt (v:=.agg _) (cs:=[.int .i64 _,.int .i64 _,.int .i64 _]) rfl rfl rfl) rfl (AOL.Aag (Bt (v:=.agg _) (cs:=[.int .i64 _,.int .i64 _,.int .i64 _]) rfl rfl rfl) rfl (AOL.Aag (Ag (v:=.int .i64 _) rfl) rfl (AOL.nil (Aa (AW.seq (AW.seq (AW.region (AOL.Aag (Ad (cs':=[.int .i64 _,.int .i64 _,.int .i64 _]) Ai rfl rfl rfl rfl rfl rfl) rfl (AOL.Aag (Af (c:=.int .i64 _) Ai rfl rfl rfl) rfl (AOL.Aag (Ad (cs':=[.int .i64 _,.int .i64 _,.int .i64 _]) Ai rfl rfl rfl rfl rfl rfl) rfl (AOL.Aag (Af (c:=.int .i64 _) Ai rfl rfl rfl) rfl (AOL.Aag (Fk rfl rfl) rfl (AOL.nil (Aa (AW.cond (b:=_) rfl (fun hc1=>AW.seq (AW.seq (AW.region (AOL.Aag (Ad (cs':=[.int .i64 _,.int .i64 _,.int .i64 _]) Ai rfl rfl rfl rfl rfl rfl) rfl (AOL.Aag (Af (c:=.int .i64 _) Ai rfl rfl rfl) rfl (AOL.Aag (Ad (cs':=[.int .i64 _,.int .i64 _,.int .i64 _]) Ai rfl rfl rfl rfl rfl rfl) rfl (AOL.Aag (Af (c:=.int .i64 _) Ai rfl rfl rfl) rfl (AOL.Aag (B9 rfl rfl) rfl (AOL.nil (Aa (AW.cond (b:=_) rfl (fun hc2=>AW.seq (AW.region (AOL.Aag (Ag (v:=.int .i64 _) rfl) rfl (AOL.nil (Aa (AW.ret (Ap (Ap ?_)))))))) (fun hc2=>AW.skip (Aa (AW.seq (AW.region (AOL.Aag (Ag (v:=.int .i64 _) rfl) rfl (AOL.nil (Aa (AW.ret (Ap ?_)))))))))))))))))))) (fun hc1=>?_))))))))))))))))))
 .
  refine ⟨.inr rfl,[.int .i64 _],.cons (.tmp _ _ rfl) <| .nil,.refl _,?_⟩;simp only [Aj,Ic,Eh,hc1,hc2,↓reduceIte,A2]
 .
  refine ⟨.inr rfl,[.int .i64 _],.cons (.tmp _ _ rfl) <| .nil,.refl _,?_⟩;have h8:y.t<x.t:=by simp at hc1 hc2;omega
  simp only [Aj,Ic,Eh,hc1,hc2,G7 h8,↓reduceIte,A2]
 refine AW.skip (Aa (AW.seq (AW.seq (AW.region (AOL.Aag (Ad (cs':=[.int .i64 _,.int .i64 _]) Ai rfl rfl rfl rfl rfl rfl) rfl (AOL.Aag (Af (c:=.int .i64 _) Ai rfl rfl rfl) rfl (AOL.Aag (Ad (cs':=[.int .i64 _,.int .i64 _]) Ai rfl rfl rfl rfl rfl rfl) rfl (AOL.Aag (Af (c:=.int .i64 _) Ai rfl rfl rfl) rfl (AOL.Aag (Fk rfl rfl) rfl (AOL.nil (Aa (AW.cond (b:=_) rfl (fun hc3=>AW.seq (AW.seq (AW.region (AOL.Aag (Ad (cs':=[.int .i64 _,.int .i64 _]) Ai rfl rfl rfl rfl rfl rfl) rfl (AOL.Aag (Af (c:=.int .i64 _) Ai rfl rfl rfl) rfl (AOL.Aag (Ad (cs':=[.int .i64 _,.int .i64 _]) Ai rfl rfl rfl rfl rfl rfl) rfl (AOL.Aag (Af (c:=.int .i64 _) Ai rfl rfl rfl) rfl (AOL.Aag (B9 rfl rfl) rfl (AOL.nil (Aa (AW.cond (b:=_) rfl (fun hc4=>AW.seq (AW.region (AOL.Aag (Ag (v:=.int .i64 _) rfl) rfl (AOL.nil (Aa (AW.ret (Ap (Ap ?_)))))))) (fun hc4=>AW.skip (Aa (AW.seq (AW.region (AOL.Aag (Ag (v:=.int .i64 _) rfl) rfl (AOL.nil (Aa (AW.ret (Ap ?_)))))))))))))))))))) (fun hc3=>?_)))))))))))))
 .
  refine ⟨.inr rfl,[.int .i64 _],.cons (.tmp _ _ rfl) <| .nil,.refl _,?_⟩;simp only [Aj,Ic,Eh,hc1,hc3,hc4,↓reduceIte,A2]
 .
  refine ⟨.inr rfl,[.int .i64 _],.cons (.tmp _ _ rfl) <| .nil,.refl _,?_⟩;have h8:y.s<x.s:=by simp at hc3 hc4;omega
  simp only [Aj,Ic,Eh,hc1,hc3,hc4,G7 h8,↓reduceIte,A2]
 refine AW.skip (Aa (AW.seq (AW.seq (AW.region (AOL.Aag (Ad (cs':=[.int .i64 _]) Ai rfl rfl rfl rfl rfl rfl) rfl (AOL.Aag (Af (c:=.int .i64 _) Ai rfl rfl rfl) rfl (AOL.Aag (Ad (cs':=[.int .i64 _]) Ai rfl rfl rfl rfl rfl rfl) rfl (AOL.Aag (Af (c:=.int .i64 _) Ai rfl rfl rfl) rfl (AOL.Aag (B9 rfl rfl) rfl (AOL.nil (Aa (AW.cond (b:=_) rfl (fun hc5=>AW.seq (AW.region (AOL.Aag (Ag (v:=.int .i64 _) rfl) rfl (AOL.nil (Aa (AW.ret (Ap ?_))))))) (fun hc5=>AW.skip (Aa (AW.seq (AW.seq (AW.region (AOL.Aag (Ad (cs':=[.int .i64 _]) Ai rfl rfl rfl rfl rfl rfl) rfl (AOL.Aag (Af (c:=.int .i64 _) Ai rfl rfl rfl) rfl (AOL.Aag (Ad (cs':=[.int .i64 _]) Ai rfl rfl rfl rfl rfl rfl) rfl (AOL.Aag (Af (c:=.int .i64 _) Ai rfl rfl rfl) rfl (AOL.Aag (Gy rfl rfl) rfl (AOL.nil (Aa (AW.cond (b:=_) rfl (fun hc6=>AW.seq (AW.region (AOL.Aag (Ag (v:=.int .i64 _) rfl) rfl (AOL.nil (Aa (AW.ret (Ap ?_))))))) (fun hc6=>AW.skip (Aa (AW.seq (AW.region (AOL.Aag (Ag (v:=.int .i64 _) rfl) rfl (AOL.nil (Aa (AW.ret ?_)))))))))))))))))))))))))))))))))
 .
  refine ⟨.inr rfl,[.int .i64 _],.cons (.tmp _ _ rfl) <| .nil,.refl _,?_⟩;simp only [Aj,Ic,Eh,hc1,hc3,hc5,↓reduceIte,A2]
 .
  refine ⟨.inr rfl,[.int .i64 _],.cons (.tmp _ _ rfl) <| .nil,.refl _,?_⟩;simp only [Aj,Ic,Eh,hc1,hc3,hc5,hc6,↓reduceIte,A2]
 refine ⟨.inr rfl,[.int .i64 _],.cons (.tmp _ _ rfl) <| .nil,.refl _,?_⟩;simp only [Aj,Ic,Eh,hc1,hc3,hc5,hc6,↓reduceIte,A2]
theorem kT (e:Ev):Al Tryz.prog 36 [.agg (Ec e)] (.bool (Uf e)):=by
 refine Al.body (n:=31) Ai Tryz.func36 rfl rfl rfl fun H=>?_
 refine AW.seq (AW.region (AOL.Aag (Bt (v:=.agg _) (cs:=[.int .i64 _,.int .i64 _,.int .i64 _,.int .i64 _,_]) rfl rfl rfl) rfl (AOL.Aag (Ag (v:=.bool _) rfl) rfl (AOL.nil (Aa (AW.seq (AW.region (AOL.Aag (Ad (cs':=[.int .i64 _,_]) Ai rfl rfl rfl rfl rfl rfl) rfl (AOL.Aag (Af (c:=.int .i64 _) Ai rfl rfl rfl) rfl (AOL.Aag (I7 rfl rfl) rfl (AOL.Aag (Ae (v:=.bool _) rfl) rfl (AOL.Aah (y:=.ptr _) _ [] rfl (Un.all trivial) (fun hG=>Ad (cs':=[.int .i64 _,_]) Ai rfl rfl rfl rfl rfl rfl) rfl ?_))))))))))));refine AOL.Aah (y:=.int .i64 _) _ [(7,_)] rfl (Un.all ⟨Zs.self _ _,trivial⟩) (fun hG=>Af (c:=.int .i64 _) Ai rfl rfl rfl) rfl ?_;refine AOL.Aah (y:=.bool _) _ [(8,_)] rfl (Un.all ⟨Zs.self _ _,trivial⟩) (fun hG=>I8 rfl rfl) rfl ?_;refine AOL.Aag (Bc rfl rfl rfl) rfl (AOL.Aag (Ae (v:=.bool _) rfl) rfl (AOL.Aah (y:=.ptr _) _ [] rfl (Un.all trivial) (fun hG=>Ad (cs':=[.int .i64 _,.int .i64 _,.int .i64 _,.int .i64 _,_]) Ai rfl rfl rfl rfl rfl rfl) rfl ?_));refine AOL.Aah (y:=.int .i64 _) _ [(12,_)] rfl (Un.all ⟨Zs.self _ _,trivial⟩) (fun hG=>Af (c:=.int .i64 _) Ai rfl rfl rfl) rfl ?_;refine AOL.Aah (y:=.bool _) _ [(13,_)] rfl (Un.all ⟨Zs.self _ _,trivial⟩) (fun hG=>I7 rfl rfl) rfl ?_;refine AOL.Aag (Bc rfl rfl rfl) rfl (AOL.Aag (Ae (v:=.bool _) rfl) rfl (AOL.Aah (y:=.ptr _) _ [] rfl (Un.all trivial) (fun hG=>Ad (cs':=[.int .i64 _,.int .i64 _,.int .i64 _,.int .i64 _,_]) Ai rfl rfl rfl rfl rfl rfl) rfl ?_));refine AOL.Aah (y:=.int .i64 _) _ [(17,_)] rfl (Un.all ⟨Zs.self _ _,trivial⟩) (fun hG=>Af (c:=.int .i64 _) Ai rfl rfl rfl) rfl ?_;refine AOL.Aah (y:=.bool _) _ [(18,_)] rfl (Un.all ⟨Zs.self _ _,trivial⟩) (fun hG=>B9 rfl rfl) rfl ?_;refine AOL.Aag (Bc rfl rfl rfl) rfl (AOL.Aag (Ae (v:=.bool _) rfl) rfl (AOL.Aah (y:=.ptr _) _ [] rfl (Un.all trivial) (fun hG=>Ad (cs':=[.int .i64 _,.int .i64 _,.int .i64 _,_]) Ai rfl rfl rfl rfl rfl rfl) rfl ?_));refine AOL.Aah (y:=.int .i64 _) _ [(22,_)] rfl (Un.all ⟨Zs.self _ _,trivial⟩) (fun hG=>Af (c:=.int .i64 _) Ai rfl rfl rfl) rfl ?_;refine AOL.Aah (y:=.bool _) _ [(23,_)] rfl (Un.all ⟨Zs.self _ _,trivial⟩) (fun hG=>I7 rfl rfl) rfl ?_;refine AOL.Aag (Bc rfl rfl rfl) rfl (AOL.Aag (Ae (v:=.bool _) rfl) rfl (AOL.Aah (y:=.ptr _) _ [] rfl (Un.all trivial) (fun hG=>Ad (cs':=[.int .i64 _,.int .i64 _,.int .i64 _,_]) Ai rfl rfl rfl rfl rfl rfl) rfl ?_));refine AOL.Aah (y:=.int .i64 _) _ [(27,_)] rfl (Un.all ⟨Zs.self _ _,trivial⟩) (fun hG=>Af (c:=.int .i64 _) Ai rfl rfl rfl) rfl ?_;refine AOL.Aah (y:=.bool _) _ [(28,_)] rfl (Un.all ⟨Zs.self _ _,trivial⟩) (fun hG=>I8 rfl rfl) rfl ?_;refine AOL.Aag (Bc rfl rfl rfl) rfl (AOL.Aag (Ag (v:=.bool _) rfl) rfl (AOL.nil (Aa (AW.ret ?_))));refine ⟨.inr rfl,[.bool _],.cons (.tmp _ _ rfl) <| .nil,.refl _,?_⟩;rfl
theorem uS (x y:Ev):Al Tryz.prog 39 [.agg (Ec x),.agg (Ec y)] (.bool (Hm x y)):=by
 refine Al.body (n:=17) Ai Tryz.func39 rfl rfl rfl fun H=>?_
 refine AW.seq (AW.region (AOL.Aag (Bt (v:=.agg _) (cs:=[.int .i64 _,.int .i64 _,.int .i64 _,.int .i64 _,_]) rfl rfl rfl) rfl (AOL.Aag (Bt (v:=.agg _) (cs:=[.int .i64 _,.int .i64 _,.int .i64 _,.int .i64 _,_]) rfl rfl rfl) rfl (AOL.Aag (Ag (v:=.bool _) rfl) rfl (AOL.nil (Aa (AW.seq (AW.region (AOL.Aag (Ad (cs':=[.int .i64 _,.int .i64 _,.int .i64 _,.int .i64 _,_]) Ai rfl rfl rfl rfl rfl rfl) rfl (AOL.Aag (Af (c:=.int .i64 _) Ai rfl rfl rfl) rfl (AOL.Aag (Ad (cs':=[.int .i64 _,.int .i64 _,.int .i64 _,.int .i64 _,_]) Ai rfl rfl rfl rfl rfl rfl) rfl (AOL.Aag (Af (c:=.int .i64 _) Ai rfl rfl rfl) rfl (AOL.Aag (Ez rfl rfl) rfl (AOL.Aag (Ae (v:=.bool _) rfl) rfl (AOL.Aah (y:=.ptr _) _ [] rfl (Un.all trivial) (fun hG=>Ad (cs':=[.int .i64 _,.int .i64 _,.int .i64 _,_]) Ai rfl rfl rfl rfl rfl rfl) rfl ?_)))))))))))))));refine AOL.Aah (y:=.int .i64 _) _ [(11,_)] rfl (Un.all ⟨Zs.self _ _,trivial⟩) (fun hG=>Af (c:=.int .i64 _) Ai rfl rfl rfl) rfl ?_;refine AOL.Aah (y:=.ptr _) _ [] rfl (Un.all trivial) (fun hG=>Ad (cs':=[.int .i64 _,.int .i64 _,.int .i64 _,_]) Ai rfl rfl rfl rfl rfl rfl) rfl ?_;refine AOL.Aah (y:=.int .i64 _) _ [(13,_)] rfl (Un.all ⟨Zs.self _ _,trivial⟩) (fun hG=>Af (c:=.int .i64 _) Ai rfl rfl rfl) rfl ?_;refine AOL.Aah (y:=.bool _) _ [(12,_),(14,_)] rfl (Un.all ⟨Zs.self _ _,Zs.self _ _,trivial⟩) (fun hG=>Ez rfl rfl) rfl ?_;refine AOL.Aag (Bc rfl rfl rfl) rfl (AOL.Aag (Ag (v:=.bool _) rfl) rfl (AOL.nil (Aa (AW.ret ?_))));refine ⟨.inr rfl,[.bool _],.cons (.tmp _ _ rfl) <| .nil,.refl _,?_⟩;rfl
theorem pL (l:List Ev):Al Tryz.prog 14 [.sl 5 (l.map Ec)] (.int .i64 (Fh l)):=by
 refine Al.body (n:=51) Ai Tryz.func14 rfl rfl rfl fun H=>?_
 refine AW.seq (AW.region (AOL.Aag (Ag (v:=.int .i64 _) rfl) rfl (AOL.nil (Aa (AW.seq (AW.seq (AW.region (AOL.Aag (Ae (v:=.sl _ _) rfl) rfl ?_))))))));refine AOL.Aag (Av (n:=l.length) Ai rfl rfl rfl (by simp)) rfl ?_;refine AOL.Aag (Gy rfl rfl) rfl (AOL.nil (Aa (AW.cond (b:=_) rfl (fun hc1=>AW.seq (AW.region (AOL.Aag (Ag (v:=.int .i64 _) rfl) rfl (AOL.nil (Aa (AW.ret (Ap ?_))))))) (fun hc1=>AW.skip (Aa (AW.seq (AW.seq (AW.region (AOL.Aag (Ag (v:=.int .i64 _) rfl) rfl (AOL.nil (Aa (AW.block (AW.sllen 0 rfl fun hlen=>?_)))))))))))))
 .
  refine ⟨.inr rfl,[.int .i64 _],.cons (.tmp _ _ rfl) <| .nil,.refl _,?_⟩;exact congrArg (AV.int .i64) (by unfold Fh;rw [if_pos hc1])
 simp only [B1,maxLen] at hlen;refine AW.loopS (fun (k:Nat)=>(⟨[(0,.sl 5 (l.map Ec)),(3,.int .i64 (k:Int))],H,51⟩:St)) (fun k=>k<=l.length/\Ho [] l=Ho (l.take k) (l.drop k)) (fun k=>l.length-k) (0) ?_ (GS.weaken ⟨rfl,rfl,trivial⟩ (.refl _)) ?_
 . exact ⟨Bn _,by simp⟩
 rintro k hR;refine AW.seq (AW.seq (AW.region (AOL.Aag (Ae (v:=.int .i64 _) rfl) rfl (AOL.Aag (Ae (v:=.sl _ _) rfl) rfl ?_))));refine AOL.Aag (Av (n:=l.length) Ai rfl rfl rfl (by simp)) rfl ?_;refine AOL.Aag (B9 rfl rfl) rfl (AOL.nil (Aa (AW.cond (b:=_) rfl (fun hc2=>?_) (fun hc2=>?_))))
 .
  obtain ⟨a,ha⟩:=Dd hc2;have hlt:=Bj ha;have hm:=A0 ha;have hst:=iX (l:=l) (k:=k) a (by omega);rw [gS] at hst;refine AW.skip (Aa (AW.seq (AW.block (AW.seq (AW.seq (AW.region (AOL.Aag (Ae (v:=.sl _ _) rfl) rfl (AOL.Aag (Ae (v:=.int .i64 _) rfl) rfl ?_))))))));refine AOL.Aag (Am (c:=[.int .i64 _,.int .i64 _,.int .i64 _,.int .i64 _,_]) Ai rfl rfl rfl rfl rfl rfl (by omega) (Co ha)) rfl ?_;refine AOL.Aag (Ah (l:=[.int .i64 _,.int .i64 _,.int .i64 _,.int .i64 _,_]) Ai rfl rfl rfl rfl rfl) rfl ?_;refine AOL.Aag (Ak (by kernel_rfl) rfl rfl (kT a)) rfl ?_;refine AOL.Aag (F6 rfl) rfl (AOL.nil (Aa (AW.cond (b:=_) rfl (fun hc3=>AW.seq (AW.region (AOL.Aag (Ag (v:=.int .i64 _) rfl) rfl (AOL.nil (Aa (AW.ret (Ap (Cn (Ap (Ap (Cn (Ap ?_)))))))))))) (fun hc3=>AW.skip (Aa (AW.seq (AW.seq ?_)))))))
  .
   refine ⟨.inr rfl,[.int .i64 _],.cons (.tmp _ _ rfl) <| .nil,.refl _,?_⟩;exact congrArg (AV.int .i64) (by unfold Fh;rw [Ep hc1,hR.2,Bf ha,Ox (x:=2) (by rw [hst,if_pos hc3]) (by decide)])
  refine AW.draw mixed (fun _=>True) trivial (by kernel_rfl) ?_;refine E5.pure _ _ 0 _ _ rfl (by kernel_rfl) (by kernel_rfl) rfl (.run rfl (Ae (v:=.int .i64 _) rfl)) ?_;refine E5.pure _ _ 1 _ _ rfl (by kernel_rfl) (by kernel_rfl) rfl (.run rfl (Gy rfl rfl)) ?_;refine E5.pure _ _ 2 _ _ rfl (by kernel_rfl) (by kernel_rfl) rfl (.run rfl (Ae (v:=.bool _) rfl)) ?_;refine E5.pure _ _ 3 _ _ rfl (by kernel_rfl) (by kernel_rfl) rfl (.opt _ (.sl _ _) [] rfl (Un.all trivial) (fun hG=>Ae (v:=.sl _ _) rfl) rfl) ?_;refine E5.pure _ _ 4 _ _ rfl (by kernel_rfl) (by kernel_rfl) rfl (.opt _ (.int .i64 _) [] rfl (Un.all trivial) (fun hG=>Ae (v:=.int .i64 _) rfl) rfl) ?_;refine E5.pure _ _ 5 _ _ rfl (by kernel_rfl) (by kernel_rfl) rfl (.opt _ (.int .i64 _) [(24,_)] rfl (Un.all ⟨Zs.self _ _,trivial⟩) (fun hG=>Gj rfl rfl rfl (by constructor <;> omega)) rfl) ?_;refine E5.pure _ _ 6 _ _ rfl (by kernel_rfl) (by kernel_rfl) rfl (.opt _ (.ptr _) [(23,_),(25,_)] rfl (Un.all ⟨Zs.self _ _,Zs.self _ _,trivial⟩) (fun hG=>Am (c:=Ec ((l[k-1]?).getD Hg)) Ai rfl rfl rfl rfl rfl rfl (by have:=B2 (Ed hG);omega) (iO (by have:=B2 (Ed hG);omega) hlt)) rfl) ?_;refine E5.pure _ _ 7 _ _ rfl (by kernel_rfl) (by kernel_rfl) rfl (.opt _ (.agg _) [(26,_)] rfl (Un.all ⟨Zs.self _ _,trivial⟩) (fun hG=>Ah (l:=[.int .i64 _,.int .i64 _,.int .i64 _,.int .i64 _,_]) Ai rfl rfl rfl rfl rfl) rfl) ?_;refine E5.pure _ _ 8 _ _ rfl (by kernel_rfl) (by kernel_rfl) rfl (.opt _ (.agg _) [(27,_)] rfl (Un.all ⟨Zs.self _ _,trivial⟩) (fun hG=>Ak (by kernel_rfl) rfl rfl (pN _)) rfl) ?_;refine E5.pure _ _ 9 _ _ rfl (by kernel_rfl) (by kernel_rfl) rfl (.opt _ (.sl _ _) [] rfl (Un.all trivial) (fun hG=>Ae (v:=.sl _ _) rfl) rfl) ?_;refine E5.pure _ _ 10 _ _ rfl (by kernel_rfl) (by kernel_rfl) rfl (.opt _ (.int .i64 _) [] rfl (Un.all trivial) (fun hG=>Ae (v:=.int .i64 _) rfl) rfl) ?_;refine E5.pure _ _ 11 _ _ rfl (by kernel_rfl) (by kernel_rfl) rfl (.opt _ (.ptr _) [(29,_),(30,_)] rfl (Un.all ⟨Zs.self _ _,Zs.self _ _,trivial⟩) (fun hG=>Am (c:=[.int .i64 _,.int .i64 _,.int .i64 _,.int .i64 _,_]) Ai rfl rfl rfl rfl rfl rfl (by omega) (Co ha)) rfl) ?_;refine E5.pure _ _ 12 _ _ rfl (by kernel_rfl) (by kernel_rfl) rfl (.opt _ (.agg _) [(31,_)] rfl (Un.all ⟨Zs.self _ _,trivial⟩) (fun hG=>Ah (l:=[.int .i64 _,.int .i64 _,.int .i64 _,.int .i64 _,_]) Ai rfl rfl rfl rfl rfl) rfl) ?_;refine E5.pure _ _ 13 _ _ rfl (by kernel_rfl) (by kernel_rfl) rfl (.opt _ (.agg _) [(32,_)] rfl (Un.all ⟨Zs.self _ _,trivial⟩) (fun hG=>Ak (by kernel_rfl) rfl rfl (pN _)) rfl) ?_;refine E5.pure _ _ 14 _ _ rfl (by kernel_rfl) (by kernel_rfl) rfl (.opt _ (.int .i64 _) [(28,_),(33,_)] rfl (Un.all ⟨Zs.self _ _,Zs.self _ _,trivial⟩) (fun hG=>Ak (by kernel_rfl) rfl rfl (pM _ _)) rfl) ?_;refine E5.pure _ _ 15 _ _ rfl (by kernel_rfl) (by kernel_rfl) rfl (.opt _ (.bool _) [(34,_)] rfl (Un.all ⟨Zs.self _ _,trivial⟩) (fun hG=>I7 rfl rfl) rfl) ?_
  refine E5.pure _ _ 16 _ _ rfl (by kernel_rfl) (by kernel_rfl) rfl (.run rfl (Bc rfl rfl rfl)) ?_;refine E5.done _ _ (by kernel_rfl) ?_;refine Aa (AW.cond (b:=_) rfl (fun hc4=>AW.seq (AW.region (AOL.Aag (Ag (v:=.int .i64 _) rfl) rfl (AOL.nil (Aa (AW.ret (Ap (Cn (Ap (Ap (Cn (Ap ?_)))))))))))) (fun hc4=>AW.skip (Aa (AW.seq (AW.region (AOL.Aag (Ag (v:=.int .i64 _) rfl) rfl (AOL.nil (Aa (AW.block ?_)))))))))
  .
   refine ⟨.inr rfl,[.int .i64 _],.cons (.tmp _ _ rfl) <| .nil,.refl _,?_⟩;exact congrArg (AV.int .i64) (by unfold Fh;rw [Ep hc1,hR.2,Bf ha,Ox (x:=14) (by rw [hst,Ep hc3,if_pos hc4]) (by decide)])
  refine AW.loopS (fun (j:Nat)=>(⟨[(0,.sl 5 (l.map Ec)),(3,.int .i64 (k:Int)),(4,.int .i64 (j:Int))],H,51⟩:St)) (fun j=>j<=k/\(l.take j).any (fun c=>Hm c a)=false) (fun j=>k-j) (0) ?_ (GS.weaken ⟨rfl,rfl,rfl,trivial⟩ (.refl _)) ?_
  . exact ⟨Bn _,by simp⟩
  rintro j hQ;refine AW.seq (AW.seq (AW.region (AOL.Aag (Ae (v:=.int .i64 _) rfl) rfl (AOL.Aag (Ae (v:=.int .i64 _) rfl) rfl (AOL.Aag (B9 rfl rfl) rfl (AOL.nil (Aa (AW.cond (b:=_) rfl (fun hc5=>?_) (fun hc5=>?_)))))))))
  .
   have hjk:j<k:=by have:=B2 hc5;omega
   refine (Fa (l:=l) (k:=j) (by omega)).elim fun c hx=>?_
   refine AW.skip (Aa (AW.seq (AW.block (AW.seq ?_))));refine AW.draw mixed (fun _=>True) trivial (by kernel_rfl) ?_;refine E5.pure _ _ 0 _ _ rfl (by kernel_rfl) (by kernel_rfl) rfl (.run rfl (Ae (v:=.sl _ _) rfl)) ?_;refine E5.pure _ _ 1 _ _ rfl (by kernel_rfl) (by kernel_rfl) rfl (.run rfl (Ae (v:=.int .i64 _) rfl)) ?_;refine E5.pure _ _ 2 _ _ rfl (by kernel_rfl) (by kernel_rfl) rfl (.run rfl (Am (c:=[.int .i64 _,.int .i64 _,.int .i64 _,.int .i64 _,_]) Ai rfl rfl rfl rfl rfl rfl (by omega) (Co hx))) ?_;refine E5.pure _ _ 3 _ _ rfl (by kernel_rfl) (by kernel_rfl) rfl (.run rfl (Ah (l:=[.int .i64 _,.int .i64 _,.int .i64 _,.int .i64 _,_]) Ai rfl rfl rfl rfl rfl)) ?_;refine E5.pure _ _ 4 _ _ rfl (by kernel_rfl) (by kernel_rfl) rfl (.run rfl (Ae (v:=.sl _ _) rfl)) ?_;refine E5.pure _ _ 5 _ _ rfl (by kernel_rfl) (by kernel_rfl) rfl (.run rfl (Ae (v:=.int .i64 _) rfl)) ?_;refine E5.pure _ _ 6 _ _ rfl (by kernel_rfl) (by kernel_rfl) rfl (.run rfl (Am (c:=[.int .i64 _,.int .i64 _,.int .i64 _,.int .i64 _,_]) Ai rfl rfl rfl rfl rfl rfl (by omega) (Co ha))) ?_;refine E5.pure _ _ 7 _ _ rfl (by kernel_rfl) (by kernel_rfl) rfl (.run rfl (Ah (l:=[.int .i64 _,.int .i64 _,.int .i64 _,.int .i64 _,_]) Ai rfl rfl rfl rfl rfl)) ?_;refine E5.pure _ _ 8 _ _ rfl (by kernel_rfl) (by kernel_rfl) rfl (.run rfl (Ak (by kernel_rfl) rfl rfl (uS c a))) ?_;refine E5.done _ _ (by kernel_rfl) ?_;refine Aa (AW.cond (b:=_) rfl (fun hc6=>?_) (fun hc6=>AW.skip (C9 (Aa (AW.region (AOL.Aag (Ae (v:=.int .i64 _) rfl) rfl ?_))))))
   .
    have hs7:Rx (l.take k) a=7:=by rw [hst,Ep hc3,Ep hc4,<-dJ,if_pos (rD hx hjk hc6)]
    refine AW.seq (AW.region (AOL.Aag (Ag (v:=.int .i64 _) rfl) rfl (AOL.nil (Aa (AW.ret (Cn (Ap (Ap (Cn (Cn (Ap (Ap (Cn (Ap ?_))))))))))))));refine ⟨.inr rfl,[.int .i64 _],.cons (.tmp _ _ rfl) <| .nil,.refl _,?_⟩;exact congrArg (AV.int .i64) (by unfold Fh;rw [Ep hc1,hR.2,Bf ha,Ox (x:=7) hs7 (by decide)])
   refine AOL.Aag (Cc rfl rfl rfl (by constructor <;> omega)) rfl ?_;refine AOL.Aag (Ag (v:=.int .i64 _) rfl) rfl (AOL.nil (Aa ?_));refine ⟨j+1,?_,?_,GS.weaken ⟨rfl,rfl,rfl,trivial⟩ (.refl _)⟩
   . exact ⟨hjk,by rw [Ky _ hx,hQ.2,hc6];rfl⟩
   omega
  have hjk:j=k:=by have:=C7 hc5;omega
  have hs0:Rx (l.take k) a=0:=by
    rw [hst,Ep hc3,Ep hc4,<-dJ];rw [hjk] at hQ;rw [Ep hQ.2]
  refine AW.exit ?_;refine A1 (A1 (Cd (C9 (Aa (AW.region ?_)))));refine AOL.Aag (Ae (v:=.int .i64 _) rfl) rfl ?_;refine AOL.Aag (Cc rfl rfl rfl (by constructor <;> omega)) rfl ?_;refine AOL.Aag (Ag (v:=.int .i64 _) rfl) rfl (AOL.nil (Aa ?_));refine ⟨k+1,?_,?_,GS.weaken ⟨rfl,rfl,trivial⟩ (.refl _)⟩
  . exact ⟨hlt,by rw [hR.2,Bf ha,iC hs0,Cr ha]⟩
  omega
 have hd:=Gb hc2;refine AW.exit ?_;refine A1 (A1 (Cd (Aa ?_)));refine AW.seq (AW.region (AOL.Aag (Ag (v:=.int .i64 _) rfl) rfl (AOL.nil (Aa (AW.ret ?_)))));refine ⟨.inr rfl,[.int .i64 _],.cons (.tmp _ _ rfl) <| .nil,.refl _,?_⟩;exact congrArg (AV.int .i64) (by unfold Fh;rw [Ep hc1,hR.2,hd];rfl)
end Go.Proofs.YtkdhionilabokaaGreatDoor
