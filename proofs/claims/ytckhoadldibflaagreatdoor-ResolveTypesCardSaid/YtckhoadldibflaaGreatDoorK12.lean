/-
  Several texts in one: R2, Q0, R3, Ay. No condition.
-/
import Derived.Test.YtckhoadldibflaaGreatDoorK03
import Derived.Test.YtckhoadldibflaaGreatDoorTab
import Derived.Test.YtckhoadldibflaaGreatDoorAx
import Derived.Test.YtckhoadldibflaaGreatDoorK04
import Derived.Test.YtckhoadldibflaaGreatDoorW13a
import Derived.Test.YtckhoadldibflaaGreatDoorK02
set_option linter.unusedVariables false
set_option linter.unusedSimpArgs false
namespace Go.Aw
open Go
section
variable {P:Program} {T:List (Nat×TD)} {d:Option Nat} {ty:TypeId} {pos:String} {aft:Array Edge} {gd:Option (Nat×Bool)} {ρ:Operand→AV} {K:List HO→Prop}
theorem aE {t:TypeId}{m k v:Operand}{kt et b i:Nat}{td tk:TD}{n:List UInt8}{ks:List (List UInt8)}{x:Int}{H H2:List HO}(hT:F4 P T)(ht:Bm T t=some td)(hk:td.kind = .map kt et)(htk:Bm T kt=some tk)(hkk:tk.kind = .str)
  (hm:ρ m = .val (.map (some b))) (hkey:ρ k = .str n) (hv:ρ v = .int .i64 x) (hH:H[i]? = some (.smap b (Kb ks))) (hx:x=(ks.length:Int)) (hnew:ks.contains n=false) (hH2:H.set i (.smap b (Kb (ks ++ [n])))=H2) :
  Kw P ⟨d,.mapUpdate t m k v,ty,pos,aft,gd⟩ ρ H (fun y H'=>y = .junk∧H'=H2):=by
 subst hx
 exact Ro hT ht hk htk hkk hm hkey hv hH (qD hnew) (by rw [uE];exact hH2)
end
end Go.Aw
namespace Go.Proofs.YtckhoadldibflaaGreatDoor
open Go Go.Aw

def U5 {α:Type}(p:α→Bool):List α→Int
 | []=>-1
 | a::r=>if p a then 0 else if U5 p r<0 then -1 else U5 p r+1
theorem Yz {α:Type}{p:α→Bool}:∀{l:List α} {k:Nat} {a:α},l[k]? = some a→(l.take k).any p=false→p a=true→U5 p l=(k:Int)
  | [],k,a,h,_,_=>by simp at h
  | b::r,0,a,h,_,hp=>by simp at h;subst h;rw [U5,if_pos hp];rfl
  | b::r,k+1,a,h,hn,hp=>by
    rw [List.take_succ_cons,List.any_cons,Bool.or_eq_false_iff] at hn
    have ih:=Yz (l:=r) (k:=k) (by simpa using h) hn.2 hp
    rw [U5,if_neg (by rw [hn.1];decide),ih,if_neg (by omega)];omega
theorem Vu {α:Type}{p:α→Bool}:∀{l:List α},l.any p=false→U5 p l = -1
  | [],_=>rfl
  | b::r,h=>by
    rw [List.any_cons,Bool.or_eq_false_iff] at h
    rw [U5,if_neg (by rw [h.1];decide),Vu h.2];rfl
theorem Tf {α:Type}(f:α→Aq)(n:Aq):∀l:List α,U5 (fun a=>f a==n) l=E6 (l.map f) n
  | []=>rfl
  | a::r=>by
    have ih:=Tf f n r
    unfold E6 at ih ⊢
    rw [U5,List.map_cons,List.contains_cons,List.idxOf_cons,ih]
    by_cases h:f a=n
    · subst h;simp
    · have h1:(f a==n)=false:=by rw [beq_eq_false_iff_ne];exact h
      have h2:(n==f a)=false:=by rw [beq_eq_false_iff_ne];exact fun e=>h e.symm
      rw [h1,h2,if_neg (by decide),Bool.false_or]
      cases hc:(r.map f).contains n with
      | false=>simp
      | true=>simp;omega
theorem Nw {α:Type}{l:List α}{k:Nat}{a:α}{p:α→Bool}(h:(l.take k).any p=false)(ha:l[k]? = some a)(hp:p a=false):(l.take (k+1)).any p=false:=by
 rw [List.take_add_one,ha];simp [h,hp]
theorem Tv {f:Syn→Fa}:∀{l:List Syn} {k:Nat} {a:Syn},l[k]? = some a→(l.take k).any (fun x=>(f x).err != 0)=false→((f a).err != 0)=true→Ir f l=f a
  | [],k,a,h,_,_=>by simp at h
  | b::r,0,a,h,_,hp=>by simp at h;subst h;rw [Ir,if_pos hp]
  | b::r,k+1,a,h,hn,hp=>by
    rw [List.take_succ_cons,List.any_cons,Bool.or_eq_false_iff] at hn
    rw [Ir,if_neg (by rw [hn.1];decide)]
    exact Tv (by simpa using h) hn.2 hp
theorem Q5 {f:Syn→Fa}:∀{l:List Syn},l.any (fun x=>(f x).err != 0)=false→Ir f l=Mq
  | [],_=>rfl
  | b::r,h=>by
    rw [List.any_cons,Bool.or_eq_false_iff] at h
    rw [Ir,if_neg (by rw [h.1];decide)]
    exact Q5 h.2
theorem Dk {l:List Syn}{k:Nat}{a:Syn}(h:l[k]? = some a):(l.map Cl)[k]? = some (cSyn a):=by rw [List.getElem?_map,h];exact congrArg some (Bi a)
theorem Es {t:Syn}{k:Nat}(h:k<t.kids.length):t.kids[k]? = some (Bn t k):=by unfold Bn;rw [List.getD_eq_getElem?_getD,List.getElem?_eq_getElem h];rfl
def Qi (T:List e8Sc)(V:List Va)(s:Nx):List AV:=[.sl 2 (T.map G7),.smapv (Kb (Gb T)),.sl 2 (V.map O1),.smapv (Kb (Ic V)),.int .i64 s.next,.int .i64 s.scopes]
set_option maxRecDepth 100000

theorem Hm {t:Syn}{p:Pl}(h:Bg t p=0):P9 p t=0∧It t 0 t.kids=0:=by
 rw [Re] at h
 split at h
 · rename_i h1;rw [h] at h1;cases h1
 ·
  rename_i h1
  exact ⟨by simpa using h1,h⟩
theorem Zi {t:Syn}:∀(l:List Syn) (i:Nat),It t i l=0→∀j a,l[j]? = some a→Bg a (Ee t (i+j))=0
  | [],i,_,j,a,h=>by simp at h
  | x::r,i,h,j,a,ha=>by
    rw [It] at h
    split at h
    · rename_i h1;rw [h] at h1;cases h1
    · rename_i h1
      cases j with
      | zero=>rw [List.getElem?_cons_zero] at ha;cases ha;simpa using h1
      | succ j=>rw [List.getElem?_cons_succ] at ha;have:=Zi r (i+1) h j a ha;rwa [show i+1+j=i+(j+1) by omega] at this
theorem Hi {p:Pl}{t:Syn}(h:P9 p t=0):p.at t.kind=true∧Dr t=true∧N6 t=true∧Cu t=0:=by
 unfold P9 at h
 split at h
 · cases h
 ·
  split at h
  · cases h
  ·
   split at h
   · cases h
   ·
    rename_i h1 h2 h3
    exact ⟨by simpa using h1,by simpa using h2,by simpa using h3,h⟩
theorem H1 {t:Syn}{p:Pl}(h:Bg t p=0){j:Nat}{a:Syn}(ha:t.kids[j]? = some a):Bg a (Ee t j)=0∧(Ee t j).at a.kind=true:=by
 have h1:=Zi t.kids 0 (Hm h).2 j a ha
 rw [Nat.zero_add] at h1
 exact ⟨h1,(Hi (Hm h1).1).1⟩
theorem S4 {k:Int}(h:Pl.at .exps k=true):13≤k∧k≤18:=by
 simp only [Pl.at,isExp,Bool.and_eq_true,decide_eq_true_eq] at h;exact h
theorem Qx {k:Int}(h:Pl.at .pats k=true):5≤k∧k≤12:=by
 simp only [Pl.at,isPat,Bool.and_eq_true,decide_eq_true_eq] at h;exact h
theorem Ie {n k:Int}(h:Pl.at (.only n) k=true):k=n:=by
 simpa [Pl.at] using h
theorem Zf {t:Syn}{j:Nat}{k:Int}(h:(Ee t j).at k=true):1≤k∧k≤18:=by
 unfold Ee at h
 repeat' split at h
 all_goals first | (have:=Ie h;omega) | (have:=S4 h;omega) | (have:=Qx h;omega)

section
variable {t:Syn} {p:Pl}
theorem Tx (h:(t.kids.length:Int)=1):∃a,t.kids = [a]:=by
 match hk:t.kids with
 | []=>rw [hk] at h;cases h
 | [a]=>exact ⟨a,rfl⟩
 | a::b::r=>rw [hk] at h;simp only [List.length_cons] at h;omega
theorem Y8 (h:(t.kids.length:Int)=2):∃a b,t.kids = [a,b]:=by
 match hk:t.kids with
 | []=>rw [hk] at h;cases h
 | [a]=>rw [hk] at h;simp only [List.length_cons,List.length_nil] at h;omega
 | [a,b]=>exact ⟨a,b,rfl⟩
 | a::b::c::r=>rw [hk] at h;simp only [List.length_cons] at h;omega
theorem dX (hf:Cu t=0)(hk:t.kind=17):t.num=5∨t.num=6∨t.num=7∨t.num=8∨t.num=9∨t.num=10∨t.num=11:=by
 unfold Cu Ko at hf
 rw [hk] at hf
 have hf2:(decide (t.num<5)||decide (11<t.num))=false:=by
  cases hq:(decide (t.num<5)||decide (11<t.num)) with
  | false=>rfl
  | true=>rw [hq] at hf;cases hf
 simp only [Bool.or_eq_false_iff,decide_eq_false_iff_not] at hf2
 omega
theorem Vi (hf:Cu t=0)(hk:t.kind=2):0≤t.num∧t.num≤2:=by
 unfold Cu Ko at hf
 rw [hk] at hf
 have hf2:(decide (t.num<0)||decide (2<t.num))=false:=by
  cases hq:(decide (t.num<0)||decide (2<t.num)) with
  | false=>rfl
  | true=>rw [hq] at hf;cases hf
 simp only [Bool.or_eq_false_iff,decide_eq_false_iff_not] at hf2
 omega
theorem V7 (hf:Cu t=0)(hk:t.kind=16):1≤t.num∧t.num≤5:=by
 unfold Cu Ko at hf
 rw [hk] at hf
 have hf2:(decide (t.num<1)||decide (5<t.num))=false:=by
  cases hq:(decide (t.num<1)||decide (5<t.num)) with
  | false=>rfl
  | true=>rw [hq] at hf;cases hf
 simp only [Bool.or_eq_false_iff,decide_eq_false_iff_not] at hf2
 omega
theorem aU (hf:Cu t=0)(hk:t.kind=11):0≤t.num∧t.num≤1099511627776:=by
 unfold Cu Ko at hf
 rw [hk] at hf
 have hf2:(decide (t.num<0)||decide (1099511627776<t.num))=false:=by
  cases hq:(decide (t.num<0)||decide (1099511627776<t.num)) with
  | false=>rfl
  | true=>rw [hq] at hf;cases hf
 simp only [Bool.or_eq_false_iff,decide_eq_false_iff_not] at hf2
 omega
theorem kU (hf:Cu t=0)(hk:t.kind≠13∧t.kind≠2∧t.kind≠16∧t.kind≠17∧t.kind≠11):t.num=0:=by
 obtain ⟨k1,k2,k3,k4,k5⟩:=hk
 have e:∀k:Int,t.kind≠k→¬(t.kind==k)=true:=fun k h=>by simpa using h
 unfold Cu at hf
 rw [if_neg (e _ k1)] at hf
 split at hf
 · rename_i h1;rw [hf] at h1;cases h1
 ·
  rename_i h1
  have h2:Ko t=0:=by simpa using h1
  unfold Ko at h2
  rw [if_neg (e _ k2),if_neg (e _ k3),if_neg (e _ k4),if_neg (e _ k5)] at h2
  split at h2
  · cases h2
  ·
   rename_i h3
   simp only [Bool.or_eq_true,decide_eq_true_eq,not_or] at h3
   omega
theorem cC (hf:Cu t=0)(hk:t.kind=13) : -1099511627776≤t.num∧t.num≤1099511627776:=by
 unfold Cu at hf
 rw [hk] at hf
 replace hf:Er t=0:=hf
 unfold Er at hf
 repeat' split at hf
 all_goals first
  | exact absurd hf (by decide)
  | (simp only [Bool.or_eq_true,decide_eq_true_eq,not_or,Bool.not_eq_true,bne_eq_false_iff_eq] at *;omega)
end

theorem pY {n:Int}(h0 : -1000≤n)(h1:n≤1000):IntKind.i64.wrap n=n:=by
 unfold IntKind.wrap IntKind.signed IntKind.bits
 simp only [↓reduceIte,Bool.true_and,decide_eq_true_eq,ge_iff_le]
 split <;> omega
mutual
def Dz:Syn→Nat
 | ⟨_,_,_,_,kids,_⟩=>1+Dt kids
def Dt:List Syn→Nat
 | []=>0
 | x::r=>Dz x+Dt r
end
theorem Du (t:Syn):Dz t=1+Dt t.kids:=by cases t;rw [Dz]
theorem Mb:∀l:List Syn,l.length≤Dt l
  | []=>Nat.zero_le _
  | x::r=>by
    have:=Mb r
    have h:=Du x
    rw [Dt,List.length_cons];omega
theorem Xr:∀{l:List Syn} {a:Syn},a∈l→Dz a≤Dt l
  | x::r,a,h=>by
    rw [Dt]
    rcases List.mem_cons.1 h with rfl | h
    · omega
    · have:=Xr h;omega
theorem Fx {t:Syn}(h:Fl t=true):t.text.length≤80∧t.name.length≤80∧Gt t≤200∧Np t≤90∧Ub t.kids=true:=by
 rw [Xq] at h
 split at h
 · cases h
 ·
  rename_i h1
  simp only [Bool.or_eq_true,decide_eq_true_eq,not_or] at h1
  exact ⟨by omega,by omega,by omega,by omega,h⟩
theorem Zh:∀{l:List Syn},Ub l=true→∀a∈l,Fl a=true
  | x::r,h,a,ha=>by
    rw [Ub] at h
    split at h
    · cases h
    · rename_i h1
      rcases List.mem_cons.1 ha with rfl | ha
      · simpa using h1
      · exact Zh h a ha
theorem Ia {t a:Syn}(h:Fl t=true)(ha:a∈t.kids):Fl a=true:=Zh (Fx h).2.2.2.2 a ha
theorem T0:∀(l:List Syn) (n:Int),(∀a∈l,Gt a=(Dz a:Int)∧Dz a≤200)→0≤n→Gs l n≤200→Gs l n=n+(Dt l:Int)
  | [],n,_,_,_=>by rw [Gs,Dt];simp
  | x::r,n,h,h0,h2=>by
    rw [Gs] at h2 ⊢
    split at h2
    · rename_i h1
      rw [if_pos h1]
      simp only [decide_eq_true_eq] at h1
      obtain ⟨e,hx⟩:=h x (List.mem_cons_self ..)
      have hw:IntKind.i64.wrap (n+Gt x)=n+(Dz x:Int):=by rw [e];exact pY (by omega) (by omega)
      rw [hw] at h2 ⊢
      rw [T0 r _ (fun a ha=>h a (List.mem_cons_of_mem _ ha)) (by omega) h2,Dt]
      omega
    · rename_i h1
      simp only [decide_eq_true_eq] at h1
      omega
theorem Sx (t:Syn):Fl t=true→Gt t=(Dz t:Int)∧Dz t≤200:=by
 refine Syn.ind (P:=fun t=>Fl t=true→Gt t=(Dz t:Int)∧Dz t≤200) (fun t ih h=>?_) t
 have hp:=Fx h
 have e:=Wz t
 have h3:=hp.2.2.1
 rw [e] at h3
 have h4:=T0 t.kids 1 (fun a ha=>ih a ha (Ia h ha)) (by omega) h3
 have h5:=Du t
 rw [e]
 exact ⟨by omega,by omega⟩
theorem X8 {t:Syn}(h:Fl t=true):t.kids.length≤200:=by
 have h1:=(Sx t h).2
 have h2:=Mb t.kids
 rw [Du] at h1
 omega
theorem Zw {t:Syn}(h:Fl t=true):t.text.length≤1048576∧t.name.length≤1048576:=by
 have:=Fx h
 exact ⟨by omega,by omega⟩
mutual
theorem Q3:∀t:Syn,En t≤2*Dz t
  | ⟨k,_,_,_,kids,_⟩=>by
    have h:=Uy k kids
    rw [En,Dz]
    split <;> omega
theorem Uy (k:Int):∀l:List Syn,Gr k l≤2*Dt l+1
  | []=>by rw [Gr];omega
  | x::r=>by
    have h1:=Q3 x
    have h2:=Uy k r
    have h3:=Du x
    rw [Gr,Dt]
    split <;> omega
end
def Ny (ws:List Aq):Nat:=(ws.map List.length).sum
theorem Kh (x:Aq)(r:List Aq):Ny (x::r)=x.length+Ny r:=rfl
theorem O0:∀ws:List Aq,(B3 ws).length≤Ny ws+2*ws.length
  | []=>by simp [B3]
  | [x]=>by simp [B3,Ny]
  | x::y::r=>by
    have:=O0 (y::r)
    rw [B3,Kh]
    simp only [List.length_append,List.length_cons,List.length_nil] at this ⊢
    omega
theorem aD:∀ws:List Aq,(ws.getD 0 []).length+(ws.getD 1 []).length+(B3 (ws.drop 2)).length≤Ny ws+2*ws.length
  | []=>by simp [B3]
  | [x]=>by simp [B3,Ny]
  | x::y::r=>by
    have:=O0 r
    simp only [List.getD_cons_zero,List.getD_cons_succ,List.drop_succ_cons,List.drop_zero,Kh,List.length_cons]
    omega
theorem Uq:∀ws:List Aq,ws.flatten.length=Ny ws
 | []=>rfl
 | x::r=>by rw [List.flatten_cons,List.length_append,Uq r,Kh]
theorem Jd (p k:Syn)(s:Aq):(Dp p k s).length≤s.length+2:=by
 unfold Dp
 split
 · simp only [List.length_append,List.length_cons,List.length_nil];omega
 · omega
theorem gO (c:UInt8):(Jt c).length≤4:=by
 unfold Jt
 split
 · simp
 · split <;> simp
theorem N4:∀s:Aq,(Dd s).length≤4*s.length
  | []=>by simp [Dd]
  | c::r=>by
    have h1:=N4 r
    have h2:=gO c
    rw [Dd]
    simp only [List.length_append,List.length_cons]
    omega
theorem uH {t:Syn}(hi : -1099511627776≤t.num∧t.num≤1099511627776)(hx:t.text.length≤80):(Iy t).length≤330:=by
 unfold Iy
 split
 · have:=Lib.itoa_length_le t.num (by omega) (by omega);omega
 ·
  split
  · split <;> decide
  ·
   unfold Ja
   split
   · simp
   ·
    have:=N4 t.text
    simp only [List.length_append,List.length_cons,List.length_nil]
    omega
theorem Q2:(∀n,(Hp n).length≤8)∧(∀n,(Kk n).length≤8)∧(∀n,(Fq n).length≤8)∧(∀n,(Iv n).length≤8):=by
 refine ⟨fun n=>?_,fun n=>?_,fun n=>?_,fun n=>?_⟩
 ·
  unfold Hp;repeat' split
  all_goals decide
 ·
  unfold Kk;repeat' split
  all_goals decide
 ·
  unfold Fq;repeat' split
  all_goals decide
 ·
  unfold Iv;repeat' split
  all_goals decide
theorem Cs {c:Prop}[Decidable c]{a b:Aq}{n:Nat}(ha:a.length≤n)(hb:b.length≤n):(if c then a else b).length≤n:=by split <;> assumption
theorem oZ {t:Syn}{ws:List Aq}(hi : -1099511627776≤t.num∧t.num≤1099511627776)(hx:t.text.length≤80)(hn:t.name.length≤80)(h0:(Bn t 0).text.length≤80):(Cp t ws).length≤Ny ws+2*ws.length+400:=by
 have h1:=O0 ws
 have h2:=aD ws
 have h3:=Uq ws
 have h4:=uH hi hx
 obtain ⟨w1,w2,w3,w4⟩:=Q2
 have k1:=w1 t.num
 have k2:=w2 t.num
 have k3:=w3 t.num
 have k4:=w4 t.kind
 have h5:=Lib.itoa_length_le t.num (by omega) (by omega)
 have r0:=Jd t (Bn t 0) (ws.getD 0 [])
 have r1:=Jd t (Bn t 1) (ws.getD 1 [])
 unfold Cp
 refine Cs (by omega) (Cs ?_ (Cs ?_ (Cs ?_ (Cs ?_ (Cs (by omega) (Cs ?_ (Cs ?_ (Cs ?_ (Cs ?_ (Cs ?_ ?_))))))))))
 ·
  have:(if (ws == [])=true then [] else [32]++B3 ws ++ [32]:Aq).length≤(B3 ws).length+2:=Cs (by simp) (by simp)
  simp only [List.length_append,List.length_cons,List.length_nil] at this ⊢;omega
 · simp only [List.length_append,List.length_cons,List.length_nil];omega
 ·
  have:(if ((Bn t 0).text == [])=true then [] else [32]++T7 ++ [32]++(Bn t 0).text:Aq).length≤90:=Cs (by simp) (by simp only [List.length_append,List.length_cons,List.length_nil];omega)
  simp only [List.length_append,List.length_cons,List.length_nil] at this ⊢;omega
 ·
  have:(if (ws == [])=true then [] else [32]++Rp ++ [32]++ws.getD 0 []:Aq).length≤(ws.getD 0 []).length+6:=Cs (by simp) (by simp only [List.length_append,List.length_cons,List.length_nil];omega)
  simp only [List.length_append,List.length_cons,List.length_nil] at this ⊢;omega
 · simp only [List.length_append,List.length_cons,List.length_nil];omega
 · simp only [List.length_append,List.length_cons,List.length_nil];omega
 ·
  have:(if (ws == [])=true then [] else [44,32]++ws.getD 0 []:Aq).length≤(ws.getD 0 []).length+2:=Cs (by simp) (by simp only [List.length_append,List.length_cons,List.length_nil];omega)
  simp only [List.length_append,List.length_cons,List.length_nil] at this ⊢;omega
 · simp only [List.length_append,List.length_cons,List.length_nil];omega
 · simp only [List.length_append,List.length_cons,List.length_nil];omega
 ·
  have:(if (t.kind==11)=true then [44,32]++Lib.itoa t.num else []:Aq).length≤30:=Cs (by simp only [List.length_append,List.length_cons,List.length_nil];omega) (by simp)
  simp only [List.length_append,List.length_cons,List.length_nil] at this ⊢;omega
theorem Uk {t:Syn}{p:Pl}(h:Bg t p=0) : -1099511627776≤t.num∧t.num≤1099511627776:=by
 obtain ⟨_,_,_,hf⟩:=Hi (Hm h).1
 by_cases k1:t.kind=13
 · exact cC hf k1
 by_cases k2:t.kind=2
 · have:=Vi hf k2;omega
 by_cases k3:t.kind=16
 · have:=V7 hf k3;omega
 by_cases k4:t.kind=17
 · have:=dX hf k4;omega
 by_cases k5:t.kind=11
 · have:=aU hf k5;omega
 have:=kU hf ⟨k1,k2,k3,k4,k5⟩
 omega
theorem iD {t:Syn}(h:Fl t=true):(Bn t 0).text.length≤80:=by
 unfold Bn
 rw [List.getD_eq_getElem?_getD]
 cases hq:t.kids[0]? with
 | none=>simp [Lc]
 | some a=>exact (Fx (Ia h (List.mem_of_getElem? hq))).1
theorem fV (t:Syn):∀p,Bg t p=0→Fl t=true→(Ah t).length+2≤500*Dz t:=by
  refine Syn.ind (P:=fun t=>∀p,Bg t p=0→Fl t=true→(Ah t).length+2≤500*Dz t) (fun t ih p h hf=>?_) t
  have hp:=Fx hf
  rw [Cn]
  have h1:=oZ (ws:=t.kids.map Ah) (Uk h) hp.1 hp.2.1 (iD hf)
  have h2:Ny (t.kids.map Ah)+2*t.kids.length≤500*Dt t.kids:=by
    have key:∀l:List Syn,(∀a∈l,(Ah a).length+2≤500*Dz a)→Ny (l.map Ah)+2*l.length≤500*Dt l:=by
      intro l
      induction l with
      | nil=>intro _;simp [Ny]
      | cons x r ihl=>
        intro hl
        have h3:=hl x (List.mem_cons_self ..)
        have h4:=ihl fun a ha=>hl a (List.mem_cons_of_mem _ ha)
        rw [List.map_cons,Kh,Dt,List.length_cons];omega
    refine key _ fun a ha=>?_
    obtain ⟨j,hj⟩:=List.mem_iff_getElem?.1 ha
    exact ih a ha _ (H1 h hj).1 (Ia hf ha)
  have h3:=Mb t.kids
  have h4:=Du t
  rw [List.length_map] at h1
  omega
mutual
def wC:Syn→Nat
 | ⟨_,x,n,_,kids,_⟩=>1+x.length+n.length+wL kids
def wL:List Syn→Nat
 | []=>0
 | x::r=>wC x+wL r
end
theorem Vr (t:Syn):wC t=1+t.text.length+t.name.length+wL t.kids:=by cases t;rw [wC]
theorem eO:∀{l:List Syn} {a:Syn},a∈l→wC a≤wL l
  | x::r,a,h=>by
    rw [wL]
    rcases List.mem_cons.1 h with rfl | h
    · omega
    · have:=eO h;omega
mutual
theorem vI:∀t:Syn,Dz t≤wC t
  | ⟨_,x,n,_,kids,_⟩=>by
    have:=aW kids
    rw [Dz,wC];omega
theorem aW:∀l:List Syn,Dt l≤wL l
  | []=>by rw [Dt,wL];exact Nat.le_refl _
  | x::r=>by
    have h1:=vI x
    have h2:=aW r
    rw [Dt,wL];omega
end
def Eg (t:Syn):Prop:=wC t≤1000000
theorem Ec {t a:Syn}(h:Eg t)(ha:a∈t.kids):Eg a:=by
 have h1:=eO ha
 have h2:=Vr t
 unfold Eg at h ⊢;omega
theorem Yu {t:Syn}(h:Eg t):t.text.length≤1048576∧t.name.length≤1048576:=by
 have h2:=Vr t
 unfold Eg at h
 exact ⟨by omega,by omega⟩
theorem H8 {t:Syn}(h:Eg t):Dz t≤1000000:=Nat.le_trans (vI t) h
theorem Hl {t:Syn}(h:Eg t):t.kids.length≤1000000:=by
 have h1:=H8 h
 have h2:=Mb t.kids
 rw [Du] at h1
 omega
theorem few_w (t:Syn):Fl t=true→wC t≤161*Dz t:=by
  refine Syn.ind (P:=fun t=>Fl t=true→wC t≤161*Dz t) (fun t ih h=>?_) t
  have hp:=Fx h
  have key:∀l:List Syn,(∀a∈l,wC a≤161*Dz a)→wL l≤161*Dt l:=by
    intro l
    induction l with
    | nil=>intro _;rw [wL];exact Nat.zero_le _
    | cons x r ihl=>
      intro hl
      have h3:=hl x (List.mem_cons_self ..)
      have h4:=ihl fun a ha=>hl a (List.mem_cons_of_mem _ ha)
      rw [wL,Dt];omega
  have h1:=key t.kids fun a ha=>ih a ha (Ia h ha)
  have h2:=Vr t
  have h3:=Du t
  omega
theorem rJ {t:Syn}(h:Fl t=true):wC t≤32200:=by
 have h1:=few_w t h
 have h2:=(Sx t h).2
 omega
theorem eE {t:Syn}(h:Fl t=true):Eg t:=by
 have:=rJ h
 unfold Eg;omega
theorem mD {t:Syn}{B:Nat}(hi : -1099511627776≤t.num∧t.num≤1099511627776)(hx:t.text.length≤B):(Iy t).length≤4*B+30:=by
 unfold Iy
 split
 · have:=Lib.itoa_length_le t.num (by omega) (by omega);omega
 ·
  split
  ·
   split
   · show (4:Nat)≤_;omega
   · show (5:Nat)≤_;omega
  ·
   unfold Ja
   split
   · simp
   ·
    have:=N4 t.text
    simp only [List.length_append,List.length_cons,List.length_nil]
    omega
theorem iH {t:Syn}{ws:List Aq}{B:Nat}(hi : -1099511627776≤t.num∧t.num≤1099511627776)(hx:t.text.length≤B)(hn:t.name.length≤B)(h0:(Bn t 0).text.length≤B):(Cp t ws).length≤Ny ws+2*ws.length+(4*B+60):=by
 have h1:=O0 ws
 have h2:=aD ws
 have h3:=Uq ws
 have h4:=mD hi hx
 obtain ⟨w1,w2,w3,w4⟩:=Q2
 have k1:=w1 t.num
 have k2:=w2 t.num
 have k3:=w3 t.num
 have k4:=w4 t.kind
 have h5:=Lib.itoa_length_le t.num (by omega) (by omega)
 have r0:=Jd t (Bn t 0) (ws.getD 0 [])
 have r1:=Jd t (Bn t 1) (ws.getD 1 [])
 have q1:I5.length=4:=rfl
 have q2:Fk.length=5:=rfl
 have q3:T7.length=2:=rfl
 have q4:Gd.length=5:=rfl
 have q5:Fw.length=6:=rfl
 have q6:Rp.length=2:=rfl
 have q7:Ui.length=5:=rfl
 have q8:Rb.length=3:=rfl
 unfold Cp
 refine Cs (by omega) (Cs ?_ (Cs ?_ (Cs ?_ (Cs ?_ (Cs (by omega) (Cs ?_ (Cs ?_ (Cs ?_ (Cs ?_ (Cs ?_ ?_))))))))))
 ·
  have:(if (ws == [])=true then [] else [32]++B3 ws ++ [32]:Aq).length≤(B3 ws).length+2:=Cs (by simp) (by simp)
  simp only [List.length_append,List.length_cons,List.length_nil] at this ⊢;omega
 · simp only [List.length_append,List.length_cons,List.length_nil];omega
 ·
  have:(if ((Bn t 0).text == [])=true then [] else [32]++T7 ++ [32]++(Bn t 0).text:Aq).length≤B+4:=Cs (by simp) (by simp only [List.length_append,List.length_cons,List.length_nil];omega)
  simp only [List.length_append,List.length_cons,List.length_nil] at this ⊢;omega
 ·
  have:(if (ws == [])=true then [] else [32]++Rp ++ [32]++ws.getD 0 []:Aq).length≤(ws.getD 0 []).length+6:=Cs (by simp) (by simp only [List.length_append,List.length_cons,List.length_nil];omega)
  simp only [List.length_append,List.length_cons,List.length_nil] at this ⊢;omega
 · simp only [List.length_append,List.length_cons,List.length_nil];omega
 · simp only [List.length_append,List.length_cons,List.length_nil];omega
 ·
  have:(if (ws == [])=true then [] else [44,32]++ws.getD 0 []:Aq).length≤(ws.getD 0 []).length+2:=Cs (by simp) (by simp only [List.length_append,List.length_cons,List.length_nil];omega)
  simp only [List.length_append,List.length_cons,List.length_nil] at this ⊢;omega
 · simp only [List.length_append,List.length_cons,List.length_nil];omega
 · simp only [List.length_append,List.length_cons,List.length_nil];omega
 ·
  have:(if (t.kind==11)=true then [44,32]++Lib.itoa t.num else []:Aq).length≤30:=Cs (by simp only [List.length_append,List.length_cons,List.length_nil];omega) (by simp)
  simp only [List.length_append,List.length_cons,List.length_nil] at this ⊢;omega
theorem bO {B:Nat}(t:Syn):∀p,Bg t p=0→wC t≤B→(Ah t).length+2≤(4*B+64)*Dz t:=by
  refine Syn.ind (P:=fun t=>∀p,Bg t p=0→wC t≤B→(Ah t).length+2≤(4*B+64)*Dz t) (fun t ih p h hf=>?_) t
  have hw:=Vr t
  have hk0:(Bn t 0).text.length≤B:=by
    unfold Bn
    rw [List.getD_eq_getElem?_getD]
    cases hq:t.kids[0]? with
    | none=>simp [Lc]
    | some a=>
      have h3:=eO (List.mem_of_getElem? hq)
      have h4:=Vr a
      show a.text.length≤B
      omega
  rw [Cn]
  have h1:=iH (B:=B) (ws:=t.kids.map Ah) (Uk h) (by omega) (by omega) hk0
  have h2:Ny (t.kids.map Ah)+2*t.kids.length≤(4*B+64)*Dt t.kids:=by
    have key:∀l:List Syn,(∀a∈l,(Ah a).length+2≤(4*B+64)*Dz a)→Ny (l.map Ah)+2*l.length≤(4*B+64)*Dt l:=by
      intro l
      induction l with
      | nil=>intro _;simp [Ny]
      | cons x r ihl=>
        intro hl
        have h3:=hl x (List.mem_cons_self ..)
        have h4:=ihl fun a ha=>hl a (List.mem_cons_of_mem _ ha)
        have h5:=Nat.mul_add (4*B+64) (Dz x) (Dt r)
        rw [List.map_cons,Kh,Dt,List.length_cons];omega
    refine key _ fun a ha=>?_
    obtain ⟨j,hj⟩:=List.mem_iff_getElem?.1 ha
    exact ih a ha _ (H1 h hj).1 (Nat.le_trans (eO ha) (by omega))
  have h4:=Du t
  rw [List.length_map] at h1
  rw [h4,Nat.mul_add]
  omega
theorem qA {t:Syn}{p:Pl}(h:Bg t p=0)(hf:Eg t):(Ah t).length≤10000000000000:=by
 have h1:=bO (B:=1000000) t p h hf
 have h2:(4*1000000+64)*Dz t≤(4*1000000+64)*1000000:=Nat.mul_le_mul_left _ (H8 hf)
 omega
structure RvOK (T:List e8Sc) (V:List Va):Prop where
 tl:T.length≤1048576
 fl:∀s∈T,s.fields.length≤1048576
 vl:V.length≤1048576
 ty:∀v∈V,0≤v.type∧v.type<(T.length:Int)
theorem Ye {T:List e8Sc}{V:List Va}(h:RvOK T V){v:Va}(hv:v∈V):∃sc,T[v.type.toNat]? = some sc:=by
 have:=h.ty v hv
 exact ⟨_,List.getElem?_eq_getElem (show v.type.toNat<T.length by omega)⟩
theorem I6 {l:List Aq}{n:Aq}(h:l.contains n=true):0≤Mi l n∧Mi l n<(l.length:Int):=by
 unfold Mi
 rw [if_pos h]
 have:=List.idxOf_lt_length_iff.2 (List.contains_iff_mem.1 h)
 omega
theorem cQ {V:List Va}{n:Aq}(h:(Ic V).contains n=true):∃va,V[(Mi (Ic V) n).toNat]? = some va:=by
 have:=I6 h
 rw [List.length_map] at this
 exact ⟨_,List.getElem?_eq_getElem (show (Mi (Ic V) n).toNat<V.length by omega)⟩
theorem cN {T:List e8Sc}{V:List Va}{v:Int}{va:Va}{sc:e8Sc}(h:V[v.toNat]? = some va)(hs:T[va.type.toNat]? = some sc):mS T V v=sc:=by
 unfold mS;rw [h];show (T[va.type.toNat]?).getD sc0=sc;rw [hs];rfl
section
variable {T:List e8Sc} {V:List Va} {t:Syn}
theorem zV (h:(((t.kind != 14)&&(t.kind != 15))&&(t.kind != 16))=true):Ij T V t=Mq:=if_pos h
theorem Ug (h:(((t.kind != 14)&&(t.kind != 15))&&(t.kind != 16))=false):Ij T V t=if !((Ic V).contains t.text) then ⟨t.pos,8⟩ else if (t.kind==15)||((t.kind==14)&&(t.name==E5)) then Mq else if decide (Ho (mS T V (Mi (Ic V) t.text)) t.name<0) then ⟨t.pos,6⟩ else Mq:=Bu h
theorem yN (h:(((t.kind != 14)&&(t.kind != 15))&&(t.kind != 16))=false)(h2:(!((Ic V).contains t.text))=true):Ij T V t=⟨t.pos,8⟩:=(Ug h).trans (if_pos h2)
theorem look_3 (h:(((t.kind != 14)&&(t.kind != 15))&&(t.kind != 16))=false)(h2:(!((Ic V).contains t.text))=false)(h3:((t.kind==15)||((t.kind==14)&&(t.name==E5)))=true):Ij T V t=Mq:=(Ug h).trans ((Bu h2).trans (if_pos h3))
theorem zK (h:(((t.kind != 14)&&(t.kind != 15))&&(t.kind != 16))=false)(h2:(!((Ic V).contains t.text))=false)(h3:((t.kind==15)||((t.kind==14)&&(t.name==E5)))=false)(h4:decide (Ho (mS T V (Mi (Ic V) t.text)) t.name<0)=true):Ij T V t=⟨t.pos,6⟩:=(Ug h).trans ((Bu h2).trans ((Bu h3).trans (if_pos h4)))
theorem zM (h:(((t.kind != 14)&&(t.kind != 15))&&(t.kind != 16))=false)(h2:(!((Ic V).contains t.text))=false)(h3:((t.kind==15)||((t.kind==14)&&(t.name==E5)))=false)(h4:decide (Ho (mS T V (Mi (Ic V) t.text)) t.name<0)=false):Ij T V t=Mq:=(Ug h).trans ((Bu h2).trans ((Bu h3).trans (Bu h4)))
theorem xS (h:((Ij T V t).err != 0)=true):Fj T V t=Ij T V t:=(Th T V t).trans (if_pos h)
theorem xN (h:((Ij T V t).err != 0)=false):Fj T V t=Ir (Fj T V) t.kids:=(Th T V t).trans (Bu h)
theorem Vm {f:Syn→Fa}:∀{l:List Syn},(Ir f l).err=0→∀a∈l,(f a).err=0
  | [],_,a,ha=>by cases ha
  | x::r,h,a,ha=>by
    rw [Ir] at h
    by_cases hx:(f x).err=0
    · rw [if_neg (by simp [hx])] at h
      rcases List.mem_cons.1 ha with rfl | ha
      · exact hx
      · exact Vm h a ha
    · rw [if_pos (by simpa using hx)] at h;exact absurd h hx
theorem Gu (h:(Fj T V t).err=0):(Ij T V t).err=0∧∀a∈t.kids,(Fj T V a).err=0:=by
 rw [Th] at h
 by_cases hx:(Ij T V t).err=0
 · rw [if_neg (by simp [hx])] at h;exact ⟨hx,Vm h⟩
 · rw [if_pos (by simpa using hx)] at h;exact absurd h hx
theorem Y2 (h:(Ij T V t).err=0)(hk:t.kind=14∨t.kind=15∨t.kind=16):(Ic V).contains t.text=true:=by
 have h0:(((t.kind != 14)&&(t.kind != 15))&&(t.kind != 16))=false:=by rcases hk with h | h | h <;> simp [h]
 rw [Ug h0] at h
 cases hc:(Ic V).contains t.text with
 | true=>rfl
 | false=>rw [hc,if_pos (by decide)] at h;cases h
theorem pS {xs:List Ex}(h1:(t.kind==13)=true):Ls T V t xs=⟨0,[],0,0,0,aA t⟩:=if_pos h1
theorem sT {xs:List Ex}(h1:(t.kind==13)=false)(h2:(t.kind==14)=true)(h3:(t.name==E5)=true):Ls T V t xs=⟨2,[],Mi (Ic V) t.text,0,0,v0⟩:=(Bu h1).trans ((if_pos h2).trans (if_pos h3))
theorem pZ {xs:List Ex}{sc:e8Sc}(h1:(t.kind==13)=false)(h2:(t.kind==14)=true)(h3:(t.name==E5)=false)(hs:mS T V (Mi (Ic V) t.text)=sc):Ls T V t xs=⟨1,[],Mi (Ic V) t.text,Ho sc t.name,0,v0⟩:=by subst hs;exact (Bu h1).trans ((if_pos h2).trans (Bu h3))
theorem sV {xs:List Ex}(h1:(t.kind==13)=false)(h2:(t.kind==14)=false)(h4:(t.kind==15)=true):Ls T V t xs=⟨3,[],Mi (Ic V) t.text,0,0,v0⟩:=(Bu h1).trans ((Bu h2).trans (if_pos h4))
theorem qY {xs:List Ex}{sc:e8Sc}(h1:(t.kind==13)=false)(h2:(t.kind==14)=false)(h4:(t.kind==15)=false)(h5:(t.kind==16)=true)(hs:mS T V (Mi (Ic V) t.text)=sc)(h6:decide ((0:Int)<(t.kids.length:Int))=true) :
  Ls T V t xs=⟨4,[],Mi (Ic V) t.text,Ho sc t.name,t.num,aA (Bn t 0)⟩:=by
 subst hs
 refine (Bu h1).trans ((Bu h2).trans ((Bu h4).trans ((if_pos h5).trans ?_)))
 rw [if_pos h6]
theorem tG {xs:List Ex}{sc:e8Sc}(h1:(t.kind==13)=false)(h2:(t.kind==14)=false)(h4:(t.kind==15)=false)(h5:(t.kind==16)=true)(hs:mS T V (Mi (Ic V) t.text)=sc)(h6:decide ((0:Int)<(t.kids.length:Int))=false) :
  Ls T V t xs=⟨4,[],Mi (Ic V) t.text,Ho sc t.name,t.num,v0⟩:=by
 subst hs
 refine (Bu h1).trans ((Bu h2).trans ((Bu h4).trans ((if_pos h5).trans ?_)))
 rw [Bu h6]
theorem rA {xs:List Ex}(h1:(t.kind==13)=false)(h2:(t.kind==14)=false)(h4:(t.kind==15)=false)(h5:(t.kind==16)=false)(h7:(t.kind==18)=true):Ls T V t xs=⟨12,xs,0,0,0,v0⟩:=(Bu h1).trans ((Bu h2).trans ((Bu h4).trans ((Bu h5).trans (if_pos h7))))
theorem qF {xs:List Ex}(h1:(t.kind==13)=false)(h2:(t.kind==14)=false)(h4:(t.kind==15)=false)(h5:(t.kind==16)=false)(h7:(t.kind==18)=false):Ls T V t xs=⟨t.num,xs,0,0,0,v0⟩:=(Bu h1).trans ((Bu h2).trans ((Bu h4).trans ((Bu h5).trans (Bu h7))))
end
end Go.Proofs.YtckhoadldibflaaGreatDoor

namespace Go.Aw
section
variable {P:Program} {T:List (Nat×TD)} {d:Option Nat} {ty:TypeId} {pos:String} {aft:Array Edge} {gd:Option (Nat×Bool)} {ρ:Operand→AV}
def bufsOne (H:List HO):Prop:=∀v es E z,HO.buf v es E z∈H→v.oneCell'=true
theorem Bw.front3 {f:FuncId}{args:List AV}{H R:List HO}{Q:AV→List HO→Prop}{o1 o2 o3:HO}(k3 k2 k1:Nat)(hk3:H[k3]? = some o3)(hk2:(H.eraseIdx k3)[k2]? = some o2)(hk1:((H.eraseIdx k3).eraseIdx k2)[k1]? = some o1)(hR:((H.eraseIdx k3).eraseIdx k2).eraseIdx k1=R)
  (h:Bw P f (o1::o2::o3::R) args Q):Bw P f H args Q:=by
 subst hR
 refine h.perm ?_
 have h1:=Gz hk3
 have h2:=Gz hk2
 have h3:=Gz hk1
 refine h1.trans ((h2.cons o3).trans (((h3.cons o2).cons o3).trans ?_))
 exact (List.Perm.swap o2 o3 _).trans (((List.Perm.swap o1 o3 _).cons o2).trans (List.Perm.swap o1 o2 _))
end
end Go.Aw
