/-
  Walks: the builder and the writer. No condition.
-/
import Derived.Test.YtckhoadldibflaaGreatDoorK01
import Derived.Test.YtckhoadldibflaaGreatDoorW13a
import Derived.Test.YtckhoadldibflaaGreatDoorK24
import Derived.KernelRfl
namespace Go.Proofs.YtckhoadldibflaaGreatDoor
open Go Go.Aw
set_option maxHeartbeats 1600000
set_option maxRecDepth 20000
set_option linter.unusedVariables false
set_option linter.unusedSimpArgs false

theorem oF (b TT:Nat)(r:AV)(rest:List AV)(hl:liesAt Tryz.prog Tryz.prog.depth TT ((rest.length+2) / Tryz.prog.cellsOf TT) 0 213 1=true)(R:List HO):Bw Tryz.prog 298 (.box b TT (.val (.pointer none)::r::rest)::R) [.val (.pointer (some ⟨b,0,none⟩))] (fun x H'=>x = .tuple []∧H' = .box b TT (.val (.pointer (some ⟨b,0,none⟩))::r::rest)::R):=by
 refine Bw.body (n:=20) tok Tryz.func298 rfl rfl rfl ?_
 refine Ad (Qp Br ?_)
 refine Qp (Ak rfl) ?_
 refine Qp Cb ?_
 refine AOL.Aaq (Aj (k:=0) (c:=.val (.pointer none)) tok rfl rfl rfl (rfl)) rfl rfl ?_
 refine Qp (Ti Tryz.underlying211 rfl rfl) ?_
 refine Aa (Au (fun hc1=>?_) fun hc1=>?_)
 ·
  refine AW.region (Qp Br (Qp Br ?_))
  refine AOL.Aaq (Z6 (k:=0) tok Tryz.underlying211 Tryz.underlying307 rfl rfl rfl (rfl)) rfl rfl ?_
  refine Qp (cL Tryz.func312 (by kernel_rfl) (by kernel_rfl) (by kernel_rfl) (by kernel_rfl) rfl) ?_
  refine AOL.Aaq (Vc (k:=0) tok Tryz.underlying307 Tryz.underlying211 rfl (rfl) (hl) rfl) rfl rfl ?_
  refine Qp (Ak rfl) ?_
  refine Qp Cb ?_
  refine Qe (Be (k:=0) (v:=.val _) (cs':=(.val (.pointer (some ⟨b,0,none⟩))::r::rest)) (H2:=_::_) tok rfl rfl rfl rfl rfl rfl (Nat.ble_eq_true_of_le (by show 0+1≤rest.length+1+1;omega)) (rfl) rfl) ?_
  rintro _ _ ⟨rfl,rfl⟩
  refine AOL.nil ?_
  refine ⟨.inl rfl,[],.nil,_,.refl _,?_⟩
  exact ⟨rfl,rfl⟩
 ·
  cases hc1
theorem oX (b TT:Nat)(r:AV)(rest:List AV)(hl:liesAt Tryz.prog Tryz.prog.depth TT ((rest.length+2) / Tryz.prog.cellsOf TT) 0 213 1=true)(R:List HO):Bw Tryz.prog 298 (.box b TT (.val (.pointer (some ⟨b,0,none⟩))::r::rest)::R) [.val (.pointer (some ⟨b,0,none⟩))] (fun x H'=>x = .tuple []∧H' = .box b TT (.val (.pointer (some ⟨b,0,none⟩))::r::rest)::R):=by
 refine Bw.body (n:=20) tok Tryz.func298 rfl rfl rfl ?_
 refine Ad (Qp Br ?_)
 refine Qp (Ak rfl) ?_
 refine Qp Cb ?_
 refine AOL.Aaq (Aj (k:=0) (c:=.val (.pointer (some ⟨b,0,none⟩))) tok rfl rfl rfl (rfl)) rfl rfl ?_
 refine Qp (Ti Tryz.underlying211 rfl rfl) ?_
 refine Aa (Au (fun hc1=>?_) fun hc1=>?_)
 ·
  cases hc1
 ·
  refine Ad (Qp Br ?_)
  refine Qp (Ak rfl) ?_
  refine Qp Cb ?_
  refine AOL.Aaq (Aj (k:=0) (c:=.val (.pointer (some ⟨b,0,none⟩))) tok rfl rfl rfl (rfl)) rfl rfl ?_
  refine Qp Br ?_
  refine Qp (kP (z:=2) Tryz.underlying211 (by kernel_rfl) rfl rfl rfl) ?_
  refine Aa (Au (fun hc2=>?_) fun hc2=>?_)
  ·
   cases hc2
  ·
   refine AW.skip ?_
   refine ⟨.inl rfl,[],.nil,_,.refl _,?_⟩
   exact ⟨rfl,rfl⟩
theorem tI (b TT:Nat)(p:Option Addr)(hp:p=none∨p=some ⟨b,0,none⟩)(r:AV)(rest:List AV)(hl:liesAt Tryz.prog Tryz.prog.depth TT ((rest.length+2) / Tryz.prog.cellsOf TT) 0 213 1=true)(R:List HO) :
  Bw Tryz.prog 298 (.box b TT (.val (.pointer p)::r::rest)::R) [.val (.pointer (some ⟨b,0,none⟩))] (fun x H'=>x = .tuple []∧H' = .box b TT (.val (.pointer (some ⟨b,0,none⟩))::r::rest)::R):=by
 rcases hp with rfl | rfl
 · exact oF b TT r rest hl R
 · exact oX b TT r rest hl R
theorem kW (b TT:Nat)(p:Option Addr)(hp:p=none∨p=some ⟨b,0,none⟩)(r:AV)(rest:List AV)(hl:liesAt Tryz.prog Tryz.prog.depth TT ((rest.length+2) / Tryz.prog.cellsOf TT) 0 213 1=true) :
 Bd Tryz.prog 298 b TT (.val (.pointer p)::r::rest) (.val (.pointer (some ⟨b,0,none⟩))::r::rest) [.val (.pointer (some ⟨b,0,none⟩))] (.tuple []):=fun R=>tI b TT p hp r rest hl R
theorem qU (b TT:Nat)(p:Option Addr)(hp:p=none∨p=some ⟨b,0,none⟩)(v:Value)(t s:Aq)(rest:List AV)(hl:liesAt Tryz.prog Tryz.prog.depth TT ((rest.length+2) / Tryz.prog.cellsOf TT) 0 213 1=true)(hb:t.length+s.length≤140737488355328)(R:List HO):Bw Tryz.prog 268 (.row v (D8 t).length 5 1 :: .box b TT (.val (.pointer p) :: .row v 1 (D8 t)::rest)::R) [.val (.pointer (some ⟨b,0,none⟩)),.str s] (fun x H'=>∃v',x = .tuple [.int .i64 (s.length:Int),.val .nilIface]∧H' = .row v' (D8 (t++s)).length 5 1 :: .box b TT (.val (.pointer (some ⟨b,0,none⟩)) :: .row v' 1 (D8 (t++s))::rest)::R):=by
 refine Bw.body (n:=19) tok Tryz.func268 rfl rfl rfl ?_
 refine Ad (Qp A0 (Qp N8 (By (Qp Br ?_))))
 refine Qe (Al (by kernel_rfl) rfl rfl ((kW b TT p hp _ rest hl).at (k:=1) (H2:=_::_::_) rfl rfl)) ?_
 rintro _ _ ⟨rfl,rfl⟩
 refine By (Qp Br (Qp Br ?_))
 refine Qp (Ak rfl) ?_
 refine Qp Cb ?_
 refine AOL.Aaq (Aj (k:=1) (c:=.row _ _ _) tok rfl rfl rfl rfl) rfl rfl ?_
 refine Qp Dh ?_
 refine Qe (Yw (k:=0) tok rfl rfl rfl rfl Tryz.underlying9 rfl rfl rfl rfl (lQ _) (by rw [Iw];exact hb)) ?_
 rintro _ _ ⟨v14,rfl,rfl⟩
 refine Qp (Ak rfl) ?_
 refine Qp Cb ?_
 refine Qe (Be (k:=1) (v:=.row _ _ _) (cs':=(.val (.pointer (some ⟨b,0,none⟩)) :: .row v14 1 (D8 t++D8 s)::rest)) (H2:=_::_::_) tok rfl rfl rfl rfl rfl rfl (Nat.ble_eq_true_of_le (by show 1+1≤rest.length+1+1;omega)) (rfl) rfl) ?_
 rintro _ _ ⟨rfl,rfl⟩
 refine By (Qp Dh ?_)
 refine Qp (Bx (n:=s.length) tok rfl rfl rfl (rfl)) ?_
 refine Qp A0 (Qp N8 (Aa (AW.ret ?_)))
 refine ⟨.inr rfl,[Iq _,.val _],.cons (.tmp _ _ rfl) <| .cons (.tmp _ _ rfl) <| .nil,_,.refl _,?_⟩
 exact ⟨v14,rfl,congrArg (fun l=>HO.row v14 l.length 5 1::HO.box b TT (.val (.pointer (some ⟨b,0,none⟩)) :: .row v14 1 l::rest)::R) (sH t s).symm⟩
theorem mP (b TT:Nat)(a0:AV)(v:Value)(t:Aq)(rest:List AV)(R:List HO):Bw Tryz.prog 152 (.row v (D8 t).length 5 1 :: .box b TT (a0 :: .row v 1 (D8 t)::rest)::R) [.val (.pointer (some ⟨b,0,none⟩))] (fun x H'=>x = .str t∧H' = .row (.slice none 0 0) 0 5 1 :: .box b TT (a0 :: .row v 1 (D8 t)::rest)::R):=by
 refine Bw.body (n:=14) tok Tryz.func152 rfl rfl rfl ?_
 refine Ad (Qp Db (Aa (AW.seq ?_)))
 refine AW.draw mixed (fun H'=>_∈H') (List.mem_of_getElem? (i:=1) rfl) (by kernel_rfl) ?_
 refine Qn 0 rfl Br ?_
 refine Qn 1 rfl (Ak rfl) ?_
 refine Qn 2 rfl Cb ?_
 refine Qn 3 rfl (OpP.Aas (fun k=>Aj (k:=k) (c:=.row _ _ _) tok rfl rfl rfl rfl) (fun _ h=>h)) ?_
 refine Qn 5 rfl Br ?_
 refine Qn 6 rfl (Ak rfl) ?_
 refine Qn 7 rfl Cb ?_
 refine Qn 8 rfl (OpP.Aas (fun k=>Aj (k:=k) (c:=.row _ _ _) tok rfl rfl rfl rfl) (fun _ h=>h)) ?_
 refine Qn 9 rfl (Dx (n:=t.length) tok rfl rfl rfl (Iw t)) ?_
 refine Hs.eff _ _ 4 _ _ rfl (by kernel_rfl) rfl rfl (aN (k:=0) Tryz.underlying252 rfl rfl) (by rintro _ _ ⟨q7,hq7,rfl,rfl⟩;simp) ?_
 rintro _ _ ⟨q7,hq7,rfl,rfl⟩
 refine Hs.eff _ _ 10 _ _ rfl (by kernel_rfl) rfl rfl (Uj (k:=0) (kb:=1) (o:=1) Tryz.underlying252 (by kernel_rfl) rfl (rfl) hq7 rfl rfl rfl rfl) (by rintro _ _ ⟨rfl,rfl⟩;simp) ?_
 rintro _ _ ⟨rfl,rfl⟩
 refine Qn 11 rfl Db ?_
 refine Hs.done _ _ (by kernel_rfl) ?_
 refine Af (AW.ret ?_)
 refine ⟨.inr rfl,[.str _],.cons (.tmp _ _ rfl) <| .nil,_,.refl _,?_⟩
 exact ⟨rfl,rfl⟩
theorem k_blen (b TT:Nat)(a0:AV)(v:Value)(t:Aq)(rest:List AV)(R:List HO):Bw Tryz.prog 151 (.row v (D8 t).length 5 1 :: .box b TT (a0 :: .row v 1 (D8 t)::rest)::R) [.val (.pointer (some ⟨b,0,none⟩))] (fun x H'=>x = .int .i64 (t.length:Int)∧H' = .row v (D8 t).length 5 1 :: .box b TT (a0 :: .row v 1 (D8 t)::rest)::R):=by
 refine Bw.body (n:=8) tok Tryz.func151 rfl rfl rfl ?_
 refine Ad (Qp A0 (By (Qp Br ?_)))
 refine Qp (Ak rfl) ?_
 refine Qp Cb ?_
 refine AOL.Aaq (Aj (k:=1) (c:=.row _ _ _) tok rfl rfl rfl rfl) rfl rfl ?_
 refine Qp (Dx (n:=t.length) tok rfl rfl rfl (Iw t)) ?_
 refine Qp A0 (Aa (AW.ret ?_))
 refine ⟨.inr rfl,[Iq _],.cons (.tmp _ _ rfl) <| .nil,_,.refl _,?_⟩
 exact ⟨rfl,rfl⟩
theorem k_fb0 (c:Bool):Ap Tryz.prog 300 [.bool c] (.str (if c then J5 else Ik)):=by
 refine Ap.body (n:=4) tok Tryz.func300 rfl rfl rfl fun H=>?_
 refine Ad (Qp Db (Aa (AW.seq (Ad (Qp Bq (Aa (Au (fun hc1=>?_) fun hc1=>?_)))))))
 ·
  refine Ad (Qp Db (Aa (Cx ?_)))
  refine Qr (.str _) ?_
  simp only [Ae]
  rw [if_pos hc1]
 ·
  refine Bl (Ad (Qp Db (Aa (AW.ret ?_))))
  refine Qr (.str _) ?_
  simp only [Ae]
  rw [Bu hc1]
theorem tM (c:Bool):Ap Tryz.prog 271 [.bool c] (.str (if c then J5 else Ik)):=by
 refine Ap.body (n:=5) tok Tryz.func271 rfl rfl rfl fun H=>?_
 refine Ad (Qp Db (By (Qp Bq ?_)))
 refine Qp (Qc rfl (k_fb0 c)) ?_
 refine Qp Db (Aa (AW.ret ?_))
 refine Qr (.str _) ?_
 rfl
def Oi (b:Nat):List AV:=
  [.fn (.func 207) [] [.ptr [.val (.pointer (some ⟨b,0,none⟩))]],
   .fn (.func 208) [.val (.pointer (some ⟨b,0,none⟩))] [],
   .fn (.func 209) [] [.ptr [.val (.pointer (some ⟨b,0,none⟩))]],
   .fn (.func 211) [.val (.pointer (some ⟨b,0,none⟩))] [],
   .val .nilFunc,
   .fn (.func 212) [.val (.pointer (some ⟨b,0,none⟩))] [],
   .fn (.func 269) [] [.ptr [.val (.pointer (some ⟨b,0,none⟩))],.ptr [.str Nm]],
   .fn (.func 269) [] [.ptr [.val (.pointer (some ⟨b,0,none⟩))],.ptr [.str Nq]],
   .fn (.func 269) [] [.ptr [.val (.pointer (some ⟨b,0,none⟩))],.ptr [.str Nn]],
   .fn (.func 269) [] [.ptr [.val (.pointer (some ⟨b,0,none⟩))],.ptr [.str Ke]],
   .fn (.func 269) [] [.ptr [.val (.pointer (some ⟨b,0,none⟩))],.ptr [.str Ib]],
   .fn (.func 269) [] [.ptr [.val (.pointer (some ⟨b,0,none⟩))],.ptr [.str Fr]],
   .fn (.func 269) [] [.ptr [.val (.pointer (some ⟨b,0,none⟩))],.ptr [.str Ge]],
   .fn (.func 214) [.val (.pointer (some ⟨b,0,none⟩))] [],
   .fn (.func 215) [] [.ptr [.val (.pointer (some ⟨b,0,none⟩))]],
   .fn (.func 216) [] [.ptr [.val (.pointer (some ⟨b,0,none⟩))]],
   .fn (.func 217) [.val (.pointer (some ⟨b,0,none⟩))] [],
   .fn (.func 218) [.val (.pointer (some ⟨b,0,none⟩))] [],
   .fn (.func 219) [] [.ptr [.val (.pointer (some ⟨b,0,none⟩))]]]
def WQ (b:Nat)(o:Aq)(R:List HO):AV→List HO→Prop:=fun x H'=>∃v a,x = .tuple []∧(a=none∨a=some ⟨b,0,none⟩)∧H'=(.row v (D8 o).length 5 1 :: .box b 216 (.val (.pointer a) :: .row v 1 (D8 o)::Oi b)::R)
theorem wq {b:Nat}{o o':Aq}{v:Value}{a:Option Addr}{R:List HO}(ha:a=none∨a=some ⟨b,0,none⟩)(e:o=o'):WQ b o' R (.tuple []) (.row v (D8 o).length 5 1 :: .box b 216 (.val (.pointer a) :: .row v 1 (D8 o)::Oi b)::R):=e▸⟨v,a,rfl,ha,rfl⟩
theorem xU:liesAt Tryz.prog Tryz.prog.depth 216 (21 / Tryz.prog.cellsOf 216) 0 213 1=true:=by kernel_rfl
theorem wlies (b:Nat):liesAt Tryz.prog Tryz.prog.depth 216 (((Oi b).length+2) / Tryz.prog.cellsOf 216) 0 213 1=true:=xU
abbrev Wt:Nat:=140737488355328
def sc (ws:List Aq):List (List AV):=ws.map fun s=>[.str s]
theorem sc_at {l:List Aq}{k:Nat}{x:Aq}(h:l[k]? = some x):(sc l)[k]? = some [.str x]:=by unfold sc;rw [List.getElem?_map,h];rfl
theorem Vs {l:List Aq}{k:Nat}{x:Aq}(h:l[k]? = some x):(l.take (k+1)).flatten=(l.take k).flatten++x:=by
 rw [List.take_add_one,h];simp
theorem sF {l:List Aq}{k:Nat}{x:Aq}(h:l[k]? = some x):(l.take k).flatten.length+x.length≤l.flatten.length:=by
 have h1:=congrArg List.length (Vs h)
 have h2:=congrArg List.length (congrArg List.flatten (List.take_append_drop (k+1) l))
 rw [List.flatten_append] at h2
 simp only [List.length_append] at h1 h2
 omega
theorem Ds (b:Nat)(o:Aq)(v:Value)(a:Option Addr)(ha:a=none∨a=some ⟨b,0,none⟩)(R:List HO)(l:List Aq)(hl:l.length≤100)(hb:o.length+l.flatten.length≤Wt):Bw Tryz.prog 210 (.row v (D8 o).length 5 1 :: .box b 216 (.val (.pointer a) :: .row v 1 (D8 o)::Oi b)::R) [.val (.pointer (some ⟨b,0,none⟩)),.sl 1 (sc l)] (WQ b (o++l.flatten) R):=by
 refine Bw.body (n:=18) tok Tryz.func210 rfl rfl rfl ?_
 refine Ad (Qp K4 ?_)
 refine Qp (Ax (n:=l.length) tok rfl rfl rfl (by simp [sc])) ?_
 refine Qp A4 (Aa (AW.block ?_))
 refine AW.Aat (fun (p:Nat×Aq×Value×Option Addr)=>(⟨[(0,.val (.pointer (some ⟨b,0,none⟩))),(6,.sl 1 (sc l)),(7,.int .i64 l.length),(8,.int .i64 (p.1:Int))],(.row p.2.2.1 (D8 p.2.1).length 5 1 :: .box b 216 (.val (.pointer p.2.2.2) :: .row p.2.2.1 1 (D8 p.2.1)::Oi b)::R),18⟩:St)) (fun (p:Nat×Aq×Value×Option Addr)=>p.1≤l.length∧p.2.1=o++(l.take p.1).flatten∧(p.2.2.2=none∨p.2.2.2=some ⟨b,0,none⟩)) (fun (p:Nat×Aq×Value×Option Addr)=>l.length-p.1) ((0,o,v,a)) ?_ (GS.weaken ⟨rfl,rfl,rfl,rfl,trivial⟩ (.refl _)) ?_
 · exact ⟨Nat.zero_le _,by simp,ha⟩
 ·
  rintro p hR
  refine Ad (Qp B7 (Aa (AW.seq (Au (fun hc1=>?_) fun hc1=>?_))))
  ·
   obtain ⟨x,hx⟩:=aX (l:=l) (k:=p.1) (by have:=of_decide_eq_true hc1;omega)
   have hlt:=Jr hx
   have hle:=sF hx
   refine Bl (AW.seq (AW.block (Ad ?_)))
   refine Qp (Ag (c:=[.str _]) tok rfl rfl rfl rfl rfl rfl (by omega) (sc_at hx)) ?_
   refine Qp Df (Qp Db (Aa (AW.region (Qp Br ?_))))
   refine Qp (Ak rfl) ?_
   refine Qp Cb (Qp Dh ?_)
   refine Qe (Al (by kernel_rfl) rfl rfl (qU b 216 p.2.2.2 hR.2.2 p.2.2.1 p.2.1 x (Oi b) (wlies b) (by rw [hR.2.1,List.length_append];unfold Wt at hb;omega) R)) ?_
   rintro _ _ ⟨v16,rfl,rfl⟩
   refine AOL.nil (Bc (Af (AW.region (Qp Ei (Qp A4 (Aa ?_))))))
   refine ⟨(p.1+1,p.2.1++x,v16,some ⟨b,0,none⟩),?_,?_,GS.weaken ⟨rfl,rfl,rfl,rfl,trivial⟩ (.refl _)⟩
   · exact ⟨hlt,by rw [Vs hx,←List.append_assoc,←hR.2.1],.inr rfl⟩
   · simp only;omega
  ·
   have hk:l.length≤p.1:=by have:=of_decide_eq_false hc1;omega
   refine AW.exit ?_
   refine A7 (A7 (Bp ?_))
   refine ⟨.inl rfl,[],.nil,_,.refl _,?_⟩
   exact wq hR.2.2 (by rw [hR.2.1,List.take_of_length_le hk])

end Go.Proofs.YtckhoadldibflaaGreatDoor
