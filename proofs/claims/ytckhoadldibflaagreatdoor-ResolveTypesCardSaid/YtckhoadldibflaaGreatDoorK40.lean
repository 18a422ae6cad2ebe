/-
  Several texts in one: G14, Ab, B14. No condition.
-/
import Derived.Test.YtckhoadldibflaaGreatDoorK01
import Derived.Test.YtckhoadldibflaaGreatDoorAx
import Derived.Test.YtckhoadldibflaaGreatDoorCards
import Derived.Test.YtckhoadldibflaaGreatDoorTie
import Derived.Test.YtckhoadldibflaaGreatDoorK04
import Derived.Test.YtckhoadldibflaaGreatDoorK14
import Derived.Deep.DeepHandedRow
import Derived.Lib.LaidTab
import Derived.OpenShut
import Derived.Test.YtckhoadldibflaaGreatDoorRows
import Derived.Test.YtckhoadldibflaaGreatDoorK02
import Derived.Test.YtckhoadldibflaaGreatDoorK21
import Derived.JoinedCond
import Derived.ProofKit
set_option linter.unusedVariables false
set_option linter.unusedSimpArgs false
namespace Go.Proofs.YtckhoadldibflaaGreatDoor
open Go Go.Aw Go.ChangeShapes Go.WideShapes Go.ChangeAt Go.RowKit
set_option maxRecDepth 100000

theorem laid:laidOutB Tryz.prog=true:=by kernel_rfl
theorem own:ownKnob Tryz.prog.godebug=none:=by kernel_rfl
def fL:AV→Value
 | .str s=>.string ⟨s.toArray⟩
 | .int k n=>.int k n
 | .bool b=>.bool b
 | _=>.int .i64 0
def opsOf (l:List (Aq×Int)):List AV:=l.flatMap fun x=>[.str x.1,.int .i64 x.2]
def kS:List AV→List (Aq×Int)
 | .str s :: .int _ n::r=>(s,n)::kS r
 | _=>[]
def N2 (W:World)(gl:Nat)(l:List AV):Prop:=Rep g0 W (.pointer (some ⟨gl,0,none⟩)) (.ptr l)
def X0:AV→Bool
 | .str s=>decide (s.length≤maxLen)
 | .int _ _=>true
 | .bool _=>true
 | _=>false
theorem gY {g:Gh}{w:World}{x:AV}(h:X0 x=true):Rep g w (fL x) x:=by
 cases x <;> simp only [X0,Bool.false_eq_true,decide_eq_true_eq] at h
 all_goals first | exact .int _ _ | exact .bool _ | exact Ob h
theorem Rl {W:World}{n:String}{gl:Nat}{cs:Array Value}{l:List AV}(hn:Tryz.prog.globalNamed n=some gl)(hv:W.var? Tryz.prog n=some cs)(hc:cs.toList=l.map fL)(hp:l.all X0=true):N2 W gl l:=by
 have hcell:∀j,W.cell? ⟨gl,j,none⟩=cs[j]? :=fun j=>World.var?_cell hn hv j
 refine .ptr gl 0 _ (fun j=>(l[j]?.map fL).getD default) (fun j x hj=>?_) (fun j x hj=>?_)
 ·
  refine ⟨trivial,?_⟩
  rw [Nat.zero_add,hcell j,←Array.getElem?_toList,hc,List.getElem?_map,hj]
  simp
 ·
  simp only [hj,Option.map_some,Option.getD_some]
  exact gY (List.all_eq_true.1 hp _ (List.mem_of_getElem? hj))
theorem Vd {H:Type}{enc:TypeId×Value→H}{P:Program}{w:World}{base:Nat}{sp:Nat→Bool}{held:Bool}{Bb:Nat}{t e:TypeId}{n:Nat}{cs:List Value}{ss:List Aq}{p:List MemPlace}
    (ht:P.underlying t=some (.array n e)) (he:P.underlying e=some .string) (hce:P.cellsOf e=1) (hct:P.cellsOf t=n)
    (h:DataW.trod enc P w base sp held Bb t cs=some (.agg (ss.map fun s=>.lit (.string s)),p)):cs=ss.map fun s=>Value.string ⟨s.toArray⟩:=by
  cases Bb with
  | zero=>simp [DataW.trod] at h
  | succ Bb=>
    simp only [DataW.trod,ht,hce,hct,Nat.mul_one] at h
    split at h
    · rename_i hl
      obtain ⟨xs,hm,hx⟩:=Option.map_eq_some_iff.1 h
      have hxs:xs.map (·.1)=ss.map fun s=>(DataW.lit (.string s):DataW H):=by
        have:=congrArg Prod.fst hx
        simpa using this
      have hxl:xs.length=n:=by simpa using Lib.mapM_length hm
      have hzl:ss.length=n:=by
        have:=congrArg List.length hxs
        simp at this
        omega
      apply List.ext_getElem?
      intro i
      by_cases hi:i<n
      · obtain ⟨b,hb,hf⟩:=Lib.mapM_at hm i i (by simp [hi])
        obtain ⟨z,hc,rfl,_⟩:=DataW.trod_string he hf
        have h1:cs[i]? = some (.string z):=by
          have:=congrArg (·[0]?) hc
          simpa [List.getElem?_take,List.getElem?_drop] using this
        have h2:(xs.map (·.1))[i]? = some (DataW.lit (.string z.data.toList):DataW H):=by simp [hb]
        rw [hxs] at h2
        simp only [List.getElem?_map,Option.map_eq_some_iff,DataW.lit.injEq,Lit.string.injEq] at h2
        obtain ⟨z',hz',rfl⟩:=h2
        simp [h1,hz']
      · rw [List.getElem?_eq_none (by omega),List.getElem?_eq_none (by simp;omega)]
    · cases h
theorem nF {α β:Type}(f g:α→β):∀(ss:List α) (cs:List β),cs.length=2*ss.length→(∀i x,ss[i]? = some x→(cs.drop (i*2)).take 2 = [f x,g x])→cs=ss.flatMap fun x=>[f x,g x]
  | [],cs,hl,_=>by simpa using hl
  | x::ss,cs,hl,h=>by
    have h0:=h 0 x rfl
    match cs,hl with
    | a::b::r,hl=>
      simp at h0
      obtain ⟨rfl,rfl⟩:=h0
      have:=nF f g ss r (by simp at hl;omega) (fun i y hy=>by
        have:=h (i+1) y (by simpa using hy)
        rwa [show (i+1)*2=i*2+1+1 by omega,List.drop_succ_cons,List.drop_succ_cons] at this)
      simp [←this]
    | [],hl=>simp at hl
    | [_],hl=>simp at hl;omega
theorem I4 {H:Type}{enc:TypeId×Value→H}{P:Program}{w:World}{base:Nat}{sp:Nat→Bool}{held:Bool}{Bb:Nat}{t e:TypeId}{n:Nat}{cs:List Value}{ss:List (Aq×Int)}{p:List MemPlace}{f0 f1:Field}
    (ht:P.underlying t=some (.array n e)) (he:P.underlying e=some (.struct #[f0,f1])) (o0:f0.offset=0) (o1:f1.offset=1) (t0:P.underlying f0.type=some .string) (t1:P.underlying f1.type=some (.int .i64)) (c0:P.cellsOf f0.type=1) (c1:P.cellsOf f1.type=1) (hce:P.cellsOf e=2) (hct:P.cellsOf t=n*2)
    (h:DataW.trod enc P w base sp held Bb t cs=some (.agg (ss.map fun s=>.agg [.lit (.string s.1),.lit (.int .i64 s.2)]),p)):cs=ss.flatMap fun s=>[Value.string ⟨s.1.toArray⟩,.int .i64 s.2]:=by
  cases Bb with
  | zero=>simp [DataW.trod] at h
  | succ Bb=>
    simp only [DataW.trod,ht,hce,hct] at h
    split at h
    · rename_i hl
      obtain ⟨xs,hm,hx⟩:=Option.map_eq_some_iff.1 h
      have hxs:xs.map (·.1)=ss.map fun s=>(DataW.agg [.lit (.string s.1),.lit (.int .i64 s.2)]:DataW H):=by
        have:=congrArg Prod.fst hx
        simpa using this
      have hxl:xs.length=n:=by simpa using Lib.mapM_length hm
      have hzl:ss.length=n:=by
        have:=congrArg List.length hxs
        simp at this
        omega
      apply nF
      · omega
      intro i x hi
      have hin:i<n:=by have:=(List.getElem?_eq_some_iff.1 hi).1;omega
      obtain ⟨b,hb,hf⟩:=Lib.mapM_at hm i i (by simp [hin])
      obtain ⟨y0,y1,m,rfl,hlen,h0,h1⟩:=trod_struct2 he hf
      obtain ⟨z,hz,rfl,_⟩:=DataW.trod_string t0 h0
      obtain ⟨k,hk,rfl,_⟩:=DataW.trod_int t1 h1
      have h2:(xs.map (·.1))[i]? = some (DataW.agg [.lit (.string z.data.toList),.lit (.int .i64 k)]:DataW H):=by simp [hb]
      rw [hxs] at h2
      simp [hi] at h2
      obtain ⟨e1,e2⟩:=h2
      rw [o0,c0] at hz
      rw [o1,c1] at hk
      have hl2:((cs.drop (i*2)).take 2).length=2:=by rw [hlen,hce]
      match hq:(cs.drop (i*2)).take 2,hl2 with
      | [a,b],_=>
        rw [hq] at hz hk
        simp at hz hk
        subst hz hk
        simp [e1,e2]
    · cases h

theorem lO {α β:Type}(k:Nat)(f:α→List β)(hf:∀x,(f x).length=k):∀(ss:List α) (cs:List β),cs.length=k*ss.length→(∀i x,ss[i]? = some x→(cs.drop (i*k)).take k=f x)→cs=ss.flatMap f
  | [],cs,hl,_=>by simpa using hl
  | x::ss,cs,hl,h=>by
    have h0:=h 0 x rfl
    rw [Nat.zero_mul,List.drop_zero] at h0
    have ih:=lO k f hf ss (cs.drop k) (by rw [List.length_drop,hl,List.length_cons,Nat.mul_succ];omega) fun i y hy=>by
      have:=h (i+1) y (by simpa using hy)
      rwa [List.drop_drop,show k+i*k=(i+1)*k by rw [Nat.succ_mul,Nat.add_comm]]
    rw [List.flatMap_cons,←ih,←h0,List.take_append_drop]
theorem Sf {H:Type}{enc:TypeId×Value→H}{P:Program}{w:World}{base:Nat}{sp:Nat→Bool}{held:Bool}{Bb:Nat}{t e:TypeId}{n:Nat}{cs:List Value}{ss:List Shp}{p:List MemPlace}{f0 f1 f2 f3 f4 f5:Field}
    (ht:P.underlying t=some (.array n e)) (he:P.underlying e=some (.struct #[f0,f1,f2,f3,f4,f5])) (ho:f0.offset=0∧f1.offset=1∧f2.offset=2∧f3.offset=3∧f4.offset=4∧f5.offset=5)
    (t0:P.underlying f0.type=some (.int .i64)) (t1:P.underlying f1.type=some (.int .i64)) (t2:P.underlying f2.type=some .bool) (t3:P.underlying f3.type=some .bool) (t4:P.underlying f4.type=some .bool) (t5:P.underlying f5.type=some .bool)
    (hcc:P.cellsOf f0.type=1∧P.cellsOf f1.type=1∧P.cellsOf f2.type=1∧P.cellsOf f3.type=1∧P.cellsOf f4.type=1∧P.cellsOf f5.type=1) (hce:P.cellsOf e=6) (hct:P.cellsOf t=n*6)
    (h:DataW.trod enc P w base sp held Bb t cs=some (.agg (ss.map fun s=>.agg [.lit (.int .i64 s.least),.lit (.int .i64 s.most),.lit (.bool s.typed),.lit (.bool s.cond),.lit (.bool s.scope),.lit (.bool s.span)]),p)) :
    cs=ss.flatMap fun s=>[Value.int .i64 s.least,.int .i64 s.most,.bool s.typed,.bool s.cond,.bool s.scope,.bool s.span]:=by
  cases Bb with
  | zero=>simp [DataW.trod] at h
  | succ Bb=>
    simp only [DataW.trod,ht,hce,hct] at h
    split at h
    · rename_i hl
      obtain ⟨xs,hm,hx⟩:=Option.map_eq_some_iff.1 h
      have hxs:xs.map (·.1)=ss.map fun s=>(DataW.agg [.lit (.int .i64 s.least),.lit (.int .i64 s.most),.lit (.bool s.typed),.lit (.bool s.cond),.lit (.bool s.scope),.lit (.bool s.span)]:DataW H):=by
        have:=congrArg Prod.fst hx
        simpa using this
      have hxl:xs.length=n:=by simpa using Lib.mapM_length hm
      have hzl:ss.length=n:=by
        have:=congrArg List.length hxs
        simp at this
        omega
      apply lO 6 _ (fun _=>rfl)
      · omega
      intro i x hi
      have hin:i<n:=by have:=(List.getElem?_eq_some_iff.1 hi).1;omega
      obtain ⟨b,hb,hf⟩:=Lib.mapM_at hm i i (by simp [hin])
      obtain ⟨ys,m,_,rfl,hlen,hyl,hfs⟩:=DataW.trod_struct he hf
      match ys,hyl with
      | [y0,y1,y2,y3,y4,y5],_=>
        obtain ⟨o0,o1,o2,o3,o4,o5⟩:=ho
        obtain ⟨c0,c1,c2,c3,c4,c5⟩:=hcc
        obtain ⟨k0,e0,rfl,_⟩:=DataW.trod_int t0 (show _=some y0 by simpa using hfs 0 f0 rfl)
        obtain ⟨k1,e1,rfl,_⟩:=DataW.trod_int t1 (show _=some y1 by simpa using hfs 1 f1 rfl)
        obtain ⟨k2,e2,rfl⟩:=DataW.trod_bool t2 (show _=some y2 by simpa using hfs 2 f2 rfl)
        obtain ⟨k3,e3,rfl⟩:=DataW.trod_bool t3 (show _=some y3 by simpa using hfs 3 f3 rfl)
        obtain ⟨k4,e4,rfl⟩:=DataW.trod_bool t4 (show _=some y4 by simpa using hfs 4 f4 rfl)
        obtain ⟨k5,e5,rfl⟩:=DataW.trod_bool t5 (show _=some y5 by simpa using hfs 5 f5 rfl)
        have h2:(xs.map (·.1))[i]? = some (DataW.agg [.lit (.int .i64 k0),.lit (.int .i64 k1),.lit (.bool k2),.lit (.bool k3),.lit (.bool k4),.lit (.bool k5)]:DataW H):=by simp [hb]
        rw [hxs] at h2
        simp [hi] at h2
        obtain ⟨q0,q1,q2,q3,q4,q5⟩:=h2
        rw [o0,c0] at e0;rw [o1,c1] at e1;rw [o2,c2] at e2;rw [o3,c3] at e3;rw [o4,c4] at e4;rw [o5,c5] at e5
        have hl2:((cs.drop (i*6)).take 6).length=6:=by rw [hlen,hce]
        match hq:(cs.drop (i*6)).take 6,hl2 with
        | [a,b,c,d,e,f],_=>
          rw [hq] at e0 e1 e2 e3 e4 e5
          simp at e0 e1 e2 e3 e4 e5
          subst e0 e1 e2 e3 e4 e5
          simp [q0,q1,q2,q3,q4,q5]
    · cases h
theorem lY {W : World} {r : List (String × DataW Unit)} {ps : List MemPlace} (h : DataW.LaidVars Tryz.prog W (("tidegate/lexer.signs", Rows.laid_tidegate_lexer_signs) :: r) ps) : N2 W 4 Hz ∧ ∃ q, DataW.LaidVars Tryz.prog W r q := by
 obtain ⟨g',t',cs,Bb,p,q,hg',ht',hvar,hd,hr,_⟩:=h
 obtain rfl := Option.some.inj ((show Tryz.prog.globalNamed "tidegate/lexer.signs" = some 4 by kernel_rfl).symm.trans hg')
 obtain rfl:=Option.some.inj ((show (Tryz.prog.globals[4]?).map (·.type)=some 306 by kernel_rfl).symm.trans ht')
 have:=Vd (ss:=Hz.filterMap fun | .str s=>some s | _=>none) (n:=17) (e:=9) (by kernel_rfl) (by kernel_rfl) (by kernel_rfl) (by kernel_rfl) hd
 exact ⟨Rl (n := "tidegate/lexer.signs") (by kernel_rfl) hvar (by rw [this]; rfl) (by decide), q, hr⟩
theorem Aac {W : World} {r : List (String × DataW Unit)} {ps : List MemPlace} (h : DataW.LaidVars Tryz.prog W (("tidegate/parser.ors", Rows.laid_tidegate_parser_ors) :: r) ps) : N2 W 1 Mn ∧ ∃ q, DataW.LaidVars Tryz.prog W r q := by
 obtain ⟨g',t',cs,Bb,p,q,hg',ht',hvar,hd,hr,_⟩:=h
 obtain rfl := Option.some.inj ((show Tryz.prog.globalNamed "tidegate/parser.ors" = some 1 by kernel_rfl).symm.trans hg')
 obtain rfl:=Option.some.inj ((show (Tryz.prog.globals[1]?).map (·.type)=some 270 by kernel_rfl).symm.trans ht')
 have := I4 (ss := kS Mn) (n := 1) (e := 269) (by kernel_rfl) (show Tryz.prog.underlying 269 = some (.struct #[⟨ "text", 9, 0, false, "", "tidegate/parser", 0⟩, ⟨ "op", 3, 1, false, "", "tidegate/parser", 16⟩]) by kernel_rfl) rfl rfl (by kernel_rfl) (by kernel_rfl) (by kernel_rfl) (by kernel_rfl) (by kernel_rfl) (by kernel_rfl) hd
 exact ⟨Rl (n := "tidegate/parser.ors") (by kernel_rfl) hvar (by rw [this]; rfl) (by decide), q, hr⟩
theorem tT {W : World} {r : List (String × DataW Unit)} {ps : List MemPlace} (h : DataW.LaidVars Tryz.prog W (("tidegate/parser.ands", Rows.laid_tidegate_parser_ands) :: r) ps) : N2 W 3 Kv ∧ ∃ q, DataW.LaidVars Tryz.prog W r q := by
 obtain ⟨g',t',cs,Bb,p,q,hg',ht',hvar,hd,hr,_⟩:=h
 obtain rfl := Option.some.inj ((show Tryz.prog.globalNamed "tidegate/parser.ands" = some 3 by kernel_rfl).symm.trans hg')
 obtain rfl:=Option.some.inj ((show (Tryz.prog.globals[3]?).map (·.type)=some 270 by kernel_rfl).symm.trans ht')
 have := I4 (ss := kS Kv) (n := 1) (e := 269) (by kernel_rfl) (show Tryz.prog.underlying 269 = some (.struct #[⟨ "text", 9, 0, false, "", "tidegate/parser", 0⟩, ⟨ "op", 3, 1, false, "", "tidegate/parser", 16⟩]) by kernel_rfl) rfl rfl (by kernel_rfl) (by kernel_rfl) (by kernel_rfl) (by kernel_rfl) (by kernel_rfl) (by kernel_rfl) hd
 exact ⟨Rl (n := "tidegate/parser.ands") (by kernel_rfl) hvar (by rw [this]; rfl) (by decide), q, hr⟩
theorem uK {W : World} {r : List (String × DataW Unit)} {ps : List MemPlace} (h : DataW.LaidVars Tryz.prog W (("tidegate/parser.sums", Rows.laid_tidegate_parser_sums) :: r) ps) : N2 W 6 Kp ∧ ∃ q, DataW.LaidVars Tryz.prog W r q := by
 obtain ⟨g',t',cs,Bb,p,q,hg',ht',hvar,hd,hr,_⟩:=h
 obtain rfl := Option.some.inj ((show Tryz.prog.globalNamed "tidegate/parser.sums" = some 6 by kernel_rfl).symm.trans hg')
 obtain rfl:=Option.some.inj ((show (Tryz.prog.globals[6]?).map (·.type)=some 316 by kernel_rfl).symm.trans ht')
 have := I4 (ss := kS Kp) (n := 2) (e := 269) (by kernel_rfl) (show Tryz.prog.underlying 269 = some (.struct #[⟨ "text", 9, 0, false, "", "tidegate/parser", 0⟩, ⟨ "op", 3, 1, false, "", "tidegate/parser", 16⟩]) by kernel_rfl) rfl rfl (by kernel_rfl) (by kernel_rfl) (by kernel_rfl) (by kernel_rfl) (by kernel_rfl) (by kernel_rfl) hd
 exact ⟨Rl (n := "tidegate/parser.sums") (by kernel_rfl) hvar (by rw [this]; rfl) (by decide), q, hr⟩
theorem jB {W : World} {r : List (String × DataW Unit)} {ps : List MemPlace} (h : DataW.LaidVars Tryz.prog W (("tidegate/parser.totals", Rows.laid_tidegate_parser_totals) :: r) ps) : N2 W 8 Gv ∧ ∃ q, DataW.LaidVars Tryz.prog W r q := by
 obtain ⟨g',t',cs,Bb,p,q,hg',ht',hvar,hd,hr,_⟩:=h
 obtain rfl := Option.some.inj ((show Tryz.prog.globalNamed "tidegate/parser.totals" = some 8 by kernel_rfl).symm.trans hg')
 obtain rfl:=Option.some.inj ((show (Tryz.prog.globals[8]?).map (·.type)=some 321 by kernel_rfl).symm.trans ht')
 have := I4 (ss := kS Gv) (n := 4) (e := 269) (by kernel_rfl) (show Tryz.prog.underlying 269 = some (.struct #[⟨ "text", 9, 0, false, "", "tidegate/parser", 0⟩, ⟨ "op", 3, 1, false, "", "tidegate/parser", 16⟩]) by kernel_rfl) rfl rfl (by kernel_rfl) (by kernel_rfl) (by kernel_rfl) (by kernel_rfl) (by kernel_rfl) (by kernel_rfl) hd
 exact ⟨Rl (n := "tidegate/parser.totals") (by kernel_rfl) hvar (by rw [this]; rfl) (by decide), q, hr⟩
theorem gM {W : World} {r : List (String × DataW Unit)} {ps : List MemPlace} (h : DataW.LaidVars Tryz.prog W (("tidegate/pattern.shapes", Rows.laid_tidegate_pattern_shapes) :: r) ps) : N2 W 0 Of ∧ ∃ q, DataW.LaidVars Tryz.prog W r q := by
 obtain ⟨g',t',cs,Bb,p,q,hg',ht',hvar,hd,hr,_⟩:=h
 obtain rfl := Option.some.inj ((show Tryz.prog.globalNamed "tidegate/pattern.shapes" = some 0 by kernel_rfl).symm.trans hg')
 obtain rfl:=Option.some.inj ((show (Tryz.prog.globals[0]?).map (·.type)=some 181 by kernel_rfl).symm.trans ht')
 have := Sf (ss := shpL) (n := 11) (e := 180) (by kernel_rfl) (show Tryz.prog.underlying 180 = some (.struct #[⟨ "least", 3, 0, false, "", "tidegate/pattern", 0⟩, ⟨ "most", 3, 1, false, "", "tidegate/pattern", 8⟩, ⟨ "typed", 4, 2, false, "", "tidegate/pattern", 16⟩, ⟨ "cond", 4, 3, false, "", "tidegate/pattern", 17⟩, ⟨ "scope", 4, 4, false, "", "tidegate/pattern", 18⟩, ⟨ "span", 4, 5, false, "", "tidegate/pattern", 19⟩]) by kernel_rfl) ⟨rfl, rfl, rfl, rfl, rfl, rfl⟩ (by kernel_rfl) (by kernel_rfl) (by kernel_rfl) (by kernel_rfl) (by kernel_rfl) (by kernel_rfl) ⟨by kernel_rfl, by kernel_rfl, by kernel_rfl, by kernel_rfl, by kernel_rfl, by kernel_rfl⟩ (by kernel_rfl) (by kernel_rfl) hd
 exact ⟨Rl (n := "tidegate/pattern.shapes") (by kernel_rfl) hvar (by rw [this]; rfl) (by decide), q, hr⟩
def Qt:List Int:=[1,10,100,1000,10000,100000,1000000,10000000,100000000,1000000000,10000000000,100000000000,1000000000000,10000000000000,100000000000000,1000000000000000,10000000000000000,100000000000000000,1000000000000000000,10000000000000000000]
theorem fG {W:World}{n:String}{d:DataW Unit}{r:List (String×DataW Unit)}{ps:List MemPlace}(h:DataW.LaidVars Tryz.prog W ((n,d)::r) ps):∃q,DataW.LaidVars Tryz.prog W r q:=by
 obtain ⟨g',t',cs,Bb,p,q,hg',ht',hvar,hd,hr,_⟩:=h
 exact ⟨q,hr⟩
theorem yM {W : World} {r : List (String × DataW Unit)} {ps : List MemPlace} (h : DataW.LaidVars Tryz.prog W (("internal/strconv.uint64pow10", Rows.laid_internal_strconv_uint64pow10) :: r) ps) : Lib.TabIs Tryz.prog W "internal/strconv.uint64pow10" .u64 Qt ∧ ∃ q, DataW.LaidVars Tryz.prog W r q := by
 obtain ⟨g',t',cs,Bb,p,q,hg',ht',hvar,hd,hr,_⟩:=h
 obtain rfl := Option.some.inj ((show Tryz.prog.globalNamed "internal/strconv.uint64pow10" = some 7 by kernel_rfl).symm.trans hg')
 obtain rfl:=Option.some.inj ((show (Tryz.prog.globals[7]?).map (·.type)=some 318 by kernel_rfl).symm.trans ht')
 have:=Lib.cells_of_tab (k:=.u64) (zs:=Qt) (n:=20) (e:=298) (by kernel_rfl) (by kernel_rfl) (by kernel_rfl) (by kernel_rfl) hd
 refine ⟨?_,q,hr⟩
 unfold Lib.TabIs
 rw [hvar,←this]
theorem mN {W : World} (h : Lib.TabIs Tryz.prog W "internal/strconv.uint64pow10" .u64 Qt) : ∃ T fr, W.heap[7]? = some (.cells (Qt.map fun z => Value.int .u64 z).toArray T fr) := by
 have e : Tryz.prog.globalNamed "internal/strconv.uint64pow10" = some 7 := by kernel_rfl
 unfold Lib.TabIs World.var? at h
 rw [e] at h
 have hk:∀(X:Array Value) (o:Option Obj),(match o with | some (Obj.cells cs _ _)=>some cs | _=>none)=some X→∃T fr,o=some (Obj.cells X T fr):=by
  intro X o h
  match o,h with
  | some (Obj.cells cs T fr),h=>exact ⟨T,fr,by rw [Option.some.inj h]⟩
 exact hk _ _ h
theorem xK {W:World}(h:laidMet Tryz.prog Rows.resolveTypesRow.laid W)(hS:W.ShapedOpen Tryz.prog):GlobOK g0 W:=by
  obtain ⟨ps,h,_⟩:=h
  obtain ⟨ps,h⟩:=fG h
  obtain ⟨ps,h⟩:=fG h
  obtain ⟨ht,ps,h⟩:=yM h
  obtain ⟨hsigns,ps,h⟩:=lY h
  obtain ⟨hors,ps,h⟩:=Aac h
  obtain ⟨hands,ps,h⟩:=tT h
  obtain ⟨hsums,ps,h⟩:=uK h
  obtain ⟨htotals,ps,h⟩:=jB h
  obtain ⟨hshapes,ps,h⟩:=gM h
  refine ⟨fun p hp=>?_,fun p hp=>?_⟩
  · simp only [globals,List.mem_cons,List.not_mem_nil,or_false] at hp
    rcases hp with rfl | rfl | rfl | rfl | rfl | rfl | rfl | rfl
    · exact ⟨_,rfl,hsigns⟩
    · exact ⟨_,rfl,hors⟩
    · exact ⟨_,rfl,hands⟩
    · exact ⟨_,rfl,hsums⟩
    · exact ⟨_,rfl,htotals⟩
    · skip
      refine ⟨Nv,rfl,?_⟩
      have hcell : ∀ j, W.cell? ⟨7, j, none⟩ = (Qt.map fun z => Value.int .u64 z).toArray[j]? := fun j => World.var?_cell (show Tryz.prog.globalNamed "internal/strconv.uint64pow10" = some 7 by kernel_rfl) ht j
      have hs:Nv=Qt.map fun z=>AV.int .u64 z:=rfl
      rw [hs]
      refine .ptr 7 0 _ (fun j=>Value.int .u64 (Qt.getD j 0)) (fun j x hj=>?_) (fun j x hj=>?_)
      · rw [List.getElem?_map] at hj
        cases hq:Qt[j]? with
        | none=>rw [hq] at hj;cases hj
        | some y=>
          refine ⟨trivial,?_⟩
          rw [Nat.zero_add,hcell j]
          simp [hq,List.getD_eq_getElem?_getD]
      · rw [List.getElem?_map] at hj
        cases hq:Qt[j]? with
        | none=>rw [hq] at hj;cases hj
        | some y=>
          rw [hq] at hj
          simp only [Option.map_some,Option.some.injEq] at hj
          subst hj
          have e:Qt.getD j 0=y:=by rw [List.getD_eq_getElem?_getD,hq];rfl
          rw [e]
          exact .int _ _
    · exact ⟨_,rfl,hshapes⟩
    · obtain ⟨m,hm⟩:=Tryz.laysM144.s1_3 W hS
      refine ⟨[.int .i64 m],⟨m,rfl⟩,.ptr 5 0 _ (fun _=>.int .i64 m) (fun j x hj=>?_) (fun j x hj=>?_)⟩
      · have hj0:j=0:=by have:=(List.getElem?_eq_some_iff.1 hj).1;simp at this;omega
        subst hj0
        exact ⟨trivial,hm⟩
      · have hj0:j=0:=by have:=(List.getElem?_eq_some_iff.1 hj).1;simp at this;omega
        subst hj0
        simp only [List.getElem?_cons_zero,Option.some.injEq] at hj
        subst hj
        exact .int _ _
  · obtain rfl:=List.mem_singleton.1 hp
    exact ⟨rfl,mN ht⟩
def bD (k:IntKind)(l:List Int):Obj→Obj
 | .cells _ t frozen=>.cells (l.map fun z=>Value.int k z).toArray t frozen
 | o=>o
def wV (d:DataW Unit):List Int:=match d with
 | .agg l=>l.map fun | .lit (.int _ n)=>n | _=>0
 | _=>[]
def Kt (l:List AV):Obj→Obj
 | .cells _ t frozen=>.cells (l.map fL).toArray t frozen
 | o=>o
noncomputable def laidWorld (os:Os):World:=
 { World.holding Tryz.prog os ⟨#[],#[],[]⟩ with heap:=((((((((((World.holding Tryz.prog os ⟨#[],#[],[]⟩).heap.modify 4 (Kt Hz)).modify 1 (Kt Mn)).modify 3 (Kt Kv)).modify 6 (Kt Kp)).modify 8 (Kt Gv)).modify 0 (Kt Of)).modify 7 (bD .u64 Qt)).modify 9 (bD .u8 (wV Rows.laid_math_bits_deBruijn32tab))).modify 10 (bD .u8 (wV Rows.laid_math_bits_deBruijn64tab))) }
end Go.Proofs.YtckhoadldibflaaGreatDoor

namespace Go.Aw
open Go
section
variable {H:Type} {enc:TypeId×Value→H} {P:Program} {w:World} {sp:Nat→Bool} {hd:Bool} {B:DataW H→Nat} {BA:List (DataW H)→Nat}
end
end Go.Aw

namespace Go.Proofs.YtckhoadldibflaaGreatDoor
open Go Go.Aw
set_option maxRecDepth 20000

theorem U4 {H:Type}:Bulk (Rows.uptoBulk (H:=H)) Rows.uptoBulkAll where
 nil:=by simp [Rows.uptoBulkAll]
 cons:=by intro x r;simp [Rows.uptoBulkAll]
 agg:=by intro ps;simp [Rows.uptoBulk]
 slice:=by intro es sp;simp only [Rows.uptoBulk];omega
 str:=by intro s;simp [Rows.uptoBulk]
 one:=by
  intro d
  cases d with
  | lit l=>cases l <;> simp [Rows.uptoBulk]
  | _=>simp [Rows.uptoBulk]
theorem u_Sy : Tryz.prog.underlying 25 = some (.struct #[⟨ "Kind", 3, 0, false, "", "", 0⟩, ⟨ "Text", 9, 1, false, "", "", 8⟩, ⟨ "Name", 9, 2, false, "", "", 24⟩, ⟨ "Num", 3, 3, false, "", "", 40⟩, ⟨ "Kids", 23, 4, false, "", "", 48⟩, ⟨ "At", 3, 5, false, "", "", 72⟩]) := by kernel_rfl
theorem z_Sy:Tryz.prog.cellsOf 25=6:=by kernel_rfl
theorem u_Sys:Tryz.prog.underlying 23=some (.slice 25):=by kernel_rfl
theorem z_Sys:Tryz.prog.cellsOf 23=1:=by kernel_rfl
def I64 (n:Int):Prop:=-9223372036854775808≤n∧n≤9223372036854775807
theorem Aad {n:Int}(h:(Lit.int .i64 n).wf=true):I64 n:=by
 have h1:(decide (-9223372036854775808≤n)&&decide (n≤9223372036854775807))=true:=h
 simp only [Bool.and_eq_true,decide_eq_true_eq] at h1
 exact h1
def scN (s:e8Sc):Nat:=s.name.length+(s.fields.map fun f=>f.name.length+1).sum+1
def tysN (l:List e8Sc):Nat:=(l.map scN).sum+1
section
variable {H:Type} {enc:TypeId×Value→H} {w:World} {sp:Nat→Bool} {hd:Bool}
abbrev R (enc:TypeId×Value→H)(w:World)(sp:Nat→Bool)(hd:Bool){α:Type}(Bb:Nat)(t:TypeId)(f:α→List AV)(ok:α→Prop)(bk:α→Nat):Prop:=Rd enc Tryz.prog w sp hd Rows.uptoBulk Bb t f ok bk
theorem rI (Bb:Nat):R enc w sp hd Bb 3 (fun n:Int=>[.int .i64 n]) I64 (fun _=>1):=(Rd.int (k:=.i64) (by kernel_rfl) U4).congr rfl (fun _ h=>Aad h) (fun _=>Nat.le_refl _)
theorem rS (Bb:Nat):R enc w sp hd Bb 9 (fun s:List UInt8=>[.str s]) (fun s=>s.length≤maxLen) (fun s=>s.length+1):=Rd.str (by kernel_rfl) U4
theorem z3:Tryz.prog.cellsOf 3=1:=by kernel_rfl
theorem z9:Tryz.prog.cellsOf 9=1:=by kernel_rfl
theorem pJ:Cl=cSyn:=funext Bi
theorem rSy (Bb:Nat):R enc w sp hd Bb 25 cSyn (fun _=>True) (fun _=>0):=by
  induction Bb using Nat.strongRecOn with
  | _ n ih=>
    exact (Rd.struct' u_Sy U4 rfl (by kernel_rfl) (by kernel_rfl) fun m hm=>Rds.cons U4 z3 (rI m) <| Rds.cons U4 z9 (rS m) <| Rds.cons U4 z9 (rS m) <| Rds.cons U4 z3 (rI m) <|
      Rds.cons U4 z_Sys (Rd.slice' (z:=6) u_Sys z_Sy (by decide) U4 fun k hk=>ih k (Nat.lt_trans hk hm)) <| Rds.cons U4 z3 (rI m) Rds.nil).map
      (fun x=>(⟨x.1,x.2.1,x.2.2.1,x.2.2.2.1,x.2.2.2.2.1,x.2.2.2.2.2.1⟩:Syn)) (fun x=>by simp [cSyn,pJ]) (fun _ _=>trivial) (fun x=>Nat.zero_le _)
end
end Go.Proofs.YtckhoadldibflaaGreatDoor
