/-
  Several texts in one: EM7, EM8, EM9, Shelf, C, W1, W2. No condition.
-/
import Derived.Test.YtckhoadldibflaaGreatDoorK03
import Derived.Shelf.Small.Strs
import Derived.Shelf.Strconv.Itoa0
import Derived.Shelf.Strconv.Itoa1
import Derived.Shelf.LaysM
import Derived.Shelf.Strconv.Itoa2
import Derived.Shelf.Strconv.Itoa3
import Derived.Shelf.Strings.Search1
import Derived.Shelf.Strings.Search2
import Derived.Shelf.Strings.Search3
import Derived.Shelf.Strings.Shaped
import Derived.Shelf.Strings.Prefix
import Derived.Test.YtckhoadldibflaaGreatDoorProg
import Derived.Test.YtckhoadldibflaaGreatDoorK01
import Derived.Test.YtckhoadldibflaaGreatDoorTab
import Derived.KernelRfl
set_option linter.unusedVariables false
set_option linter.unusedSimpArgs false
namespace Go.Proofs.YtckhoadldibflaaGreatDoor
open Go Go.Aw


inductive Fd (f:Ex→Ex):Ex→Prop where
 | mk (e:Ex) (ha:∀a∈e.args,Fd f a) (h:f e=e):Fd f e
def okB (v:Vl):Prop:=v.kind=1→v=My (v.num==1)

def ownS (e:Ex):List Nat:=if (Gi e.op).1&&decide (0≤e.var)&&decide (e.var<16) then [e.var.toNat] else []
mutual
def vK:Ex→List Nat
 | ⟨op,args,var,field,kind,val⟩=>ownS ⟨op,args,var,field,kind,val⟩++wT args
def wT:List Ex→List Nat
 | []=>[]
 | e::r=>vK e++wT r
end
def cSeen (S:List Nat):List AV:=(List.range 16).map fun v=>.bool (S.contains v)
theorem seen_len (S:List Nat):(cSeen S).length=16:=rfl
def vQ (S:List Nat)(k:Nat):List Int:=((List.range k).filter fun v=>S.contains v).map fun (v:Nat)=>(v:Int)
theorem upto_zero (S:List Nat):vQ S 0 = []:=rfl
def varsS (e:Ex):List Int:=vQ (vK e) 16


def tvS (n b v:Nat):Int:=((v:Int)+(b:Int)).tmod (n:Int)
def toS (n b:Nat):List Int:=(List.range n).map (tvS n b)
end Go.Proofs.YtckhoadldibflaaGreatDoor

namespace Go.Proofs
open Go.Shelf
def Tryz.lays137_ren:Go.Shelf.Ren:=⟨fun | 137=>275 | 217=>301 | 266=>314 | n=>n,fun | 9=>9 | 5=>5 | 3=>3 | n=>n,fun | n=>n⟩
theorem Tryz.lays137:Go.Proofs.Lays.n137 Tryz.prog Tryz.lays137_ren:={
 mixed:=by kernel_rfl
 f137:=Tryz.func275.trans (congrArg some (by kernel_rfl))
 f217:=Tryz.func301.trans (congrArg some (by kernel_rfl))
 f266:=Tryz.func314.trans (congrArg some (by kernel_rfl))
 t3:=Tryz.underlying3
 a3:=Tryz.isAgg3
 z3:=Tryz.sizeOf3
 v3:=Tryz.zeroValue3
 t5:=Tryz.underlying5
 a5:=Tryz.isAgg5
 z5:=Tryz.sizeOf5
 v5:=Tryz.zeroValue5
 t9:=Tryz.underlying9
 a9:=Tryz.isAgg9
 z9:=Tryz.sizeOf9
 v9:=Tryz.zeroValue9 }
open Go.RowKit in
theorem Tryz.strings_IndexByte (s:ByteArray)(c:Int)(w:World) :
 Calls Tryz.prog 275 #[.string s,.int .u8 c] w fun e w'=>e = .returned (.int .i64 (Lib.indexByte s.data.toList c.toNat.toUInt8))∧w'=w:=Any.strings_IndexByte Tryz.lays137 s c w
def Tryz.lays129_ren:Go.Shelf.Ren:=⟨fun | 129=>324 | n=>n,fun | 53=>298 | 3=>3 | 4=>4 | 46=>271 | 5=>5 | 9=>9 | n=>n,fun | n=>n⟩
def Tryz.lays317_ren:Go.Shelf.Ren:=⟨fun | 317=>323 | n=>n,fun | 3=>3 | 46=>271 | n=>n,fun | n=>n⟩
def Tryz.lays318_ren:Go.Shelf.Ren:=⟨fun | 318=>325 | n=>n,fun | 3=>3 | 4=>4 | n=>n,fun | n=>n⟩
def Tryz.lays283_ren:Go.Shelf.Ren:=⟨fun | 283=>318 | n=>n,fun | 3=>3 | 9=>9 | 4=>4 | n=>n,fun | n=>n⟩
def Tryz.laysM284_ren:Go.Shelf.Ren:=⟨fun | 284=>319 | 129=>324 | 317=>323 | 318=>325 | n=>n,fun | 53=>298 | 3=>3 | 212=>318 | 0=>0 | 4=>4 | 46=>271 | 5=>5 | 9=>9 | n=>n,fun | 17=>7 | n=>n⟩
def Tryz.lays285_ren:Go.Shelf.Ren:=⟨fun | 285=>320 | n=>n,fun | 37=>205 | 53=>298 | 3=>3 | 4=>4 | 51=>295 | 9=>9 | 5=>5 | 0=>0 | n=>n,fun | n=>n⟩
def Tryz.laysM246_ren:Go.Shelf.Ren:=⟨fun | 246=>313 | 283=>318 | 284=>319 | 285=>320 | 286=>321 | 129=>324 | 317=>323 | 318=>325 | 319=>326 | 320=>327 | 337=>331 | 338=>332 | n=>n,fun | 2=>2 | 3=>3 | 9=>9 | 4=>4 | 171=>311 | 0=>0 | 53=>298 | 37=>205 | 5=>5 | 173=>314 | 212=>318 | 51=>295 | 20=>20 | 213=>319 | 46=>271 | 232=>323 | 233=>324 | n=>n,fun | 17=>7 | 18=>9 | 19=>10 | n=>n⟩
def Tryz.lays246_ren:Go.Shelf.Ren:=⟨fun | 246=>313 | 283=>318 | 284=>319 | 285=>320 | 286=>321 | 129=>324 | 317=>323 | 318=>325 | 319=>326 | 320=>327 | 337=>331 | 338=>332 | n=>n,fun | 2=>2 | 3=>3 | 9=>9 | 4=>4 | 171=>311 | 0=>0 | 53=>298 | 37=>205 | 5=>5 | 173=>314 | 212=>318 | 51=>295 | 20=>20 | 213=>319 | 46=>271 | 232=>323 | 233=>324 | n=>n,fun | 17=>7 | 18=>9 | 19=>10 | n=>n⟩
def Tryz.laysM243_ren:Go.Shelf.Ren:=⟨fun | 243=>299 | 246=>313 | 283=>318 | 284=>319 | 285=>320 | 286=>321 | 129=>324 | 317=>323 | 318=>325 | 319=>326 | 320=>327 | 337=>331 | 338=>332 | n=>n,fun | 3=>3 | 9=>9 | 2=>2 | 4=>4 | 171=>311 | 0=>0 | 53=>298 | 37=>205 | 5=>5 | 173=>314 | 212=>318 | 51=>295 | 20=>20 | 213=>319 | 46=>271 | 232=>323 | 233=>324 | n=>n,fun | 17=>7 | 18=>9 | 19=>10 | n=>n⟩
def Tryz.lays243_ren:Go.Shelf.Ren:=⟨fun | 243=>299 | 246=>313 | 283=>318 | 284=>319 | 285=>320 | 286=>321 | 129=>324 | 317=>323 | 318=>325 | 319=>326 | 320=>327 | 337=>331 | 338=>332 | n=>n,fun | 3=>3 | 9=>9 | 2=>2 | 4=>4 | 171=>311 | 0=>0 | 53=>298 | 37=>205 | 5=>5 | 173=>314 | 212=>318 | 51=>295 | 20=>20 | 213=>319 | 46=>271 | 232=>323 | 233=>324 | n=>n,fun | 17=>7 | 18=>9 | 19=>10 | n=>n⟩
def Tryz.laysM171_ren:Go.Shelf.Ren:=⟨fun | 171=>270 | 243=>299 | 246=>313 | 283=>318 | 284=>319 | 285=>320 | 286=>321 | 129=>324 | 317=>323 | 318=>325 | 319=>326 | 320=>327 | 337=>331 | 338=>332 | n=>n,fun | 3=>3 | 9=>9 | 2=>2 | 4=>4 | 171=>311 | 0=>0 | 53=>298 | 37=>205 | 5=>5 | 173=>314 | 212=>318 | 51=>295 | 20=>20 | 213=>319 | 46=>271 | 232=>323 | 233=>324 | n=>n,fun | 17=>7 | 18=>9 | 19=>10 | n=>n⟩
theorem Tryz.laysM171:Go.Proofs.LaysM.n171 Tryz.prog Tryz.laysM171_ren:={
 mixed:=by kernel_rfl
 f129:=Tryz.func324.trans (congrArg some (by kernel_rfl))
 f171:=Tryz.func270.trans (congrArg some (by kernel_rfl))
 f243:=Tryz.func299.trans (congrArg some (by kernel_rfl))
 f246:=Tryz.func313.trans (congrArg some (by kernel_rfl))
 f283:=Tryz.func318.trans (congrArg some (by kernel_rfl))
 f284:=Tryz.func319.trans (congrArg some (by kernel_rfl))
 f285:=Tryz.func320.trans (congrArg some (by kernel_rfl))
 f286:=Tryz.func321.trans (congrArg some (by kernel_rfl))
 f317:=Tryz.func323.trans (congrArg some (by kernel_rfl))
 f318:=Tryz.func325.trans (congrArg some (by kernel_rfl))
 f319:=Tryz.func326.trans (congrArg some (by kernel_rfl))
 f320:=Tryz.func327.trans (congrArg some (by kernel_rfl))
 f337:=Tryz.func331.trans (congrArg some (by kernel_rfl))
 f338:=Tryz.func332.trans (congrArg some (by kernel_rfl))
 t0:=Tryz.underlying0
 a0:=Tryz.isAgg0
 z0:=Tryz.sizeOf0
 v0:=Tryz.zeroValue0
 t2:=Tryz.underlying2
 a2:=Tryz.isAgg2
 z2:=Tryz.sizeOf2
 v2:=Tryz.zeroValue2
 t3:=Tryz.underlying3
 a3:=Tryz.isAgg3
 z3:=Tryz.sizeOf3
 v3:=Tryz.zeroValue3
 t4:=Tryz.underlying4
 a4:=Tryz.isAgg4
 z4:=Tryz.sizeOf4
 v4:=Tryz.zeroValue4
 t5:=Tryz.underlying5
 a5:=Tryz.isAgg5
 z5:=Tryz.sizeOf5
 v5:=Tryz.zeroValue5
 t9:=Tryz.underlying9
 a9:=Tryz.isAgg9
 z9:=Tryz.sizeOf9
 v9:=Tryz.zeroValue9
 t20:=Tryz.underlying20
 a20:=Tryz.isAgg20
 z20:=Tryz.sizeOf20
 v20:=Tryz.zeroValue20
 t37:=Tryz.underlying205
 a37:=Tryz.isAgg205
 z37:=Tryz.sizeOf205
 v37:=Tryz.zeroValue205
 t46:=Tryz.underlying271
 a46:=Tryz.isAgg271
 z46:=Tryz.sizeOf271
 v46:=Tryz.zeroValue271
 t51:=Tryz.underlying295
 a51:=Tryz.isAgg295
 z51:=Tryz.sizeOf295
 v51:=Tryz.zeroValue295
 t53:=Tryz.underlying298
 a53:=Tryz.isAgg298
 z53:=Tryz.sizeOf298
 v53:=Tryz.zeroValue298
 t171:=Tryz.underlying311
 a171:=Tryz.isAgg311
 z171:=Tryz.sizeOf311
 v171:=Tryz.zeroValue311
 t173:=Tryz.underlying314
 a173:=Tryz.isAgg314
 z173:=Tryz.sizeOf314
 v173:=Tryz.zeroValue314
 t212:=Tryz.underlying318
 a212:=Tryz.isAgg318
 z212:=Tryz.sizeOf318
 v212:=Tryz.zeroValue318
 t213:=Tryz.underlying319
 a213:=Tryz.isAgg319
 z213:=Tryz.sizeOf319
 t232:=Tryz.underlying323
 a232:=Tryz.isAgg323
 z232:=Tryz.sizeOf323
 v232:=Tryz.zeroValue323
 t233:=Tryz.underlying324
 a233:=Tryz.isAgg324
 z233:=Tryz.sizeOf324
 v233:=Tryz.zeroValue324
 g17:=by kernel_rfl
 g18:=by kernel_rfl
 g19:=by kernel_rfl
 i0:=by kernel_rfl
 i2:=by kernel_rfl
 i3:=by kernel_rfl
 i4:=by kernel_rfl
 i5:=by kernel_rfl
 i9:=by kernel_rfl
 i20:=by kernel_rfl
 i37:=by kernel_rfl
 i46:=by kernel_rfl
 i51:=by kernel_rfl
 i53:=by kernel_rfl
 i171:=by kernel_rfl
 i173:=by kernel_rfl
 i212:=by kernel_rfl
 i232:=by kernel_rfl
 i233:=by kernel_rfl
 m17:=by kernel_rfl
 m18:=by kernel_rfl
 m19:=by kernel_rfl }
open Go.RowKit Go.Sort Go.Lib in
theorem Tryz.strconv_Itoa (n : Int) (h0 : -9223372036854775808 ≤ n) (h1 : n ≤ 9223372036854775807) (w : World) (htab : Lib.TabIs Tryz.prog w "internal/strconv.uint64pow10" .u64 Lib.pow10Tab) :
 Calls Tryz.prog 270 #[.int .i64 n] w fun e w'=>e = .returned (.string ⟨(Lib.itoa n).toArray⟩)∧∃k os,w'=grow (w.drewN k) os:=Any.strconv_Itoa Tryz.laysM171 n h0 h1 w htab
def Tryz.lays171_ren:Go.Shelf.Ren:=⟨fun | 171=>270 | 243=>299 | 246=>313 | 283=>318 | 284=>319 | 285=>320 | 286=>321 | 129=>324 | 317=>323 | 318=>325 | 319=>326 | 320=>327 | 337=>331 | 338=>332 | n=>n,fun | 3=>3 | 9=>9 | 2=>2 | 4=>4 | 171=>311 | 0=>0 | 53=>298 | 37=>205 | 5=>5 | 173=>314 | 212=>318 | 51=>295 | 20=>20 | 213=>319 | 46=>271 | 232=>323 | 233=>324 | n=>n,fun | 17=>7 | 18=>9 | 19=>10 | n=>n⟩
def Tryz.lays217_ren:Go.Shelf.Ren:=⟨fun | 217=>301 | 266=>314 | n=>n,fun | 9=>9 | 5=>5 | 3=>3 | n=>n,fun | n=>n⟩
def Tryz.lays224_ren:Go.Shelf.Ren:=⟨fun | 224=>310 | n=>n,fun | 3=>3 | n=>n,fun | n=>n⟩
def Tryz.lays314_ren:Go.Shelf.Ren:=⟨fun | 314=>317 | n=>n,fun | 9=>9 | 51=>295 | 3=>3 | 4=>4 | 5=>5 | 46=>271 | n=>n,fun | n=>n⟩
def Tryz.lays267_ren:Go.Shelf.Ren:=⟨fun | 267=>311 | 314=>317 | n=>n,fun | 9=>9 | 3=>3 | 146=>296 | 51=>295 | 4=>4 | 5=>5 | 46=>271 | n=>n,fun | n=>n⟩
def Tryz.lays219_ren:Go.Shelf.Ren:=⟨fun | 219=>297 | 217=>301 | 225=>309 | 224=>310 | 267=>311 | 266=>314 | 314=>317 | n=>n,fun | 9=>9 | 3=>3 | 4=>4 | 5=>5 | 46=>271 | 146=>296 | 51=>295 | n=>n,fun | 1=>5 | n=>n⟩
def Tryz.lays143_ren:Go.Shelf.Ren:=⟨fun | 143=>261 | 219=>297 | 217=>301 | 225=>309 | 224=>310 | 267=>311 | 266=>314 | 314=>317 | n=>n,fun | 9=>9 | 3=>3 | 4=>4 | 5=>5 | 46=>271 | 146=>296 | 51=>295 | n=>n,fun | 1=>5 | n=>n⟩
def Tryz.lays144_ren:Go.Shelf.Ren:=⟨fun | 144=>199 | 143=>261 | 219=>297 | 217=>301 | 225=>309 | 224=>310 | 267=>311 | 266=>314 | 314=>317 | n=>n,fun | 9=>9 | 4=>4 | 3=>3 | 5=>5 | 46=>271 | 146=>296 | 51=>295 | n=>n,fun | 1=>5 | n=>n⟩
theorem Tryz.lays144:Go.Proofs.Lays.n144 Tryz.prog Tryz.lays144_ren:={
 mixed:=by kernel_rfl
 f143:=Tryz.func261.trans (congrArg some (by kernel_rfl))
 f144:=Tryz.func199.trans (congrArg some (by kernel_rfl))
 f217:=Tryz.func301.trans (congrArg some (by kernel_rfl))
 f219:=Tryz.func297.trans (congrArg some (by kernel_rfl))
 f224:=Tryz.func310.trans (congrArg some (by kernel_rfl))
 f225:=Tryz.func309.trans (congrArg some (by kernel_rfl))
 f266:=Tryz.func314.trans (congrArg some (by kernel_rfl))
 f267:=Tryz.func311.trans (congrArg some (by kernel_rfl))
 f314:=Tryz.func317.trans (congrArg some (by kernel_rfl))
 t3:=Tryz.underlying3
 a3:=Tryz.isAgg3
 z3:=Tryz.sizeOf3
 v3:=Tryz.zeroValue3
 t4:=Tryz.underlying4
 a4:=Tryz.isAgg4
 z4:=Tryz.sizeOf4
 v4:=Tryz.zeroValue4
 t5:=Tryz.underlying5
 a5:=Tryz.isAgg5
 z5:=Tryz.sizeOf5
 v5:=Tryz.zeroValue5
 t9:=Tryz.underlying9
 a9:=Tryz.isAgg9
 z9:=Tryz.sizeOf9
 v9:=Tryz.zeroValue9
 t46:=Tryz.underlying271
 a46:=Tryz.isAgg271
 z46:=Tryz.sizeOf271
 v46:=Tryz.zeroValue271
 t51:=Tryz.underlying295
 a51:=Tryz.isAgg295
 z51:=Tryz.sizeOf295
 v51:=Tryz.zeroValue295
 t146:=Tryz.underlying296
 a146:=Tryz.isAgg296
 z146:=Tryz.sizeOf296
 v146:=Tryz.zeroValue296
 g1:=by kernel_rfl }
open Go.RowKit Go.Lib in
theorem Tryz.strings_Contains (s sub:ByteArray)(m:Int)(w:World)(hs:s.size<4294967281)(hm:w.cell? ⟨5,0,none⟩=some (.int .i64 m)) :
 Calls Tryz.prog 199 #[.string s,.string sub] w fun e w'=>e = .returned (.bool (Lib.contains s.data.toList sub.data.toList))∧w'=w:=Any.strings_Contains Tryz.lays144 s sub m w hs hm
def Tryz.laysM219_ren:Go.Shelf.Ren:=⟨fun | 219=>297 | 217=>301 | 225=>309 | 224=>310 | 267=>311 | 266=>314 | 314=>317 | n=>n,fun | 9=>9 | 3=>3 | 4=>4 | 5=>5 | 46=>271 | 146=>296 | 51=>295 | n=>n,fun | 1=>5 | n=>n⟩
def Tryz.laysM143_ren:Go.Shelf.Ren:=⟨fun | 143=>261 | 219=>297 | 217=>301 | 225=>309 | 224=>310 | 267=>311 | 266=>314 | 314=>317 | n=>n,fun | 9=>9 | 3=>3 | 4=>4 | 5=>5 | 46=>271 | 146=>296 | 51=>295 | n=>n,fun | 1=>5 | n=>n⟩
def Tryz.laysM144_ren:Go.Shelf.Ren:=⟨fun | 144=>199 | 143=>261 | 219=>297 | 217=>301 | 225=>309 | 224=>310 | 267=>311 | 266=>314 | 314=>317 | n=>n,fun | 9=>9 | 4=>4 | 3=>3 | 5=>5 | 46=>271 | 146=>296 | 51=>295 | n=>n,fun | 1=>5 | n=>n⟩
theorem Tryz.laysM144:Go.Proofs.LaysM.n144 Tryz.prog Tryz.laysM144_ren:={
 mixed:=by kernel_rfl
 f143:=Tryz.func261.trans (congrArg some (by kernel_rfl))
 f144:=Tryz.func199.trans (congrArg some (by kernel_rfl))
 f217:=Tryz.func301.trans (congrArg some (by kernel_rfl))
 f219:=Tryz.func297.trans (congrArg some (by kernel_rfl))
 f224:=Tryz.func310.trans (congrArg some (by kernel_rfl))
 f225:=Tryz.func309.trans (congrArg some (by kernel_rfl))
 f266:=Tryz.func314.trans (congrArg some (by kernel_rfl))
 f267:=Tryz.func311.trans (congrArg some (by kernel_rfl))
 f314:=Tryz.func317.trans (congrArg some (by kernel_rfl))
 t3:=Tryz.underlying3
 a3:=Tryz.isAgg3
 z3:=Tryz.sizeOf3
 v3:=Tryz.zeroValue3
 t4:=Tryz.underlying4
 a4:=Tryz.isAgg4
 z4:=Tryz.sizeOf4
 v4:=Tryz.zeroValue4
 t5:=Tryz.underlying5
 a5:=Tryz.isAgg5
 z5:=Tryz.sizeOf5
 v5:=Tryz.zeroValue5
 t9:=Tryz.underlying9
 a9:=Tryz.isAgg9
 z9:=Tryz.sizeOf9
 v9:=Tryz.zeroValue9
 t46:=Tryz.underlying271
 a46:=Tryz.isAgg271
 z46:=Tryz.sizeOf271
 v46:=Tryz.zeroValue271
 t51:=Tryz.underlying295
 a51:=Tryz.isAgg295
 z51:=Tryz.sizeOf295
 v51:=Tryz.zeroValue295
 t146:=Tryz.underlying296
 a146:=Tryz.isAgg296
 z146:=Tryz.sizeOf296
 v146:=Tryz.zeroValue296
 g1:=by kernel_rfl
 i3:=by kernel_rfl
 i4:=by kernel_rfl
 i5:=by kernel_rfl
 i9:=by kernel_rfl
 i46:=by kernel_rfl
 i51:=by kernel_rfl
 i146:=by kernel_rfl
 m1:=by kernel_rfl
 s1_3:=fun w h=>Go.Proofs.cell_of_shapedOpen_int (zero:=#[.int .i64 0]) (t:=3) h (of_decide_eq_true (by kernel_rfl)) (by kernel_rfl) rfl (by kernel_rfl) (by kernel_rfl) Tryz.underlying3 }
def Tryz.lays206_ren:Go.Shelf.Ren:=⟨fun | 206=>315 | n=>n,fun | 9=>9 | 4=>4 | 3=>3 | n=>n,fun | n=>n⟩
def Tryz.lays99_ren:Go.Shelf.Ren:=⟨fun | 99=>305 | 206=>315 | n=>n,fun | 9=>9 | 4=>4 | 3=>3 | n=>n,fun | n=>n⟩
theorem Tryz.lays99:Go.Proofs.Lays.n99 Tryz.prog Tryz.lays99_ren:={
 mixed:=by kernel_rfl
 f99:=Tryz.func305.trans (congrArg some (by kernel_rfl))
 f206:=Tryz.func315.trans (congrArg some (by kernel_rfl))
 t3:=Tryz.underlying3
 a3:=Tryz.isAgg3
 z3:=Tryz.sizeOf3
 v3:=Tryz.zeroValue3
 t4:=Tryz.underlying4
 a4:=Tryz.isAgg4
 z4:=Tryz.sizeOf4
 v4:=Tryz.zeroValue4
 t9:=Tryz.underlying9
 a9:=Tryz.isAgg9
 z9:=Tryz.sizeOf9
 v9:=Tryz.zeroValue9 }
open Go.RowKit Go.Lib in
theorem Tryz.strings_HasPrefix (s p:ByteArray)(w:World) :
 Calls Tryz.prog 305 #[.string s,.string p] w fun e w'=>e = .returned (.bool (Lib.hasPrefix s.data.toList p.data.toList))∧w'=w:=Any.strings_HasPrefix Tryz.lays99 s p w

end Go.Proofs
namespace Go.Proofs.YtckhoadldibflaaGreatDoor
open Go Go.Aw

theorem uY (s:Aq):(⟨s.toArray⟩:ByteArray).size=s.length:=by simp [ByteArray.size]

theorem k53 (s:Aq)(c:UInt8):Ap Tryz.prog 275 [.str s,.int .u8 (c.toNat:Int)] (.int .i64 (Lib.indexByte s c)):=
 .of_same fun g w vs _ ha=>by
  obtain ⟨u,v,rfl,h1,h2⟩:=ha.inv2
  have e1:=h1.inv_str.1
  have e2:=h2.inv_int
  subst e1 e2
  refine ⟨.int .i64 (Lib.indexByte s c),fun _ _=>.int _ _,?_⟩
  have:=Tryz.strings_IndexByte ⟨s.toArray⟩ (c.toNat:Int) w
  simpa using this

theorem k29 (s p:Aq)(hs:s.length<4294967281):Ap Tryz.prog 199 [.str s,.str p] (.bool (Lib.contains s p)):=
 .of_same fun g w vs hg ha=>by
  obtain ⟨u,v,rfl,h1,h2⟩:=ha.inv2
  have e1:=h1.inv_str.1
  have e2:=h2.inv_str.1
  subst e1 e2
  refine ⟨.bool (Lib.contains s p),fun _ _=>.bool _,?_⟩
  obtain ⟨m,hm⟩:=hg.int (gl:=5) (k:=.i64) (by simp [globals])
  exact Tryz.strings_Contains ⟨s.toArray⟩ ⟨p.toArray⟩ m w (by rw [uY];exact hs) hm

theorem k28 (s p:Aq):Ap Tryz.prog 305 [.str s,.str p] (.bool (Lib.hasPrefix s p)):=
 .of_same fun g w vs hg ha=>by
  obtain ⟨u,v,rfl,h1,h2⟩:=ha.inv2
  have e1:=h1.inv_str.1
  have e2:=h2.inv_str.1
  subst e1 e2
  exact ⟨.bool (Lib.hasPrefix s p),fun _ _=>.bool _,Tryz.strings_HasPrefix ⟨s.toArray⟩ ⟨p.toArray⟩ w⟩

set_option maxHeartbeats 400000
set_option maxRecDepth 20000

theorem c39 (c:UInt8):Ap Tryz.prog 141 [.int .u8 (c.toNat:Int)] (.bool (C1 c)):=by
 refine Ap.body (n:=9) tok Tryz.func141 rfl rfl rfl fun H=>?_
 refine Ad (Qp A3 (By ?_))
 refine Qp (A1 (v:=.int .u8 _) rfl) ?_
 refine Qp F6 (Qp Bq ?_)
 refine AOL.Aap (y:=.int .u8 _) _ [] rfl (iB.all trivial) (fun hG=>A1 (v:=.int .u8 _) rfl) rfl ?_
 refine Qg [(6,_)] Qw Nj (Qp Et (Qp A3 (Aa (AW.ret ?_))))
 refine Qr (.bool _) ?_
 rfl
theorem c43 (c:UInt8):Ap Tryz.prog 145 [.int .u8 (c.toNat:Int)] (.bool (F1 c)):=by
 refine Ap.body (n:=21) tok Tryz.func145 rfl rfl rfl fun H=>?_
 refine Ad (Qp A3 (By ?_))
 refine Qp (A1 (v:=.int .u8 _) rfl) ?_
 refine Qp Av (Qp Bq ?_)
 refine AOL.Aap (y:=.int .u8 _) _ [] rfl (iB.all trivial) (fun hG=>A1 (v:=.int .u8 _) rfl) rfl ?_
 refine Qg [(6,_)] Qw F6 (Qg [(7,_)] Qw Bq ?_)
 refine AOL.Aap (y:=.int .u8 _) _ [] rfl (iB.all trivial) (fun hG=>A1 (v:=.int .u8 _) rfl) rfl ?_
 refine Qg [(9,_)] Qw Nj (Qg [(8,_),(10,_)] Qw Et (Qp Cy (Qp Bq ?_)))
 refine AOL.Aap (y:=.int .u8 _) _ [] rfl (iB.all trivial) (fun hG=>A1 (v:=.int .u8 _) rfl) rfl ?_
 refine Qg [(14,_)] Qw F6 (Qg [(15,_)] Qw Bq ?_)
 refine AOL.Aap (y:=.int .u8 _) _ [] rfl (iB.all trivial) (fun hG=>A1 (v:=.int .u8 _) rfl) rfl ?_
 refine Qg [(17,_)] Qw Nj (Qg [(16,_),(18,_)] Qw Et (Qp Cy (Qp A3 (Aa (AW.ret ?_)))))
 refine Qr (.bool _) ?_
 rfl
theorem c40 (c:UInt8):Ap Tryz.prog 196 [.int .u8 (c.toNat:Int)] (.bool (C1 c)):=by
 refine Ap.body (n:=9) tok Tryz.func196 rfl rfl rfl fun H=>?_
 refine Ad (Qp A3 (By ?_))
 refine Qp (A1 (v:=.int .u8 _) rfl) ?_
 refine Qp F6 (Qp Bq ?_)
 refine AOL.Aap (y:=.int .u8 _) _ [] rfl (iB.all trivial) (fun hG=>A1 (v:=.int .u8 _) rfl) rfl ?_
 refine Qg [(6,_)] Qw Nj (Qp Et (Qp A3 (Aa (AW.ret ?_))))
 refine Qr (.bool _) ?_
 rfl
theorem c44 (c:UInt8):Ap Tryz.prog 133 [.int .u8 (c.toNat:Int)] (.bool (F1 c)):=by
 refine Ap.body (n:=21) tok Tryz.func133 rfl rfl rfl fun H=>?_
 refine Ad (Qp A3 (By ?_))
 refine Qp (A1 (v:=.int .u8 _) rfl) ?_
 refine Qp Av (Qp Bq ?_)
 refine AOL.Aap (y:=.int .u8 _) _ [] rfl (iB.all trivial) (fun hG=>A1 (v:=.int .u8 _) rfl) rfl ?_
 refine Qg [(6,_)] Qw F6 (Qg [(7,_)] Qw Bq ?_)
 refine AOL.Aap (y:=.int .u8 _) _ [] rfl (iB.all trivial) (fun hG=>A1 (v:=.int .u8 _) rfl) rfl ?_
 refine Qg [(9,_)] Qw Nj (Qg [(8,_),(10,_)] Qw Et (Qp Cy (Qp Bq ?_)))
 refine AOL.Aap (y:=.int .u8 _) _ [] rfl (iB.all trivial) (fun hG=>A1 (v:=.int .u8 _) rfl) rfl ?_
 refine Qg [(14,_)] Qw F6 (Qg [(15,_)] Qw Bq ?_)
 refine AOL.Aap (y:=.int .u8 _) _ [] rfl (iB.all trivial) (fun hG=>A1 (v:=.int .u8 _) rfl) rfl ?_
 refine Qg [(17,_)] Qw Nj (Qg [(16,_),(18,_)] Qw Et (Qp Cy (Qp A3 (Aa (AW.ret ?_)))))
 refine Qr (.bool _) ?_
 rfl
theorem c52 (c:UInt8):Ap Tryz.prog 274 [.int .u8 (c.toNat:Int)] (.bool (fR c)):=by
 refine Ap.body (n:=5) tok Tryz.func274 rfl rfl rfl fun H=>?_
 refine Ad (Qp A3 (By ?_))
 refine Qp (A1 (v:=.int .u8 _) rfl) ?_
 refine Qp B9 (Qp A3 (Aa (AW.ret ?_)))
 refine Qr (.bool _) ?_
 rfl
theorem c69 (c:UInt8):Ap Tryz.prog 302 [.int .u8 (c.toNat:Int)] (.bool (Hg c)):=by
 refine Ap.body (n:=9) tok Tryz.func302 rfl rfl rfl fun H=>?_
 refine Ad (Qp A3 (By ?_))
 refine Qp (A1 (v:=.int .u8 _) rfl) ?_
 refine Qp (Qc rfl (c43 _)) ?_
 refine Qp Bq ?_
 refine AOL.Aap (y:=.int .u8 _) _ [] rfl (iB.all trivial) (fun hG=>A1 (v:=.int .u8 _) rfl) rfl ?_
 refine Qg [(6,_)] Qw (Qc rfl (c39 _)) ?_
 refine Qp Cy (Qp A3 (Aa (AW.ret ?_)))
 refine Qr (.bool _) ?_
 rfl
theorem c42 (c:UInt8):Ap Tryz.prog 144 [.int .u8 (c.toNat:Int)] (.bool (Xe c)):=by
 refine Ap.body (n:=11) tok Tryz.func144 rfl rfl rfl fun H=>?_
 refine Ad (Qp A3 (By ?_))
 refine Qp (A1 (v:=.int .u8 _) rfl) ?_
 refine Qp (Qc rfl (c43 _)) ?_
 refine Qp Fz (Qp Bq ?_)
 refine AOL.Aap (y:=.int .u8 _) _ [] rfl (iB.all trivial) (fun hG=>A1 (v:=.int .u8 _) rfl) rfl ?_
 refine Qg [(7,_)] Qw (Qc rfl (c39 _)) ?_
 refine Qg [(8,_)] Qw Fz (Qp Et (Qp A3 (Aa (AW.ret ?_))))
 refine Qr (.bool _) ?_
 rfl
theorem c46 (c:UInt8):Ap Tryz.prog 308 [.int .u8 (c.toNat:Int)] (.bool (X4 c)):=by
 refine Ap.body (n:=17) tok Tryz.func308 rfl rfl rfl fun H=>?_
 refine Ad (Qp A3 (By ?_))
 refine Qp (A1 (v:=.int .u8 _) rfl) ?_
 refine Qp F6 (Qp Bq ?_)
 refine AOL.Aap (y:=.int .u8 _) _ [] rfl (iB.all trivial) (fun hG=>A1 (v:=.int .u8 _) rfl) rfl ?_
 refine Qg [(6,_)] Qw Nj (Qp Et (Qp Bq ?_))
 refine AOL.Aap (y:=.int .u8 _) _ [] rfl (iB.all trivial) (fun hG=>A1 (v:=.int .u8 _) rfl) rfl ?_
 refine Qg [(10,_)] Qw B9 (Qp Et (Qp Bq ?_))
 refine AOL.Aap (y:=.int .u8 _) _ [] rfl (iB.all trivial) (fun hG=>A1 (v:=.int .u8 _) rfl) rfl ?_
 refine Qg [(14,_)] Qw B9 (Qp Et (Qp A3 (Aa (AW.ret ?_))))
 refine Qr (.bool _) ?_
 rfl

set_option maxHeartbeats 400000
set_option maxRecDepth 20000

theorem g1 {b w:Bool}{G:List (Bool×Bool)}(h:Jo ((b,w)::G)):b=w:=h _ (List.mem_cons_self ..)
theorem Ni {s:Aq}{k:Nat}(h:k<s.length):s.drop k=bt s k::s.drop (k+1):=by
 rw [List.drop_eq_getElem_cons h]
 have:bt s k=s[k]:=by simp [bt,List.getD_eq_getElem?_getD,List.getElem?_eq_getElem h]
 rw [this]
theorem V1 {p:UInt8→Bool}{s:Aq}{k:Nat}(h:(decide ((k:Int)<(s.length:Int))&&p (bt s k))=true):k<s.length∧C3 p (s.drop k)=C3 p (s.drop (k+1))+1:=by
 simp only [Bool.and_eq_true,decide_eq_true_eq] at h
 have hk:k<s.length:=by omega
 refine ⟨hk,?_⟩
 rw [Ni hk,C3,if_pos h.2]
theorem Wv {p:UInt8→Bool}{s:Aq}{k:Nat}(h:(decide ((k:Int)<(s.length:Int))&&p (bt s k))=false):C3 p (s.drop k)=0:=by
 by_cases hk:k<s.length
 ·
  have h2:p (bt s k)=false:=by
   have:decide ((k:Int)<(s.length:Int))=true:=by simp;omega
   cases hq:p (bt s k) with
   | false=>rfl
   | true=>rw [this,hq] at h;cases h
  rw [Ni hk,C3,if_neg (by simp [h2])]
 · rw [List.drop_eq_nil_of_le (by omega)];rfl
theorem Kz (p:UInt8→Bool):∀s:Aq,C3 p s≤s.length
  | []=>Nat.le_refl _
  | c::r=>by
    unfold C3
    split
    · have:=Kz p r;simp;omega
    · simp
theorem bY {s:Aq}{k:Nat}(h:k<s.length):(B1 s)[k]? = some [.int .u8 ((bt s k).toNat:Int)]:=by
 simp only [B1,List.getElem?_map,D6 h];rfl
theorem uZ {p:UInt8→Bool}{s:Aq}{k:Nat}(h:k<s.length)(hp:p (bt s k)=true):Gn p (s.drop k)=0:=by rw [Ni h,Gn,if_pos hp]
theorem kV {p:UInt8→Bool}{s:Aq}{k:Nat}(h:k<s.length)(hp:p (bt s k)=false):Gn p (s.drop k)=if Gn p (s.drop (k+1)) = -1 then -1 else Gn p (s.drop (k+1))+1:=by rw [Ni h,Gn,if_neg (by simp [hp])]
theorem cH (p:UInt8→Bool):∀s:Aq,-1≤Gn p s
  | []=>Int.le_refl _
  | c::r=>by
    have:=cH p r
    unfold Gn;split
    · decide
    · split <;> omega
theorem pG (p:UInt8→Bool)(s:Aq):Gn p s=if Gn p (s.drop 0) = -1 then -1 else ((0:Nat):Int)+Gn p (s.drop 0):=by
 have:=cH p s
 rw [List.drop_zero]
 split <;> simp_all
theorem nR {p:UInt8→Bool}{s:Aq}{k:Nat}(h:k<s.length)(hp:p (bt s k)=false)(h2:Gn p s=if Gn p (s.drop k) = -1 then -1 else (k:Int)+Gn p (s.drop k)) :
  Gn p s=if Gn p (s.drop (k+1)) = -1 then -1 else ((k+1:Nat):Int)+Gn p (s.drop (k+1)):=by
 rw [kV h hp] at h2
 rw [h2]
 have:=cH p (s.drop (k+1))
 by_cases h3:Gn p (s.drop (k+1)) = -1
 · rw [if_pos h3,if_pos rfl,if_pos h3]
 · rw [if_neg h3,if_neg h3,if_neg (by omega)];omega

theorem c38 (s:Aq)(hl:s.length≤1048576)(f:Nat)(p:UInt8→Bool)(hf:Oo Tryz.prog f=true)(hp:∀c,Ap Tryz.prog f [.int .u8 (c.toNat:Int)] (.bool (p c))):Ap Tryz.prog 273 [.str s,.fn (.func f) [] []] (.int .i64 (C3 p s:Int)):=by
 refine Ap.body (n:=20) tok Tryz.func273 rfl rfl rfl fun H=>?_
 refine Ad (Qp A0 (By (Qp A0 (Aa (AW.seq (AW.block ?_))))))
 refine AW.Aat (fun (k:Nat)=>(⟨[(0,.str s),(1,.fn (.func f) [] []),(5,.int .i64 (k:Int))],H,20⟩:St)) (fun (k:Nat)=>k≤s.length∧C3 p s=k+C3 p (s.drop k)) (fun (k:Nat)=>s.length-k) (0) ?_ (GS.weaken ⟨rfl,rfl,rfl,trivial⟩ (.refl _)) ?_
 · exact ⟨Nat.zero_le _,by simp⟩
 ·
  rintro k hR
  refine AW.seq (Ad (Qp A4 (Qp Dh ?_)))
  refine Qp (Bx tok rfl rfl rfl rfl) ?_
  refine Qp B7 (Qp Bq ?_)
  refine AOL.Aap (y:=.fn _ _ _) _ [] rfl (iB.all trivial) (fun hG=>A1 (v:=.fn _ _ _) rfl) rfl ?_
  refine Qg [] Qw Dh (Qg [] Qw A4 ?_)
  refine AOL.Aap (y:=.int .u8 _) _ [(12,_),(13,_)] rfl (iB.all ⟨Ent.Aao _ _,Ent.Aao _ _,trivial⟩) (fun hG=>Bs tok rfl rfl rfl rfl (by omega) (D6 (i:=k) (by have h9:=g1 hG;simp at h9;exact h9))) rfl ?_
  refine AOL.Aap (y:=.bool _) _ [(14,_),(11,_)] rfl (iB.all ⟨Ent.Aao _ _,Ent.Aao _ _,trivial⟩) (fun hG=>Lj hf rfl rfl rfl (hp _)) rfl ?_
  refine Qp Et (Aa (Au (fun hc1=>?_) fun hc1=>?_))
  ·
   have hst:=V1 hc1
   refine Bl (AW.block (AW.region (Qp A4 (Qp Ei (Qp A0 (AOL.nil (Bc (Af ?_))))))))
   refine ⟨k+1,?_,?_,GS.weaken ⟨rfl,rfl,rfl,trivial⟩ (.refl _)⟩
   · exact ⟨hst.1,by rw [hR.2,hst.2];omega⟩
   · have:=hst.1;omega
  ·
   have hst:=Wv hc1
   refine AW.exit ?_
   refine A7 (A7 (Bp (Af (Ad (Qp A4 (Qp A0 (Aa (AW.ret ?_))))))))
   refine Qr (Iq _) ?_
   have h2:=hR.2
   rw [hst] at h2
   rw [h2];first | done | rfl
theorem c64 (s:Aq)(hl:s.length≤1048576)(f:Nat)(p:UInt8→Bool)(hf:Oo Tryz.prog f=true)(hp:∀c,Ap Tryz.prog f [.int .u8 (c.toNat:Int)] (.bool (p c))):Ap Tryz.prog 200 [.sl 1 (B1 s),.fn (.func f) [] []] (.int .i64 (Gn p s)):=by
 refine Ap.body (n:=19) tok Tryz.func200 rfl rfl rfl fun H=>?_
 refine Ad (Qp A0 (Aa (AW.seq (Ad (Qp K4 ?_)))))
 refine Qp (Ax (n:=s.length) tok rfl rfl rfl (by simp)) ?_
 refine Qp A4 (Aa (AW.block ?_))
 refine AW.Aat (fun (k:Nat)=>(⟨[(0,.sl 1 (B1 s)),(1,.fn (.func f) [] []),(7,.int .i64 (s.length:Int)),(8,.int .i64 (k:Int))],H,19⟩:St)) (fun (k:Nat)=>k≤s.length∧Gn p s=if Gn p (s.drop k) = -1 then -1 else (k:Int)+Gn p (s.drop k)) (fun (k:Nat)=>s.length-k) (0) ?_ (GS.weaken ⟨rfl,rfl,rfl,rfl,trivial⟩ (.refl _)) ?_
 · exact ⟨Nat.zero_le _,pG p s⟩
 ·
  rintro k hR
  refine Ad (Qp B7 (Aa (AW.seq (Au (fun hc1=>?_) fun hc1=>?_))))
  ·
   have hk:k<s.length:=by simp at hc1;omega
   refine Bl (AW.seq (AW.block (Ad (Qp A4 (Qp A0 (By ?_))))))
   refine Qp (A1 (v:=.fn _ _ _) rfl) ?_
   refine Qp K4 (Qp A4 ?_)
   refine Qp (Ag (c:=[.int .u8 _]) tok rfl rfl rfl rfl rfl rfl (by omega) (bY (k:=k) hk)) ?_
   refine Qp (De (c:=.int .u8 _) tok rfl rfl rfl) ?_
   refine Qp (Lj hf rfl rfl rfl (hp _)) ?_
   refine Aa (Au (fun hc2=>?_) fun hc2=>?_)
   ·
    refine Ad (Qp A4 (Qp A0 (Aa (AW.ret (Ao (Ai (Ai (Ao (Ai ?_)))))))))
    refine Qr (Iq _) ?_
    have h2:=hR.2
    rw [uZ hk hc2,if_neg (by decide)] at h2
    rw [h2,Int.add_zero];first | done | rfl
   ·
    refine AW.skip (Bc (Af (AW.region (Qp Ei (Qp A4 (Aa ?_))))))
    refine ⟨k+1,?_,?_,GS.weaken ⟨rfl,rfl,rfl,rfl,trivial⟩ (.refl _)⟩
    · exact ⟨hk,nR hk hc2 hR.2⟩
    · omega
  ·
   have hk:s.length≤k:=by simp at hc1;omega
   refine AW.exit ?_
   refine A7 (A7 (Bp (Af (Ad (Qp A0 (Aa (AW.ret ?_)))))))
   refine Qr (Iq _) ?_
   have h2:=hR.2
   rw [List.drop_eq_nil_of_le hk] at h2
   rw [h2];first | done | rfl
theorem c41 (s:Aq)(hl:s.length≤1048576)(f:Nat)(p:UInt8→Bool)(hf:Oo Tryz.prog f=true)(hp:∀c,Ap Tryz.prog f [.int .u8 (c.toNat:Int)] (.bool (p c))):Ap Tryz.prog 143 [.sl 1 (B1 s),.fn (.func f) [] []] (.bool (decide (0≤Gn p s))):=by
 refine Ap.body (n:=9) tok Tryz.func143 rfl rfl rfl fun H=>?_
 refine Ad (Qp A3 (By (Qp K4 ?_)))
 refine Qp (A1 (v:=.fn _ _ _) rfl) ?_
 refine Qp (Qc rfl (c64 s hl f p hf hp)) ?_
 refine Qp F6 (Qp A3 (Aa (AW.ret ?_)))
 refine Qr (.bool _) ?_
 rfl
theorem c45 (s:Aq)(hl:s.length≤1048576)(k:Nat):Ap Tryz.prog 134 [.str s,.int .i64 (k:Int)] (.int .i64 (Uh s k:Int)):=by
 refine Ap.body (n:=24) tok Tryz.func134 rfl rfl rfl fun H=>?_
 refine Ad (Qp A0 (Aa (AW.seq (AW.block ?_))))
 refine AW.Aat (fun (j:Nat)=>(⟨[(0,.str s),(1,.int .i64 (j:Int))],H,24⟩:St)) (fun (j:Nat)=>Uh s k=j+C3 Hg (s.drop j)) (fun (j:Nat)=>s.length-j) (k) ?_ (GS.weaken ⟨rfl,rfl,trivial⟩ (.refl _)) ?_
 · exact rfl
 ·
  rintro j hR
  refine AW.seq (Ad (Qp A4 (Qp Dh ?_)))
  refine Qp (Bx tok rfl rfl rfl rfl) ?_
  refine Qp B7 (Qp Bq (Qg [] Qw Dh (Qg [] Qw A4 ?_)))
  refine AOL.Aap (y:=.int .u8 _) _ [(10,_),(11,_)] rfl (iB.all ⟨Ent.Aao _ _,Ent.Aao _ _,trivial⟩) (fun hG=>Bs tok rfl rfl rfl rfl (by omega) (D6 (i:=j) (by have h9:=g1 hG;simp at h9;exact h9))) rfl ?_
  refine Qg [(12,_)] Qw (Qc rfl (c44 _)) ?_
  refine Qg [(13,_)] Qw Bq (Qg [] Qw Dh (Qg [] Qw A4 ?_))
  refine AOL.Aap (y:=.int .u8 _) _ [(15,_),(16,_)] rfl (iB.all ⟨Ent.Aao _ _,Ent.Aao _ _,trivial⟩) (fun hG=>Bs tok rfl rfl rfl rfl (by omega) (D6 (i:=j) (by have h9:=g1 hG;simp at h9;exact h9))) rfl ?_
  refine Qg [(17,_)] Qw (Qc rfl (c40 _)) ?_
  refine Qg [(14,_),(18,_)] Qw Cy (Qp Et (Aa (Au (fun hc1=>?_) fun hc1=>?_)))
  ·
   have hst:=V1 (p:=Hg) hc1
   have hj:=hst.1
   refine Bl (AW.block (AW.region (Qp A4 (Qp Ei (Qp A0 (AOL.nil (Bc (Af ?_))))))))
   refine ⟨j+1,?_,?_,GS.weaken ⟨rfl,rfl,trivial⟩ (.refl _)⟩
   · rw [hR,hst.2];omega
   · have:=hst.1;omega
  ·
   have hst:=Wv (p:=Hg) hc1
   refine AW.exit ?_
   refine A7 (A7 (Bp (Af (Ad (Qp A4 (Qp A0 (Aa (AW.ret ?_))))))))
   refine Qr (Iq _) ?_
   rw [hst] at hR
   rw [hR];first | done | rfl
theorem c32 (s:Aq)(hl:s.length≤1048576)(h0:0<s.length):Ap Tryz.prog 221 [.str s] (.int .i64 (N9 s)):=by
 refine Ap.body (n:=14) tok Tryz.func221 rfl rfl rfl fun H=>?_
 refine Ad (Qp A0 (Aa (AW.seq (AW.block (Ad (Qp Dh ?_))))))
 refine Qp (Bs tok rfl rfl rfl rfl (by omega) (D6 (i:=0) h0)) ?_
 refine Qp Av (Qp A3 (Aa (Au (fun hc1=>?_) fun hc1=>?_)))
 ·
  refine Ad (Qp Dh ?_)
  refine Qp (Qc rfl (c38 s hl 274 fR (by kernel_rfl) c52)) ?_
  refine Qp A0 (Aa (AW.ret (Ao (Ai ?_))))
  refine Qr (Iq _) ?_
  simp only [Ae,N9]
  (first | rw [if_pos hc1] | skip)
  first | done | rfl
 ·
  refine Ad (Qp Dh ?_)
  refine Qp (Bs tok rfl rfl rfl rfl (by omega) (D6 (i:=0) h0)) ?_
  refine Qp (Qc rfl (k53 [32,9,13,10] _)) ?_
  refine Qp F6 (Qp A3 (Aa (Au (fun hc2=>?_) fun hc2=>?_)))
  ·
   refine Ad (Qp A0 (Aa (AW.ret (Ao (Ai ?_)))))
   refine Qr (Iq _) ?_
   simp only [Ae,N9]
   (first | rw [iN hc1] | skip);(first | rw [if_pos hc2] | skip)
   first | done | rfl
  ·
   refine AW.skip (Bc (Af (Ad (Qp A0 (Aa (AW.ret ?_))))))
   refine Qr (Iq _) ?_
   simp only [Ae,N9]
   (first | rw [iN hc1] | skip);(first | rw [iN hc2] | skip)
   first | done | rfl

end Go.Proofs.YtckhoadldibflaaGreatDoor
