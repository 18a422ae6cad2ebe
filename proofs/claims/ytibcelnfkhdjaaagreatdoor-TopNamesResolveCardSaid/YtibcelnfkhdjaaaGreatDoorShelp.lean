/-
  The contracts of strings.Cut and strings.Split at this translation (printed by the kit's tools). No condition.
-/
import Derived.Shelf.Strings.Cut
import Derived.Shelf.Strings.Split
import Derived.Test.YtibcelnfkhdjaaaGreatDoorProg
namespace Go.Proofs
open Go.Shelf
def Tryz.lays145_ren:Go.Shelf.Ren:=⟨fun | 145=>76 | 220=>139 | 219=>181 | 217=>182 | 225=>207 | 224=>208 | 267=>209 | 266=>210 | 314=>218 | n=>n,fun | 9=>9 | 4=>4 | 59=>156 | 3=>3 | 5=>5 | 46=>221 | 146=>250 | 51=>249 | n=>n,fun | 1=>6 | n=>n⟩
theorem Tryz.lays145:Go.Proofs.Lays.n145 Tryz.prog Tryz.lays145_ren:={
 mixed:=by kernel_rfl
 f145:=Tryz.func76.trans (congrArg some (by kernel_rfl))
 f217:=Tryz.func182.trans (congrArg some (by kernel_rfl))
 f219:=Tryz.func181.trans (congrArg some (by kernel_rfl))
 f220:=Tryz.func139.trans (congrArg some (by kernel_rfl))
 f224:=Tryz.func208.trans (congrArg some (by kernel_rfl))
 f225:=Tryz.func207.trans (congrArg some (by kernel_rfl))
 f266:=Tryz.func210.trans (congrArg some (by kernel_rfl))
 f267:=Tryz.func209.trans (congrArg some (by kernel_rfl))
 f314:=Tryz.func218.trans (congrArg some (by kernel_rfl))
 t3:=Tryz.underlying3
 a3:=Tryz.isAgg3
 z3:=Tryz.sizeOf3
 v3:=Tryz.zeroValue3
 t4:=Tryz.underlying4
 a4:=Tryz.isAgg4
 z4:=Tryz.sizeOf4
 v4:=Tryz.zeroValue4
 t5:=Tryz.underlying5
 a5:=Tryz.isAgg5
 z5:=Tryz.sizeOf5
 v5:=Tryz.zeroValue5
 t9:=Tryz.underlying9
 a9:=Tryz.isAgg9
 z9:=Tryz.sizeOf9
 v9:=Tryz.zeroValue9
 t46:=Tryz.underlying221
 a46:=Tryz.isAgg221
 z46:=Tryz.sizeOf221
 v46:=Tryz.zeroValue221
 t51:=Tryz.underlying249
 a51:=Tryz.isAgg249
 z51:=Tryz.sizeOf249
 v51:=Tryz.zeroValue249
 t59:=Tryz.underlying156
 a59:=Tryz.isAgg156
 z59:=Tryz.sizeOf156
 v59:=Tryz.zeroValue156
 t146:=Tryz.underlying250
 a146:=Tryz.isAgg250
 z146:=Tryz.sizeOf250
 v146:=Tryz.zeroValue250
 g1:=by kernel_rfl }
open Go.RowKit Go.Lib in
theorem Tryz.strings_Cut (s sep:ByteArray)(m:Int)(w:World)(hs:s.size<4294967281)(hm:w.cell? ⟨6,0,none⟩=some (.int .i64 m)) :
 Calls Tryz.prog 76 #[.string s,.string sep] w fun e w'=>e = .returned (.tuple #[.string ⟨(Lib.cut s.data.toList sep.data.toList).1.toArray⟩,.string ⟨(Lib.cut s.data.toList sep.data.toList).2.1.toArray⟩,.bool (Lib.cut s.data.toList sep.data.toList).2.2])/\∃n,w'=w.drewN n:=Any.strings_Cut Tryz.lays145 s sep m w hs hm
def Tryz.lays146_ren:Go.Shelf.Ren:=⟨fun | 146=>31 | 221=>74 | 268=>136 | 138=>137 | 143=>138 | 195=>178 | 197=>179 | 218=>180 | 219=>181 | 260=>206 | 217=>182 | 225=>207 | 224=>208 | 267=>209 | 266=>210 | 314=>218 | n=>n,fun | 9=>9 | 31=>100 | 3=>3 | 4=>4 | 0=>0 | 105=>241 | 21=>21 | 5=>5 | 46=>221 | 119=>264 | 139=>267 | 138=>266 | 146=>250 | 51=>249 | n=>n,fun | 1=>6 | 3=>7 | 4=>8 | n=>n⟩
theorem Tryz.lays146:Go.Proofs.Lays.n146 Tryz.prog Tryz.lays146_ren:={
 mixed:=by kernel_rfl
 f138:=Tryz.func137.trans (congrArg some (by kernel_rfl))
 f143:=Tryz.func138.trans (congrArg some (by kernel_rfl))
 f146:=Tryz.func31.trans (congrArg some (by kernel_rfl))
 f195:=Tryz.func178.trans (congrArg some (by kernel_rfl))
 f197:=Tryz.func179.trans (congrArg some (by kernel_rfl))
 f217:=Tryz.func182.trans (congrArg some (by kernel_rfl))
 f218:=Tryz.func180.trans (congrArg some (by kernel_rfl))
 f219:=Tryz.func181.trans (congrArg some (by kernel_rfl))
 f221:=Tryz.func74.trans (congrArg some (by kernel_rfl))
 f224:=Tryz.func208.trans (congrArg some (by kernel_rfl))
 f225:=Tryz.func207.trans (congrArg some (by kernel_rfl))
 f260:=Tryz.func206.trans (congrArg some (by kernel_rfl))
 f266:=Tryz.func210.trans (congrArg some (by kernel_rfl))
 f267:=Tryz.func209.trans (congrArg some (by kernel_rfl))
 f268:=Tryz.func136.trans (congrArg some (by kernel_rfl))
 f314:=Tryz.func218.trans (congrArg some (by kernel_rfl))
 t0:=Tryz.underlying0
 a0:=Tryz.isAgg0
 z0:=Tryz.sizeOf0
 v0:=Tryz.zeroValue0
 t3:=Tryz.underlying3
 a3:=Tryz.isAgg3
 z3:=Tryz.sizeOf3
 v3:=Tryz.zeroValue3
 t4:=Tryz.underlying4
 a4:=Tryz.isAgg4
 z4:=Tryz.sizeOf4
 v4:=Tryz.zeroValue4
 t5:=Tryz.underlying5
 a5:=Tryz.isAgg5
 z5:=Tryz.sizeOf5
 v5:=Tryz.zeroValue5
 t9:=Tryz.underlying9
 a9:=Tryz.isAgg9
 z9:=Tryz.sizeOf9
 v9:=Tryz.zeroValue9
 t21:=Tryz.underlying21
 a21:=Tryz.isAgg21
 z21:=Tryz.sizeOf21
 v21:=Tryz.zeroValue21
 t31:=Tryz.underlying100
 a31:=Tryz.isAgg100
 z31:=Tryz.sizeOf100
 v31:=Tryz.zeroValue100
 t46:=Tryz.underlying221
 a46:=Tryz.isAgg221
 z46:=Tryz.sizeOf221
 v46:=Tryz.zeroValue221
 t51:=Tryz.underlying249
 a51:=Tryz.isAgg249
 z51:=Tryz.sizeOf249
 v51:=Tryz.zeroValue249
 t105:=Tryz.underlying241
 a105:=Tryz.isAgg241
 z105:=Tryz.sizeOf241
 v105:=Tryz.zeroValue241
 t119:=Tryz.underlying264
 a119:=Tryz.isAgg264
 z119:=Tryz.sizeOf264
 t138:=Tryz.underlying266
 a138:=Tryz.isAgg266
 z138:=Tryz.sizeOf266
 v138:=Tryz.zeroValue266
 t139:=Tryz.underlying267
 a139:=Tryz.isAgg267
 z139:=Tryz.sizeOf267
 v139:=Tryz.zeroValue267
 t146:=Tryz.underlying250
 a146:=Tryz.isAgg250
 z146:=Tryz.sizeOf250
 v146:=Tryz.zeroValue250
 g1:=by kernel_rfl
 g3:=by kernel_rfl
 g4:=by kernel_rfl }
open Go.RowKit Go.Lib in
theorem Tryz.strings_Split (s sep:ByteArray)(m:Int)(w:World)(hs:s.size<4294967281)(hm:w.cell? ⟨6,0,none⟩=some (.int .i64 m))(h1:1<=sep.size) :
 Calls Tryz.prog 31 #[.string s,.string sep] w fun e w'=>
  e = .returned (.slice (some ⟨w.heap.size,0,none⟩) (Lib.countB s sep+1) (Lib.countB s sep+1))/\w'=w.alloc (.cells ((Lib.splitB sep 0 (Lib.countB s sep) s).map Value.string).toArray 9):=Any.strings_Split Tryz.lays146 (by kernel_rfl) s sep m w hs hm h1
end Go.Proofs
