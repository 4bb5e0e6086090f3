/- Facts on the program's types. -/
import Derived.Test.YtahaedoeckgidaaZtM
import Derived.Test.YtahaedoeckgidaaProg
import Derived.KernelRfl
set_option linter.unusedVariables false
set_option linter.unusedSimpArgs false
namespace Go.Proofs
open Go.Shelf
def Try.lays189_ren : Go.Shelf.Ren := ⟨fun | 189 => 27 | 125 => 31 | 257 => 30 | 128 => 41 | 129 => 42 | 294 => 32 | 295 => 33 | 296 => 34 | 297 => 35 | 298 => 36 | 299 => 37 | 216 => 38 | 300 => 39 | 301 => 40 | 328 => 43 | 329 => 44 | 330 => 45 | 331 => 46 | 332 => 47 | 215 => 48 | 343 => 49 | n => n, fun | 28 => 26 | 3 => 3 | 46 => 64 | 0 => 0 | 51 => 71 | 53 => 87 | 4 => 4 | 183 => 78 | 182 => 77 | 131 => 83 | 5 => 5 | 9 => 9 | 218 => 88 | 222 => 92 | 228 => 95 | 229 => 96 | n => n, fun | n => n⟩
theorem Try.lays189 : Go.Proofs.Lays.n189 Try.prog Try.lays189_ren := {
  mixed := by kernel_rfl,
  f125 := Try.func31.trans (congrArg some (by kernel_rfl)),
  f128 := Try.func41.trans (congrArg some (by kernel_rfl)),
  f129 := Try.func42.trans (congrArg some (by kernel_rfl)),
  f189 := Try.func27.trans (congrArg some (by kernel_rfl)),
  f215 := Try.func48.trans (congrArg some (by kernel_rfl)),
  f216 := Try.func38.trans (congrArg some (by kernel_rfl)),
  f257 := Try.func30.trans (congrArg some (by kernel_rfl)),
  f294 := Try.func32.trans (congrArg some (by kernel_rfl)),
  f295 := Try.func33.trans (congrArg some (by kernel_rfl)),
  f296 := Try.func34.trans (congrArg some (by kernel_rfl)),
  f297 := Try.func35.trans (congrArg some (by kernel_rfl)),
  f298 := Try.func36.trans (congrArg some (by kernel_rfl)),
  f299 := Try.func37.trans (congrArg some (by kernel_rfl)),
  f300 := Try.func39.trans (congrArg some (by kernel_rfl)),
  f301 := Try.func40.trans (congrArg some (by kernel_rfl)),
  f328 := Try.func43.trans (congrArg some (by kernel_rfl)),
  f329 := Try.func44.trans (congrArg some (by kernel_rfl)),
  f330 := Try.func45.trans (congrArg some (by kernel_rfl)),
  f331 := Try.func46.trans (congrArg some (by kernel_rfl)),
  f332 := Try.func47.trans (congrArg some (by kernel_rfl)),
  f343 := Try.func49.trans (congrArg some (by kernel_rfl)),
  t0 := Try.underlying0,
  a0 := Try.isAgg0,
  z0 := Try.sizeOf0,
  v0 := Try.zeroValue0,
  t3 := Try.underlying3,
  a3 := Try.isAgg3,
  z3 := Try.sizeOf3,
  v3 := Try.zeroValue3,
  t4 := Try.underlying4,
  a4 := Try.isAgg4,
  z4 := Try.sizeOf4,
  v4 := Try.zeroValue4,
  t5 := Try.underlying5,
  a5 := Try.isAgg5,
  z5 := Try.sizeOf5,
  v5 := Try.zeroValue5,
  t9 := Try.underlying9,
  a9 := Try.isAgg9,
  z9 := Try.sizeOf9,
  v9 := Try.zeroValue9,
  t28 := Try.underlying26,
  a28 := Try.isAgg26,
  z28 := Try.sizeOf26,
  v28 := Try.zeroValue26,
  t46 := Try.underlying64,
  a46 := Try.isAgg64,
  z46 := Try.sizeOf64,
  v46 := Try.zeroValue64,
  t51 := Try.underlying71,
  a51 := Try.isAgg71,
  z51 := Try.sizeOf71,
  v51 := Try.zeroValue71,
  t53 := Try.underlying87,
  a53 := Try.isAgg87,
  z53 := Try.sizeOf87,
  v53 := Try.zeroValue87,
  t131 := Try.underlying83,
  a131 := Try.isAgg83,
  z131 := Try.sizeOf83,
  v131 := Try.zeroValue83,
  t182 := Try.underlying77,
  a182 := Try.isAgg77,
  z182 := Try.sizeOf77,
  v182 := Try.zeroValue77,
  t183 := Try.underlying78,
  a183 := Try.isAgg78,
  z183 := Try.sizeOf78,
  v183 := Try.zeroValue78,
  t218 := Try.underlying88,
  a218 := Try.isAgg88,
  z218 := Try.sizeOf88,
  v218 := Try.zeroValue88,
  t222 := Try.underlying92,
  a222 := Try.isAgg92,
  z222 := Try.sizeOf92,
  v222 := Try.zeroValue92,
  t228 := Try.underlying95,
  a228 := Try.isAgg95,
  z228 := Try.sizeOf95,
  v228 := Try.zeroValue95,
  t229 := Try.underlying96,
  a229 := Try.isAgg96,
  z229 := Try.sizeOf96,
  v229 := Try.zeroValue96 }

end Go.Proofs
namespace Go.Sw
open Go.Proofs
theorem sle31 : slEl Try.prog 31 = some 1 := by kernel_rfl
theorem one9 : tyOne Try.prog 9 = true := by kernel_rfl
theorem sli31 : slInfo Try.prog 31 = some (9, 1, 16, [.string ⟨#[]⟩]) := by kernel_rfl
theorem sli55 : slInfo Try.prog 55 = some (5, 1, 1, [.int .u8 0]) := by kernel_rfl
theorem sle55 : slEl Try.prog 55 = some 1 := by kernel_rfl
theorem one5 : tyOne Try.prog 5 = true := by kernel_rfl
theorem mixed : Try.prog.follows .mixedOrders = true := by kernel_rfl
theorem go18 : isGo Try.prog 18 = true := by kernel_rfl
theorem go19 : isGo Try.prog 19 = true := by kernel_rfl
theorem go13 : isGo Try.prog 13 = true := by kernel_rfl
theorem sli23 : slInfo Try.prog 23 = some (50, 2, 24, [.int .i64 0, .string ⟨#[]⟩]) := by kernel_rfl
theorem zer25 : (Try.prog.info? 25).bind (·.zero) = some (.agg #[.int .i64 0, .slice none 0 0]) := by kernel_rfl
theorem fo25_1 : fieldOff Try.prog 25 1 = some 1 := by kernel_rfl
theorem one23 : tyOne Try.prog 23 = true := by kernel_rfl
theorem go21 : isGo Try.prog 21 = true := by kernel_rfl
theorem sle23 : slEl Try.prog 23 = some 2 := by kernel_rfl
theorem agg50 : tyAgg Try.prog 50 = some 2 := by kernel_rfl
theorem fo50_0 : fieldOff Try.prog 50 0 = some 0 := by kernel_rfl
theorem one3 : tyOne Try.prog 3 = true := by kernel_rfl
theorem go23 : isGo Try.prog 23 = true := by kernel_rfl
theorem go28 : isGo Try.prog 28 = true := by kernel_rfl
theorem zer50 : (Try.prog.info? 50).bind (·.zero) = some (.agg #[.int .i64 0, .string ⟨#[]⟩]) := by kernel_rfl
theorem siz50 : tySize Try.prog 50 = some 2 := by kernel_rfl
theorem go22 : isGo Try.prog 22 = true := by kernel_rfl
theorem siz23 : tySize Try.prog 23 = some 1 := by kernel_rfl
theorem agg25 : tyAgg Try.prog 25 = some 2 := by kernel_rfl
theorem siz25 : tySize Try.prog 25 = some 2 := by kernel_rfl
theorem fo28_0 : fieldOff Try.prog 28 0 = some 0 := by kernel_rfl
theorem fo28_1 : fieldOff Try.prog 28 1 = some 1 := by kernel_rfl
theorem one26 : tyOne Try.prog 26 = true := by kernel_rfl
theorem sle26 : slEl Try.prog 26 = some 1 := by kernel_rfl
theorem go29 : isGo Try.prog 29 = true := by kernel_rfl
theorem sli26 : slInfo Try.prog 26 = some (3, 1, 8, [.int .i64 0]) := by kernel_rfl
theorem zer28 : (Try.prog.info? 28).bind (·.zero) = some (.agg #[.int .i64 0, .slice none 0 0]) := by kernel_rfl
theorem agg28 : tyAgg Try.prog 28 = some 2 := by kernel_rfl
theorem go24 : isGo Try.prog 24 = true := by kernel_rfl
theorem siz28 : tySize Try.prog 28 = some 2 := by kernel_rfl
theorem go25 : isGo Try.prog 25 = true := by kernel_rfl
theorem go26 : isGo Try.prog 26 = true := by kernel_rfl
theorem go27 : isGo Try.prog 27 = true := by kernel_rfl
theorem siz3 : tySize Try.prog 3 = some 1 := by kernel_rfl
theorem siz26 : tySize Try.prog 26 = some 1 := by kernel_rfl
theorem zer30 : (Try.prog.info? 30).bind (·.zero) = some (.agg #[.int .i64 0, .slice none 0 0, .int .i64 0, .slice none 0 0]) := by kernel_rfl
theorem go15 : isGo Try.prog 15 = true := by kernel_rfl
theorem agg30 : tyAgg Try.prog 30 = some 4 := by kernel_rfl
theorem siz30 : tySize Try.prog 30 = some 4 := by kernel_rfl
theorem fo30_0 : fieldOff Try.prog 30 0 = some 0 := by kernel_rfl
theorem go16 : isGo Try.prog 16 = true := by kernel_rfl
theorem fo30_1 : fieldOff Try.prog 30 1 = some 2 := by kernel_rfl
theorem go17 : isGo Try.prog 17 = true := by kernel_rfl
theorem zer34 : (Try.prog.info? 34).bind (·.zero) = some (.agg zc34.toArray) := by kernel_rfl
theorem fo34_3 : fieldOff Try.prog 34 3 = some 9 := by kernel_rfl
theorem one31 : tyOne Try.prog 31 = true := by kernel_rfl
theorem agg34 : tyAgg Try.prog 34 = some 267 := by kernel_rfl
theorem siz34 : tySize Try.prog 34 = some 267 := by kernel_rfl
theorem fo34_0 : fieldOff Try.prog 34 0 = some 0 := by kernel_rfl
theorem go12 : isGo Try.prog 12 = true := by kernel_rfl
theorem go11 : isGo Try.prog 11 = true := by kernel_rfl
theorem siz31 : tySize Try.prog 31 = some 1 := by kernel_rfl
theorem fo50_1 : fieldOff Try.prog 50 1 = some 1 := by kernel_rfl
theorem fo34_2 : fieldOff Try.prog 34 2 = some 8 := by kernel_rfl
theorem fo34_1 : fieldOff Try.prog 34 1 = some 4 := by kernel_rfl
theorem fo34_4 : fieldOff Try.prog 34 4 = some 10 := by kernel_rfl
theorem are32 : arEl Try.prog 32 = some (256, 1) := by kernel_rfl
theorem fo25_0 : fieldOff Try.prog 25 0 = some 0 := by kernel_rfl
theorem go20 : isGo Try.prog 20 = true := by kernel_rfl
theorem go14 : isGo Try.prog 14 = true := by kernel_rfl
theorem fo34_5 : fieldOff Try.prog 34 5 = some 266 := by kernel_rfl
theorem go10 : isGo Try.prog 10 = true := by kernel_rfl
theorem go9 : isGo Try.prog 9 = true := by kernel_rfl
theorem go7 : isGo Try.prog 7 = true := by kernel_rfl
theorem go5 : isGo Try.prog 5 = true := by kernel_rfl
theorem go6 : isGo Try.prog 6 = true := by kernel_rfl
theorem sle22 : slEl Try.prog 22 = some 2 := by kernel_rfl
theorem are36 : arEl Try.prog 36 = some (2, 1) := by kernel_rfl
theorem go4 : isGo Try.prog 4 = true := by kernel_rfl
theorem go8 : isGo Try.prog 8 = true := by kernel_rfl
end Go.Sw
