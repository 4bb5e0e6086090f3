/- Facts on the program's types. -/
import Derived.Test.YtahaedoeckgidaaZtM
import Derived.Test.YtahaedoeckgidaaProg
import Derived.KernelRfl
set_option linter.unusedVariables false
set_option linter.unusedSimpArgs false
namespace Go.Proofs
open Go.Shelf
shelf_lay Lays.n189 Nm 189 at Try as Try.lays189
end Go.Proofs
namespace Go.Sw
open Go.Proofs
theorem sle31 : slEl Try.prog 31 = some 1 := by kernel_rfl
theorem one9 : tyOne Try.prog 9 = true := by kernel_rfl
theorem sli31 : slInfo Try.prog 31 = some (9, 1, 16, [.string ⟨#[]⟩]) := by kernel_rfl
theorem sli55 : slInfo Try.prog 55 = some (5, 1, 1, [.int .u8 0]) := by kernel_rfl
theorem sle55 : slEl Try.prog 55 = some 1 := by kernel_rfl
theorem one5 : tyOne Try.prog 5 = true := by kernel_rfl
theorem mixed : Try.prog.follows .mixedOrders = true := by kernel_rfl
theorem go18 : isGo Try.prog 18 = true := by kernel_rfl
theorem go19 : isGo Try.prog 19 = true := by kernel_rfl
theorem go13 : isGo Try.prog 13 = true := by kernel_rfl
theorem sli23 : slInfo Try.prog 23 = some (50, 2, 24, [.int .i64 0, .string ⟨#[]⟩]) := by kernel_rfl
theorem zer25 : (Try.prog.info? 25).bind (·.zero) = some (.agg #[.int .i64 0, .slice none 0 0]) := by kernel_rfl
theorem fo25_1 : fieldOff Try.prog 25 1 = some 1 := by kernel_rfl
theorem one23 : tyOne Try.prog 23 = true := by kernel_rfl
theorem go21 : isGo Try.prog 21 = true := by kernel_rfl
theorem sle23 : slEl Try.prog 23 = some 2 := by kernel_rfl
theorem agg50 : tyAgg Try.prog 50 = some 2 := by kernel_rfl
theorem fo50_0 : fieldOff Try.prog 50 0 = some 0 := by kernel_rfl
theorem one3 : tyOne Try.prog 3 = true := by kernel_rfl
theorem go23 : isGo Try.prog 23 = true := by kernel_rfl
theorem go28 : isGo Try.prog 28 = true := by kernel_rfl
theorem zer50 : (Try.prog.info? 50).bind (·.zero) = some (.agg #[.int .i64 0, .string ⟨#[]⟩]) := by kernel_rfl
theorem siz50 : tySize Try.prog 50 = some 2 := by kernel_rfl
theorem go22 : isGo Try.prog 22 = true := by kernel_rfl
theorem siz23 : tySize Try.prog 23 = some 1 := by kernel_rfl
theorem agg25 : tyAgg Try.prog 25 = some 2 := by kernel_rfl
theorem siz25 : tySize Try.prog 25 = some 2 := by kernel_rfl
theorem fo28_0 : fieldOff Try.prog 28 0 = some 0 := by kernel_rfl
theorem fo28_1 : fieldOff Try.prog 28 1 = some 1 := by kernel_rfl
theorem one26 : tyOne Try.prog 26 = true := by kernel_rfl
theorem sle26 : slEl Try.prog 26 = some 1 := by kernel_rfl
theorem go29 : isGo Try.prog 29 = true := by kernel_rfl
theorem sli26 : slInfo Try.prog 26 = some (3, 1, 8, [.int .i64 0]) := by kernel_rfl
theorem zer28 : (Try.prog.info? 28).bind (·.zero) = some (.agg #[.int .i64 0, .slice none 0 0]) := by kernel_rfl
theorem agg28 : tyAgg Try.prog 28 = some 2 := by kernel_rfl
theorem go24 : isGo Try.prog 24 = true := by kernel_rfl
theorem siz28 : tySize Try.prog 28 = some 2 := by kernel_rfl
theorem go25 : isGo Try.prog 25 = true := by kernel_rfl
theorem go26 : isGo Try.prog 26 = true := by kernel_rfl
theorem go27 : isGo Try.prog 27 = true := by kernel_rfl
theorem siz3 : tySize Try.prog 3 = some 1 := by kernel_rfl
theorem siz26 : tySize Try.prog 26 = some 1 := by kernel_rfl
theorem zer30 : (Try.prog.info? 30).bind (·.zero) = some (.agg #[.int .i64 0, .slice none 0 0, .int .i64 0, .slice none 0 0]) := by kernel_rfl
theorem go15 : isGo Try.prog 15 = true := by kernel_rfl
theorem agg30 : tyAgg Try.prog 30 = some 4 := by kernel_rfl
theorem siz30 : tySize Try.prog 30 = some 4 := by kernel_rfl
theorem fo30_0 : fieldOff Try.prog 30 0 = some 0 := by kernel_rfl
theorem go16 : isGo Try.prog 16 = true := by kernel_rfl
theorem fo30_1 : fieldOff Try.prog 30 1 = some 2 := by kernel_rfl
theorem go17 : isGo Try.prog 17 = true := by kernel_rfl
theorem zer34 : (Try.prog.info? 34).bind (·.zero) = some (.agg zc34.toArray) := by kernel_rfl
theorem fo34_3 : fieldOff Try.prog 34 3 = some 9 := by kernel_rfl
theorem one31 : tyOne Try.prog 31 = true := by kernel_rfl
theorem agg34 : tyAgg Try.prog 34 = some 267 := by kernel_rfl
theorem siz34 : tySize Try.prog 34 = some 267 := by kernel_rfl
theorem fo34_0 : fieldOff Try.prog 34 0 = some 0 := by kernel_rfl
theorem go12 : isGo Try.prog 12 = true := by kernel_rfl
theorem go11 : isGo Try.prog 11 = true := by kernel_rfl
theorem siz31 : tySize Try.prog 31 = some 1 := by kernel_rfl
theorem fo50_1 : fieldOff Try.prog 50 1 = some 1 := by kernel_rfl
theorem fo34_2 : fieldOff Try.prog 34 2 = some 8 := by kernel_rfl
theorem fo34_1 : fieldOff Try.prog 34 1 = some 4 := by kernel_rfl
theorem fo34_4 : fieldOff Try.prog 34 4 = some 10 := by kernel_rfl
theorem are32 : arEl Try.prog 32 = some (256, 1) := by kernel_rfl
theorem fo25_0 : fieldOff Try.prog 25 0 = some 0 := by kernel_rfl
theorem go20 : isGo Try.prog 20 = true := by kernel_rfl
theorem go14 : isGo Try.prog 14 = true := by kernel_rfl
theorem fo34_5 : fieldOff Try.prog 34 5 = some 266 := by kernel_rfl
theorem go10 : isGo Try.prog 10 = true := by kernel_rfl
theorem go9 : isGo Try.prog 9 = true := by kernel_rfl
theorem go7 : isGo Try.prog 7 = true := by kernel_rfl
theorem go5 : isGo Try.prog 5 = true := by kernel_rfl
theorem go6 : isGo Try.prog 6 = true := by kernel_rfl
theorem sle22 : slEl Try.prog 22 = some 2 := by kernel_rfl
theorem are36 : arEl Try.prog 36 = some (2, 1) := by kernel_rfl
theorem go4 : isGo Try.prog 4 = true := by kernel_rfl
theorem go8 : isGo Try.prog 8 = true := by kernel_rfl
end Go.Sw
