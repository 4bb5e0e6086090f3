/- Facts on the program's types. -/
import Derived.Test.YtahaedoeckgidaaGreatZgM
import Derived.Test.YtahaedoeckgidaaGreatProg
import Derived.KernelRfl
set_option linter.unusedVariables false
set_option linter.unusedSimpArgs false
namespace Go.Proofs
open Go.Shelf
end Go.Proofs
namespace Go.Sw
theorem sj {α : Type} {a b : α} (h : some a = some b) : a = b := Option.some.inj h
open Go.Proofs
theorem sle25 : slEl Tryz.prog 25 = some 1 := by kernel_rfl
theorem one61 : tyOne Tryz.prog 61 = true := by kernel_rfl
theorem fo24_1 : fieldOff Tryz.prog 24 1 = some 1 := by kernel_rfl
theorem one22 : tyOne Tryz.prog 22 = true := by kernel_rfl
theorem sle22 : slEl Tryz.prog 22 = some 3 := by kernel_rfl
theorem agg41 : tyAgg Tryz.prog 41 = some 3 := by kernel_rfl
theorem zer41 : (Tryz.prog.info? 41).bind (·.zero) = some (.agg #[.slice none 0 0, .slice none 0 0, .int .i64 0]) := by kernel_rfl
theorem siz41 : tySize Tryz.prog 41 = some 3 := by kernel_rfl
theorem fo41_1 : fieldOff Tryz.prog 41 1 = some 1 := by kernel_rfl
theorem one39 : tyOne Tryz.prog 39 = true := by kernel_rfl
theorem fo41_0 : fieldOff Tryz.prog 41 0 = some 0 := by kernel_rfl
theorem one25 : tyOne Tryz.prog 25 = true := by kernel_rfl
theorem go8 : isGo Tryz.prog 8 = true := by kernel_rfl
theorem sle39 : slEl Tryz.prog 39 = some 2 := by kernel_rfl
theorem agg50 : tyAgg Tryz.prog 50 = some 2 := by kernel_rfl
theorem zer50 : (Tryz.prog.info? 50).bind (·.zero) = some (.agg #[.slice none 0 0, .slice none 0 0]) := by kernel_rfl
theorem siz50 : tySize Tryz.prog 50 = some 2 := by kernel_rfl
theorem fo50_0 : fieldOff Tryz.prog 50 0 = some 0 := by kernel_rfl
theorem fo50_1 : fieldOff Tryz.prog 50 1 = some 1 := by kernel_rfl
theorem sle61 : slEl Tryz.prog 61 = some 1 := by kernel_rfl
theorem one3 : tyOne Tryz.prog 3 = true := by kernel_rfl
theorem go53 : isGo Tryz.prog 53 = true := by kernel_rfl
theorem fo24_0 : fieldOff Tryz.prog 24 0 = some 0 := by kernel_rfl
theorem fo41_2 : fieldOff Tryz.prog 41 2 = some 2 := by kernel_rfl
theorem go18 : isGo Tryz.prog 18 = true := by kernel_rfl
theorem fo31_0 : fieldOff Tryz.prog 31 0 = some 0 := by kernel_rfl
theorem fo31_1 : fieldOff Tryz.prog 31 1 = some 1 := by kernel_rfl
theorem mixed : Tryz.prog.follows .mixedOrders = true := by kernel_rfl
theorem agg24 : tyAgg Tryz.prog 24 = some 2 := by kernel_rfl
theorem go30 : isGo Tryz.prog 30 = true := by kernel_rfl
theorem go31 : isGo Tryz.prog 31 = true := by kernel_rfl
theorem agg31 : tyAgg Tryz.prog 31 = some 2 := by kernel_rfl
theorem go32 : isGo Tryz.prog 32 = true := by kernel_rfl
theorem go79 : isGo Tryz.prog 79 = true := by kernel_rfl
theorem go139 : isGo Tryz.prog 139 = true := by kernel_rfl
theorem go122 : isGo Tryz.prog 122 = true := by kernel_rfl
theorem go77 : isGo Tryz.prog 77 = true := by kernel_rfl
theorem go138 : isGo Tryz.prog 138 = true := by kernel_rfl
theorem go121 : isGo Tryz.prog 121 = true := by kernel_rfl
theorem go75 : isGo Tryz.prog 75 = true := by kernel_rfl
theorem go104 : isGo Tryz.prog 104 = true := by kernel_rfl
theorem go55 : isGo Tryz.prog 55 = true := by kernel_rfl
theorem go120 : isGo Tryz.prog 120 = true := by kernel_rfl
theorem go150 : isGo Tryz.prog 150 = true := by kernel_rfl
theorem go119 : isGo Tryz.prog 119 = true := by kernel_rfl
theorem go74 : isGo Tryz.prog 74 = true := by kernel_rfl
theorem go73 : isGo Tryz.prog 73 = true := by kernel_rfl
theorem go80 : isGo Tryz.prog 80 = true := by kernel_rfl
theorem go37 : isGo Tryz.prog 37 = true := by kernel_rfl
theorem go78 : isGo Tryz.prog 78 = true := by kernel_rfl
theorem go76 : isGo Tryz.prog 76 = true := by kernel_rfl
theorem fo27_1 : fieldOff Tryz.prog 27 1 = some 1 := by kernel_rfl
theorem fo27_0 : fieldOff Tryz.prog 27 0 = some 0 := by kernel_rfl
theorem sli25 : slInfo Tryz.prog 25 = some (61, 1, 24, [.slice none 0 0]) := by kernel_rfl
theorem sle68 : slEl Tryz.prog 68 = some 1 := by kernel_rfl
theorem one5 : tyOne Tryz.prog 5 = true := by kernel_rfl
theorem fo109_0 : fieldOff Tryz.prog 109 0 = some 0 := by kernel_rfl
theorem fo109_1 : fieldOff Tryz.prog 109 1 = some 1 := by kernel_rfl
theorem fo109_2 : fieldOff Tryz.prog 109 2 = some 2 := by kernel_rfl
theorem fo109_3 : fieldOff Tryz.prog 109 3 = some 3 := by kernel_rfl
theorem fo109_4 : fieldOff Tryz.prog 109 4 = some 4 := by kernel_rfl
theorem fo109_5 : fieldOff Tryz.prog 109 5 = some 5 := by kernel_rfl
theorem fo109_6 : fieldOff Tryz.prog 109 6 = some 6 := by kernel_rfl
theorem fo109_7 : fieldOff Tryz.prog 109 7 = some 7 := by kernel_rfl
theorem fo109_8 : fieldOff Tryz.prog 109 8 = some 8 := by kernel_rfl
theorem fo109_9 : fieldOff Tryz.prog 109 9 = some 9 := by kernel_rfl
theorem sli61 : slInfo Tryz.prog 61 = some (3, 1, 8, [.int .i64 0]) := by kernel_rfl
theorem agg109 : tyAgg Tryz.prog 109 = some 11 := by kernel_rfl
theorem go131 : isGo Tryz.prog 131 = true := by kernel_rfl
theorem fo109_10 : fieldOff Tryz.prog 109 10 = some 10 := by kernel_rfl
theorem sli68 : slInfo Tryz.prog 68 = some (5, 1, 1, [.int .u8 0]) := by kernel_rfl
theorem go94 : isGo Tryz.prog 94 = true := by kernel_rfl
theorem go137 : isGo Tryz.prog 137 = true := by kernel_rfl
theorem go59 : isGo Tryz.prog 59 = true := by kernel_rfl
theorem sli55 : slInfo Tryz.prog 55 = some (9, 1, 16, [.string ⟨#[]⟩]) := by kernel_rfl
theorem go71 : isGo Tryz.prog 71 = true := by kernel_rfl
theorem go102 : isGo Tryz.prog 102 = true := by kernel_rfl
theorem fo93_3 : fieldOff Tryz.prog 93 3 = some 9 := by kernel_rfl
theorem one55 : tyOne Tryz.prog 55 = true := by kernel_rfl
theorem go103 : isGo Tryz.prog 103 = true := by kernel_rfl
theorem siz55 : tySize Tryz.prog 55 = some 1 := by kernel_rfl
theorem agg27 : tyAgg Tryz.prog 27 = some 2 := by kernel_rfl
theorem go36 : isGo Tryz.prog 36 = true := by kernel_rfl
theorem fo93_5 : fieldOff Tryz.prog 93 5 = some 11 := by kernel_rfl
theorem fo93_0 : fieldOff Tryz.prog 93 0 = some 0 := by kernel_rfl
theorem fo93_6 : fieldOff Tryz.prog 93 6 = some 12 := by kernel_rfl
theorem one90 : tyOne Tryz.prog 90 = true := by kernel_rfl
theorem sle90 : slEl Tryz.prog 90 = some 4 := by kernel_rfl
theorem agg145 : tyAgg Tryz.prog 145 = some 4 := by kernel_rfl
theorem zer145 : (Tryz.prog.info? 145).bind (·.zero) = some (.agg #[.int .i64 0, .int .i64 0, .int .i64 0, .int .i64 0]) := by kernel_rfl
theorem siz145 : tySize Tryz.prog 145 = some 4 := by kernel_rfl
theorem fo93_8 : fieldOff Tryz.prog 93 8 = some 14 := by kernel_rfl
theorem one91 : tyOne Tryz.prog 91 = true := by kernel_rfl
theorem sle91 : slEl Tryz.prog 91 = some 1 := by kernel_rfl
theorem one4 : tyOne Tryz.prog 4 = true := by kernel_rfl
theorem fo93_1 : fieldOff Tryz.prog 93 1 = some 2 := by kernel_rfl
theorem fo145_2 : fieldOff Tryz.prog 145 2 = some 2 := by kernel_rfl
theorem fo145_0 : fieldOff Tryz.prog 145 0 = some 0 := by kernel_rfl
theorem fo145_1 : fieldOff Tryz.prog 145 1 = some 1 := by kernel_rfl
theorem go72 : isGo Tryz.prog 72 = true := by kernel_rfl
theorem fo93_4 : fieldOff Tryz.prog 93 4 = some 10 := by kernel_rfl
theorem go51 : isGo Tryz.prog 51 = true := by kernel_rfl
theorem go157 : isGo Tryz.prog 157 = true := by kernel_rfl
theorem go155 : isGo Tryz.prog 155 = true := by kernel_rfl
theorem go158 : isGo Tryz.prog 158 = true := by kernel_rfl
theorem go173 : isGo Tryz.prog 173 = true := by kernel_rfl
theorem go172 : isGo Tryz.prog 172 = true := by kernel_rfl
theorem zer197 : (Tryz.prog.info? 197).bind (·.zero) = some (.agg #[.int .i64 0, .int .i64 0, .int .i64 0, .int .i64 0]) := by kernel_rfl
theorem go134 : isGo Tryz.prog 134 = true := by kernel_rfl
theorem siz197 : tySize Tryz.prog 197 = some 4 := by kernel_rfl
theorem agg197 : tyAgg Tryz.prog 197 = some 4 := by kernel_rfl
theorem go151 : isGo Tryz.prog 151 = true := by kernel_rfl
theorem fo197_0 : fieldOff Tryz.prog 197 0 = some 0 := by kernel_rfl
theorem siz3 : tySize Tryz.prog 3 = some 1 := by kernel_rfl
theorem fo197_1 : fieldOff Tryz.prog 197 1 = some 1 := by kernel_rfl
theorem go152 : isGo Tryz.prog 152 = true := by kernel_rfl
theorem fo197_2 : fieldOff Tryz.prog 197 2 = some 2 := by kernel_rfl
theorem fo197_3 : fieldOff Tryz.prog 197 3 = some 3 := by kernel_rfl
theorem sle94 : slEl Tryz.prog 94 = some 2 := by kernel_rfl
theorem agg99 : tyAgg Tryz.prog 99 = some 2 := by kernel_rfl
theorem zer99 : (Tryz.prog.info? 99).bind (·.zero) = some (.agg zc99.toArray) := by kernel_rfl
theorem siz99 : tySize Tryz.prog 99 = some 2 := by kernel_rfl
theorem are99 : arEl Tryz.prog 99 = some (2, 1) := by kernel_rfl
theorem mof221 : mapOf Tryz.prog 221 = some (3, 3) := by kernel_rfl
theorem zer3 : (Tryz.prog.info? 3).bind (·.zero) = some (.int .i64 0) := by kernel_rfl
theorem sli94 : slInfo Tryz.prog 94 = some (99, 2, 16, [.int .i64 0, .int .i64 0]) := by kernel_rfl
theorem go123 : isGo Tryz.prog 123 = true := by kernel_rfl
theorem sli196 : slInfo Tryz.prog 196 = some (197, 4, 32, [.int .i64 0, .int .i64 0, .int .i64 0, .int .i64 0]) := by kernel_rfl
theorem go124 : isGo Tryz.prog 124 = true := by kernel_rfl
theorem sle196 : slEl Tryz.prog 196 = some 4 := by kernel_rfl
theorem sli90 : slInfo Tryz.prog 90 = some (145, 4, 32, [.int .i64 0, .int .i64 0, .int .i64 0, .int .i64 0]) := by kernel_rfl
theorem go81 : isGo Tryz.prog 81 = true := by kernel_rfl
theorem siz90 : tySize Tryz.prog 90 = some 1 := by kernel_rfl
theorem fo93_7 : fieldOff Tryz.prog 93 7 = some 13 := by kernel_rfl
theorem siz25 : tySize Tryz.prog 25 = some 1 := by kernel_rfl
theorem sli91 : slInfo Tryz.prog 91 = some (4, 1, 1, [.bool false]) := by kernel_rfl
theorem siz91 : tySize Tryz.prog 91 = some 1 := by kernel_rfl
theorem go29 : isGo Tryz.prog 29 = true := by kernel_rfl
theorem go125 : isGo Tryz.prog 125 = true := by kernel_rfl
theorem go154 : isGo Tryz.prog 154 = true := by kernel_rfl
theorem go153 : isGo Tryz.prog 153 = true := by kernel_rfl
theorem go156 : isGo Tryz.prog 156 = true := by kernel_rfl
theorem go39 : isGo Tryz.prog 39 = true := by kernel_rfl
theorem fo145_3 : fieldOff Tryz.prog 145 3 = some 3 := by kernel_rfl
theorem go127 : isGo Tryz.prog 127 = true := by kernel_rfl
theorem go126 : isGo Tryz.prog 126 = true := by kernel_rfl
theorem siz61 : tySize Tryz.prog 61 = some 1 := by kernel_rfl
theorem go82 : isGo Tryz.prog 82 = true := by kernel_rfl
theorem go83 : isGo Tryz.prog 83 = true := by kernel_rfl
theorem go40 : isGo Tryz.prog 40 = true := by kernel_rfl
theorem go34 : isGo Tryz.prog 34 = true := by kernel_rfl
theorem go35 : isGo Tryz.prog 35 = true := by kernel_rfl
theorem go38 : isGo Tryz.prog 38 = true := by kernel_rfl
theorem go41 : isGo Tryz.prog 41 = true := by kernel_rfl
theorem sle55 : slEl Tryz.prog 55 = some 1 := by kernel_rfl
theorem one9 : tyOne Tryz.prog 9 = true := by kernel_rfl
theorem go91 : isGo Tryz.prog 91 = true := by kernel_rfl
theorem zer109 : (Tryz.prog.info? 109).bind (·.zero) = some (.agg #[.int .i64 0, .int .i64 0, .int .i64 0, .int .i64 0, .int .i64 0, .int .i64 0, .int .i64 0, .int .i64 0, .int .i64 0, .int .i64 0, .slice none 0 0]) := by kernel_rfl
theorem siz109 : tySize Tryz.prog 109 = some 11 := by kernel_rfl
theorem go92 : isGo Tryz.prog 92 = true := by kernel_rfl
theorem go93 : isGo Tryz.prog 93 = true := by kernel_rfl
theorem go96 : isGo Tryz.prog 96 = true := by kernel_rfl
theorem go95 : isGo Tryz.prog 95 = true := by kernel_rfl
theorem siz4 : tySize Tryz.prog 4 = some 1 := by kernel_rfl
theorem go142 : isGo Tryz.prog 142 = true := by kernel_rfl
theorem go112 : isGo Tryz.prog 112 = true := by kernel_rfl
theorem sle88 : slEl Tryz.prog 88 = some 5 := by kernel_rfl
theorem agg207 : tyAgg Tryz.prog 207 = some 5 := by kernel_rfl
theorem fo207_0 : fieldOff Tryz.prog 207 0 = some 0 := by kernel_rfl
theorem agg171 : tyAgg Tryz.prog 171 = some 4 := by kernel_rfl
theorem sti171 : stInts Tryz.prog 171 = some 4 := by kernel_rfl
theorem go133 : isGo Tryz.prog 133 = true := by kernel_rfl
theorem go132 : isGo Tryz.prog 132 = true := by kernel_rfl
theorem fo207_1 : fieldOff Tryz.prog 207 1 = some 4 := by kernel_rfl
theorem go113 : isGo Tryz.prog 113 = true := by kernel_rfl
theorem go159 : isGo Tryz.prog 159 = true := by kernel_rfl
theorem go135 : isGo Tryz.prog 135 = true := by kernel_rfl
theorem sli88 : slInfo Tryz.prog 88 = some (207, 5, 56, [.int .i64 0, .int .i64 0, .int .i64 0, .int .i64 0, .slice none 0 0]) := by kernel_rfl
theorem go99 : isGo Tryz.prog 99 = true := by kernel_rfl
theorem go136 : isGo Tryz.prog 136 = true := by kernel_rfl
theorem go97 : isGo Tryz.prog 97 = true := by kernel_rfl
theorem go98 : isGo Tryz.prog 98 = true := by kernel_rfl
theorem zer171 : (Tryz.prog.info? 171).bind (·.zero) = some (.agg #[.int .i64 0, .int .i64 0, .int .i64 0, .int .i64 0]) := by kernel_rfl
theorem siz171 : tySize Tryz.prog 171 = some 4 := by kernel_rfl
theorem go100 : isGo Tryz.prog 100 = true := by kernel_rfl
theorem go101 : isGo Tryz.prog 101 = true := by kernel_rfl
theorem go47 : isGo Tryz.prog 47 = true := by kernel_rfl
theorem go48 : isGo Tryz.prog 48 = true := by kernel_rfl
theorem go49 : isGo Tryz.prog 49 = true := by kernel_rfl
theorem fo93_2 : fieldOff Tryz.prog 93 2 = some 4 := by kernel_rfl
theorem are89 : arEl Tryz.prog 89 = some (5, 1) := by kernel_rfl
theorem one88 : tyOne Tryz.prog 88 = true := by kernel_rfl
theorem go50 : isGo Tryz.prog 50 = true := by kernel_rfl
theorem siz88 : tySize Tryz.prog 88 = some 1 := by kernel_rfl
theorem agg89 : tyAgg Tryz.prog 89 = some 5 := by kernel_rfl
theorem sli39 : slInfo Tryz.prog 39 = some (50, 2, 48, [.slice none 0 0, .slice none 0 0]) := by kernel_rfl
theorem sli22 : slInfo Tryz.prog 22 = some (41, 3, 56, [.slice none 0 0, .slice none 0 0, .int .i64 0]) := by kernel_rfl
theorem zer24 : (Tryz.prog.info? 24).bind (·.zero) = some (.agg #[.int .i64 0, .slice none 0 0]) := by kernel_rfl
theorem siz24 : tySize Tryz.prog 24 = some 2 := by kernel_rfl
theorem go11 : isGo Tryz.prog 11 = true := by kernel_rfl
theorem go28 : isGo Tryz.prog 28 = true := by kernel_rfl
theorem go14 : isGo Tryz.prog 14 = true := by kernel_rfl
theorem go15 : isGo Tryz.prog 15 = true := by kernel_rfl
theorem go17 : isGo Tryz.prog 17 = true := by kernel_rfl
theorem go33 : isGo Tryz.prog 33 = true := by kernel_rfl
theorem go88 : isGo Tryz.prog 88 = true := by kernel_rfl
theorem go89 : isGo Tryz.prog 89 = true := by kernel_rfl
theorem go128 : isGo Tryz.prog 128 = true := by kernel_rfl
theorem go129 : isGo Tryz.prog 129 = true := by kernel_rfl
theorem go130 : isGo Tryz.prog 130 = true := by kernel_rfl
theorem zer96 : (Tryz.prog.info? 96).bind (·.zero) = some (.agg #[.int .i64 0, .int .i64 0, .int .i64 0, .int .i64 0]) := by kernel_rfl
theorem go84 : isGo Tryz.prog 84 = true := by kernel_rfl
theorem siz96 : tySize Tryz.prog 96 = some 4 := by kernel_rfl
theorem agg96 : tyAgg Tryz.prog 96 = some 4 := by kernel_rfl
theorem go85 : isGo Tryz.prog 85 = true := by kernel_rfl
theorem go86 : isGo Tryz.prog 86 = true := by kernel_rfl
theorem go87 : isGo Tryz.prog 87 = true := by kernel_rfl
theorem go42 : isGo Tryz.prog 42 = true := by kernel_rfl
theorem fo96_0 : fieldOff Tryz.prog 96 0 = some 0 := by kernel_rfl
theorem fo96_1 : fieldOff Tryz.prog 96 1 = some 1 := by kernel_rfl
theorem go43 : isGo Tryz.prog 43 = true := by kernel_rfl
theorem fo96_2 : fieldOff Tryz.prog 96 2 = some 2 := by kernel_rfl
theorem sli37 : slInfo Tryz.prog 37 = some (102, 4, 32, [.int .i64 0, .int .i64 0, .int .i64 0, .int .i64 0]) := by kernel_rfl
theorem fo96_3 : fieldOff Tryz.prog 96 3 = some 3 := by kernel_rfl
theorem go90 : isGo Tryz.prog 90 = true := by kernel_rfl
theorem go12 : isGo Tryz.prog 12 = true := by kernel_rfl
theorem sle37 : slEl Tryz.prog 37 = some 4 := by kernel_rfl
theorem agg102 : tyAgg Tryz.prog 102 = some 4 := by kernel_rfl
theorem zer102 : (Tryz.prog.info? 102).bind (·.zero) = some (.agg #[.int .i64 0, .int .i64 0, .int .i64 0, .int .i64 0]) := by kernel_rfl
theorem siz102 : tySize Tryz.prog 102 = some 4 := by kernel_rfl
theorem fo102_0 : fieldOff Tryz.prog 102 0 = some 0 := by kernel_rfl
theorem fo102_2 : fieldOff Tryz.prog 102 2 = some 2 := by kernel_rfl
theorem fo102_3 : fieldOff Tryz.prog 102 3 = some 3 := by kernel_rfl
theorem go46 : isGo Tryz.prog 46 = true := by kernel_rfl
theorem go45 : isGo Tryz.prog 45 = true := by kernel_rfl
theorem go44 : isGo Tryz.prog 44 = true := by kernel_rfl
theorem go52 : isGo Tryz.prog 52 = true := by kernel_rfl
theorem go7 : isGo Tryz.prog 7 = true := by kernel_rfl
theorem go10 : isGo Tryz.prog 10 = true := by kernel_rfl
theorem go9 : isGo Tryz.prog 9 = true := by kernel_rfl
theorem go13 : isGo Tryz.prog 13 = true := by kernel_rfl
theorem go16 : isGo Tryz.prog 16 = true := by kernel_rfl
end Go.Sw
