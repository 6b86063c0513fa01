import Derived.Test.YtmollikhdbaikaaProg
import Derived.Test.YtmollikhdbaikaaZLb
import Derived.Test.YtmollikhdbaikaaZLc
namespace Go.Proofs.Ytmollikhdbaikaa
open Go.L

theorem ts3 : tsize Try.prog 3 = 1 := by kernel_rfl
theorem ta3 : tagg Try.prog 3 = false := by kernel_rfl
theorem tk3 : tok Try.prog 3 = true := by kernel_rfl
theorem ti3 : tint Try.prog 3 = some .i64 := by kernel_rfl
theorem tz3 : tzero Try.prog 3 = some (.int .i64 0) := by kernel_rfl
theorem tr3 : trow Try.prog 3 = true := by kernel_rfl
theorem ts4 : tsize Try.prog 4 = 1 := by kernel_rfl
theorem ta4 : tagg Try.prog 4 = false := by kernel_rfl
theorem tk4 : tok Try.prog 4 = true := by kernel_rfl
theorem tb4 : tbool Try.prog 4 = true := by kernel_rfl
theorem tr4 : trow Try.prog 4 = true := by kernel_rfl
theorem ts5 : tsize Try.prog 5 = 1 := by kernel_rfl
theorem ti5 : tint Try.prog 5 = some .u8 := by kernel_rfl
theorem tr5 : trow Try.prog 5 = true := by kernel_rfl
theorem ts9 : tsize Try.prog 9 = 1 := by kernel_rfl
theorem ta9 : tagg Try.prog 9 = false := by kernel_rfl
theorem tk9 : tok Try.prog 9 = true := by kernel_rfl
theorem tS9 : tstr Try.prog 9 = true := by kernel_rfl
theorem tr9 : trow Try.prog 9 = true := by kernel_rfl
theorem ts22 : tsize Try.prog 22 = 1 := by kernel_rfl
theorem ta22 : tagg Try.prog 22 = false := by kernel_rfl
theorem tk22 : tok Try.prog 22 = true := by kernel_rfl
theorem te22 : telem Try.prog 22 = some 3 := by kernel_rfl
theorem te25 : telem Try.prog 25 = some 38 := by kernel_rfl
theorem ts27 : tsize Try.prog 27 = 1 := by kernel_rfl
theorem tk27 : tok Try.prog 27 = true := by kernel_rfl
theorem ts31 : tsize Try.prog 31 = 3 := by kernel_rfl
theorem ta31 : tagg Try.prog 31 = true := by kernel_rfl
theorem tk31 : tok Try.prog 31 = true := by kernel_rfl
theorem tz31 : tzero Try.prog 31 = some (.agg [.int .i64 0, .int .i64 0, .int .i64 0]) := by kernel_rfl
theorem tr31 : trow Try.prog 31 = true := by kernel_rfl
theorem tu31 : tbuild Try.prog 31 = true := by kernel_rfl
theorem tf31_0 : tfield Try.prog 31 0 = some (0, 3) := by kernel_rfl
theorem tf31_1 : tfield Try.prog 31 1 = some (1, 3) := by kernel_rfl
theorem tf31_2 : tfield Try.prog 31 2 = some (2, 3) := by kernel_rfl
theorem ts32 : tsize Try.prog 32 = 1 := by kernel_rfl
theorem ta32 : tagg Try.prog 32 = false := by kernel_rfl
theorem tk32 : tok Try.prog 32 = true := by kernel_rfl
theorem te32 : telem Try.prog 32 = some 89 := by kernel_rfl
theorem ts34 : tsize Try.prog 34 = 5 := by kernel_rfl
theorem ta34 : tagg Try.prog 34 = true := by kernel_rfl
theorem tk34 : tok Try.prog 34 = true := by kernel_rfl
theorem tz34 : tzero Try.prog 34 = some (.agg [.int .i64 0, .int .i64 0, .str (ByteArray.mk #[]), .nil, .nil]) := by kernel_rfl
theorem tr34 : trow Try.prog 34 = true := by kernel_rfl
theorem tu34 : tbuild Try.prog 34 = true := by kernel_rfl
theorem tf34_0 : tfield Try.prog 34 0 = some (0, 3) := by kernel_rfl
theorem tf34_1 : tfield Try.prog 34 1 = some (1, 3) := by kernel_rfl
theorem tf34_2 : tfield Try.prog 34 2 = some (2, 9) := by kernel_rfl
theorem tf34_3 : tfield Try.prog 34 3 = some (3, 32) := by kernel_rfl
theorem tf34_4 : tfield Try.prog 34 4 = some (4, 22) := by kernel_rfl
theorem ts36 : tsize Try.prog 36 = 2 := by kernel_rfl
theorem ta36 : tagg Try.prog 36 = true := by kernel_rfl
theorem tk36 : tok Try.prog 36 = true := by kernel_rfl
theorem tz36 : tzero Try.prog 36 = some (.agg [.int .i64 0, .int .i64 0]) := by kernel_rfl
theorem tr36 : trow Try.prog 36 = true := by kernel_rfl
theorem tu36 : tbuild Try.prog 36 = true := by kernel_rfl
theorem tf36_0 : tfield Try.prog 36 0 = some (0, 3) := by kernel_rfl
theorem tf36_1 : tfield Try.prog 36 1 = some (1, 3) := by kernel_rfl
theorem ts38 : tsize Try.prog 38 = 12 := by kernel_rfl
theorem ta38 : tagg Try.prog 38 = true := by kernel_rfl
theorem tk38 : tok Try.prog 38 = true := by kernel_rfl
theorem tz38 : tzero Try.prog 38 = some (.agg [.int .i64 0, .int .i64 0, .int .i64 0, .int .i64 0, .int .i64 0, .int .i64 0, .str (ByteArray.mk #[]), .nil, .nil, .int .i64 0, .int .i64 0, .int .i64 0]) := by kernel_rfl
theorem tr38 : trow Try.prog 38 = true := by kernel_rfl
theorem tu38 : tbuild Try.prog 38 = true := by kernel_rfl
theorem tf38_0 : tfield Try.prog 38 0 = some (0, 31) := by kernel_rfl
theorem tf38_1 : tfield Try.prog 38 1 = some (3, 3) := by kernel_rfl
theorem tf38_2 : tfield Try.prog 38 2 = some (4, 34) := by kernel_rfl
theorem tf38_3 : tfield Try.prog 38 3 = some (9, 36) := by kernel_rfl
theorem tf38_4 : tfield Try.prog 38 4 = some (11, 3) := by kernel_rfl
theorem ts45 : tsize Try.prog 45 = 1 := by kernel_rfl
theorem ta45 : tagg Try.prog 45 = false := by kernel_rfl
theorem tk45 : tok Try.prog 45 = true := by kernel_rfl
theorem te45 : telem Try.prog 45 = some 58 := by kernel_rfl
theorem ts47 : tsize Try.prog 47 = 1 := by kernel_rfl
theorem ta47 : tagg Try.prog 47 = true := by kernel_rfl
theorem tk47 : tok Try.prog 47 = true := by kernel_rfl
theorem tz47 : tzero Try.prog 47 = some (.agg [.nil]) := by kernel_rfl
theorem tu47 : tbuild Try.prog 47 = true := by kernel_rfl
theorem tf47_0 : tfield Try.prog 47 0 = some (0, 45) := by kernel_rfl
theorem te48 : telem Try.prog 48 = some 73 := by kernel_rfl
theorem ts54 : tsize Try.prog 54 = 1 := by kernel_rfl
theorem ta54 : tagg Try.prog 54 = false := by kernel_rfl
theorem tk54 : tok Try.prog 54 = true := by kernel_rfl
theorem te54 : telem Try.prog 54 = some 34 := by kernel_rfl
theorem ts55 : tsize Try.prog 55 = 1 := by kernel_rfl
theorem ta55 : tagg Try.prog 55 = false := by kernel_rfl
theorem tk55 : tok Try.prog 55 = true := by kernel_rfl
theorem te55 : telem Try.prog 55 = some 4 := by kernel_rfl
theorem ts56 : tsize Try.prog 56 = 1 := by kernel_rfl
theorem ta56 : tagg Try.prog 56 = false := by kernel_rfl
theorem tk56 : tok Try.prog 56 = true := by kernel_rfl
theorem te56 : telem Try.prog 56 = some 102 := by kernel_rfl
theorem ts58 : tsize Try.prog 58 = 5 := by kernel_rfl
theorem ta58 : tagg Try.prog 58 = true := by kernel_rfl
theorem tk58 : tok Try.prog 58 = true := by kernel_rfl
theorem tz58 : tzero Try.prog 58 = some (.agg [.int .i64 0, .nil, .nil, .nil, .bool false]) := by kernel_rfl
theorem tr58 : trow Try.prog 58 = true := by kernel_rfl
theorem tu58 : tbuild Try.prog 58 = true := by kernel_rfl
theorem tf58_0 : tfield Try.prog 58 0 = some (0, 3) := by kernel_rfl
theorem tf58_1 : tfield Try.prog 58 1 = some (1, 54) := by kernel_rfl
theorem tf58_2 : tfield Try.prog 58 2 = some (2, 55) := by kernel_rfl
theorem tf58_3 : tfield Try.prog 58 3 = some (3, 56) := by kernel_rfl
theorem tf58_4 : tfield Try.prog 58 4 = some (4, 4) := by kernel_rfl
theorem te63 : telem Try.prog 63 = some 36 := by kernel_rfl
theorem ts71 : tsize Try.prog 71 = 2 := by kernel_rfl
theorem tk71 : tok Try.prog 71 = true := by kernel_rfl
theorem tz71 : tzero Try.prog 71 = some (.agg [.int .i64 0, .int .i64 0]) := by kernel_rfl
theorem tu71 : tbuild Try.prog 71 = true := by kernel_rfl
theorem tf71_0 : tfield Try.prog 71 0 = some (0, 3) := by kernel_rfl
theorem tf71_1 : tfield Try.prog 71 1 = some (1, 3) := by kernel_rfl
theorem ts73 : tsize Try.prog 73 = 3 := by kernel_rfl
theorem ta73 : tagg Try.prog 73 = true := by kernel_rfl
theorem tk73 : tok Try.prog 73 = true := by kernel_rfl
theorem tz73 : tzero Try.prog 73 = some (.agg [.int .i64 0, .int .i64 0, .int .i64 0]) := by kernel_rfl
theorem tr73 : trow Try.prog 73 = true := by kernel_rfl
theorem tu73 : tbuild Try.prog 73 = true := by kernel_rfl
theorem tf73_0 : tfield Try.prog 73 0 = some (0, 71) := by kernel_rfl
theorem tf73_1 : tfield Try.prog 73 1 = some (2, 27) := by kernel_rfl
theorem tz76 : tzero Try.prog 76 = some (.agg [.nil, .int .i64 0]) := by kernel_rfl
theorem tu76 : tbuild Try.prog 76 = true := by kernel_rfl
theorem tf76_0 : tfield Try.prog 76 0 = some (0, 22) := by kernel_rfl
theorem tf76_1 : tfield Try.prog 76 1 = some (1, 3) := by kernel_rfl
theorem ta85 : tagg Try.prog 85 = false := by kernel_rfl
theorem tk85 : tok Try.prog 85 = true := by kernel_rfl
theorem te85 : telem Try.prog 85 = some 31 := by kernel_rfl
theorem ts89 : tsize Try.prog 89 = 6 := by kernel_rfl
theorem ta89 : tagg Try.prog 89 = true := by kernel_rfl
theorem tk89 : tok Try.prog 89 = true := by kernel_rfl
theorem tz89 : tzero Try.prog 89 = some (.agg [.int .i64 0, .int .i64 0, .int .i64 0, .int .i64 0, .int .i64 0, .int .i64 0]) := by kernel_rfl
theorem tr89 : trow Try.prog 89 = true := by kernel_rfl
theorem tu89 : tbuild Try.prog 89 = true := by kernel_rfl
theorem tf89_0 : tfield Try.prog 89 0 = some (0, 3) := by kernel_rfl
theorem tf89_1 : tfield Try.prog 89 1 = some (1, 3) := by kernel_rfl
theorem tf89_2 : tfield Try.prog 89 2 = some (2, 3) := by kernel_rfl
theorem tf89_3 : tfield Try.prog 89 3 = some (3, 3) := by kernel_rfl
theorem tf89_4 : tfield Try.prog 89 4 = some (4, 3) := by kernel_rfl
theorem tf89_5 : tfield Try.prog 89 5 = some (5, 3) := by kernel_rfl
theorem tz92 : tzero Try.prog 92 = some (.nilf) := by kernel_rfl
theorem ts102 : tsize Try.prog 102 = 3 := by kernel_rfl
theorem ta102 : tagg Try.prog 102 = true := by kernel_rfl
theorem tk102 : tok Try.prog 102 = true := by kernel_rfl
theorem tz102 : tzero Try.prog 102 = some (.agg [.int .i64 0, .int .i64 0, .int .i64 0]) := by kernel_rfl
theorem tr102 : trow Try.prog 102 = true := by kernel_rfl
theorem tu102 : tbuild Try.prog 102 = true := by kernel_rfl
theorem tf102_0 : tfield Try.prog 102 0 = some (0, 3) := by kernel_rfl
theorem tf102_1 : tfield Try.prog 102 1 = some (1, 3) := by kernel_rfl
theorem tf102_2 : tfield Try.prog 102 2 = some (2, 3) := by kernel_rfl
theorem te107 : telem Try.prog 107 = some 9 := by kernel_rfl
theorem te120 : telem Try.prog 120 = some 5 := by kernel_rfl
theorem te123 : telem Try.prog 123 = some 126 := by kernel_rfl
theorem ts126 : tsize Try.prog 126 = 2 := by kernel_rfl
theorem ta126 : tagg Try.prog 126 = true := by kernel_rfl
theorem tk126 : tok Try.prog 126 = true := by kernel_rfl
theorem tz126 : tzero Try.prog 126 = some (.agg [.int .i64 0, .bool false]) := by kernel_rfl
theorem tr126 : trow Try.prog 126 = true := by kernel_rfl
theorem tu126 : tbuild Try.prog 126 = true := by kernel_rfl
theorem tf126_0 : tfield Try.prog 126 0 = some (0, 3) := by kernel_rfl
theorem tf126_1 : tfield Try.prog 126 1 = some (1, 4) := by kernel_rfl
theorem tq133 : tptr Try.prog 133 = true := by kernel_rfl
theorem tk139 : tok Try.prog 139 = true := by kernel_rfl
theorem ti139 : tint Try.prog 139 = some .u64 := by kernel_rfl
theorem mixed : Try.prog.follows .mixedOrders = true := by kernel_rfl
theorem isF8 : IsF Try.prog 8 := ⟨_, Try.func8, by kernel_rfl, rfl⟩
theorem isF9 : IsF Try.prog 9 := ⟨_, Try.func9, by kernel_rfl, rfl⟩
theorem isF10 : IsF Try.prog 10 := ⟨_, Try.func10, by kernel_rfl, rfl⟩
theorem isF12 : IsF Try.prog 12 := ⟨_, Try.func12, by kernel_rfl, rfl⟩
theorem isF13 : IsF Try.prog 13 := ⟨_, Try.func13, by kernel_rfl, rfl⟩
theorem isF16 : IsF Try.prog 16 := ⟨_, Try.func16, by kernel_rfl, rfl⟩
theorem isF18 : IsF Try.prog 18 := ⟨_, Try.func18, by kernel_rfl, rfl⟩
theorem isF19 : IsF Try.prog 19 := ⟨_, Try.func19, by kernel_rfl, rfl⟩
theorem isF21 : IsF Try.prog 21 := ⟨_, Try.func21, by kernel_rfl, rfl⟩
theorem isF23 : IsF Try.prog 23 := ⟨_, Try.func23, by kernel_rfl, rfl⟩
theorem isF24 : IsF Try.prog 24 := ⟨_, Try.func24, by kernel_rfl, rfl⟩
theorem isF26 : IsF Try.prog 26 := ⟨_, Try.func26, by kernel_rfl, rfl⟩
theorem isF27 : IsF Try.prog 27 := ⟨_, Try.func27, by kernel_rfl, rfl⟩
theorem isF28 : IsF Try.prog 28 := ⟨_, Try.func28, by kernel_rfl, rfl⟩
theorem isF29 : IsF Try.prog 29 := ⟨_, Try.func29, by kernel_rfl, rfl⟩
theorem isF30 : IsF Try.prog 30 := ⟨_, Try.func30, by kernel_rfl, rfl⟩
theorem isF31 : IsF Try.prog 31 := ⟨_, Try.func31, by kernel_rfl, rfl⟩
theorem isF32 : IsF Try.prog 32 := ⟨_, Try.func32, by kernel_rfl, rfl⟩
theorem isF33 : IsF Try.prog 33 := ⟨_, Try.func33, by kernel_rfl, rfl⟩
theorem isF34 : IsF Try.prog 34 := ⟨_, Try.func34, by kernel_rfl, rfl⟩
theorem isF36 : IsF Try.prog 36 := ⟨_, Try.func36, by kernel_rfl, rfl⟩
theorem isF37 : IsF Try.prog 37 := ⟨_, Try.func37, by kernel_rfl, rfl⟩
theorem isF39 : IsF Try.prog 39 := ⟨_, Try.func39, by kernel_rfl, rfl⟩
theorem isF40 : IsF Try.prog 40 := ⟨_, Try.func40, by kernel_rfl, rfl⟩
theorem isF41 : IsF Try.prog 41 := ⟨_, Try.func41, by kernel_rfl, rfl⟩
theorem isF42 : IsF Try.prog 42 := ⟨_, Try.func42, by kernel_rfl, rfl⟩
theorem isF43 : IsF Try.prog 43 := ⟨_, Try.func43, by kernel_rfl, rfl⟩
theorem isF44 : IsF Try.prog 44 := ⟨_, Try.func44, by kernel_rfl, rfl⟩
theorem isF45 : IsF Try.prog 45 := ⟨_, Try.func45, by kernel_rfl, rfl⟩
theorem isF46 : IsF Try.prog 46 := ⟨_, Try.func46, by kernel_rfl, rfl⟩
theorem isF47 : IsF Try.prog 47 := ⟨_, Try.func47, by kernel_rfl, rfl⟩
theorem isF48 : IsF Try.prog 48 := ⟨_, Try.func48, by kernel_rfl, rfl⟩
theorem isF49 : IsF Try.prog 49 := ⟨_, Try.func49, by kernel_rfl, rfl⟩
theorem isF50 : IsF Try.prog 50 := ⟨_, Try.func50, by kernel_rfl, rfl⟩
theorem isF51 : IsF Try.prog 51 := ⟨_, Try.func51, by kernel_rfl, rfl⟩
theorem isF52 : IsF Try.prog 52 := ⟨_, Try.func52, by kernel_rfl, rfl⟩
theorem isF53 : IsF Try.prog 53 := ⟨_, Try.func53, by kernel_rfl, rfl⟩
theorem isF54 : IsF Try.prog 54 := ⟨_, Try.func54, by kernel_rfl, rfl⟩
theorem isF57 : IsF Try.prog 57 := ⟨_, Try.func57, by kernel_rfl, rfl⟩
theorem isF58 : IsF Try.prog 58 := ⟨_, Try.func58, by kernel_rfl, rfl⟩
theorem isF59 : IsF Try.prog 59 := ⟨_, Try.func59, by kernel_rfl, rfl⟩
theorem isF60 : IsF Try.prog 60 := ⟨_, Try.func60, by kernel_rfl, rfl⟩
theorem isF61 : IsF Try.prog 61 := ⟨_, Try.func61, by kernel_rfl, rfl⟩
theorem isF62 : IsF Try.prog 62 := ⟨_, Try.func62, by kernel_rfl, rfl⟩
theorem isF63 : IsF Try.prog 63 := ⟨_, Try.func63, by kernel_rfl, rfl⟩
theorem isF64 : IsF Try.prog 64 := ⟨_, Try.func64, by kernel_rfl, rfl⟩
theorem isF65 : IsF Try.prog 65 := ⟨_, Try.func65, by kernel_rfl, rfl⟩
theorem isF66 : IsF Try.prog 66 := ⟨_, Try.func66, by kernel_rfl, rfl⟩
theorem isF67 : IsF Try.prog 67 := ⟨_, Try.func67, by kernel_rfl, rfl⟩
theorem isF68 : IsF Try.prog 68 := ⟨_, Try.func68, by kernel_rfl, rfl⟩
theorem isF69 : IsF Try.prog 69 := ⟨_, Try.func69, by kernel_rfl, rfl⟩
theorem isF70 : IsF Try.prog 70 := ⟨_, Try.func70, by kernel_rfl, rfl⟩
theorem isF71 : IsF Try.prog 71 := ⟨_, Try.func71, by kernel_rfl, rfl⟩
theorem isF75 : IsF Try.prog 75 := ⟨_, Try.func75, by kernel_rfl, rfl⟩
theorem isF76 : IsF Try.prog 76 := ⟨_, Try.func76, by kernel_rfl, rfl⟩
theorem isF77 : IsF Try.prog 77 := ⟨_, Try.func77, by kernel_rfl, rfl⟩
theorem isF78 : IsF Try.prog 78 := ⟨_, Try.func78, by kernel_rfl, rfl⟩
theorem isF79 : IsF Try.prog 79 := ⟨_, Try.func79, by kernel_rfl, rfl⟩
theorem isF80 : IsF Try.prog 80 := ⟨_, Try.func80, by kernel_rfl, rfl⟩
theorem isF81 : IsF Try.prog 81 := ⟨_, Try.func81, by kernel_rfl, rfl⟩
theorem isF82 : IsF Try.prog 82 := ⟨_, Try.func82, by kernel_rfl, rfl⟩
theorem isF83 : IsF Try.prog 83 := ⟨_, Try.func83, by kernel_rfl, rfl⟩
theorem isF84 : IsF Try.prog 84 := ⟨_, Try.func84, by kernel_rfl, rfl⟩
theorem isF85 : IsF Try.prog 85 := ⟨_, Try.func85, by kernel_rfl, rfl⟩
theorem isF86 : IsF Try.prog 86 := ⟨_, Try.func86, by kernel_rfl, rfl⟩
theorem isF89 : IsF Try.prog 89 := ⟨_, Try.func89, by kernel_rfl, rfl⟩
theorem isF90 : IsF Try.prog 90 := ⟨_, Try.func90, by kernel_rfl, rfl⟩
theorem isF91 : IsF Try.prog 91 := ⟨_, Try.func91, by kernel_rfl, rfl⟩
theorem isF92 : IsF Try.prog 92 := ⟨_, Try.func92, by kernel_rfl, rfl⟩
theorem isF93 : IsF Try.prog 93 := ⟨_, Try.func93, by kernel_rfl, rfl⟩
theorem isF94 : IsF Try.prog 94 := ⟨_, Try.func94, by kernel_rfl, rfl⟩
theorem isF97 : IsF Try.prog 97 := ⟨_, Try.func97, by kernel_rfl, rfl⟩
end Go.Proofs.Ytmollikhdbaikaa
