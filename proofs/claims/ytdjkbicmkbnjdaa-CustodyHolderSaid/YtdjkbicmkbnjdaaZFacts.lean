import Derived.Test.YtdjkbicmkbnjdaaProg
import Derived.Test.YtdjkbicmkbnjdaaZLb
namespace Go.Proofs.Ytdjkbicmkbnjdaa
open Go.L

theorem ts3 : tsize Try.prog 3 = 1 := by kernel_rfl
theorem ta3 : tagg Try.prog 3 = false := by kernel_rfl
theorem tk3 : tok Try.prog 3 = true := by kernel_rfl
theorem ti3 : tint Try.prog 3 = some .i64 := by kernel_rfl
theorem tz3 : tzero Try.prog 3 = some (.int .i64 0) := by kernel_rfl
theorem tr3 : trow Try.prog 3 = true := by kernel_rfl
theorem ts4 : tsize Try.prog 4 = 1 := by kernel_rfl
theorem ta4 : tagg Try.prog 4 = false := by kernel_rfl
theorem tk4 : tok Try.prog 4 = true := by kernel_rfl
theorem tz4 : tzero Try.prog 4 = some (.bool false) := by kernel_rfl
theorem ts22 : tsize Try.prog 22 = 1 := by kernel_rfl
theorem ta22 : tagg Try.prog 22 = false := by kernel_rfl
theorem tk22 : tok Try.prog 22 = true := by kernel_rfl
theorem te22 : telem Try.prog 22 = some 3 := by kernel_rfl
theorem te25 : telem Try.prog 25 = some 34 := by kernel_rfl
theorem ts27 : tsize Try.prog 27 = 1 := by kernel_rfl
theorem ta27 : tagg Try.prog 27 = false := by kernel_rfl
theorem tk27 : tok Try.prog 27 = true := by kernel_rfl
theorem ts32 : tsize Try.prog 32 = 3 := by kernel_rfl
theorem ta32 : tagg Try.prog 32 = true := by kernel_rfl
theorem tk32 : tok Try.prog 32 = true := by kernel_rfl
theorem tz32 : tzero Try.prog 32 = some (.agg [.int .i64 0, .int .i64 0, .int .i64 0]) := by kernel_rfl
theorem tr32 : trow Try.prog 32 = true := by kernel_rfl
theorem tu32 : tbuild Try.prog 32 = true := by kernel_rfl
theorem tf32_0 : tfield Try.prog 32 0 = some (0, 3) := by kernel_rfl
theorem tf32_1 : tfield Try.prog 32 1 = some (1, 3) := by kernel_rfl
theorem tf32_2 : tfield Try.prog 32 2 = some (2, 3) := by kernel_rfl
theorem ts34 : tsize Try.prog 34 = 9 := by kernel_rfl
theorem ta34 : tagg Try.prog 34 = true := by kernel_rfl
theorem tk34 : tok Try.prog 34 = true := by kernel_rfl
theorem tz34 : tzero Try.prog 34 = some (.agg [.int .i64 0, .int .i64 0, .int .i64 0, .int .i64 0, .int .i64 0, .int .i64 0, .int .i64 0, .int .i64 0, .nil]) := by kernel_rfl
theorem tr34 : trow Try.prog 34 = true := by kernel_rfl
theorem tu34 : tbuild Try.prog 34 = true := by kernel_rfl
theorem tf34_0 : tfield Try.prog 34 0 = some (0, 32) := by kernel_rfl
theorem tf34_1 : tfield Try.prog 34 1 = some (3, 3) := by kernel_rfl
theorem tf34_2 : tfield Try.prog 34 2 = some (4, 3) := by kernel_rfl
theorem tf34_3 : tfield Try.prog 34 3 = some (5, 3) := by kernel_rfl
theorem tf34_4 : tfield Try.prog 34 4 = some (6, 3) := by kernel_rfl
theorem tf34_5 : tfield Try.prog 34 5 = some (7, 3) := by kernel_rfl
theorem tf34_6 : tfield Try.prog 34 6 = some (8, 22) := by kernel_rfl
theorem ts36 : tsize Try.prog 36 = 1 := by kernel_rfl
theorem ta36 : tagg Try.prog 36 = false := by kernel_rfl
theorem tk36 : tok Try.prog 36 = true := by kernel_rfl
theorem ta39 : tagg Try.prog 39 = false := by kernel_rfl
theorem tk39 : tok Try.prog 39 = true := by kernel_rfl
theorem te39 : telem Try.prog 39 = some 46 := by kernel_rfl
theorem te40 : telem Try.prog 40 = some 50 := by kernel_rfl
theorem ts46 : tsize Try.prog 46 = 6 := by kernel_rfl
theorem ta46 : tagg Try.prog 46 = true := by kernel_rfl
theorem tk46 : tok Try.prog 46 = true := by kernel_rfl
theorem tz46 : tzero Try.prog 46 = some (.agg [.int .i64 0, .int .i64 0, .bool false, .nil, .nil, .nil]) := by kernel_rfl
theorem tr46 : trow Try.prog 46 = true := by kernel_rfl
theorem tu46 : tbuild Try.prog 46 = true := by kernel_rfl
theorem tf46_0 : tfield Try.prog 46 0 = some (0, 3) := by kernel_rfl
theorem tf46_1 : tfield Try.prog 46 1 = some (1, 3) := by kernel_rfl
theorem tf46_2 : tfield Try.prog 46 2 = some (2, 4) := by kernel_rfl
theorem tf46_3 : tfield Try.prog 46 3 = some (3, 22) := by kernel_rfl
theorem tf46_4 : tfield Try.prog 46 4 = some (4, 22) := by kernel_rfl
theorem tf46_5 : tfield Try.prog 46 5 = some (5, 22) := by kernel_rfl
theorem ts48 : tsize Try.prog 48 = 2 := by kernel_rfl
theorem ta48 : tagg Try.prog 48 = true := by kernel_rfl
theorem tk48 : tok Try.prog 48 = true := by kernel_rfl
theorem tz48 : tzero Try.prog 48 = some (.agg [.int .i64 0, .int .i64 0]) := by kernel_rfl
theorem tu48 : tbuild Try.prog 48 = true := by kernel_rfl
theorem tf48_0 : tfield Try.prog 48 0 = some (0, 3) := by kernel_rfl
theorem tf48_1 : tfield Try.prog 48 1 = some (1, 3) := by kernel_rfl
theorem ts50 : tsize Try.prog 50 = 3 := by kernel_rfl
theorem tk50 : tok Try.prog 50 = true := by kernel_rfl
theorem tz50 : tzero Try.prog 50 = some (.agg [.int .i64 0, .int .i64 0, .int .i64 0]) := by kernel_rfl
theorem tr50 : trow Try.prog 50 = true := by kernel_rfl
theorem tu50 : tbuild Try.prog 50 = true := by kernel_rfl
theorem tf50_0 : tfield Try.prog 50 0 = some (0, 48) := by kernel_rfl
theorem tf50_1 : tfield Try.prog 50 1 = some (2, 27) := by kernel_rfl
theorem tz62 : tzero Try.prog 62 = some (.agg [.nil, .int .i64 0]) := by kernel_rfl
theorem tu62 : tbuild Try.prog 62 = true := by kernel_rfl
theorem tf62_0 : tfield Try.prog 62 0 = some (0, 22) := by kernel_rfl
theorem tf62_1 : tfield Try.prog 62 1 = some (1, 3) := by kernel_rfl
theorem ta69 : tagg Try.prog 69 = false := by kernel_rfl
theorem tk69 : tok Try.prog 69 = true := by kernel_rfl
theorem te69 : telem Try.prog 69 = some 32 := by kernel_rfl
theorem ta77 : tagg Try.prog 77 = false := by kernel_rfl
theorem tk77 : tok Try.prog 77 = true := by kernel_rfl
theorem ts87 : tsize Try.prog 87 = 2 := by kernel_rfl
theorem ta87 : tagg Try.prog 87 = true := by kernel_rfl
theorem tk87 : tok Try.prog 87 = true := by kernel_rfl
theorem tz87 : tzero Try.prog 87 = some (.agg [.int .i64 0, .nilf]) := by kernel_rfl
theorem tr87 : trow Try.prog 87 = true := by kernel_rfl
theorem tu87 : tbuild Try.prog 87 = true := by kernel_rfl
theorem tf87_0 : tfield Try.prog 87 0 = some (0, 27) := by kernel_rfl
theorem tf87_1 : tfield Try.prog 87 1 = some (1, 36) := by kernel_rfl
theorem te88 : telem Try.prog 88 = some 87 := by kernel_rfl
theorem te96 : telem Try.prog 96 = some 99 := by kernel_rfl
theorem ts99 : tsize Try.prog 99 = 2 := by kernel_rfl
theorem ta99 : tagg Try.prog 99 = true := by kernel_rfl
theorem tk99 : tok Try.prog 99 = true := by kernel_rfl
theorem tz99 : tzero Try.prog 99 = some (.agg [.int .i64 0, .bool false]) := by kernel_rfl
theorem tr99 : trow Try.prog 99 = true := by kernel_rfl
theorem tu99 : tbuild Try.prog 99 = true := by kernel_rfl
theorem tf99_0 : tfield Try.prog 99 0 = some (0, 3) := by kernel_rfl
theorem tf99_1 : tfield Try.prog 99 1 = some (1, 4) := by kernel_rfl
theorem tk103 : tok Try.prog 103 = true := by kernel_rfl
theorem ti103 : tint Try.prog 103 = some .u64 := by kernel_rfl
theorem mixed : Try.prog.follows .mixedOrders = true := by kernel_rfl
theorem isF9 : IsF Try.prog 9 := ⟨_, Try.func9, by kernel_rfl, rfl⟩
theorem isF10 : IsF Try.prog 10 := ⟨_, Try.func10, by kernel_rfl, rfl⟩
theorem isF11 : IsF Try.prog 11 := ⟨_, Try.func11, by kernel_rfl, rfl⟩
theorem isF14 : IsF Try.prog 14 := ⟨_, Try.func14, by kernel_rfl, rfl⟩
theorem isF15 : IsF Try.prog 15 := ⟨_, Try.func15, by kernel_rfl, rfl⟩
theorem isF16 : IsF Try.prog 16 := ⟨_, Try.func16, by kernel_rfl, rfl⟩
theorem isF18 : IsF Try.prog 18 := ⟨_, Try.func18, by kernel_rfl, rfl⟩
theorem isF22 : IsF Try.prog 22 := ⟨_, Try.func22, by kernel_rfl, rfl⟩
theorem isF23 : IsF Try.prog 23 := ⟨_, Try.func23, by kernel_rfl, rfl⟩
theorem isF26 : IsF Try.prog 26 := ⟨_, Try.func26, by kernel_rfl, rfl⟩
theorem isF27 : IsF Try.prog 27 := ⟨_, Try.func27, by kernel_rfl, rfl⟩
theorem isF28 : IsF Try.prog 28 := ⟨_, Try.func28, by kernel_rfl, rfl⟩
theorem isF29 : IsF Try.prog 29 := ⟨_, Try.func29, by kernel_rfl, rfl⟩
theorem isF30 : IsF Try.prog 30 := ⟨_, Try.func30, by kernel_rfl, rfl⟩
theorem isF31 : IsF Try.prog 31 := ⟨_, Try.func31, by kernel_rfl, rfl⟩
theorem isF32 : IsF Try.prog 32 := ⟨_, Try.func32, by kernel_rfl, rfl⟩
theorem isF33 : IsF Try.prog 33 := ⟨_, Try.func33, by kernel_rfl, rfl⟩
theorem isF34 : IsF Try.prog 34 := ⟨_, Try.func34, by kernel_rfl, rfl⟩
theorem isF36 : IsF Try.prog 36 := ⟨_, Try.func36, by kernel_rfl, rfl⟩
theorem isF37 : IsF Try.prog 37 := ⟨_, Try.func37, by kernel_rfl, rfl⟩
theorem isF39 : IsF Try.prog 39 := ⟨_, Try.func39, by kernel_rfl, rfl⟩
theorem isF41 : IsF Try.prog 41 := ⟨_, Try.func41, by kernel_rfl, rfl⟩
theorem isF43 : IsF Try.prog 43 := ⟨_, Try.func43, by kernel_rfl, rfl⟩
theorem isF44 : IsF Try.prog 44 := ⟨_, Try.func44, by kernel_rfl, rfl⟩
theorem isF45 : IsF Try.prog 45 := ⟨_, Try.func45, by kernel_rfl, rfl⟩
theorem isF46 : IsF Try.prog 46 := ⟨_, Try.func46, by kernel_rfl, rfl⟩
theorem isF47 : IsF Try.prog 47 := ⟨_, Try.func47, by kernel_rfl, rfl⟩
theorem isF50 : IsF Try.prog 50 := ⟨_, Try.func50, by kernel_rfl, rfl⟩
theorem isF51 : IsF Try.prog 51 := ⟨_, Try.func51, by kernel_rfl, rfl⟩
theorem isF52 : IsF Try.prog 52 := ⟨_, Try.func52, by kernel_rfl, rfl⟩
theorem isF53 : IsF Try.prog 53 := ⟨_, Try.func53, by kernel_rfl, rfl⟩
theorem isF54 : IsF Try.prog 54 := ⟨_, Try.func54, by kernel_rfl, rfl⟩
theorem isF55 : IsF Try.prog 55 := ⟨_, Try.func55, by kernel_rfl, rfl⟩
theorem isF56 : IsF Try.prog 56 := ⟨_, Try.func56, by kernel_rfl, rfl⟩
theorem isF57 : IsF Try.prog 57 := ⟨_, Try.func57, by kernel_rfl, rfl⟩
theorem isF58 : IsF Try.prog 58 := ⟨_, Try.func58, by kernel_rfl, rfl⟩
theorem isF59 : IsF Try.prog 59 := ⟨_, Try.func59, by kernel_rfl, rfl⟩
theorem isF60 : IsF Try.prog 60 := ⟨_, Try.func60, by kernel_rfl, rfl⟩
theorem isF61 : IsF Try.prog 61 := ⟨_, Try.func61, by kernel_rfl, rfl⟩
theorem isF62 : IsF Try.prog 62 := ⟨_, Try.func62, by kernel_rfl, rfl⟩
theorem isF63 : IsF Try.prog 63 := ⟨_, Try.func63, by kernel_rfl, rfl⟩
theorem isF65 : IsF Try.prog 65 := ⟨_, Try.func65, by kernel_rfl, rfl⟩
theorem isF66 : IsF Try.prog 66 := ⟨_, Try.func66, by kernel_rfl, rfl⟩
theorem isF67 : IsF Try.prog 67 := ⟨_, Try.func67, by kernel_rfl, rfl⟩
theorem isF68 : IsF Try.prog 68 := ⟨_, Try.func68, by kernel_rfl, rfl⟩
theorem isF69 : IsF Try.prog 69 := ⟨_, Try.func69, by kernel_rfl, rfl⟩
theorem isF73 : IsF Try.prog 73 := ⟨_, Try.func73, by kernel_rfl, rfl⟩
theorem isF74 : IsF Try.prog 74 := ⟨_, Try.func74, by kernel_rfl, rfl⟩
theorem isF75 : IsF Try.prog 75 := ⟨_, Try.func75, by kernel_rfl, rfl⟩
theorem isF76 : IsF Try.prog 76 := ⟨_, Try.func76, by kernel_rfl, rfl⟩
theorem isF77 : IsF Try.prog 77 := ⟨_, Try.func77, by kernel_rfl, rfl⟩
theorem isF78 : IsF Try.prog 78 := ⟨_, Try.func78, by kernel_rfl, rfl⟩
theorem isF79 : IsF Try.prog 79 := ⟨_, Try.func79, by kernel_rfl, rfl⟩
theorem isF80 : IsF Try.prog 80 := ⟨_, Try.func80, by kernel_rfl, rfl⟩
theorem isF81 : IsF Try.prog 81 := ⟨_, Try.func81, by kernel_rfl, rfl⟩
theorem isF82 : IsF Try.prog 82 := ⟨_, Try.func82, by kernel_rfl, rfl⟩
theorem isF83 : IsF Try.prog 83 := ⟨_, Try.func83, by kernel_rfl, rfl⟩
theorem isF84 : IsF Try.prog 84 := ⟨_, Try.func84, by kernel_rfl, rfl⟩
theorem isF87 : IsF Try.prog 87 := ⟨_, Try.func87, by kernel_rfl, rfl⟩
theorem isF88 : IsF Try.prog 88 := ⟨_, Try.func88, by kernel_rfl, rfl⟩
theorem isF89 : IsF Try.prog 89 := ⟨_, Try.func89, by kernel_rfl, rfl⟩
theorem isF90 : IsF Try.prog 90 := ⟨_, Try.func90, by kernel_rfl, rfl⟩
theorem isF91 : IsF Try.prog 91 := ⟨_, Try.func91, by kernel_rfl, rfl⟩
theorem isF94 : IsF Try.prog 94 := ⟨_, Try.func94, by kernel_rfl, rfl⟩
theorem isF95 : IsF Try.prog 95 := ⟨_, Try.func95, by kernel_rfl, rfl⟩
theorem isF96 : IsF Try.prog 96 := ⟨_, Try.func96, by kernel_rfl, rfl⟩
theorem isF108 : IsF Try.prog 108 := ⟨_, Try.func108, by kernel_rfl, rfl⟩
theorem isF109 : IsF Try.prog 109 := ⟨_, Try.func109, by kernel_rfl, rfl⟩
end Go.Proofs.Ytdjkbicmkbnjdaa
