import Derived.Test.YtbicmjeldappjaaProg
import Derived.Test.YtbicmjeldappjaaZLb
namespace Go.Proofs.Ytbicmjeldappjaa
open Go.L

theorem ts3 : tsize Try.prog 3 = 1 := by kernel_rfl
theorem ta3 : tagg Try.prog 3 = false := by kernel_rfl
theorem tk3 : tok Try.prog 3 = true := by kernel_rfl
theorem tz3 : tzero Try.prog 3 = some (.int .i64 0) := by kernel_rfl
theorem tr3 : trow Try.prog 3 = true := by kernel_rfl
theorem ts4 : tsize Try.prog 4 = 1 := by kernel_rfl
theorem ta4 : tagg Try.prog 4 = false := by kernel_rfl
theorem tk4 : tok Try.prog 4 = true := by kernel_rfl
theorem tb4 : tbool Try.prog 4 = true := by kernel_rfl
theorem tz4 : tzero Try.prog 4 = some (.bool false) := by kernel_rfl
theorem ts22 : tsize Try.prog 22 = 1 := by kernel_rfl
theorem ta22 : tagg Try.prog 22 = false := by kernel_rfl
theorem tk22 : tok Try.prog 22 = true := by kernel_rfl
theorem te22 : telem Try.prog 22 = some 3 := by kernel_rfl
theorem tz22 : tzero Try.prog 22 = some (.nil) := by kernel_rfl
theorem tr22 : trow Try.prog 22 = true := by kernel_rfl
theorem ta27 : tagg Try.prog 27 = false := by kernel_rfl
theorem tk27 : tok Try.prog 27 = true := by kernel_rfl
theorem te27 : telem Try.prog 27 = some 47 := by kernel_rfl
theorem ts29 : tsize Try.prog 29 = 1 := by kernel_rfl
theorem ta29 : tagg Try.prog 29 = false := by kernel_rfl
theorem tk29 : tok Try.prog 29 = true := by kernel_rfl
theorem te29 : telem Try.prog 29 = some 66 := by kernel_rfl
theorem ts30 : tsize Try.prog 30 = 1 := by kernel_rfl
theorem ta30 : tagg Try.prog 30 = false := by kernel_rfl
theorem tk30 : tok Try.prog 30 = true := by kernel_rfl
theorem te30 : telem Try.prog 30 = some 68 := by kernel_rfl
theorem ts31 : tsize Try.prog 31 = 1 := by kernel_rfl
theorem ta31 : tagg Try.prog 31 = false := by kernel_rfl
theorem tk31 : tok Try.prog 31 = true := by kernel_rfl
theorem te31 : telem Try.prog 31 = some 100 := by kernel_rfl
theorem ts32 : tsize Try.prog 32 = 1 := by kernel_rfl
theorem tk32 : tok Try.prog 32 = true := by kernel_rfl
theorem te32 : telem Try.prog 32 = some 107 := by kernel_rfl
theorem ts33 : tsize Try.prog 33 = 1 := by kernel_rfl
theorem ta33 : tagg Try.prog 33 = false := by kernel_rfl
theorem tk33 : tok Try.prog 33 = true := by kernel_rfl
theorem te33 : telem Try.prog 33 = some 77 := by kernel_rfl
theorem ts35 : tsize Try.prog 35 = 4 := by kernel_rfl
theorem ta35 : tagg Try.prog 35 = true := by kernel_rfl
theorem tk35 : tok Try.prog 35 = true := by kernel_rfl
theorem tz35 : tzero Try.prog 35 = some (.agg [.int .i64 0, .int .i64 0, .int .i64 0, .int .i64 0]) := by kernel_rfl
theorem tu35 : tbuild Try.prog 35 = true := by kernel_rfl
theorem tf35_0 : tfield Try.prog 35 0 = some (0, 3) := by kernel_rfl
theorem tf35_1 : tfield Try.prog 35 1 = some (1, 3) := by kernel_rfl
theorem tf35_2 : tfield Try.prog 35 2 = some (2, 3) := by kernel_rfl
theorem tf35_3 : tfield Try.prog 35 3 = some (3, 3) := by kernel_rfl
theorem ts37 : tsize Try.prog 37 = 9 := by kernel_rfl
theorem ta37 : tagg Try.prog 37 = true := by kernel_rfl
theorem tk37 : tok Try.prog 37 = true := by kernel_rfl
theorem tz37 : tzero Try.prog 37 = some (.agg [.nil, .nil, .nil, .nil, .nil, .int .i64 0, .int .i64 0, .int .i64 0, .int .i64 0]) := by kernel_rfl
theorem tu37 : tbuild Try.prog 37 = true := by kernel_rfl
theorem tf37_0 : tfield Try.prog 37 0 = some (0, 29) := by kernel_rfl
theorem tf37_1 : tfield Try.prog 37 1 = some (1, 30) := by kernel_rfl
theorem tf37_2 : tfield Try.prog 37 2 = some (2, 31) := by kernel_rfl
theorem tf37_3 : tfield Try.prog 37 3 = some (3, 32) := by kernel_rfl
theorem tf37_4 : tfield Try.prog 37 4 = some (4, 33) := by kernel_rfl
theorem tf37_5 : tfield Try.prog 37 5 = some (5, 35) := by kernel_rfl
theorem ts45 : tsize Try.prog 45 = 3 := by kernel_rfl
theorem ta45 : tagg Try.prog 45 = true := by kernel_rfl
theorem tk45 : tok Try.prog 45 = true := by kernel_rfl
theorem tz45 : tzero Try.prog 45 = some (.agg [.int .i64 0, .int .i64 0, .int .i64 0]) := by kernel_rfl
theorem tu45 : tbuild Try.prog 45 = true := by kernel_rfl
theorem tf45_0 : tfield Try.prog 45 0 = some (0, 3) := by kernel_rfl
theorem tf45_1 : tfield Try.prog 45 1 = some (1, 3) := by kernel_rfl
theorem tf45_2 : tfield Try.prog 45 2 = some (2, 3) := by kernel_rfl
theorem ts47 : tsize Try.prog 47 = 9 := by kernel_rfl
theorem ta47 : tagg Try.prog 47 = true := by kernel_rfl
theorem tk47 : tok Try.prog 47 = true := by kernel_rfl
theorem tz47 : tzero Try.prog 47 = some (.agg [.int .i64 0, .int .i64 0, .int .i64 0, .int .i64 0, .int .i64 0, .int .i64 0, .int .i64 0, .int .i64 0, .nil]) := by kernel_rfl
theorem tr47 : trow Try.prog 47 = true := by kernel_rfl
theorem tu47 : tbuild Try.prog 47 = true := by kernel_rfl
theorem tf47_0 : tfield Try.prog 47 0 = some (0, 45) := by kernel_rfl
theorem tf47_1 : tfield Try.prog 47 1 = some (3, 3) := by kernel_rfl
theorem tf47_2 : tfield Try.prog 47 2 = some (4, 3) := by kernel_rfl
theorem tf47_3 : tfield Try.prog 47 3 = some (5, 3) := by kernel_rfl
theorem tf47_4 : tfield Try.prog 47 4 = some (6, 3) := by kernel_rfl
theorem tf47_5 : tfield Try.prog 47 5 = some (7, 3) := by kernel_rfl
theorem tf47_6 : tfield Try.prog 47 6 = some (8, 22) := by kernel_rfl
theorem te49 : telem Try.prog 49 = some 57 := by kernel_rfl
theorem ty55 : tarr Try.prog 55 = some (3, 27) := by kernel_rfl
theorem ts57 : tsize Try.prog 57 = 2 := by kernel_rfl
theorem ta57 : tagg Try.prog 57 = true := by kernel_rfl
theorem tk57 : tok Try.prog 57 = true := by kernel_rfl
theorem ty57 : tarr Try.prog 57 = some (2, 3) := by kernel_rfl
theorem tz57 : tzero Try.prog 57 = some (.agg [.int .i64 0, .int .i64 0]) := by kernel_rfl
theorem tr57 : trow Try.prog 57 = true := by kernel_rfl
theorem tz64 : tzero Try.prog 64 = some (.agg [.nil, .int .i64 0]) := by kernel_rfl
theorem tu64 : tbuild Try.prog 64 = true := by kernel_rfl
theorem tf64_0 : tfield Try.prog 64 0 = some (0, 22) := by kernel_rfl
theorem tf64_1 : tfield Try.prog 64 1 = some (1, 3) := by kernel_rfl
theorem ts66 : tsize Try.prog 66 = 5 := by kernel_rfl
theorem ta66 : tagg Try.prog 66 = true := by kernel_rfl
theorem tk66 : tok Try.prog 66 = true := by kernel_rfl
theorem tz66 : tzero Try.prog 66 = some (.agg [.int .i64 0, .int .i64 0, .int .i64 0, .int .i64 0, .nil]) := by kernel_rfl
theorem tr66 : trow Try.prog 66 = true := by kernel_rfl
theorem tu66 : tbuild Try.prog 66 = true := by kernel_rfl
theorem tf66_0 : tfield Try.prog 66 0 = some (0, 3) := by kernel_rfl
theorem tf66_1 : tfield Try.prog 66 1 = some (1, 3) := by kernel_rfl
theorem tf66_2 : tfield Try.prog 66 2 = some (2, 3) := by kernel_rfl
theorem tf66_3 : tfield Try.prog 66 3 = some (3, 3) := by kernel_rfl
theorem tf66_4 : tfield Try.prog 66 4 = some (4, 22) := by kernel_rfl
theorem ts68 : tsize Try.prog 68 = 7 := by kernel_rfl
theorem ta68 : tagg Try.prog 68 = true := by kernel_rfl
theorem tk68 : tok Try.prog 68 = true := by kernel_rfl
theorem tz68 : tzero Try.prog 68 = some (.agg [.int .i64 0, .int .i64 0, .int .i64 0, .int .i64 0, .int .i64 0, .nil, .nil]) := by kernel_rfl
theorem tr68 : trow Try.prog 68 = true := by kernel_rfl
theorem tu68 : tbuild Try.prog 68 = true := by kernel_rfl
theorem tf68_0 : tfield Try.prog 68 0 = some (0, 3) := by kernel_rfl
theorem tf68_1 : tfield Try.prog 68 1 = some (1, 3) := by kernel_rfl
theorem tf68_2 : tfield Try.prog 68 2 = some (2, 3) := by kernel_rfl
theorem tf68_3 : tfield Try.prog 68 3 = some (3, 3) := by kernel_rfl
theorem tf68_4 : tfield Try.prog 68 4 = some (4, 3) := by kernel_rfl
theorem tf68_5 : tfield Try.prog 68 5 = some (5, 22) := by kernel_rfl
theorem tf68_6 : tfield Try.prog 68 6 = some (6, 22) := by kernel_rfl
theorem ts77 : tsize Try.prog 77 = 2 := by kernel_rfl
theorem ta77 : tagg Try.prog 77 = true := by kernel_rfl
theorem tk77 : tok Try.prog 77 = true := by kernel_rfl
theorem tz77 : tzero Try.prog 77 = some (.agg [.int .i64 0, .nil]) := by kernel_rfl
theorem tr77 : trow Try.prog 77 = true := by kernel_rfl
theorem tu77 : tbuild Try.prog 77 = true := by kernel_rfl
theorem tf77_0 : tfield Try.prog 77 0 = some (0, 3) := by kernel_rfl
theorem tf77_1 : tfield Try.prog 77 1 = some (1, 22) := by kernel_rfl
theorem ts82 : tsize Try.prog 82 = 2 := by kernel_rfl
theorem ta82 : tagg Try.prog 82 = true := by kernel_rfl
theorem tk82 : tok Try.prog 82 = true := by kernel_rfl
theorem tz82 : tzero Try.prog 82 = some (.agg [.int .i64 0, .bool false]) := by kernel_rfl
theorem tf82_0 : tfield Try.prog 82 0 = some (0, 3) := by kernel_rfl
theorem tf82_1 : tfield Try.prog 82 1 = some (1, 4) := by kernel_rfl
theorem ts98 : tsize Try.prog 98 = 1 := by kernel_rfl
theorem ta98 : tagg Try.prog 98 = false := by kernel_rfl
theorem tk98 : tok Try.prog 98 = true := by kernel_rfl
theorem te98 : telem Try.prog 98 = some 103 := by kernel_rfl
theorem ts100 : tsize Try.prog 100 = 3 := by kernel_rfl
theorem ta100 : tagg Try.prog 100 = true := by kernel_rfl
theorem tk100 : tok Try.prog 100 = true := by kernel_rfl
theorem tz100 : tzero Try.prog 100 = some (.agg [.int .i64 0, .int .i64 0, .nil]) := by kernel_rfl
theorem tr100 : trow Try.prog 100 = true := by kernel_rfl
theorem tu100 : tbuild Try.prog 100 = true := by kernel_rfl
theorem tf100_0 : tfield Try.prog 100 0 = some (0, 3) := by kernel_rfl
theorem tf100_1 : tfield Try.prog 100 1 = some (1, 3) := by kernel_rfl
theorem tf100_2 : tfield Try.prog 100 2 = some (2, 98) := by kernel_rfl
theorem ts103 : tsize Try.prog 103 = 6 := by kernel_rfl
theorem tk103 : tok Try.prog 103 = true := by kernel_rfl
theorem tz103 : tzero Try.prog 103 = some (.agg [.int .i64 0, .int .i64 0, .int .i64 0, .int .i64 0, .int .i64 0, .int .i64 0]) := by kernel_rfl
theorem tr103 : trow Try.prog 103 = true := by kernel_rfl
theorem tu103 : tbuild Try.prog 103 = true := by kernel_rfl
theorem tf103_0 : tfield Try.prog 103 0 = some (0, 3) := by kernel_rfl
theorem tf103_1 : tfield Try.prog 103 1 = some (1, 3) := by kernel_rfl
theorem tf103_4 : tfield Try.prog 103 4 = some (4, 3) := by kernel_rfl
theorem tf103_5 : tfield Try.prog 103 5 = some (5, 3) := by kernel_rfl
theorem ts105 : tsize Try.prog 105 = 1 := by kernel_rfl
theorem tk105 : tok Try.prog 105 = true := by kernel_rfl
theorem te105 : telem Try.prog 105 = some 22 := by kernel_rfl
theorem ts107 : tsize Try.prog 107 = 2 := by kernel_rfl
theorem ta107 : tagg Try.prog 107 = true := by kernel_rfl
theorem tk107 : tok Try.prog 107 = true := by kernel_rfl
theorem tz107 : tzero Try.prog 107 = some (.agg [.nil, .nil]) := by kernel_rfl
theorem tr107 : trow Try.prog 107 = true := by kernel_rfl
theorem tu107 : tbuild Try.prog 107 = true := by kernel_rfl
theorem tf107_0 : tfield Try.prog 107 0 = some (0, 105) := by kernel_rfl
theorem tf107_1 : tfield Try.prog 107 1 = some (1, 22) := by kernel_rfl
theorem mixed : Try.prog.follows .mixedOrders = true := by kernel_rfl
theorem isF7 : IsF Try.prog 7 := ⟨_, Try.func7, by kernel_rfl, rfl⟩
theorem isF8 : IsF Try.prog 8 := ⟨_, Try.func8, by kernel_rfl, rfl⟩
theorem isF9 : IsF Try.prog 9 := ⟨_, Try.func9, by kernel_rfl, rfl⟩
theorem isF10 : IsF Try.prog 10 := ⟨_, Try.func10, by kernel_rfl, rfl⟩
theorem isF11 : IsF Try.prog 11 := ⟨_, Try.func11, by kernel_rfl, rfl⟩
theorem isF12 : IsF Try.prog 12 := ⟨_, Try.func12, by kernel_rfl, rfl⟩
theorem isF14 : IsF Try.prog 14 := ⟨_, Try.func14, by kernel_rfl, rfl⟩
theorem isF15 : IsF Try.prog 15 := ⟨_, Try.func15, by kernel_rfl, rfl⟩
theorem isF16 : IsF Try.prog 16 := ⟨_, Try.func16, by kernel_rfl, rfl⟩
theorem isF17 : IsF Try.prog 17 := ⟨_, Try.func17, by kernel_rfl, rfl⟩
theorem isF18 : IsF Try.prog 18 := ⟨_, Try.func18, by kernel_rfl, rfl⟩
theorem isF19 : IsF Try.prog 19 := ⟨_, Try.func19, by kernel_rfl, rfl⟩
theorem isF20 : IsF Try.prog 20 := ⟨_, Try.func20, by kernel_rfl, rfl⟩
theorem isF21 : IsF Try.prog 21 := ⟨_, Try.func21, by kernel_rfl, rfl⟩
theorem isF22 : IsF Try.prog 22 := ⟨_, Try.func22, by kernel_rfl, rfl⟩
theorem isF23 : IsF Try.prog 23 := ⟨_, Try.func23, by kernel_rfl, rfl⟩
theorem isF24 : IsF Try.prog 24 := ⟨_, Try.func24, by kernel_rfl, rfl⟩
theorem isF25 : IsF Try.prog 25 := ⟨_, Try.func25, by kernel_rfl, rfl⟩
theorem isF26 : IsF Try.prog 26 := ⟨_, Try.func26, by kernel_rfl, rfl⟩
theorem isF27 : IsF Try.prog 27 := ⟨_, Try.func27, by kernel_rfl, rfl⟩
theorem isF28 : IsF Try.prog 28 := ⟨_, Try.func28, by kernel_rfl, rfl⟩
theorem isF29 : IsF Try.prog 29 := ⟨_, Try.func29, by kernel_rfl, rfl⟩
theorem isF30 : IsF Try.prog 30 := ⟨_, Try.func30, by kernel_rfl, rfl⟩
theorem isF31 : IsF Try.prog 31 := ⟨_, Try.func31, by kernel_rfl, rfl⟩
theorem isF32 : IsF Try.prog 32 := ⟨_, Try.func32, by kernel_rfl, rfl⟩
theorem isF33 : IsF Try.prog 33 := ⟨_, Try.func33, by kernel_rfl, rfl⟩
theorem isF34 : IsF Try.prog 34 := ⟨_, Try.func34, by kernel_rfl, rfl⟩
theorem isF35 : IsF Try.prog 35 := ⟨_, Try.func35, by kernel_rfl, rfl⟩
theorem isF36 : IsF Try.prog 36 := ⟨_, Try.func36, by kernel_rfl, rfl⟩
theorem isF37 : IsF Try.prog 37 := ⟨_, Try.func37, by kernel_rfl, rfl⟩
theorem isF38 : IsF Try.prog 38 := ⟨_, Try.func38, by kernel_rfl, rfl⟩
theorem isF39 : IsF Try.prog 39 := ⟨_, Try.func39, by kernel_rfl, rfl⟩
theorem isF40 : IsF Try.prog 40 := ⟨_, Try.func40, by kernel_rfl, rfl⟩
theorem isF41 : IsF Try.prog 41 := ⟨_, Try.func41, by kernel_rfl, rfl⟩
theorem isF42 : IsF Try.prog 42 := ⟨_, Try.func42, by kernel_rfl, rfl⟩
theorem isF43 : IsF Try.prog 43 := ⟨_, Try.func43, by kernel_rfl, rfl⟩
theorem isF44 : IsF Try.prog 44 := ⟨_, Try.func44, by kernel_rfl, rfl⟩
theorem isF45 : IsF Try.prog 45 := ⟨_, Try.func45, by kernel_rfl, rfl⟩
theorem isF46 : IsF Try.prog 46 := ⟨_, Try.func46, by kernel_rfl, rfl⟩
theorem isF47 : IsF Try.prog 47 := ⟨_, Try.func47, by kernel_rfl, rfl⟩
theorem isF48 : IsF Try.prog 48 := ⟨_, Try.func48, by kernel_rfl, rfl⟩
theorem isF49 : IsF Try.prog 49 := ⟨_, Try.func49, by kernel_rfl, rfl⟩
theorem isF50 : IsF Try.prog 50 := ⟨_, Try.func50, by kernel_rfl, rfl⟩
theorem isF51 : IsF Try.prog 51 := ⟨_, Try.func51, by kernel_rfl, rfl⟩
theorem isF52 : IsF Try.prog 52 := ⟨_, Try.func52, by kernel_rfl, rfl⟩
theorem isF53 : IsF Try.prog 53 := ⟨_, Try.func53, by kernel_rfl, rfl⟩
theorem isF54 : IsF Try.prog 54 := ⟨_, Try.func54, by kernel_rfl, rfl⟩
theorem isF55 : IsF Try.prog 55 := ⟨_, Try.func55, by kernel_rfl, rfl⟩
theorem isF56 : IsF Try.prog 56 := ⟨_, Try.func56, by kernel_rfl, rfl⟩
theorem isF57 : IsF Try.prog 57 := ⟨_, Try.func57, by kernel_rfl, rfl⟩
theorem isF58 : IsF Try.prog 58 := ⟨_, Try.func58, by kernel_rfl, rfl⟩
theorem isF59 : IsF Try.prog 59 := ⟨_, Try.func59, by kernel_rfl, rfl⟩
theorem isF60 : IsF Try.prog 60 := ⟨_, Try.func60, by kernel_rfl, rfl⟩
theorem isF61 : IsF Try.prog 61 := ⟨_, Try.func61, by kernel_rfl, rfl⟩
theorem isF62 : IsF Try.prog 62 := ⟨_, Try.func62, by kernel_rfl, rfl⟩
theorem isF65 : IsF Try.prog 65 := ⟨_, Try.func65, by kernel_rfl, rfl⟩
theorem isF67 : IsF Try.prog 67 := ⟨_, Try.func67, by kernel_rfl, rfl⟩
theorem isF68 : IsF Try.prog 68 := ⟨_, Try.func68, by kernel_rfl, rfl⟩
theorem isF69 : IsF Try.prog 69 := ⟨_, Try.func69, by kernel_rfl, rfl⟩
theorem isF88 : IsF Try.prog 88 := ⟨_, Try.func88, by kernel_rfl, rfl⟩
end Go.Proofs.Ytbicmjeldappjaa
