import Derived.Test.YtdjkbicmkbnjdaaGreatProg
import Derived.Test.YtdjkbicmkbnjdaaGreatZLb
namespace Go.Proofs.YtdjkbicmkbnjdaaGreat
open Go.L

theorem ts3 : tsize Tryz.prog 3 = 1 := by kernel_rfl
theorem ta3 : tagg Tryz.prog 3 = false := by kernel_rfl
theorem tk3 : tok Tryz.prog 3 = true := by kernel_rfl
theorem ti3 : tint Tryz.prog 3 = some .i64 := by kernel_rfl
theorem tz3 : tzero Tryz.prog 3 = some (.int .i64 0) := by kernel_rfl
theorem tr3 : trow Tryz.prog 3 = true := by kernel_rfl
theorem ts4 : tsize Tryz.prog 4 = 1 := by kernel_rfl
theorem ta4 : tagg Tryz.prog 4 = false := by kernel_rfl
theorem tk4 : tok Tryz.prog 4 = true := by kernel_rfl
theorem tb4 : tbool Tryz.prog 4 = true := by kernel_rfl
theorem tz4 : tzero Tryz.prog 4 = some (.bool false) := by kernel_rfl
theorem ts22 : tsize Tryz.prog 22 = 1 := by kernel_rfl
theorem ta22 : tagg Tryz.prog 22 = false := by kernel_rfl
theorem tk22 : tok Tryz.prog 22 = true := by kernel_rfl
theorem te22 : telem Tryz.prog 22 = some 3 := by kernel_rfl
theorem te25 : telem Tryz.prog 25 = some 52 := by kernel_rfl
theorem ta27 : tagg Tryz.prog 27 = false := by kernel_rfl
theorem tk27 : tok Tryz.prog 27 = true := by kernel_rfl
theorem te27 : telem Tryz.prog 27 = some 43 := by kernel_rfl
theorem te28 : telem Tryz.prog 28 = some 68 := by kernel_rfl
theorem ts29 : tsize Tryz.prog 29 = 1 := by kernel_rfl
theorem ta29 : tagg Tryz.prog 29 = false := by kernel_rfl
theorem tk29 : tok Tryz.prog 29 = true := by kernel_rfl
theorem ts35 : tsize Tryz.prog 35 = 1 := by kernel_rfl
theorem ta35 : tagg Tryz.prog 35 = false := by kernel_rfl
theorem tk35 : tok Tryz.prog 35 = true := by kernel_rfl
theorem ts43 : tsize Tryz.prog 43 = 6 := by kernel_rfl
theorem ta43 : tagg Tryz.prog 43 = true := by kernel_rfl
theorem tk43 : tok Tryz.prog 43 = true := by kernel_rfl
theorem tz43 : tzero Tryz.prog 43 = some (.agg [.int .i64 0, .int .i64 0, .bool false, .nil, .nil, .nil]) := by kernel_rfl
theorem tr43 : trow Tryz.prog 43 = true := by kernel_rfl
theorem tu43 : tbuild Tryz.prog 43 = true := by kernel_rfl
theorem tf43_0 : tfield Tryz.prog 43 0 = some (0, 3) := by kernel_rfl
theorem tf43_1 : tfield Tryz.prog 43 1 = some (1, 3) := by kernel_rfl
theorem tf43_2 : tfield Tryz.prog 43 2 = some (2, 4) := by kernel_rfl
theorem tf43_3 : tfield Tryz.prog 43 3 = some (3, 22) := by kernel_rfl
theorem tf43_4 : tfield Tryz.prog 43 4 = some (4, 22) := by kernel_rfl
theorem tf43_5 : tfield Tryz.prog 43 5 = some (5, 22) := by kernel_rfl
theorem ts50 : tsize Tryz.prog 50 = 3 := by kernel_rfl
theorem ta50 : tagg Tryz.prog 50 = true := by kernel_rfl
theorem tk50 : tok Tryz.prog 50 = true := by kernel_rfl
theorem tz50 : tzero Tryz.prog 50 = some (.agg [.int .i64 0, .int .i64 0, .int .i64 0]) := by kernel_rfl
theorem tr50 : trow Tryz.prog 50 = true := by kernel_rfl
theorem tu50 : tbuild Tryz.prog 50 = true := by kernel_rfl
theorem tf50_0 : tfield Tryz.prog 50 0 = some (0, 3) := by kernel_rfl
theorem tf50_1 : tfield Tryz.prog 50 1 = some (1, 3) := by kernel_rfl
theorem tf50_2 : tfield Tryz.prog 50 2 = some (2, 3) := by kernel_rfl
theorem ts52 : tsize Tryz.prog 52 = 9 := by kernel_rfl
theorem ta52 : tagg Tryz.prog 52 = true := by kernel_rfl
theorem tk52 : tok Tryz.prog 52 = true := by kernel_rfl
theorem tz52 : tzero Tryz.prog 52 = some (.agg [.int .i64 0, .int .i64 0, .int .i64 0, .int .i64 0, .int .i64 0, .int .i64 0, .int .i64 0, .int .i64 0, .nil]) := by kernel_rfl
theorem tr52 : trow Tryz.prog 52 = true := by kernel_rfl
theorem tu52 : tbuild Tryz.prog 52 = true := by kernel_rfl
theorem tf52_0 : tfield Tryz.prog 52 0 = some (0, 50) := by kernel_rfl
theorem tf52_1 : tfield Tryz.prog 52 1 = some (3, 3) := by kernel_rfl
theorem tf52_2 : tfield Tryz.prog 52 2 = some (4, 3) := by kernel_rfl
theorem tf52_3 : tfield Tryz.prog 52 3 = some (5, 3) := by kernel_rfl
theorem tf52_4 : tfield Tryz.prog 52 4 = some (6, 3) := by kernel_rfl
theorem tf52_5 : tfield Tryz.prog 52 5 = some (7, 3) := by kernel_rfl
theorem tf52_6 : tfield Tryz.prog 52 6 = some (8, 22) := by kernel_rfl
theorem tz58 : tzero Tryz.prog 58 = some (.agg [.nil, .int .i64 0]) := by kernel_rfl
theorem tu58 : tbuild Tryz.prog 58 = true := by kernel_rfl
theorem tf58_0 : tfield Tryz.prog 58 0 = some (0, 22) := by kernel_rfl
theorem tf58_1 : tfield Tryz.prog 58 1 = some (1, 3) := by kernel_rfl
theorem ts66 : tsize Tryz.prog 66 = 2 := by kernel_rfl
theorem tk66 : tok Tryz.prog 66 = true := by kernel_rfl
theorem tz66 : tzero Tryz.prog 66 = some (.agg [.int .i64 0, .int .i64 0]) := by kernel_rfl
theorem tu66 : tbuild Tryz.prog 66 = true := by kernel_rfl
theorem tf66_0 : tfield Tryz.prog 66 0 = some (0, 3) := by kernel_rfl
theorem tf66_1 : tfield Tryz.prog 66 1 = some (1, 3) := by kernel_rfl
theorem ts68 : tsize Tryz.prog 68 = 3 := by kernel_rfl
theorem tz68 : tzero Tryz.prog 68 = some (.agg [.int .i64 0, .int .i64 0, .int .i64 0]) := by kernel_rfl
theorem tr68 : trow Tryz.prog 68 = true := by kernel_rfl
theorem tu68 : tbuild Tryz.prog 68 = true := by kernel_rfl
theorem tf68_0 : tfield Tryz.prog 68 0 = some (0, 66) := by kernel_rfl
theorem tf68_1 : tfield Tryz.prog 68 1 = some (2, 29) := by kernel_rfl
theorem ty70 : tarr Tryz.prog 70 = some (4, 22) := by kernel_rfl
theorem tz70 : tzero Tryz.prog 70 = some (.agg [.nil, .nil, .nil, .nil]) := by kernel_rfl
theorem ta75 : tagg Tryz.prog 75 = false := by kernel_rfl
theorem tk75 : tok Tryz.prog 75 = true := by kernel_rfl
theorem ts88 : tsize Tryz.prog 88 = 2 := by kernel_rfl
theorem ta88 : tagg Tryz.prog 88 = true := by kernel_rfl
theorem tk88 : tok Tryz.prog 88 = true := by kernel_rfl
theorem tz88 : tzero Tryz.prog 88 = some (.agg [.int .i64 0, .nilf]) := by kernel_rfl
theorem tr88 : trow Tryz.prog 88 = true := by kernel_rfl
theorem tu88 : tbuild Tryz.prog 88 = true := by kernel_rfl
theorem tf88_0 : tfield Tryz.prog 88 0 = some (0, 29) := by kernel_rfl
theorem tf88_1 : tfield Tryz.prog 88 1 = some (1, 35) := by kernel_rfl
theorem te89 : telem Tryz.prog 89 = some 88 := by kernel_rfl
theorem ta95 : tagg Tryz.prog 95 = false := by kernel_rfl
theorem tk95 : tok Tryz.prog 95 = true := by kernel_rfl
theorem te95 : telem Tryz.prog 95 = some 50 := by kernel_rfl
theorem tk102 : tok Tryz.prog 102 = true := by kernel_rfl
theorem ti102 : tint Tryz.prog 102 = some .u64 := by kernel_rfl
theorem te109 : telem Tryz.prog 109 = some 112 := by kernel_rfl
theorem ts112 : tsize Tryz.prog 112 = 2 := by kernel_rfl
theorem ta112 : tagg Tryz.prog 112 = true := by kernel_rfl
theorem tk112 : tok Tryz.prog 112 = true := by kernel_rfl
theorem tz112 : tzero Tryz.prog 112 = some (.agg [.int .i64 0, .bool false]) := by kernel_rfl
theorem tr112 : trow Tryz.prog 112 = true := by kernel_rfl
theorem tu112 : tbuild Tryz.prog 112 = true := by kernel_rfl
theorem tf112_0 : tfield Tryz.prog 112 0 = some (0, 3) := by kernel_rfl
theorem tf112_1 : tfield Tryz.prog 112 1 = some (1, 4) := by kernel_rfl
theorem mixed : Tryz.prog.follows .mixedOrders = true := by kernel_rfl
theorem isF7 : IsF Tryz.prog 7 := ⟨_, Tryz.func7, by kernel_rfl, rfl⟩
theorem isF8 : IsF Tryz.prog 8 := ⟨_, Tryz.func8, by kernel_rfl, rfl⟩
theorem isF9 : IsF Tryz.prog 9 := ⟨_, Tryz.func9, by kernel_rfl, rfl⟩
theorem isF10 : IsF Tryz.prog 10 := ⟨_, Tryz.func10, by kernel_rfl, rfl⟩
theorem isF13 : IsF Tryz.prog 13 := ⟨_, Tryz.func13, by kernel_rfl, rfl⟩
theorem isF14 : IsF Tryz.prog 14 := ⟨_, Tryz.func14, by kernel_rfl, rfl⟩
theorem isF15 : IsF Tryz.prog 15 := ⟨_, Tryz.func15, by kernel_rfl, rfl⟩
theorem isF16 : IsF Tryz.prog 16 := ⟨_, Tryz.func16, by kernel_rfl, rfl⟩
theorem isF17 : IsF Tryz.prog 17 := ⟨_, Tryz.func17, by kernel_rfl, rfl⟩
theorem isF18 : IsF Tryz.prog 18 := ⟨_, Tryz.func18, by kernel_rfl, rfl⟩
theorem isF19 : IsF Tryz.prog 19 := ⟨_, Tryz.func19, by kernel_rfl, rfl⟩
theorem isF20 : IsF Tryz.prog 20 := ⟨_, Tryz.func20, by kernel_rfl, rfl⟩
theorem isF21 : IsF Tryz.prog 21 := ⟨_, Tryz.func21, by kernel_rfl, rfl⟩
theorem isF22 : IsF Tryz.prog 22 := ⟨_, Tryz.func22, by kernel_rfl, rfl⟩
theorem isF23 : IsF Tryz.prog 23 := ⟨_, Tryz.func23, by kernel_rfl, rfl⟩
theorem isF25 : IsF Tryz.prog 25 := ⟨_, Tryz.func25, by kernel_rfl, rfl⟩
theorem isF26 : IsF Tryz.prog 26 := ⟨_, Tryz.func26, by kernel_rfl, rfl⟩
theorem isF28 : IsF Tryz.prog 28 := ⟨_, Tryz.func28, by kernel_rfl, rfl⟩
theorem isF29 : IsF Tryz.prog 29 := ⟨_, Tryz.func29, by kernel_rfl, rfl⟩
theorem isF30 : IsF Tryz.prog 30 := ⟨_, Tryz.func30, by kernel_rfl, rfl⟩
theorem isF31 : IsF Tryz.prog 31 := ⟨_, Tryz.func31, by kernel_rfl, rfl⟩
theorem isF32 : IsF Tryz.prog 32 := ⟨_, Tryz.func32, by kernel_rfl, rfl⟩
theorem isF33 : IsF Tryz.prog 33 := ⟨_, Tryz.func33, by kernel_rfl, rfl⟩
theorem isF34 : IsF Tryz.prog 34 := ⟨_, Tryz.func34, by kernel_rfl, rfl⟩
theorem isF35 : IsF Tryz.prog 35 := ⟨_, Tryz.func35, by kernel_rfl, rfl⟩
theorem isF36 : IsF Tryz.prog 36 := ⟨_, Tryz.func36, by kernel_rfl, rfl⟩
theorem isF37 : IsF Tryz.prog 37 := ⟨_, Tryz.func37, by kernel_rfl, rfl⟩
theorem isF38 : IsF Tryz.prog 38 := ⟨_, Tryz.func38, by kernel_rfl, rfl⟩
theorem isF39 : IsF Tryz.prog 39 := ⟨_, Tryz.func39, by kernel_rfl, rfl⟩
theorem isF41 : IsF Tryz.prog 41 := ⟨_, Tryz.func41, by kernel_rfl, rfl⟩
theorem isF43 : IsF Tryz.prog 43 := ⟨_, Tryz.func43, by kernel_rfl, rfl⟩
theorem isF44 : IsF Tryz.prog 44 := ⟨_, Tryz.func44, by kernel_rfl, rfl⟩
theorem isF45 : IsF Tryz.prog 45 := ⟨_, Tryz.func45, by kernel_rfl, rfl⟩
theorem isF46 : IsF Tryz.prog 46 := ⟨_, Tryz.func46, by kernel_rfl, rfl⟩
theorem isF47 : IsF Tryz.prog 47 := ⟨_, Tryz.func47, by kernel_rfl, rfl⟩
theorem isF48 : IsF Tryz.prog 48 := ⟨_, Tryz.func48, by kernel_rfl, rfl⟩
theorem isF49 : IsF Tryz.prog 49 := ⟨_, Tryz.func49, by kernel_rfl, rfl⟩
theorem isF50 : IsF Tryz.prog 50 := ⟨_, Tryz.func50, by kernel_rfl, rfl⟩
theorem isF51 : IsF Tryz.prog 51 := ⟨_, Tryz.func51, by kernel_rfl, rfl⟩
theorem isF52 : IsF Tryz.prog 52 := ⟨_, Tryz.func52, by kernel_rfl, rfl⟩
theorem isF53 : IsF Tryz.prog 53 := ⟨_, Tryz.func53, by kernel_rfl, rfl⟩
theorem isF54 : IsF Tryz.prog 54 := ⟨_, Tryz.func54, by kernel_rfl, rfl⟩
theorem isF55 : IsF Tryz.prog 55 := ⟨_, Tryz.func55, by kernel_rfl, rfl⟩
theorem isF56 : IsF Tryz.prog 56 := ⟨_, Tryz.func56, by kernel_rfl, rfl⟩
theorem isF57 : IsF Tryz.prog 57 := ⟨_, Tryz.func57, by kernel_rfl, rfl⟩
theorem isF58 : IsF Tryz.prog 58 := ⟨_, Tryz.func58, by kernel_rfl, rfl⟩
theorem isF59 : IsF Tryz.prog 59 := ⟨_, Tryz.func59, by kernel_rfl, rfl⟩
theorem isF60 : IsF Tryz.prog 60 := ⟨_, Tryz.func60, by kernel_rfl, rfl⟩
theorem isF61 : IsF Tryz.prog 61 := ⟨_, Tryz.func61, by kernel_rfl, rfl⟩
theorem isF62 : IsF Tryz.prog 62 := ⟨_, Tryz.func62, by kernel_rfl, rfl⟩
theorem isF63 : IsF Tryz.prog 63 := ⟨_, Tryz.func63, by kernel_rfl, rfl⟩
theorem isF64 : IsF Tryz.prog 64 := ⟨_, Tryz.func64, by kernel_rfl, rfl⟩
theorem isF65 : IsF Tryz.prog 65 := ⟨_, Tryz.func65, by kernel_rfl, rfl⟩
theorem isF66 : IsF Tryz.prog 66 := ⟨_, Tryz.func66, by kernel_rfl, rfl⟩
theorem isF67 : IsF Tryz.prog 67 := ⟨_, Tryz.func67, by kernel_rfl, rfl⟩
theorem isF68 : IsF Tryz.prog 68 := ⟨_, Tryz.func68, by kernel_rfl, rfl⟩
theorem isF69 : IsF Tryz.prog 69 := ⟨_, Tryz.func69, by kernel_rfl, rfl⟩
theorem isF70 : IsF Tryz.prog 70 := ⟨_, Tryz.func70, by kernel_rfl, rfl⟩
theorem isF71 : IsF Tryz.prog 71 := ⟨_, Tryz.func71, by kernel_rfl, rfl⟩
theorem isF72 : IsF Tryz.prog 72 := ⟨_, Tryz.func72, by kernel_rfl, rfl⟩
theorem isF73 : IsF Tryz.prog 73 := ⟨_, Tryz.func73, by kernel_rfl, rfl⟩
theorem isF74 : IsF Tryz.prog 74 := ⟨_, Tryz.func74, by kernel_rfl, rfl⟩
theorem isF75 : IsF Tryz.prog 75 := ⟨_, Tryz.func75, by kernel_rfl, rfl⟩
theorem isF77 : IsF Tryz.prog 77 := ⟨_, Tryz.func77, by kernel_rfl, rfl⟩
theorem isF78 : IsF Tryz.prog 78 := ⟨_, Tryz.func78, by kernel_rfl, rfl⟩
theorem isF79 : IsF Tryz.prog 79 := ⟨_, Tryz.func79, by kernel_rfl, rfl⟩
theorem isF80 : IsF Tryz.prog 80 := ⟨_, Tryz.func80, by kernel_rfl, rfl⟩
theorem isF81 : IsF Tryz.prog 81 := ⟨_, Tryz.func81, by kernel_rfl, rfl⟩
theorem isF82 : IsF Tryz.prog 82 := ⟨_, Tryz.func82, by kernel_rfl, rfl⟩
theorem isF83 : IsF Tryz.prog 83 := ⟨_, Tryz.func83, by kernel_rfl, rfl⟩
theorem isF84 : IsF Tryz.prog 84 := ⟨_, Tryz.func84, by kernel_rfl, rfl⟩
theorem isF85 : IsF Tryz.prog 85 := ⟨_, Tryz.func85, by kernel_rfl, rfl⟩
theorem isF86 : IsF Tryz.prog 86 := ⟨_, Tryz.func86, by kernel_rfl, rfl⟩
theorem isF87 : IsF Tryz.prog 87 := ⟨_, Tryz.func87, by kernel_rfl, rfl⟩
theorem isF88 : IsF Tryz.prog 88 := ⟨_, Tryz.func88, by kernel_rfl, rfl⟩
theorem isF89 : IsF Tryz.prog 89 := ⟨_, Tryz.func89, by kernel_rfl, rfl⟩
theorem isF90 : IsF Tryz.prog 90 := ⟨_, Tryz.func90, by kernel_rfl, rfl⟩
theorem isF91 : IsF Tryz.prog 91 := ⟨_, Tryz.func91, by kernel_rfl, rfl⟩
theorem isF92 : IsF Tryz.prog 92 := ⟨_, Tryz.func92, by kernel_rfl, rfl⟩
theorem isF95 : IsF Tryz.prog 95 := ⟨_, Tryz.func95, by kernel_rfl, rfl⟩
theorem isF96 : IsF Tryz.prog 96 := ⟨_, Tryz.func96, by kernel_rfl, rfl⟩
theorem isF97 : IsF Tryz.prog 97 := ⟨_, Tryz.func97, by kernel_rfl, rfl⟩
theorem isF98 : IsF Tryz.prog 98 := ⟨_, Tryz.func98, by kernel_rfl, rfl⟩
theorem isF99 : IsF Tryz.prog 99 := ⟨_, Tryz.func99, by kernel_rfl, rfl⟩
theorem isF100 : IsF Tryz.prog 100 := ⟨_, Tryz.func100, by kernel_rfl, rfl⟩
theorem isF101 : IsF Tryz.prog 101 := ⟨_, Tryz.func101, by kernel_rfl, rfl⟩
theorem isF102 : IsF Tryz.prog 102 := ⟨_, Tryz.func102, by kernel_rfl, rfl⟩
theorem isF103 : IsF Tryz.prog 103 := ⟨_, Tryz.func103, by kernel_rfl, rfl⟩
theorem isF105 : IsF Tryz.prog 105 := ⟨_, Tryz.func105, by kernel_rfl, rfl⟩
theorem isF106 : IsF Tryz.prog 106 := ⟨_, Tryz.func106, by kernel_rfl, rfl⟩
theorem isF107 : IsF Tryz.prog 107 := ⟨_, Tryz.func107, by kernel_rfl, rfl⟩
theorem isF108 : IsF Tryz.prog 108 := ⟨_, Tryz.func108, by kernel_rfl, rfl⟩
theorem isF109 : IsF Tryz.prog 109 := ⟨_, Tryz.func109, by kernel_rfl, rfl⟩
theorem isF110 : IsF Tryz.prog 110 := ⟨_, Tryz.func110, by kernel_rfl, rfl⟩
theorem isF111 : IsF Tryz.prog 111 := ⟨_, Tryz.func111, by kernel_rfl, rfl⟩
theorem isF114 : IsF Tryz.prog 114 := ⟨_, Tryz.func114, by kernel_rfl, rfl⟩
end Go.Proofs.YtdjkbicmkbnjdaaGreat
