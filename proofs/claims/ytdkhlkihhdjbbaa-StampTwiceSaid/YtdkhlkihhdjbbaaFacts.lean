/- Closed facts on the types and functions of this seat: written by program (facts.py), each checked by the kernel. -/
import Derived.Test.YtdkhlkihhdjbbaaProg
import Derived.Test.YtdkhlkihhdjbbaaLt
namespace Go.Proofs.Ytdkhlkihhdjbbaa
open Go.L

/- 3: int -/
@[go_sem] theorem ts3 : tsize Try.prog 3 = 1 := by kernel_rfl
@[go_sem] theorem ta3 : tagg Try.prog 3 = false := by kernel_rfl
@[go_sem] theorem tk3 : tok Try.prog 3 = true := by kernel_rfl
@[go_sem] theorem ti3 : tint Try.prog 3 = some .i64 := by kernel_rfl
@[go_sem] theorem tz3 : tzero Try.prog 3 = some (.int .i64 0) := by kernel_rfl
@[go_sem] theorem tr3 : trow Try.prog 3 = true := by kernel_rfl
/- 4: bool -/
@[go_sem] theorem ts4 : tsize Try.prog 4 = 1 := by kernel_rfl
@[go_sem] theorem ta4 : tagg Try.prog 4 = false := by kernel_rfl
@[go_sem] theorem tk4 : tok Try.prog 4 = true := by kernel_rfl
@[go_sem] theorem tb4 : tbool Try.prog 4 = true := by kernel_rfl
@[go_sem] theorem tz4 : tzero Try.prog 4 = some (.bool false) := by kernel_rfl
@[go_sem] theorem tr4 : trow Try.prog 4 = true := by kernel_rfl
/- 23: api.Stamp -/
@[go_sem] theorem ts23 : tsize Try.prog 23 = 3 := by kernel_rfl
@[go_sem] theorem ta23 : tagg Try.prog 23 = true := by kernel_rfl
@[go_sem] theorem tk23 : tok Try.prog 23 = true := by kernel_rfl
@[go_sem] theorem tz23 : tzero Try.prog 23 = some (.agg [.int .i64 0, .int .i64 0, .int .i64 0]) := by kernel_rfl
@[go_sem] theorem tr23 : trow Try.prog 23 = true := by kernel_rfl
@[go_sem] theorem tu23 : tbuild Try.prog 23 = true := by kernel_rfl
@[go_sem] theorem tf23_0 : tfield Try.prog 23 0 = some (0, 3) := by kernel_rfl
@[go_sem] theorem tf23_1 : tfield Try.prog 23 1 = some (1, 3) := by kernel_rfl
@[go_sem] theorem tf23_2 : tfield Try.prog 23 2 = some (2, 3) := by kernel_rfl
/- 28: []int -/
@[go_sem] theorem ts28 : tsize Try.prog 28 = 1 := by kernel_rfl
@[go_sem] theorem ta28 : tagg Try.prog 28 = false := by kernel_rfl
@[go_sem] theorem tk28 : tok Try.prog 28 = true := by kernel_rfl
@[go_sem] theorem te28 : telem Try.prog 28 = some 3 := by kernel_rfl
@[go_sem] theorem tz28 : tzero Try.prog 28 = some (.nil) := by kernel_rfl
@[go_sem] theorem tr28 : trow Try.prog 28 = true := by kernel_rfl
/- 29: *awardingbodymake.Tape -/
@[go_sem] theorem ts29 : tsize Try.prog 29 = 1 := by kernel_rfl
@[go_sem] theorem ta29 : tagg Try.prog 29 = false := by kernel_rfl
@[go_sem] theorem tk29 : tok Try.prog 29 = true := by kernel_rfl
@[go_sem] theorem tz29 : tzero Try.prog 29 = some (.nilp) := by kernel_rfl
@[go_sem] theorem tr29 : trow Try.prog 29 = true := by kernel_rfl
/- 31: []api.Stamp -/
@[go_sem] theorem ts31 : tsize Try.prog 31 = 1 := by kernel_rfl
@[go_sem] theorem ta31 : tagg Try.prog 31 = false := by kernel_rfl
@[go_sem] theorem tk31 : tok Try.prog 31 = true := by kernel_rfl
@[go_sem] theorem te31 : telem Try.prog 31 = some 23 := by kernel_rfl
@[go_sem] theorem tz31 : tzero Try.prog 31 = some (.nil) := by kernel_rfl
@[go_sem] theorem tr31 : trow Try.prog 31 = true := by kernel_rfl
/- 35: api.Errno -/
@[go_sem] theorem ts35 : tsize Try.prog 35 = 1 := by kernel_rfl
@[go_sem] theorem ta35 : tagg Try.prog 35 = false := by kernel_rfl
@[go_sem] theorem tk35 : tok Try.prog 35 = true := by kernel_rfl
@[go_sem] theorem ti35 : tint Try.prog 35 = some .i64 := by kernel_rfl
@[go_sem] theorem tz35 : tzero Try.prog 35 = some (.int .i64 0) := by kernel_rfl
@[go_sem] theorem tr35 : trow Try.prog 35 = true := by kernel_rfl
/- 39: func(int, int) int -/
@[go_sem] theorem ts39 : tsize Try.prog 39 = 1 := by kernel_rfl
@[go_sem] theorem ta39 : tagg Try.prog 39 = false := by kernel_rfl
@[go_sem] theorem tk39 : tok Try.prog 39 = true := by kernel_rfl
@[go_sem] theorem tz39 : tzero Try.prog 39 = some (.und) := by kernel_rfl
@[go_sem] theorem tr39 : trow Try.prog 39 = true := by kernel_rfl
/- 46: []api.Identity -/
@[go_sem] theorem ts46 : tsize Try.prog 46 = 1 := by kernel_rfl
@[go_sem] theorem ta46 : tagg Try.prog 46 = false := by kernel_rfl
@[go_sem] theorem tk46 : tok Try.prog 46 = true := by kernel_rfl
@[go_sem] theorem te46 : telem Try.prog 46 = some 50 := by kernel_rfl
@[go_sem] theorem tz46 : tzero Try.prog 46 = some (.nil) := by kernel_rfl
@[go_sem] theorem tr46 : trow Try.prog 46 = true := by kernel_rfl
/- 50: api.Identity -/
@[go_sem] theorem ts50 : tsize Try.prog 50 = 2 := by kernel_rfl
@[go_sem] theorem ta50 : tagg Try.prog 50 = true := by kernel_rfl
@[go_sem] theorem tk50 : tok Try.prog 50 = true := by kernel_rfl
@[go_sem] theorem tz50 : tzero Try.prog 50 = some (.agg [.int .i64 0, .int .i64 0]) := by kernel_rfl
@[go_sem] theorem tr50 : trow Try.prog 50 = true := by kernel_rfl
@[go_sem] theorem tu50 : tbuild Try.prog 50 = true := by kernel_rfl
@[go_sem] theorem tf50_0 : tfield Try.prog 50 0 = some (0, 3) := by kernel_rfl
@[go_sem] theorem tf50_1 : tfield Try.prog 50 1 = some (1, 3) := by kernel_rfl
/- 53: awardingbodymake.Tape -/
@[go_sem] theorem ts53 : tsize Try.prog 53 = 2 := by kernel_rfl
@[go_sem] theorem ta53 : tagg Try.prog 53 = true := by kernel_rfl
@[go_sem] theorem tk53 : tok Try.prog 53 = true := by kernel_rfl
@[go_sem] theorem tz53 : tzero Try.prog 53 = some (.agg [.nil, .int .i64 0]) := by kernel_rfl
@[go_sem] theorem tr53 : trow Try.prog 53 = true := by kernel_rfl
@[go_sem] theorem tu53 : tbuild Try.prog 53 = true := by kernel_rfl
@[go_sem] theorem tf53_0 : tfield Try.prog 53 0 = some (0, 28) := by kernel_rfl
@[go_sem] theorem tf53_1 : tfield Try.prog 53 1 = some (1, 3) := by kernel_rfl
/- 56: []stamp.group -/
@[go_sem] theorem ts56 : tsize Try.prog 56 = 1 := by kernel_rfl
@[go_sem] theorem ta56 : tagg Try.prog 56 = false := by kernel_rfl
@[go_sem] theorem tk56 : tok Try.prog 56 = true := by kernel_rfl
@[go_sem] theorem te56 : telem Try.prog 56 = some 59 := by kernel_rfl
@[go_sem] theorem tz56 : tzero Try.prog 56 = some (.nil) := by kernel_rfl
@[go_sem] theorem tr56 : trow Try.prog 56 = true := by kernel_rfl
/- 59: stamp.group -/
@[go_sem] theorem ts59 : tsize Try.prog 59 = 2 := by kernel_rfl
@[go_sem] theorem ta59 : tagg Try.prog 59 = true := by kernel_rfl
@[go_sem] theorem tk59 : tok Try.prog 59 = true := by kernel_rfl
@[go_sem] theorem tz59 : tzero Try.prog 59 = some (.agg [.int .i64 0, .bool false]) := by kernel_rfl
@[go_sem] theorem tr59 : trow Try.prog 59 = true := by kernel_rfl
@[go_sem] theorem tu59 : tbuild Try.prog 59 = true := by kernel_rfl
@[go_sem] theorem tf59_0 : tfield Try.prog 59 0 = some (0, 3) := by kernel_rfl
@[go_sem] theorem tf59_1 : tfield Try.prog 59 1 = some (1, 4) := by kernel_rfl
/- 67: uint -/
@[go_sem] theorem ts67 : tsize Try.prog 67 = 1 := by kernel_rfl
@[go_sem] theorem ta67 : tagg Try.prog 67 = false := by kernel_rfl
@[go_sem] theorem tk67 : tok Try.prog 67 = true := by kernel_rfl
@[go_sem] theorem ti67 : tint Try.prog 67 = some .u64 := by kernel_rfl
@[go_sem] theorem tz67 : tzero Try.prog 67 = some (.int .u64 0) := by kernel_rfl
@[go_sem] theorem tr67 : trow Try.prog 67 = true := by kernel_rfl
/- 70: slices.sortedHint -/
@[go_sem] theorem ts70 : tsize Try.prog 70 = 1 := by kernel_rfl
@[go_sem] theorem ta70 : tagg Try.prog 70 = false := by kernel_rfl
@[go_sem] theorem tk70 : tok Try.prog 70 = true := by kernel_rfl
@[go_sem] theorem ti70 : tint Try.prog 70 = some .i64 := by kernel_rfl
@[go_sem] theorem tz70 : tzero Try.prog 70 = some (.int .i64 0) := by kernel_rfl
@[go_sem] theorem tr70 : trow Try.prog 70 = true := by kernel_rfl
/- 81: slices.xorshift -/
@[go_sem] theorem ts81 : tsize Try.prog 81 = 1 := by kernel_rfl
@[go_sem] theorem ta81 : tagg Try.prog 81 = false := by kernel_rfl
@[go_sem] theorem tk81 : tok Try.prog 81 = true := by kernel_rfl
@[go_sem] theorem ti81 : tint Try.prog 81 = some .u64 := by kernel_rfl
@[go_sem] theorem tz81 : tzero Try.prog 81 = some (.int .u64 0) := by kernel_rfl
@[go_sem] theorem tr81 : trow Try.prog 81 = true := by kernel_rfl
/- 85: *int -/
@[go_sem] theorem ts85 : tsize Try.prog 85 = 1 := by kernel_rfl
@[go_sem] theorem ta85 : tagg Try.prog 85 = false := by kernel_rfl
@[go_sem] theorem tk85 : tok Try.prog 85 = true := by kernel_rfl
@[go_sem] theorem tz85 : tzero Try.prog 85 = some (.nilp) := by kernel_rfl
@[go_sem] theorem tr85 : trow Try.prog 85 = true := by kernel_rfl
theorem mixed : Try.prog.follows .mixedOrders = true := by kernel_rfl
@[go_sem] theorem isF3 : (∃ fn, Try.prog.funcs[3]? = some fn ∧ (fn.name == "runtime.NumGoroutine") = false ∧ fn.body.isNone = false) := ⟨_, Try.func3, by kernel_rfl, rfl⟩
@[go_sem] theorem isF4 : (∃ fn, Try.prog.funcs[4]? = some fn ∧ (fn.name == "runtime.NumGoroutine") = false ∧ fn.body.isNone = false) := ⟨_, Try.func4, by kernel_rfl, rfl⟩
@[go_sem] theorem isF5 : (∃ fn, Try.prog.funcs[5]? = some fn ∧ (fn.name == "runtime.NumGoroutine") = false ∧ fn.body.isNone = false) := ⟨_, Try.func5, by kernel_rfl, rfl⟩
@[go_sem] theorem isF6 : (∃ fn, Try.prog.funcs[6]? = some fn ∧ (fn.name == "runtime.NumGoroutine") = false ∧ fn.body.isNone = false) := ⟨_, Try.func6, by kernel_rfl, rfl⟩
@[go_sem] theorem isF7 : (∃ fn, Try.prog.funcs[7]? = some fn ∧ (fn.name == "runtime.NumGoroutine") = false ∧ fn.body.isNone = false) := ⟨_, Try.func7, by kernel_rfl, rfl⟩
@[go_sem] theorem isF8 : (∃ fn, Try.prog.funcs[8]? = some fn ∧ (fn.name == "runtime.NumGoroutine") = false ∧ fn.body.isNone = false) := ⟨_, Try.func8, by kernel_rfl, rfl⟩
@[go_sem] theorem isF9 : (∃ fn, Try.prog.funcs[9]? = some fn ∧ (fn.name == "runtime.NumGoroutine") = false ∧ fn.body.isNone = false) := ⟨_, Try.func9, by kernel_rfl, rfl⟩
@[go_sem] theorem isF10 : (∃ fn, Try.prog.funcs[10]? = some fn ∧ (fn.name == "runtime.NumGoroutine") = false ∧ fn.body.isNone = false) := ⟨_, Try.func10, by kernel_rfl, rfl⟩
@[go_sem] theorem isF11 : (∃ fn, Try.prog.funcs[11]? = some fn ∧ (fn.name == "runtime.NumGoroutine") = false ∧ fn.body.isNone = false) := ⟨_, Try.func11, by kernel_rfl, rfl⟩
@[go_sem] theorem isF12 : (∃ fn, Try.prog.funcs[12]? = some fn ∧ (fn.name == "runtime.NumGoroutine") = false ∧ fn.body.isNone = false) := ⟨_, Try.func12, by kernel_rfl, rfl⟩
@[go_sem] theorem isF13 : (∃ fn, Try.prog.funcs[13]? = some fn ∧ (fn.name == "runtime.NumGoroutine") = false ∧ fn.body.isNone = false) := ⟨_, Try.func13, by kernel_rfl, rfl⟩
@[go_sem] theorem isF14 : (∃ fn, Try.prog.funcs[14]? = some fn ∧ (fn.name == "runtime.NumGoroutine") = false ∧ fn.body.isNone = false) := ⟨_, Try.func14, by kernel_rfl, rfl⟩
@[go_sem] theorem isF15 : (∃ fn, Try.prog.funcs[15]? = some fn ∧ (fn.name == "runtime.NumGoroutine") = false ∧ fn.body.isNone = false) := ⟨_, Try.func15, by kernel_rfl, rfl⟩
@[go_sem] theorem isF16 : (∃ fn, Try.prog.funcs[16]? = some fn ∧ (fn.name == "runtime.NumGoroutine") = false ∧ fn.body.isNone = false) := ⟨_, Try.func16, by kernel_rfl, rfl⟩
@[go_sem] theorem isF17 : (∃ fn, Try.prog.funcs[17]? = some fn ∧ (fn.name == "runtime.NumGoroutine") = false ∧ fn.body.isNone = false) := ⟨_, Try.func17, by kernel_rfl, rfl⟩
@[go_sem] theorem isF18 : (∃ fn, Try.prog.funcs[18]? = some fn ∧ (fn.name == "runtime.NumGoroutine") = false ∧ fn.body.isNone = false) := ⟨_, Try.func18, by kernel_rfl, rfl⟩
@[go_sem] theorem isF19 : (∃ fn, Try.prog.funcs[19]? = some fn ∧ (fn.name == "runtime.NumGoroutine") = false ∧ fn.body.isNone = false) := ⟨_, Try.func19, by kernel_rfl, rfl⟩
@[go_sem] theorem isF20 : (∃ fn, Try.prog.funcs[20]? = some fn ∧ (fn.name == "runtime.NumGoroutine") = false ∧ fn.body.isNone = false) := ⟨_, Try.func20, by kernel_rfl, rfl⟩
@[go_sem] theorem isF21 : (∃ fn, Try.prog.funcs[21]? = some fn ∧ (fn.name == "runtime.NumGoroutine") = false ∧ fn.body.isNone = false) := ⟨_, Try.func21, by kernel_rfl, rfl⟩
@[go_sem] theorem isF22 : (∃ fn, Try.prog.funcs[22]? = some fn ∧ (fn.name == "runtime.NumGoroutine") = false ∧ fn.body.isNone = false) := ⟨_, Try.func22, by kernel_rfl, rfl⟩
@[go_sem] theorem isF23 : (∃ fn, Try.prog.funcs[23]? = some fn ∧ (fn.name == "runtime.NumGoroutine") = false ∧ fn.body.isNone = false) := ⟨_, Try.func23, by kernel_rfl, rfl⟩
@[go_sem] theorem isF24 : (∃ fn, Try.prog.funcs[24]? = some fn ∧ (fn.name == "runtime.NumGoroutine") = false ∧ fn.body.isNone = false) := ⟨_, Try.func24, by kernel_rfl, rfl⟩
@[go_sem] theorem isF25 : (∃ fn, Try.prog.funcs[25]? = some fn ∧ (fn.name == "runtime.NumGoroutine") = false ∧ fn.body.isNone = false) := ⟨_, Try.func25, by kernel_rfl, rfl⟩
@[go_sem] theorem isF26 : (∃ fn, Try.prog.funcs[26]? = some fn ∧ (fn.name == "runtime.NumGoroutine") = false ∧ fn.body.isNone = false) := ⟨_, Try.func26, by kernel_rfl, rfl⟩
@[go_sem] theorem isF27 : (∃ fn, Try.prog.funcs[27]? = some fn ∧ (fn.name == "runtime.NumGoroutine") = false ∧ fn.body.isNone = false) := ⟨_, Try.func27, by kernel_rfl, rfl⟩
@[go_sem] theorem isF28 : (∃ fn, Try.prog.funcs[28]? = some fn ∧ (fn.name == "runtime.NumGoroutine") = false ∧ fn.body.isNone = false) := ⟨_, Try.func28, by kernel_rfl, rfl⟩
@[go_sem] theorem isF29 : (∃ fn, Try.prog.funcs[29]? = some fn ∧ (fn.name == "runtime.NumGoroutine") = false ∧ fn.body.isNone = false) := ⟨_, Try.func29, by kernel_rfl, rfl⟩
@[go_sem] theorem isF30 : (∃ fn, Try.prog.funcs[30]? = some fn ∧ (fn.name == "runtime.NumGoroutine") = false ∧ fn.body.isNone = false) := ⟨_, Try.func30, by kernel_rfl, rfl⟩
@[go_sem] theorem isF31 : (∃ fn, Try.prog.funcs[31]? = some fn ∧ (fn.name == "runtime.NumGoroutine") = false ∧ fn.body.isNone = false) := ⟨_, Try.func31, by kernel_rfl, rfl⟩
@[go_sem] theorem isF32 : (∃ fn, Try.prog.funcs[32]? = some fn ∧ (fn.name == "runtime.NumGoroutine") = false ∧ fn.body.isNone = false) := ⟨_, Try.func32, by kernel_rfl, rfl⟩
@[go_sem] theorem isF33 : (∃ fn, Try.prog.funcs[33]? = some fn ∧ (fn.name == "runtime.NumGoroutine") = false ∧ fn.body.isNone = false) := ⟨_, Try.func33, by kernel_rfl, rfl⟩
@[go_sem] theorem isF34 : (∃ fn, Try.prog.funcs[34]? = some fn ∧ (fn.name == "runtime.NumGoroutine") = false ∧ fn.body.isNone = false) := ⟨_, Try.func34, by kernel_rfl, rfl⟩
@[go_sem] theorem isF35 : (∃ fn, Try.prog.funcs[35]? = some fn ∧ (fn.name == "runtime.NumGoroutine") = false ∧ fn.body.isNone = false) := ⟨_, Try.func35, by kernel_rfl, rfl⟩
@[go_sem] theorem isF36 : (∃ fn, Try.prog.funcs[36]? = some fn ∧ (fn.name == "runtime.NumGoroutine") = false ∧ fn.body.isNone = false) := ⟨_, Try.func36, by kernel_rfl, rfl⟩
@[go_sem] theorem isF37 : (∃ fn, Try.prog.funcs[37]? = some fn ∧ (fn.name == "runtime.NumGoroutine") = false ∧ fn.body.isNone = false) := ⟨_, Try.func37, by kernel_rfl, rfl⟩
@[go_sem] theorem isF38 : (∃ fn, Try.prog.funcs[38]? = some fn ∧ (fn.name == "runtime.NumGoroutine") = false ∧ fn.body.isNone = false) := ⟨_, Try.func38, by kernel_rfl, rfl⟩
@[go_sem] theorem isF39 : (∃ fn, Try.prog.funcs[39]? = some fn ∧ (fn.name == "runtime.NumGoroutine") = false ∧ fn.body.isNone = false) := ⟨_, Try.func39, by kernel_rfl, rfl⟩
@[go_sem] theorem isF40 : (∃ fn, Try.prog.funcs[40]? = some fn ∧ (fn.name == "runtime.NumGoroutine") = false ∧ fn.body.isNone = false) := ⟨_, Try.func40, by kernel_rfl, rfl⟩
@[go_sem] theorem isF41 : (∃ fn, Try.prog.funcs[41]? = some fn ∧ (fn.name == "runtime.NumGoroutine") = false ∧ fn.body.isNone = false) := ⟨_, Try.func41, by kernel_rfl, rfl⟩
@[go_sem] theorem isF42 : (∃ fn, Try.prog.funcs[42]? = some fn ∧ (fn.name == "runtime.NumGoroutine") = false ∧ fn.body.isNone = false) := ⟨_, Try.func42, by kernel_rfl, rfl⟩
@[go_sem] theorem isF43 : (∃ fn, Try.prog.funcs[43]? = some fn ∧ (fn.name == "runtime.NumGoroutine") = false ∧ fn.body.isNone = false) := ⟨_, Try.func43, by kernel_rfl, rfl⟩
@[go_sem] theorem isF44 : (∃ fn, Try.prog.funcs[44]? = some fn ∧ (fn.name == "runtime.NumGoroutine") = false ∧ fn.body.isNone = false) := ⟨_, Try.func44, by kernel_rfl, rfl⟩
@[go_sem] theorem isF45 : (∃ fn, Try.prog.funcs[45]? = some fn ∧ (fn.name == "runtime.NumGoroutine") = false ∧ fn.body.isNone = false) := ⟨_, Try.func45, by kernel_rfl, rfl⟩
@[go_sem] theorem isF46 : (∃ fn, Try.prog.funcs[46]? = some fn ∧ (fn.name == "runtime.NumGoroutine") = false ∧ fn.body.isNone = false) := ⟨_, Try.func46, by kernel_rfl, rfl⟩
@[go_sem] theorem isF47 : (∃ fn, Try.prog.funcs[47]? = some fn ∧ (fn.name == "runtime.NumGoroutine") = false ∧ fn.body.isNone = false) := ⟨_, Try.func47, by kernel_rfl, rfl⟩
@[go_sem] theorem isF48 : (∃ fn, Try.prog.funcs[48]? = some fn ∧ (fn.name == "runtime.NumGoroutine") = false ∧ fn.body.isNone = false) := ⟨_, Try.func48, by kernel_rfl, rfl⟩
@[go_sem] theorem isF49 : (∃ fn, Try.prog.funcs[49]? = some fn ∧ (fn.name == "runtime.NumGoroutine") = false ∧ fn.body.isNone = false) := ⟨_, Try.func49, by kernel_rfl, rfl⟩
@[go_sem] theorem isF50 : (∃ fn, Try.prog.funcs[50]? = some fn ∧ (fn.name == "runtime.NumGoroutine") = false ∧ fn.body.isNone = false) := ⟨_, Try.func50, by kernel_rfl, rfl⟩
@[go_sem] theorem isF51 : (∃ fn, Try.prog.funcs[51]? = some fn ∧ (fn.name == "runtime.NumGoroutine") = false ∧ fn.body.isNone = false) := ⟨_, Try.func51, by kernel_rfl, rfl⟩
@[go_sem] theorem isF52 : (∃ fn, Try.prog.funcs[52]? = some fn ∧ (fn.name == "runtime.NumGoroutine") = false ∧ fn.body.isNone = false) := ⟨_, Try.func52, by kernel_rfl, rfl⟩
@[go_sem] theorem isF53 : (∃ fn, Try.prog.funcs[53]? = some fn ∧ (fn.name == "runtime.NumGoroutine") = false ∧ fn.body.isNone = false) := ⟨_, Try.func53, by kernel_rfl, rfl⟩
@[go_sem] theorem isF54 : (∃ fn, Try.prog.funcs[54]? = some fn ∧ (fn.name == "runtime.NumGoroutine") = false ∧ fn.body.isNone = false) := ⟨_, Try.func54, by kernel_rfl, rfl⟩
@[go_sem] theorem isF55 : (∃ fn, Try.prog.funcs[55]? = some fn ∧ (fn.name == "runtime.NumGoroutine") = false ∧ fn.body.isNone = false) := ⟨_, Try.func55, by kernel_rfl, rfl⟩
@[go_sem] theorem isF56 : (∃ fn, Try.prog.funcs[56]? = some fn ∧ (fn.name == "runtime.NumGoroutine") = false ∧ fn.body.isNone = false) := ⟨_, Try.func56, by kernel_rfl, rfl⟩
@[go_sem] theorem isF57 : (∃ fn, Try.prog.funcs[57]? = some fn ∧ (fn.name == "runtime.NumGoroutine") = false ∧ fn.body.isNone = false) := ⟨_, Try.func57, by kernel_rfl, rfl⟩
@[go_sem] theorem isF58 : (∃ fn, Try.prog.funcs[58]? = some fn ∧ (fn.name == "runtime.NumGoroutine") = false ∧ fn.body.isNone = false) := ⟨_, Try.func58, by kernel_rfl, rfl⟩
@[go_sem] theorem isF59 : (∃ fn, Try.prog.funcs[59]? = some fn ∧ (fn.name == "runtime.NumGoroutine") = false ∧ fn.body.isNone = false) := ⟨_, Try.func59, by kernel_rfl, rfl⟩
@[go_sem] theorem isF60 : (∃ fn, Try.prog.funcs[60]? = some fn ∧ (fn.name == "runtime.NumGoroutine") = false ∧ fn.body.isNone = false) := ⟨_, Try.func60, by kernel_rfl, rfl⟩
@[go_sem] theorem isF61 : (∃ fn, Try.prog.funcs[61]? = some fn ∧ (fn.name == "runtime.NumGoroutine") = false ∧ fn.body.isNone = false) := ⟨_, Try.func61, by kernel_rfl, rfl⟩
@[go_sem] theorem isF62 : (∃ fn, Try.prog.funcs[62]? = some fn ∧ (fn.name == "runtime.NumGoroutine") = false ∧ fn.body.isNone = false) := ⟨_, Try.func62, by kernel_rfl, rfl⟩
@[go_sem] theorem isF63 : (∃ fn, Try.prog.funcs[63]? = some fn ∧ (fn.name == "runtime.NumGoroutine") = false ∧ fn.body.isNone = false) := ⟨_, Try.func63, by kernel_rfl, rfl⟩
@[go_sem] theorem isF64 : (∃ fn, Try.prog.funcs[64]? = some fn ∧ (fn.name == "runtime.NumGoroutine") = false ∧ fn.body.isNone = false) := ⟨_, Try.func64, by kernel_rfl, rfl⟩
@[go_sem] theorem isF65 : (∃ fn, Try.prog.funcs[65]? = some fn ∧ (fn.name == "runtime.NumGoroutine") = false ∧ fn.body.isNone = false) := ⟨_, Try.func65, by kernel_rfl, rfl⟩
@[go_sem] theorem isF66 : (∃ fn, Try.prog.funcs[66]? = some fn ∧ (fn.name == "runtime.NumGoroutine") = false ∧ fn.body.isNone = false) := ⟨_, Try.func66, by kernel_rfl, rfl⟩
@[go_sem] theorem isF67 : (∃ fn, Try.prog.funcs[67]? = some fn ∧ (fn.name == "runtime.NumGoroutine") = false ∧ fn.body.isNone = false) := ⟨_, Try.func67, by kernel_rfl, rfl⟩
end Go.Proofs.Ytdkhlkihhdjbbaa
