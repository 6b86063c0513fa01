/- Closed facts on the types and functions of this seat: written by program (facts.py), each checked by the kernel. -/
import Derived.Test.YtkkhmngmhckgbaaProg
import Derived.Test.YtkkhmngmhckgbaaLt
import Derived.Test.YtkkhmngmhckgbaaLx
namespace Go.Proofs.Ytkkhmngmhckgbaa
open Go.L

/- 3: int -/
@[go_sem] theorem ts3 : tsize Try.prog 3 = 1 := by kernel_rfl
@[go_sem] theorem ta3 : tagg Try.prog 3 = false := by kernel_rfl
@[go_sem] theorem tk3 : tok Try.prog 3 = true := by kernel_rfl
@[go_sem] theorem ti3 : tint Try.prog 3 = some .i64 := by kernel_rfl
@[go_sem] theorem tz3 : tzero Try.prog 3 = some (.int .i64 0) := by kernel_rfl
@[go_sem] theorem tr3 : trow Try.prog 3 = true := by kernel_rfl
/- 4: bool -/
@[go_sem] theorem ts4 : tsize Try.prog 4 = 1 := by kernel_rfl
@[go_sem] theorem ta4 : tagg Try.prog 4 = false := by kernel_rfl
@[go_sem] theorem tk4 : tok Try.prog 4 = true := by kernel_rfl
@[go_sem] theorem tb4 : tbool Try.prog 4 = true := by kernel_rfl
@[go_sem] theorem tz4 : tzero Try.prog 4 = some (.bool false) := by kernel_rfl
@[go_sem] theorem tr4 : trow Try.prog 4 = true := by kernel_rfl
/- 22: []int -/
@[go_sem] theorem ts22 : tsize Try.prog 22 = 1 := by kernel_rfl
@[go_sem] theorem ta22 : tagg Try.prog 22 = false := by kernel_rfl
@[go_sem] theorem tk22 : tok Try.prog 22 = true := by kernel_rfl
@[go_sem] theorem te22 : telem Try.prog 22 = some 3 := by kernel_rfl
@[go_sem] theorem tz22 : tzero Try.prog 22 = some (.nil) := by kernel_rfl
@[go_sem] theorem tr22 : trow Try.prog 22 = true := by kernel_rfl
/- 23: *awardingbodymake.Tape -/
@[go_sem] theorem ts23 : tsize Try.prog 23 = 1 := by kernel_rfl
@[go_sem] theorem ta23 : tagg Try.prog 23 = false := by kernel_rfl
@[go_sem] theorem tk23 : tok Try.prog 23 = true := by kernel_rfl
@[go_sem] theorem tz23 : tzero Try.prog 23 = some (.nilp) := by kernel_rfl
@[go_sem] theorem tr23 : trow Try.prog 23 = true := by kernel_rfl
/- 25: []api.EntryEvent -/
@[go_sem] theorem ts25 : tsize Try.prog 25 = 1 := by kernel_rfl
@[go_sem] theorem ta25 : tagg Try.prog 25 = false := by kernel_rfl
@[go_sem] theorem tk25 : tok Try.prog 25 = true := by kernel_rfl
@[go_sem] theorem te25 : telem Try.prog 25 = some 35 := by kernel_rfl
@[go_sem] theorem tz25 : tzero Try.prog 25 = some (.nil) := by kernel_rfl
@[go_sem] theorem tr25 : trow Try.prog 25 = true := by kernel_rfl
/- 27: api.Errno -/
@[go_sem] theorem ts27 : tsize Try.prog 27 = 1 := by kernel_rfl
@[go_sem] theorem ta27 : tagg Try.prog 27 = false := by kernel_rfl
@[go_sem] theorem tk27 : tok Try.prog 27 = true := by kernel_rfl
@[go_sem] theorem ti27 : tint Try.prog 27 = some .i64 := by kernel_rfl
@[go_sem] theorem tz27 : tzero Try.prog 27 = some (.int .i64 0) := by kernel_rfl
@[go_sem] theorem tr27 : trow Try.prog 27 = true := by kernel_rfl
/- 31: api.Stamp -/
@[go_sem] theorem ts31 : tsize Try.prog 31 = 3 := by kernel_rfl
@[go_sem] theorem ta31 : tagg Try.prog 31 = true := by kernel_rfl
@[go_sem] theorem tk31 : tok Try.prog 31 = true := by kernel_rfl
@[go_sem] theorem tz31 : tzero Try.prog 31 = some (.agg [.int .i64 0, .int .i64 0, .int .i64 0]) := by kernel_rfl
@[go_sem] theorem tr31 : trow Try.prog 31 = true := by kernel_rfl
@[go_sem] theorem tu31 : tbuild Try.prog 31 = true := by kernel_rfl
@[go_sem] theorem tf31_0 : tfield Try.prog 31 0 = some (0, 3) := by kernel_rfl
@[go_sem] theorem tf31_1 : tfield Try.prog 31 1 = some (1, 3) := by kernel_rfl
@[go_sem] theorem tf31_2 : tfield Try.prog 31 2 = some (2, 3) := by kernel_rfl
/- 33: api.Entry -/
@[go_sem] theorem ts33 : tsize Try.prog 33 = 3 := by kernel_rfl
@[go_sem] theorem ta33 : tagg Try.prog 33 = true := by kernel_rfl
@[go_sem] theorem tk33 : tok Try.prog 33 = true := by kernel_rfl
@[go_sem] theorem tz33 : tzero Try.prog 33 = some (.agg [.int .i64 0, .int .i64 0, .int .i64 0]) := by kernel_rfl
@[go_sem] theorem tr33 : trow Try.prog 33 = true := by kernel_rfl
@[go_sem] theorem tu33 : tbuild Try.prog 33 = true := by kernel_rfl
@[go_sem] theorem tf33_0 : tfield Try.prog 33 0 = some (0, 3) := by kernel_rfl
@[go_sem] theorem tf33_1 : tfield Try.prog 33 1 = some (1, 3) := by kernel_rfl
@[go_sem] theorem tf33_2 : tfield Try.prog 33 2 = some (2, 3) := by kernel_rfl
/- 35: api.EntryEvent -/
@[go_sem] theorem ts35 : tsize Try.prog 35 = 8 := by kernel_rfl
@[go_sem] theorem ta35 : tagg Try.prog 35 = true := by kernel_rfl
@[go_sem] theorem tk35 : tok Try.prog 35 = true := by kernel_rfl
@[go_sem] theorem tz35 : tzero Try.prog 35 = some (.agg [.int .i64 0, .int .i64 0, .int .i64 0, .int .i64 0, .int .i64 0, .int .i64 0, .int .i64 0, .int .i64 0]) := by kernel_rfl
@[go_sem] theorem tr35 : trow Try.prog 35 = true := by kernel_rfl
@[go_sem] theorem tu35 : tbuild Try.prog 35 = true := by kernel_rfl
@[go_sem] theorem tf35_0 : tfield Try.prog 35 0 = some (0, 31) := by kernel_rfl
@[go_sem] theorem tf35_1 : tfield Try.prog 35 1 = some (3, 3) := by kernel_rfl
@[go_sem] theorem tf35_2 : tfield Try.prog 35 2 = some (4, 33) := by kernel_rfl
@[go_sem] theorem tf35_3 : tfield Try.prog 35 3 = some (7, 3) := by kernel_rfl
/- 37: func(api.EntryEvent, api.EntryEvent) bool -/
@[go_sem] theorem ts37 : tsize Try.prog 37 = 1 := by kernel_rfl
@[go_sem] theorem ta37 : tagg Try.prog 37 = false := by kernel_rfl
@[go_sem] theorem tk37 : tok Try.prog 37 = true := by kernel_rfl
@[go_sem] theorem tz37 : tzero Try.prog 37 = some (.und) := by kernel_rfl
@[go_sem] theorem tr37 : trow Try.prog 37 = true := by kernel_rfl
/- 41: api.Deadlines -/
@[go_sem] theorem ts41 : tsize Try.prog 41 = 2 := by kernel_rfl
@[go_sem] theorem ta41 : tagg Try.prog 41 = true := by kernel_rfl
@[go_sem] theorem tk41 : tok Try.prog 41 = true := by kernel_rfl
@[go_sem] theorem tz41 : tzero Try.prog 41 = some (.agg [.int .i64 0, .int .i64 0]) := by kernel_rfl
@[go_sem] theorem tr41 : trow Try.prog 41 = true := by kernel_rfl
@[go_sem] theorem tu41 : tbuild Try.prog 41 = true := by kernel_rfl
@[go_sem] theorem tf41_0 : tfield Try.prog 41 0 = some (0, 3) := by kernel_rfl
@[go_sem] theorem tf41_1 : tfield Try.prog 41 1 = some (1, 3) := by kernel_rfl
/- 43: func(int, int) int -/
@[go_sem] theorem ts43 : tsize Try.prog 43 = 1 := by kernel_rfl
@[go_sem] theorem ta43 : tagg Try.prog 43 = false := by kernel_rfl
@[go_sem] theorem tk43 : tok Try.prog 43 = true := by kernel_rfl
@[go_sem] theorem tz43 : tzero Try.prog 43 = some (.und) := by kernel_rfl
@[go_sem] theorem tr43 : trow Try.prog 43 = true := by kernel_rfl
/- 44: []api.Enrolment -/
@[go_sem] theorem ts44 : tsize Try.prog 44 = 1 := by kernel_rfl
@[go_sem] theorem ta44 : tagg Try.prog 44 = false := by kernel_rfl
@[go_sem] theorem tk44 : tok Try.prog 44 = true := by kernel_rfl
@[go_sem] theorem te44 : telem Try.prog 44 = some 53 := by kernel_rfl
@[go_sem] theorem tz44 : tzero Try.prog 44 = some (.nil) := by kernel_rfl
@[go_sem] theorem tr44 : trow Try.prog 44 = true := by kernel_rfl
/- 45: []api.Refusal -/
@[go_sem] theorem ts45 : tsize Try.prog 45 = 1 := by kernel_rfl
@[go_sem] theorem ta45 : tagg Try.prog 45 = false := by kernel_rfl
@[go_sem] theorem tk45 : tok Try.prog 45 = true := by kernel_rfl
@[go_sem] theorem te45 : telem Try.prog 45 = some 76 := by kernel_rfl
@[go_sem] theorem tz45 : tzero Try.prog 45 = some (.nil) := by kernel_rfl
@[go_sem] theorem tr45 : trow Try.prog 45 = true := by kernel_rfl
/- 53: api.Enrolment -/
@[go_sem] theorem ts53 : tsize Try.prog 53 = 4 := by kernel_rfl
@[go_sem] theorem ta53 : tagg Try.prog 53 = true := by kernel_rfl
@[go_sem] theorem tk53 : tok Try.prog 53 = true := by kernel_rfl
@[go_sem] theorem tz53 : tzero Try.prog 53 = some (.agg [.int .i64 0, .int .i64 0, .int .i64 0, .bool false]) := by kernel_rfl
@[go_sem] theorem tr53 : trow Try.prog 53 = true := by kernel_rfl
@[go_sem] theorem tu53 : tbuild Try.prog 53 = true := by kernel_rfl
@[go_sem] theorem tf53_0 : tfield Try.prog 53 0 = some (0, 33) := by kernel_rfl
@[go_sem] theorem tf53_1 : tfield Try.prog 53 1 = some (3, 4) := by kernel_rfl
/- 62: [4]int -/
@[go_sem] theorem ts62 : tsize Try.prog 62 = 4 := by kernel_rfl
@[go_sem] theorem ta62 : tagg Try.prog 62 = true := by kernel_rfl
@[go_sem] theorem tk62 : tok Try.prog 62 = true := by kernel_rfl
@[go_sem] theorem ty62 : tarr Try.prog 62 = some (4, 3) := by kernel_rfl
@[go_sem] theorem tz62 : tzero Try.prog 62 = some (.agg [.int .i64 0, .int .i64 0, .int .i64 0, .int .i64 0]) := by kernel_rfl
@[go_sem] theorem tr62 : trow Try.prog 62 = true := by kernel_rfl
/- 64: awardingbodymake.Tape -/
@[go_sem] theorem ts64 : tsize Try.prog 64 = 2 := by kernel_rfl
@[go_sem] theorem ta64 : tagg Try.prog 64 = true := by kernel_rfl
@[go_sem] theorem tk64 : tok Try.prog 64 = true := by kernel_rfl
@[go_sem] theorem tz64 : tzero Try.prog 64 = some (.agg [.nil, .int .i64 0]) := by kernel_rfl
@[go_sem] theorem tr64 : trow Try.prog 64 = true := by kernel_rfl
@[go_sem] theorem tu64 : tbuild Try.prog 64 = true := by kernel_rfl
@[go_sem] theorem tf64_0 : tfield Try.prog 64 0 = some (0, 22) := by kernel_rfl
@[go_sem] theorem tf64_1 : tfield Try.prog 64 1 = some (1, 3) := by kernel_rfl
/- 70: func(api.EntryEvent) api.Stamp -/
@[go_sem] theorem ts70 : tsize Try.prog 70 = 1 := by kernel_rfl
@[go_sem] theorem ta70 : tagg Try.prog 70 = false := by kernel_rfl
@[go_sem] theorem tk70 : tok Try.prog 70 = true := by kernel_rfl
@[go_sem] theorem tz70 : tzero Try.prog 70 = some (.und) := by kernel_rfl
@[go_sem] theorem tr70 : trow Try.prog 70 = true := by kernel_rfl
/- 71: []api.Stamp -/
@[go_sem] theorem ts71 : tsize Try.prog 71 = 1 := by kernel_rfl
@[go_sem] theorem ta71 : tagg Try.prog 71 = false := by kernel_rfl
@[go_sem] theorem tk71 : tok Try.prog 71 = true := by kernel_rfl
@[go_sem] theorem te71 : telem Try.prog 71 = some 31 := by kernel_rfl
@[go_sem] theorem tz71 : tzero Try.prog 71 = some (.nil) := by kernel_rfl
@[go_sem] theorem tr71 : trow Try.prog 71 = true := by kernel_rfl
/- 74: api.Identity -/
@[go_sem] theorem ts74 : tsize Try.prog 74 = 2 := by kernel_rfl
@[go_sem] theorem ta74 : tagg Try.prog 74 = true := by kernel_rfl
@[go_sem] theorem tk74 : tok Try.prog 74 = true := by kernel_rfl
@[go_sem] theorem tz74 : tzero Try.prog 74 = some (.agg [.int .i64 0, .int .i64 0]) := by kernel_rfl
@[go_sem] theorem tr74 : trow Try.prog 74 = true := by kernel_rfl
@[go_sem] theorem tu74 : tbuild Try.prog 74 = true := by kernel_rfl
@[go_sem] theorem tf74_0 : tfield Try.prog 74 0 = some (0, 3) := by kernel_rfl
@[go_sem] theorem tf74_1 : tfield Try.prog 74 1 = some (1, 3) := by kernel_rfl
/- 76: api.Refusal -/
@[go_sem] theorem ts76 : tsize Try.prog 76 = 3 := by kernel_rfl
@[go_sem] theorem ta76 : tagg Try.prog 76 = true := by kernel_rfl
@[go_sem] theorem tk76 : tok Try.prog 76 = true := by kernel_rfl
@[go_sem] theorem tz76 : tzero Try.prog 76 = some (.agg [.int .i64 0, .int .i64 0, .int .i64 0]) := by kernel_rfl
@[go_sem] theorem tr76 : trow Try.prog 76 = true := by kernel_rfl
@[go_sem] theorem tu76 : tbuild Try.prog 76 = true := by kernel_rfl
@[go_sem] theorem tf76_0 : tfield Try.prog 76 0 = some (0, 74) := by kernel_rfl
@[go_sem] theorem tf76_1 : tfield Try.prog 76 1 = some (2, 27) := by kernel_rfl
/- 88: func(api.Enrolment, api.Entry) int -/
@[go_sem] theorem ts88 : tsize Try.prog 88 = 1 := by kernel_rfl
@[go_sem] theorem ta88 : tagg Try.prog 88 = false := by kernel_rfl
@[go_sem] theorem tk88 : tok Try.prog 88 = true := by kernel_rfl
@[go_sem] theorem tz88 : tzero Try.prog 88 = some (.und) := by kernel_rfl
@[go_sem] theorem tr88 : trow Try.prog 88 = true := by kernel_rfl
/- 94: []stamp.group -/
@[go_sem] theorem ts94 : tsize Try.prog 94 = 1 := by kernel_rfl
@[go_sem] theorem ta94 : tagg Try.prog 94 = false := by kernel_rfl
@[go_sem] theorem tk94 : tok Try.prog 94 = true := by kernel_rfl
@[go_sem] theorem te94 : telem Try.prog 94 = some 97 := by kernel_rfl
@[go_sem] theorem tz94 : tzero Try.prog 94 = some (.nil) := by kernel_rfl
@[go_sem] theorem tr94 : trow Try.prog 94 = true := by kernel_rfl
/- 97: stamp.group -/
@[go_sem] theorem ts97 : tsize Try.prog 97 = 2 := by kernel_rfl
@[go_sem] theorem ta97 : tagg Try.prog 97 = true := by kernel_rfl
@[go_sem] theorem tk97 : tok Try.prog 97 = true := by kernel_rfl
@[go_sem] theorem tz97 : tzero Try.prog 97 = some (.agg [.int .i64 0, .bool false]) := by kernel_rfl
@[go_sem] theorem tr97 : trow Try.prog 97 = true := by kernel_rfl
@[go_sem] theorem tu97 : tbuild Try.prog 97 = true := by kernel_rfl
@[go_sem] theorem tf97_0 : tfield Try.prog 97 0 = some (0, 3) := by kernel_rfl
@[go_sem] theorem tf97_1 : tfield Try.prog 97 1 = some (1, 4) := by kernel_rfl
/- 101: uint -/
@[go_sem] theorem ts101 : tsize Try.prog 101 = 1 := by kernel_rfl
@[go_sem] theorem ta101 : tagg Try.prog 101 = false := by kernel_rfl
@[go_sem] theorem tk101 : tok Try.prog 101 = true := by kernel_rfl
@[go_sem] theorem ti101 : tint Try.prog 101 = some .u64 := by kernel_rfl
@[go_sem] theorem tz101 : tzero Try.prog 101 = some (.int .u64 0) := by kernel_rfl
@[go_sem] theorem tr101 : trow Try.prog 101 = true := by kernel_rfl
/- 107: slices.sortedHint -/
@[go_sem] theorem ts107 : tsize Try.prog 107 = 1 := by kernel_rfl
@[go_sem] theorem ta107 : tagg Try.prog 107 = false := by kernel_rfl
@[go_sem] theorem tk107 : tok Try.prog 107 = true := by kernel_rfl
@[go_sem] theorem ti107 : tint Try.prog 107 = some .i64 := by kernel_rfl
@[go_sem] theorem tz107 : tzero Try.prog 107 = some (.int .i64 0) := by kernel_rfl
@[go_sem] theorem tr107 : trow Try.prog 107 = true := by kernel_rfl
/- 118: slices.xorshift -/
@[go_sem] theorem ts118 : tsize Try.prog 118 = 1 := by kernel_rfl
@[go_sem] theorem ta118 : tagg Try.prog 118 = false := by kernel_rfl
@[go_sem] theorem tk118 : tok Try.prog 118 = true := by kernel_rfl
@[go_sem] theorem ti118 : tint Try.prog 118 = some .u64 := by kernel_rfl
@[go_sem] theorem tz118 : tzero Try.prog 118 = some (.int .u64 0) := by kernel_rfl
@[go_sem] theorem tr118 : trow Try.prog 118 = true := by kernel_rfl
/- 122: *int -/
@[go_sem] theorem ts122 : tsize Try.prog 122 = 1 := by kernel_rfl
@[go_sem] theorem ta122 : tagg Try.prog 122 = false := by kernel_rfl
@[go_sem] theorem tk122 : tok Try.prog 122 = true := by kernel_rfl
@[go_sem] theorem tz122 : tzero Try.prog 122 = some (.nilp) := by kernel_rfl
@[go_sem] theorem tr122 : trow Try.prog 122 = true := by kernel_rfl
theorem mixed : Try.prog.follows .mixedOrders = true := by kernel_rfl
@[go_sem] theorem isF3 : (∃ fn, Try.prog.funcs[3]? = some fn ∧ (fn.name == "runtime.NumGoroutine") = false ∧ fn.body.isNone = false) := ⟨_, Try.func3, by kernel_rfl, rfl⟩
@[go_sem] theorem isF4 : (∃ fn, Try.prog.funcs[4]? = some fn ∧ (fn.name == "runtime.NumGoroutine") = false ∧ fn.body.isNone = false) := ⟨_, Try.func4, by kernel_rfl, rfl⟩
@[go_sem] theorem isF5 : (∃ fn, Try.prog.funcs[5]? = some fn ∧ (fn.name == "runtime.NumGoroutine") = false ∧ fn.body.isNone = false) := ⟨_, Try.func5, by kernel_rfl, rfl⟩
@[go_sem] theorem isF6 : (∃ fn, Try.prog.funcs[6]? = some fn ∧ (fn.name == "runtime.NumGoroutine") = false ∧ fn.body.isNone = false) := ⟨_, Try.func6, by kernel_rfl, rfl⟩
@[go_sem] theorem isF7 : (∃ fn, Try.prog.funcs[7]? = some fn ∧ (fn.name == "runtime.NumGoroutine") = false ∧ fn.body.isNone = false) := ⟨_, Try.func7, by kernel_rfl, rfl⟩
@[go_sem] theorem isF8 : (∃ fn, Try.prog.funcs[8]? = some fn ∧ (fn.name == "runtime.NumGoroutine") = false ∧ fn.body.isNone = false) := ⟨_, Try.func8, by kernel_rfl, rfl⟩
@[go_sem] theorem isF9 : (∃ fn, Try.prog.funcs[9]? = some fn ∧ (fn.name == "runtime.NumGoroutine") = false ∧ fn.body.isNone = false) := ⟨_, Try.func9, by kernel_rfl, rfl⟩
@[go_sem] theorem isF10 : (∃ fn, Try.prog.funcs[10]? = some fn ∧ (fn.name == "runtime.NumGoroutine") = false ∧ fn.body.isNone = false) := ⟨_, Try.func10, by kernel_rfl, rfl⟩
@[go_sem] theorem isF11 : (∃ fn, Try.prog.funcs[11]? = some fn ∧ (fn.name == "runtime.NumGoroutine") = false ∧ fn.body.isNone = false) := ⟨_, Try.func11, by kernel_rfl, rfl⟩
@[go_sem] theorem isF12 : (∃ fn, Try.prog.funcs[12]? = some fn ∧ (fn.name == "runtime.NumGoroutine") = false ∧ fn.body.isNone = false) := ⟨_, Try.func12, by kernel_rfl, rfl⟩
@[go_sem] theorem isF13 : (∃ fn, Try.prog.funcs[13]? = some fn ∧ (fn.name == "runtime.NumGoroutine") = false ∧ fn.body.isNone = false) := ⟨_, Try.func13, by kernel_rfl, rfl⟩
@[go_sem] theorem isF14 : (∃ fn, Try.prog.funcs[14]? = some fn ∧ (fn.name == "runtime.NumGoroutine") = false ∧ fn.body.isNone = false) := ⟨_, Try.func14, by kernel_rfl, rfl⟩
@[go_sem] theorem isF15 : (∃ fn, Try.prog.funcs[15]? = some fn ∧ (fn.name == "runtime.NumGoroutine") = false ∧ fn.body.isNone = false) := ⟨_, Try.func15, by kernel_rfl, rfl⟩
@[go_sem] theorem isF16 : (∃ fn, Try.prog.funcs[16]? = some fn ∧ (fn.name == "runtime.NumGoroutine") = false ∧ fn.body.isNone = false) := ⟨_, Try.func16, by kernel_rfl, rfl⟩
@[go_sem] theorem isF17 : (∃ fn, Try.prog.funcs[17]? = some fn ∧ (fn.name == "runtime.NumGoroutine") = false ∧ fn.body.isNone = false) := ⟨_, Try.func17, by kernel_rfl, rfl⟩
@[go_sem] theorem isF18 : (∃ fn, Try.prog.funcs[18]? = some fn ∧ (fn.name == "runtime.NumGoroutine") = false ∧ fn.body.isNone = false) := ⟨_, Try.func18, by kernel_rfl, rfl⟩
@[go_sem] theorem isF19 : (∃ fn, Try.prog.funcs[19]? = some fn ∧ (fn.name == "runtime.NumGoroutine") = false ∧ fn.body.isNone = false) := ⟨_, Try.func19, by kernel_rfl, rfl⟩
@[go_sem] theorem isF20 : (∃ fn, Try.prog.funcs[20]? = some fn ∧ (fn.name == "runtime.NumGoroutine") = false ∧ fn.body.isNone = false) := ⟨_, Try.func20, by kernel_rfl, rfl⟩
@[go_sem] theorem isF21 : (∃ fn, Try.prog.funcs[21]? = some fn ∧ (fn.name == "runtime.NumGoroutine") = false ∧ fn.body.isNone = false) := ⟨_, Try.func21, by kernel_rfl, rfl⟩
@[go_sem] theorem isF22 : (∃ fn, Try.prog.funcs[22]? = some fn ∧ (fn.name == "runtime.NumGoroutine") = false ∧ fn.body.isNone = false) := ⟨_, Try.func22, by kernel_rfl, rfl⟩
@[go_sem] theorem isF23 : (∃ fn, Try.prog.funcs[23]? = some fn ∧ (fn.name == "runtime.NumGoroutine") = false ∧ fn.body.isNone = false) := ⟨_, Try.func23, by kernel_rfl, rfl⟩
@[go_sem] theorem isF24 : (∃ fn, Try.prog.funcs[24]? = some fn ∧ (fn.name == "runtime.NumGoroutine") = false ∧ fn.body.isNone = false) := ⟨_, Try.func24, by kernel_rfl, rfl⟩
@[go_sem] theorem isF25 : (∃ fn, Try.prog.funcs[25]? = some fn ∧ (fn.name == "runtime.NumGoroutine") = false ∧ fn.body.isNone = false) := ⟨_, Try.func25, by kernel_rfl, rfl⟩
@[go_sem] theorem isF26 : (∃ fn, Try.prog.funcs[26]? = some fn ∧ (fn.name == "runtime.NumGoroutine") = false ∧ fn.body.isNone = false) := ⟨_, Try.func26, by kernel_rfl, rfl⟩
@[go_sem] theorem isF27 : (∃ fn, Try.prog.funcs[27]? = some fn ∧ (fn.name == "runtime.NumGoroutine") = false ∧ fn.body.isNone = false) := ⟨_, Try.func27, by kernel_rfl, rfl⟩
@[go_sem] theorem isF28 : (∃ fn, Try.prog.funcs[28]? = some fn ∧ (fn.name == "runtime.NumGoroutine") = false ∧ fn.body.isNone = false) := ⟨_, Try.func28, by kernel_rfl, rfl⟩
@[go_sem] theorem isF29 : (∃ fn, Try.prog.funcs[29]? = some fn ∧ (fn.name == "runtime.NumGoroutine") = false ∧ fn.body.isNone = false) := ⟨_, Try.func29, by kernel_rfl, rfl⟩
@[go_sem] theorem isF30 : (∃ fn, Try.prog.funcs[30]? = some fn ∧ (fn.name == "runtime.NumGoroutine") = false ∧ fn.body.isNone = false) := ⟨_, Try.func30, by kernel_rfl, rfl⟩
@[go_sem] theorem isF31 : (∃ fn, Try.prog.funcs[31]? = some fn ∧ (fn.name == "runtime.NumGoroutine") = false ∧ fn.body.isNone = false) := ⟨_, Try.func31, by kernel_rfl, rfl⟩
@[go_sem] theorem isF32 : (∃ fn, Try.prog.funcs[32]? = some fn ∧ (fn.name == "runtime.NumGoroutine") = false ∧ fn.body.isNone = false) := ⟨_, Try.func32, by kernel_rfl, rfl⟩
@[go_sem] theorem isF33 : (∃ fn, Try.prog.funcs[33]? = some fn ∧ (fn.name == "runtime.NumGoroutine") = false ∧ fn.body.isNone = false) := ⟨_, Try.func33, by kernel_rfl, rfl⟩
@[go_sem] theorem isF34 : (∃ fn, Try.prog.funcs[34]? = some fn ∧ (fn.name == "runtime.NumGoroutine") = false ∧ fn.body.isNone = false) := ⟨_, Try.func34, by kernel_rfl, rfl⟩
@[go_sem] theorem isF35 : (∃ fn, Try.prog.funcs[35]? = some fn ∧ (fn.name == "runtime.NumGoroutine") = false ∧ fn.body.isNone = false) := ⟨_, Try.func35, by kernel_rfl, rfl⟩
@[go_sem] theorem isF36 : (∃ fn, Try.prog.funcs[36]? = some fn ∧ (fn.name == "runtime.NumGoroutine") = false ∧ fn.body.isNone = false) := ⟨_, Try.func36, by kernel_rfl, rfl⟩
@[go_sem] theorem isF37 : (∃ fn, Try.prog.funcs[37]? = some fn ∧ (fn.name == "runtime.NumGoroutine") = false ∧ fn.body.isNone = false) := ⟨_, Try.func37, by kernel_rfl, rfl⟩
@[go_sem] theorem isF38 : (∃ fn, Try.prog.funcs[38]? = some fn ∧ (fn.name == "runtime.NumGoroutine") = false ∧ fn.body.isNone = false) := ⟨_, Try.func38, by kernel_rfl, rfl⟩
@[go_sem] theorem isF39 : (∃ fn, Try.prog.funcs[39]? = some fn ∧ (fn.name == "runtime.NumGoroutine") = false ∧ fn.body.isNone = false) := ⟨_, Try.func39, by kernel_rfl, rfl⟩
@[go_sem] theorem isF40 : (∃ fn, Try.prog.funcs[40]? = some fn ∧ (fn.name == "runtime.NumGoroutine") = false ∧ fn.body.isNone = false) := ⟨_, Try.func40, by kernel_rfl, rfl⟩
@[go_sem] theorem isF41 : (∃ fn, Try.prog.funcs[41]? = some fn ∧ (fn.name == "runtime.NumGoroutine") = false ∧ fn.body.isNone = false) := ⟨_, Try.func41, by kernel_rfl, rfl⟩
@[go_sem] theorem isF42 : (∃ fn, Try.prog.funcs[42]? = some fn ∧ (fn.name == "runtime.NumGoroutine") = false ∧ fn.body.isNone = false) := ⟨_, Try.func42, by kernel_rfl, rfl⟩
@[go_sem] theorem isF43 : (∃ fn, Try.prog.funcs[43]? = some fn ∧ (fn.name == "runtime.NumGoroutine") = false ∧ fn.body.isNone = false) := ⟨_, Try.func43, by kernel_rfl, rfl⟩
@[go_sem] theorem isF44 : (∃ fn, Try.prog.funcs[44]? = some fn ∧ (fn.name == "runtime.NumGoroutine") = false ∧ fn.body.isNone = false) := ⟨_, Try.func44, by kernel_rfl, rfl⟩
@[go_sem] theorem isF45 : (∃ fn, Try.prog.funcs[45]? = some fn ∧ (fn.name == "runtime.NumGoroutine") = false ∧ fn.body.isNone = false) := ⟨_, Try.func45, by kernel_rfl, rfl⟩
@[go_sem] theorem isF46 : (∃ fn, Try.prog.funcs[46]? = some fn ∧ (fn.name == "runtime.NumGoroutine") = false ∧ fn.body.isNone = false) := ⟨_, Try.func46, by kernel_rfl, rfl⟩
@[go_sem] theorem isF47 : (∃ fn, Try.prog.funcs[47]? = some fn ∧ (fn.name == "runtime.NumGoroutine") = false ∧ fn.body.isNone = false) := ⟨_, Try.func47, by kernel_rfl, rfl⟩
@[go_sem] theorem isF48 : (∃ fn, Try.prog.funcs[48]? = some fn ∧ (fn.name == "runtime.NumGoroutine") = false ∧ fn.body.isNone = false) := ⟨_, Try.func48, by kernel_rfl, rfl⟩
@[go_sem] theorem isF49 : (∃ fn, Try.prog.funcs[49]? = some fn ∧ (fn.name == "runtime.NumGoroutine") = false ∧ fn.body.isNone = false) := ⟨_, Try.func49, by kernel_rfl, rfl⟩
@[go_sem] theorem isF50 : (∃ fn, Try.prog.funcs[50]? = some fn ∧ (fn.name == "runtime.NumGoroutine") = false ∧ fn.body.isNone = false) := ⟨_, Try.func50, by kernel_rfl, rfl⟩
@[go_sem] theorem isF51 : (∃ fn, Try.prog.funcs[51]? = some fn ∧ (fn.name == "runtime.NumGoroutine") = false ∧ fn.body.isNone = false) := ⟨_, Try.func51, by kernel_rfl, rfl⟩
@[go_sem] theorem isF52 : (∃ fn, Try.prog.funcs[52]? = some fn ∧ (fn.name == "runtime.NumGoroutine") = false ∧ fn.body.isNone = false) := ⟨_, Try.func52, by kernel_rfl, rfl⟩
@[go_sem] theorem isF53 : (∃ fn, Try.prog.funcs[53]? = some fn ∧ (fn.name == "runtime.NumGoroutine") = false ∧ fn.body.isNone = false) := ⟨_, Try.func53, by kernel_rfl, rfl⟩
@[go_sem] theorem isF54 : (∃ fn, Try.prog.funcs[54]? = some fn ∧ (fn.name == "runtime.NumGoroutine") = false ∧ fn.body.isNone = false) := ⟨_, Try.func54, by kernel_rfl, rfl⟩
@[go_sem] theorem isF55 : (∃ fn, Try.prog.funcs[55]? = some fn ∧ (fn.name == "runtime.NumGoroutine") = false ∧ fn.body.isNone = false) := ⟨_, Try.func55, by kernel_rfl, rfl⟩
@[go_sem] theorem isF56 : (∃ fn, Try.prog.funcs[56]? = some fn ∧ (fn.name == "runtime.NumGoroutine") = false ∧ fn.body.isNone = false) := ⟨_, Try.func56, by kernel_rfl, rfl⟩
@[go_sem] theorem isF57 : (∃ fn, Try.prog.funcs[57]? = some fn ∧ (fn.name == "runtime.NumGoroutine") = false ∧ fn.body.isNone = false) := ⟨_, Try.func57, by kernel_rfl, rfl⟩
@[go_sem] theorem isF58 : (∃ fn, Try.prog.funcs[58]? = some fn ∧ (fn.name == "runtime.NumGoroutine") = false ∧ fn.body.isNone = false) := ⟨_, Try.func58, by kernel_rfl, rfl⟩
@[go_sem] theorem isF59 : (∃ fn, Try.prog.funcs[59]? = some fn ∧ (fn.name == "runtime.NumGoroutine") = false ∧ fn.body.isNone = false) := ⟨_, Try.func59, by kernel_rfl, rfl⟩
@[go_sem] theorem isF60 : (∃ fn, Try.prog.funcs[60]? = some fn ∧ (fn.name == "runtime.NumGoroutine") = false ∧ fn.body.isNone = false) := ⟨_, Try.func60, by kernel_rfl, rfl⟩
@[go_sem] theorem isF61 : (∃ fn, Try.prog.funcs[61]? = some fn ∧ (fn.name == "runtime.NumGoroutine") = false ∧ fn.body.isNone = false) := ⟨_, Try.func61, by kernel_rfl, rfl⟩
@[go_sem] theorem isF62 : (∃ fn, Try.prog.funcs[62]? = some fn ∧ (fn.name == "runtime.NumGoroutine") = false ∧ fn.body.isNone = false) := ⟨_, Try.func62, by kernel_rfl, rfl⟩
@[go_sem] theorem isF63 : (∃ fn, Try.prog.funcs[63]? = some fn ∧ (fn.name == "runtime.NumGoroutine") = false ∧ fn.body.isNone = false) := ⟨_, Try.func63, by kernel_rfl, rfl⟩
@[go_sem] theorem isF64 : (∃ fn, Try.prog.funcs[64]? = some fn ∧ (fn.name == "runtime.NumGoroutine") = false ∧ fn.body.isNone = false) := ⟨_, Try.func64, by kernel_rfl, rfl⟩
@[go_sem] theorem isF65 : (∃ fn, Try.prog.funcs[65]? = some fn ∧ (fn.name == "runtime.NumGoroutine") = false ∧ fn.body.isNone = false) := ⟨_, Try.func65, by kernel_rfl, rfl⟩
@[go_sem] theorem isF66 : (∃ fn, Try.prog.funcs[66]? = some fn ∧ (fn.name == "runtime.NumGoroutine") = false ∧ fn.body.isNone = false) := ⟨_, Try.func66, by kernel_rfl, rfl⟩
@[go_sem] theorem isF67 : (∃ fn, Try.prog.funcs[67]? = some fn ∧ (fn.name == "runtime.NumGoroutine") = false ∧ fn.body.isNone = false) := ⟨_, Try.func67, by kernel_rfl, rfl⟩
@[go_sem] theorem isF68 : (∃ fn, Try.prog.funcs[68]? = some fn ∧ (fn.name == "runtime.NumGoroutine") = false ∧ fn.body.isNone = false) := ⟨_, Try.func68, by kernel_rfl, rfl⟩
@[go_sem] theorem isF69 : (∃ fn, Try.prog.funcs[69]? = some fn ∧ (fn.name == "runtime.NumGoroutine") = false ∧ fn.body.isNone = false) := ⟨_, Try.func69, by kernel_rfl, rfl⟩
@[go_sem] theorem isF70 : (∃ fn, Try.prog.funcs[70]? = some fn ∧ (fn.name == "runtime.NumGoroutine") = false ∧ fn.body.isNone = false) := ⟨_, Try.func70, by kernel_rfl, rfl⟩
@[go_sem] theorem isF71 : (∃ fn, Try.prog.funcs[71]? = some fn ∧ (fn.name == "runtime.NumGoroutine") = false ∧ fn.body.isNone = false) := ⟨_, Try.func71, by kernel_rfl, rfl⟩
@[go_sem] theorem isF72 : (∃ fn, Try.prog.funcs[72]? = some fn ∧ (fn.name == "runtime.NumGoroutine") = false ∧ fn.body.isNone = false) := ⟨_, Try.func72, by kernel_rfl, rfl⟩
@[go_sem] theorem isF74 : (∃ fn, Try.prog.funcs[74]? = some fn ∧ (fn.name == "runtime.NumGoroutine") = false ∧ fn.body.isNone = false) := ⟨_, Try.func74, by kernel_rfl, rfl⟩
@[go_sem] theorem isF75 : (∃ fn, Try.prog.funcs[75]? = some fn ∧ (fn.name == "runtime.NumGoroutine") = false ∧ fn.body.isNone = false) := ⟨_, Try.func75, by kernel_rfl, rfl⟩
@[go_sem] theorem isF76 : (∃ fn, Try.prog.funcs[76]? = some fn ∧ (fn.name == "runtime.NumGoroutine") = false ∧ fn.body.isNone = false) := ⟨_, Try.func76, by kernel_rfl, rfl⟩
@[go_sem] theorem isF77 : (∃ fn, Try.prog.funcs[77]? = some fn ∧ (fn.name == "runtime.NumGoroutine") = false ∧ fn.body.isNone = false) := ⟨_, Try.func77, by kernel_rfl, rfl⟩
@[go_sem] theorem isF78 : (∃ fn, Try.prog.funcs[78]? = some fn ∧ (fn.name == "runtime.NumGoroutine") = false ∧ fn.body.isNone = false) := ⟨_, Try.func78, by kernel_rfl, rfl⟩
@[go_sem] theorem isF79 : (∃ fn, Try.prog.funcs[79]? = some fn ∧ (fn.name == "runtime.NumGoroutine") = false ∧ fn.body.isNone = false) := ⟨_, Try.func79, by kernel_rfl, rfl⟩
@[go_sem] theorem isF80 : (∃ fn, Try.prog.funcs[80]? = some fn ∧ (fn.name == "runtime.NumGoroutine") = false ∧ fn.body.isNone = false) := ⟨_, Try.func80, by kernel_rfl, rfl⟩
@[go_sem] theorem isF81 : (∃ fn, Try.prog.funcs[81]? = some fn ∧ (fn.name == "runtime.NumGoroutine") = false ∧ fn.body.isNone = false) := ⟨_, Try.func81, by kernel_rfl, rfl⟩
@[go_sem] theorem isF82 : (∃ fn, Try.prog.funcs[82]? = some fn ∧ (fn.name == "runtime.NumGoroutine") = false ∧ fn.body.isNone = false) := ⟨_, Try.func82, by kernel_rfl, rfl⟩
@[go_sem] theorem isF83 : (∃ fn, Try.prog.funcs[83]? = some fn ∧ (fn.name == "runtime.NumGoroutine") = false ∧ fn.body.isNone = false) := ⟨_, Try.func83, by kernel_rfl, rfl⟩
@[go_sem] theorem isF84 : (∃ fn, Try.prog.funcs[84]? = some fn ∧ (fn.name == "runtime.NumGoroutine") = false ∧ fn.body.isNone = false) := ⟨_, Try.func84, by kernel_rfl, rfl⟩
@[go_sem] theorem isF85 : (∃ fn, Try.prog.funcs[85]? = some fn ∧ (fn.name == "runtime.NumGoroutine") = false ∧ fn.body.isNone = false) := ⟨_, Try.func85, by kernel_rfl, rfl⟩
@[go_sem] theorem isF86 : (∃ fn, Try.prog.funcs[86]? = some fn ∧ (fn.name == "runtime.NumGoroutine") = false ∧ fn.body.isNone = false) := ⟨_, Try.func86, by kernel_rfl, rfl⟩
@[go_sem] theorem isF87 : (∃ fn, Try.prog.funcs[87]? = some fn ∧ (fn.name == "runtime.NumGoroutine") = false ∧ fn.body.isNone = false) := ⟨_, Try.func87, by kernel_rfl, rfl⟩
@[go_sem] theorem isF88 : (∃ fn, Try.prog.funcs[88]? = some fn ∧ (fn.name == "runtime.NumGoroutine") = false ∧ fn.body.isNone = false) := ⟨_, Try.func88, by kernel_rfl, rfl⟩
@[go_sem] theorem isF89 : (∃ fn, Try.prog.funcs[89]? = some fn ∧ (fn.name == "runtime.NumGoroutine") = false ∧ fn.body.isNone = false) := ⟨_, Try.func89, by kernel_rfl, rfl⟩
@[go_sem] theorem isF90 : (∃ fn, Try.prog.funcs[90]? = some fn ∧ (fn.name == "runtime.NumGoroutine") = false ∧ fn.body.isNone = false) := ⟨_, Try.func90, by kernel_rfl, rfl⟩
@[go_sem] theorem isF91 : (∃ fn, Try.prog.funcs[91]? = some fn ∧ (fn.name == "runtime.NumGoroutine") = false ∧ fn.body.isNone = false) := ⟨_, Try.func91, by kernel_rfl, rfl⟩
@[go_sem] theorem isF92 : (∃ fn, Try.prog.funcs[92]? = some fn ∧ (fn.name == "runtime.NumGoroutine") = false ∧ fn.body.isNone = false) := ⟨_, Try.func92, by kernel_rfl, rfl⟩
@[go_sem] theorem isF93 : (∃ fn, Try.prog.funcs[93]? = some fn ∧ (fn.name == "runtime.NumGoroutine") = false ∧ fn.body.isNone = false) := ⟨_, Try.func93, by kernel_rfl, rfl⟩
@[go_sem] theorem isF94 : (∃ fn, Try.prog.funcs[94]? = some fn ∧ (fn.name == "runtime.NumGoroutine") = false ∧ fn.body.isNone = false) := ⟨_, Try.func94, by kernel_rfl, rfl⟩
@[go_sem] theorem isF95 : (∃ fn, Try.prog.funcs[95]? = some fn ∧ (fn.name == "runtime.NumGoroutine") = false ∧ fn.body.isNone = false) := ⟨_, Try.func95, by kernel_rfl, rfl⟩
@[go_sem] theorem isF96 : (∃ fn, Try.prog.funcs[96]? = some fn ∧ (fn.name == "runtime.NumGoroutine") = false ∧ fn.body.isNone = false) := ⟨_, Try.func96, by kernel_rfl, rfl⟩
@[go_sem] theorem isF97 : (∃ fn, Try.prog.funcs[97]? = some fn ∧ (fn.name == "runtime.NumGoroutine") = false ∧ fn.body.isNone = false) := ⟨_, Try.func97, by kernel_rfl, rfl⟩
@[go_sem] theorem isF98 : (∃ fn, Try.prog.funcs[98]? = some fn ∧ (fn.name == "runtime.NumGoroutine") = false ∧ fn.body.isNone = false) := ⟨_, Try.func98, by kernel_rfl, rfl⟩
end Go.Proofs.Ytkkhmngmhckgbaa
