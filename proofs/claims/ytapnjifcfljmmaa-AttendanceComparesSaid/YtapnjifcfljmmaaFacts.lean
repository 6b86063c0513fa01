/- Closed facts on the types and functions of this seat: written by program (facts.py), each checked by the kernel. -/
import Derived.Test.YtapnjifcfljmmaaProg
import Derived.Test.YtapnjifcfljmmaaLt
import Derived.Test.YtapnjifcfljmmaaLx
namespace Go.Proofs.Ytapnjifcfljmmaa
open Go.L

/- 3: int -/
@[go_sem] theorem ts3 : tsize Try.prog 3 = 1 := by kernel_rfl
@[go_sem] theorem ta3 : tagg Try.prog 3 = false := by kernel_rfl
@[go_sem] theorem tk3 : tok Try.prog 3 = true := by kernel_rfl
@[go_sem] theorem ti3 : tint Try.prog 3 = some .i64 := by kernel_rfl
@[go_sem] theorem tz3 : tzero Try.prog 3 = some (.int .i64 0) := by kernel_rfl
@[go_sem] theorem tr3 : trow Try.prog 3 = true := by kernel_rfl
/- 4: bool -/
@[go_sem] theorem ts4 : tsize Try.prog 4 = 1 := by kernel_rfl
@[go_sem] theorem ta4 : tagg Try.prog 4 = false := by kernel_rfl
@[go_sem] theorem tk4 : tok Try.prog 4 = true := by kernel_rfl
@[go_sem] theorem tb4 : tbool Try.prog 4 = true := by kernel_rfl
@[go_sem] theorem tz4 : tzero Try.prog 4 = some (.bool false) := by kernel_rfl
@[go_sem] theorem tr4 : trow Try.prog 4 = true := by kernel_rfl
/- 22: []int -/
@[go_sem] theorem ts22 : tsize Try.prog 22 = 1 := by kernel_rfl
@[go_sem] theorem ta22 : tagg Try.prog 22 = false := by kernel_rfl
@[go_sem] theorem tk22 : tok Try.prog 22 = true := by kernel_rfl
@[go_sem] theorem te22 : telem Try.prog 22 = some 3 := by kernel_rfl
@[go_sem] theorem tz22 : tzero Try.prog 22 = some (.nil) := by kernel_rfl
@[go_sem] theorem tr22 : trow Try.prog 22 = true := by kernel_rfl
/- 23: *awardingbodymake.Tape -/
@[go_sem] theorem ts23 : tsize Try.prog 23 = 1 := by kernel_rfl
@[go_sem] theorem ta23 : tagg Try.prog 23 = false := by kernel_rfl
@[go_sem] theorem tk23 : tok Try.prog 23 = true := by kernel_rfl
@[go_sem] theorem tz23 : tzero Try.prog 23 = some (.nilp) := by kernel_rfl
@[go_sem] theorem tr23 : trow Try.prog 23 = true := by kernel_rfl
/- 25: []api.RegisterEvent -/
@[go_sem] theorem ts25 : tsize Try.prog 25 = 1 := by kernel_rfl
@[go_sem] theorem ta25 : tagg Try.prog 25 = false := by kernel_rfl
@[go_sem] theorem tk25 : tok Try.prog 25 = true := by kernel_rfl
@[go_sem] theorem te25 : telem Try.prog 25 = some 33 := by kernel_rfl
@[go_sem] theorem tz25 : tzero Try.prog 25 = some (.nil) := by kernel_rfl
@[go_sem] theorem tr25 : trow Try.prog 25 = true := by kernel_rfl
/- 27: api.Errno -/
@[go_sem] theorem ts27 : tsize Try.prog 27 = 1 := by kernel_rfl
@[go_sem] theorem ta27 : tagg Try.prog 27 = false := by kernel_rfl
@[go_sem] theorem tk27 : tok Try.prog 27 = true := by kernel_rfl
@[go_sem] theorem ti27 : tint Try.prog 27 = some .i64 := by kernel_rfl
@[go_sem] theorem tz27 : tzero Try.prog 27 = some (.int .i64 0) := by kernel_rfl
@[go_sem] theorem tr27 : trow Try.prog 27 = true := by kernel_rfl
/- 31: api.Stamp -/
@[go_sem] theorem ts31 : tsize Try.prog 31 = 3 := by kernel_rfl
@[go_sem] theorem ta31 : tagg Try.prog 31 = true := by kernel_rfl
@[go_sem] theorem tk31 : tok Try.prog 31 = true := by kernel_rfl
@[go_sem] theorem tz31 : tzero Try.prog 31 = some (.agg [.int .i64 0, .int .i64 0, .int .i64 0]) := by kernel_rfl
@[go_sem] theorem tr31 : trow Try.prog 31 = true := by kernel_rfl
@[go_sem] theorem tu31 : tbuild Try.prog 31 = true := by kernel_rfl
@[go_sem] theorem tf31_0 : tfield Try.prog 31 0 = some (0, 3) := by kernel_rfl
@[go_sem] theorem tf31_1 : tfield Try.prog 31 1 = some (1, 3) := by kernel_rfl
@[go_sem] theorem tf31_2 : tfield Try.prog 31 2 = some (2, 3) := by kernel_rfl
/- 33: api.RegisterEvent -/
@[go_sem] theorem ts33 : tsize Try.prog 33 = 6 := by kernel_rfl
@[go_sem] theorem ta33 : tagg Try.prog 33 = true := by kernel_rfl
@[go_sem] theorem tk33 : tok Try.prog 33 = true := by kernel_rfl
@[go_sem] theorem tz33 : tzero Try.prog 33 = some (.agg [.int .i64 0, .int .i64 0, .int .i64 0, .int .i64 0, .int .i64 0, .int .i64 0]) := by kernel_rfl
@[go_sem] theorem tr33 : trow Try.prog 33 = true := by kernel_rfl
@[go_sem] theorem tu33 : tbuild Try.prog 33 = true := by kernel_rfl
@[go_sem] theorem tf33_0 : tfield Try.prog 33 0 = some (0, 31) := by kernel_rfl
@[go_sem] theorem tf33_1 : tfield Try.prog 33 1 = some (3, 3) := by kernel_rfl
@[go_sem] theorem tf33_2 : tfield Try.prog 33 2 = some (4, 3) := by kernel_rfl
@[go_sem] theorem tf33_3 : tfield Try.prog 33 3 = some (5, 3) := by kernel_rfl
/- 35: func(api.RegisterEvent, api.RegisterEvent) bool -/
@[go_sem] theorem ts35 : tsize Try.prog 35 = 1 := by kernel_rfl
@[go_sem] theorem ta35 : tagg Try.prog 35 = false := by kernel_rfl
@[go_sem] theorem tk35 : tok Try.prog 35 = true := by kernel_rfl
@[go_sem] theorem tz35 : tzero Try.prog 35 = some (.nilf) := by kernel_rfl
@[go_sem] theorem tr35 : trow Try.prog 35 = true := by kernel_rfl
/- 38: []api.Enrolment -/
@[go_sem] theorem ts38 : tsize Try.prog 38 = 1 := by kernel_rfl
@[go_sem] theorem ta38 : tagg Try.prog 38 = false := by kernel_rfl
@[go_sem] theorem tk38 : tok Try.prog 38 = true := by kernel_rfl
@[go_sem] theorem te38 : telem Try.prog 38 = some 44 := by kernel_rfl
@[go_sem] theorem tz38 : tzero Try.prog 38 = some (.nil) := by kernel_rfl
@[go_sem] theorem tr38 : trow Try.prog 38 = true := by kernel_rfl
/- 40: func(int, int) int -/
@[go_sem] theorem ts40 : tsize Try.prog 40 = 1 := by kernel_rfl
@[go_sem] theorem ta40 : tagg Try.prog 40 = false := by kernel_rfl
@[go_sem] theorem tk40 : tok Try.prog 40 = true := by kernel_rfl
@[go_sem] theorem tz40 : tzero Try.prog 40 = some (.nilf) := by kernel_rfl
@[go_sem] theorem tr40 : trow Try.prog 40 = true := by kernel_rfl
/- 42: api.Entry -/
@[go_sem] theorem ts42 : tsize Try.prog 42 = 3 := by kernel_rfl
@[go_sem] theorem ta42 : tagg Try.prog 42 = true := by kernel_rfl
@[go_sem] theorem tk42 : tok Try.prog 42 = true := by kernel_rfl
@[go_sem] theorem tz42 : tzero Try.prog 42 = some (.agg [.int .i64 0, .int .i64 0, .int .i64 0]) := by kernel_rfl
@[go_sem] theorem tr42 : trow Try.prog 42 = true := by kernel_rfl
@[go_sem] theorem tu42 : tbuild Try.prog 42 = true := by kernel_rfl
@[go_sem] theorem tf42_0 : tfield Try.prog 42 0 = some (0, 3) := by kernel_rfl
@[go_sem] theorem tf42_1 : tfield Try.prog 42 1 = some (1, 3) := by kernel_rfl
@[go_sem] theorem tf42_2 : tfield Try.prog 42 2 = some (2, 3) := by kernel_rfl
/- 44: api.Enrolment -/
@[go_sem] theorem ts44 : tsize Try.prog 44 = 4 := by kernel_rfl
@[go_sem] theorem ta44 : tagg Try.prog 44 = true := by kernel_rfl
@[go_sem] theorem tk44 : tok Try.prog 44 = true := by kernel_rfl
@[go_sem] theorem tz44 : tzero Try.prog 44 = some (.agg [.int .i64 0, .int .i64 0, .int .i64 0, .bool false]) := by kernel_rfl
@[go_sem] theorem tr44 : trow Try.prog 44 = true := by kernel_rfl
@[go_sem] theorem tu44 : tbuild Try.prog 44 = true := by kernel_rfl
@[go_sem] theorem tf44_0 : tfield Try.prog 44 0 = some (0, 42) := by kernel_rfl
@[go_sem] theorem tf44_1 : tfield Try.prog 44 1 = some (3, 4) := by kernel_rfl
/- 47: []api.Attendance -/
@[go_sem] theorem ts47 : tsize Try.prog 47 = 1 := by kernel_rfl
@[go_sem] theorem ta47 : tagg Try.prog 47 = false := by kernel_rfl
@[go_sem] theorem tk47 : tok Try.prog 47 = true := by kernel_rfl
@[go_sem] theorem te47 : telem Try.prog 47 = some 54 := by kernel_rfl
@[go_sem] theorem tz47 : tzero Try.prog 47 = some (.nil) := by kernel_rfl
@[go_sem] theorem tr47 : trow Try.prog 47 = true := by kernel_rfl
/- 48: []api.Refusal -/
@[go_sem] theorem ts48 : tsize Try.prog 48 = 1 := by kernel_rfl
@[go_sem] theorem ta48 : tagg Try.prog 48 = false := by kernel_rfl
@[go_sem] theorem tk48 : tok Try.prog 48 = true := by kernel_rfl
@[go_sem] theorem te48 : telem Try.prog 48 = some 58 := by kernel_rfl
@[go_sem] theorem tz48 : tzero Try.prog 48 = some (.nil) := by kernel_rfl
@[go_sem] theorem tr48 : trow Try.prog 48 = true := by kernel_rfl
/- 54: api.Attendance -/
@[go_sem] theorem ts54 : tsize Try.prog 54 = 5 := by kernel_rfl
@[go_sem] theorem ta54 : tagg Try.prog 54 = true := by kernel_rfl
@[go_sem] theorem tk54 : tok Try.prog 54 = true := by kernel_rfl
@[go_sem] theorem tz54 : tzero Try.prog 54 = some (.agg [.int .i64 0, .int .i64 0, .int .i64 0, .int .i64 0, .nil]) := by kernel_rfl
@[go_sem] theorem tr54 : trow Try.prog 54 = true := by kernel_rfl
@[go_sem] theorem tu54 : tbuild Try.prog 54 = true := by kernel_rfl
@[go_sem] theorem tf54_0 : tfield Try.prog 54 0 = some (0, 3) := by kernel_rfl
@[go_sem] theorem tf54_1 : tfield Try.prog 54 1 = some (1, 3) := by kernel_rfl
@[go_sem] theorem tf54_2 : tfield Try.prog 54 2 = some (2, 3) := by kernel_rfl
@[go_sem] theorem tf54_3 : tfield Try.prog 54 3 = some (3, 3) := by kernel_rfl
@[go_sem] theorem tf54_4 : tfield Try.prog 54 4 = some (4, 22) := by kernel_rfl
/- 56: api.Identity -/
@[go_sem] theorem ts56 : tsize Try.prog 56 = 2 := by kernel_rfl
@[go_sem] theorem ta56 : tagg Try.prog 56 = true := by kernel_rfl
@[go_sem] theorem tk56 : tok Try.prog 56 = true := by kernel_rfl
@[go_sem] theorem tz56 : tzero Try.prog 56 = some (.agg [.int .i64 0, .int .i64 0]) := by kernel_rfl
@[go_sem] theorem tr56 : trow Try.prog 56 = true := by kernel_rfl
@[go_sem] theorem tu56 : tbuild Try.prog 56 = true := by kernel_rfl
@[go_sem] theorem tf56_0 : tfield Try.prog 56 0 = some (0, 3) := by kernel_rfl
@[go_sem] theorem tf56_1 : tfield Try.prog 56 1 = some (1, 3) := by kernel_rfl
/- 58: api.Refusal -/
@[go_sem] theorem ts58 : tsize Try.prog 58 = 3 := by kernel_rfl
@[go_sem] theorem ta58 : tagg Try.prog 58 = true := by kernel_rfl
@[go_sem] theorem tk58 : tok Try.prog 58 = true := by kernel_rfl
@[go_sem] theorem tz58 : tzero Try.prog 58 = some (.agg [.int .i64 0, .int .i64 0, .int .i64 0]) := by kernel_rfl
@[go_sem] theorem tr58 : trow Try.prog 58 = true := by kernel_rfl
@[go_sem] theorem tu58 : tbuild Try.prog 58 = true := by kernel_rfl
@[go_sem] theorem tf58_0 : tfield Try.prog 58 0 = some (0, 56) := by kernel_rfl
@[go_sem] theorem tf58_1 : tfield Try.prog 58 1 = some (2, 27) := by kernel_rfl
/- 70: awardingbodymake.Tape -/
@[go_sem] theorem ts70 : tsize Try.prog 70 = 2 := by kernel_rfl
@[go_sem] theorem ta70 : tagg Try.prog 70 = true := by kernel_rfl
@[go_sem] theorem tk70 : tok Try.prog 70 = true := by kernel_rfl
@[go_sem] theorem tz70 : tzero Try.prog 70 = some (.agg [.nil, .int .i64 0]) := by kernel_rfl
@[go_sem] theorem tr70 : trow Try.prog 70 = true := by kernel_rfl
@[go_sem] theorem tu70 : tbuild Try.prog 70 = true := by kernel_rfl
@[go_sem] theorem tf70_0 : tfield Try.prog 70 0 = some (0, 22) := by kernel_rfl
@[go_sem] theorem tf70_1 : tfield Try.prog 70 1 = some (1, 3) := by kernel_rfl
/- 77: func(api.RegisterEvent) api.Stamp -/
@[go_sem] theorem ts77 : tsize Try.prog 77 = 1 := by kernel_rfl
@[go_sem] theorem ta77 : tagg Try.prog 77 = false := by kernel_rfl
@[go_sem] theorem tk77 : tok Try.prog 77 = true := by kernel_rfl
@[go_sem] theorem tz77 : tzero Try.prog 77 = some (.nilf) := by kernel_rfl
@[go_sem] theorem tr77 : trow Try.prog 77 = true := by kernel_rfl
/- 78: []api.Stamp -/
@[go_sem] theorem ts78 : tsize Try.prog 78 = 1 := by kernel_rfl
@[go_sem] theorem ta78 : tagg Try.prog 78 = false := by kernel_rfl
@[go_sem] theorem tk78 : tok Try.prog 78 = true := by kernel_rfl
@[go_sem] theorem te78 : telem Try.prog 78 = some 31 := by kernel_rfl
@[go_sem] theorem tz78 : tzero Try.prog 78 = some (.nil) := by kernel_rfl
@[go_sem] theorem tr78 : trow Try.prog 78 = true := by kernel_rfl
/- 90: func(api.Enrolment, int) int -/
@[go_sem] theorem ts90 : tsize Try.prog 90 = 1 := by kernel_rfl
@[go_sem] theorem ta90 : tagg Try.prog 90 = false := by kernel_rfl
@[go_sem] theorem tk90 : tok Try.prog 90 = true := by kernel_rfl
@[go_sem] theorem tz90 : tzero Try.prog 90 = some (.nilf) := by kernel_rfl
@[go_sem] theorem tr90 : trow Try.prog 90 = true := by kernel_rfl
/- 91: *api.Attendance -/
@[go_sem] theorem ts91 : tsize Try.prog 91 = 1 := by kernel_rfl
@[go_sem] theorem ta91 : tagg Try.prog 91 = false := by kernel_rfl
@[go_sem] theorem tk91 : tok Try.prog 91 = true := by kernel_rfl
@[go_sem] theorem tz91 : tzero Try.prog 91 = some (.nilp) := by kernel_rfl
@[go_sem] theorem tr91 : trow Try.prog 91 = true := by kernel_rfl
/- 93: attendance.register -/
@[go_sem] theorem ts93 : tsize Try.prog 93 = 1 := by kernel_rfl
@[go_sem] theorem ta93 : tagg Try.prog 93 = true := by kernel_rfl
@[go_sem] theorem tk93 : tok Try.prog 93 = true := by kernel_rfl
@[go_sem] theorem tz93 : tzero Try.prog 93 = some (.agg [.nilp]) := by kernel_rfl
@[go_sem] theorem tr93 : trow Try.prog 93 = true := by kernel_rfl
@[go_sem] theorem tu93 : tbuild Try.prog 93 = true := by kernel_rfl
@[go_sem] theorem tf93_0 : tfield Try.prog 93 0 = some (0, 91) := by kernel_rfl
/- 96: []stamp.group -/
@[go_sem] theorem ts96 : tsize Try.prog 96 = 1 := by kernel_rfl
@[go_sem] theorem ta96 : tagg Try.prog 96 = false := by kernel_rfl
@[go_sem] theorem tk96 : tok Try.prog 96 = true := by kernel_rfl
@[go_sem] theorem te96 : telem Try.prog 96 = some 99 := by kernel_rfl
@[go_sem] theorem tz96 : tzero Try.prog 96 = some (.nil) := by kernel_rfl
@[go_sem] theorem tr96 : trow Try.prog 96 = true := by kernel_rfl
/- 99: stamp.group -/
@[go_sem] theorem ts99 : tsize Try.prog 99 = 2 := by kernel_rfl
@[go_sem] theorem ta99 : tagg Try.prog 99 = true := by kernel_rfl
@[go_sem] theorem tk99 : tok Try.prog 99 = true := by kernel_rfl
@[go_sem] theorem tz99 : tzero Try.prog 99 = some (.agg [.int .i64 0, .bool false]) := by kernel_rfl
@[go_sem] theorem tr99 : trow Try.prog 99 = true := by kernel_rfl
@[go_sem] theorem tu99 : tbuild Try.prog 99 = true := by kernel_rfl
@[go_sem] theorem tf99_0 : tfield Try.prog 99 0 = some (0, 3) := by kernel_rfl
@[go_sem] theorem tf99_1 : tfield Try.prog 99 1 = some (1, 4) := by kernel_rfl
/- 103: uint -/
@[go_sem] theorem ts103 : tsize Try.prog 103 = 1 := by kernel_rfl
@[go_sem] theorem ta103 : tagg Try.prog 103 = false := by kernel_rfl
@[go_sem] theorem tk103 : tok Try.prog 103 = true := by kernel_rfl
@[go_sem] theorem ti103 : tint Try.prog 103 = some .u64 := by kernel_rfl
@[go_sem] theorem tz103 : tzero Try.prog 103 = some (.int .u64 0) := by kernel_rfl
@[go_sem] theorem tr103 : trow Try.prog 103 = true := by kernel_rfl
/- 104: func(int) api.Errno -/
@[go_sem] theorem ts104 : tsize Try.prog 104 = 1 := by kernel_rfl
@[go_sem] theorem ta104 : tagg Try.prog 104 = false := by kernel_rfl
@[go_sem] theorem tk104 : tok Try.prog 104 = true := by kernel_rfl
@[go_sem] theorem tz104 : tzero Try.prog 104 = some (.nilf) := by kernel_rfl
@[go_sem] theorem tr104 : trow Try.prog 104 = true := by kernel_rfl
/- 105: [6]func(int) api.Errno -/
@[go_sem] theorem ts105 : tsize Try.prog 105 = 6 := by kernel_rfl
@[go_sem] theorem ta105 : tagg Try.prog 105 = true := by kernel_rfl
@[go_sem] theorem tk105 : tok Try.prog 105 = true := by kernel_rfl
@[go_sem] theorem ty105 : tarr Try.prog 105 = some (6, 104) := by kernel_rfl
@[go_sem] theorem tz105 : tzero Try.prog 105 = some (.agg [.nilf, .nilf, .nilf, .nilf, .nilf, .nilf]) := by kernel_rfl
@[go_sem] theorem tr105 : trow Try.prog 105 = true := by kernel_rfl
/- 110: slices.sortedHint -/
@[go_sem] theorem ts110 : tsize Try.prog 110 = 1 := by kernel_rfl
@[go_sem] theorem ta110 : tagg Try.prog 110 = false := by kernel_rfl
@[go_sem] theorem tk110 : tok Try.prog 110 = true := by kernel_rfl
@[go_sem] theorem ti110 : tint Try.prog 110 = some .i64 := by kernel_rfl
@[go_sem] theorem tz110 : tzero Try.prog 110 = some (.int .i64 0) := by kernel_rfl
@[go_sem] theorem tr110 : trow Try.prog 110 = true := by kernel_rfl
/- 120: slices.xorshift -/
@[go_sem] theorem ts120 : tsize Try.prog 120 = 1 := by kernel_rfl
@[go_sem] theorem ta120 : tagg Try.prog 120 = false := by kernel_rfl
@[go_sem] theorem tk120 : tok Try.prog 120 = true := by kernel_rfl
@[go_sem] theorem ti120 : tint Try.prog 120 = some .u64 := by kernel_rfl
@[go_sem] theorem tz120 : tzero Try.prog 120 = some (.int .u64 0) := by kernel_rfl
@[go_sem] theorem tr120 : trow Try.prog 120 = true := by kernel_rfl
/- 124: *int -/
@[go_sem] theorem ts124 : tsize Try.prog 124 = 1 := by kernel_rfl
@[go_sem] theorem ta124 : tagg Try.prog 124 = false := by kernel_rfl
@[go_sem] theorem tk124 : tok Try.prog 124 = true := by kernel_rfl
@[go_sem] theorem tz124 : tzero Try.prog 124 = some (.nilp) := by kernel_rfl
@[go_sem] theorem tr124 : trow Try.prog 124 = true := by kernel_rfl
theorem mixed : Try.prog.follows .mixedOrders = true := by kernel_rfl
@[go_sem] theorem isF3 : (∃ fn, Try.prog.funcs[3]? = some fn ∧ (fn.name == "runtime.NumGoroutine") = false ∧ fn.body.isNone = false) := ⟨_, Try.func3, by kernel_rfl, rfl⟩
@[go_sem] theorem isF4 : (∃ fn, Try.prog.funcs[4]? = some fn ∧ (fn.name == "runtime.NumGoroutine") = false ∧ fn.body.isNone = false) := ⟨_, Try.func4, by kernel_rfl, rfl⟩
@[go_sem] theorem isF5 : (∃ fn, Try.prog.funcs[5]? = some fn ∧ (fn.name == "runtime.NumGoroutine") = false ∧ fn.body.isNone = false) := ⟨_, Try.func5, by kernel_rfl, rfl⟩
@[go_sem] theorem isF6 : (∃ fn, Try.prog.funcs[6]? = some fn ∧ (fn.name == "runtime.NumGoroutine") = false ∧ fn.body.isNone = false) := ⟨_, Try.func6, by kernel_rfl, rfl⟩
@[go_sem] theorem isF7 : (∃ fn, Try.prog.funcs[7]? = some fn ∧ (fn.name == "runtime.NumGoroutine") = false ∧ fn.body.isNone = false) := ⟨_, Try.func7, by kernel_rfl, rfl⟩
@[go_sem] theorem isF8 : (∃ fn, Try.prog.funcs[8]? = some fn ∧ (fn.name == "runtime.NumGoroutine") = false ∧ fn.body.isNone = false) := ⟨_, Try.func8, by kernel_rfl, rfl⟩
@[go_sem] theorem isF9 : (∃ fn, Try.prog.funcs[9]? = some fn ∧ (fn.name == "runtime.NumGoroutine") = false ∧ fn.body.isNone = false) := ⟨_, Try.func9, by kernel_rfl, rfl⟩
@[go_sem] theorem isF10 : (∃ fn, Try.prog.funcs[10]? = some fn ∧ (fn.name == "runtime.NumGoroutine") = false ∧ fn.body.isNone = false) := ⟨_, Try.func10, by kernel_rfl, rfl⟩
@[go_sem] theorem isF11 : (∃ fn, Try.prog.funcs[11]? = some fn ∧ (fn.name == "runtime.NumGoroutine") = false ∧ fn.body.isNone = false) := ⟨_, Try.func11, by kernel_rfl, rfl⟩
@[go_sem] theorem isF12 : (∃ fn, Try.prog.funcs[12]? = some fn ∧ (fn.name == "runtime.NumGoroutine") = false ∧ fn.body.isNone = false) := ⟨_, Try.func12, by kernel_rfl, rfl⟩
@[go_sem] theorem isF13 : (∃ fn, Try.prog.funcs[13]? = some fn ∧ (fn.name == "runtime.NumGoroutine") = false ∧ fn.body.isNone = false) := ⟨_, Try.func13, by kernel_rfl, rfl⟩
@[go_sem] theorem isF14 : (∃ fn, Try.prog.funcs[14]? = some fn ∧ (fn.name == "runtime.NumGoroutine") = false ∧ fn.body.isNone = false) := ⟨_, Try.func14, by kernel_rfl, rfl⟩
@[go_sem] theorem isF15 : (∃ fn, Try.prog.funcs[15]? = some fn ∧ (fn.name == "runtime.NumGoroutine") = false ∧ fn.body.isNone = false) := ⟨_, Try.func15, by kernel_rfl, rfl⟩
@[go_sem] theorem isF16 : (∃ fn, Try.prog.funcs[16]? = some fn ∧ (fn.name == "runtime.NumGoroutine") = false ∧ fn.body.isNone = false) := ⟨_, Try.func16, by kernel_rfl, rfl⟩
@[go_sem] theorem isF17 : (∃ fn, Try.prog.funcs[17]? = some fn ∧ (fn.name == "runtime.NumGoroutine") = false ∧ fn.body.isNone = false) := ⟨_, Try.func17, by kernel_rfl, rfl⟩
@[go_sem] theorem isF18 : (∃ fn, Try.prog.funcs[18]? = some fn ∧ (fn.name == "runtime.NumGoroutine") = false ∧ fn.body.isNone = false) := ⟨_, Try.func18, by kernel_rfl, rfl⟩
@[go_sem] theorem isF19 : (∃ fn, Try.prog.funcs[19]? = some fn ∧ (fn.name == "runtime.NumGoroutine") = false ∧ fn.body.isNone = false) := ⟨_, Try.func19, by kernel_rfl, rfl⟩
@[go_sem] theorem isF20 : (∃ fn, Try.prog.funcs[20]? = some fn ∧ (fn.name == "runtime.NumGoroutine") = false ∧ fn.body.isNone = false) := ⟨_, Try.func20, by kernel_rfl, rfl⟩
@[go_sem] theorem isF21 : (∃ fn, Try.prog.funcs[21]? = some fn ∧ (fn.name == "runtime.NumGoroutine") = false ∧ fn.body.isNone = false) := ⟨_, Try.func21, by kernel_rfl, rfl⟩
@[go_sem] theorem isF22 : (∃ fn, Try.prog.funcs[22]? = some fn ∧ (fn.name == "runtime.NumGoroutine") = false ∧ fn.body.isNone = false) := ⟨_, Try.func22, by kernel_rfl, rfl⟩
@[go_sem] theorem isF23 : (∃ fn, Try.prog.funcs[23]? = some fn ∧ (fn.name == "runtime.NumGoroutine") = false ∧ fn.body.isNone = false) := ⟨_, Try.func23, by kernel_rfl, rfl⟩
@[go_sem] theorem isF24 : (∃ fn, Try.prog.funcs[24]? = some fn ∧ (fn.name == "runtime.NumGoroutine") = false ∧ fn.body.isNone = false) := ⟨_, Try.func24, by kernel_rfl, rfl⟩
@[go_sem] theorem isF25 : (∃ fn, Try.prog.funcs[25]? = some fn ∧ (fn.name == "runtime.NumGoroutine") = false ∧ fn.body.isNone = false) := ⟨_, Try.func25, by kernel_rfl, rfl⟩
@[go_sem] theorem isF26 : (∃ fn, Try.prog.funcs[26]? = some fn ∧ (fn.name == "runtime.NumGoroutine") = false ∧ fn.body.isNone = false) := ⟨_, Try.func26, by kernel_rfl, rfl⟩
@[go_sem] theorem isF27 : (∃ fn, Try.prog.funcs[27]? = some fn ∧ (fn.name == "runtime.NumGoroutine") = false ∧ fn.body.isNone = false) := ⟨_, Try.func27, by kernel_rfl, rfl⟩
@[go_sem] theorem isF28 : (∃ fn, Try.prog.funcs[28]? = some fn ∧ (fn.name == "runtime.NumGoroutine") = false ∧ fn.body.isNone = false) := ⟨_, Try.func28, by kernel_rfl, rfl⟩
@[go_sem] theorem isF29 : (∃ fn, Try.prog.funcs[29]? = some fn ∧ (fn.name == "runtime.NumGoroutine") = false ∧ fn.body.isNone = false) := ⟨_, Try.func29, by kernel_rfl, rfl⟩
@[go_sem] theorem isF30 : (∃ fn, Try.prog.funcs[30]? = some fn ∧ (fn.name == "runtime.NumGoroutine") = false ∧ fn.body.isNone = false) := ⟨_, Try.func30, by kernel_rfl, rfl⟩
@[go_sem] theorem isF31 : (∃ fn, Try.prog.funcs[31]? = some fn ∧ (fn.name == "runtime.NumGoroutine") = false ∧ fn.body.isNone = false) := ⟨_, Try.func31, by kernel_rfl, rfl⟩
@[go_sem] theorem isF32 : (∃ fn, Try.prog.funcs[32]? = some fn ∧ (fn.name == "runtime.NumGoroutine") = false ∧ fn.body.isNone = false) := ⟨_, Try.func32, by kernel_rfl, rfl⟩
@[go_sem] theorem isF33 : (∃ fn, Try.prog.funcs[33]? = some fn ∧ (fn.name == "runtime.NumGoroutine") = false ∧ fn.body.isNone = false) := ⟨_, Try.func33, by kernel_rfl, rfl⟩
@[go_sem] theorem isF34 : (∃ fn, Try.prog.funcs[34]? = some fn ∧ (fn.name == "runtime.NumGoroutine") = false ∧ fn.body.isNone = false) := ⟨_, Try.func34, by kernel_rfl, rfl⟩
@[go_sem] theorem isF35 : (∃ fn, Try.prog.funcs[35]? = some fn ∧ (fn.name == "runtime.NumGoroutine") = false ∧ fn.body.isNone = false) := ⟨_, Try.func35, by kernel_rfl, rfl⟩
@[go_sem] theorem isF36 : (∃ fn, Try.prog.funcs[36]? = some fn ∧ (fn.name == "runtime.NumGoroutine") = false ∧ fn.body.isNone = false) := ⟨_, Try.func36, by kernel_rfl, rfl⟩
@[go_sem] theorem isF37 : (∃ fn, Try.prog.funcs[37]? = some fn ∧ (fn.name == "runtime.NumGoroutine") = false ∧ fn.body.isNone = false) := ⟨_, Try.func37, by kernel_rfl, rfl⟩
@[go_sem] theorem isF38 : (∃ fn, Try.prog.funcs[38]? = some fn ∧ (fn.name == "runtime.NumGoroutine") = false ∧ fn.body.isNone = false) := ⟨_, Try.func38, by kernel_rfl, rfl⟩
@[go_sem] theorem isF39 : (∃ fn, Try.prog.funcs[39]? = some fn ∧ (fn.name == "runtime.NumGoroutine") = false ∧ fn.body.isNone = false) := ⟨_, Try.func39, by kernel_rfl, rfl⟩
@[go_sem] theorem isF40 : (∃ fn, Try.prog.funcs[40]? = some fn ∧ (fn.name == "runtime.NumGoroutine") = false ∧ fn.body.isNone = false) := ⟨_, Try.func40, by kernel_rfl, rfl⟩
@[go_sem] theorem isF41 : (∃ fn, Try.prog.funcs[41]? = some fn ∧ (fn.name == "runtime.NumGoroutine") = false ∧ fn.body.isNone = false) := ⟨_, Try.func41, by kernel_rfl, rfl⟩
@[go_sem] theorem isF42 : (∃ fn, Try.prog.funcs[42]? = some fn ∧ (fn.name == "runtime.NumGoroutine") = false ∧ fn.body.isNone = false) := ⟨_, Try.func42, by kernel_rfl, rfl⟩
@[go_sem] theorem isF43 : (∃ fn, Try.prog.funcs[43]? = some fn ∧ (fn.name == "runtime.NumGoroutine") = false ∧ fn.body.isNone = false) := ⟨_, Try.func43, by kernel_rfl, rfl⟩
@[go_sem] theorem isF44 : (∃ fn, Try.prog.funcs[44]? = some fn ∧ (fn.name == "runtime.NumGoroutine") = false ∧ fn.body.isNone = false) := ⟨_, Try.func44, by kernel_rfl, rfl⟩
@[go_sem] theorem isF45 : (∃ fn, Try.prog.funcs[45]? = some fn ∧ (fn.name == "runtime.NumGoroutine") = false ∧ fn.body.isNone = false) := ⟨_, Try.func45, by kernel_rfl, rfl⟩
@[go_sem] theorem isF46 : (∃ fn, Try.prog.funcs[46]? = some fn ∧ (fn.name == "runtime.NumGoroutine") = false ∧ fn.body.isNone = false) := ⟨_, Try.func46, by kernel_rfl, rfl⟩
@[go_sem] theorem isF47 : (∃ fn, Try.prog.funcs[47]? = some fn ∧ (fn.name == "runtime.NumGoroutine") = false ∧ fn.body.isNone = false) := ⟨_, Try.func47, by kernel_rfl, rfl⟩
@[go_sem] theorem isF48 : (∃ fn, Try.prog.funcs[48]? = some fn ∧ (fn.name == "runtime.NumGoroutine") = false ∧ fn.body.isNone = false) := ⟨_, Try.func48, by kernel_rfl, rfl⟩
@[go_sem] theorem isF49 : (∃ fn, Try.prog.funcs[49]? = some fn ∧ (fn.name == "runtime.NumGoroutine") = false ∧ fn.body.isNone = false) := ⟨_, Try.func49, by kernel_rfl, rfl⟩
@[go_sem] theorem isF50 : (∃ fn, Try.prog.funcs[50]? = some fn ∧ (fn.name == "runtime.NumGoroutine") = false ∧ fn.body.isNone = false) := ⟨_, Try.func50, by kernel_rfl, rfl⟩
@[go_sem] theorem isF51 : (∃ fn, Try.prog.funcs[51]? = some fn ∧ (fn.name == "runtime.NumGoroutine") = false ∧ fn.body.isNone = false) := ⟨_, Try.func51, by kernel_rfl, rfl⟩
@[go_sem] theorem isF52 : (∃ fn, Try.prog.funcs[52]? = some fn ∧ (fn.name == "runtime.NumGoroutine") = false ∧ fn.body.isNone = false) := ⟨_, Try.func52, by kernel_rfl, rfl⟩
@[go_sem] theorem isF53 : (∃ fn, Try.prog.funcs[53]? = some fn ∧ (fn.name == "runtime.NumGoroutine") = false ∧ fn.body.isNone = false) := ⟨_, Try.func53, by kernel_rfl, rfl⟩
@[go_sem] theorem isF54 : (∃ fn, Try.prog.funcs[54]? = some fn ∧ (fn.name == "runtime.NumGoroutine") = false ∧ fn.body.isNone = false) := ⟨_, Try.func54, by kernel_rfl, rfl⟩
@[go_sem] theorem isF55 : (∃ fn, Try.prog.funcs[55]? = some fn ∧ (fn.name == "runtime.NumGoroutine") = false ∧ fn.body.isNone = false) := ⟨_, Try.func55, by kernel_rfl, rfl⟩
@[go_sem] theorem isF56 : (∃ fn, Try.prog.funcs[56]? = some fn ∧ (fn.name == "runtime.NumGoroutine") = false ∧ fn.body.isNone = false) := ⟨_, Try.func56, by kernel_rfl, rfl⟩
@[go_sem] theorem isF57 : (∃ fn, Try.prog.funcs[57]? = some fn ∧ (fn.name == "runtime.NumGoroutine") = false ∧ fn.body.isNone = false) := ⟨_, Try.func57, by kernel_rfl, rfl⟩
@[go_sem] theorem isF58 : (∃ fn, Try.prog.funcs[58]? = some fn ∧ (fn.name == "runtime.NumGoroutine") = false ∧ fn.body.isNone = false) := ⟨_, Try.func58, by kernel_rfl, rfl⟩
@[go_sem] theorem isF59 : (∃ fn, Try.prog.funcs[59]? = some fn ∧ (fn.name == "runtime.NumGoroutine") = false ∧ fn.body.isNone = false) := ⟨_, Try.func59, by kernel_rfl, rfl⟩
@[go_sem] theorem isF60 : (∃ fn, Try.prog.funcs[60]? = some fn ∧ (fn.name == "runtime.NumGoroutine") = false ∧ fn.body.isNone = false) := ⟨_, Try.func60, by kernel_rfl, rfl⟩
@[go_sem] theorem isF61 : (∃ fn, Try.prog.funcs[61]? = some fn ∧ (fn.name == "runtime.NumGoroutine") = false ∧ fn.body.isNone = false) := ⟨_, Try.func61, by kernel_rfl, rfl⟩
@[go_sem] theorem isF62 : (∃ fn, Try.prog.funcs[62]? = some fn ∧ (fn.name == "runtime.NumGoroutine") = false ∧ fn.body.isNone = false) := ⟨_, Try.func62, by kernel_rfl, rfl⟩
@[go_sem] theorem isF63 : (∃ fn, Try.prog.funcs[63]? = some fn ∧ (fn.name == "runtime.NumGoroutine") = false ∧ fn.body.isNone = false) := ⟨_, Try.func63, by kernel_rfl, rfl⟩
@[go_sem] theorem isF64 : (∃ fn, Try.prog.funcs[64]? = some fn ∧ (fn.name == "runtime.NumGoroutine") = false ∧ fn.body.isNone = false) := ⟨_, Try.func64, by kernel_rfl, rfl⟩
@[go_sem] theorem isF65 : (∃ fn, Try.prog.funcs[65]? = some fn ∧ (fn.name == "runtime.NumGoroutine") = false ∧ fn.body.isNone = false) := ⟨_, Try.func65, by kernel_rfl, rfl⟩
@[go_sem] theorem isF66 : (∃ fn, Try.prog.funcs[66]? = some fn ∧ (fn.name == "runtime.NumGoroutine") = false ∧ fn.body.isNone = false) := ⟨_, Try.func66, by kernel_rfl, rfl⟩
@[go_sem] theorem isF67 : (∃ fn, Try.prog.funcs[67]? = some fn ∧ (fn.name == "runtime.NumGoroutine") = false ∧ fn.body.isNone = false) := ⟨_, Try.func67, by kernel_rfl, rfl⟩
@[go_sem] theorem isF68 : (∃ fn, Try.prog.funcs[68]? = some fn ∧ (fn.name == "runtime.NumGoroutine") = false ∧ fn.body.isNone = false) := ⟨_, Try.func68, by kernel_rfl, rfl⟩
@[go_sem] theorem isF69 : (∃ fn, Try.prog.funcs[69]? = some fn ∧ (fn.name == "runtime.NumGoroutine") = false ∧ fn.body.isNone = false) := ⟨_, Try.func69, by kernel_rfl, rfl⟩
@[go_sem] theorem isF70 : (∃ fn, Try.prog.funcs[70]? = some fn ∧ (fn.name == "runtime.NumGoroutine") = false ∧ fn.body.isNone = false) := ⟨_, Try.func70, by kernel_rfl, rfl⟩
@[go_sem] theorem isF71 : (∃ fn, Try.prog.funcs[71]? = some fn ∧ (fn.name == "runtime.NumGoroutine") = false ∧ fn.body.isNone = false) := ⟨_, Try.func71, by kernel_rfl, rfl⟩
@[go_sem] theorem isF72 : (∃ fn, Try.prog.funcs[72]? = some fn ∧ (fn.name == "runtime.NumGoroutine") = false ∧ fn.body.isNone = false) := ⟨_, Try.func72, by kernel_rfl, rfl⟩
@[go_sem] theorem isF73 : (∃ fn, Try.prog.funcs[73]? = some fn ∧ (fn.name == "runtime.NumGoroutine") = false ∧ fn.body.isNone = false) := ⟨_, Try.func73, by kernel_rfl, rfl⟩
@[go_sem] theorem isF74 : (∃ fn, Try.prog.funcs[74]? = some fn ∧ (fn.name == "runtime.NumGoroutine") = false ∧ fn.body.isNone = false) := ⟨_, Try.func74, by kernel_rfl, rfl⟩
@[go_sem] theorem isF75 : (∃ fn, Try.prog.funcs[75]? = some fn ∧ (fn.name == "runtime.NumGoroutine") = false ∧ fn.body.isNone = false) := ⟨_, Try.func75, by kernel_rfl, rfl⟩
@[go_sem] theorem isF76 : (∃ fn, Try.prog.funcs[76]? = some fn ∧ (fn.name == "runtime.NumGoroutine") = false ∧ fn.body.isNone = false) := ⟨_, Try.func76, by kernel_rfl, rfl⟩
@[go_sem] theorem isF77 : (∃ fn, Try.prog.funcs[77]? = some fn ∧ (fn.name == "runtime.NumGoroutine") = false ∧ fn.body.isNone = false) := ⟨_, Try.func77, by kernel_rfl, rfl⟩
@[go_sem] theorem isF78 : (∃ fn, Try.prog.funcs[78]? = some fn ∧ (fn.name == "runtime.NumGoroutine") = false ∧ fn.body.isNone = false) := ⟨_, Try.func78, by kernel_rfl, rfl⟩
@[go_sem] theorem isF79 : (∃ fn, Try.prog.funcs[79]? = some fn ∧ (fn.name == "runtime.NumGoroutine") = false ∧ fn.body.isNone = false) := ⟨_, Try.func79, by kernel_rfl, rfl⟩
@[go_sem] theorem isF80 : (∃ fn, Try.prog.funcs[80]? = some fn ∧ (fn.name == "runtime.NumGoroutine") = false ∧ fn.body.isNone = false) := ⟨_, Try.func80, by kernel_rfl, rfl⟩
@[go_sem] theorem isF81 : (∃ fn, Try.prog.funcs[81]? = some fn ∧ (fn.name == "runtime.NumGoroutine") = false ∧ fn.body.isNone = false) := ⟨_, Try.func81, by kernel_rfl, rfl⟩
@[go_sem] theorem isF82 : (∃ fn, Try.prog.funcs[82]? = some fn ∧ (fn.name == "runtime.NumGoroutine") = false ∧ fn.body.isNone = false) := ⟨_, Try.func82, by kernel_rfl, rfl⟩
@[go_sem] theorem isF83 : (∃ fn, Try.prog.funcs[83]? = some fn ∧ (fn.name == "runtime.NumGoroutine") = false ∧ fn.body.isNone = false) := ⟨_, Try.func83, by kernel_rfl, rfl⟩
@[go_sem] theorem isF84 : (∃ fn, Try.prog.funcs[84]? = some fn ∧ (fn.name == "runtime.NumGoroutine") = false ∧ fn.body.isNone = false) := ⟨_, Try.func84, by kernel_rfl, rfl⟩
@[go_sem] theorem isF85 : (∃ fn, Try.prog.funcs[85]? = some fn ∧ (fn.name == "runtime.NumGoroutine") = false ∧ fn.body.isNone = false) := ⟨_, Try.func85, by kernel_rfl, rfl⟩
@[go_sem] theorem isF86 : (∃ fn, Try.prog.funcs[86]? = some fn ∧ (fn.name == "runtime.NumGoroutine") = false ∧ fn.body.isNone = false) := ⟨_, Try.func86, by kernel_rfl, rfl⟩
@[go_sem] theorem isF87 : (∃ fn, Try.prog.funcs[87]? = some fn ∧ (fn.name == "runtime.NumGoroutine") = false ∧ fn.body.isNone = false) := ⟨_, Try.func87, by kernel_rfl, rfl⟩
@[go_sem] theorem isF88 : (∃ fn, Try.prog.funcs[88]? = some fn ∧ (fn.name == "runtime.NumGoroutine") = false ∧ fn.body.isNone = false) := ⟨_, Try.func88, by kernel_rfl, rfl⟩
@[go_sem] theorem isF89 : (∃ fn, Try.prog.funcs[89]? = some fn ∧ (fn.name == "runtime.NumGoroutine") = false ∧ fn.body.isNone = false) := ⟨_, Try.func89, by kernel_rfl, rfl⟩
@[go_sem] theorem isF90 : (∃ fn, Try.prog.funcs[90]? = some fn ∧ (fn.name == "runtime.NumGoroutine") = false ∧ fn.body.isNone = false) := ⟨_, Try.func90, by kernel_rfl, rfl⟩
@[go_sem] theorem isF91 : (∃ fn, Try.prog.funcs[91]? = some fn ∧ (fn.name == "runtime.NumGoroutine") = false ∧ fn.body.isNone = false) := ⟨_, Try.func91, by kernel_rfl, rfl⟩
@[go_sem] theorem isF92 : (∃ fn, Try.prog.funcs[92]? = some fn ∧ (fn.name == "runtime.NumGoroutine") = false ∧ fn.body.isNone = false) := ⟨_, Try.func92, by kernel_rfl, rfl⟩
end Go.Proofs.Ytapnjifcfljmmaa
