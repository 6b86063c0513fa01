import Derived.Test.YtbicmjeldappjaaZLb
set_option linter.unusedVariables false
set_option linter.unusedSimpArgs false
set_option maxRecDepth 100000
set_option maxHeartbeats 1000000
namespace Go.Sh
open Go.L
noncomputable section
structure GDice where
 L : List Int
 At : Int
 deriving DecidableEq, Inhabited
def GDice.lv (x : GDice) : LV := .agg [(lvl 1 LV.I) x.L, .I x.At]
theorem GDice.ok : OkF 2 GDice.lv := fun _ => ⟨rfl, rfl, rfl⟩
structure Gq56 where
 Time : Int
 Source : Int
 Seq : Int
 deriving DecidableEq, Inhabited
def Gq56.lv (x : Gq56) : LV := .agg [.I x.Time, .I x.Source, .I x.Seq]
theorem Gq56.ok : OkF 3 Gq56.lv := fun _ => ⟨rfl, rfl, rfl⟩
structure Gq49 where
 Stamp : Gq56
 Kind : Int
 Script : Int
 Part : Int
 Value : Int
 Marker : Int
 Pages : List Int
 deriving DecidableEq, Inhabited
def Gq49.lv (x : Gq49) : LV := .agg [.I x.Stamp.Time, .I x.Stamp.Source, .I x.Stamp.Seq, .I x.Kind, .I x.Script, .I x.Part, .I x.Value, .I x.Marker, (lvl 1 LV.I) x.Pages]
theorem Gq49.ok : OkF 9 Gq49.lv := fun _ => ⟨rfl, rfl, rfl⟩
structure Gq50 where
 ID : Int
 Centre : Int
 Level : Int
 Capacity : Int
 Papers : List Int
 deriving DecidableEq, Inhabited
def Gq50.lv (x : Gq50) : LV := .agg [.I x.ID, .I x.Centre, .I x.Level, .I x.Capacity, (lvl 1 LV.I) x.Papers]
theorem Gq50.ok : OkF 5 Gq50.lv := fun _ => ⟨rfl, rfl, rfl⟩
structure Gq54 where
 Number : Int
 Paper : Int
 Candidate : Int
 Centre : Int
 Variant : Int
 Pages : List Int
 Answers : List Int
 deriving DecidableEq, Inhabited
def Gq54.lv (x : Gq54) : LV := .agg [.I x.Number, .I x.Paper, .I x.Candidate, .I x.Centre, .I x.Variant, (lvl 1 LV.I) x.Pages, (lvl 1 LV.I) x.Answers]
theorem Gq54.ok : OkF 7 Gq54.lv := fun _ => ⟨rfl, rfl, rfl⟩
structure GPart where
 Kind : Int
 Max : Int
 Topic : Int
 Objective : Int
 Options : Int
 Key : Int
 deriving DecidableEq, Inhabited
def GPart.lv (x : GPart) : LV := .agg [.I x.Kind, .I x.Max, .I x.Topic, .I x.Objective, .I x.Options, .I x.Key]
theorem GPart.ok : OkF 6 GPart.lv := fun _ => ⟨rfl, rfl, rfl⟩
structure Gq52 where
 Code : Int
 Variant : Int
 Parts : List GPart
 deriving DecidableEq, Inhabited
def Gq52.lv (x : Gq52) : LV := .agg [.I x.Code, .I x.Variant, (lvl 6 GPart.lv) x.Parts]
theorem Gq52.ok : OkF 3 Gq52.lv := fun _ => ⟨rfl, rfl, rfl⟩
structure Gq53 where
 Keys : List (List Int)
 Withdrawn : List Int
 deriving DecidableEq, Inhabited
def Gq53.lv (x : Gq53) : LV := .agg [(lvl 1 (lvl 1 LV.I)) x.Keys, (lvl 1 LV.I) x.Withdrawn]
theorem Gq53.ok : OkF 2 Gq53.lv := fun _ => ⟨rfl, rfl, rfl⟩
structure GSeed where
 Script : Int
 Marks : List Int
 deriving DecidableEq, Inhabited
def GSeed.lv (x : GSeed) : LV := .agg [.I x.Script, (lvl 1 LV.I) x.Marks]
theorem GSeed.ok : OkF 2 GSeed.lv := fun _ => ⟨rfl, rfl, rfl⟩
structure Gq51 where
 Part : Int
 Total : Int
 Window : Int
 Fails : Int
 deriving DecidableEq, Inhabited
def Gq51.lv (x : Gq51) : LV := .agg [.I x.Part, .I x.Total, .I x.Window, .I x.Fails]
theorem Gq51.ok : OkF 4 Gq51.lv := fun _ => ⟨rfl, rfl, rfl⟩
structure Gq55 where
 Markers : List Gq50
 Scripts : List Gq54
 Papers : List Gq52
 Schemes : List Gq53
 Seeds : List GSeed
 Monitor : Gq51
 deriving DecidableEq, Inhabited
def Gq55.lv (x : Gq55) : LV := .agg [(lvl 5 Gq50.lv) x.Markers, (lvl 7 Gq54.lv) x.Scripts, (lvl 3 Gq52.lv) x.Papers, (lvl 2 Gq53.lv) x.Schemes, (lvl 2 GSeed.lv) x.Seeds, .I x.Monitor.Part, .I x.Monitor.Total, .I x.Monitor.Window, .I x.Monitor.Fails]
theorem Gq55.ok : OkF 9 Gq55.lv := fun _ => ⟨rfl, rfl, rfl⟩
structure q0q where
 first : Int
 disputed : Bool
 deriving DecidableEq, Inhabited
def q0q.lv (x : q0q) : LV := .agg [.I x.first, LV.bool x.disputed]
theorem q0q.ok : OkF 2 q0q.lv := fun _ => ⟨rfl, rfl, rfl⟩
def q135q (p0 : List Int) : Option Bool :=
 some (decide ((p0.length : Int) ≤ 600))
def q11q (p0 : Int) (p1 : Int) : Option Gq49 :=
 some (Gq49.mk (Gq56.mk 5 7 p0) 0 1 0 p1 0 [])
def q128q (p0 : Gq56) : Option Bool :=
 some ((decide (p0.Time ≥ 0)) && ((decide (p0.Time ≤ 1000000)) && ((decide (p0.Source ≥ 0)) && ((decide (p0.Source ≤ 99)) && ((decide (p0.Seq ≥ 0)) && (decide (p0.Seq ≤ 9999)))))))
def q7q (p0 : List Int) (p1 : (Int → Option Bool)) (rec1 : Int → Option Int) (n1 : Int) : Option Int :=
 if (decide (n1 < (p0.length : Int))) = true then
  (idx p0 n1).bind fun x3 =>
  (p1 x3).bind fun r4 =>
  if r4 = true then
   some n1
  else
  rec1 (i64 (n1 + 1))
 else
 some (-1)
def q4q (p0 : List Int) (p1 : (Int → Option Bool)) : Nat → Int → Option Int
 | 0 => fun _ => .none
 | n + 1 => q7q p0 p1 (q4q p0 p1 n)
def q36q (F : Nat) (p0 : List Int) (p1 : (Int → Option Bool)) : Option Int :=
 q4q p0 p1 F 0
def q9q (F : Nat) (p0 : List Int) (p1 : (Int → Option Bool)) : Option Bool :=
 (q36q F p0 p1).bind fun r1 =>
 some (decide (r1 ≥ 0))
def q80q (p0 : Int) : Option Bool :=
 some ((decide (p0 < 0)) || (decide (p0 > 1152921504606846976)))
def q64q (F : Nat) (p0 : Gq49) : Option Bool :=
 if ((decide (p0.Stamp.Source < 1)) || ((decide (p0.Part < 0)) || ((decide (p0.Part ≥ 24)) || ((decide (p0.Value < (-1))) || ((decide (p0.Value > 40)) || ((p0.Marker != 0) || (decide ((p0.Pages.length : Int) > 12)))))))) = true then
  some false
 else
 (q9q F p0.Pages (fun a0 => q80q a0)).bind fun r9 =>
 some (!r9)
def q60q (F : Nat) (p0 : Gq49) : Option Bool :=
 ((q128q p0.Stamp).bind fun r3 => if (!r3) = true then some true else if (decide (p0.Script < 0)) = true then some true else some (decide (p0.Script > 319999))).bind fun w2 =>
 if w2 = true then
  some false
 else
 if (p0.Kind == 0) = true then
  (q64q F p0).bind fun r8 =>
  some r8
 else
 if (p0.Kind == 1) = true then
  some ((p0.Stamp.Source == 0) && ((p0.Script == 0) && ((p0.Part == 0) && ((p0.Value == 0) && ((decide (p0.Marker ≥ 1)) && ((decide (p0.Marker ≤ 99)) && ((p0.Pages.length : Int) == 0)))))))
 else
 if (p0.Kind == 2) = true then
  some ((p0.Stamp.Source == 0) && ((p0.Value == 0) && ((p0.Marker == 0) && ((decide (p0.Part ≥ (-1))) && ((decide (p0.Part < 24)) && ((p0.Pages.length : Int) == 0))))))
 else
 some false
def q96q (p0 : Gq49) : Option (Int × Int) :=
 some (p0.Stamp.Source, p0.Stamp.Seq)
def q6q (p0 : List Int) (p1 : List Int) (rec1 : Int → Option Bool) (n2 : Int) : Option Bool :=
 if (decide (n2 < (p0.length : Int))) = true then
  (idx p0 n2).bind fun x4 =>
  (idx p1 n2).bind fun x5 =>
  if (x4 != x5) = true then
   some false
  else
  rec1 (i64 (n2 + 1))
 else
 some true
def q5q (p0 : List Int) (p1 : List Int) : Nat → Int → Option Bool
 | 0 => fun _ => .none
 | n + 1 => q6q p0 p1 (q5q p0 p1 n)
def q18q (F : Nat) (p0 : List Int) (p1 : List Int) : Option Bool :=
 if ((p0.length : Int) != (p1.length : Int)) = true then
  some false
 else
 q5q p0 p1 F 0
def q53q (F : Nat) (p0 : Gq49) (p1 : Gq49) : Option Bool :=
 (if (decide (p0.Stamp = p1.Stamp)) = true then if (p0.Kind == p1.Kind) = true then if (p0.Script == p1.Script) = true then if (p0.Part == p1.Part) = true then if (p0.Value == p1.Value) = true then if (p0.Marker == p1.Marker) = true then (q18q F p0.Pages p1.Pages).bind fun r9 => some r9 else some false else some false else some false else some false else some false else some false).bind fun w2 =>
 some w2
def q39q (F : Nat) (p0 : List Gq49) (rec1 : Int → (List ((Int × Int) × q0q)) → Option (List ((Int × Int) × q0q))) (n1 : Int) (m2 : List ((Int × Int) × q0q)) : Option (List ((Int × Int) × q0q)) :=
 if (decide (n1 < (p0.length : Int))) = true then
  (idx p0 n1).bind fun x4 =>
  (q60q F x4).bind fun r5 =>
  if (!r5) = true then
   rec1 (i64 (n1 + 1)) m2
  else
  (q96q x4).bind fun r7 =>
  if (!((mget m2 r7).isSome)) = true then
   rec1 (i64 (n1 + 1)) (mput m2 r7 (q0q.mk n1 (((mget m2 r7).getD (q0q.mk 0 false)).disputed)))
  else
  (idx p0 (((mget m2 r7).getD (q0q.mk 0 false)).first)).bind fun x9 =>
  (q53q F x9 x4).bind fun r10 =>
  if (!r10) = true then
   rec1 (i64 (n1 + 1)) (mput m2 r7 (q0q.mk (((mget m2 r7).getD (q0q.mk 0 false)).first) true))
  else
  rec1 (i64 (n1 + 1)) (mput m2 r7 ((mget m2 r7).getD (q0q.mk 0 false)))
 else
 some m2
def q22q (F : Nat) (p0 : List Gq49) : Nat → Int → (List ((Int × Int) × q0q)) → Option (List ((Int × Int) × q0q))
 | 0 => fun _ _ => .none
 | n + 1 => q39q F p0 (q22q F p0 n)
def q92q (F : Nat) (p0 : List Gq49) : Option (List ((Int × Int) × q0q)) :=
 q22q F p0 F 0 ([] : List ((Int × Int) × q0q))
def cmp_isNaN_int (p0 : Int) : Option Bool :=
 some (p0 != p0)
def cmp_Compare_int (p0 : Int) (p1 : Int) : Option Int :=
 (cmp_isNaN_int p0).bind fun r1 =>
 (cmp_isNaN_int p1).bind fun r2 =>
 if r1 = true then
  if r2 = true then
   some 0
  else
  some (-1)
 else
 if r2 = true then
  some 1
 else
 if (decide (p0 < p1)) = true then
  some (-1)
 else
 if (decide (p0 > p1)) = true then
  some 1
 else
 some 0
def cmp_Or_int_L1_B (p0 : List Int) (rec1 : Int → Option Int) (n1 : Int) : Option Int :=
 if (decide (n1 < (p0.length : Int))) = true then
  (idx p0 n1).bind fun x3 =>
  if (x3 != 0) = true then
   some x3
  else
  rec1 (i64 (n1 + 1))
 else
 some 0
def cmp_Or_int_L1 (p0 : List Int) : Nat → Int → Option Int
 | 0 => fun _ => .none
 | n + 1 => cmp_Or_int_L1_B p0 (cmp_Or_int_L1 p0 n)
def cmp_Or_int (F : Nat) (p0 : List Int) : Option Int :=
 cmp_Or_int_L1 p0 F 0
def q82q (F : Nat) (p0 : Gq56) (p1 : Gq56) : Option Int :=
 (cmp_Compare_int p0.Time p1.Time).bind fun r1 =>
 (cmp_Compare_int p0.Source p1.Source).bind fun r2 =>
 (cmp_Compare_int p0.Seq p1.Seq).bind fun r3 =>
 (cmp_Or_int F [r1, r2, r3]).bind fun r4 =>
 some r4
def q25q (F : Nat) (p0 : Gq49) (p1 : Gq49) : Option Int :=
 (q82q F p0.Stamp p1.Stamp).bind fun r1 =>
 some r1
def q81q (p0 : Gq49) : Option Gq49 :=
 (app [] p0.Pages).bind fun v1 =>
 some (Gq49.mk p0.Stamp p0.Kind p0.Script p0.Part p0.Value p0.Marker v1)
def q28q (l8 : List Gq49) (rec2 : Int → (List Gq49) → Option (List Gq49 × Int)) (n9 : Int) (l10 : List Gq49) : Option (List Gq49 × Int) :=
 if (decide (n9 < (l8.length : Int))) = true then
  (idx l10 n9).bind fun x12 =>
  (q81q x12).bind fun r13 =>
  (idx l10 n9).bind fun x14 =>
  rec2 (i64 (n9 + 1)) (l10.set n9.toNat r13)
 else
 some (l10, 0)
def q10q (l8 : List Gq49) : Nat → Int → (List Gq49) → Option (List Gq49 × Int)
 | 0 => fun _ _ => .none
 | n + 1 => q28q l8 (q10q l8 n)
def q27q (F : Nat) (p0 : List Gq49) (l2 : List Gq49) : Option (List Gq49 × Int) :=
 if (decide ((l2.length : Int) > 2000)) = true then
  some ([], 3)
 else
 (sortF (fun a0 a1 => q25q F a0 a1) l2).bind fun l8 =>
 q10q l8 F 0 l8
def q48q (F : Nat) (p0 : List Gq49) (rec1 : (List Gq49) → Option (List Gq49 × Int)) (z3 : (Int × Int) × q0q) (l2 : List Gq49) : Option (List Gq49 × Int) :=
 if (!z3.2.disputed) = true then
  (idx p0 z3.2.first).bind fun x5 =>
  (app l2 [x5]).bind fun v6 =>
  rec1 v6
 else
 rec1 l2
def q17q (F : Nat) (p0 : List Gq49) : Nat → List ((Int × Int) × q0q) → (List Gq49) → Option (List Gq49 × Int)
 | 0 => fun _ _ => .none
 | n + 1 => fun left l2 => if left.isEmpty = true then q27q F p0 l2 else anyPick left (fun z left' => q48q F p0 (q17q F p0 n left') z l2)
def q13q (F : Nat) (p0 : List Gq49) : Option (List Gq49 × Int) :=
 (q92q F p0).bind fun r1 =>
 q17q F p0 F r1 ([] : List Gq49)
def q32q (F : Nat) (p0 : Int × Int) (p1 : Int × Int) : Option Int :=
 (idx [p0.1, p0.2] 0).bind fun x1 =>
 (idx [p1.1, p1.2] 0).bind fun x2 =>
 (cmp_Compare_int x1 x2).bind fun r3 =>
 (idx [p0.1, p0.2] 1).bind fun x4 =>
 (idx [p1.1, p1.2] 1).bind fun x5 =>
 (cmp_Compare_int x4 x5).bind fun r6 =>
 (cmp_Or_int F [r3, r6]).bind fun r7 =>
 some r7
def q57q (F : Nat) (l2 : List (Int × Int)) : Option (List (Int × Int)) :=
 (sortF (fun a0 a1 => q32q F a0 a1) l2).bind fun l6 =>
 some l6
def q58q (F : Nat) (rec1 : (List (Int × Int)) → Option (List (Int × Int))) (z3 : (Int × Int) × q0q) (l2 : List (Int × Int)) : Option (List (Int × Int)) :=
 if z3.2.disputed = true then
  (app l2 [z3.1]).bind fun v5 =>
  rec1 v5
 else
 rec1 l2
def q26q (F : Nat) : Nat → List ((Int × Int) × q0q) → (List (Int × Int)) → Option (List (Int × Int))
 | 0 => fun _ _ => .none
 | n + 1 => fun left l2 => if left.isEmpty = true then q57q F l2 else anyPick left (fun z left' => q58q F (q26q F n left') z l2)
def q45q (F : Nat) (p0 : List Gq49) : Option (List (Int × Int)) :=
 (q92q F p0).bind fun r1 =>
 q26q F F r1 ([] : List (Int × Int))
def q70q (F : Nat) (p0 : Gq49) (p1 : Gq49) : Option Bool :=
 (q82q F p0.Stamp p1.Stamp).bind fun r1 =>
 some (decide (r1 < 0))
def q95q (F : Nat) : Option Bool :=
 (q11q 3 1).bind fun r1 =>
 (q11q 3 2).bind fun r2 =>
 (q13q F [r1, r2]).bind fun r3 =>
 (q11q 3 1).bind fun r4 =>
 (q11q 3 1).bind fun r5 =>
 (q13q F [r4, r5]).bind fun r6 =>
 (q11q 3 1).bind fun r7 =>
 (q11q 3 2).bind fun r8 =>
 (q45q F [r7, r8]).bind fun r9 =>
 (if (r3.2 == 0) = true then if (r6.2 == 0) = true then if ((r3.1.length : Int) == 0) = true then if ((r6.1.length : Int) == 1) = true then (idx r6.1 0).bind fun x16 => (q11q 3 1).bind fun r17 => (q53q F x16 r17).bind fun r18 => if r18 = true then if ((r9.length : Int) == 1) = true then (idx r9 0).bind fun x21 => if (decide (x21 = (7, 3))) = true then (q11q 3 1).bind fun r23 => (q60q F r23).bind fun r24 => if r24 = true then (q11q 1 0).bind fun r26 => (q11q 2 0).bind fun r27 => (q70q F r26 r27).bind fun r28 => some r28 else some false else some false else some false else some false else some false else some false else some false else some false).bind fun w11 =>
 some w11
def mark_Roll (p0 : List Int) : Option GDice :=
 some (GDice.mk p0 0)
def Gq14 (p0 : GDice) (p1 : Int) : Option (Int × GDice) :=
 if ((decide (p0.At ≥ (p0.L.length : Int))) || (decide (p1 < 1))) = true then
  some (0, p0)
 else
 (idx p0.L p0.At).bind fun x4 =>
 (rmd x4 p1).bind fun v5 =>
 if (decide (v5 < 0)) = true then
  some ((i64 (v5 + p1)), (GDice.mk p0.L (i64 (p0.At + 1))))
 else
 some (v5, (GDice.mk p0.L (i64 (p0.At + 1))))
def Gq17 (p1 : Int) (p2 : Int) (l2 : List Int) (n3 : Int) (l4 : List GPart) : Option (Gq52 × GDice) :=
 (Gq14 (GDice.mk l2 n3) 2).bind fun r5 =>
 if (decide (r5.1 > 0)) = true then
  (Gq14 r5.2 4).bind fun r7 =>
  (app l4 [(GPart.mk 1 (i64 (2 + r7.1)) 0 0 0 0)]).bind fun v8 =>
  some ((Gq52.mk p1 p2 v8), r7.2)
 else
 some ((Gq52.mk p1 p2 l4), r5.2)
def Gq16 (p0 : GDice) (p1 : Int) (p2 : Int) : Option (Gq52 × GDice) :=
 (Gq14 p0 4).bind fun r1 =>
 (Gq14 r1.2 3).bind fun r9 =>
 if (decide (r9.1 > 0)) = true then
  (Gq14 r9.2 2).bind fun r11 =>
  (Gq14 r11.2 4).bind fun r12 =>
  (app [(GPart.mk 1 (i64 (3 + r1.1)) 0 0 0 0)] [(GPart.mk 2 (i64 (1 + r11.1)) 0 0 4 r12.1)]).bind fun v13 =>
  Gq17 p1 p2 r12.2.L r12.2.At v13
 else
 Gq17 p1 p2 r9.2.L r9.2.At [(GPart.mk 1 (i64 (3 + r1.1)) 0 0 0 0)]
def Gq0 (p0 : GDice) (p1 : Int) : Option (Bool × GDice) :=
 (Gq14 p0 p1).bind fun r1 =>
 some ((r1.1 == (i64 (p1 - 1))), r1.2)
def Gq27 (p0 : GDice) (p1 : Gq52) : Option (Gq53 × GDice) :=
 (mkl ([] : List Int) (p1.Parts.length : Int)).bind fun v1 =>
 (mkl (0 : Int) (p1.Parts.length : Int)).bind fun v2 =>
 (Gq0 p0 6).bind fun r3 =>
 if r3.1 = true then
  (Gq14 r3.2 (p1.Parts.length : Int)).bind fun r5 =>
  (Gq14 r5.2 2).bind fun r6 =>
  (idx v2 r5.1).bind fun x7 =>
  some ((Gq53.mk v1 (v2.set r5.1.toNat (i64 (1 + r6.1)))), r6.2)
 else
 some ((Gq53.mk v1 v2), r3.2)
def Gq23 (l5 : List Gq52) (rec3 : Int → (List Int) → Int → (List Gq53) → Option (List Gq52 × List Gq53 × GDice)) (n8 : Int) (l9 : List Int) (n10 : Int) (l11 : List Gq53) : Option (List Gq52 × List Gq53 × GDice) :=
 if (decide (n8 < (l5.length : Int))) = true then
  (idx l5 n8).bind fun x13 =>
  (Gq27 (GDice.mk l9 n10) x13).bind fun r14 =>
  (app l11 [r14.1]).bind fun v15 =>
  rec3 (i64 (n8 + 1)) r14.2.L r14.2.At v15
 else
 some (l5, l11, (GDice.mk l9 n10))
def Gq22 (l5 : List Gq52) : Nat → Int → (List Int) → Int → (List Gq53) → Option (List Gq52 × List Gq53 × GDice)
 | 0 => fun _ _ _ _ => .none
 | n + 1 => Gq23 l5 (Gq22 l5 n)
def Gq21 (F : Nat) (l5 : List Gq52) (l6 : List Int) (n7 : Int) : Option (List Gq52 × List Gq53 × GDice) :=
 Gq22 l5 F 0 l6 n7 ([] : List Gq53)
def Gq20 (F : Nat) (l2 : List Int) (n3 : Int) (l4 : List Gq52) : Option (List Gq52 × List Gq53 × GDice) :=
 (Gq0 (GDice.mk l2 n3) 2).bind fun r16 =>
 if r16.1 = true then
  (Gq16 r16.2 1 0).bind fun r18 =>
  (app l4 [r18.1]).bind fun v19 =>
  Gq21 F v19 r18.2.L r18.2.At
 else
 Gq21 F l4 r16.2.L r16.2.At
def Gq19 (F : Nat) (p0 : GDice) : Option (List Gq52 × List Gq53 × GDice) :=
 (Gq16 p0 0 0).bind fun r1 =>
 (Gq0 r1.2 2).bind fun r20 =>
 if r20.1 = true then
  (Gq16 r20.2 0 1).bind fun r22 =>
  (app [r1.1] [r22.1]).bind fun v23 =>
  Gq20 F r22.2.L r22.2.At v23
 else
 Gq20 F r20.2.L r20.2.At [r1.1]
def Gq25 (p0 : GDice) (p1 : List Int) : Option (Int × GDice) :=
 (Gq14 p0 (p1.length : Int)).bind fun r1 =>
 (idx p1 r1.1).bind fun x2 =>
 some (x2, r1.2)
def Gq10  (rec1 : Int → Int → (List Int) → Int → (List Gq50) → Option (List Gq50 × GDice)) (n2 : Int) (n3 : Int) (l4 : List Int) (n5 : Int) (l6 : List Gq50) : Option (List Gq50 × GDice) :=
 if (decide (n3 > 0)) = true then
  (Gq14 (GDice.mk l4 n5) 3).bind fun r8 =>
  (Gq25 r8.2 [(-1), (-1), 1, 2, 3]).bind fun r9 =>
  (Gq25 r9.2 [1, 1, 1, 2, 3]).bind fun r10 =>
  (Gq25 r10.2 [3, 2, 6, 0, 1]).bind fun r11 =>
  (Gq14 r11.2 4).bind fun r12 =>
  (idx ([[0, 1], [0], [1], [0, 1]]) r12.1).bind fun x13 =>
  (app l6 [(Gq50.mk (i64 (n2 + (i64 (1 + r8.1)))) r9.1 r10.1 r11.1 x13)]).bind fun v14 =>
  rec1 (i64 (n2 + (i64 (1 + r8.1)))) (i64 (n3 - 1)) r12.2.L r12.2.At v14
 else
 some (l6, (GDice.mk l4 n5))
def Gq9  : Nat → Int → Int → (List Int) → Int → (List Gq50) → Option (List Gq50 × GDice)
 | 0 => fun _ _ _ _ _ => .none
 | n + 1 => Gq10  (Gq9 n)
def Gq8 (F : Nat) (p0 : GDice) : Option (List Gq50 × GDice) :=
 (Gq14 p0 4).bind fun r1 =>
 Gq9 F 0 (i64 (2 + r1.1)) r1.2.L r1.2.At ([] : List Gq50)
def Gq31 (p1 : Gq52) (p2 : Int) (r1 : Int × GDice) (r2 : Int × GDice) (rec1 : Int → (List Int) → Int → (List Int) → Option (Gq54 × GDice)) (n3 : Int) (l4 : List Int) (n5 : Int) (l6 : List Int) : Option (Gq54 × GDice) :=
 if (decide (n3 < (p1.Parts.length : Int))) = true then
  (idx p1.Parts n3).bind fun x8 =>
  if (x8.Kind == 2) = true then
   (idx p1.Parts n3).bind fun x10 =>
   (Gq25 (GDice.mk l4 n5) [x10.Key, 0, 1, (-1), (-2)]).bind fun r11 =>
   (app l6 [r11.1]).bind fun v12 =>
   rec1 (i64 (n3 + 1)) r11.2.L r11.2.At v12
  else
  (app l6 [(-1)]).bind fun v13 =>
  rec1 (i64 (n3 + 1)) l4 n5 v13
 else
 some ((Gq54.mk (i64 ((i64 (p1.Code * 10000)) + p2)) p1.Code p2 (i64 (1 + r1.1)) p1.Variant [(i64 ((i64 (100 * p2)) + p1.Code)), r2.1] l6), (GDice.mk l4 n5))
def Gq30 (p1 : Gq52) (p2 : Int) (r1 : Int × GDice) (r2 : Int × GDice) : Nat → Int → (List Int) → Int → (List Int) → Option (Gq54 × GDice)
 | 0 => fun _ _ _ _ => .none
 | n + 1 => Gq31 p1 p2 r1 r2 (Gq30 p1 p2 r1 r2 n)
def Gq29 (F : Nat) (p0 : GDice) (p1 : Gq52) (p2 : Int) : Option (Gq54 × GDice) :=
 (Gq14 p0 3).bind fun r1 =>
 (Gq14 r1.2 3).bind fun r2 =>
 Gq30 p1 p2 r1 r2 F 0 r2.2.L r2.2.At ([] : List Int)
def Gq39 (rec1 : Int → (List Int) → Int → (List Gq54) → Option (List Gq54 × GDice)) (F : Nat) (p2 : Int) (n1 : Int) (l7 : List Gq52) (rec3 : Int → (List Int) → Int → (List Gq54) → Option (List Gq54 × GDice)) (n13 : Int) (l14 : List Int) (n15 : Int) (l16 : List Gq54) : Option (List Gq54 × GDice) :=
 if ((decide (n13 ≤ p2)) && (decide ((l7.length : Int) > 0))) = true then
  (Gq14 (GDice.mk l14 n15) 5).bind fun r20 =>
  if (decide (r20.1 > 0)) = true then
   (Gq14 r20.2 (l7.length : Int)).bind fun r22 =>
   (idx l7 r22.1).bind fun x23 =>
   (Gq29 F r22.2 x23 n13).bind fun r24 =>
   (app l16 [r24.1]).bind fun v25 =>
   rec3 (i64 (n13 + 1)) r24.2.L r24.2.At v25
  else
  rec3 (i64 (n13 + 1)) r20.2.L r20.2.At l16
 else
 rec1 (i64 (n1 + 1)) l14 n15 l16
def Gq38 (rec1 : Int → (List Int) → Int → (List Gq54) → Option (List Gq54 × GDice)) (F : Nat) (p2 : Int) (n1 : Int) (l7 : List Gq52) : Nat → Int → (List Int) → Int → (List Gq54) → Option (List Gq54 × GDice)
 | 0 => fun _ _ _ _ => .none
 | n + 1 => Gq39 rec1 F p2 n1 l7 (Gq38 rec1 F p2 n1 l7 n)
def Gq37 (rec1 : Int → (List Int) → Int → (List Gq54) → Option (List Gq54 × GDice)) (F : Nat) (p1 : List Gq52) (p2 : Int) (n1 : Int) (l2 : List Int) (n3 : Int) (l4 : List Gq54) (rec2 : Int → (List Gq52) → Option (List Gq54 × GDice)) (n6 : Int) (l7 : List Gq52) : Option (List Gq54 × GDice) :=
 if (decide (n6 < (p1.length : Int))) = true then
  (idx p1 n6).bind fun x9 =>
  if (x9.Code == n1) = true then
   (idx p1 n6).bind fun x11 =>
   (app l7 [x11]).bind fun v12 =>
   rec2 (i64 (n6 + 1)) v12
  else
  rec2 (i64 (n6 + 1)) l7
 else
 Gq38 rec1 F p2 n1 l7 F 1 l2 n3 l4
def Gq36 (rec1 : Int → (List Int) → Int → (List Gq54) → Option (List Gq54 × GDice)) (F : Nat) (p1 : List Gq52) (p2 : Int) (n1 : Int) (l2 : List Int) (n3 : Int) (l4 : List Gq54) : Nat → Int → (List Gq52) → Option (List Gq54 × GDice)
 | 0 => fun _ _ => .none
 | n + 1 => Gq37 rec1 F p1 p2 n1 l2 n3 l4 (Gq36 rec1 F p1 p2 n1 l2 n3 l4 n)
def Gq35 (F : Nat) (p1 : List Gq52) (p2 : Int) (rec1 : Int → (List Int) → Int → (List Gq54) → Option (List Gq54 × GDice)) (n1 : Int) (l2 : List Int) (n3 : Int) (l4 : List Gq54) : Option (List Gq54 × GDice) :=
 if (decide (n1 < 2)) = true then
  Gq36 rec1 F p1 p2 n1 l2 n3 l4 F 0 ([] : List Gq52)
 else
 some (l4, (GDice.mk l2 n3))
def Gq34 (F : Nat) (p1 : List Gq52) (p2 : Int) : Nat → Int → (List Int) → Int → (List Gq54) → Option (List Gq54 × GDice)
 | 0 => fun _ _ _ _ => .none
 | n + 1 => Gq35 F p1 p2 (Gq34 F p1 p2 n)
def Gq33 (F : Nat) (p0 : GDice) (p1 : List Gq52) (p2 : Int) : Option (List Gq54 × GDice) :=
 Gq34 F p1 p2 F 0 p0.L p0.At ([] : List Gq54)
def Gq12 (p0 : GDice) : Option (Gq51 × GDice) :=
 (Gq14 p0 3).bind fun r1 =>
 (Gq14 r1.2 2).bind fun r2 =>
 (Gq14 r2.2 3).bind fun r3 =>
 (Gq14 r3.2 (i64 (1 + r1.1))).bind fun r4 =>
 some ((Gq51.mk r2.1 r3.1 (i64 (1 + r1.1)) (i64 (1 + r4.1))), r4.2)
def q88q (p0 : List Gq52) (p1 : Gq54) (rec1 : Int → Option Gq52) (n1 : Int) : Option Gq52 :=
 if (decide (n1 < (p0.length : Int))) = true then
  ((idx p0 n1).bind fun x5 => if (x5.Code == p1.Paper) = true then (idx p0 n1).bind fun x7 => some (x7.Variant == p1.Variant) else some false).bind fun w4 =>
  if w4 = true then
   (idx p0 n1).bind fun x9 =>
   some x9
  else
  rec1 (i64 (n1 + 1))
 else
 some (Gq52.mk 0 0 [])
def q104q (p0 : List Gq52) (p1 : Gq54) : Nat → Int → Option Gq52
 | 0 => fun _ => .none
 | n + 1 => q88q p0 p1 (q104q p0 p1 n)
def q115q (F : Nat) (p0 : List Gq52) (p1 : Gq54) : Option Gq52 :=
 q104q p0 p1 F 0
def Gq43 (p2 : Gq54) (r1 : Gq52) (rec1 : Int → (List Int) → Int → (List Int) → Option (GSeed × GDice)) (n2 : Int) (l3 : List Int) (n4 : Int) (l5 : List Int) : Option (GSeed × GDice) :=
 if (decide (n2 < (r1.Parts.length : Int))) = true then
  (idx r1.Parts n2).bind fun x7 =>
  (Gq14 (GDice.mk l3 n4) (i64 (x7.Max + 1))).bind fun r8 =>
  (app l5 [r8.1]).bind fun v9 =>
  rec1 (i64 (n2 + 1)) r8.2.L r8.2.At v9
 else
 some ((GSeed.mk p2.Number l5), (GDice.mk l3 n4))
def Gq42 (p2 : Gq54) (r1 : Gq52) : Nat → Int → (List Int) → Int → (List Int) → Option (GSeed × GDice)
 | 0 => fun _ _ _ _ => .none
 | n + 1 => Gq43 p2 r1 (Gq42 p2 r1 n)
def Gq41 (F : Nat) (p0 : GDice) (p1 : List Gq52) (p2 : Gq54) : Option (GSeed × GDice) :=
 (q115q F p1 p2).bind fun r1 =>
 Gq42 p2 r1 F 0 p0.L p0.At ([] : List Int)
def Gq47 (F : Nat) (r1 : List Gq52 × List Gq53 × GDice) (r2 : List Gq50 × GDice) (r3 : List Gq54 × GDice) (r4 : Gq51 × GDice) (rec1 : Int → (List Int) → Int → (List GSeed) → Option (Gq55 × GDice)) (n5 : Int) (l6 : List Int) (n7 : Int) (l8 : List GSeed) : Option (Gq55 × GDice) :=
 if (decide (n5 < (r3.1.length : Int))) = true then
  (Gq0 (GDice.mk l6 n7) 3).bind fun r10 =>
  if r10.1 = true then
   (idx r3.1 n5).bind fun x12 =>
   (Gq41 F r10.2 r1.1 x12).bind fun r13 =>
   (app l8 [r13.1]).bind fun v14 =>
   rec1 (i64 (n5 + 1)) r13.2.L r13.2.At v14
  else
  rec1 (i64 (n5 + 1)) r10.2.L r10.2.At l8
 else
 some ((Gq55.mk r2.1 r3.1 r1.1 r1.2.1 l8 r4.1), (GDice.mk l6 n7))
def Gq46 (F : Nat) (r1 : List Gq52 × List Gq53 × GDice) (r2 : List Gq50 × GDice) (r3 : List Gq54 × GDice) (r4 : Gq51 × GDice) : Nat → Int → (List Int) → Int → (List GSeed) → Option (Gq55 × GDice)
 | 0 => fun _ _ _ _ => .none
 | n + 1 => Gq47 F r1 r2 r3 r4 (Gq46 F r1 r2 r3 r4 n)
def Gq45 (F : Nat) (p0 : GDice) : Option (Gq55 × GDice) :=
 (Gq19 F p0).bind fun r1 =>
 (Gq8 F r1.2.2).bind fun r2 =>
 (Gq33 F r2.2 r1.1 4).bind fun r3 =>
 (Gq12 r3.2).bind fun r4 =>
 Gq46 F r1 r2 r3 r4 F 0 r4.2.L r4.2.At ([] : List GSeed)
def Gq6 (F : Nat) (p0 : GDice) (p1 : Gq55) (p2 : Int) (p3 : Int) : Option (Gq49 × GDice) :=
 (Gq14 p0 (p1.Markers.length : Int)).bind fun r1 =>
 (idx p1.Markers r1.1).bind fun x2 =>
 if ((p1.Scripts.length : Int) == 0) = true then
  some ((Gq49.mk (Gq56.mk p3 x2.ID p2) 0 0 0 0 0 []), r1.2)
 else
 (Gq14 r1.2 (p1.Scripts.length : Int)).bind fun r4 =>
 (idx p1.Scripts r4.1).bind fun x5 =>
 (q115q F p1.Papers x5).bind fun r6 =>
 (Gq14 r4.2 (r6.Parts.length : Int)).bind fun r7 =>
 (idx r6.Parts r7.1).bind fun x8 =>
 (Gq14 r7.2 (i64 (x8.Max + 2))).bind fun r9 =>
 (app [] x5.Pages).bind fun v10 =>
 (Gq0 r9.2 12).bind fun r11 =>
 if r11.1 = true then
  some ((Gq49.mk (Gq56.mk p3 x2.ID p2) 0 x5.Number r7.1 (i64 (r9.1 - 1)) 0 []), r11.2)
 else
 some ((Gq49.mk (Gq56.mk p3 x2.ID p2) 0 x5.Number r7.1 (i64 (r9.1 - 1)) 0 v10), r11.2)
def Gq4 (F : Nat) (p1 : Gq55) (p2 : Int) (rec1 : Int → (List Int) → Int → (List Gq49) → Option (List Gq49 × GDice)) (n1 : Int) (l2 : List Int) (n3 : Int) (l4 : List Gq49) : Option (List Gq49 × GDice) :=
 if (decide (n1 < p2)) = true then
  (Gq14 (GDice.mk l2 n3) 20).bind fun r6 =>
  (Gq14 r6.2 14).bind fun r7 =>
  if (r7.1 == 0) = true then
   (Gq14 r7.2 (p1.Markers.length : Int)).bind fun r9 =>
   (idx p1.Markers r9.1).bind fun x10 =>
   (app l4 ([(Gq49.mk (Gq56.mk (i64 ((i64 (5 * n1)) + r6.1)) 0 n1) 1 0 0 0 x10.ID [])])).bind fun v11 =>
   rec1 (i64 (n1 + 1)) r9.2.L r9.2.At v11
  else
  if (r7.1 == 1) = true then
   if (decide ((p1.Scripts.length : Int) > 0)) = true then
    (Gq14 r7.2 (p1.Scripts.length : Int)).bind fun r14 =>
    (idx p1.Scripts r14.1).bind fun x15 =>
    (Gq14 r14.2 3).bind fun r16 =>
    (app l4 ([(Gq49.mk (Gq56.mk (i64 ((i64 (5 * n1)) + r6.1)) 0 n1) 2 x15.Number (i64 (r16.1 - 1)) 0 0 [])])).bind fun v17 =>
    rec1 (i64 (n1 + 1)) r16.2.L r16.2.At v17
   else
   rec1 (i64 (n1 + 1)) r7.2.L r7.2.At l4
  else
  if (r7.1 == 2) = true then
   if (decide ((l4.length : Int) > 0)) = true then
    (Gq14 r7.2 (l4.length : Int)).bind fun r20 =>
    (idx l4 r20.1).bind fun x21 =>
    (app l4 [x21]).bind fun v22 =>
    rec1 (i64 (n1 + 1)) r20.2.L r20.2.At v22
   else
   rec1 (i64 (n1 + 1)) r7.2.L r7.2.At l4
  else
  if (r7.1 == 3) = true then
   if (decide ((l4.length : Int) > 0)) = true then
    (Gq14 r7.2 (l4.length : Int)).bind fun r25 =>
    (idx l4 r25.1).bind fun x26 =>
    (app l4 [(Gq49.mk x26.Stamp x26.Kind x26.Script x26.Part (i64 (x26.Value + 1)) x26.Marker x26.Pages)]).bind fun v27 =>
    rec1 (i64 (n1 + 1)) r25.2.L r25.2.At v27
   else
   rec1 (i64 (n1 + 1)) r7.2.L r7.2.At l4
  else
  (Gq6 F r7.2 p1 n1 (i64 ((i64 (5 * n1)) + r6.1))).bind fun r28 =>
  (app l4 [r28.1]).bind fun v29 =>
  rec1 (i64 (n1 + 1)) r28.2.L r28.2.At v29
 else
 some (l4, (GDice.mk l2 n3))
def Gq3 (F : Nat) (p1 : Gq55) (p2 : Int) : Nat → Int → (List Int) → Int → (List Gq49) → Option (List Gq49 × GDice)
 | 0 => fun _ _ _ _ => .none
 | n + 1 => Gq4 F p1 p2 (Gq3 F p1 p2 n)
def Gq2 (F : Nat) (p0 : GDice) (p1 : Gq55) (p2 : Int) : Option (List Gq49 × GDice) :=
 Gq3 F p1 p2 F 0 p0.L p0.At ([] : List Gq49)
def q68q (p0 : List Int) (p1 : List Int) (rec1 : Int → Option Bool) (n2 : Int) : Option Bool :=
 if (decide (n2 < (p0.length : Int))) = true then
  (idx p0 n2).bind fun x4 =>
  (idx p1 n2).bind fun x5 =>
  if (x4 != x5) = true then
   some false
  else
  rec1 (i64 (n2 + 1))
 else
 some true
def q34q (p0 : List Int) (p1 : List Int) : Nat → Int → Option Bool
 | 0 => fun _ => .none
 | n + 1 => q68q p0 p1 (q34q p0 p1 n)
def q110q (F : Nat) (p0 : List Int) (p1 : List Int) : Option Bool :=
 if ((p0.length : Int) != (p1.length : Int)) = true then
  some false
 else
 q34q p0 p1 F 0
def q97q (F : Nat) (p0 : Gq49) (p1 : Gq49) : Option Bool :=
 (if (decide (p0.Stamp = p1.Stamp)) = true then if (p0.Kind == p1.Kind) = true then if (p0.Script == p1.Script) = true then if (p0.Part == p1.Part) = true then if (p0.Value == p1.Value) = true then if (p0.Marker == p1.Marker) = true then (q110q F p0.Pages p1.Pages).bind fun r9 => some r9 else some false else some false else some false else some false else some false else some false).bind fun w2 =>
 some w2
def q42q (F : Nat) (p0 : List Gq49) (p1 : List Gq49) (rec1 : Int → Option Bool) (n2 : Int) : Option Bool :=
 if (decide (n2 < (p0.length : Int))) = true then
  (idx p0 n2).bind fun x4 =>
  (idx p1 n2).bind fun x5 =>
  (q97q F x4 x5).bind fun r6 =>
  if (!r6) = true then
   some false
  else
  rec1 (i64 (n2 + 1))
 else
 some true
def q23q (F : Nat) (p0 : List Gq49) (p1 : List Gq49) : Nat → Int → Option Bool
 | 0 => fun _ => .none
 | n + 1 => q42q F p0 p1 (q23q F p0 p1 n)
def q33q (F : Nat) (p0 : List Gq49) (p1 : List Gq49) : Option Bool :=
 if ((p0.length : Int) != (p1.length : Int)) = true then
  some false
 else
 q23q F p0 p1 F 0
def q105q (F : Nat) (p0 : List Gq49) (p1 : Int) : Option (List Gq49 × Int) :=
 (slc p0 0 (min (max p1 0) (p0.length : Int))).bind fun v1 =>
 (q13q F v1).bind fun r2 =>
 some (r2.1, r2.2)
def q127q (p0 : Gq56) : Option Bool :=
 some ((decide (p0.Time ≥ 0)) && ((decide (p0.Time ≤ 1000000)) && ((decide (p0.Source ≥ 0)) && ((decide (p0.Source ≤ 99)) && ((decide (p0.Seq ≥ 0)) && (decide (p0.Seq ≤ 9999)))))))
def ref28_in (p0 : Int) (p1 : Int) (p2 : Int) : Option Bool :=
 some ((decide (p0 ≥ p1)) && (decide (p0 ≤ p2)))
def q79q (p0 : Gq49) (rec1 : Int → Option Bool) (n8 : Int) : Option Bool :=
 if (decide (n8 < (p0.Pages.length : Int))) = true then
  (idx p0.Pages n8).bind fun x10 =>
  (ref28_in x10 0 1152921504606846976).bind fun r11 =>
  if (!r11) = true then
   some false
  else
  rec1 (i64 (n8 + 1))
 else
 if (p0.Kind == 0) = true then
  (if (decide (p0.Stamp.Source ≥ 1)) = true then (ref28_in p0.Part 0 23).bind fun r17 => if r17 = true then (ref28_in p0.Value (-1) 40).bind fun r19 => if r19 = true then some (p0.Marker == 0) else some false else some false else some false).bind fun w15 =>
  some w15
 else
 if (p0.Kind == 1) = true then
  (if (p0.Stamp.Source == 0) = true then if (p0.Script == 0) = true then if (p0.Part == 0) = true then if (p0.Value == 0) = true then (ref28_in p0.Marker 1 99).bind fun r28 => if r28 = true then some ((p0.Pages.length : Int) == 0) else some false else some false else some false else some false else some false).bind fun w23 =>
  some w23
 else
 if (p0.Kind == 2) = true then
  (if (p0.Stamp.Source == 0) = true then if (p0.Value == 0) = true then if (p0.Marker == 0) = true then (ref28_in p0.Part (-1) 23).bind fun r36 => if r36 = true then some ((p0.Pages.length : Int) == 0) else some false else some false else some false else some false).bind fun w32 =>
  some w32
 else
 some false
def q47q (p0 : Gq49) : Nat → Int → Option Bool
 | 0 => fun _ => .none
 | n + 1 => q79q p0 (q47q p0 n)
def q108q (F : Nat) (p0 : Gq49) : Option Bool :=
 ((q127q p0.Stamp).bind fun r3 => if (!r3) = true then some true else (ref28_in p0.Script 0 319999).bind fun r5 => if (!r5) = true then some true else some (decide ((p0.Pages.length : Int) > 12))).bind fun w2 =>
 if w2 = true then
  some false
 else
 q47q p0 F 0
def q43q (F : Nat) (p0 : List Gq49) (rec1 : Int → (List ((Int × Int) × Int)) → (List ((Int × Int) × Bool)) → Option ((List ((Int × Int) × Int)) × (List ((Int × Int) × Bool)))) (n1 : Int) (m2 : List ((Int × Int) × Int)) (m3 : List ((Int × Int) × Bool)) : Option ((List ((Int × Int) × Int)) × (List ((Int × Int) × Bool))) :=
 if (decide (n1 < (p0.length : Int))) = true then
  (idx p0 n1).bind fun x5 =>
  (q108q F x5).bind fun r6 =>
  if (!r6) = true then
   rec1 (i64 (n1 + 1)) m2 m3
  else
  (idx p0 n1).bind fun x8 =>
  (idx p0 n1).bind fun x9 =>
  if (!((mget m2 (x8.Stamp.Source, x9.Stamp.Seq)).isSome)) = true then
   rec1 (i64 (n1 + 1)) (mput m2 (x8.Stamp.Source, x9.Stamp.Seq) n1) m3
  else
  (idx p0 ((mget m2 (x8.Stamp.Source, x9.Stamp.Seq)).getD 0)).bind fun x11 =>
  (idx p0 n1).bind fun x12 =>
  (q97q F x11 x12).bind fun r13 =>
  if (!r13) = true then
   rec1 (i64 (n1 + 1)) m2 (mput m3 (x8.Stamp.Source, x9.Stamp.Seq) true)
  else
  rec1 (i64 (n1 + 1)) m2 m3
 else
 some (m2, m3)
def q24q (F : Nat) (p0 : List Gq49) : Nat → Int → (List ((Int × Int) × Int)) → (List ((Int × Int) × Bool)) → Option ((List ((Int × Int) × Int)) × (List ((Int × Int) × Bool)))
 | 0 => fun _ _ _ => .none
 | n + 1 => q43q F p0 (q24q F p0 n)
def q94q (F : Nat) (p0 : List Gq49) : Option ((List ((Int × Int) × Int)) × (List ((Int × Int) × Bool))) :=
 q24q F p0 F 0 ([] : List ((Int × Int) × Int)) ([] : List ((Int × Int) × Bool))
def q136q (p0 : Gq56) (p1 : Gq56) : Option Bool :=
 if (p0.Time != p1.Time) = true then
  some (decide (p0.Time < p1.Time))
 else
 if (p0.Source != p1.Source) = true then
  some (decide (p0.Source < p1.Source))
 else
 some (decide (p0.Seq < p1.Seq))
def q77q (p0 : Gq49) (p1 : Gq49) : Option Bool :=
 (q136q p0.Stamp p1.Stamp).bind fun r1 =>
 some r1
def q111q (r5 : List Gq49) (r8 : List Gq49) (rec1 : Int → Int → (List Gq49) → Option (List Gq49)) (n9 : Int) (n10 : Int) (l11 : List Gq49) : Option (List Gq49) :=
 if ((decide (n9 < (r5.length : Int))) || (decide (n10 < (r8.length : Int)))) = true then
  (if (n10 == (r8.length : Int)) = true then some true else if (decide (n9 < (r5.length : Int))) = true then (idx r8 n10).bind fun x19 => (idx r5 n9).bind fun x20 => (q77q x19 x20).bind fun r21 => some (!r21) else some false).bind fun w16 =>
  if w16 = true then
   (idx r5 n9).bind fun x23 =>
   (app l11 [x23]).bind fun v24 =>
   rec1 (i64 (n9 + 1)) n10 v24
  else
  (idx r8 n10).bind fun x25 =>
  (app l11 [x25]).bind fun v26 =>
  rec1 n9 (i64 (n10 + 1)) v26
 else
 some l11
def q38q (r5 : List Gq49) (r8 : List Gq49) : Nat → Int → Int → (List Gq49) → Option (List Gq49)
 | 0 => fun _ _ _ => .none
 | n + 1 => q111q r5 r8 (q38q r5 r8 n)
def q98q : Nat → (List Gq49) → Option (List Gq49)
 | 0, _ => .none
 | F + 1, p0 =>
  if (decide ((p0.length : Int) < 2)) = true then
   (app [] p0).bind fun v2 =>
   some v2
  else
  (quo .i64 (p0.length : Int) 2).bind fun v3 =>
  (slc p0 0 v3).bind fun v4 =>
  (q98q F v4).bind fun r5 =>
  (quo .i64 (p0.length : Int) 2).bind fun v6 =>
  (slc p0 v6 (p0.length : Int)).bind fun v7 =>
  (q98q F v7).bind fun r8 =>
  q38q r5 r8 F 0 0 ([] : List Gq49)
def q35q (F : Nat) (p0 : List Gq49) (r1 : (List ((Int × Int) × Int)) × (List ((Int × Int) × Bool))) (rec1 : Int → (List Gq49) → Option (List Gq49 × Int)) (n2 : Int) (l3 : List Gq49) : Option (List Gq49 × Int) :=
 if (decide (n2 < (p0.length : Int))) = true then
  (idx p0 n2).bind fun x5 =>
  (idx p0 n2).bind fun x6 =>
  if ((mget r1.1 (x5.Stamp.Source, x6.Stamp.Seq)).isSome && ((((mget r1.1 (x5.Stamp.Source, x6.Stamp.Seq)).getD 0) == n2) && (!((mget r1.2 (x5.Stamp.Source, x6.Stamp.Seq)).getD false)))) = true then
   (idx p0 n2).bind fun x11 =>
   (app [] x11.Pages).bind fun v12 =>
   (app l3 [(Gq49.mk x11.Stamp x11.Kind x11.Script x11.Part x11.Value x11.Marker v12)]).bind fun v13 =>
   rec1 (i64 (n2 + 1)) v13
  else
  rec1 (i64 (n2 + 1)) l3
 else
 if (decide ((l3.length : Int) > 2000)) = true then
  some ([], 3)
 else
 (q98q F l3).bind fun r15 =>
 some (r15, 0)
def q8q (F : Nat) (p0 : List Gq49) (r1 : (List ((Int × Int) × Int)) × (List ((Int × Int) × Bool))) : Nat → Int → (List Gq49) → Option (List Gq49 × Int)
 | 0 => fun _ _ => .none
 | n + 1 => q35q F p0 r1 (q8q F p0 r1 n)
def q59q (F : Nat) (p0 : List Gq49) : Option (List Gq49 × Int) :=
 (q94q F p0).bind fun r1 =>
 q8q F p0 r1 F 0 ([] : List Gq49)
def q41q (rec1 : Int → (List (Int × Int)) → Option (List (Int × Int))) (r1 : (List ((Int × Int) × Int)) × (List ((Int × Int) × Bool))) (n2 : Int) (rec2 : Int → (List (Int × Int)) → Option (List (Int × Int))) (n7 : Int) (l8 : List (Int × Int)) : Option (List (Int × Int)) :=
 if (decide (n7 ≤ 9999)) = true then
  if ((mget r1.2 (n2, n7)).getD false) = true then
   (app l8 [(n2, n7)]).bind fun v11 =>
   rec2 (i64 (n7 + 1)) v11
  else
  rec2 (i64 (n7 + 1)) l8
 else
 rec1 (i64 (n2 + 1)) l8
def q65q (rec1 : Int → (List (Int × Int)) → Option (List (Int × Int))) (r1 : (List ((Int × Int) × Int)) × (List ((Int × Int) × Bool))) (n2 : Int) : Nat → Int → (List (Int × Int)) → Option (List (Int × Int))
 | 0 => fun _ _ => .none
 | n + 1 => q41q rec1 r1 n2 (q65q rec1 r1 n2 n)
def q40q (F : Nat) (r1 : (List ((Int × Int) × Int)) × (List ((Int × Int) × Bool))) (rec1 : Int → (List (Int × Int)) → Option (List (Int × Int))) (n2 : Int) (l3 : List (Int × Int)) : Option (List (Int × Int)) :=
 if ((decide (n2 ≤ 99)) && (decide ((r1.2.length : Int) > 0))) = true then
  q65q rec1 r1 n2 F 0 l3
 else
 some l3
def q37q (F : Nat) (r1 : (List ((Int × Int) × Int)) × (List ((Int × Int) × Bool))) : Nat → Int → (List (Int × Int)) → Option (List (Int × Int))
 | 0 => fun _ _ => .none
 | n + 1 => q40q F r1 (q37q F r1 n)
def q93q (F : Nat) (p0 : List Gq49) : Option (List (Int × Int)) :=
 (q94q F p0).bind fun r1 =>
 q37q F r1 F 0 ([] : List (Int × Int))
def q76q (p0 : List (Int × Int)) (p1 : List (Int × Int)) (rec1 : Int → Option Bool) (n2 : Int) : Option Bool :=
 if (decide (n2 < (p0.length : Int))) = true then
  (idx p0 n2).bind fun x4 =>
  (idx p1 n2).bind fun x5 =>
  if (!(decide (x4 = x5))) = true then
   some false
  else
  rec1 (i64 (n2 + 1))
 else
 some true
def q44q (p0 : List (Int × Int)) (p1 : List (Int × Int)) : Nat → Int → Option Bool
 | 0 => fun _ => .none
 | n + 1 => q76q p0 p1 (q44q p0 p1 n)
def q117q (F : Nat) (p0 : List (Int × Int)) (p1 : List (Int × Int)) : Option Bool :=
 if ((p0.length : Int) != (p1.length : Int)) = true then
  some false
 else
 q44q p0 p1 F 0
def q118q (F : Nat) (p0 : List Gq49) (p1 : Int) : Option (List Gq49 × Int) :=
 (slc p0 0 (max 0 (min p1 (p0.length : Int)))).bind fun v1 =>
 (q59q F v1).bind fun r2 =>
 some (r2.1, r2.2)
def q54q (p0 : List Gq49) (p1 : Int) (rec1 : Int → (List Gq49) → Option (List Gq49)) (n1 : Int) (l2 : List Gq49) : Option (List Gq49) :=
 if (decide (n1 < (p0.length : Int))) = true then
  (idx p0 n1).bind fun x4 =>
  if (decide (x4.Stamp.Time ≤ p1)) = true then
   (q81q x4).bind fun r6 =>
   (app l2 [r6]).bind fun v7 =>
   rec1 (i64 (n1 + 1)) v7
  else
  rec1 (i64 (n1 + 1)) l2
 else
 some l2
def q29q (p0 : List Gq49) (p1 : Int) : Nat → Int → (List Gq49) → Option (List Gq49)
 | 0 => fun _ _ => .none
 | n + 1 => q54q p0 p1 (q29q p0 p1 n)
def q106q (F : Nat) (p0 : List Gq49) (p1 : Int) : Option (List Gq49) :=
 q29q p0 p1 F 0 ([] : List Gq49)
def q78q (p0 : List Gq49) (p1 : Int) (rec1 : Int → (List Gq49) → Option (List Gq49)) (n1 : Int) (l2 : List Gq49) : Option (List Gq49) :=
 if (decide (n1 < (p0.length : Int))) = true then
  (idx p0 n1).bind fun x4 =>
  if (decide (x4.Stamp.Time ≤ p1)) = true then
   (idx p0 n1).bind fun x6 =>
   (app l2 [x6]).bind fun v7 =>
   rec1 (i64 (n1 + 1)) v7
  else
  rec1 (i64 (n1 + 1)) l2
 else
 some l2
def q46q (p0 : List Gq49) (p1 : Int) : Nat → Int → (List Gq49) → Option (List Gq49)
 | 0 => fun _ _ => .none
 | n + 1 => q78q p0 p1 (q46q p0 p1 n)
def q119q (F : Nat) (p0 : List Gq49) (p1 : Int) : Option (List Gq49) :=
 q46q p0 p1 F 0 ([] : List Gq49)
def mark_Mod (p0 : Int) (p1 : Int) : Option Int :=
 (rmd p0 p1).bind fun v1 =>
 (rmd (i64 (v1 + p1)) p1).bind fun v2 =>
 some v2
def q21q (rec2 : Int → (List Int) → Int → Option Bool) (F : Nat) (p2 : Int) (n15 : Int) (x19 : List Gq49) (r31 : Int × GDice) (rec4 : Int → Option Bool) (n46 : Int) : Option Bool :=
 if (decide (n46 < (x19.length : Int))) = true then
  (mark_Mod p2 (x19.length : Int)).bind fun r48 =>
  (idx x19 r48).bind fun x49 =>
  ((idx x19 n46).bind fun x52 => (q60q F x52).bind fun r53 => (idx x19 n46).bind fun x54 => (q108q F x54).bind fun r55 => if (!(r53 == r55)) = true then some true else (idx x19 n46).bind fun x57 => (q53q F x57 x49).bind fun r58 => (idx x19 n46).bind fun x59 => (q97q F x59 x49).bind fun r60 => if (!(r58 == r60)) = true then some true else (idx x19 n46).bind fun x62 => (q70q F x62 x49).bind fun r63 => (idx x19 n46).bind fun x64 => (q77q x64 x49).bind fun r65 => some (!(r63 == r65))).bind fun w51 =>
  if w51 = true then
   some false
  else
  rec4 (i64 (n46 + 1))
 else
 rec2 (i64 (n15 + 1)) r31.2.L r31.2.At
def q31q (rec2 : Int → (List Int) → Int → Option Bool) (F : Nat) (p2 : Int) (n15 : Int) (x19 : List Gq49) (r31 : Int × GDice) : Nat → Int → Option Bool
 | 0 => fun _ => .none
 | n + 1 => q21q rec2 F p2 n15 x19 r31 (q31q rec2 F p2 n15 x19 r31 n)
def q20q (rec2 : Int → (List Int) → Int → Option Bool) (F : Nat) (p2 : Int) (p3 : Int) (n15 : Int) (x19 : List Gq49) (r31 : Int × GDice) (rec3 : Int → Option Bool) (n32 : Int) : Option Bool :=
 if (decide (n32 < 2)) = true then
  (idx [p2, (i64 (r31.1 - 2))] n32).bind fun x34 =>
  (q105q F x19 x34).bind fun r35 =>
  (q118q F x19 x34).bind fun r36 =>
  ((q33q F r35.1 r36.1).bind fun r39 => if (!r39) = true then some true else some (r35.2 != r36.2)).bind fun w38 =>
  if w38 = true then
   some false
  else
  rec3 (i64 (n32 + 1))
 else
 (q106q F x19 p3).bind fun r42 =>
 (q119q F x19 p3).bind fun r43 =>
 (q33q F r42 r43).bind fun r44 =>
 if (!r44) = true then
  some false
 else
 q31q rec2 F p2 n15 x19 r31 F 0
def q30q (rec2 : Int → (List Int) → Int → Option Bool) (F : Nat) (p2 : Int) (p3 : Int) (n15 : Int) (x19 : List Gq49) (r31 : Int × GDice) : Nat → Int → Option Bool
 | 0 => fun _ => .none
 | n + 1 => q20q rec2 F p2 p3 n15 x19 r31 (q30q rec2 F p2 p3 n15 x19 r31 n)
def q19q (F : Nat) (p1 : List Gq49) (p2 : Int) (p3 : Int) (l10 : List Gq49) (v14 : List Gq49) (rec2 : Int → (List Int) → Int → Option Bool) (n15 : Int) (l16 : List Int) (n17 : Int) : Option Bool :=
 if (decide (n15 < 3)) = true then
  (idx [l10, p1, v14] n15).bind fun x19 =>
  (q13q F x19).bind fun r20 =>
  (q59q F x19).bind fun r21 =>
  ((q33q F r20.1 r21.1).bind fun r24 => if (!r24) = true then some true else if (r20.2 != r21.2) = true then some true else (q45q F x19).bind fun r27 => (q93q F x19).bind fun r28 => (q117q F r27 r28).bind fun r29 => some (!r29)).bind fun w23 =>
  if w23 = true then
   some false
  else
  (Gq14 (GDice.mk l16 n17) 40).bind fun r31 =>
  q30q rec2 F p2 p3 n15 x19 r31 F 0
 else
 (q95q F).bind fun r67 =>
 some r67
def q15q (F : Nat) (p1 : List Gq49) (p2 : Int) (p3 : Int) (l10 : List Gq49) (v14 : List Gq49) : Nat → Int → (List Int) → Int → Option Bool
 | 0 => fun _ _ _ => .none
 | n + 1 => q19q F p1 p2 p3 l10 v14 (q15q F p1 p2 p3 l10 v14 n)
def q3q (F : Nat) (p1 : List Gq49) (p2 : Int) (p3 : Int) (l10 : List Gq49) (l11 : List Int) (n12 : Int) : Option Bool :=
 (app [] l10).bind fun v13 =>
 (app v13 p1).bind fun v14 =>
 q15q F p1 p2 p3 l10 v14 F 0 l11 n12
def q87q (F : Nat) (p0 : List Int) (p1 : List Gq49) (p2 : Int) (p3 : Int) : Option Bool :=
 ((q135q p0).bind fun r3 => if (!r3) = true then some true else some (decide ((p1.length : Int) > 40))).bind fun w2 =>
 if w2 = true then
  (q95q F).bind fun r6 =>
  some r6
 else
 (mark_Roll p0).bind fun r7 =>
 (Gq45 F r7).bind fun r8 =>
 (Gq2 F r8.2 r8.1 30).bind fun r9 =>
 if (decide ((r9.1.length : Int) > 0)) = true then
  (Gq14 r9.2 (r9.1.length : Int)).bind fun r69 =>
  (idx r9.1 r69.1).bind fun x70 =>
  (Gq14 r69.2 6).bind fun r71 =>
  if (r71.1 == 0) = true then
   (Gq25 r71.2 [0, 99, 100, (-1)]).bind fun r73 =>
   (app r9.1 [(Gq49.mk (Gq56.mk x70.Stamp.Time r73.1 x70.Stamp.Seq) x70.Kind x70.Script x70.Part x70.Value x70.Marker x70.Pages)]).bind fun v74 =>
   q3q F p1 p2 p3 v74 r73.2.L r73.2.At
  else
  if (r71.1 == 1) = true then
   (Gq25 r71.2 [(-1), 1, 2, 3]).bind fun r76 =>
   (app r9.1 [(Gq49.mk x70.Stamp r76.1 x70.Script x70.Part x70.Value x70.Marker x70.Pages)]).bind fun v77 =>
   q3q F p1 p2 p3 v77 r76.2.L r76.2.At
  else
  if (r71.1 == 2) = true then
   (Gq25 r71.2 [(-1), (-2), 23, 24]).bind fun r79 =>
   (app r9.1 [(Gq49.mk x70.Stamp x70.Kind x70.Script r79.1 x70.Value x70.Marker x70.Pages)]).bind fun v80 =>
   q3q F p1 p2 p3 v80 r79.2.L r79.2.At
  else
  if (r71.1 == 3) = true then
   (Gq25 r71.2 [(-2), (-1), 40, 41]).bind fun r82 =>
   (app r9.1 [(Gq49.mk x70.Stamp x70.Kind x70.Script x70.Part r82.1 x70.Marker x70.Pages)]).bind fun v83 =>
   q3q F p1 p2 p3 v83 r82.2.L r82.2.At
  else
  if (r71.1 == 4) = true then
   (Gq25 r71.2 [(-1), 0, 1152921504606846976]).bind fun r85 =>
   (app r9.1 ([(Gq49.mk x70.Stamp x70.Kind x70.Script x70.Part x70.Value x70.Marker [r85.1])])).bind fun v86 =>
   q3q F p1 p2 p3 v86 r85.2.L r85.2.At
  else
  (Gq25 r71.2 [0, 1, 100]).bind fun r87 =>
  (app r9.1 [(Gq49.mk x70.Stamp x70.Kind x70.Script x70.Part x70.Value r87.1 x70.Pages)]).bind fun v88 =>
  q3q F p1 p2 p3 v88 r87.2.L r87.2.At
 else
 q3q F p1 p2 p3 r9.1 r9.2.L r9.2.At
end
end Go.Sh
