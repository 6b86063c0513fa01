import Derived.Test.YtdjkbicmkbnjdaaGreatZLb
set_option linter.unusedVariables false
set_option linter.unusedSimpArgs false
set_option maxRecDepth 100000
namespace Go.Sh
open Go.L
noncomputable section
structure GTape where
 L : List Int
 At : Int
 deriving DecidableEq, Inhabited
def GTape.lv (x : GTape) : LV := .agg [(lvl 1 LV.I) x.L, .I x.At]
theorem GTape.ok : OkF 2 GTape.lv := fun _ => ⟨rfl, rfl, rfl⟩
structure Gq3 where
 Time : Int
 Source : Int
 Seq : Int
 deriving DecidableEq, Inhabited
def Gq3.lv (x : Gq3) : LV := .agg [.I x.Time, .I x.Source, .I x.Seq]
theorem Gq3.ok : OkF 3 Gq3.lv := fun _ => ⟨rfl, rfl, rfl⟩
structure Gq0 where
 Stamp : Gq3
 Kind : Int
 Bag : Int
 Seal : Int
 From : Int
 To : Int
 Candidates : List Int
 deriving DecidableEq, Inhabited
def Gq0.lv (x : Gq0) : LV := .agg [.I x.Stamp.Time, .I x.Stamp.Source, .I x.Stamp.Seq, .I x.Kind, .I x.Bag, .I x.Seal, .I x.From, .I x.To, (lvl 1 LV.I) x.Candidates]
theorem Gq0.ok : OkF 9 Gq0.lv := fun _ => ⟨rfl, rfl, rfl⟩
structure GBag where
 Bag : Int
 Holder : Int
 Open : Bool
 Seals : List Int
 Packed : List Int
 Found : List Int
 deriving DecidableEq, Inhabited
def GBag.lv (x : GBag) : LV := .agg [.I x.Bag, .I x.Holder, LV.bool x.Open, (lvl 1 LV.I) x.Seals, (lvl 1 LV.I) x.Packed, (lvl 1 LV.I) x.Found]
theorem GBag.ok : OkF 6 GBag.lv := fun _ => ⟨rfl, rfl, rfl⟩
structure Gq1 where
 Source : Int
 Seq : Int
 deriving DecidableEq, Inhabited
def Gq1.lv (x : Gq1) : LV := .agg [.I x.Source, .I x.Seq]
theorem Gq1.ok : OkF 2 Gq1.lv := fun _ => ⟨rfl, rfl, rfl⟩
structure Gq2 where
 Event : Gq1
 Code : Int
 deriving DecidableEq, Inhabited
def Gq2.lv (x : Gq2) : LV := .agg [.I x.Event.Source, .I x.Event.Seq, .I x.Code]
theorem Gq2.ok : OkF 3 Gq2.lv := fun _ => ⟨rfl, rfl, rfl⟩
structure q0q where
 code : Int
 holds : FnV Bool
 deriving Inhabited
def q0q.lv (x : q0q) : LV := .agg [.I x.code, .fn x.holds.f x.holds.c]
theorem q0q.ok : OkF 2 q0q.lv := fun x => ⟨by simp [q0q.lv, LV.pure, LV.pureL, x.holds.hc], rfl, rfl⟩
structure q1q where
 first : Int
 disputed : Bool
 deriving DecidableEq, Inhabited
def q1q.lv (x : q1q) : LV := .agg [.I x.first, LV.bool x.disputed]
theorem q1q.ok : OkF 2 q1q.lv := fun _ => ⟨rfl, rfl, rfl⟩
def make_New (p0 : List Int) : Option GTape :=
 if (decide ((p0.length : Int) > 600)) = true then
  (slc p0 0 600).bind fun v2 =>
  some (GTape.mk v2 0)
 else
 some (GTape.mk p0 0)
def Gq25 (p0 : GTape) : Option (Int × GTape) :=
 if (decide (p0.At ≥ (p0.L.length : Int))) = true then
  some (0, p0)
 else
 (idx p0.L (i64 ((i64 (p0.At + 1)) - 1))).bind fun x2 =>
 some (x2, (GTape.mk p0.L (i64 (p0.At + 1))))
def make_Cut (p0 : Int) (p1 : Int) : Option Int :=
 if (decide (p1 < 1)) = true then
  some 0
 else
 (rmd p0 p1).bind fun v2 =>
 if (decide (v2 < 0)) = true then
  some (i64 (v2 + p1))
 else
 some v2
def Gq17 (p0 : GTape) (p1 : Int) : Option (Int × GTape) :=
 (Gq25 p0).bind fun r1 =>
 (make_Cut r1.1 p1).bind fun r2 =>
 some (r2, r1.2)
def Gq23 (p0 : GTape) (p1 : Int) (p2 : Int) : Option (Int × GTape) :=
 (Gq17 p0 (i64 ((i64 (p2 - p1)) + 1))).bind fun r1 =>
 some ((i64 (p1 + r1.1)), r1.2)
def Gq21 (p0 : GTape) (p1 : List Int) : Option (Int × GTape) :=
 (Gq17 p0 (p1.length : Int)).bind fun r1 =>
 (idx p1 r1.1).bind fun x2 =>
 some (x2, r1.2)
def Gq29 (p1 : Int) (rec1 : Int → (List Int) → Int → (List Int) → Option (List Int × GTape)) (n1 : Int) (l2 : List Int) (n3 : Int) (l4 : List Int) : Option (List Int × GTape) :=
 if (decide (n1 < p1)) = true then
  (Gq17 (GTape.mk l2 n3) 2).bind fun r6 =>
  if (r6.1 == 1) = true then
   (app l4 [n1]).bind fun v8 =>
   rec1 (i64 (n1 + 1)) r6.2.L r6.2.At v8
  else
  rec1 (i64 (n1 + 1)) r6.2.L r6.2.At l4
 else
 some (l4, (GTape.mk l2 n3))
def Gq28 (p1 : Int) : Nat → Int → (List Int) → Int → (List Int) → Option (List Int × GTape)
 | 0 => fun _ _ _ _ => .none
 | n + 1 => Gq29 p1 (Gq28 p1 n)
def Gq27 (F : Nat) (p0 : GTape) (p1 : Int) : Option (List Int × GTape) :=
 Gq28 p1 F 0 p0.L p0.At ([] : List Int)
def Gq19 (p0 : GTape) (p1 : Int) : Option (Bool × GTape) :=
 (Gq17 p0 p1).bind fun r1 =>
 some ((r1.1 == (i64 (p1 - 1))), r1.2)
def Gq33 (p0 : GTape) : Option (Int × GTape) :=
 (Gq21 p0 [(-1), 0, 1, 2, 31, 32, 99, 100, 200, 201, 9999, 10000, 1000000, 1000001, 1152921504606846976, 1152921504606846977, (-1152921504606846976), 9223372036854775807, (-9223372036854775808)]).bind fun r1 =>
 some (r1.1, r1.2)
def Gq31 (p0 : GTape) (p1 : Int) : Option (Gq3 × GTape) :=
 (Gq23 p0 0 24).bind fun r1 =>
 (Gq23 r1.2 0 3).bind fun r2 =>
 (Gq23 r2.2 0 9).bind fun r3 =>
 (if (decide (p1 > 0)) = true then (Gq19 r3.2 p1).bind fun r9 => some (r9.1, r9.2.L, r9.2.At) else some (false, r3.2.L, r3.2.At)).bind fun w7 =>
 if w7.1 = true then
  (Gq17 (GTape.mk w7.2.1 w7.2.2) 3).bind fun r11 =>
  if (r11.1 == 0) = true then
   (Gq33 r11.2).bind fun r13 =>
   some ((Gq3.mk r13.1 r2.1 r3.1), r13.2)
  else
  if (r11.1 == 1) = true then
   (Gq33 r11.2).bind fun r15 =>
   some ((Gq3.mk r1.1 r15.1 r3.1), r15.2)
  else
  (Gq33 r11.2).bind fun r16 =>
  some ((Gq3.mk r1.1 r2.1 r16.1), r16.2)
 else
 some ((Gq3.mk r1.1 r2.1 r3.1), (GTape.mk w7.2.1 w7.2.2))
def Gq7 (rec1 : Int → (List Int) → Int → (List Int) → (List Int) → (List Gq0) → Option (List Gq0 × GTape)) (n2 : Int) (l7 : List Gq0) (l21 : List Int) (l22 : List Int) (n25 : Int) (n26 : Int) (n27 : Int) (n28 : Int) (n29 : Int) (n30 : Int) (n31 : Int) (n32 : Int) (l33 : List Int) (l34 : List Int) (n35 : Int) : Option (List Gq0 × GTape) :=
 (app l7 [(Gq0.mk (Gq3.mk n25 n26 n27) n28 n29 n30 n31 n32 l33)]).bind fun v36 =>
 (Gq19 (GTape.mk l34 n35) 8).bind fun r37 =>
 if r37.1 = true then
  (Gq17 r37.2 (v36.length : Int)).bind fun r39 =>
  (idx v36 r39.1).bind fun x40 =>
  (app v36 [x40]).bind fun v41 =>
  rec1 (i64 (n2 - 1)) r39.2.L r39.2.At l21 l22 v41
 else
 rec1 (i64 (n2 - 1)) r37.2.L r37.2.At l21 l22 v36
def Gq6 (rec1 : Int → (List Int) → Int → (List Int) → (List Int) → (List Gq0) → Option (List Gq0 × GTape)) (p2 : Int) (n2 : Int) (l7 : List Gq0) (r9 : Int × GTape) (l15 : List Int) (n16 : Int) (n17 : Int) (n18 : Int) (n19 : Int) (n20 : Int) (l21 : List Int) (l22 : List Int) (l23 : List Int) (n24 : Int) : Option (List Gq0 × GTape) :=
 (if (decide (p2 > 0)) = true then (Gq19 (GTape.mk l15 n16) p2).bind fun r47 => some (r47.1, r47.2.L, r47.2.At) else some (false, l15, n16)).bind fun w45 =>
 if w45.1 = true then
  (Gq17 (GTape.mk w45.2.1 w45.2.2) 7).bind fun r49 =>
  if (r49.1 == 0) = true then
   (Gq23 r49.2 (-1) 6).bind fun r51 =>
   Gq7 rec1 n2 l7 l21 l22 (l7.length : Int) n24 (l7.length : Int) r51.1 r9.1 n18 n19 n20 l23 r51.2.L r51.2.At
  else
  if (r49.1 == 1) = true then
   (Gq21 r49.2 [(-1), 0, 3, 9999, 10000]).bind fun r53 =>
   Gq7 rec1 n2 l7 l21 l22 (l7.length : Int) n24 (l7.length : Int) n17 r53.1 n18 n19 n20 l23 r53.2.L r53.2.At
  else
  if (r49.1 == 2) = true then
   (Gq21 r49.2 [(-1), 0, 10, 1000000, 1000001]).bind fun r55 =>
   Gq7 rec1 n2 l7 l21 l22 (l7.length : Int) n24 (l7.length : Int) n17 r9.1 r55.1 n19 n20 l23 r55.2.L r55.2.At
  else
  if (r49.1 == 3) = true then
   (Gq21 r49.2 [(-1), 0, 1, 99, 100]).bind fun r57 =>
   Gq7 rec1 n2 l7 l21 l22 (l7.length : Int) n24 (l7.length : Int) n17 r9.1 n18 r57.1 n20 l23 r57.2.L r57.2.At
  else
  if (r49.1 == 4) = true then
   (Gq21 r49.2 [(-1), 0, 1, 99, 100]).bind fun r59 =>
   Gq7 rec1 n2 l7 l21 l22 (l7.length : Int) n24 (l7.length : Int) n17 r9.1 n18 n19 r59.1 l23 r59.2.L r59.2.At
  else
  if (r49.1 == 5) = true then
   (Gq21 r49.2 [0, 9999, 10000, (-1)]).bind fun r61 =>
   (app l23 [r61.1]).bind fun v62 =>
   Gq7 rec1 n2 l7 l21 l22 (l7.length : Int) n24 (l7.length : Int) n17 r9.1 n18 n19 n20 v62 r61.2.L r61.2.At
  else
  (Gq31 r49.2 4).bind fun r63 =>
  Gq7 rec1 n2 l7 l21 l22 r63.1.Time r63.1.Source r63.1.Seq n17 r9.1 n18 n19 n20 l23 r63.2.L r63.2.At
 else
 Gq7 rec1 n2 l7 l21 l22 (l7.length : Int) n24 (l7.length : Int) n17 r9.1 n18 n19 n20 l23 w45.2.1 w45.2.2
def Gq5 (rec1 : Int → (List Int) → Int → (List Int) → (List Int) → (List Gq0) → Option (List Gq0 × GTape)) (p2 : Int) (n2 : Int) (l7 : List Gq0) (r9 : Int × GTape) (r10 : Int × GTape) (l15 : List Int) (n16 : Int) (n17 : Int) (n18 : Int) (n19 : Int) (n20 : Int) (l21 : List Int) (l22 : List Int) (l23 : List Int) : Option (List Gq0 × GTape) :=
 if (r10.1 != 0) = true then
  Gq6 rec1 p2 n2 l7 r9 l15 n16 n17 n18 n19 n20 l21 l22 l23 (max n19 0)
 else
 Gq6 rec1 p2 n2 l7 r9 l15 n16 n17 n18 n19 n20 l21 l22 l23 r10.1
def Gq11 (rec1 : Int → (List Int) → Int → (List Int) → (List Int) → (List Gq0) → Option (List Gq0 × GTape)) (p2 : Int) (n2 : Int) (l5 : List Int) (l6 : List Int) (l7 : List Gq0) (r9 : Int × GTape) (r10 : Int × GTape) (r67 : Int × GTape) (r68 : Int × GTape) (rec5 : Int → (List Int) → Int → (List Int) → Option (List Gq0 × GTape)) (n69 : Int) (l70 : List Int) (n71 : Int) (l72 : List Int) : Option (List Gq0 × GTape) :=
 if (decide (n69 < 9)) = true then
  ((make_Cut n69 3).bind fun r78 => if (r78 == r9.1) = true then (Gq17 (GTape.mk l70 n71) 3).bind fun r80 => some ((decide (r80.1 > 0)), r80.2.L, r80.2.At) else some (false, l70, n71)).bind fun w77 =>
  if w77.1 = true then
   (app l72 [n69]).bind fun v82 =>
   rec5 (i64 (n69 + 1)) w77.2.1 w77.2.2 v82
  else
  rec5 (i64 (n69 + 1)) w77.2.1 w77.2.2 l72
 else
 (idx l5 r9.1).bind fun x83 =>
 (idx l6 r9.1).bind fun x84 =>
 Gq5 rec1 p2 n2 l7 r9 r10 l70 n71 1 (i64 ((i64 (10 * r9.1)) + r68.1)) r67.1 0 (l5.set r9.1.toNat r67.1) (l6.set r9.1.toNat (i64 ((i64 (10 * r9.1)) + r68.1))) l72
def Gq10 (rec1 : Int → (List Int) → Int → (List Int) → (List Int) → (List Gq0) → Option (List Gq0 × GTape)) (p2 : Int) (n2 : Int) (l5 : List Int) (l6 : List Int) (l7 : List Gq0) (r9 : Int × GTape) (r10 : Int × GTape) (r67 : Int × GTape) (r68 : Int × GTape) : Nat → Int → (List Int) → Int → (List Int) → Option (List Gq0 × GTape)
 | 0 => fun _ _ _ _ => .none
 | n + 1 => Gq11 rec1 p2 n2 l5 l6 l7 r9 r10 r67 r68 (Gq10 rec1 p2 n2 l5 l6 l7 r9 r10 r67 r68 n)
def Gq9 (F : Nat) (p2 : Int) (rec1 : Int → (List Int) → Int → (List Int) → (List Int) → (List Gq0) → Option (List Gq0 × GTape)) (n2 : Int) (l3 : List Int) (n4 : Int) (l5 : List Int) (l6 : List Int) (l7 : List Gq0) : Option (List Gq0 × GTape) :=
 if (decide (n2 > 0)) = true then
  (Gq17 (GTape.mk l3 n4) 3).bind fun r9 =>
  (Gq17 r9.2 2).bind fun r10 =>
  (Gq21 r10.2 [2, 2, 3, 4]).bind fun r11 =>
  (idx l6 r9.1).bind fun x12 =>
  (idx l5 r9.1).bind fun x13 =>
  (Gq21 r11.2 [0, 0, 1, 2]).bind fun r14 =>
  (idx l5 r9.1).bind fun x65 =>
  if (decide (x65 < 0)) = true then
   (Gq23 r14.2 1 3).bind fun r67 =>
   (Gq17 r67.2 4).bind fun r68 =>
   Gq10 rec1 p2 n2 l5 l6 l7 r9 r10 r67 r68 F 0 r68.2.L r68.2.At ([] : List Int)
  else
  if (r11.1 == 2) = true then
   (idx l5 r9.1).bind fun x86 =>
   Gq5 rec1 p2 n2 l7 r9 r10 r14.2.L r14.2.At r11.1 x12 x13 r14.1 (l5.set r9.1.toNat r14.1) l6 ([] : List Int)
  else
  if (r11.1 == 4) = true then
   (Gq17 r14.2 40).bind fun r88 =>
   (idx l6 r9.1).bind fun x89 =>
   Gq5 rec1 p2 n2 l7 r9 r10 r88.2.L r88.2.At r11.1 (i64 (100 + r88.1)) x13 r14.1 l5 (l6.set r9.1.toNat (i64 (100 + r88.1))) ([] : List Int)
  else
  if (r11.1 == 3) = true then
   (Gq27 F r14.2 9).bind fun r91 =>
   Gq5 rec1 p2 n2 l7 r9 r10 r91.2.L r91.2.At r11.1 x12 x13 r14.1 l5 l6 r91.1
  else
  Gq5 rec1 p2 n2 l7 r9 r10 r14.2.L r14.2.At r11.1 x12 x13 r14.1 l5 l6 ([] : List Int)
 else
 some (l7, (GTape.mk l3 n4))
def Gq8 (F : Nat) (p2 : Int) : Nat → Int → (List Int) → Int → (List Int) → (List Int) → (List Gq0) → Option (List Gq0 × GTape)
 | 0 => fun _ _ _ _ _ _ => .none
 | n + 1 => Gq9 F p2 (Gq8 F p2 n)
def Gq4 (F : Nat) (p0 : GTape) (p1 : Int) (p2 : Int) : Option (List Gq0 × GTape) :=
 (Gq23 p0 0 p1).bind fun r1 =>
 Gq8 F p2 F r1.1 r1.2.L r1.2.At [(-1), (-1), (-1)] [0, 0, 0] ([] : List Gq0)
def copies_Split_BagEvent_L1_B (p0 : List Gq0) (p1 : (Gq0 → Option Gq3)) (p2 : (Gq0 → Gq0 → Option Bool)) (rec1 : Int → (List Gq3) → (List Int) → (List (Gq3 × Int)) → Option (List Gq3 × List Int)) (n3 : Int) (l4 : List Gq3) (l5 : List Int) (m6 : List (Gq3 × Int)) : Option (List Gq3 × List Int) :=
 if (decide (n3 < (p0.length : Int))) = true then
  (idx p0 n3).bind fun x8 =>
  (p1 x8).bind fun r9 =>
  (idx l4 n3).bind fun x10 =>
  (idx (l4.set n3.toNat r9) n3).bind fun x11 =>
  if (!((mget m6 x11).isSome)) = true then
   (idx (l4.set n3.toNat r9) n3).bind fun x13 =>
   rec1 (i64 (n3 + 1)) (l4.set n3.toNat r9) l5 (mput m6 x13 n3)
  else
  (idx p0 ((mget m6 x11).getD 0)).bind fun x14 =>
  (p2 x14 x8).bind fun r15 =>
  if (!r15) = true then
   (idx l5 n3).bind fun x17 =>
   rec1 (i64 (n3 + 1)) (l4.set n3.toNat r9) (l5.set n3.toNat 1) m6
  else
  rec1 (i64 (n3 + 1)) (l4.set n3.toNat r9) l5 m6
 else
 some (l4, l5)
def copies_Split_BagEvent_L1 (p0 : List Gq0) (p1 : (Gq0 → Option Gq3)) (p2 : (Gq0 → Gq0 → Option Bool)) : Nat → Int → (List Gq3) → (List Int) → (List (Gq3 × Int)) → Option (List Gq3 × List Int)
 | 0 => fun _ _ _ _ => .none
 | n + 1 => copies_Split_BagEvent_L1_B p0 p1 p2 (copies_Split_BagEvent_L1 p0 p1 p2 n)
def copies_Split_BagEvent (F : Nat) (p0 : List Gq0) (p1 : (Gq0 → Option Gq3)) (p2 : (Gq0 → Gq0 → Option Bool)) : Option (List Gq3 × List Int) :=
 (mkl ((Gq3.mk 0 0 0) : Gq3) (p0.length : Int)).bind fun v1 =>
 (mkl (0 : Int) (p0.length : Int)).bind fun v2 =>
 copies_Split_BagEvent_L1 p0 p1 p2 F 0 v1 v2 ([] : List (Gq3 × Int))
def q211q (p0 : Gq3) : Option Bool :=
 some ((decide (p0.Time ≥ 0)) && ((decide (p0.Time ≤ 1000000)) && ((decide (p0.Source ≥ 0)) && ((decide (p0.Source ≤ 99)) && ((decide (p0.Seq ≥ 0)) && (decide (p0.Seq ≤ 9999)))))))
def cmp_isNaN_int (p0 : Int) : Option Bool :=
 some (p0 != p0)
def cmp_Compare_int (p0 : Int) (p1 : Int) : Option Int :=
 (cmp_isNaN_int p0).bind fun r1 =>
 (cmp_isNaN_int p1).bind fun r2 =>
 if r1 = true then
  if r2 = true then
   some 0
  else
  some (-1)
 else
 if r2 = true then
  some 1
 else
 if (decide (p0 < p1)) = true then
  some (-1)
 else
 if (decide (p0 > p1)) = true then
  some 1
 else
 some 0
def cmp_Or_int_L1_B (p0 : List Int) (rec1 : Int → Option Int) (n1 : Int) : Option Int :=
 if (decide (n1 < (p0.length : Int))) = true then
  (idx p0 n1).bind fun x3 =>
  if (x3 != 0) = true then
   some x3
  else
  rec1 (i64 (n1 + 1))
 else
 some 0
def cmp_Or_int_L1 (p0 : List Int) : Nat → Int → Option Int
 | 0 => fun _ => .none
 | n + 1 => cmp_Or_int_L1_B p0 (cmp_Or_int_L1 p0 n)
def cmp_Or_int (F : Nat) (p0 : List Int) : Option Int :=
 cmp_Or_int_L1 p0 F 0
def q52q (F : Nat) (p0 : Gq3) (p1 : Gq3) : Option Int :=
 (cmp_Compare_int p0.Source p1.Source).bind fun r1 =>
 (cmp_Compare_int p0.Seq p1.Seq).bind fun r2 =>
 (cmp_Or_int F [r1, r2]).bind fun r3 =>
 some r3
def q144q (F : Nat) (p0 : Int) (p1 : Int) (c0 : List Gq3) : Option Int :=
 (idx c0 p0).bind fun x1 =>
 (idx c0 p1).bind fun x2 =>
 (q52q F x1 x2).bind fun r3 =>
 (cmp_Compare_int p0 p1).bind fun r4 =>
 (cmp_Or_int F [r3, r4]).bind fun r5 =>
 some r5
def q141q (F : Nat) (p0 : List Gq3) (p1 : List Int) (l8 : List Int) (rec2 : Int → (List q1q) → Option (List q1q)) (n9 : Int) (l10 : List q1q) : Option (List q1q) :=
 if (decide (n9 < (l8.length : Int))) = true then
  (idx l8 n9).bind fun x12 =>
  (if (decide ((i64 ((l10.length : Int) - 1)) < 0)) = true then some true else (idx l10 (i64 ((l10.length : Int) - 1))).bind fun x16 => (idx p0 x16.first).bind fun x17 => (idx p0 x12).bind fun x18 => (q52q F x17 x18).bind fun r19 => some (r19 != 0)).bind fun w14 =>
  if w14 = true then
   (app l10 [(q1q.mk x12 false)]).bind fun v21 =>
   rec2 (i64 (n9 + 1)) v21
  else
  (idx l10 (i64 ((l10.length : Int) - 1))).bind fun x22 =>
  ((idx p0 x22.first).bind fun x25 => (idx p0 x12).bind fun x26 => if (!(decide (x25 = x26))) = true then some true else (idx p1 x22.first).bind fun x28 => (idx p1 x12).bind fun x29 => some (x28 != x29)).bind fun w24 =>
  if w24 = true then
   (idx l10 (i64 ((l10.length : Int) - 1))).bind fun x31 =>
   rec2 (i64 (n9 + 1)) (l10.set ((i64 ((l10.length : Int) - 1)).toNat) (q1q.mk x31.first true))
  else
  rec2 (i64 (n9 + 1)) l10
 else
 some l10
def q128q (F : Nat) (p0 : List Gq3) (p1 : List Int) (l8 : List Int) : Nat → Int → (List q1q) → Option (List q1q)
 | 0 => fun _ _ => .none
 | n + 1 => q141q F p0 p1 l8 (q128q F p0 p1 l8 n)
def q140q (F : Nat) (p0 : List Gq3) (p1 : List Int) (rec1 : Int → (List Int) → Option (List q1q)) (n1 : Int) (l2 : List Int) : Option (List q1q) :=
 if (decide (n1 < (p0.length : Int))) = true then
  (idx p0 n1).bind fun x4 =>
  (q211q x4).bind fun r5 =>
  if r5 = true then
   (app l2 [n1]).bind fun v7 =>
   rec1 (i64 (n1 + 1)) v7
  else
  rec1 (i64 (n1 + 1)) l2
 else
 (sortF (fun a0 a1 => q144q F a0 a1 p0) l2).bind fun l8 =>
 q128q F p0 p1 l8 F 0 ([] : List q1q)
def q127q (F : Nat) (p0 : List Gq3) (p1 : List Int) : Nat → Int → (List Int) → Option (List q1q)
 | 0 => fun _ _ => .none
 | n + 1 => q140q F p0 p1 (q127q F p0 p1 n)
def q207q (F : Nat) (p0 : List Gq3) (p1 : List Int) : Option (List q1q) :=
 q127q F p0 p1 F 0 ([] : List Int)
def q174q (F : Nat) (p0 : Gq3) (p1 : Gq3) : Option Int :=
 (cmp_Compare_int p0.Time p1.Time).bind fun r1 =>
 (cmp_Compare_int p0.Source p1.Source).bind fun r2 =>
 (cmp_Compare_int p0.Seq p1.Seq).bind fun r3 =>
 (cmp_Or_int F [r1, r2, r3]).bind fun r4 =>
 some r4
def q103q (F : Nat) (p0 : Int) (p1 : Int) (c0 : List Gq3) : Option Int :=
 (idx c0 p0).bind fun x1 =>
 (idx c0 p1).bind fun x2 =>
 (q174q F x1 x2).bind fun r3 =>
 some r3
def q100q (F : Nat) (p0 : List Gq3) (r2 : List q1q) (rec1 : Int → (List Int) → Option (List Int × Int)) (n3 : Int) (l4 : List Int) : Option (List Int × Int) :=
 if (decide (n3 < (r2.length : Int))) = true then
  (idx r2 n3).bind fun x6 =>
  if (!x6.disputed) = true then
   (app l4 [x6.first]).bind fun v8 =>
   rec1 (i64 (n3 + 1)) v8
  else
  rec1 (i64 (n3 + 1)) l4
 else
 if (decide ((l4.length : Int) > 300)) = true then
  some ([], 3)
 else
 (sortF (fun a0 a1 => q103q F a0 a1 p0) l4).bind fun l10 =>
 some (l10, 0)
def q79q (F : Nat) (p0 : List Gq3) (r2 : List q1q) : Nat → Int → (List Int) → Option (List Int × Int)
 | 0 => fun _ _ => .none
 | n + 1 => q100q F p0 r2 (q79q F p0 r2 n)
def q126q (F : Nat) (p0 : List Gq3) (p1 : List Int) : Option (List Int × Int) :=
 if ((p0.length : Int) != (p1.length : Int)) = true then
  some ([], 1)
 else
 (q207q F p0 p1).bind fun r2 =>
 q79q F p0 r2 F 0 ([] : List Int)
def copies_Canonical_BagEvent (F : Nat) (p0 : List Gq0) (p1 : (Gq0 → Option Gq3)) (p2 : (Gq0 → Gq0 → Option Bool)) : Option (List Int × Int) :=
 (copies_Split_BagEvent F p0 p1 p2).bind fun r1 =>
 (q126q F r1.1 r1.2).bind fun r2 =>
 some (r2.1, r2.2)
def q157q (p0 : Gq0) : Option Gq3 :=
 some p0.Stamp
def q9q (p0 : List Int) (p1 : List Int) (rec1 : Int → Option Bool) (n2 : Int) : Option Bool :=
 if (decide (n2 < (p0.length : Int))) = true then
  (idx p0 n2).bind fun x4 =>
  (idx p1 n2).bind fun x5 =>
  if (x4 != x5) = true then
   some false
  else
  rec1 (i64 (n2 + 1))
 else
 some true
def q2q (p0 : List Int) (p1 : List Int) : Nat → Int → Option Bool
 | 0 => fun _ => .none
 | n + 1 => q9q p0 p1 (q2q p0 p1 n)
def q16q (F : Nat) (p0 : List Int) (p1 : List Int) : Option Bool :=
 if ((p0.length : Int) != (p1.length : Int)) = true then
  some false
 else
 q2q p0 p1 F 0
def q145q (F : Nat) (p0 : Gq0) (p1 : Gq0) : Option Bool :=
 (if (decide (p0.Stamp = p1.Stamp)) = true then if (p0.Kind == p1.Kind) = true then if (p0.Bag == p1.Bag) = true then if (p0.Seal == p1.Seal) = true then if (p0.From == p1.From) = true then if (p0.To == p1.To) = true then (q16q F p0.Candidates p1.Candidates).bind fun r9 => some r9 else some false else some false else some false else some false else some false else some false).bind fun w2 =>
 some w2
def q63q (p0 : List Gq0) (r1 : List Int × Int) (rec1 : Int → (List Gq0) → Option (List Gq0 × Int)) (n4 : Int) (l5 : List Gq0) : Option (List Gq0 × Int) :=
 if (decide (n4 < (r1.1.length : Int))) = true then
  (idx r1.1 n4).bind fun x7 =>
  (idx p0 x7).bind fun x8 =>
  (idx l5 n4).bind fun x9 =>
  (idx p0 x7).bind fun x10 =>
  (app [] x10.Candidates).bind fun v11 =>
  (idx (l5.set n4.toNat x8) n4).bind fun x12 =>
  rec1 (i64 (n4 + 1)) ((l5.set n4.toNat x8).set n4.toNat (Gq0.mk x12.Stamp x12.Kind x12.Bag x12.Seal x12.From x12.To v11))
 else
 some (l5, 0)
def q43q (p0 : List Gq0) (r1 : List Int × Int) : Nat → Int → (List Gq0) → Option (List Gq0 × Int)
 | 0 => fun _ _ => .none
 | n + 1 => q63q p0 r1 (q43q p0 r1 n)
def q133q (F : Nat) (p0 : List Gq0) : Option (List Gq0 × Int) :=
 (copies_Canonical_BagEvent F p0 (fun a0 => q157q a0) (fun a0 a1 => q145q F a0 a1)).bind fun r1 =>
 if (r1.2 != 0) = true then
  some ([], r1.2)
 else
 (mkl ((Gq0.mk (Gq3.mk 0 0 0) 0 0 0 0 0 []) : Gq0) (r1.1.length : Int)).bind fun v3 =>
 q43q p0 r1 F 0 v3
def q15q (p0 : List GBag) (p1 : Int) (p2 : (GBag → Int → Option Int)) (rec1 : Int → Int → Option (Int × Bool)) (n1 : Int) (n2 : Int) : Option (Int × Bool) :=
 if (decide (n1 < n2)) = true then
  (idx p0 (i64 (shrI .u64 (IntKind.u64.wrap (i64 (n1 + n2))) 1))).bind fun x4 =>
  (p2 x4 p1).bind fun r5 =>
  if (decide (r5 < 0)) = true then
   rec1 (i64 ((i64 (shrI .u64 (IntKind.u64.wrap (i64 (n1 + n2))) 1)) + 1)) n2
  else
  rec1 n1 (i64 (shrI .u64 (IntKind.u64.wrap (i64 (n1 + n2))) 1))
 else
 (if (decide (n1 < (p0.length : Int))) = true then (idx p0 n1).bind fun x10 => (p2 x10 p1).bind fun r11 => some (r11 == 0) else some false).bind fun w8 =>
 some (n1, w8)
def q4q (p0 : List GBag) (p1 : Int) (p2 : (GBag → Int → Option Int)) : Nat → Int → Int → Option (Int × Bool)
 | 0 => fun _ _ => .none
 | n + 1 => q15q p0 p1 p2 (q4q p0 p1 p2 n)
def q12q (F : Nat) (p0 : List GBag) (p1 : Int) (p2 : (GBag → Int → Option Int)) : Option (Int × Bool) :=
 q4q p0 p1 p2 F 0 (p0.length : Int)
def q106q (p0 : GBag) (p1 : Int) : Option Int :=
 (cmp_Compare_int p0.Bag p1).bind fun r1 =>
 some r1
def q168q (p0 : Int) : Option Bool :=
 some ((decide (p0 ≥ 0)) && (decide (p0 ≤ 9999)))
def q165q (p0 : Int) : Option Bool :=
 some ((decide (p0 ≥ 0)) && (decide (p0 ≤ 1000000)))
def q105q (p0 : Int) : Option Bool :=
 some ((decide (p0 ≥ 0)) && (decide (p0 ≤ 99)))
def q104q (p0 : List Int) (rec1 : Int → Option Bool) (n2 : Int) : Option Bool :=
 if (decide (n2 < (p0.length : Int))) = true then
  (idx p0 n2).bind fun x4 =>
  (if (decide (x4 < 0)) = true then some true else if (decide (x4 > 9999)) = true then some true else if (decide (n2 > 0)) = true then (idx p0 (i64 (n2 - 1))).bind fun x10 => some (decide (x10 ≥ x4)) else some false).bind fun w6 =>
  if w6 = true then
   some false
  else
  rec1 (i64 (n2 + 1))
 else
 some true
def q61q (p0 : List Int) : Nat → Int → Option Bool
 | 0 => fun _ => .none
 | n + 1 => q104q p0 (q61q p0 n)
def q143q (F : Nat) (p0 : List Int) : Option Bool :=
 if (decide ((p0.length : Int) > 60)) = true then
  some false
 else
 q61q p0 F 0
def q114q (F : Nat) (p0 : Gq0) : Option Bool :=
 (if (decide (p0.Kind < 1)) = true then some true else if (decide (p0.Kind > 4)) = true then some true else (q168q p0.Bag).bind fun r5 => if (!r5) = true then some true else (q165q p0.Seal).bind fun r7 => if (!r7) = true then some true else (q105q p0.From).bind fun r9 => some (!r9)).bind fun w2 =>
 if w2 = true then
  some true
 else
 if (p0.Kind == 2) = true then
  (q105q p0.To).bind fun r12 =>
  some (!r12)
 else
 if (p0.Kind == 1) = true then
  if (p0.Kind == 1) = true then
   (q143q F p0.Candidates).bind fun r15 =>
   some (!r15)
  else
  some false
 else
 if (p0.Kind == 3) = true then
  (q143q F p0.Candidates).bind fun r17 =>
  some (!r17)
 else
 some false
def q18q (F : Nat) (c0 : Gq0) : Option Bool :=
 (q114q F c0).bind fun r1 =>
 some r1
def q19q (c0 : Gq0) : Option Bool :=
 some ((c0.Stamp.Source != 0) && (c0.Stamp.Source != c0.From))
def q23q (c0 : Gq0) : Option Bool :=
 some (c0.From == 0)
def q24q (c0 : Bool) : Option Bool :=
 some c0
def q17q (p0 : List Int) (p1 : Int) (rec1 : Int → Option Int) (n1 : Int) : Option Int :=
 if (decide (n1 < (p0.length : Int))) = true then
  (idx p0 n1).bind fun x3 =>
  if (p1 == x3) = true then
   some n1
  else
  rec1 (i64 (n1 + 1))
 else
 some (-1)
def q3q (p0 : List Int) (p1 : Int) : Nat → Int → Option Int
 | 0 => fun _ => .none
 | n + 1 => q17q p0 p1 (q3q p0 p1 n)
def q99q (F : Nat) (p0 : List Int) (p1 : Int) : Option Int :=
 q3q p0 p1 F 0
def q13q (F : Nat) (p0 : List Int) (p1 : Int) : Option Bool :=
 (q99q F p0 p1).bind fun r1 =>
 some (decide (r1 ≥ 0))
def q146q (F : Nat) (p0 : GBag) (c0 : (GBag → Option (List Int))) (c1 : Int) : Option Bool :=
 (c0 p0).bind fun r1 =>
 (q13q F r1 c1).bind fun r2 =>
 some r2
def q37q (p0 : List GBag) (p1 : (GBag → Option Bool)) (rec1 : Int → Option Int) (n1 : Int) : Option Int :=
 if (decide (n1 < (p0.length : Int))) = true then
  (idx p0 n1).bind fun x3 =>
  (p1 x3).bind fun r4 =>
  if r4 = true then
   some n1
  else
  rec1 (i64 (n1 + 1))
 else
 some (-1)
def q5q (p0 : List GBag) (p1 : (GBag → Option Bool)) : Nat → Int → Option Int
 | 0 => fun _ => .none
 | n + 1 => q37q p0 p1 (q5q p0 p1 n)
def q97q (F : Nat) (p0 : List GBag) (p1 : (GBag → Option Bool)) : Option Int :=
 q5q p0 p1 F 0
def q42q (F : Nat) (p0 : List GBag) (p1 : (GBag → Option Bool)) : Option Bool :=
 (q97q F p0 p1).bind fun r1 =>
 some (decide (r1 ≥ 0))
def q60q (F : Nat) (p0 : List GBag) (p1 : Int) (p2 : (GBag → Option (List Int))) : Option Bool :=
 (q42q F p0 (fun a0 => q146q F a0 p2 p1)).bind fun r1 =>
 some r1
def q122q (p0 : GBag) : Option (List Int) :=
 some p0.Seals
def q147q (p0 : GBag) : Option (List Int) :=
 some p0.Packed
def q49q (F : Nat) (p0 : Int) (c0 : List GBag) : Option Bool :=
 (q60q F c0 p0 (fun a0 => q147q a0)).bind fun r1 =>
 some r1
def q38q (p0 : List Int) (p1 : (Int → Option Bool)) (rec1 : Int → Option Int) (n1 : Int) : Option Int :=
 if (decide (n1 < (p0.length : Int))) = true then
  (idx p0 n1).bind fun x3 =>
  (p1 x3).bind fun r4 =>
  if r4 = true then
   some n1
  else
  rec1 (i64 (n1 + 1))
 else
 some (-1)
def q6q (p0 : List Int) (p1 : (Int → Option Bool)) : Nat → Int → Option Int
 | 0 => fun _ => .none
 | n + 1 => q38q p0 p1 (q6q p0 p1 n)
def q98q (F : Nat) (p0 : List Int) (p1 : (Int → Option Bool)) : Option Int :=
 q6q p0 p1 F 0
def q22q (F : Nat) (p0 : List Int) (p1 : (Int → Option Bool)) : Option Bool :=
 (q98q F p0 p1).bind fun r1 =>
 some (decide (r1 ≥ 0))
def q25q (F : Nat) (c0 : List GBag) (c1 : Gq0) : Option Bool :=
 ((q60q F c0 c1.Seal (fun a0 => q122q a0)).bind fun r3 => if r3 = true then some true else (q22q F c1.Candidates (fun a0 => q49q F a0 c0)).bind fun r5 => some r5).bind fun w2 =>
 some w2
def q26q (c0 : List GBag) : Option Bool :=
 some (decide ((c0.length : Int) ≥ 20))
def q50q (F : Nat) (p0 : List GBag) (p1 : Gq0) (p2 : Bool) : Option (List q0q) :=
 some ([(q0q.mk 8 (FnV.mk 83 [.sptr [.I p1.Stamp.Time, .I p1.Stamp.Source, .I p1.Stamp.Seq, .I p1.Kind, .I p1.Bag, .I p1.Seal, .I p1.From, .I p1.To, .L p1.Candidates]] (q23q p1) rfl)), (q0q.mk 5 (FnV.mk 84 [.sptr [.bool p2]] (q24q p2) rfl)), (q0q.mk 9 (FnV.mk 85 [.sptr [.lst 6 (List.map GBag.lv p0)], .sptr [.I p1.Stamp.Time, .I p1.Stamp.Source, .I p1.Stamp.Seq, .I p1.Kind, .I p1.Bag, .I p1.Seal, .I p1.From, .I p1.To, .L p1.Candidates]] (q25q F p0 p1) rfl)), (q0q.mk 3 (FnV.mk 88 [.sptr [.lst 6 (List.map GBag.lv p0)]] (q26q p0) rfl))])
def q27q (c0 : Bool) : Option Bool :=
 some (!c0)
def q28q (c0 : List GBag) (c1 : Int) (c2 : Gq0) : Option Bool :=
 ((idx c0 c1).bind fun x3 => if x3.Open = true then some true else (idx c0 c1).bind fun x5 => if (x5.Holder != c2.From) = true then some true else if (c2.Kind == 2) = true then if (c2.To == c2.From) = true then some true else if (c2.Kind == 3) = true then some (c2.From != 0) else some false else if (c2.Kind == 3) = true then some (c2.From != 0) else some false).bind fun w2 =>
 some w2
def q29q (F : Nat) (c0 : Gq0) (c1 : List GBag) (c2 : Int) : Option Bool :=
 if (c0.Kind == 4) = true then
  (q60q F c1 c0.Seal (fun a0 => q122q a0)).bind fun r2 =>
  some r2
 else
 (idx c1 c2).bind fun x3 =>
 (idx x3.Seals (i64 ((x3.Seals.length : Int) - 1))).bind fun x4 =>
 some (x4 != c0.Seal)
def q30q (c0 : Gq0) (c1 : List GBag) (c2 : Int) : Option Bool :=
 (if (c0.Kind == 4) = true then (idx c1 c2).bind fun x4 => some (decide ((x4.Seals.length : Int) ≥ 300)) else some false).bind fun w2 =>
 some w2
def q51q (F : Nat) (p0 : List GBag) (p1 : Gq0) (p2 : Int) (p3 : Bool) : Option (List q0q) :=
 some ([(q0q.mk 4 (FnV.mk 89 [.sptr [.bool p3]] (q27q p3) rfl)), (q0q.mk 8 (FnV.mk 90 [.sptr [.lst 6 (List.map GBag.lv p0)], .sptr [.I p2], .sptr [.I p1.Stamp.Time, .I p1.Stamp.Source, .I p1.Stamp.Seq, .I p1.Kind, .I p1.Bag, .I p1.Seal, .I p1.From, .I p1.To, .L p1.Candidates]] (q28q p0 p2 p1) rfl)), (q0q.mk 9 (FnV.mk 91 [.sptr [.I p1.Stamp.Time, .I p1.Stamp.Source, .I p1.Stamp.Seq, .I p1.Kind, .I p1.Bag, .I p1.Seal, .I p1.From, .I p1.To, .L p1.Candidates], .sptr [.lst 6 (List.map GBag.lv p0)], .sptr [.I p2]] (q29q F p1 p0 p2) rfl)), (q0q.mk 3 (FnV.mk 92 [.sptr [.I p1.Stamp.Time, .I p1.Stamp.Source, .I p1.Stamp.Seq, .I p1.Kind, .I p1.Bag, .I p1.Seal, .I p1.From, .I p1.To, .L p1.Candidates], .sptr [.lst 6 (List.map GBag.lv p0)], .sptr [.I p2]] (q30q p1 p0 p2) rfl))])
def q113q (p0 : List q0q) (rec1 : Int → Option Int) (n1 : Int) : Option Int :=
 if (decide (n1 < (p0.length : Int))) = true then
  (idx p0 n1).bind fun x3 =>
  (x3.holds.m).bind fun r4 =>
  if r4 = true then
   some x3.code
  else
  rec1 (i64 (n1 + 1))
 else
 some 0
def q66q (p0 : List q0q) : Nat → Int → Option Int
 | 0 => fun _ => .none
 | n + 1 => q113q p0 (q66q p0 n)
def q167q (F : Nat) (p0 : List q0q) : Option Int :=
 q66q p0 F 0
def q53q (p0 : GBag) : Option GBag :=
 (app [] p0.Seals).bind fun v1 =>
 (app [] p0.Packed).bind fun v2 =>
 (app [] p0.Found).bind fun v3 =>
 some (GBag.mk p0.Bag p0.Holder p0.Open v1 v2 v3)
def q64q (p0 : List GBag) (rec1 : Int → (List GBag) → Option (List GBag)) (n2 : Int) (l3 : List GBag) : Option (List GBag) :=
 if (decide (n2 < (p0.length : Int))) = true then
  (idx p0 n2).bind fun x5 =>
  (q53q x5).bind fun r6 =>
  (idx l3 n2).bind fun x7 =>
  rec1 (i64 (n2 + 1)) (l3.set (n2).toNat r6)
 else
 some l3
def q44q (p0 : List GBag) : Nat → Int → (List GBag) → Option (List GBag)
 | 0 => fun _ _ => .none
 | n + 1 => q64q p0 (q44q p0 n)
def q101q (F : Nat) (p0 : List GBag) : Option (List GBag) :=
 (mkl ((GBag.mk 0 0 false [] [] []) : GBag) (p0.length : Int)).bind fun v1 =>
 q44q p0 F 0 v1
def q181q (F : Nat) (p0 : List GBag) (p1 : Gq0) : Option (List GBag × Int) :=
 (q12q F p0 p1.Bag (fun a0 a1 => q106q a0 a1)).bind fun r1 =>
 if (p1.Kind == 1) = true then
  (q50q F p0 p1 r1.2).bind fun r3 =>
  (app ([(q0q.mk 2 (FnV.mk 62 [.sptr [.I p1.Stamp.Time, .I p1.Stamp.Source, .I p1.Stamp.Seq, .I p1.Kind, .I p1.Bag, .I p1.Seal, .I p1.From, .I p1.To, .L p1.Candidates]] (q18q F p1) rfl)), (q0q.mk 28 (FnV.mk 64 [.sptr [.I p1.Stamp.Time, .I p1.Stamp.Source, .I p1.Stamp.Seq, .I p1.Kind, .I p1.Bag, .I p1.Seal, .I p1.From, .I p1.To, .L p1.Candidates]] (q19q p1) rfl))]) r3).bind fun v4 =>
  (q167q F v4).bind fun r5 =>
  if (r5 != 0) = true then
   some ([], r5)
  else
  (q101q F p0).bind fun r7 =>
  if (p1.Kind == 1) = true then
   (app [] p1.Candidates).bind fun v9 =>
   (insF r7 r1.1 (GBag.mk p1.Bag p1.From false [p1.Seal] v9 [])).bind fun v10 =>
   some (v10, 0)
  else
  if (p1.Kind == 2) = true then
   (idx r7 r1.1).bind fun x12 =>
   some ((r7.set (r1.1).toNat (GBag.mk x12.Bag p1.To x12.Open x12.Seals x12.Packed x12.Found)), 0)
  else
  if (p1.Kind == 3) = true then
   (idx r7 r1.1).bind fun x14 =>
   (app [] p1.Candidates).bind fun v15 =>
   (idx (r7.set (r1.1).toNat (GBag.mk x14.Bag x14.Holder true x14.Seals x14.Packed x14.Found)) r1.1).bind fun x16 =>
   some (((r7.set (r1.1).toNat (GBag.mk x14.Bag x14.Holder true x14.Seals x14.Packed x14.Found)).set (r1.1).toNat (GBag.mk x16.Bag x16.Holder x16.Open x16.Seals x16.Packed v15)), 0)
  else
  if (p1.Kind == 4) = true then
   (idx r7 r1.1).bind fun x18 =>
   (app x18.Seals [p1.Seal]).bind fun v19 =>
   some ((r7.set (r1.1).toNat (GBag.mk x18.Bag x18.Holder x18.Open v19 x18.Packed x18.Found)), 0)
  else
  some (r7, 0)
 else
 (q51q F p0 p1 r1.1 r1.2).bind fun r20 =>
 (app ([(q0q.mk 2 (FnV.mk 62 [.sptr [.I p1.Stamp.Time, .I p1.Stamp.Source, .I p1.Stamp.Seq, .I p1.Kind, .I p1.Bag, .I p1.Seal, .I p1.From, .I p1.To, .L p1.Candidates]] (q18q F p1) rfl)), (q0q.mk 28 (FnV.mk 64 [.sptr [.I p1.Stamp.Time, .I p1.Stamp.Source, .I p1.Stamp.Seq, .I p1.Kind, .I p1.Bag, .I p1.Seal, .I p1.From, .I p1.To, .L p1.Candidates]] (q19q p1) rfl))]) r20).bind fun v21 =>
 (q167q F v21).bind fun r22 =>
 if (r22 != 0) = true then
  some ([], r22)
 else
 (q101q F p0).bind fun r24 =>
 if (p1.Kind == 1) = true then
  (app [] p1.Candidates).bind fun v26 =>
  (insF r24 r1.1 (GBag.mk p1.Bag p1.From false [p1.Seal] v26 [])).bind fun v27 =>
  some (v27, 0)
 else
 if (p1.Kind == 2) = true then
  (idx r24 r1.1).bind fun x29 =>
  some ((r24.set (r1.1).toNat (GBag.mk x29.Bag p1.To x29.Open x29.Seals x29.Packed x29.Found)), 0)
 else
 if (p1.Kind == 3) = true then
  (idx r24 r1.1).bind fun x31 =>
  (app [] p1.Candidates).bind fun v32 =>
  (idx (r24.set (r1.1).toNat (GBag.mk x31.Bag x31.Holder true x31.Seals x31.Packed x31.Found)) r1.1).bind fun x33 =>
  some (((r24.set (r1.1).toNat (GBag.mk x31.Bag x31.Holder true x31.Seals x31.Packed x31.Found)).set (r1.1).toNat (GBag.mk x33.Bag x33.Holder x33.Open x33.Seals x33.Packed v32)), 0)
 else
 if (p1.Kind == 4) = true then
  (idx r24 r1.1).bind fun x35 =>
  (app x35.Seals [p1.Seal]).bind fun v36 =>
  some ((r24.set (r1.1).toNat (GBag.mk x35.Bag x35.Holder x35.Open v36 x35.Packed x35.Found)), 0)
 else
 some (r24, 0)
def q135q (F : Nat) (p1 : Int) (r1 : List Gq0 × Int) (rec1 : (List GBag) → Int → (List Gq2) → Option (List GBag × List Gq2 × Int)) (l3 : List GBag) (n4 : Int) (l5 : List Gq2) : Option (List GBag × List Gq2 × Int) :=
 if (decide (n4 < (r1.1.length : Int))) = true then
  (idx r1.1 n4).bind fun x7 =>
  if (decide (x7.Stamp.Time > p1)) = true then
   some (l3, l5, 0)
  else
  (q181q F l3 x7).bind fun r9 =>
  if (r9.2 != 0) = true then
   (app l5 [(Gq2.mk (Gq1.mk x7.Stamp.Source x7.Stamp.Seq) r9.2)]).bind fun v11 =>
   rec1 l3 (i64 (n4 + 1)) v11
  else
  rec1 r9.1 (i64 (n4 + 1)) l5
 else
 some (l3, l5, 0)
def q86q (F : Nat) (p1 : Int) (r1 : List Gq0 × Int) : Nat → (List GBag) → Int → (List Gq2) → Option (List GBag × List Gq2 × Int)
 | 0 => fun _ _ _ => .none
 | n + 1 => q135q F p1 r1 (q86q F p1 r1 n)
def q180q (F : Nat) (p0 : List Gq0) (p1 : Int) : Option (List GBag × List Gq2 × Int) :=
 (q133q F p0).bind fun r1 =>
 if (r1.2 != 0) = true then
  some ([], [], r1.2)
 else
 q86q F p1 r1 F ([] : List GBag) 0 ([] : List Gq2)
def q177q (p0 : List Int) (p1 : List Int) (rec1 : Int → Option Bool) (n2 : Int) : Option Bool :=
 if (decide (n2 < (p0.length : Int))) = true then
  (idx p0 n2).bind fun x4 =>
  (idx p1 n2).bind fun x5 =>
  if (x4 != x5) = true then
   some false
  else
  rec1 (i64 (n2 + 1))
 else
 some true
def q159q (p0 : List Int) (p1 : List Int) : Nat → Int → Option Bool
 | 0 => fun _ => .none
 | n + 1 => q177q p0 p1 (q159q p0 p1 n)
def q36q (F : Nat) (p0 : List Int) (p1 : List Int) : Option Bool :=
 if ((p0.length : Int) != (p1.length : Int)) = true then
  some false
 else
 q159q p0 p1 F 0
def q203q (F : Nat) (p0 : Gq0) (p1 : Gq0) : Option Bool :=
 (if (decide (p0.Stamp = p1.Stamp)) = true then if (p0.Kind == p1.Kind) = true then if (p0.Bag == p1.Bag) = true then if (p0.Seal == p1.Seal) = true then if (p0.From == p1.From) = true then if (p0.To == p1.To) = true then (q36q F p0.Candidates p1.Candidates).bind fun r9 => some r9 else some false else some false else some false else some false else some false else some false).bind fun w2 =>
 some w2
def q192q (p0 : Gq3) : Option Bool :=
 some ((decide (p0.Time ≥ 0)) && ((decide (p0.Time ≤ 1000000)) && ((decide (p0.Source ≥ 0)) && ((decide (p0.Source ≤ 99)) && ((decide (p0.Seq ≥ 0)) && (decide (p0.Seq ≤ 9999)))))))
def q187q (p0 : Gq3) (p1 : Gq3) (p2 : Int) (p3 : Int) : Option Bool :=
 some ((p0.Source == p1.Source) && ((p0.Seq == p1.Seq) && ((p0.Time != p1.Time) || (p2 != p3))))
def q102q (p0 : List Gq3) (p1 : List Int) (p2 : Int) (rec1 : Int → Option Bool) (n4 : Int) : Option Bool :=
 if (decide (n4 < (p0.length : Int))) = true then
  ((idx p0 n4).bind fun x8 => (q192q x8).bind fun r9 => if r9 = true then (idx p0 p2).bind fun x11 => (idx p0 n4).bind fun x12 => (idx p1 p2).bind fun x13 => (idx p1 n4).bind fun x14 => (q187q x11 x12 x13 x14).bind fun r15 => if r15 = true then some true else if (decide (n4 < p2)) = true then (idx p0 n4).bind fun x18 => (idx p0 p2).bind fun x19 => some (decide (x18 = x19)) else some false else some false).bind fun w7 =>
  if w7 = true then
   some false
  else
  rec1 (i64 (n4 + 1))
 else
 some true
def q125q (p0 : List Gq3) (p1 : List Int) (p2 : Int) : Nat → Int → Option Bool
 | 0 => fun _ => .none
 | n + 1 => q102q p0 p1 p2 (q125q p0 p1 p2 n)
def q182q (F : Nat) (p0 : List Gq3) (p1 : List Int) (p2 : Int) : Option Bool :=
 (idx p0 p2).bind fun x1 =>
 (q192q x1).bind fun r2 =>
 if (!r2) = true then
  some false
 else
 q125q p0 p1 p2 F 0
def q142q (p0 : Int) (p1 : Int) : Option Int :=
 if (decide (p0 < p1)) = true then
  some (-1)
 else
 if (decide (p0 > p1)) = true then
  some 1
 else
 some 0
def q169q (p0 : Gq3) (p1 : Gq3) : Option Int :=
 (q142q p0.Time p1.Time).bind fun r1 =>
 if (r1 == 0) = true then
  (q142q p0.Source p1.Source).bind fun r3 =>
  if (r3 == 0) = true then
   (q142q p0.Seq p1.Seq).bind fun r5 =>
   some r5
  else
  some r3
 else
 if (r1 == 0) = true then
  (q142q p0.Seq p1.Seq).bind fun r7 =>
  some r7
 else
 some r1
def q88q (rec1 : (List Int) → Int → Option (List Int × Int)) (p0 : List Gq3) (l2 : List Int) (n3 : Int) (rec2 : Int → Option (List Int × Int)) (n7 : Int) : Option (List Int × Int) :=
 (if (decide (n7 > 0)) = true then (idx l2 (i64 (n7 - 1))).bind fun x11 => (idx p0 x11).bind fun x12 => (idx p0 n3).bind fun x13 => (q169q x12 x13).bind fun r14 => some (decide (r14 > 0)) else some false).bind fun w9 =>
 if w9 = true then
  rec2 (i64 (n7 - 1))
 else
 (slc l2 0 n7).bind fun v16 =>
 (app [] v16).bind fun v17 =>
 (app v17 [n3]).bind fun v18 =>
 (slc l2 n7 (l2.length : Int)).bind fun v19 =>
 (app v18 v19).bind fun v20 =>
 rec1 v20 (i64 (n3 + 1))
def q74q (rec1 : (List Int) → Int → Option (List Int × Int)) (p0 : List Gq3) (l2 : List Int) (n3 : Int) : Nat → Int → Option (List Int × Int)
 | 0 => fun _ => .none
 | n + 1 => q88q rec1 p0 l2 n3 (q74q rec1 p0 l2 n3 n)
def q87q (F : Nat) (p0 : List Gq3) (p1 : List Int) (rec1 : (List Int) → Int → Option (List Int × Int)) (l2 : List Int) (n3 : Int) : Option (List Int × Int) :=
 if (decide (n3 < (p0.length : Int))) = true then
  (q182q F p0 p1 n3).bind fun r5 =>
  if (!r5) = true then
   rec1 l2 (i64 (n3 + 1))
  else
  q74q rec1 p0 l2 n3 F (l2.length : Int)
 else
 if (decide ((l2.length : Int) > 300)) = true then
  some ([], 3)
 else
 some (l2, 0)
def q73q (F : Nat) (p0 : List Gq3) (p1 : List Int) : Nat → (List Int) → Int → Option (List Int × Int)
 | 0 => fun _ _ => .none
 | n + 1 => q87q F p0 p1 (q73q F p0 p1 n)
def q124q (F : Nat) (p0 : List Gq3) (p1 : List Int) : Option (List Int × Int) :=
 if ((p1.length : Int) != (p0.length : Int)) = true then
  some ([], 1)
 else
 q73q F p0 p1 F ([] : List Int) 0
def q90q (rec1 : Int → (List Gq3) → (List Int) → Option (List Gq0 × Int)) (F : Nat) (p0 : List Gq0) (n1 : Int) (l2 : List Gq3) (l3 : List Int) (rec2 : Int → Int → Option (List Gq0 × Int)) (n5 : Int) (n6 : Int) : Option (List Gq0 × Int) :=
 if (decide (n6 ≥ 0)) = true then
  (idx p0 n1).bind fun x8 =>
  (idx p0 n6).bind fun x9 =>
  (q203q F x8 x9).bind fun r10 =>
  if r10 = true then
   rec2 n6 (i64 (n6 - 1))
  else
  rec2 n5 (i64 (n6 - 1))
 else
 (idx p0 n1).bind fun x12 =>
 (app l2 [x12.Stamp]).bind fun v13 =>
 (app l3 [n5]).bind fun v14 =>
 rec1 (i64 (n1 + 1)) v13 v14
def q54q (rec1 : Int → (List Gq3) → (List Int) → Option (List Gq0 × Int)) (F : Nat) (p0 : List Gq0) (n1 : Int) (l2 : List Gq3) (l3 : List Int) : Nat → Int → Int → Option (List Gq0 × Int)
 | 0 => fun _ _ => .none
 | n + 1 => q90q rec1 F p0 n1 l2 l3 (q54q rec1 F p0 n1 l2 l3 n)
def q91q (p0 : List Gq0) (r15 : List Int × Int) (rec3 : Int → (List Gq0) → Option (List Gq0 × Int)) (n17 : Int) (l18 : List Gq0) : Option (List Gq0 × Int) :=
 if (decide (n17 < (r15.1.length : Int))) = true then
  (idx r15.1 n17).bind fun x20 =>
  (idx p0 x20).bind fun x21 =>
  (app l18 [x21]).bind fun v22 =>
  rec3 (i64 (n17 + 1)) v22
 else
 some (l18, 0)
def q55q (p0 : List Gq0) (r15 : List Int × Int) : Nat → Int → (List Gq0) → Option (List Gq0 × Int)
 | 0 => fun _ _ => .none
 | n + 1 => q91q p0 r15 (q55q p0 r15 n)
def q89q (F : Nat) (p0 : List Gq0) (rec1 : Int → (List Gq3) → (List Int) → Option (List Gq0 × Int)) (n1 : Int) (l2 : List Gq3) (l3 : List Int) : Option (List Gq0 × Int) :=
 if (decide (n1 < (p0.length : Int))) = true then
  q54q rec1 F p0 n1 l2 l3 F n1 (i64 (n1 - 1))
 else
 (q124q F l2 l3).bind fun r15 =>
 if (r15.2 != 0) = true then
  some ([], r15.2)
 else
 q55q p0 r15 F 0 ([] : List Gq0)
def q41q (F : Nat) (p0 : List Gq0) : Nat → Int → (List Gq3) → (List Int) → Option (List Gq0 × Int)
 | 0 => fun _ _ _ => .none
 | n + 1 => q89q F p0 (q41q F p0 n)
def q178q (F : Nat) (p0 : List Gq0) : Option (List Gq0 × Int) :=
 q41q F p0 F 0 ([] : List Gq3) ([] : List Int)
def q11q (p0 : Int) (p1 : Int) : Option Bool :=
 some ((decide (p0 ≥ 0)) && (decide (p0 ≤ p1)))
def q118q (rec1 : Int → Option Int) (n1 : Int) (x3 : GBag) (rec2 : Int → Option Int) (n12 : Int) : Option Int :=
 if (decide (n12 < (x3.Seals.length : Int))) = true then
  (idx x3.Seals n12).bind fun x14 =>
  (q11q x14 1000000).bind fun r15 =>
  if (!r15) = true then
   some 2
  else
  rec2 (i64 (n12 + 1))
 else
 rec1 (i64 (n1 + 1))
def q68q (rec1 : Int → Option Int) (n1 : Int) (x3 : GBag) : Nat → Int → Option Int
 | 0 => fun _ => .none
 | n + 1 => q118q rec1 n1 x3 (q68q rec1 n1 x3 n)
def q117q (F : Nat) (p0 : List GBag) (rec1 : Int → Option Int) (n1 : Int) : Option Int :=
 if (decide (n1 < (p0.length : Int))) = true then
  (idx p0 n1).bind fun x3 =>
  ((q11q x3.Bag 9999).bind fun r6 => if (!r6) = true then some true else (q11q x3.Holder 99).bind fun r8 => if (!r8) = true then some true else if (decide ((x3.Seals.length : Int) < 1)) = true then some true else some (decide ((x3.Seals.length : Int) > 300))).bind fun w5 =>
  if w5 = true then
   some 2
  else
  q68q rec1 n1 x3 F 0
 else
 some 0
def q56q (F : Nat) (p0 : List GBag) : Nat → Int → Option Int
 | 0 => fun _ => .none
 | n + 1 => q117q F p0 (q56q F p0 n)
def q171q (F : Nat) (p0 : List GBag) : Option Int :=
 q56q F p0 F 0
def q136q (p0 : List Int) (rec1 : Int → Option Bool) (n2 : Int) : Option Bool :=
 if (decide (n2 < (p0.length : Int))) = true then
  ((idx p0 n2).bind fun x6 => if (decide (x6 < 0)) = true then some true else (idx p0 n2).bind fun x8 => if (decide (x8 > 9999)) = true then some true else if (decide (n2 > 0)) = true then (idx p0 (i64 (n2 - 1))).bind fun x11 => (idx p0 n2).bind fun x12 => some (decide (x11 ≥ x12)) else some false).bind fun w5 =>
  if w5 = true then
   some false
  else
  rec1 (i64 (n2 + 1))
 else
 some true
def q93q (p0 : List Int) : Nat → Int → Option Bool
 | 0 => fun _ => .none
 | n + 1 => q136q p0 (q93q p0 n)
def q116q (F : Nat) (p0 : List Int) : Option Bool :=
 if (decide ((p0.length : Int) > 60)) = true then
  some false
 else
 q93q p0 F 0
def q139q (rec1 : Int → Int → Option Int) (p0 : List GBag) (p1 : Int) (n2 : Int) (rec2 : Int → Int → Option Int) (n4 : Int) (n5 : Int) : Option Int :=
 (idx p0 n2).bind fun x6 =>
 if (decide (n5 < (x6.Seals.length : Int))) = true then
  (idx p0 n2).bind fun x8 =>
  (idx x8.Seals n5).bind fun x9 =>
  if (x9 == p1) = true then
   rec2 (i64 (n4 + 1)) (i64 (n5 + 1))
  else
  rec2 n4 (i64 (n5 + 1))
 else
 rec1 n4 (i64 (n2 + 1))
def q96q (rec1 : Int → Int → Option Int) (p0 : List GBag) (p1 : Int) (n2 : Int) : Nat → Int → Int → Option Int
 | 0 => fun _ _ => .none
 | n + 1 => q139q rec1 p0 p1 n2 (q96q rec1 p0 p1 n2 n)
def q138q (F : Nat) (p0 : List GBag) (p1 : Int) (rec1 : Int → Int → Option Int) (n1 : Int) (n2 : Int) : Option Int :=
 if (decide (n2 < (p0.length : Int))) = true then
  q96q rec1 p0 p1 n2 F n1 0
 else
 some n1
def q62q (F : Nat) (p0 : List GBag) (p1 : Int) : Nat → Int → Int → Option Int
 | 0 => fun _ _ => .none
 | n + 1 => q138q F p0 p1 (q62q F p0 p1 n)
def q156q (F : Nat) (p0 : List GBag) (p1 : Int) : Option Int :=
 q62q F p0 p1 F 0 0
def q107q (p0 : List Int) (p1 : Int) (rec1 : Int → Option Bool) (n1 : Int) : Option Bool :=
 if (decide (n1 < (p0.length : Int))) = true then
  (idx p0 n1).bind fun x3 =>
  if (x3 == p1) = true then
   some true
  else
  rec1 (i64 (n1 + 1))
 else
 some false
def q65q (p0 : List Int) (p1 : Int) : Nat → Int → Option Bool
 | 0 => fun _ => .none
 | n + 1 => q107q p0 p1 (q65q p0 p1 n)
def ref06_Has (F : Nat) (p0 : List Int) (p1 : Int) : Option Bool :=
 q65q p0 p1 F 0
def q137q (F : Nat) (p0 : List GBag) (p1 : Int) (rec1 : Int → Int → Option Int) (n1 : Int) (n2 : Int) : Option Int :=
 if (decide (n2 < (p0.length : Int))) = true then
  (idx p0 n2).bind fun x4 =>
  (ref06_Has F x4.Packed p1).bind fun r5 =>
  if r5 = true then
   rec1 (i64 (n1 + 1)) (i64 (n2 + 1))
  else
  rec1 n1 (i64 (n2 + 1))
 else
 some n1
def q95q (F : Nat) (p0 : List GBag) (p1 : Int) : Nat → Int → Int → Option Int
 | 0 => fun _ _ => .none
 | n + 1 => q137q F p0 p1 (q95q F p0 p1 n)
def q183q (F : Nat) (p0 : List GBag) (p1 : Int) : Option Int :=
 q95q F p0 p1 F 0 0
def q152q (rec4 : Int → Option Int) (F : Nat) (p0 : List GBag) (n34 : Int) (rec6 : Int → Option Int) (n43 : Int) : Option Int :=
 (idx p0 n34).bind fun x44 =>
 if (decide (n43 < (x44.Packed.length : Int))) = true then
  (idx p0 n34).bind fun x46 =>
  (idx x46.Packed n43).bind fun x47 =>
  (q183q F p0 x47).bind fun r48 =>
  if (decide (r48 > 1)) = true then
   some 9
  else
  rec6 (i64 (n43 + 1))
 else
 rec4 (i64 (n34 + 1))
def q77q (rec4 : Int → Option Int) (F : Nat) (p0 : List GBag) (n34 : Int) : Nat → Int → Option Int
 | 0 => fun _ => .none
 | n + 1 => q152q rec4 F p0 n34 (q77q rec4 F p0 n34 n)
def q151q (rec4 : Int → Option Int) (F : Nat) (p0 : List GBag) (n34 : Int) (rec5 : Int → Option Int) (n36 : Int) : Option Int :=
 (idx p0 n34).bind fun x37 =>
 if (decide (n36 < (x37.Seals.length : Int))) = true then
  (idx p0 n34).bind fun x39 =>
  (idx x39.Seals n36).bind fun x40 =>
  (q156q F p0 x40).bind fun r41 =>
  if (decide (r41 > 1)) = true then
   some 9
  else
  rec5 (i64 (n36 + 1))
 else
 q77q rec4 F p0 n34 F 0
def q110q (rec4 : Int → Option Int) (F : Nat) (p0 : List GBag) (n34 : Int) : Nat → Int → Option Int
 | 0 => fun _ => .none
 | n + 1 => q151q rec4 F p0 n34 (q110q rec4 F p0 n34 n)
def q150q (F : Nat) (p0 : List GBag) (rec4 : Int → Option Int) (n34 : Int) : Option Int :=
 if (decide (n34 < (p0.length : Int))) = true then
  q110q rec4 F p0 n34 F 0
 else
 some 0
def q39q (F : Nat) (p0 : List GBag) : Nat → Int → Option Int
 | 0 => fun _ => .none
 | n + 1 => q150q F p0 (q39q F p0 n)
def q109q (F : Nat) (p0 : List GBag) (rec3 : Int → Option Int) (n29 : Int) : Option Int :=
 if (decide (n29 < (p0.length : Int))) = true then
  (idx p0 (i64 (n29 - 1))).bind fun x31 =>
  (idx p0 n29).bind fun x32 =>
  if (decide (x31.Bag ≥ x32.Bag)) = true then
   some 5
  else
  rec3 (i64 (n29 + 1))
 else
 q39q F p0 F 0
def q48q (F : Nat) (p0 : List GBag) : Nat → Int → Option Int
 | 0 => fun _ => .none
 | n + 1 => q109q F p0 (q48q F p0 n)
def q149q (F : Nat) (p0 : List GBag) (rec2 : Int → Option Int) (n14 : Int) : Option Int :=
 if (decide (n14 < (p0.length : Int))) = true then
  ((idx p0 n14).bind fun x18 => if (!x18.Open) = true then (idx p0 n14).bind fun x20 => if (decide ((x20.Found.length : Int) > 0)) = true then some true else (idx p0 n14).bind fun x22 => if x22.Open = true then (idx p0 n14).bind fun x24 => some (x24.Holder != 0) else some false else (idx p0 n14).bind fun x25 => if x25.Open = true then (idx p0 n14).bind fun x27 => some (x27.Holder != 0) else some false).bind fun w17 =>
  if w17 = true then
   some 8
  else
  rec2 (i64 (n14 + 1))
 else
 q48q F p0 F 1
def q76q (F : Nat) (p0 : List GBag) : Nat → Int → Option Int
 | 0 => fun _ => .none
 | n + 1 => q149q F p0 (q76q F p0 n)
def q148q (F : Nat) (p0 : List GBag) (rec1 : Int → Option Int) (n4 : Int) : Option Int :=
 if (decide (n4 < (p0.length : Int))) = true then
  ((idx p0 n4).bind fun x8 => (q116q F x8.Packed).bind fun r9 => if (!r9) = true then some true else (idx p0 n4).bind fun x11 => (q116q F x11.Found).bind fun r12 => some (!r12)).bind fun w7 =>
  if w7 = true then
   some 1
  else
  rec1 (i64 (n4 + 1))
 else
 q76q F p0 F 0
def q108q (F : Nat) (p0 : List GBag) : Nat → Int → Option Int
 | 0 => fun _ => .none
 | n + 1 => q148q F p0 (q108q F p0 n)
def q194q (F : Nat) (p0 : List GBag) : Option Int :=
 if (decide ((p0.length : Int) > 20)) = true then
  some 3
 else
 (q171q F p0).bind fun r2 =>
 if (r2 != 0) = true then
  some r2
 else
 q108q F p0 F 0
def q184q (F : Nat) (p0 : Gq0) : Option Bool :=
 (if (decide (p0.Kind < 1)) = true then some true else if (decide (p0.Kind > 4)) = true then some true else (q11q p0.Bag 9999).bind fun r5 => if (!r5) = true then some true else (q11q p0.Seal 1000000).bind fun r7 => if (!r7) = true then some true else (q11q p0.From 99).bind fun r9 => some (!r9)).bind fun w2 =>
 if w2 = true then
  some false
 else
 (if (p0.Kind == 2) = true then (q11q p0.To 99).bind fun r14 => some (!r14) else some false).bind fun w12 =>
 if w12 = true then
  some false
 else
 (if (p0.Kind != 1) = true then if (p0.Kind != 3) = true then some true else (q116q F p0.Candidates).bind fun r20 => some r20 else (q116q F p0.Candidates).bind fun r21 => some r21).bind fun w17 =>
 some w17
def q155q (p0 : List GBag) (p1 : Int) (rec1 : Int → Option Int) (n1 : Int) : Option Int :=
 if (decide (n1 < (p0.length : Int))) = true then
  (idx p0 n1).bind fun x3 =>
  if (x3.Bag == p1) = true then
   some n1
  else
  rec1 (i64 (n1 + 1))
 else
 some (-1)
def q112q (p0 : List GBag) (p1 : Int) : Nat → Int → Option Int
 | 0 => fun _ => .none
 | n + 1 => q155q p0 p1 (q112q p0 p1 n)
def q175q (F : Nat) (p0 : List GBag) (p1 : Int) : Option Int :=
 q112q p0 p1 F 0
def q163q (p0 : List GBag) (p1 : Gq0) (rec2 : Int → Option (List GBag × Int)) (n15 : Int) : Option (List GBag × Int) :=
 (if (decide (n15 < (p0.length : Int))) = true then (idx p0 n15).bind fun x19 => some (decide (x19.Bag < p1.Bag)) else some false).bind fun w17 =>
 if w17 = true then
  rec2 (i64 (n15 + 1))
 else
 (slc p0 0 n15).bind fun v21 =>
 (app [] v21).bind fun v22 =>
 (app v22 ([(GBag.mk p1.Bag p1.From false [p1.Seal] p1.Candidates [])])).bind fun v23 =>
 (slc p0 n15 (p0.length : Int)).bind fun v24 =>
 (app v23 v24).bind fun v25 =>
 some (v25, 0)
def q131q (p0 : List GBag) (p1 : Gq0) : Nat → Int → Option (List GBag × Int)
 | 0 => fun _ => .none
 | n + 1 => q163q p0 p1 (q131q p0 p1 n)
def q162q (F : Nat) (p0 : List GBag) (p1 : Gq0) (rec1 : Bool → Int → Option (List GBag × Int)) (b5 : Bool) (n6 : Int) : Option (List GBag × Int) :=
 if (decide (n6 < (p1.Candidates.length : Int))) = true then
  (if b5 = true then some true else (idx p1.Candidates n6).bind fun x11 => (q183q F p0 x11).bind fun r12 => some (decide (r12 > 0))).bind fun w9 =>
  rec1 w9 (i64 (n6 + 1))
 else
 if b5 = true then
  some ([], 9)
 else
 if ((p0.length : Int) == 20) = true then
  some ([], 3)
 else
 q131q p0 p1 F 0
def q130q (F : Nat) (p0 : List GBag) (p1 : Gq0) : Nat → Bool → Int → Option (List GBag × Int)
 | 0 => fun _ _ => .none
 | n + 1 => q162q F p0 p1 (q130q F p0 p1 n)
def q229q (F : Nat) (p0 : List GBag) (p1 : Gq0) : Option (List GBag × Int) :=
 if (p1.From == 0) = true then
  some ([], 8)
 else
 (q175q F p0 p1.Bag).bind fun r2 =>
 if (decide (r2 ≥ 0)) = true then
  some ([], 5)
 else
 (q156q F p0 p1.Seal).bind fun r4 =>
 q130q F p0 p1 F (decide (r4 > 0)) 0
def q172q (F : Nat) (p0 : List GBag) (p1 : GBag) (p2 : Gq0) : Option Int :=
 if (p1.Open || ((p1.Holder != p2.From) || (if (p2.Kind == 2) = true then ((p2.To == p2.From) || ((p2.Kind == 3) && (p2.From != 0))) else ((p2.Kind == 3) && (p2.From != 0))))) = true then
  some 8
 else
 if (p2.Kind == 4) = true then
  (q156q F p0 p2.Seal).bind fun r10 =>
  if (decide (r10 > 0)) = true then
   some 9
  else
  if ((p1.Seals.length : Int) == 300) = true then
   some 3
  else
  some 0
 else
 (idx p1.Seals (i64 ((p1.Seals.length : Int) - 1))).bind fun x13 =>
 if (x13 != p2.Seal) = true then
  some 9
 else
 some 0
def q75q (p0 : List GBag) (r10 : Int) (x12 : GBag) (n15 : Int) (b16 : Bool) (l17 : List Int) (l18 : List Int) : Option (List GBag × Int) :=
 (slc p0 0 r10).bind fun v19 =>
 (app [] v19).bind fun v20 =>
 (app v20 [(GBag.mk x12.Bag n15 b16 l17 x12.Packed l18)]).bind fun v21 =>
 (slc p0 (i64 (r10 + 1)) (p0.length : Int)).bind fun v22 =>
 (app v21 v22).bind fun v23 =>
 some (v23, 0)
def q193q (F : Nat) (p0 : List GBag) (p1 : Gq0) : Option (List GBag × Int) :=
 (q194q F p0).bind fun r1 =>
 if (r1 != 0) = true then
  some ([], 1)
 else
 (q184q F p1).bind fun r3 =>
 if (!r3) = true then
  some ([], 2)
 else
 if ((p1.Stamp.Source != 0) && (p1.Stamp.Source != p1.From)) = true then
  some ([], 28)
 else
 if (p1.Kind == 1) = true then
  (q229q F p0 p1).bind fun r9 =>
  some (r9.1, r9.2)
 else
 (q175q F p0 p1.Bag).bind fun r10 =>
 if (decide (r10 < 0)) = true then
  some ([], 4)
 else
 (idx p0 r10).bind fun x12 =>
 (q172q F p0 x12 p1).bind fun r13 =>
 if (r13 != 0) = true then
  some ([], r13)
 else
 if (p1.Kind == 2) = true then
  q75q p0 r10 x12 p1.To x12.Open x12.Seals x12.Found
 else
 if (p1.Kind == 3) = true then
  q75q p0 r10 x12 x12.Holder true x12.Seals p1.Candidates
 else
 if (p1.Kind == 4) = true then
  (app [] x12.Seals).bind fun v27 =>
  (app v27 [p1.Seal]).bind fun v28 =>
  q75q p0 r10 x12 x12.Holder x12.Open v28 x12.Found
 else
 q75q p0 r10 x12 x12.Holder x12.Open x12.Seals x12.Found
def q92q (F : Nat) (p1 : Int) (r1 : List Gq0 × Int) (rec1 : (List GBag) → Int → (List Gq2) → Option (List GBag × List Gq2 × Int)) (l3 : List GBag) (n4 : Int) (l5 : List Gq2) : Option (List GBag × List Gq2 × Int) :=
 if (decide (n4 < (r1.1.length : Int))) = true then
  (idx r1.1 n4).bind fun x7 =>
  if (decide (x7.Stamp.Time > p1)) = true then
   rec1 l3 (i64 (n4 + 1)) l5
  else
  (idx r1.1 n4).bind fun x9 =>
  (q193q F l3 x9).bind fun r10 =>
  if (r10.2 != 0) = true then
   (idx r1.1 n4).bind fun x12 =>
   (idx r1.1 n4).bind fun x13 =>
   (app l5 [(Gq2.mk (Gq1.mk x12.Stamp.Source x13.Stamp.Seq) r10.2)]).bind fun v14 =>
   rec1 l3 (i64 (n4 + 1)) v14
  else
  rec1 r10.1 (i64 (n4 + 1)) l5
 else
 some (l3, l5, 0)
def q58q (F : Nat) (p1 : Int) (r1 : List Gq0 × Int) : Nat → (List GBag) → Int → (List Gq2) → Option (List GBag × List Gq2 × Int)
 | 0 => fun _ _ _ => .none
 | n + 1 => q92q F p1 r1 (q58q F p1 r1 n)
def q202q (F : Nat) (p0 : List Gq0) (p1 : Int) : Option (List GBag × List Gq2 × Int) :=
 (q178q F p0).bind fun r1 =>
 if (r1.2 != 0) = true then
  some ([], [], r1.2)
 else
 q58q F p1 r1 F ([] : List GBag) 0 ([] : List Gq2)
def q170q (F : Nat) (p0 : GBag) (p1 : GBag) : Option Bool :=
 (if (p0.Bag == p1.Bag) = true then if (p0.Holder == p1.Holder) = true then if (p0.Open == p1.Open) = true then (q36q F p0.Seals p1.Seals).bind fun r6 => if r6 = true then (q36q F p0.Packed p1.Packed).bind fun r8 => if r8 = true then (q36q F p0.Found p1.Found).bind fun r10 => some r10 else some false else some false else some false else some false else some false).bind fun w2 =>
 some w2
def q83q (rec1 : Int → (List (Int × Bool)) → (List (Int × Bool)) → (List (Int × Bool)) → Option (List Int × List Int × List Int × List Int)) (n1 : Int) (x6 : GBag) (m8 : List (Int × Bool)) (m9 : List (Int × Bool)) (rec3 : Int → (List (Int × Bool)) → Option (List Int × List Int × List Int × List Int)) (n13 : Int) (m14 : List (Int × Bool)) : Option (List Int × List Int × List Int × List Int) :=
 if (decide (n13 < (x6.Found.length : Int))) = true then
  (idx x6.Found n13).bind fun x16 =>
  rec3 (i64 (n13 + 1)) (mput m14 x16 true)
 else
 rec1 (i64 (n1 + 1)) m8 m9 m14
def q35q (rec1 : Int → (List (Int × Bool)) → (List (Int × Bool)) → (List (Int × Bool)) → Option (List Int × List Int × List Int × List Int)) (n1 : Int) (x6 : GBag) (m8 : List (Int × Bool)) (m9 : List (Int × Bool)) : Nat → Int → (List (Int × Bool)) → Option (List Int × List Int × List Int × List Int)
 | 0 => fun _ _ => .none
 | n + 1 => q83q rec1 n1 x6 m8 m9 (q35q rec1 n1 x6 m8 m9 n)
def q59q (rec1 : Int → (List (Int × Bool)) → (List (Int × Bool)) → (List (Int × Bool)) → Option (List Int × List Int × List Int × List Int)) (F : Nat) (n1 : Int) (m4 : List (Int × Bool)) (x6 : GBag) (rec2 : Int → (List (Int × Bool)) → (List (Int × Bool)) → Option (List Int × List Int × List Int × List Int)) (n7 : Int) (m8 : List (Int × Bool)) (m9 : List (Int × Bool)) : Option (List Int × List Int × List Int × List Int) :=
 if (decide (n7 < (x6.Packed.length : Int))) = true then
  (idx x6.Packed n7).bind fun x11 =>
  if x6.Open = true then
   rec2 (i64 (n7 + 1)) (mput m8 x11 true) (mput m9 x11 true)
  else
  rec2 (i64 (n7 + 1)) (mput m8 x11 true) m9
 else
 q35q rec1 n1 x6 m8 m9 F 0 m4
def q34q (rec1 : Int → (List (Int × Bool)) → (List (Int × Bool)) → (List (Int × Bool)) → Option (List Int × List Int × List Int × List Int)) (F : Nat) (n1 : Int) (m4 : List (Int × Bool)) (x6 : GBag) : Nat → Int → (List (Int × Bool)) → (List (Int × Bool)) → Option (List Int × List Int × List Int × List Int)
 | 0 => fun _ _ _ => .none
 | n + 1 => q59q rec1 F n1 m4 x6 (q34q rec1 F n1 m4 x6 n)
def q84q (p1 : List Int) (m2 : List (Int × Bool)) (m3 : List (Int × Bool)) (m4 : List (Int × Bool)) (rec4 : Int → (List Int) → (List Int) → (List Int) → (List Int) → Option (List Int × List Int × List Int × List Int)) (n17 : Int) (l18 : List Int) (l19 : List Int) (l20 : List Int) (l21 : List Int) : Option (List Int × List Int × List Int × List Int) :=
 if (decide (n17 < (p1.length : Int))) = true then
  (idx p1 n17).bind fun x23 =>
  if ((mget m4 x23).getD false) = true then
   (app l19 [x23]).bind fun v25 =>
   rec4 (i64 (n17 + 1)) l18 v25 l20 l21
  else
  if ((mget m3 x23).getD false) = true then
   (app l20 [x23]).bind fun v27 =>
   rec4 (i64 (n17 + 1)) l18 l19 v27 l21
  else
  if ((mget m2 x23).getD false) = true then
   (app l21 [x23]).bind fun v29 =>
   rec4 (i64 (n17 + 1)) l18 l19 l20 v29
  else
  (app l18 [x23]).bind fun v30 =>
  rec4 (i64 (n17 + 1)) v30 l19 l20 l21
 else
 some (l18, l21, l19, l20)
def q40q (p1 : List Int) (m2 : List (Int × Bool)) (m3 : List (Int × Bool)) (m4 : List (Int × Bool)) : Nat → Int → (List Int) → (List Int) → (List Int) → (List Int) → Option (List Int × List Int × List Int × List Int)
 | 0 => fun _ _ _ _ _ => .none
 | n + 1 => q84q p1 m2 m3 m4 (q40q p1 m2 m3 m4 n)
def q82q (F : Nat) (p0 : List GBag) (p1 : List Int) (rec1 : Int → (List (Int × Bool)) → (List (Int × Bool)) → (List (Int × Bool)) → Option (List Int × List Int × List Int × List Int)) (n1 : Int) (m2 : List (Int × Bool)) (m3 : List (Int × Bool)) (m4 : List (Int × Bool)) : Option (List Int × List Int × List Int × List Int) :=
 if (decide (n1 < (p0.length : Int))) = true then
  (idx p0 n1).bind fun x6 =>
  q34q rec1 F n1 m4 x6 F 0 m2 m3
 else
 q40q p1 m2 m3 m4 F 0 ([] : List Int) ([] : List Int) ([] : List Int) ([] : List Int)
def q8q (F : Nat) (p0 : List GBag) (p1 : List Int) : Nat → Int → (List (Int × Bool)) → (List (Int × Bool)) → (List (Int × Bool)) → Option (List Int × List Int × List Int × List Int)
 | 0 => fun _ _ _ _ => .none
 | n + 1 => q82q F p0 p1 (q8q F p0 p1 n)
def q121q (F : Nat) (p0 : List GBag) (p1 : List Int) : Option (List Int × List Int × List Int × List Int) :=
 q8q F p0 p1 F 0 ([] : List (Int × Bool)) ([] : List (Int × Bool)) ([] : List (Int × Bool))
def q191q (F : Nat) : Option Bool :=
 (q180q F ([(Gq0.mk (Gq3.mk 3 0 2) 3 1 100 0 0 [2]), (Gq0.mk (Gq3.mk 1 7 0) 1 1 100 7 0 [1, 2]), (Gq0.mk (Gq3.mk 2 7 1) 2 1 100 7 0 [])]) 9).bind fun r1 =>
 (q121q F r1.1 [1, 2, 3]).bind fun r2 =>
 (if (r1.2.2 == 0) = true then if ((r1.2.1.length : Int) == 0) = true then if ((r1.1.length : Int) == 1) = true then (idx r1.1 0).bind fun x8 => if x8.Open = true then (q36q F r2.1 [3]).bind fun r10 => if r10 = true then if ((r2.2.1.length : Int) == 0) = true then (q36q F r2.2.2.1 [2]).bind fun r13 => if r13 = true then (q36q F r2.2.2.2 [1]).bind fun r15 => some r15 else some false else some false else some false else some false else some false else some false else some false).bind fun w4 =>
 some w4
def q200q (F : Nat) (p0 : GTape) (p1 : Int) : Option (List GBag × GTape) :=
 (Gq4 F p0 10 0).bind fun r1 =>
 (q202q F r1.1 100).bind fun r2 =>
 (if (p1 == 0) = true then some (true, r1.2.L, r1.2.At) else (Gq19 r1.2 p1).bind fun r8 => if (!r8.1) = true then some (true, r8.2.L, r8.2.At) else some (((r2.1.length : Int) == 0), r8.2.L, r8.2.At)).bind fun w6 =>
 if w6.1 = true then
  some (r2.1, (GTape.mk w6.2.1 w6.2.2))
 else
 (app [] r2.1).bind fun v11 =>
 (Gq17 (GTape.mk w6.2.1 w6.2.2) (v11.length : Int)).bind fun r12 =>
 (idx v11 r12.1).bind fun x13 =>
 (Gq17 r12.2 8).bind fun r14 =>
 if (r14.1 == 0) = true then
  (Gq21 r14.2 [(-1), 0, 1, 10000]).bind fun r16 =>
  (idx v11 r12.1).bind fun x17 =>
  some ((v11.set r12.1.toNat (GBag.mk r16.1 x13.Holder x13.Open x13.Seals x13.Packed x13.Found)), r16.2)
 else
 if (r14.1 == 1) = true then
  (Gq21 r14.2 [(-1), 0, 1, 100]).bind fun r19 =>
  (idx v11 r12.1).bind fun x20 =>
  some ((v11.set r12.1.toNat (GBag.mk x13.Bag r19.1 x13.Open x13.Seals x13.Packed x13.Found)), r19.2)
 else
 if (r14.1 == 2) = true then
  (idx v11 r12.1).bind fun x22 =>
  some ((v11.set r12.1.toNat (GBag.mk x13.Bag x13.Holder (!x13.Open) x13.Seals x13.Packed x13.Found)), r14.2)
 else
 if (r14.1 == 3) = true then
  (Gq21 r14.2 [0, 10, (-1), 1000001]).bind fun r24 =>
  (app x13.Seals [r24.1]).bind fun v25 =>
  (idx v11 r12.1).bind fun x26 =>
  some ((v11.set r12.1.toNat (GBag.mk x13.Bag x13.Holder x13.Open v25 x13.Packed x13.Found)), r24.2)
 else
 if (r14.1 == 4) = true then
  (idx v11 r12.1).bind fun x28 =>
  some ((v11.set r12.1.toNat (GBag.mk x13.Bag x13.Holder x13.Open ([] : List Int) x13.Packed x13.Found)), r14.2)
 else
 if (r14.1 == 5) = true then
  (Gq21 r14.2 [0, 8, 9999, 10000]).bind fun r30 =>
  (app x13.Packed [r30.1]).bind fun v31 =>
  (idx v11 r12.1).bind fun x32 =>
  some ((v11.set r12.1.toNat (GBag.mk x13.Bag x13.Holder x13.Open x13.Seals v31 x13.Found)), r30.2)
 else
 if (r14.1 == 6) = true then
  (Gq21 r14.2 [0, 8, 9999, 10000]).bind fun r34 =>
  (app x13.Found [r34.1]).bind fun v35 =>
  (idx v11 r12.1).bind fun x36 =>
  some ((v11.set r12.1.toNat (GBag.mk x13.Bag x13.Holder x13.Open x13.Seals x13.Packed v35)), r34.2)
 else
 (app v11 [x13]).bind fun v37 =>
 (idx v37 r12.1).bind fun x38 =>
 some ((v37.set r12.1.toNat x13), r14.2)
def Gq15 (p2 : Int) (p3 : Int) (rec1 : Int → (List Int) → Int → (List Int) → Option (List Int × GTape)) (n2 : Int) (l3 : List Int) (n4 : Int) (l5 : List Int) : Option (List Int × GTape) :=
 if (decide (n2 > 0)) = true then
  (Gq23 (GTape.mk l3 n4) p2 p3).bind fun r7 =>
  (app l5 [r7.1]).bind fun v8 =>
  rec1 (i64 (n2 - 1)) r7.2.L r7.2.At v8
 else
 some (l5, (GTape.mk l3 n4))
def Gq14 (p2 : Int) (p3 : Int) : Nat → Int → (List Int) → Int → (List Int) → Option (List Int × GTape)
 | 0 => fun _ _ _ _ => .none
 | n + 1 => Gq15 p2 p3 (Gq14 p2 p3 n)
def Gq13 (F : Nat) (p0 : GTape) (p1 : Int) (p2 : Int) (p3 : Int) : Option (List Int × GTape) :=
 (Gq23 p0 0 p1).bind fun r1 =>
 Gq14 p2 p3 F r1.1 r1.2.L r1.2.At ([] : List Int)
def q154q (F : Nat) (p0 : List GBag) (p1 : Int) (rec2 : Int → Int → Option Int) (n6 : Int) (n7 : Int) : Option Int :=
 if (decide (n7 < (p0.length : Int))) = true then
  (idx p0 n7).bind fun x9 =>
  (ref06_Has F x9.Packed p1).bind fun r10 =>
  if r10 = true then
   (idx p0 n7).bind fun x12 =>
   if x12.Open = true then
    some 3
   else
   rec2 1 (i64 (n7 + 1))
  else
  rec2 n6 (i64 (n7 + 1))
 else
 some n6
def q78q (F : Nat) (p0 : List GBag) (p1 : Int) : Nat → Int → Int → Option Int
 | 0 => fun _ _ => .none
 | n + 1 => q154q F p0 p1 (q78q F p0 p1 n)
def q153q (F : Nat) (p0 : List GBag) (p1 : Int) (rec1 : Int → Option Int) (n1 : Int) : Option Int :=
 if (decide (n1 < (p0.length : Int))) = true then
  (idx p0 n1).bind fun x3 =>
  (ref06_Has F x3.Found p1).bind fun r4 =>
  if r4 = true then
   some 2
  else
  rec1 (i64 (n1 + 1))
 else
 q78q F p0 p1 F 0 0
def q111q (F : Nat) (p0 : List GBag) (p1 : Int) : Nat → Int → Option Int
 | 0 => fun _ => .none
 | n + 1 => q153q F p0 p1 (q111q F p0 p1 n)
def q195q (F : Nat) (p0 : List GBag) (p1 : Int) : Option Int :=
 q111q F p0 p1 F 0
def q115q (F : Nat) (p0 : List GBag) (p1 : List Int) (rec1 : Int → (List Int) → (List Int) → (List Int) → (List Int) → Option (List Int × List Int × List Int × List Int)) (n1 : Int) (l2 : List Int) (l3 : List Int) (l4 : List Int) (l5 : List Int) : Option (List Int × List Int × List Int × List Int) :=
 if (decide (n1 < (p1.length : Int))) = true then
  (idx p1 n1).bind fun x7 =>
  (q195q F p0 x7).bind fun r8 =>
  (if (r8 == 0) = true then (idx p1 n1).bind fun x15 => (app l2 [x15]).bind fun v16 => some (v16, l3, l4, l5) else if (r8 == 1) = true then (idx p1 n1).bind fun x18 => (app l3 [x18]).bind fun v19 => some (l2, v19, l4, l5) else if (r8 == 2) = true then (idx p1 n1).bind fun x21 => (app l4 [x21]).bind fun v22 => some (l2, l3, v22, l5) else if (r8 == 3) = true then (idx p1 n1).bind fun x24 => (app l5 [x24]).bind fun v25 => some (l2, l3, l4, v25) else none).bind fun w13 =>
  rec1 (i64 (n1 + 1)) w13.1 w13.2.1 w13.2.2.1 w13.2.2.2
 else
 (idx [l2, l3, l4, l5] 0).bind fun x26 =>
 (idx [l2, l3, l4, l5] 1).bind fun x27 =>
 (idx [l2, l3, l4, l5] 2).bind fun x28 =>
 (idx [l2, l3, l4, l5] 3).bind fun x29 =>
 some (x26, x27, x28, x29)
def q67q (F : Nat) (p0 : List GBag) (p1 : List Int) : Nat → Int → (List Int) → (List Int) → (List Int) → (List Int) → Option (List Int × List Int × List Int × List Int)
 | 0 => fun _ _ _ _ _ => .none
 | n + 1 => q115q F p0 p1 (q67q F p0 p1 n)
def q196q (F : Nat) (p0 : List GBag) (p1 : List Int) : Option (List Int × List Int × List Int × List Int) :=
 q67q F p0 p1 F 0 ([] : List Int) ([] : List Int) ([] : List Int) ([] : List Int)
def q134q (F : Nat) (p0 : List GBag) (p1 : Int) (rec1 : Int → Option (GBag × Bool)) (n1 : Int) : Option (GBag × Bool) :=
 if (decide (n1 < (p0.length : Int))) = true then
  (idx p0 n1).bind fun x3 =>
  (q13q F x3.Packed p1).bind fun r4 =>
  if r4 = true then
   (q53q x3).bind fun r6 =>
   some (r6, true)
  else
  rec1 (i64 (n1 + 1))
 else
 some ((GBag.mk 0 0 false [] [] []), false)
def q85q (F : Nat) (p0 : List GBag) (p1 : Int) : Nat → Int → Option (GBag × Bool)
 | 0 => fun _ => .none
 | n + 1 => q134q F p0 p1 (q85q F p0 p1 n)
def q198q (F : Nat) (p0 : List GBag) (p1 : Int) : Option (GBag × Bool) :=
 q85q F p0 p1 F 0
def q161q (F : Nat) (p0 : List GBag) (p1 : Int) (rec1 : Int → Option (GBag × Bool)) (n1 : Int) : Option (GBag × Bool) :=
 if (decide (n1 < (p0.length : Int))) = true then
  (idx p0 n1).bind fun x3 =>
  (ref06_Has F x3.Packed p1).bind fun r4 =>
  if r4 = true then
   (idx p0 n1).bind fun x6 =>
   some (x6, true)
  else
  rec1 (i64 (n1 + 1))
 else
 some ((GBag.mk 0 0 false [] [] []), false)
def q129q (F : Nat) (p0 : List GBag) (p1 : Int) : Nat → Int → Option (GBag × Bool)
 | 0 => fun _ => .none
 | n + 1 => q161q F p0 p1 (q129q F p0 p1 n)
def q228q (F : Nat) (p0 : List GBag) (p1 : Int) : Option (GBag × Bool) :=
 q129q F p0 p1 F 0
def q46q (rec1 : (List GBag) → (List Int) → Int → Option Bool) (F : Nat) (r5 : List GBag × GTape) (r6 : List Int × GTape) (l7 : List GBag) (l8 : List Int) (n9 : Int) (rec2 : Int → Option Bool) (n23 : Int) : Option Bool :=
 if (decide (n23 < (l8.length : Int))) = true then
  (idx l8 n23).bind fun x25 =>
  (q198q F l7 x25).bind fun r26 =>
  (idx l8 n23).bind fun x27 =>
  (q228q F l7 x27).bind fun r28 =>
  ((q170q F r26.1 r28.1).bind fun r31 => if (!r31) = true then some true else some (!(r26.2 == r28.2))).bind fun w30 =>
  if w30 = true then
   some false
  else
  rec2 (i64 (n23 + 1))
 else
 rec1 r5.1 r6.1 (i64 (n9 + 1))
def q21q (rec1 : (List GBag) → (List Int) → Int → Option Bool) (F : Nat) (r5 : List GBag × GTape) (r6 : List Int × GTape) (l7 : List GBag) (l8 : List Int) (n9 : Int) : Nat → Int → Option Bool
 | 0 => fun _ => .none
 | n + 1 => q46q rec1 F r5 r6 l7 l8 n9 (q21q rec1 F r5 r6 l7 l8 n9 n)
def q45q (F : Nat) (r5 : List GBag × GTape) (r6 : List Int × GTape) (rec1 : (List GBag) → (List Int) → Int → Option Bool) (l7 : List GBag) (l8 : List Int) (n9 : Int) : Option Bool :=
 if (decide (n9 < 2)) = true then
  (q121q F l7 l8).bind fun r11 =>
  (q196q F l7 l8).bind fun r12 =>
  ((q36q F r11.1 r12.1).bind fun r15 => if (!r15) = true then some true else (q36q F r11.2.1 r12.2.1).bind fun r17 => if (!r17) = true then some true else (q36q F r11.2.2.1 r12.2.2.1).bind fun r19 => if (!r19) = true then some true else (q36q F r11.2.2.2 r12.2.2.2).bind fun r21 => some (!r21)).bind fun w14 =>
  if w14 = true then
   some false
  else
  q21q rec1 F r5 r6 l7 l8 n9 F 0
 else
 (q191q F).bind fun r34 =>
 some r34
def q10q (F : Nat) (r5 : List GBag × GTape) (r6 : List Int × GTape) : Nat → (List GBag) → (List Int) → Int → Option Bool
 | 0 => fun _ _ _ => .none
 | n + 1 => q45q F r5 r6 (q10q F r5 r6 n)
def q123q (F : Nat) (p0 : List GBag) (p1 : List Int) (p2 : List Int) : Option Bool :=
 if ((decide ((p0.length : Int) > 20)) || (decide ((p1.length : Int) > 30))) = true then
  some true
 else
 (make_New p2).bind fun r4 =>
 (q200q F r4 5).bind fun r5 =>
 (Gq13 F r5.2 8 0 10).bind fun r6 =>
 q10q F r5 r6 F p0 p1 0
end
end Go.Sh
