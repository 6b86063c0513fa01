import Derived.Test.YtmollikhdbaikaaZLb
import Derived.Test.YtmollikhdbaikaaZLc
set_option linter.unusedVariables false
set_option linter.unusedSimpArgs false
set_option maxRecDepth 100000
set_option maxHeartbeats 1000000
namespace Go.Sh
open Go.L
noncomputable section
structure GTape where
 L : List Int
 At : Int
 deriving DecidableEq, Inhabited
def GTape.lv (x : GTape) : LV := .agg [(lvl 1 LV.I) x.L, .I x.At]
theorem GTape.ok : OkF 2 GTape.lv := fun _ => ⟨rfl, rfl, rfl⟩
structure Gq4 where
 Time : Int
 Source : Int
 Seq : Int
 deriving DecidableEq, Inhabited
def Gq4.lv (x : Gq4) : LV := .agg [.I x.Time, .I x.Source, .I x.Seq]
theorem Gq4.ok : OkF 3 Gq4.lv := fun _ => ⟨rfl, rfl, rfl⟩
structure GPart where
 Kind : Int
 Max : Int
 Topic : Int
 Objective : Int
 Options : Int
 Key : Int
 deriving DecidableEq, Inhabited
def GPart.lv (x : GPart) : LV := .agg [.I x.Kind, .I x.Max, .I x.Topic, .I x.Objective, .I x.Options, .I x.Key]
theorem GPart.ok : OkF 6 GPart.lv := fun _ => ⟨rfl, rfl, rfl⟩
structure GItem where
 ID : Int
 Version : Int
 Stem : ByteArray
 Parts : List GPart
 Enemies : List Int
 deriving DecidableEq, Inhabited
def GItem.lv (x : GItem) : LV := .agg [.I x.ID, .I x.Version, LV.str x.Stem, (lvl 6 GPart.lv) x.Parts, (lvl 1 LV.I) x.Enemies]
theorem GItem.ok : OkF 5 GItem.lv := fun _ => ⟨rfl, rfl, rfl⟩
structure GRef where
 ID : Int
 Version : Int
 deriving DecidableEq, Inhabited
def GRef.lv (x : GRef) : LV := .agg [.I x.ID, .I x.Version]
theorem GRef.ok : OkF 2 GRef.lv := fun _ => ⟨rfl, rfl, rfl⟩
structure Gq0 where
 Stamp : Gq4
 Kind : Int
 Item : GItem
 Ref : GRef
 Form : Int
 deriving DecidableEq, Inhabited
def Gq0.lv (x : Gq0) : LV := .agg [.I x.Stamp.Time, .I x.Stamp.Source, .I x.Stamp.Seq, .I x.Kind, .I x.Item.ID, .I x.Item.Version, LV.str x.Item.Stem, (lvl 6 GPart.lv) x.Item.Parts, (lvl 1 LV.I) x.Item.Enemies, .I x.Ref.ID, .I x.Ref.Version, .I x.Form]
theorem Gq0.ok : OkF 12 Gq0.lv := fun _ => ⟨rfl, rfl, rfl⟩
structure GUse where
 Version : Int
 Form : Int
 Time : Int
 deriving DecidableEq, Inhabited
def GUse.lv (x : GUse) : LV := .agg [.I x.Version, .I x.Form, .I x.Time]
theorem GUse.ok : OkF 3 GUse.lv := fun _ => ⟨rfl, rfl, rfl⟩
structure Gq2 where
 ID : Int
 Versions : List GItem
 Approved : List Bool
 Uses : List GUse
 Withdrawn : Bool
 deriving DecidableEq, Inhabited
def Gq2.lv (x : Gq2) : LV := .agg [.I x.ID, (lvl 5 GItem.lv) x.Versions, (lvl 1 LV.bool) x.Approved, (lvl 3 GUse.lv) x.Uses, LV.bool x.Withdrawn]
theorem Gq2.ok : OkF 5 Gq2.lv := fun _ => ⟨rfl, rfl, rfl⟩
structure GBank where
 Records : List Gq2
 deriving DecidableEq, Inhabited
def GBank.lv (x : GBank) : LV := .agg [(lvl 5 Gq2.lv) x.Records]
theorem GBank.ok : OkF 1 GBank.lv := fun _ => ⟨rfl, rfl, rfl⟩
structure Gq1 where
 Source : Int
 Seq : Int
 deriving DecidableEq, Inhabited
def Gq1.lv (x : Gq1) : LV := .agg [.I x.Source, .I x.Seq]
theorem Gq1.ok : OkF 2 Gq1.lv := fun _ => ⟨rfl, rfl, rfl⟩
structure Gq3 where
 Event : Gq1
 Code : Int
 deriving DecidableEq, Inhabited
def Gq3.lv (x : Gq3) : LV := .agg [.I x.Event.Source, .I x.Event.Seq, .I x.Code]
theorem Gq3.ok : OkF 3 Gq3.lv := fun _ => ⟨rfl, rfl, rfl⟩
structure q0q where
 first : Int
 disputed : Bool
 deriving DecidableEq, Inhabited
def q0q.lv (x : q0q) : LV := .agg [.I x.first, LV.bool x.disputed]
theorem q0q.ok : OkF 2 q0q.lv := fun _ => ⟨rfl, rfl, rfl⟩
def make_New (p0 : List Int) : Option GTape :=
 if (decide ((p0.length : Int) > 600)) = true then
  (slc p0 0 600).bind fun v2 =>
  some (GTape.mk v2 0)
 else
 some (GTape.mk p0 0)
def Gq29 (p0 : GTape) : Option (Int × GTape) :=
 if (decide (p0.At ≥ (p0.L.length : Int))) = true then
  some (0, p0)
 else
 (idx p0.L (i64 ((i64 (p0.At + 1)) - 1))).bind fun x2 =>
 some (x2, (GTape.mk p0.L (i64 (p0.At + 1))))
def make_Cut (p0 : Int) (p1 : Int) : Option Int :=
 if (decide (p1 < 1)) = true then
  some 0
 else
 (rmd p0 p1).bind fun v2 =>
 if (decide (v2 < 0)) = true then
  some (i64 (v2 + p1))
 else
 some v2
def Gq18 (p0 : GTape) (p1 : Int) : Option (Int × GTape) :=
 (Gq29 p0).bind fun r1 =>
 (make_Cut r1.1 p1).bind fun r2 =>
 some (r2, r1.2)
def Gq27 (p0 : GTape) (p1 : Int) (p2 : Int) : Option (Int × GTape) :=
 (Gq18 p0 (i64 ((i64 (p2 - p1)) + 1))).bind fun r1 =>
 some ((i64 (p1 + r1.1)), r1.2)
def Gq25 (p0 : GTape) (p1 : List Int) : Option (Int × GTape) :=
 (Gq18 p0 (p1.length : Int)).bind fun r1 =>
 (idx p1 r1.1).bind fun x2 =>
 some (x2, r1.2)
def Gq37  (rec1 : ByteArray → Int → (List Int) → Int → Option (ByteArray × GTape)) (t2 : ByteArray) (n3 : Int) (l4 : List Int) (n5 : Int) : Option (ByteArray × GTape) :=
 if (decide (n3 > 0)) = true then
  (Gq18 (GTape.mk l4 n5) 3).bind fun r7 =>
  (scat t2 (sofb [(IntKind.u8.wrap (i64 (97 + r7.1)))])).bind fun t8 =>
  rec1 t8 (i64 (n3 - 1)) r7.2.L r7.2.At
 else
 some (t2, (GTape.mk l4 n5))
def Gq36  : Nat → ByteArray → Int → (List Int) → Int → Option (ByteArray × GTape)
 | 0 => fun _ _ _ _ => .none
 | n + 1 => Gq37  (Gq36 n)
def Gq35 (F : Nat) (p0 : GTape) (p1 : Int) : Option (ByteArray × GTape) :=
 (Gq27 p0 1 p1).bind fun r1 =>
 Gq36 F (ByteArray.mk #[]) r1.1 r1.2.L r1.2.At
def Gq20 (p0 : GTape) (p1 : Int) : Option (Bool × GTape) :=
 (Gq18 p0 p1).bind fun r1 =>
 some ((r1.1 == (i64 (p1 - 1))), r1.2)
def Gq33 (p0 : GTape) : Option (Int × GTape) :=
 (Gq25 p0 [(-1), 0, 1, 2, 31, 32, 99, 100, 200, 201, 9999, 10000, 1000000, 1000001, 1152921504606846976, 1152921504606846977, (-1152921504606846976), 9223372036854775807, (-9223372036854775808)]).bind fun r1 =>
 some (r1.1, r1.2)
def Gq23 (p1 : Int) (r2 : Int × GTape) (r3 : Int × GTape) (l4 : List Int) (n5 : Int) (n6 : Int) (n7 : Int) (n8 : Int) (n9 : Int) : Option (GPart × GTape) :=
 (if (decide (p1 > 0)) = true then (Gq20 (GTape.mk l4 n5) p1).bind fun r15 => some (r15.1, r15.2.L, r15.2.At) else some (false, l4, n5)).bind fun w13 =>
 if w13.1 = true then
  (Gq18 (GTape.mk w13.2.1 w13.2.2) 6).bind fun r17 =>
  if (r17.1 == 0) = true then
   (Gq27 r17.2 (-1) 3).bind fun r19 =>
   some ((GPart.mk r19.1 n7 r2.1 r3.1 n8 n9), r19.2)
  else
  if (r17.1 == 1) = true then
   (Gq25 r17.2 [0, 40, 41, (-1)]).bind fun r21 =>
   some ((GPart.mk n6 r21.1 r2.1 r3.1 n8 n9), r21.2)
  else
  if (r17.1 == 2) = true then
   (Gq33 r17.2).bind fun r23 =>
   some ((GPart.mk n6 n7 r23.1 r3.1 n8 n9), r23.2)
  else
  if (r17.1 == 3) = true then
   (Gq33 r17.2).bind fun r25 =>
   some ((GPart.mk n6 n7 r2.1 r25.1 n8 n9), r25.2)
  else
  if (r17.1 == 4) = true then
   (Gq27 r17.2 (-1) 6).bind fun r27 =>
   some ((GPart.mk n6 n7 r2.1 r3.1 r27.1 n9), r27.2)
  else
  (Gq27 r17.2 (-1) 5).bind fun r28 =>
  some ((GPart.mk n6 n7 r2.1 r3.1 n8 r28.1), r28.2)
 else
 some ((GPart.mk n6 n7 r2.1 r3.1 n8 n9), (GTape.mk w13.2.1 w13.2.2))
def Gq22 (p0 : GTape) (p1 : Int) : Option (GPart × GTape) :=
 (Gq27 p0 1 12).bind fun r1 =>
 (Gq18 r1.2 4).bind fun r2 =>
 (Gq18 r2.2 3).bind fun r3 =>
 (Gq18 r3.2 3).bind fun r29 =>
 if (r29.1 == 0) = true then
  (Gq27 r29.2 2 5).bind fun r31 =>
  (Gq18 r31.2 r31.1).bind fun r32 =>
  (Gq27 r32.2 1 3).bind fun r33 =>
  Gq23 p1 r2 r3 r33.2.L r33.2.At 2 r33.1 r31.1 r32.1
 else
 Gq23 p1 r2 r3 r29.2.L r29.2.At 1 r1.1 0 0
def Gq16 (p1 : Int) (p2 : Int) (p3 : Int) (t2 : ByteArray) (l7 : List GPart) (rec2 : Int → (List Int) → Int → (List Int) → Option (GItem × GTape)) (n11 : Int) (l12 : List Int) (n13 : Int) (l14 : List Int) : Option (GItem × GTape) :=
 if (decide (n11 < 6)) = true then
  (if (n11 != p1) = true then (Gq20 (GTape.mk l12 n13) 8).bind fun r21 => some (r21.1, r21.2.L, r21.2.At) else some (false, l12, n13)).bind fun w19 =>
  if w19.1 = true then
   (app l14 [n11]).bind fun v23 =>
   rec2 (i64 (n11 + 1)) w19.2.1 w19.2.2 v23
  else
  rec2 (i64 (n11 + 1)) w19.2.1 w19.2.2 l14
 else
 (if (decide (p3 > 0)) = true then (Gq20 (GTape.mk l12 n13) p3).bind fun r29 => some (r29.1, r29.2.L, r29.2.At) else some (false, l12, n13)).bind fun w27 =>
 if w27.1 = true then
  (Gq18 (GTape.mk w27.2.1 w27.2.2) 7).bind fun r31 =>
  if (r31.1 == 0) = true then
   (Gq33 r31.2).bind fun r33 =>
   some ((GItem.mk r33.1 p2 t2 l7 l14), r33.2)
  else
  if (r31.1 == 1) = true then
   (Gq25 r31.2 [0, 8, 9, (-1)]).bind fun r35 =>
   some ((GItem.mk p1 r35.1 t2 l7 l14), r35.2)
  else
  if (r31.1 == 2) = true then
   (Gq18 r31.2 3).bind fun r37 =>
   (idx ([(ByteArray.mk #[]), (ByteArray.mk #[116, 97, 98, 9]), (ByteArray.mk #[48, 49, 50, 51, 52, 53, 54, 55, 56, 57, 48, 49, 50, 51, 52, 53, 54, 55, 56, 57, 48, 49, 50, 51, 52, 53, 54, 55, 56, 57, 48, 49, 50, 51, 52, 53, 54, 55, 56, 57, 120])]) r37.1).bind fun x38 =>
   some ((GItem.mk p1 p2 x38 l7 l14), r37.2)
  else
  if (r31.1 == 3) = true then
   some ((GItem.mk p1 p2 t2 [] l14), r31.2)
  else
  if (r31.1 == 4) = true then
   (Gq22 r31.2 1).bind fun r41 =>
   (app l7 [r41.1]).bind fun v42 =>
   some ((GItem.mk p1 p2 t2 v42 l14), r41.2)
  else
  if (r31.1 == 5) = true then
   (Gq25 r31.2 [0, p1, (-1), 10000, 3]).bind fun r44 =>
   (app l14 [r44.1]).bind fun v45 =>
   some ((GItem.mk p1 p2 t2 l7 v45), r44.2)
  else
  (idx l7 0).bind fun x46 =>
  (idx l7 0).bind fun x47 =>
  (idx l7 0).bind fun x48 =>
  (idx l7 0).bind fun x49 =>
  (idx l7 0).bind fun x50 =>
  (idx l7 0).bind fun x51 =>
  (app l7 [x46, x47, x48, x49, x50, x51]).bind fun v52 =>
  some ((GItem.mk p1 p2 t2 v52 l14), r31.2)
 else
 some ((GItem.mk p1 p2 t2 l7 l14), (GTape.mk w27.2.1 w27.2.2))
def Gq15 (p1 : Int) (p2 : Int) (p3 : Int) (t2 : ByteArray) (l7 : List GPart) : Nat → Int → (List Int) → Int → (List Int) → Option (GItem × GTape)
 | 0 => fun _ _ _ _ => .none
 | n + 1 => Gq16 p1 p2 p3 t2 l7 (Gq15 p1 p2 p3 t2 l7 n)
def Gq14 (F : Nat) (p1 : Int) (p2 : Int) (p3 : Int) (t2 : ByteArray) (rec1 : Int → (List Int) → Int → (List GPart) → Option (GItem × GTape)) (n4 : Int) (l5 : List Int) (n6 : Int) (l7 : List GPart) : Option (GItem × GTape) :=
 if (decide (n4 > 0)) = true then
  (Gq22 (GTape.mk l5 n6) 0).bind fun r9 =>
  (app l7 [r9.1]).bind fun v10 =>
  rec1 (i64 (n4 - 1)) r9.2.L r9.2.At v10
 else
 Gq15 p1 p2 p3 t2 l7 F 0 l5 n6 ([] : List Int)
def Gq13 (F : Nat) (p1 : Int) (p2 : Int) (p3 : Int) (t2 : ByteArray) : Nat → Int → (List Int) → Int → (List GPart) → Option (GItem × GTape)
 | 0 => fun _ _ _ _ => .none
 | n + 1 => Gq14 F p1 p2 p3 t2 (Gq13 F p1 p2 p3 t2 n)
def Gq12 (F : Nat) (p0 : GTape) (p1 : Int) (p2 : Int) (p3 : Int) : Option (GItem × GTape) :=
 (Gq35 F p0 3).bind fun r1 =>
 (scat (ByteArray.mk #[113]) r1.1).bind fun t2 =>
 (Gq27 r1.2 1 3).bind fun r3 =>
 Gq13 F p1 p2 p3 t2 F r3.1 r3.2.L r3.2.At ([] : List GPart)
def Gq31 (p0 : GTape) (p1 : Int) : Option (Gq4 × GTape) :=
 (Gq27 p0 0 24).bind fun r1 =>
 (Gq27 r1.2 0 3).bind fun r2 =>
 (Gq27 r2.2 0 9).bind fun r3 =>
 (if (decide (p1 > 0)) = true then (Gq20 r3.2 p1).bind fun r9 => some (r9.1, r9.2.L, r9.2.At) else some (false, r3.2.L, r3.2.At)).bind fun w7 =>
 if w7.1 = true then
  (Gq18 (GTape.mk w7.2.1 w7.2.2) 3).bind fun r11 =>
  if (r11.1 == 0) = true then
   (Gq33 r11.2).bind fun r13 =>
   some ((Gq4.mk r13.1 r2.1 r3.1), r13.2)
  else
  if (r11.1 == 1) = true then
   (Gq33 r11.2).bind fun r15 =>
   some ((Gq4.mk r1.1 r15.1 r3.1), r15.2)
  else
  (Gq33 r11.2).bind fun r16 =>
  some ((Gq4.mk r1.1 r2.1 r16.1), r16.2)
 else
 some ((Gq4.mk r1.1 r2.1 r3.1), (GTape.mk w7.2.1 w7.2.2))
def Gq7 (rec1 : Int → (List Int) → Int → (List Int) → (List Gq0) → Option (List Gq0 × GTape)) (n3 : Int) (l7 : List Gq0) (n18 : Int) (t20 : ByteArray) (l21 : List GPart) (l22 : List Int) (n25 : Int) (l26 : List Int) (n27 : Int) (n28 : Int) (n29 : Int) (n30 : Int) (n31 : Int) (n32 : Int) (n33 : Int) (l34 : List Int) (n35 : Int) : Option (List Gq0 × GTape) :=
 (app l7 [(Gq0.mk (Gq4.mk n27 n28 n29) n30 (GItem.mk n18 n31 t20 l21 l22) (GRef.mk n32 n33) n25)]).bind fun v36 =>
 (Gq20 (GTape.mk l34 n35) 8).bind fun r37 =>
 if r37.1 = true then
  (Gq18 r37.2 (v36.length : Int)).bind fun r39 =>
  (idx v36 r39.1).bind fun x40 =>
  (app v36 [x40]).bind fun v41 =>
  rec1 (i64 (n3 - 1)) r39.2.L r39.2.At l26 v41
 else
 rec1 (i64 (n3 - 1)) r37.2.L r37.2.At l26 v36
def Gq6 (rec1 : Int → (List Int) → Int → (List Int) → (List Gq0) → Option (List Gq0 × GTape)) (p2 : Int) (n3 : Int) (l7 : List Gq0) (r10 : Int × GTape) (r11 : Int × GTape) (l15 : List Int) (n16 : Int) (n17 : Int) (n18 : Int) (n19 : Int) (t20 : ByteArray) (l21 : List GPart) (l22 : List Int) (n23 : Int) (n24 : Int) (n25 : Int) (l26 : List Int) : Option (List Gq0 × GTape) :=
 (if (decide (p2 > 0)) = true then (Gq20 (GTape.mk l15 n16) p2).bind fun r47 => some (r47.1, r47.2.L, r47.2.At) else some (false, l15, n16)).bind fun w45 =>
 if w45.1 = true then
  (Gq18 (GTape.mk w45.2.1 w45.2.2) 5).bind fun r49 =>
  if (r49.1 == 0) = true then
   (Gq27 r49.2 (-1) 8).bind fun r51 =>
   Gq7 rec1 n3 l7 n18 t20 l21 l22 n25 l26 (i64 ((l7.length : Int) + r10.1)) r11.1 (l7.length : Int) r51.1 n19 n23 n24 r51.2.L r51.2.At
  else
  if (r49.1 == 1) = true then
   (Gq27 r49.2 (-1) 3).bind fun r53 =>
   Gq7 rec1 n3 l7 n18 t20 l21 l22 n25 l26 (i64 ((l7.length : Int) + r10.1)) r11.1 (l7.length : Int) n17 n19 n23 r53.1 r53.2.L r53.2.At
  else
  if (r49.1 == 2) = true then
   (Gq18 r49.2 7).bind fun r55 =>
   Gq7 rec1 n3 l7 n18 t20 l21 l22 n25 l26 (i64 ((l7.length : Int) + r10.1)) r11.1 (l7.length : Int) n17 n19 r55.1 n24 r55.2.L r55.2.At
  else
  if (r49.1 == 3) = true then
   (Gq31 r49.2 3).bind fun r57 =>
   Gq7 rec1 n3 l7 n18 t20 l21 l22 n25 l26 r57.1.Time r57.1.Source r57.1.Seq n17 n19 n23 n24 r57.2.L r57.2.At
  else
  (Gq27 r49.2 0 3).bind fun r58 =>
  Gq7 rec1 n3 l7 n18 t20 l21 l22 n25 l26 (i64 ((l7.length : Int) + r10.1)) r11.1 (l7.length : Int) n17 r58.1 n23 n24 r58.2.L r58.2.At
 else
 Gq7 rec1 n3 l7 n18 t20 l21 l22 n25 l26 (i64 ((l7.length : Int) + r10.1)) r11.1 (l7.length : Int) n17 n19 n23 n24 w45.2.1 w45.2.2
def Gq8 (rec1 : Int → (List Int) → Int → (List Int) → (List Gq0) → Option (List Gq0 × GTape)) (F : Nat) (p2 : Int) (n3 : Int) (l6 : List Int) (l7 : List Gq0) (r9 : Int × GTape) (r10 : Int × GTape) (r11 : Int × GTape) (r14 : Int × GTape) (n64 : Int) : Option (List Gq0 × GTape) :=
 (idx l6 r9.1).bind fun x65 =>
 (idx l6 r9.1).bind fun x66 =>
 (idx (l6.set r9.1.toNat (min (i64 (x65 + 1)) 9)) r9.1).bind fun x67 =>
 (Gq12 F r14.2 r9.1 x67 p2).bind fun r68 =>
 Gq6 rec1 p2 n3 l7 r10 r11 r68.2.L r68.2.At n64 r68.1.ID r68.1.Version r68.1.Stem r68.1.Parts r68.1.Enemies 0 0 0 (l6.set r9.1.toNat (min (i64 (x65 + 1)) 9))
def Gq10 (F : Nat) (p2 : Int) (rec1 : Int → (List Int) → Int → (List Int) → (List Gq0) → Option (List Gq0 × GTape)) (n3 : Int) (l4 : List Int) (n5 : Int) (l6 : List Int) (l7 : List Gq0) : Option (List Gq0 × GTape) :=
 if (decide (n3 > 0)) = true then
  (Gq18 (GTape.mk l4 n5) 5).bind fun r9 =>
  (Gq18 r9.2 2).bind fun r10 =>
  (Gq18 r10.2 2).bind fun r11 =>
  (Gq25 r11.2 [3, 4, 4, 2, 5, 6]).bind fun r12 =>
  (idx l6 r9.1).bind fun x13 =>
  (Gq18 r12.2 4).bind fun r14 =>
  ((idx l6 r9.1).bind fun x61 => if (x61 == 0) = true then some true else some (r12.1 == 2)).bind fun w60 =>
  if w60 = true then
   (idx l6 r9.1).bind fun x69 =>
   if (x69 == 0) = true then
    Gq8 rec1 F p2 n3 l6 l7 r9 r10 r11 r14 1
   else
   Gq8 rec1 F p2 n3 l6 l7 r9 r10 r11 r14 2
  else
  Gq6 rec1 p2 n3 l7 r10 r11 r14.2.L r14.2.At r12.1 0 0 (ByteArray.mk #[]) ([] : List GPart) ([] : List Int) r9.1 (max 1 x13) r14.1 l6
 else
 some (l7, (GTape.mk l4 n5))
def Gq9 (F : Nat) (p2 : Int) : Nat → Int → (List Int) → Int → (List Int) → (List Gq0) → Option (List Gq0 × GTape)
 | 0 => fun _ _ _ _ _ => .none
 | n + 1 => Gq10 F p2 (Gq9 F p2 n)
def Gq5 (F : Nat) (p0 : GTape) (p1 : Int) (p2 : Int) : Option (List Gq0 × GTape) :=
 (mkl (0 : Int) 5).bind fun v1 =>
 (Gq27 p0 0 p1).bind fun r2 =>
 Gq9 F p2 F r2.1 r2.2.L r2.2.At v1 ([] : List Gq0)
def copies_Split_BankEvent_L1_B (p0 : List Gq0) (p1 : (Gq0 → Option Gq4)) (p2 : (Gq0 → Gq0 → Option Bool)) (rec1 : Int → (List Gq4) → (List Int) → (List (Gq4 × Int)) → Option (List Gq4 × List Int)) (n3 : Int) (l4 : List Gq4) (l5 : List Int) (m6 : List (Gq4 × Int)) : Option (List Gq4 × List Int) :=
 if (decide (n3 < (p0.length : Int))) = true then
  (idx p0 n3).bind fun x8 =>
  (p1 x8).bind fun r9 =>
  (idx l4 n3).bind fun x10 =>
  (idx (l4.set n3.toNat r9) n3).bind fun x11 =>
  if (!((mget m6 x11).isSome)) = true then
   (idx (l4.set n3.toNat r9) n3).bind fun x13 =>
   rec1 (i64 (n3 + 1)) (l4.set n3.toNat r9) l5 (mput m6 x13 n3)
  else
  (idx p0 ((mget m6 x11).getD 0)).bind fun x14 =>
  (p2 x14 x8).bind fun r15 =>
  if (!r15) = true then
   (idx l5 n3).bind fun x17 =>
   rec1 (i64 (n3 + 1)) (l4.set n3.toNat r9) (l5.set n3.toNat 1) m6
  else
  rec1 (i64 (n3 + 1)) (l4.set n3.toNat r9) l5 m6
 else
 some (l4, l5)
def copies_Split_BankEvent_L1 (p0 : List Gq0) (p1 : (Gq0 → Option Gq4)) (p2 : (Gq0 → Gq0 → Option Bool)) : Nat → Int → (List Gq4) → (List Int) → (List (Gq4 × Int)) → Option (List Gq4 × List Int)
 | 0 => fun _ _ _ _ => .none
 | n + 1 => copies_Split_BankEvent_L1_B p0 p1 p2 (copies_Split_BankEvent_L1 p0 p1 p2 n)
def copies_Split_BankEvent (F : Nat) (p0 : List Gq0) (p1 : (Gq0 → Option Gq4)) (p2 : (Gq0 → Gq0 → Option Bool)) : Option (List Gq4 × List Int) :=
 (mkl ((Gq4.mk 0 0 0) : Gq4) (p0.length : Int)).bind fun v1 =>
 (mkl (0 : Int) (p0.length : Int)).bind fun v2 =>
 copies_Split_BankEvent_L1 p0 p1 p2 F 0 v1 v2 ([] : List (Gq4 × Int))
def q76q (p0 : Gq4) : Option Bool :=
 some ((decide (p0.Time ≥ 0)) && ((decide (p0.Time ≤ 1000000)) && ((decide (p0.Source ≥ 0)) && ((decide (p0.Source ≤ 99)) && ((decide (p0.Seq ≥ 0)) && (decide (p0.Seq ≤ 9999)))))))
def cmp_isNaN_int (p0 : Int) : Option Bool :=
 some (p0 != p0)
def cmp_Compare_int (p0 : Int) (p1 : Int) : Option Int :=
 (cmp_isNaN_int p0).bind fun r1 =>
 (cmp_isNaN_int p1).bind fun r2 =>
 if r1 = true then
  if r2 = true then
   some 0
  else
  some (-1)
 else
 if r2 = true then
  some 1
 else
 if (decide (p0 < p1)) = true then
  some (-1)
 else
 if (decide (p0 > p1)) = true then
  some 1
 else
 some 0
def cmp_Or_int_L1_B (p0 : List Int) (rec1 : Int → Option Int) (n1 : Int) : Option Int :=
 if (decide (n1 < (p0.length : Int))) = true then
  (idx p0 n1).bind fun x3 =>
  if (x3 != 0) = true then
   some x3
  else
  rec1 (i64 (n1 + 1))
 else
 some 0
def cmp_Or_int_L1 (p0 : List Int) : Nat → Int → Option Int
 | 0 => fun _ => .none
 | n + 1 => cmp_Or_int_L1_B p0 (cmp_Or_int_L1 p0 n)
def cmp_Or_int (F : Nat) (p0 : List Int) : Option Int :=
 cmp_Or_int_L1 p0 F 0
def q21q (F : Nat) (p0 : Gq4) (p1 : Gq4) : Option Int :=
 (cmp_Compare_int p0.Source p1.Source).bind fun r1 =>
 (cmp_Compare_int p0.Seq p1.Seq).bind fun r2 =>
 (cmp_Or_int F [r1, r2]).bind fun r3 =>
 some r3
def q45q (F : Nat) (p0 : Int) (p1 : Int) (c0 : List Gq4) : Option Int :=
 (idx c0 p0).bind fun x1 =>
 (idx c0 p1).bind fun x2 =>
 (q21q F x1 x2).bind fun r3 =>
 (cmp_Compare_int p0 p1).bind fun r4 =>
 (cmp_Or_int F [r3, r4]).bind fun r5 =>
 some r5
def q44q (F : Nat) (p0 : List Gq4) (p1 : List Int) (l8 : List Int) (rec2 : Int → (List q0q) → Option (List q0q)) (n9 : Int) (l10 : List q0q) : Option (List q0q) :=
 if (decide (n9 < (l8.length : Int))) = true then
  (idx l8 n9).bind fun x12 =>
  (if (decide ((i64 ((l10.length : Int) - 1)) < 0)) = true then some true else (idx l10 (i64 ((l10.length : Int) - 1))).bind fun x16 => (idx p0 x16.first).bind fun x17 => (idx p0 x12).bind fun x18 => (q21q F x17 x18).bind fun r19 => some (r19 != 0)).bind fun w14 =>
  if w14 = true then
   (app l10 [(q0q.mk x12 false)]).bind fun v21 =>
   rec2 (i64 (n9 + 1)) v21
  else
  (idx l10 (i64 ((l10.length : Int) - 1))).bind fun x22 =>
  ((idx p0 x22.first).bind fun x25 => (idx p0 x12).bind fun x26 => if (!(decide (x25 = x26))) = true then some true else (idx p1 x22.first).bind fun x28 => (idx p1 x12).bind fun x29 => some (x28 != x29)).bind fun w24 =>
  if w24 = true then
   (idx l10 (i64 ((l10.length : Int) - 1))).bind fun x31 =>
   rec2 (i64 (n9 + 1)) (l10.set ((i64 ((l10.length : Int) - 1)).toNat) (q0q.mk x31.first true))
  else
  rec2 (i64 (n9 + 1)) l10
 else
 some l10
def q42q (F : Nat) (p0 : List Gq4) (p1 : List Int) (l8 : List Int) : Nat → Int → (List q0q) → Option (List q0q)
 | 0 => fun _ _ => .none
 | n + 1 => q44q F p0 p1 l8 (q42q F p0 p1 l8 n)
def q43q (F : Nat) (p0 : List Gq4) (p1 : List Int) (rec1 : Int → (List Int) → Option (List q0q)) (n1 : Int) (l2 : List Int) : Option (List q0q) :=
 if (decide (n1 < (p0.length : Int))) = true then
  (idx p0 n1).bind fun x4 =>
  (q76q x4).bind fun r5 =>
  if r5 = true then
   (app l2 [n1]).bind fun v7 =>
   rec1 (i64 (n1 + 1)) v7
  else
  rec1 (i64 (n1 + 1)) l2
 else
 (sortF (fun a0 a1 => q45q F a0 a1 p0) l2).bind fun l8 =>
 q42q F p0 p1 l8 F 0 ([] : List q0q)
def q41q (F : Nat) (p0 : List Gq4) (p1 : List Int) : Nat → Int → (List Int) → Option (List q0q)
 | 0 => fun _ _ => .none
 | n + 1 => q43q F p0 p1 (q41q F p0 p1 n)
def q75q (F : Nat) (p0 : List Gq4) (p1 : List Int) : Option (List q0q) :=
 q41q F p0 p1 F 0 ([] : List Int)
def q63q (F : Nat) (p0 : Gq4) (p1 : Gq4) : Option Int :=
 (cmp_Compare_int p0.Time p1.Time).bind fun r1 =>
 (cmp_Compare_int p0.Source p1.Source).bind fun r2 =>
 (cmp_Compare_int p0.Seq p1.Seq).bind fun r3 =>
 (cmp_Or_int F [r1, r2, r3]).bind fun r4 =>
 some r4
def q35q (F : Nat) (p0 : Int) (p1 : Int) (c0 : List Gq4) : Option Int :=
 (idx c0 p0).bind fun x1 =>
 (idx c0 p1).bind fun x2 =>
 (q63q F x1 x2).bind fun r3 =>
 some r3
def q34q (F : Nat) (p0 : List Gq4) (r2 : List q0q) (rec1 : Int → (List Int) → Option (List Int × Int)) (n3 : Int) (l4 : List Int) : Option (List Int × Int) :=
 if (decide (n3 < (r2.length : Int))) = true then
  (idx r2 n3).bind fun x6 =>
  if (!x6.disputed) = true then
   (app l4 [x6.first]).bind fun v8 =>
   rec1 (i64 (n3 + 1)) v8
  else
  rec1 (i64 (n3 + 1)) l4
 else
 if (decide ((l4.length : Int) > 300)) = true then
  some ([], 3)
 else
 (sortF (fun a0 a1 => q35q F a0 a1 p0) l4).bind fun l10 =>
 some (l10, 0)
def q31q (F : Nat) (p0 : List Gq4) (r2 : List q0q) : Nat → Int → (List Int) → Option (List Int × Int)
 | 0 => fun _ _ => .none
 | n + 1 => q34q F p0 r2 (q31q F p0 r2 n)
def q40q (F : Nat) (p0 : List Gq4) (p1 : List Int) : Option (List Int × Int) :=
 if ((p0.length : Int) != (p1.length : Int)) = true then
  some ([], 1)
 else
 (q75q F p0 p1).bind fun r2 =>
 q31q F p0 r2 F 0 ([] : List Int)
def copies_Canonical_BankEvent (F : Nat) (p0 : List Gq0) (p1 : (Gq0 → Option Gq4)) (p2 : (Gq0 → Gq0 → Option Bool)) : Option (List Int × Int) :=
 (copies_Split_BankEvent F p0 p1 p2).bind fun r1 =>
 (q40q F r1.1 r1.2).bind fun r2 =>
 some (r2.1, r2.2)
def bank_Canonical_1 (p0 : Gq0) : Option Gq4 :=
 some p0.Stamp
def q17q (p0 : List GPart) (p1 : List GPart) (rec1 : Int → Option Bool) (n2 : Int) : Option Bool :=
 if (decide (n2 < (p0.length : Int))) = true then
  (idx p0 n2).bind fun x4 =>
  (idx p1 n2).bind fun x5 =>
  if (!(decide (x4 = x5))) = true then
   some false
  else
  rec1 (i64 (n2 + 1))
 else
 some true
def q12q (p0 : List GPart) (p1 : List GPart) : Nat → Int → Option Bool
 | 0 => fun _ => .none
 | n + 1 => q17q p0 p1 (q12q p0 p1 n)
def q26q (F : Nat) (p0 : List GPart) (p1 : List GPart) : Option Bool :=
 if ((p0.length : Int) != (p1.length : Int)) = true then
  some false
 else
 q12q p0 p1 F 0
def q13q (p0 : List Int) (p1 : List Int) (rec1 : Int → Option Bool) (n2 : Int) : Option Bool :=
 if (decide (n2 < (p0.length : Int))) = true then
  (idx p0 n2).bind fun x4 =>
  (idx p1 n2).bind fun x5 =>
  if (x4 != x5) = true then
   some false
  else
  rec1 (i64 (n2 + 1))
 else
 some true
def q10q (p0 : List Int) (p1 : List Int) : Nat → Int → Option Bool
 | 0 => fun _ => .none
 | n + 1 => q13q p0 p1 (q10q p0 p1 n)
def q18q (F : Nat) (p0 : List Int) (p1 : List Int) : Option Bool :=
 if ((p0.length : Int) != (p1.length : Int)) = true then
  some false
 else
 q10q p0 p1 F 0
def bank_sameItem (F : Nat) (p0 : GItem) (p1 : GItem) : Option Bool :=
 (if (p0.ID == p1.ID) = true then if (p0.Version == p1.Version) = true then if (decide (p0.Stem = p1.Stem)) = true then (q26q F p0.Parts p1.Parts).bind fun r6 => if r6 = true then (q18q F p0.Enemies p1.Enemies).bind fun r8 => some r8 else some false else some false else some false else some false).bind fun w2 =>
 some w2
def bank_Same (F : Nat) (p0 : Gq0) (p1 : Gq0) : Option Bool :=
 (if (decide (p0.Stamp = p1.Stamp)) = true then if (p0.Kind == p1.Kind) = true then if (decide (p0.Ref = p1.Ref)) = true then if (p0.Form == p1.Form) = true then (bank_sameItem F p0.Item p1.Item).bind fun r7 => some r7 else some false else some false else some false else some false).bind fun w2 =>
 some w2
def bank_cloneItem (p0 : GItem) : Option GItem :=
 (app [] p0.Parts).bind fun v1 =>
 (app [] p0.Enemies).bind fun v2 =>
 some (GItem.mk p0.ID p0.Version p0.Stem v1 v2)
def bank_Canonical_L1_B (p0 : List Gq0) (r1 : List Int × Int) (rec1 : Int → (List Gq0) → Option (List Gq0 × Int)) (n4 : Int) (l5 : List Gq0) : Option (List Gq0 × Int) :=
 if (decide (n4 < (r1.1.length : Int))) = true then
  (idx r1.1 n4).bind fun x7 =>
  (idx p0 x7).bind fun x8 =>
  (idx l5 n4).bind fun x9 =>
  (idx p0 x7).bind fun x10 =>
  (bank_cloneItem x10.Item).bind fun r11 =>
  (idx (l5.set n4.toNat x8) n4).bind fun x12 =>
  rec1 (i64 (n4 + 1)) ((l5.set n4.toNat x8).set n4.toNat (Gq0.mk x12.Stamp x12.Kind r11 x12.Ref x12.Form))
 else
 some (l5, 0)
def bank_Canonical_L1 (p0 : List Gq0) (r1 : List Int × Int) : Nat → Int → (List Gq0) → Option (List Gq0 × Int)
 | 0 => fun _ _ => .none
 | n + 1 => bank_Canonical_L1_B p0 r1 (bank_Canonical_L1 p0 r1 n)
def bank_Canonical (F : Nat) (p0 : List Gq0) : Option (List Gq0 × Int) :=
 (copies_Canonical_BankEvent F p0 (fun a0 => bank_Canonical_1 a0) (fun a0 a1 => bank_Same F a0 a1)).bind fun r1 =>
 if (r1.2 != 0) = true then
  some ([], r1.2)
 else
 (mkl ((Gq0.mk (Gq4.mk 0 0 0) 0 (GItem.mk 0 0 (ByteArray.mk #[]) [] []) (GRef.mk 0 0) 0) : Gq0) (r1.1.length : Int)).bind fun v3 =>
 bank_Canonical_L1 p0 r1 F 0 v3
def q37q (p0 : GItem) (p1 : GItem) (rec1 : Int → (List Int) → Option (List Int)) (n1 : Int) (l2 : List Int) : Option (List Int) :=
 if (decide (n1 < (max (p0.Parts.length : Int) (p1.Parts.length : Int)))) = true then
  (if (decide (n1 ≥ (p0.Parts.length : Int))) = true then some true else if (decide (n1 ≥ (p1.Parts.length : Int))) = true then some true else (idx p0.Parts n1).bind fun x8 => (idx p1.Parts n1).bind fun x9 => some (!(decide (x8 = x9)))).bind fun w5 =>
  if w5 = true then
   (app l2 [n1]).bind fun v11 =>
   rec1 (i64 (n1 + 1)) v11
  else
  rec1 (i64 (n1 + 1)) l2
 else
 some l2
def q23q (p0 : GItem) (p1 : GItem) : Nat → Int → (List Int) → Option (List Int)
 | 0 => fun _ _ => .none
 | n + 1 => q37q p0 p1 (q23q p0 p1 n)
def q69q (F : Nat) (p0 : GItem) (p1 : GItem) : Option (List Int) :=
 q23q p0 p1 F 0 ([] : List Int)
def q65q (p0 : List Int) (p1 : List Int) (rec1 : Int → Option Bool) (n2 : Int) : Option Bool :=
 if (decide (n2 < (p0.length : Int))) = true then
  (idx p0 n2).bind fun x4 =>
  (idx p1 n2).bind fun x5 =>
  if (x4 != x5) = true then
   some false
  else
  rec1 (i64 (n2 + 1))
 else
 some true
def q51q (p0 : List Int) (p1 : List Int) : Nat → Int → Option Bool
 | 0 => fun _ => .none
 | n + 1 => q65q p0 p1 (q51q p0 p1 n)
def q68q (F : Nat) (p0 : List Int) (p1 : List Int) : Option Bool :=
 if ((p0.length : Int) != (p1.length : Int)) = true then
  some false
 else
 q51q p0 p1 F 0
def q74q (F : Nat) (p0 : GItem) (p1 : GItem) : Option Bool :=
 (if (p0.ID == p1.ID) = true then if (p0.Version == p1.Version) = true then if (decide (p0.Stem = p1.Stem)) = true then if ((p0.Parts.length : Int) == (p1.Parts.length : Int)) = true then (q69q F p0 p1).bind fun r7 => if ((r7.length : Int) == 0) = true then (q68q F p0.Enemies p1.Enemies).bind fun r9 => some r9 else some false else some false else some false else some false else some false).bind fun w2 =>
 some w2
def item_isNumber (p0 : Int) : Option Bool :=
 some ((decide (p0 ≥ 0)) && (decide (p0 ≤ 9999)))
def item_printable_L1_B (p0 : ByteArray) (rec1 : Int → Option Bool) (n1 : Int) : Option Bool :=
 if (decide (n1 < (p0.size : Int))) = true then
  ((sidx p0 n1).bind fun x5 => if (decide (x5 < 32)) = true then some true else (sidx p0 n1).bind fun x7 => some (decide (x7 > 126))).bind fun w4 =>
  if w4 = true then
   some false
  else
  rec1 (i64 (n1 + 1))
 else
 some true
def item_printable_L1 (p0 : ByteArray) : Nat → Int → Option Bool
 | 0 => fun _ => .none
 | n + 1 => item_printable_L1_B p0 (item_printable_L1 p0 n)
def item_printable (F : Nat) (p0 : ByteArray) : Option Bool :=
 item_printable_L1 p0 F 0
def item_ValidPart (p0 : GPart) : Option Bool :=
 if ((decide (p0.Max < 1)) || ((decide (p0.Max > 40)) || ((decide (p0.Topic < 0)) || ((decide (p0.Topic ≥ 16)) || ((decide (p0.Objective < 0)) || (decide (p0.Objective ≥ 6))))))) = true then
  some false
 else
 if (p0.Kind == 1) = true then
  some ((p0.Options == 0) && (p0.Key == 0))
 else
 if (p0.Kind == 2) = true then
  some ((decide (p0.Options ≥ 2)) && ((decide (p0.Options ≤ 5)) && ((decide (p0.Key ≥ 0)) && (decide (p0.Key < p0.Options)))))
 else
 some false
def item_validEnemies_L1_B (p0 : Int) (p1 : List Int) (rec1 : Int → Option Bool) (n1 : Int) : Option Bool :=
 if (decide (n1 < (p1.length : Int))) = true then
  (idx p1 n1).bind fun x3 =>
  ((item_isNumber x3).bind fun r6 => if (!r6) = true then some true else if (x3 == p0) = true then some true else if (decide (n1 > 0)) = true then (idx p1 (i64 (n1 - 1))).bind fun x10 => some (decide (x10 ≥ x3)) else some false).bind fun w5 =>
  if w5 = true then
   some false
  else
  rec1 (i64 (n1 + 1))
 else
 some true
def item_validEnemies_L1 (p0 : Int) (p1 : List Int) : Nat → Int → Option Bool
 | 0 => fun _ => .none
 | n + 1 => item_validEnemies_L1_B p0 p1 (item_validEnemies_L1 p0 p1 n)
def item_validEnemies (F : Nat) (p0 : Int) (p1 : List Int) : Option Bool :=
 item_validEnemies_L1 p0 p1 F 0
def item_Check_L1_B (F : Nat) (p0 : GItem) (rec1 : Int → Option Int) (n17 : Int) : Option Int :=
 if (decide (n17 < (p0.Parts.length : Int))) = true then
  (idx p0.Parts n17).bind fun x19 =>
  (item_ValidPart x19).bind fun r20 =>
  if (!r20) = true then
   some 1
  else
  rec1 (i64 (n17 + 1))
 else
 (item_validEnemies F p0.ID p0.Enemies).bind fun r22 =>
 if (!r22) = true then
  some 9
 else
 some 0
def item_Check_L1 (F : Nat) (p0 : GItem) : Nat → Int → Option Int
 | 0 => fun _ => .none
 | n + 1 => item_Check_L1_B F p0 (item_Check_L1 F p0 n)
def item_Check (F : Nat) (p0 : GItem) : Option Int :=
 ((item_isNumber p0.ID).bind fun r3 => if (!r3) = true then some true else if (decide (p0.Version < 1)) = true then some true else some (decide (p0.Version > 8))).bind fun w2 =>
 if w2 = true then
  some 2
 else
 if ((decide ((p0.Stem.size : Int) > 40)) || ((decide ((p0.Parts.length : Int) > 6)) || (decide ((p0.Enemies.length : Int) > 8)))) = true then
  some 3
 else
 (if (decide (p0.Stem = (ByteArray.mk #[]))) = true then some true else (item_printable F p0.Stem).bind fun r14 => some (!r14)).bind fun w12 =>
 if w12 = true then
  some 7
 else
 if ((p0.Parts.length : Int) == 0) = true then
  some 10
 else
 item_Check_L1 F p0 F 0
def q6q (p0 : List Gq2) (p1 : Int) (p2 : (Gq2 → Int → Option Int)) (rec1 : Int → Int → Option (Int × Bool)) (n1 : Int) (n2 : Int) : Option (Int × Bool) :=
 if (decide (n1 < n2)) = true then
  (idx p0 (i64 (shrI .u64 (IntKind.u64.wrap (i64 (n1 + n2))) 1))).bind fun x4 =>
  (p2 x4 p1).bind fun r5 =>
  if (decide (r5 < 0)) = true then
   rec1 (i64 ((i64 (shrI .u64 (IntKind.u64.wrap (i64 (n1 + n2))) 1)) + 1)) n2
  else
  rec1 n1 (i64 (shrI .u64 (IntKind.u64.wrap (i64 (n1 + n2))) 1))
 else
 (if (decide (n1 < (p0.length : Int))) = true then (idx p0 n1).bind fun x10 => (p2 x10 p1).bind fun r11 => some (r11 == 0) else some false).bind fun w8 =>
 some (n1, w8)
def q1q (p0 : List Gq2) (p1 : Int) (p2 : (Gq2 → Int → Option Int)) : Nat → Int → Int → Option (Int × Bool)
 | 0 => fun _ _ => .none
 | n + 1 => q6q p0 p1 p2 (q1q p0 p1 p2 n)
def q4q (F : Nat) (p0 : List Gq2) (p1 : Int) (p2 : (Gq2 → Int → Option Int)) : Option (Int × Bool) :=
 q1q p0 p1 p2 F 0 (p0.length : Int)
def bank_place_1 (p0 : Gq2) (p1 : Int) : Option Int :=
 (cmp_Compare_int p0.ID p1).bind fun r1 =>
 some r1
def bank_place (F : Nat) (p0 : GBank) (p1 : Int) : Option (Int × Bool) :=
 (q4q F p0.Records p1 (fun a0 a1 => bank_place_1 a0 a1)).bind fun r1 =>
 some (r1.1, r1.2)
def bank_draft (F : Nat) (p0 : GBank) (p1 : Gq0) : Option (Int × GBank) :=
 (item_Check F p1.Item).bind fun r1 =>
 if (r1 != 0) = true then
  some (r1, p0)
 else
 if (p1.Item.Version != 1) = true then
  some (8, p0)
 else
 (bank_place F p0 p1.Item.ID).bind fun r4 =>
 if r4.2 = true then
  some (5, p0)
 else
 if (decide ((p0.Records.length : Int) ≥ 40)) = true then
  some (3, p0)
 else
 (bank_cloneItem p1.Item).bind fun r7 =>
 (insF p0.Records r4.1 (Gq2.mk p1.Item.ID [r7] [false] ([] : List GUse) false)).bind fun v8 =>
 some (0, (GBank.mk v8))
def bank_record (F : Nat) (p0 : GBank) (p1 : Int) : Option (Option Int) :=
 (bank_place F p0 p1).bind fun r1 =>
 if (!r1.2) = true then
  some (none : Option Int)
 else
 (idx p0.Records r1.1).bind fun x3 =>
 some (some r1.1)
def bank_revise (F : Nat) (p0 : GBank) (p1 : Gq0) : Option (Int × GBank) :=
 (item_Check F p1.Item).bind fun r1 =>
 if (r1 != 0) = true then
  some (r1, p0)
 else
 (bank_record F p0 p1.Item.ID).bind fun r3 =>
 optC r3 (
  some (4, p0)) fun j4 =>
 (idx p0.Records j4).bind fun x5 =>
 if (x5.Withdrawn || (p1.Item.Version != (i64 ((x5.Versions.length : Int) + 1)))) = true then
  some (8, p0)
 else
 (bank_cloneItem p1.Item).bind fun r11 =>
 (app x5.Versions [r11]).bind fun v12 =>
 (app x5.Approved [false]).bind fun v13 =>
 some (0, (GBank.mk (p0.Records.set (j4).toNat (Gq2.mk x5.ID v12 v13 x5.Uses x5.Withdrawn))))
def bank_version (F : Nat) (p0 : GBank) (p1 : GRef) : Option (Option Int) :=
 (bank_record F p0 p1.ID).bind fun r1 =>
 optC r1 (
  some (none : Option Int)) fun j2 =>
 (idx p0.Records j2).bind fun x3 =>
 if ((decide (p1.Version < 1)) || (decide (p1.Version > (x3.Versions.length : Int)))) = true then
  some (none : Option Int)
 else
 some (some j2)
def bank_approve (F : Nat) (p0 : GBank) (p1 : Gq0) : Option (Int × GBank) :=
 (bank_version F p0 p1.Ref).bind fun r1 =>
 optC r1 (
  some (4, p0)) fun j2 =>
 (idx p0.Records j2).bind fun x3 =>
 if x3.Withdrawn = true then
  some (8, p0)
 else
 (idx x3.Approved (i64 (p1.Ref.Version - 1))).bind fun x7 =>
 if x7 = true then
  some (5, p0)
 else
 (idx x3.Approved (i64 (p1.Ref.Version - 1))).bind fun x9 =>
 some (0, (GBank.mk (p0.Records.set (j2).toNat (Gq2.mk x3.ID x3.Versions (x3.Approved.set ((i64 (p1.Ref.Version - 1)).toNat) true) x3.Uses x3.Withdrawn))))
def bank_use_1 (p0 : GUse) (c0 : Gq0) : Option Bool :=
 some (p0.Form == c0.Form)
def q14q (p0 : List GUse) (p1 : (GUse → Option Bool)) (rec1 : Int → Option Int) (n1 : Int) : Option Int :=
 if (decide (n1 < (p0.length : Int))) = true then
  (idx p0 n1).bind fun x3 =>
  (p1 x3).bind fun r4 =>
  if r4 = true then
   some n1
  else
  rec1 (i64 (n1 + 1))
 else
 some (-1)
def q8q (p0 : List GUse) (p1 : (GUse → Option Bool)) : Nat → Int → Option Int
 | 0 => fun _ => .none
 | n + 1 => q14q p0 p1 (q8q p0 p1 n)
def q33q (F : Nat) (p0 : List GUse) (p1 : (GUse → Option Bool)) : Option Int :=
 q8q p0 p1 F 0
def q11q (F : Nat) (p0 : List GUse) (p1 : (GUse → Option Bool)) : Option Bool :=
 (q33q F p0 p1).bind fun r1 =>
 some (decide (r1 ≥ 0))
def bank_use (F : Nat) (p0 : GBank) (p1 : Gq0) : Option (Int × GBank) :=
 (bank_version F p0 p1.Ref).bind fun r1 =>
 optC r1 (
  some (4, p0)) fun j2 =>
 (idx p0.Records j2).bind fun x3 =>
 (if x3.Withdrawn = true then some true else (idx x3.Approved (i64 (p1.Ref.Version - 1))).bind fun x9 => some (!x9)).bind fun w7 =>
 if w7 = true then
  some (8, p0)
 else
 (q11q F x3.Uses (fun a0 => bank_use_1 a0 p1)).bind fun r11 =>
 if r11 = true then
  some (5, p0)
 else
 if (decide ((x3.Uses.length : Int) ≥ 300)) = true then
  some (3, p0)
 else
 (app x3.Uses [(GUse.mk p1.Ref.Version p1.Form p1.Stamp.Time)]).bind fun v14 =>
 some (0, (GBank.mk (p0.Records.set (j2).toNat (Gq2.mk x3.ID x3.Versions x3.Approved v14 x3.Withdrawn))))
def bank_setWithdrawn_1 (F : Nat) (p0 : GBank) (p1 : Gq0) (c0 : Bool) : Option (Int × GBank) :=
 (bank_record F p0 p1.Ref.ID).bind fun r1 =>
 optC r1 (
  some (4, p0)) fun j2 =>
 (idx p0.Records j2).bind fun x3 =>
 if (x3.Withdrawn == c0) = true then
  some (8, p0)
 else
 some (0, (GBank.mk (p0.Records.set (j2).toNat (Gq2.mk x3.ID x3.Versions x3.Approved x3.Uses c0))))
def bank_setWithdrawn (F : Nat) (p0 : Bool) : Option Bool :=
 some p0
def bankHs : List (Int × Nat) := [(1, 1), (2, 2), (3, 3), (4, 4), (5, 5), (6, 6)]
def bank_handlers (F : Nat) : Option (List (Int × Nat)) :=
 some (mput (mput (mput (mput (mput (mput ([] : List (Int × Nat)) 1 1) 2 2) 3 3) 4 4) 5 5) 6 6)
def bank_Fold_L1_B (F : Nat) (p1 : Int) (r1 : List Gq0 × Int) (rec1 : Int → (List Gq3) → (List Gq2) → Option (GBank × List Gq3 × Int)) (n3 : Int) (l4 : List Gq3) (l5 : List Gq2) : Option (GBank × List Gq3 × Int) :=
 if (decide (n3 < (r1.1.length : Int))) = true then
  (idx r1.1 n3).bind fun x7 =>
  if (decide (x7.Stamp.Time > p1)) = true then
   some ((GBank.mk l5), l4, 0)
  else
  if (x7.Kind == 1) = true then
   (bank_draft F (GBank.mk l5) x7).bind fun r11 =>
   if (r11.1 != 0) = true then
    (app l4 [(Gq3.mk (Gq1.mk x7.Stamp.Source x7.Stamp.Seq) r11.1)]).bind fun v13 =>
    rec1 (i64 (n3 + 1)) v13 r11.2.Records
   else
   rec1 (i64 (n3 + 1)) l4 r11.2.Records
  else
  if (x7.Kind == 2) = true then
   (bank_revise F (GBank.mk l5) x7).bind fun r16 =>
   if (r16.1 != 0) = true then
    (app l4 [(Gq3.mk (Gq1.mk x7.Stamp.Source x7.Stamp.Seq) r16.1)]).bind fun v18 =>
    rec1 (i64 (n3 + 1)) v18 r16.2.Records
   else
   rec1 (i64 (n3 + 1)) l4 r16.2.Records
  else
  if (x7.Kind == 3) = true then
   (bank_approve F (GBank.mk l5) x7).bind fun r21 =>
   if (r21.1 != 0) = true then
    (app l4 [(Gq3.mk (Gq1.mk x7.Stamp.Source x7.Stamp.Seq) r21.1)]).bind fun v23 =>
    rec1 (i64 (n3 + 1)) v23 r21.2.Records
   else
   rec1 (i64 (n3 + 1)) l4 r21.2.Records
  else
  if (x7.Kind == 4) = true then
   (bank_use F (GBank.mk l5) x7).bind fun r26 =>
   if (r26.1 != 0) = true then
    (app l4 [(Gq3.mk (Gq1.mk x7.Stamp.Source x7.Stamp.Seq) r26.1)]).bind fun v28 =>
    rec1 (i64 (n3 + 1)) v28 r26.2.Records
   else
   rec1 (i64 (n3 + 1)) l4 r26.2.Records
  else
  if (x7.Kind == 5) = true then
   (bank_setWithdrawn_1 F (GBank.mk l5) x7 true).bind fun r31 =>
   if (r31.1 != 0) = true then
    (app l4 [(Gq3.mk (Gq1.mk x7.Stamp.Source x7.Stamp.Seq) r31.1)]).bind fun v33 =>
    rec1 (i64 (n3 + 1)) v33 r31.2.Records
   else
   rec1 (i64 (n3 + 1)) l4 r31.2.Records
  else
  if (x7.Kind == 6) = true then
   (bank_setWithdrawn_1 F (GBank.mk l5) x7 false).bind fun r36 =>
   if (r36.1 != 0) = true then
    (app l4 [(Gq3.mk (Gq1.mk x7.Stamp.Source x7.Stamp.Seq) r36.1)]).bind fun v38 =>
    rec1 (i64 (n3 + 1)) v38 r36.2.Records
   else
   rec1 (i64 (n3 + 1)) l4 r36.2.Records
  else
  if (2 != 0) = true then
   (app l4 [(Gq3.mk (Gq1.mk x7.Stamp.Source x7.Stamp.Seq) 2)]).bind fun v41 =>
   rec1 (i64 (n3 + 1)) v41 l5
  else
  rec1 (i64 (n3 + 1)) l4 l5
 else
 some ((GBank.mk l5), l4, 0)
def bank_Fold_L1 (F : Nat) (p1 : Int) (r1 : List Gq0 × Int) : Nat → Int → (List Gq3) → (List Gq2) → Option (GBank × List Gq3 × Int)
 | 0 => fun _ _ _ => .none
 | n + 1 => bank_Fold_L1_B F p1 r1 (bank_Fold_L1 F p1 r1 n)
def bank_Fold (F : Nat) (p0 : List Gq0) (p1 : Int) : Option (GBank × List Gq3 × Int) :=
 (bank_Canonical F p0).bind fun r1 =>
 if (r1.2 != 0) = true then
  some ((GBank.mk []), [], r1.2)
 else
 bank_Fold_L1 F p1 r1 F 0 ([] : List Gq3) ([] : List Gq2)
def bank_validRecord_L2_B (p0 : Gq2) (rec2 : Int → Option Bool) (n15 : Int) : Option Bool :=
 if (decide (n15 < (p0.Uses.length : Int))) = true then
  (idx p0.Uses n15).bind fun x17 =>
  if ((decide (x17.Version < 1)) || (decide (x17.Version > (p0.Versions.length : Int)))) = true then
   some false
  else
  rec2 (i64 (n15 + 1))
 else
 some true
def bank_validRecord_L2 (p0 : Gq2) : Nat → Int → Option Bool
 | 0 => fun _ => .none
 | n + 1 => bank_validRecord_L2_B p0 (bank_validRecord_L2 p0 n)
def bank_validRecord_L1_B (F : Nat) (p0 : Gq2) (rec1 : Int → Option Bool) (n6 : Int) : Option Bool :=
 if (decide (n6 < (p0.Versions.length : Int))) = true then
  (idx p0.Versions n6).bind fun x8 =>
  ((item_Check F x8).bind fun r11 => if (r11 != 0) = true then some true else if (x8.ID != p0.ID) = true then some true else some (x8.Version != (i64 (n6 + 1)))).bind fun w10 =>
  if w10 = true then
   some false
  else
  rec1 (i64 (n6 + 1))
 else
 bank_validRecord_L2 p0 F 0
def bank_validRecord_L1 (F : Nat) (p0 : Gq2) : Nat → Int → Option Bool
 | 0 => fun _ => .none
 | n + 1 => bank_validRecord_L1_B F p0 (bank_validRecord_L1 F p0 n)
def bank_validRecord (F : Nat) (p0 : Gq2) : Option Bool :=
 if ((decide ((p0.Versions.length : Int) < 1)) || ((decide ((p0.Versions.length : Int) > 8)) || (((p0.Approved.length : Int) != (p0.Versions.length : Int)) || (decide ((p0.Uses.length : Int) > 300))))) = true then
  some false
 else
 bank_validRecord_L1 F p0 F 0
def bank_valid_L1_B (F : Nat) (p0 : GBank) (rec1 : Int → Option Bool) (n2 : Int) : Option Bool :=
 if (decide (n2 < (p0.Records.length : Int))) = true then
  (idx p0.Records n2).bind fun x4 =>
  (if (decide (n2 > 0)) = true then (idx p0.Records (i64 (n2 - 1))).bind fun x8 => if (decide (x8.ID ≥ x4.ID)) = true then some true else (bank_validRecord F x4).bind fun r10 => some (!r10) else (bank_validRecord F x4).bind fun r11 => some (!r11)).bind fun w6 =>
  if w6 = true then
   some false
  else
  rec1 (i64 (n2 + 1))
 else
 some true
def bank_valid_L1 (F : Nat) (p0 : GBank) : Nat → Int → Option Bool
 | 0 => fun _ => .none
 | n + 1 => bank_valid_L1_B F p0 (bank_valid_L1 F p0 n)
def bank_valid (F : Nat) (p0 : GBank) : Option Bool :=
 if (decide ((p0.Records.length : Int) > 40)) = true then
  some false
 else
 bank_valid_L1 F p0 F 0
def bank_Eligible_1 (p0 : GUse) (c0 : Int) (c1 : Int) : Option Bool :=
 some (decide (p0.Time > (i64 (c0 - c1))))
def bank_Eligible_L2_B (rec1 : Int → (List GRef) → Option (List GRef)) (n10 : Int) (l11 : List GRef) (x13 : Gq2) (rec2 : Int → Option (List GRef)) (n19 : Int) : Option (List GRef) :=
 if (decide (n19 ≥ 0)) = true then
  (idx x13.Approved n19).bind fun x21 =>
  if x21 = true then
   (app l11 [(GRef.mk x13.ID (i64 (n19 + 1)))]).bind fun v23 =>
   rec1 (i64 (n10 + 1)) v23
  else
  rec2 (i64 (n19 - 1))
 else
 rec1 (i64 (n10 + 1)) l11
def bank_Eligible_L2 (rec1 : Int → (List GRef) → Option (List GRef)) (n10 : Int) (l11 : List GRef) (x13 : Gq2) : Nat → Int → Option (List GRef)
 | 0 => fun _ => .none
 | n + 1 => bank_Eligible_L2_B rec1 n10 l11 x13 (bank_Eligible_L2 rec1 n10 l11 x13 n)
def bank_Eligible_L1_B (F : Nat) (p0 : GBank) (p1 : Int) (p2 : Int) (p3 : Int) (rec1 : Int → (List GRef) → Option (List GRef)) (n10 : Int) (l11 : List GRef) : Option (List GRef) :=
 if (decide (n10 < (p0.Records.length : Int))) = true then
  (idx p0.Records n10).bind fun x13 =>
  if (x13.Withdrawn || (decide ((x13.Uses.length : Int) > p3))) = true then
   rec1 (i64 (n10 + 1)) l11
  else
  (q11q F x13.Uses (fun a0 => bank_Eligible_1 a0 p1 p2)).bind fun r17 =>
  if r17 = true then
   rec1 (i64 (n10 + 1)) l11
  else
  bank_Eligible_L2 rec1 n10 l11 x13 F (i64 ((x13.Approved.length : Int) - 1))
 else
 some l11
def bank_Eligible_L1 (F : Nat) (p0 : GBank) (p1 : Int) (p2 : Int) (p3 : Int) : Nat → Int → (List GRef) → Option (List GRef)
 | 0 => fun _ _ => .none
 | n + 1 => bank_Eligible_L1_B F p0 p1 p2 p3 (bank_Eligible_L1 F p0 p1 p2 p3 n)
def bank_Eligible (F : Nat) (p0 : GBank) (p1 : Int) (p2 : Int) (p3 : Int) : Option (List GRef) :=
 ((bank_valid F p0).bind fun r3 => if (!r3) = true then some true else if (decide (p1 < 0)) = true then some true else if (decide (p1 > 1000000)) = true then some true else if (decide (p2 < 0)) = true then some true else if (decide (p2 > 1000000)) = true then some true else some (decide (p3 < 0))).bind fun w2 =>
 if w2 = true then
  some []
 else
 bank_Eligible_L1 F p0 p1 p2 p3 F 0 ([] : List GRef)
def q70q (F : Nat) : Option Bool :=
 (bank_Fold F ([(Gq0.mk (Gq4.mk 3 0 2) 4 (GItem.mk 0 0 (ByteArray.mk #[]) [] []) (GRef.mk 5 1) 9), (Gq0.mk (Gq4.mk 1 0 0) 1 (GItem.mk 5 1 (ByteArray.mk #[113]) [(GPart.mk 1 3 0 0 0 0)] []) (GRef.mk 0 0) 0), (Gq0.mk (Gq4.mk 2 0 1) 3 (GItem.mk 0 0 (ByteArray.mk #[]) [] []) (GRef.mk 5 1) 0)]) 100).bind fun r1 =>
 (bank_Eligible F r1.1 10 7 1).bind fun r2 =>
 (if (r1.2.2 == 0) = true then if ((r1.2.1.length : Int) == 0) = true then if ((r2.length : Int) == 1) = true then (idx r2 0).bind fun x8 => if (decide (x8 = (GRef.mk 5 1))) = true then (bank_Eligible F r1.1 10 8 1).bind fun r10 => some ((r10.length : Int) == 0) else some false else some false else some false else some false).bind fun w4 =>
 some w4
def q30q (p0 : Gq2) (p1 : Gq2) (rec3 : Int → Option Bool) (n18 : Int) : Option Bool :=
 if (decide (n18 < (p0.Uses.length : Int))) = true then
  (idx p0.Uses n18).bind fun x20 =>
  (idx p1.Uses n18).bind fun x21 =>
  if (!(decide (x20 = x21))) = true then
   some false
  else
  rec3 (i64 (n18 + 1))
 else
 some true
def q20q (p0 : Gq2) (p1 : Gq2) : Nat → Int → Option Bool
 | 0 => fun _ => .none
 | n + 1 => q30q p0 p1 (q20q p0 p1 n)
def q29q (F : Nat) (p0 : Gq2) (p1 : Gq2) (rec2 : Int → Option Bool) (n13 : Int) : Option Bool :=
 if (decide (n13 < (p0.Approved.length : Int))) = true then
  (idx p0.Approved n13).bind fun x15 =>
  (idx p1.Approved n13).bind fun x16 =>
  if (!(x15 == x16)) = true then
   some false
  else
  rec2 (i64 (n13 + 1))
 else
 q20q p0 p1 F 0
def q15q (F : Nat) (p0 : Gq2) (p1 : Gq2) : Nat → Int → Option Bool
 | 0 => fun _ => .none
 | n + 1 => q29q F p0 p1 (q15q F p0 p1 n)
def q28q (F : Nat) (p0 : Gq2) (p1 : Gq2) (rec1 : Int → Option Bool) (n7 : Int) : Option Bool :=
 if (decide (n7 < (p0.Versions.length : Int))) = true then
  (idx p0.Versions n7).bind fun x9 =>
  (idx p1.Versions n7).bind fun x10 =>
  (q74q F x9 x10).bind fun r11 =>
  if (!r11) = true then
   some false
  else
  rec1 (i64 (n7 + 1))
 else
 q15q F p0 p1 F 0
def q19q (F : Nat) (p0 : Gq2) (p1 : Gq2) : Nat → Int → Option Bool
 | 0 => fun _ => .none
 | n + 1 => q28q F p0 p1 (q19q F p0 p1 n)
def q46q (F : Nat) (p0 : Gq2) (p1 : Gq2) : Option Bool :=
 if ((p0.ID != p1.ID) || ((!(p0.Withdrawn == p1.Withdrawn)) || (((p0.Versions.length : Int) != (p1.Versions.length : Int)) || (((p0.Approved.length : Int) != (p1.Approved.length : Int)) || ((p0.Uses.length : Int) != (p1.Uses.length : Int)))))) = true then
  some false
 else
 q19q F p0 p1 F 0
def q56q (F : Nat) (p0 : GBank) (p1 : GBank) (rec1 : Int → Option Bool) (n2 : Int) : Option Bool :=
 if (decide (n2 < (p0.Records.length : Int))) = true then
  (idx p0.Records n2).bind fun x4 =>
  (idx p1.Records n2).bind fun x5 =>
  (q46q F x4 x5).bind fun r6 =>
  if (!r6) = true then
   some false
  else
  rec1 (i64 (n2 + 1))
 else
 some true
def q50q (F : Nat) (p0 : GBank) (p1 : GBank) : Nat → Int → Option Bool
 | 0 => fun _ => .none
 | n + 1 => q56q F p0 p1 (q50q F p0 p1 n)
def q73q (F : Nat) (p0 : GBank) (p1 : GBank) : Option Bool :=
 if ((p0.Records.length : Int) != (p1.Records.length : Int)) = true then
  some false
 else
 q50q F p0 p1 F 0
def bank_cloneRecord_L1_B (p0 : Gq2) (rec1 : Int → (List GItem) → Option Gq2) (n2 : Int) (l3 : List GItem) : Option Gq2 :=
 if (decide (n2 < (p0.Versions.length : Int))) = true then
  (idx p0.Versions n2).bind fun x5 =>
  (bank_cloneItem x5).bind fun r6 =>
  (idx l3 n2).bind fun x7 =>
  rec1 (i64 (n2 + 1)) (l3.set n2.toNat r6)
 else
 (app [] p0.Approved).bind fun v8 =>
 (app [] p0.Uses).bind fun v9 =>
 some (Gq2.mk p0.ID l3 v8 v9 p0.Withdrawn)
def bank_cloneRecord_L1 (p0 : Gq2) : Nat → Int → (List GItem) → Option Gq2
 | 0 => fun _ _ => .none
 | n + 1 => bank_cloneRecord_L1_B p0 (bank_cloneRecord_L1 p0 n)
def bank_cloneRecord (F : Nat) (p0 : Gq2) : Option Gq2 :=
 (mkl ((GItem.mk 0 0 (ByteArray.mk #[]) [] []) : GItem) (p0.Versions.length : Int)).bind fun v1 =>
 bank_cloneRecord_L1 p0 F 0 v1
def bank_cloneBank_L1_B (F : Nat) (p0 : GBank) (rec1 : Int → (List Gq2) → Option GBank) (n2 : Int) (l3 : List Gq2) : Option GBank :=
 if (decide (n2 < (p0.Records.length : Int))) = true then
  (idx p0.Records n2).bind fun x5 =>
  (bank_cloneRecord F x5).bind fun r6 =>
  (idx l3 n2).bind fun x7 =>
  rec1 (i64 (n2 + 1)) (l3.set (n2).toNat r6)
 else
 some (GBank.mk l3)
def bank_cloneBank_L1 (F : Nat) (p0 : GBank) : Nat → Int → (List Gq2) → Option GBank
 | 0 => fun _ _ => .none
 | n + 1 => bank_cloneBank_L1_B F p0 (bank_cloneBank_L1 F p0 n)
def bank_cloneBank (F : Nat) (p0 : GBank) : Option GBank :=
 (mkl ((Gq2.mk 0 [] [] [] false) : Gq2) (p0.Records.length : Int)).bind fun v1 =>
 bank_cloneBank_L1 F p0 F 0 v1
def bank_Apply (F : Nat) (p0 : GBank) (p1 : Gq0) : Option (GBank × Int) :=
 (bank_valid F p0).bind fun r1 =>
 if (!r1) = true then
  some ((GBank.mk []), 1)
 else
 if (p1.Kind == 1) = true then
  (bank_cloneBank F p0).bind fun r5 =>
  (bank_draft F r5 p1).bind fun r6 =>
  if (r6.1 != 0) = true then
   some ((GBank.mk []), r6.1)
  else
  some (r6.2, 0)
 else
 if (p1.Kind == 2) = true then
  (bank_cloneBank F p0).bind fun r10 =>
  (bank_revise F r10 p1).bind fun r11 =>
  if (r11.1 != 0) = true then
   some ((GBank.mk []), r11.1)
  else
  some (r11.2, 0)
 else
 if (p1.Kind == 3) = true then
  (bank_cloneBank F p0).bind fun r15 =>
  (bank_approve F r15 p1).bind fun r16 =>
  if (r16.1 != 0) = true then
   some ((GBank.mk []), r16.1)
  else
  some (r16.2, 0)
 else
 if (p1.Kind == 4) = true then
  (bank_cloneBank F p0).bind fun r20 =>
  (bank_use F r20 p1).bind fun r21 =>
  if (r21.1 != 0) = true then
   some ((GBank.mk []), r21.1)
  else
  some (r21.2, 0)
 else
 if (p1.Kind == 5) = true then
  (bank_cloneBank F p0).bind fun r25 =>
  (bank_setWithdrawn_1 F r25 p1 true).bind fun r26 =>
  if (r26.1 != 0) = true then
   some ((GBank.mk []), r26.1)
  else
  some (r26.2, 0)
 else
 if (p1.Kind == 6) = true then
  (bank_cloneBank F p0).bind fun r30 =>
  (bank_setWithdrawn_1 F r30 p1 false).bind fun r31 =>
  if (r31.1 != 0) = true then
   some ((GBank.mk []), r31.1)
  else
  some (r31.2, 0)
 else
 some ((GBank.mk []), 2)
def q22q (F : Nat) (r3 : Int) (r4 : List Gq0 × Int) (r5 : GBank × List Gq3 × Int) (rec1 : Int → Int → (List Gq2) → Option Bool) (n9 : Int) (n10 : Int) (l11 : List Gq2) : Option Bool :=
 if (decide (n10 < (r4.1.length : Int))) = true then
  (idx r4.1 n10).bind fun x13 =>
  if (decide (x13.Stamp.Time > r3)) = true then
   rec1 n9 (i64 (n10 + 1)) l11
  else
  (idx r4.1 n10).bind fun x15 =>
  (bank_Apply F (GBank.mk l11) x15).bind fun r16 =>
  if (r16.2 == 0) = true then
   rec1 n9 (i64 (n10 + 1)) r16.1.Records
  else
  (if (decide (n9 ≥ (r5.2.1.length : Int))) = true then some true else (idx r5.2.1 n9).bind fun x21 => (idx r4.1 n10).bind fun x22 => (idx r4.1 n10).bind fun x23 => some (!(decide (x21 = (Gq3.mk (Gq1.mk x22.Stamp.Source x23.Stamp.Seq) r16.2))))).bind fun w19 =>
  if w19 = true then
   some false
  else
  rec1 (i64 (n9 + 1)) (i64 (n10 + 1)) l11
 else
 (if (n9 == (r5.2.1.length : Int)) = true then (q73q F (GBank.mk l11) r5.1).bind fun r28 => if r28 = true then (q70q F).bind fun r30 => some r30 else some false else some false).bind fun w26 =>
 some w26
def q16q (F : Nat) (r3 : Int) (r4 : List Gq0 × Int) (r5 : GBank × List Gq3 × Int) : Nat → Int → Int → (List Gq2) → Option Bool
 | 0 => fun _ _ _ => .none
 | n + 1 => q22q F r3 r4 r5 (q16q F r3 r4 r5 n)
def q55q (F : Nat) (p0 : List Int) (p1 : Int) : Option Bool :=
 (make_New p0).bind fun r1 =>
 (Gq5 F r1 12 5).bind fun r2 =>
 (make_Cut p1 30).bind fun r3 =>
 (bank_Canonical F r2.1).bind fun r4 =>
 (bank_Fold F r2.1 r3).bind fun r5 =>
 if ((r4.2 != 0) || (r5.2.2 != 0)) = true then
  some false
 else
 q16q F r3 r4 r5 F 0 0 ([] : List Gq2)
end
end Go.Sh
