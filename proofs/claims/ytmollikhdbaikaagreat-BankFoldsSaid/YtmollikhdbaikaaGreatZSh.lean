import Derived.Test.YtmollikhdbaikaaGreatZLb
import Derived.Test.YtmollikhdbaikaaGreatZLc
set_option linter.unusedVariables false
set_option linter.unusedSimpArgs false
set_option maxRecDepth 100000
set_option maxHeartbeats 1000000
namespace Go.Sh
open Go.L
noncomputable section
structure GTape where
 L:List Int
 At:Int
 deriving DecidableEq,Inhabited
def GTape.lv (x:GTape):LV:=.agg [(lvl 1 LV.I) x.L,.I x.At]
theorem GTape.ok:OkF 2 GTape.lv:=fun _=>⟨rfl,rfl,rfl⟩
structure Gq4 where
 Time:Int
 Source:Int
 Seq:Int
 deriving DecidableEq,Inhabited
def Gq4.lv (x:Gq4):LV:=.agg [.I x.Time,.I x.Source,.I x.Seq]
theorem Gq4.ok:OkF 3 Gq4.lv:=fun _=>⟨rfl,rfl,rfl⟩
structure GPart where
 Kind:Int
 Max:Int
 Topic:Int
 Objective:Int
 Options:Int
 Key:Int
 deriving DecidableEq,Inhabited
def GPart.lv (x:GPart):LV:=.agg [.I x.Kind,.I x.Max,.I x.Topic,.I x.Objective,.I x.Options,.I x.Key]
theorem GPart.ok:OkF 6 GPart.lv:=fun _=>⟨rfl,rfl,rfl⟩
structure GItem where
 ID:Int
 Version:Int
 Stem:ByteArray
 Parts:List GPart
 Enemies:List Int
 deriving DecidableEq,Inhabited
def GItem.lv (x:GItem):LV:=.agg [.I x.ID,.I x.Version,LV.str x.Stem,(lvl 6 GPart.lv) x.Parts,(lvl 1 LV.I) x.Enemies]
theorem GItem.ok:OkF 5 GItem.lv:=fun _=>⟨rfl,rfl,rfl⟩
structure GRef where
 ID:Int
 Version:Int
 deriving DecidableEq,Inhabited
def GRef.lv (x:GRef):LV:=.agg [.I x.ID,.I x.Version]
theorem GRef.ok:OkF 2 GRef.lv:=fun _=>⟨rfl,rfl,rfl⟩
structure Gq0 where
 Stamp:Gq4
 Kind:Int
 Item:GItem
 Ref:GRef
 Form:Int
 deriving DecidableEq,Inhabited
def Gq0.lv (x:Gq0):LV:=.agg [.I x.Stamp.Time,.I x.Stamp.Source,.I x.Stamp.Seq,.I x.Kind,.I x.Item.ID,.I x.Item.Version,LV.str x.Item.Stem,(lvl 6 GPart.lv) x.Item.Parts,(lvl 1 LV.I) x.Item.Enemies,.I x.Ref.ID,.I x.Ref.Version,.I x.Form]
theorem Gq0.ok:OkF 12 Gq0.lv:=fun _=>⟨rfl,rfl,rfl⟩
structure GUse where
 Version:Int
 Form:Int
 Time:Int
 deriving DecidableEq,Inhabited
def GUse.lv (x:GUse):LV:=.agg [.I x.Version,.I x.Form,.I x.Time]
theorem GUse.ok:OkF 3 GUse.lv:=fun _=>⟨rfl,rfl,rfl⟩
structure Gq2 where
 ID:Int
 Versions:List GItem
 Approved:List Bool
 Uses:List GUse
 Withdrawn:Bool
 deriving DecidableEq,Inhabited
def Gq2.lv (x:Gq2):LV:=.agg [.I x.ID,(lvl 5 GItem.lv) x.Versions,(lvl 1 LV.bool) x.Approved,(lvl 3 GUse.lv) x.Uses,LV.bool x.Withdrawn]
theorem Gq2.ok:OkF 5 Gq2.lv:=fun _=>⟨rfl,rfl,rfl⟩
structure GBank where
 Records:List Gq2
 deriving DecidableEq,Inhabited
def GBank.lv (x:GBank):LV:=.agg [(lvl 5 Gq2.lv) x.Records]
theorem GBank.ok:OkF 1 GBank.lv:=fun _=>⟨rfl,rfl,rfl⟩
structure Gq1 where
 Source:Int
 Seq:Int
 deriving DecidableEq,Inhabited
def Gq1.lv (x:Gq1):LV:=.agg [.I x.Source,.I x.Seq]
theorem Gq1.ok:OkF 2 Gq1.lv:=fun _=>⟨rfl,rfl,rfl⟩
structure Gq3 where
 Event:Gq1
 Code:Int
 deriving DecidableEq,Inhabited
def Gq3.lv (x:Gq3):LV:=.agg [.I x.Event.Source,.I x.Event.Seq,.I x.Code]
theorem Gq3.ok:OkF 3 Gq3.lv:=fun _=>⟨rfl,rfl,rfl⟩
structure q0q where
 first:Int
 disputed:Bool
 deriving DecidableEq,Inhabited
def q0q.lv (x:q0q):LV:=.agg [.I x.first,LV.bool x.disputed]
theorem q0q.ok:OkF 2 q0q.lv:=fun _=>⟨rfl,rfl,rfl⟩
def make_New (p0:List Int):Option GTape :=
 if (decide ((p0.length:Int) > 600))=true then
  (slc p0 0 600).bind fun v2 =>
  some (GTape.mk v2 0)
 else
 some (GTape.mk p0 0)
def Gq29 (p0:GTape):Option (Int × GTape) :=
 if (decide (p0.At ≥ (p0.L.length:Int)))=true then
  some (0,p0)
 else
 (idx p0.L (i64 ((i64 (p0.At+1)) - 1))).bind fun x2 =>
 some (x2,(GTape.mk p0.L (i64 (p0.At+1))))
def make_Cut (p0:Int) (p1:Int):Option Int :=
 if (decide (p1<1))=true then
  some 0
 else
 (rmd p0 p1).bind fun v2 =>
 if (decide (v2<0))=true then
  some (i64 (v2+p1))
 else
 some v2
def Gq18 (p0:GTape) (p1:Int):Option (Int × GTape) :=
 (Gq29 p0).bind fun r1 =>
 (make_Cut r1.1 p1).bind fun r2 =>
 some (r2,r1.2)
def Gq27 (p0:GTape) (p1:Int) (p2:Int):Option (Int × GTape) :=
 (Gq18 p0 (i64 ((i64 (p2 - p1))+1))).bind fun r1 =>
 some ((i64 (p1+r1.1)),r1.2)
def Gq25 (p0:GTape) (p1:List Int):Option (Int × GTape) :=
 (Gq18 p0 (p1.length:Int)).bind fun r1 =>
 (idx p1 r1.1).bind fun x2 =>
 some (x2,r1.2)
def Gq37  (rec1:ByteArray→Int→(List Int)→Int→Option (ByteArray × GTape)) (t2:ByteArray) (n3:Int) (l4:List Int) (n5:Int):Option (ByteArray × GTape) :=
 if (decide (n3 > 0))=true then
  (Gq18 (GTape.mk l4 n5) 3).bind fun r7 =>
  (scat t2 (sofb [(IntKind.u8.wrap (i64 (97+r7.1)))])).bind fun t8 =>
  rec1 t8 (i64 (n3 - 1)) r7.2.L r7.2.At
 else
 some (t2,(GTape.mk l4 n5))
def Gq36 :Nat→ByteArray→Int→(List Int)→Int→Option (ByteArray × GTape)
 | 0=>fun _ _ _ _=>.none
 | n+1=>Gq37  (Gq36 n)
def Gq35 (F:Nat) (p0:GTape) (p1:Int):Option (ByteArray × GTape) :=
 (Gq27 p0 1 p1).bind fun r1 =>
 Gq36 F (ByteArray.mk #[]) r1.1 r1.2.L r1.2.At
def Gq20 (p0:GTape) (p1:Int):Option (Bool × GTape) :=
 (Gq18 p0 p1).bind fun r1 =>
 some ((r1.1 == (i64 (p1 - 1))),r1.2)
def Gq33 (p0:GTape):Option (Int × GTape) :=
 (Gq25 p0 [(-1),0,1,2,31,32,99,100,200,201,9999,10000,1000000,1000001,1152921504606846976,1152921504606846977,(-1152921504606846976),9223372036854775807,(-9223372036854775808)]).bind fun r1 =>
 some (r1.1,r1.2)
def Gq23 (p1:Int) (r2:Int × GTape) (r3:Int × GTape) (l4:List Int) (n5:Int) (n6:Int) (n7:Int) (n8:Int) (n9:Int):Option (GPart × GTape) :=
 (if (decide (p1 > 0))=true then (Gq20 (GTape.mk l4 n5) p1).bind fun r15=>some (r15.1,r15.2.L,r15.2.At) else some (false,l4,n5)).bind fun w13 =>
 if w13.1=true then
  (Gq18 (GTape.mk w13.2.1 w13.2.2) 6).bind fun r17 =>
  if (r17.1 == 0)=true then
   (Gq27 r17.2 (-1) 3).bind fun r19 =>
   some ((GPart.mk r19.1 n7 r2.1 r3.1 n8 n9),r19.2)
  else
  if (r17.1 == 1)=true then
   (Gq25 r17.2 [0,40,41,(-1)]).bind fun r21 =>
   some ((GPart.mk n6 r21.1 r2.1 r3.1 n8 n9),r21.2)
  else
  if (r17.1 == 2)=true then
   (Gq33 r17.2).bind fun r23 =>
   some ((GPart.mk n6 n7 r23.1 r3.1 n8 n9),r23.2)
  else
  if (r17.1 == 3)=true then
   (Gq33 r17.2).bind fun r25 =>
   some ((GPart.mk n6 n7 r2.1 r25.1 n8 n9),r25.2)
  else
  if (r17.1 == 4)=true then
   (Gq27 r17.2 (-1) 6).bind fun r27 =>
   some ((GPart.mk n6 n7 r2.1 r3.1 r27.1 n9),r27.2)
  else
  (Gq27 r17.2 (-1) 5).bind fun r28 =>
  some ((GPart.mk n6 n7 r2.1 r3.1 n8 r28.1),r28.2)
 else
 some ((GPart.mk n6 n7 r2.1 r3.1 n8 n9),(GTape.mk w13.2.1 w13.2.2))
def Gq22 (p0:GTape) (p1:Int):Option (GPart × GTape) :=
 (Gq27 p0 1 12).bind fun r1 =>
 (Gq18 r1.2 4).bind fun r2 =>
 (Gq18 r2.2 3).bind fun r3 =>
 (Gq18 r3.2 3).bind fun r29 =>
 if (r29.1 == 0)=true then
  (Gq27 r29.2 2 5).bind fun r31 =>
  (Gq18 r31.2 r31.1).bind fun r32 =>
  (Gq27 r32.2 1 3).bind fun r33 =>
  Gq23 p1 r2 r3 r33.2.L r33.2.At 2 r33.1 r31.1 r32.1
 else
 Gq23 p1 r2 r3 r29.2.L r29.2.At 1 r1.1 0 0
def Gq16 (p1:Int) (p2:Int) (p3:Int) (t2:ByteArray) (l7:List GPart) (rec2:Int→(List Int)→Int→(List Int)→Option (GItem × GTape)) (n11:Int) (l12:List Int) (n13:Int) (l14:List Int):Option (GItem × GTape) :=
 if (decide (n11<6))=true then
  (if (n11 != p1)=true then (Gq20 (GTape.mk l12 n13) 8).bind fun r21=>some (r21.1,r21.2.L,r21.2.At) else some (false,l12,n13)).bind fun w19 =>
  if w19.1=true then
   (app l14 [n11]).bind fun v23 =>
   rec2 (i64 (n11+1)) w19.2.1 w19.2.2 v23
  else
  rec2 (i64 (n11+1)) w19.2.1 w19.2.2 l14
 else
 (if (decide (p3 > 0))=true then (Gq20 (GTape.mk l12 n13) p3).bind fun r29=>some (r29.1,r29.2.L,r29.2.At) else some (false,l12,n13)).bind fun w27 =>
 if w27.1=true then
  (Gq18 (GTape.mk w27.2.1 w27.2.2) 7).bind fun r31 =>
  if (r31.1 == 0)=true then
   (Gq33 r31.2).bind fun r33 =>
   some ((GItem.mk r33.1 p2 t2 l7 l14),r33.2)
  else
  if (r31.1 == 1)=true then
   (Gq25 r31.2 [0,8,9,(-1)]).bind fun r35 =>
   some ((GItem.mk p1 r35.1 t2 l7 l14),r35.2)
  else
  if (r31.1 == 2)=true then
   (Gq18 r31.2 3).bind fun r37 =>
   (idx ([(ByteArray.mk #[]),(ByteArray.mk #[116,97,98,9]),(ByteArray.mk #[48,49,50,51,52,53,54,55,56,57,48,49,50,51,52,53,54,55,56,57,48,49,50,51,52,53,54,55,56,57,48,49,50,51,52,53,54,55,56,57,120])]) r37.1).bind fun x38 =>
   some ((GItem.mk p1 p2 x38 l7 l14),r37.2)
  else
  if (r31.1 == 3)=true then
   some ((GItem.mk p1 p2 t2 [] l14),r31.2)
  else
  if (r31.1 == 4)=true then
   (Gq22 r31.2 1).bind fun r41 =>
   (app l7 [r41.1]).bind fun v42 =>
   some ((GItem.mk p1 p2 t2 v42 l14),r41.2)
  else
  if (r31.1 == 5)=true then
   (Gq25 r31.2 [0,p1,(-1),10000,3]).bind fun r44 =>
   (app l14 [r44.1]).bind fun v45 =>
   some ((GItem.mk p1 p2 t2 l7 v45),r44.2)
  else
  (idx l7 0).bind fun x46 =>
  (idx l7 0).bind fun x47 =>
  (idx l7 0).bind fun x48 =>
  (idx l7 0).bind fun x49 =>
  (idx l7 0).bind fun x50 =>
  (idx l7 0).bind fun x51 =>
  (app l7 [x46,x47,x48,x49,x50,x51]).bind fun v52 =>
  some ((GItem.mk p1 p2 t2 v52 l14),r31.2)
 else
 some ((GItem.mk p1 p2 t2 l7 l14),(GTape.mk w27.2.1 w27.2.2))
def Gq15 (p1:Int) (p2:Int) (p3:Int) (t2:ByteArray) (l7:List GPart):Nat→Int→(List Int)→Int→(List Int)→Option (GItem × GTape)
 | 0=>fun _ _ _ _=>.none
 | n+1=>Gq16 p1 p2 p3 t2 l7 (Gq15 p1 p2 p3 t2 l7 n)
def Gq14 (F:Nat) (p1:Int) (p2:Int) (p3:Int) (t2:ByteArray) (rec1:Int→(List Int)→Int→(List GPart)→Option (GItem × GTape)) (n4:Int) (l5:List Int) (n6:Int) (l7:List GPart):Option (GItem × GTape) :=
 if (decide (n4 > 0))=true then
  (Gq22 (GTape.mk l5 n6) 0).bind fun r9 =>
  (app l7 [r9.1]).bind fun v10 =>
  rec1 (i64 (n4 - 1)) r9.2.L r9.2.At v10
 else
 Gq15 p1 p2 p3 t2 l7 F 0 l5 n6 ([]:List Int)
def Gq13 (F:Nat) (p1:Int) (p2:Int) (p3:Int) (t2:ByteArray):Nat→Int→(List Int)→Int→(List GPart)→Option (GItem × GTape)
 | 0=>fun _ _ _ _=>.none
 | n+1=>Gq14 F p1 p2 p3 t2 (Gq13 F p1 p2 p3 t2 n)
def Gq12 (F:Nat) (p0:GTape) (p1:Int) (p2:Int) (p3:Int):Option (GItem × GTape) :=
 (Gq35 F p0 3).bind fun r1 =>
 (scat (ByteArray.mk #[113]) r1.1).bind fun t2 =>
 (Gq27 r1.2 1 3).bind fun r3 =>
 Gq13 F p1 p2 p3 t2 F r3.1 r3.2.L r3.2.At ([]:List GPart)
def Gq31 (p0:GTape) (p1:Int):Option (Gq4 × GTape) :=
 (Gq27 p0 0 24).bind fun r1 =>
 (Gq27 r1.2 0 3).bind fun r2 =>
 (Gq27 r2.2 0 9).bind fun r3 =>
 (if (decide (p1 > 0))=true then (Gq20 r3.2 p1).bind fun r9=>some (r9.1,r9.2.L,r9.2.At) else some (false,r3.2.L,r3.2.At)).bind fun w7 =>
 if w7.1=true then
  (Gq18 (GTape.mk w7.2.1 w7.2.2) 3).bind fun r11 =>
  if (r11.1 == 0)=true then
   (Gq33 r11.2).bind fun r13 =>
   some ((Gq4.mk r13.1 r2.1 r3.1),r13.2)
  else
  if (r11.1 == 1)=true then
   (Gq33 r11.2).bind fun r15 =>
   some ((Gq4.mk r1.1 r15.1 r3.1),r15.2)
  else
  (Gq33 r11.2).bind fun r16 =>
  some ((Gq4.mk r1.1 r2.1 r16.1),r16.2)
 else
 some ((Gq4.mk r1.1 r2.1 r3.1),(GTape.mk w7.2.1 w7.2.2))
def Gq7 (rec1:Int→(List Int)→Int→(List Int)→(List Gq0)→Option (List Gq0 × GTape)) (n3:Int) (l7:List Gq0) (n18:Int) (t20:ByteArray) (l21:List GPart) (l22:List Int) (n25:Int) (l26:List Int) (n27:Int) (n28:Int) (n29:Int) (n30:Int) (n31:Int) (n32:Int) (n33:Int) (l34:List Int) (n35:Int):Option (List Gq0 × GTape) :=
 (app l7 [(Gq0.mk (Gq4.mk n27 n28 n29) n30 (GItem.mk n18 n31 t20 l21 l22) (GRef.mk n32 n33) n25)]).bind fun v36 =>
 (Gq20 (GTape.mk l34 n35) 8).bind fun r37 =>
 if r37.1=true then
  (Gq18 r37.2 (v36.length:Int)).bind fun r39 =>
  (idx v36 r39.1).bind fun x40 =>
  (app v36 [x40]).bind fun v41 =>
  rec1 (i64 (n3 - 1)) r39.2.L r39.2.At l26 v41
 else
 rec1 (i64 (n3 - 1)) r37.2.L r37.2.At l26 v36
def Gq6 (rec1:Int→(List Int)→Int→(List Int)→(List Gq0)→Option (List Gq0 × GTape)) (p2:Int) (n3:Int) (l7:List Gq0) (r10:Int × GTape) (r11:Int × GTape) (l15:List Int) (n16:Int) (n17:Int) (n18:Int) (n19:Int) (t20:ByteArray) (l21:List GPart) (l22:List Int) (n23:Int) (n24:Int) (n25:Int) (l26:List Int):Option (List Gq0 × GTape) :=
 (if (decide (p2 > 0))=true then (Gq20 (GTape.mk l15 n16) p2).bind fun r47=>some (r47.1,r47.2.L,r47.2.At) else some (false,l15,n16)).bind fun w45 =>
 if w45.1=true then
  (Gq18 (GTape.mk w45.2.1 w45.2.2) 5).bind fun r49 =>
  if (r49.1 == 0)=true then
   (Gq27 r49.2 (-1) 8).bind fun r51 =>
   Gq7 rec1 n3 l7 n18 t20 l21 l22 n25 l26 (i64 ((l7.length:Int)+r10.1)) r11.1 (l7.length:Int) r51.1 n19 n23 n24 r51.2.L r51.2.At
  else
  if (r49.1 == 1)=true then
   (Gq27 r49.2 (-1) 3).bind fun r53 =>
   Gq7 rec1 n3 l7 n18 t20 l21 l22 n25 l26 (i64 ((l7.length:Int)+r10.1)) r11.1 (l7.length:Int) n17 n19 n23 r53.1 r53.2.L r53.2.At
  else
  if (r49.1 == 2)=true then
   (Gq18 r49.2 7).bind fun r55 =>
   Gq7 rec1 n3 l7 n18 t20 l21 l22 n25 l26 (i64 ((l7.length:Int)+r10.1)) r11.1 (l7.length:Int) n17 n19 r55.1 n24 r55.2.L r55.2.At
  else
  if (r49.1 == 3)=true then
   (Gq31 r49.2 3).bind fun r57 =>
   Gq7 rec1 n3 l7 n18 t20 l21 l22 n25 l26 r57.1.Time r57.1.Source r57.1.Seq n17 n19 n23 n24 r57.2.L r57.2.At
  else
  (Gq27 r49.2 0 3).bind fun r58 =>
  Gq7 rec1 n3 l7 n18 t20 l21 l22 n25 l26 (i64 ((l7.length:Int)+r10.1)) r11.1 (l7.length:Int) n17 r58.1 n23 n24 r58.2.L r58.2.At
 else
 Gq7 rec1 n3 l7 n18 t20 l21 l22 n25 l26 (i64 ((l7.length:Int)+r10.1)) r11.1 (l7.length:Int) n17 n19 n23 n24 w45.2.1 w45.2.2
def Gq8 (rec1:Int→(List Int)→Int→(List Int)→(List Gq0)→Option (List Gq0 × GTape)) (F:Nat) (p2:Int) (n3:Int) (l6:List Int) (l7:List Gq0) (r9:Int × GTape) (r10:Int × GTape) (r11:Int × GTape) (r14:Int × GTape) (n64:Int):Option (List Gq0 × GTape) :=
 (idx l6 r9.1).bind fun x65 =>
 (idx l6 r9.1).bind fun x66 =>
 (idx (l6.set r9.1.toNat (min (i64 (x65+1)) 9)) r9.1).bind fun x67 =>
 (Gq12 F r14.2 r9.1 x67 p2).bind fun r68 =>
 Gq6 rec1 p2 n3 l7 r10 r11 r68.2.L r68.2.At n64 r68.1.ID r68.1.Version r68.1.Stem r68.1.Parts r68.1.Enemies 0 0 0 (l6.set r9.1.toNat (min (i64 (x65+1)) 9))
def Gq10 (F:Nat) (p2:Int) (rec1:Int→(List Int)→Int→(List Int)→(List Gq0)→Option (List Gq0 × GTape)) (n3:Int) (l4:List Int) (n5:Int) (l6:List Int) (l7:List Gq0):Option (List Gq0 × GTape) :=
 if (decide (n3 > 0))=true then
  (Gq18 (GTape.mk l4 n5) 5).bind fun r9 =>
  (Gq18 r9.2 2).bind fun r10 =>
  (Gq18 r10.2 2).bind fun r11 =>
  (Gq25 r11.2 [3,4,4,2,5,6]).bind fun r12 =>
  (idx l6 r9.1).bind fun x13 =>
  (Gq18 r12.2 4).bind fun r14 =>
  ((idx l6 r9.1).bind fun x61=>if (x61 == 0)=true then some true else some (r12.1 == 2)).bind fun w60 =>
  if w60=true then
   (idx l6 r9.1).bind fun x69 =>
   if (x69 == 0)=true then
    Gq8 rec1 F p2 n3 l6 l7 r9 r10 r11 r14 1
   else
   Gq8 rec1 F p2 n3 l6 l7 r9 r10 r11 r14 2
  else
  Gq6 rec1 p2 n3 l7 r10 r11 r14.2.L r14.2.At r12.1 0 0 (ByteArray.mk #[]) ([]:List GPart) ([]:List Int) r9.1 (max 1 x13) r14.1 l6
 else
 some (l7,(GTape.mk l4 n5))
def Gq9 (F:Nat) (p2:Int):Nat→Int→(List Int)→Int→(List Int)→(List Gq0)→Option (List Gq0 × GTape)
 | 0=>fun _ _ _ _ _=>.none
 | n+1=>Gq10 F p2 (Gq9 F p2 n)
def Gq5 (F:Nat) (p0:GTape) (p1:Int) (p2:Int):Option (List Gq0 × GTape) :=
 (mkl (0:Int) 5).bind fun v1 =>
 (Gq27 p0 0 p1).bind fun r2 =>
 Gq9 F p2 F r2.1 r2.2.L r2.2.At v1 ([]:List Gq0)
def q18q (p0:List Gq0) (p1:(Gq0→Option Gq4)) (p2:(Gq0→Gq0→Option Bool)) (rec1:Int→(List Gq4)→(List Int)→(List (Gq4 × Int))→Option (List Gq4 × List Int)) (n3:Int) (l4:List Gq4) (l5:List Int) (m6:List (Gq4 × Int)):Option (List Gq4 × List Int) :=
 if (decide (n3<(p0.length:Int)))=true then
  (idx p0 n3).bind fun x8 =>
  (p1 x8).bind fun r9 =>
  (idx l4 n3).bind fun x10 =>
  (idx (l4.set n3.toNat r9) n3).bind fun x11 =>
  if (!((mget m6 x11).isSome))=true then
   (idx (l4.set n3.toNat r9) n3).bind fun x13 =>
   rec1 (i64 (n3+1)) (l4.set n3.toNat r9) l5 (mput m6 x13 n3)
  else
  (idx p0 ((mget m6 x11).getD 0)).bind fun x14 =>
  (p2 x14 x8).bind fun r15 =>
  if (!r15)=true then
   (idx l5 n3).bind fun x17 =>
   rec1 (i64 (n3+1)) (l4.set n3.toNat r9) (l5.set n3.toNat 1) m6
  else
  rec1 (i64 (n3+1)) (l4.set n3.toNat r9) l5 m6
 else
 some (l4,l5)
def q12q (p0:List Gq0) (p1:(Gq0→Option Gq4)) (p2:(Gq0→Gq0→Option Bool)):Nat→Int→(List Gq4)→(List Int)→(List (Gq4 × Int))→Option (List Gq4 × List Int)
 | 0=>fun _ _ _ _=>.none
 | n+1=>q18q p0 p1 p2 (q12q p0 p1 p2 n)
def q37q (F:Nat) (p0:List Gq0) (p1:(Gq0→Option Gq4)) (p2:(Gq0→Gq0→Option Bool)):Option (List Gq4 × List Int) :=
 (mkl ((Gq4.mk 0 0 0):Gq4) (p0.length:Int)).bind fun v1 =>
 (mkl (0:Int) (p0.length:Int)).bind fun v2 =>
 q12q p0 p1 p2 F 0 v1 v2 ([]:List (Gq4 × Int))
def q184q (p0:Gq4):Option Bool :=
 some ((decide (p0.Time ≥ 0)) && ((decide (p0.Time≤1000000)) && ((decide (p0.Source ≥ 0)) && ((decide (p0.Source≤99)) && ((decide (p0.Seq ≥ 0)) && (decide (p0.Seq≤9999)))))))
def cmp_isNaN_int (p0:Int):Option Bool :=
 some (p0 != p0)
def cmp_Compare_int (p0:Int) (p1:Int):Option Int :=
 (cmp_isNaN_int p0).bind fun r1 =>
 (cmp_isNaN_int p1).bind fun r2 =>
 if r1=true then
  if r2=true then
   some 0
  else
  some (-1)
 else
 if r2=true then
  some 1
 else
 if (decide (p0<p1))=true then
  some (-1)
 else
 if (decide (p0 > p1))=true then
  some 1
 else
 some 0
def cmp_Or_int_L1_B (p0:List Int) (rec1:Int→Option Int) (n1:Int):Option Int :=
 if (decide (n1<(p0.length:Int)))=true then
  (idx p0 n1).bind fun x3 =>
  if (x3 != 0)=true then
   some x3
  else
  rec1 (i64 (n1+1))
 else
 some 0
def cmp_Or_int_L1 (p0:List Int):Nat→Int→Option Int
 | 0=>fun _=>.none
 | n+1=>cmp_Or_int_L1_B p0 (cmp_Or_int_L1 p0 n)
def cmp_Or_int (F:Nat) (p0:List Int):Option Int :=
 cmp_Or_int_L1 p0 F 0
def q26q (F:Nat) (p0:Gq4) (p1:Gq4):Option Int :=
 (cmp_Compare_int p0.Source p1.Source).bind fun r1 =>
 (cmp_Compare_int p0.Seq p1.Seq).bind fun r2 =>
 (cmp_Or_int F [r1,r2]).bind fun r3 =>
 some r3
def q95q (F:Nat) (p0:Int) (p1:Int) (c0:List Gq4):Option Int :=
 (idx c0 p0).bind fun x1 =>
 (idx c0 p1).bind fun x2 =>
 (q26q F x1 x2).bind fun r3 =>
 (cmp_Compare_int p0 p1).bind fun r4 =>
 (cmp_Or_int F [r3,r4]).bind fun r5 =>
 some r5
def q90q (F:Nat) (p0:List Gq4) (p1:List Int) (l8:List Int) (rec2:Int→(List q0q)→Option (List q0q)) (n9:Int) (l10:List q0q):Option (List q0q) :=
 if (decide (n9<(l8.length:Int)))=true then
  (idx l8 n9).bind fun x12 =>
  (if (decide ((i64 ((l10.length:Int) - 1))<0))=true then some true else (idx l10 (i64 ((l10.length:Int) - 1))).bind fun x16=>(idx p0 x16.first).bind fun x17=>(idx p0 x12).bind fun x18=>(q26q F x17 x18).bind fun r19=>some (r19 != 0)).bind fun w14 =>
  if w14=true then
   (app l10 [(q0q.mk x12 false)]).bind fun v21 =>
   rec2 (i64 (n9+1)) v21
  else
  (idx l10 (i64 ((l10.length:Int) - 1))).bind fun x22 =>
  ((idx p0 x22.first).bind fun x25=>(idx p0 x12).bind fun x26=>if (!(decide (x25=x26)))=true then some true else (idx p1 x22.first).bind fun x28=>(idx p1 x12).bind fun x29=>some (x28 != x29)).bind fun w24 =>
  if w24=true then
   (idx l10 (i64 ((l10.length:Int) - 1))).bind fun x31 =>
   rec2 (i64 (n9+1)) (l10.set ((i64 ((l10.length:Int) - 1)).toNat) (q0q.mk x31.first true))
  else
  rec2 (i64 (n9+1)) l10
 else
 some l10
def q86q (F:Nat) (p0:List Gq4) (p1:List Int) (l8:List Int):Nat→Int→(List q0q)→Option (List q0q)
 | 0=>fun _ _=>.none
 | n+1=>q90q F p0 p1 l8 (q86q F p0 p1 l8 n)
def q89q (F:Nat) (p0:List Gq4) (p1:List Int) (rec1:Int→(List Int)→Option (List q0q)) (n1:Int) (l2:List Int):Option (List q0q) :=
 if (decide (n1<(p0.length:Int)))=true then
  (idx p0 n1).bind fun x4 =>
  (q184q x4).bind fun r5 =>
  if r5=true then
   (app l2 [n1]).bind fun v7 =>
   rec1 (i64 (n1+1)) v7
  else
  rec1 (i64 (n1+1)) l2
 else
 (sortF (fun a0 a1=>q95q F a0 a1 p0) l2).bind fun l8 =>
 q86q F p0 p1 l8 F 0 ([]:List q0q)
def q85q (F:Nat) (p0:List Gq4) (p1:List Int):Nat→Int→(List Int)→Option (List q0q)
 | 0=>fun _ _=>.none
 | n+1=>q89q F p0 p1 (q85q F p0 p1 n)
def q179q (F:Nat) (p0:List Gq4) (p1:List Int):Option (List q0q) :=
 q85q F p0 p1 F 0 ([]:List Int)
def q147q (F:Nat) (p0:Gq4) (p1:Gq4):Option Int :=
 (cmp_Compare_int p0.Time p1.Time).bind fun r1 =>
 (cmp_Compare_int p0.Source p1.Source).bind fun r2 =>
 (cmp_Compare_int p0.Seq p1.Seq).bind fun r3 =>
 (cmp_Or_int F [r1,r2,r3]).bind fun r4 =>
 some r4
def q66q (F:Nat) (p0:Int) (p1:Int) (c0:List Gq4):Option Int :=
 (idx c0 p0).bind fun x1 =>
 (idx c0 p1).bind fun x2 =>
 (q147q F x1 x2).bind fun r3 =>
 some r3
def q63q (F:Nat) (p0:List Gq4) (r2:List q0q) (rec1:Int→(List Int)→Option (List Int × Int)) (n3:Int) (l4:List Int):Option (List Int × Int) :=
 if (decide (n3<(r2.length:Int)))=true then
  (idx r2 n3).bind fun x6 =>
  if (!x6.disputed)=true then
   (app l4 [x6.first]).bind fun v8 =>
   rec1 (i64 (n3+1)) v8
  else
  rec1 (i64 (n3+1)) l4
 else
 if (decide ((l4.length:Int) > 300))=true then
  some ([],3)
 else
 (sortF (fun a0 a1=>q66q F a0 a1 p0) l4).bind fun l10 =>
 some (l10,0)
def q54q (F:Nat) (p0:List Gq4) (r2:List q0q):Nat→Int→(List Int)→Option (List Int × Int)
 | 0=>fun _ _=>.none
 | n+1=>q63q F p0 r2 (q54q F p0 r2 n)
def q84q (F:Nat) (p0:List Gq4) (p1:List Int):Option (List Int × Int) :=
 if ((p0.length:Int) != (p1.length:Int))=true then
  some ([],1)
 else
 (q179q F p0 p1).bind fun r2 =>
 q54q F p0 r2 F 0 ([]:List Int)
def q22q (F:Nat) (p0:List Gq0) (p1:(Gq0→Option Gq4)) (p2:(Gq0→Gq0→Option Bool)):Option (List Int × Int) :=
 (q37q F p0 p1 p2).bind fun r1 =>
 (q84q F r1.1 r1.2).bind fun r2 =>
 some (r2.1,r2.2)
def q138q (p0:Gq0):Option Gq4 :=
 some p0.Stamp
def q20q (p0:List GPart) (p1:List GPart) (rec1:Int→Option Bool) (n2:Int):Option Bool :=
 if (decide (n2<(p0.length:Int)))=true then
  (idx p0 n2).bind fun x4 =>
  (idx p1 n2).bind fun x5 =>
  if (!(decide (x4=x5)))=true then
   some false
  else
  rec1 (i64 (n2+1))
 else
 some true
def q14q (p0:List GPart) (p1:List GPart):Nat→Int→Option Bool
 | 0=>fun _=>.none
 | n+1=>q20q p0 p1 (q14q p0 p1 n)
def q39q (F:Nat) (p0:List GPart) (p1:List GPart):Option Bool :=
 if ((p0.length:Int) != (p1.length:Int))=true then
  some false
 else
 q14q p0 p1 F 0
def q15q (p0:List Int) (p1:List Int) (rec1:Int→Option Bool) (n2:Int):Option Bool :=
 if (decide (n2<(p0.length:Int)))=true then
  (idx p0 n2).bind fun x4 =>
  (idx p1 n2).bind fun x5 =>
  if (x4 != x5)=true then
   some false
  else
  rec1 (i64 (n2+1))
 else
 some true
def q11q (p0:List Int) (p1:List Int):Nat→Int→Option Bool
 | 0=>fun _=>.none
 | n+1=>q15q p0 p1 (q11q p0 p1 n)
def q21q (F:Nat) (p0:List Int) (p1:List Int):Option Bool :=
 if ((p0.length:Int) != (p1.length:Int))=true then
  some false
 else
 q11q p0 p1 F 0
def q143q (F:Nat) (p0:GItem) (p1:GItem):Option Bool :=
 (if (p0.ID == p1.ID)=true then if (p0.Version == p1.Version)=true then if (decide (p0.Stem=p1.Stem))=true then (q39q F p0.Parts p1.Parts).bind fun r6=>if r6=true then (q21q F p0.Enemies p1.Enemies).bind fun r8=>some r8 else some false else some false else some false else some false).bind fun w2 =>
 some w2
def bank_Same (F:Nat) (p0:Gq0) (p1:Gq0):Option Bool :=
 (if (decide (p0.Stamp=p1.Stamp))=true then if (p0.Kind == p1.Kind)=true then if (decide (p0.Ref=p1.Ref))=true then if (p0.Form == p1.Form)=true then (q143q F p0.Item p1.Item).bind fun r7=>some r7 else some false else some false else some false else some false).bind fun w2 =>
 some w2
def q74q (p0:GItem):Option GItem :=
 (app [] p0.Parts).bind fun v1 =>
 (app [] p0.Enemies).bind fun v2 =>
 some (GItem.mk p0.ID p0.Version p0.Stem v1 v2)
def q69q (p0:List Gq0) (r1:List Int × Int) (rec1:Int→(List Gq0)→Option (List Gq0 × Int)) (n4:Int) (l5:List Gq0):Option (List Gq0 × Int) :=
 if (decide (n4<(r1.1.length:Int)))=true then
  (idx r1.1 n4).bind fun x7 =>
  (idx p0 x7).bind fun x8 =>
  (idx l5 n4).bind fun x9 =>
  (idx p0 x7).bind fun x10 =>
  (q74q x10.Item).bind fun r11 =>
  (idx (l5.set n4.toNat x8) n4).bind fun x12 =>
  rec1 (i64 (n4+1)) ((l5.set n4.toNat x8).set n4.toNat (Gq0.mk x12.Stamp x12.Kind r11 x12.Ref x12.Form))
 else
 some (l5,0)
def q30q (p0:List Gq0) (r1:List Int × Int):Nat→Int→(List Gq0)→Option (List Gq0 × Int)
 | 0=>fun _ _=>.none
 | n+1=>q69q p0 r1 (q30q p0 r1 n)
def q131q (F:Nat) (p0:List Gq0):Option (List Gq0 × Int) :=
 (q22q F p0 (fun a0=>q138q a0) (fun a0 a1=>bank_Same F a0 a1)).bind fun r1 =>
 if (r1.2 != 0)=true then
  some ([],r1.2)
 else
 (mkl ((Gq0.mk (Gq4.mk 0 0 0) 0 (GItem.mk 0 0 (ByteArray.mk #[]) [] []) (GRef.mk 0 0) 0):Gq0) (r1.1.length:Int)).bind fun v3 =>
 q30q p0 r1 F 0 v3
def q112q (p0:Int):Option Bool :=
 some ((decide (p0 ≥ 0)) && (decide (p0≤9999)))
def q70q (p0:ByteArray) (rec1:Int→Option Bool) (n1:Int):Option Bool :=
 if (decide (n1<(p0.size:Int)))=true then
  ((sidx p0 n1).bind fun x5=>if (decide (x5<32))=true then some true else (sidx p0 n1).bind fun x7=>some (decide (x7 > 126))).bind fun w4 =>
  if w4=true then
   some false
  else
  rec1 (i64 (n1+1))
 else
 some true
def q31q (p0:ByteArray):Nat→Int→Option Bool
 | 0=>fun _=>.none
 | n+1=>q70q p0 (q31q p0 n)
def q135q (F:Nat) (p0:ByteArray):Option Bool :=
 q31q p0 F 0
def q134q (p0:GPart):Option Bool :=
 if ((decide (p0.Max<1)) || ((decide (p0.Max > 40)) || ((decide (p0.Topic<0)) || ((decide (p0.Topic ≥ 16)) || ((decide (p0.Objective<0)) || (decide (p0.Objective ≥ 6)))))))=true then
  some false
 else
 if (p0.Kind == 1)=true then
  some ((p0.Options == 0) && (p0.Key == 0))
 else
 if (p0.Kind == 2)=true then
  some ((decide (p0.Options ≥ 2)) && ((decide (p0.Options≤5)) && ((decide (p0.Key ≥ 0)) && (decide (p0.Key<p0.Options)))))
 else
 some false
def q38q (p0:Int) (p1:List Int) (rec1:Int→Option Bool) (n1:Int):Option Bool :=
 if (decide (n1<(p1.length:Int)))=true then
  (idx p1 n1).bind fun x3 =>
  ((q112q x3).bind fun r6=>if (!r6)=true then some true else if (x3 == p0)=true then some true else if (decide (n1 > 0))=true then (idx p1 (i64 (n1 - 1))).bind fun x10=>some (decide (x10 ≥ x3)) else some false).bind fun w5 =>
  if w5=true then
   some false
  else
  rec1 (i64 (n1+1))
 else
 some true
def q29q (p0:Int) (p1:List Int):Nat→Int→Option Bool
 | 0=>fun _=>.none
 | n+1=>q38q p0 p1 (q29q p0 p1 n)
def q88q (F:Nat) (p0:Int) (p1:List Int):Option Bool :=
 q29q p0 p1 F 0
def q121q (F:Nat) (p0:GItem) (rec1:Int→Option Int) (n17:Int):Option Int :=
 if (decide (n17<(p0.Parts.length:Int)))=true then
  (idx p0.Parts n17).bind fun x19 =>
  (q134q x19).bind fun r20 =>
  if (!r20)=true then
   some 1
  else
  rec1 (i64 (n17+1))
 else
 (q88q F p0.ID p0.Enemies).bind fun r22 =>
 if (!r22)=true then
  some 9
 else
 some 0
def q111q (F:Nat) (p0:GItem):Nat→Int→Option Int
 | 0=>fun _=>.none
 | n+1=>q121q F p0 (q111q F p0 n)
def q139q (F:Nat) (p0:GItem):Option Int :=
 ((q112q p0.ID).bind fun r3=>if (!r3)=true then some true else if (decide (p0.Version<1))=true then some true else some (decide (p0.Version > 8))).bind fun w2 =>
 if w2=true then
  some 2
 else
 if ((decide ((p0.Stem.size:Int) > 40)) || ((decide ((p0.Parts.length:Int) > 6)) || (decide ((p0.Enemies.length:Int) > 8))))=true then
  some 3
 else
 (if (decide (p0.Stem=(ByteArray.mk #[])))=true then some true else (q135q F p0.Stem).bind fun r14=>some (!r14)).bind fun w12 =>
 if w12=true then
  some 7
 else
 if ((p0.Parts.length:Int) == 0)=true then
  some 10
 else
 q111q F p0 F 0
def q7q (p0:List Gq2) (p1:Int) (p2:(Gq2→Int→Option Int)) (rec1:Int→Int→Option (Int × Bool)) (n1:Int) (n2:Int):Option (Int × Bool) :=
 if (decide (n1<n2))=true then
  (idx p0 (i64 (shrI .u64 (IntKind.u64.wrap (i64 (n1+n2))) 1))).bind fun x4 =>
  (p2 x4 p1).bind fun r5 =>
  if (decide (r5<0))=true then
   rec1 (i64 ((i64 (shrI .u64 (IntKind.u64.wrap (i64 (n1+n2))) 1))+1)) n2
  else
  rec1 n1 (i64 (shrI .u64 (IntKind.u64.wrap (i64 (n1+n2))) 1))
 else
 (if (decide (n1<(p0.length:Int)))=true then (idx p0 n1).bind fun x10=>(p2 x10 p1).bind fun r11=>some (r11 == 0) else some false).bind fun w8 =>
 some (n1,w8)
def q1q (p0:List Gq2) (p1:Int) (p2:(Gq2→Int→Option Int)):Nat→Int→Int→Option (Int × Bool)
 | 0=>fun _ _=>.none
 | n+1=>q7q p0 p1 p2 (q1q p0 p1 p2 n)
def q4q (F:Nat) (p0:List Gq2) (p1:Int) (p2:(Gq2→Int→Option Int)):Option (Int × Bool) :=
 q1q p0 p1 p2 F 0 (p0.length:Int)
def q96q (p0:Gq2) (p1:Int):Option Int :=
 (cmp_Compare_int p0.ID p1).bind fun r1 =>
 some r1
def q157q (F:Nat) (p0:GBank) (p1:Int):Option (Int × Bool) :=
 (q4q F p0.Records p1 (fun a0 a1=>q96q a0 a1)).bind fun r1 =>
 some (r1.1,r1.2)
def q175q (F:Nat) (p0:GBank) (p1:Gq0):Option (Int × GBank) :=
 (q139q F p1.Item).bind fun r1 =>
 if (r1 != 0)=true then
  some (r1,p0)
 else
 if (p1.Item.Version != 1)=true then
  some (8,p0)
 else
 (q157q F p0 p1.Item.ID).bind fun r4 =>
 if r4.2=true then
  some (5,p0)
 else
 if (decide ((p0.Records.length:Int) ≥ 40))=true then
  some (3,p0)
 else
 (q74q p1.Item).bind fun r7 =>
 (insF p0.Records r4.1 (Gq2.mk p1.Item.ID [r7] [false] ([]:List GUse) false)).bind fun v8 =>
 some (0,(GBank.mk v8))
def q127q (F:Nat) (p0:GBank) (p1:Int):Option (Option Int) :=
 (q157q F p0 p1).bind fun r1 =>
 if (!r1.2)=true then
  some (none:Option Int)
 else
 (idx p0.Records r1.1).bind fun x3 =>
 some (some r1.1)
def q166q (F:Nat) (p0:GBank) (p1:Gq0):Option (Int × GBank) :=
 (q139q F p1.Item).bind fun r1 =>
 if (r1 != 0)=true then
  some (r1,p0)
 else
 (q127q F p0 p1.Item.ID).bind fun r3 =>
 optC r3 (
  some (4,p0)) fun j4 =>
 (idx p0.Records j4).bind fun x5 =>
 if (x5.Withdrawn || (p1.Item.Version != (i64 ((x5.Versions.length:Int)+1))))=true then
  some (8,p0)
 else
 (q74q p1.Item).bind fun r11 =>
 (app x5.Versions [r11]).bind fun v12 =>
 (app x5.Approved [false]).bind fun v13 =>
 some (0,(GBank.mk (p0.Records.set (j4).toNat (Gq2.mk x5.ID v12 v13 x5.Uses x5.Withdrawn))))
def q133q (F:Nat) (p0:GBank) (p1:GRef):Option (Option Int) :=
 (q127q F p0 p1.ID).bind fun r1 =>
 optC r1 (
  some (none:Option Int)) fun j2 =>
 (idx p0.Records j2).bind fun x3 =>
 if ((decide (p1.Version<1)) || (decide (p1.Version > (x3.Versions.length:Int))))=true then
  some (none:Option Int)
 else
 some (some j2)
def q152q (F:Nat) (p0:GBank) (p1:Gq0):Option (Int × GBank) :=
 (q133q F p0 p1.Ref).bind fun r1 =>
 optC r1 (
  some (4,p0)) fun j2 =>
 (idx p0.Records j2).bind fun x3 =>
 if x3.Withdrawn=true then
  some (8,p0)
 else
 (idx x3.Approved (i64 (p1.Ref.Version - 1))).bind fun x7 =>
 if x7=true then
  some (5,p0)
 else
 (idx x3.Approved (i64 (p1.Ref.Version - 1))).bind fun x9 =>
 some (0,(GBank.mk (p0.Records.set (j2).toNat (Gq2.mk x3.ID x3.Versions (x3.Approved.set ((i64 (p1.Ref.Version - 1)).toNat) true) x3.Uses x3.Withdrawn))))
def q190q (p0:GUse) (c0:Gq0):Option Bool :=
 some (p0.Form == c0.Form)
def q16q (p0:List GUse) (p1:(GUse→Option Bool)) (rec1:Int→Option Int) (n1:Int):Option Int :=
 if (decide (n1<(p0.length:Int)))=true then
  (idx p0 n1).bind fun x3 =>
  (p1 x3).bind fun r4 =>
  if r4=true then
   some n1
  else
  rec1 (i64 (n1+1))
 else
 some (-1)
def q8q (p0:List GUse) (p1:(GUse→Option Bool)):Nat→Int→Option Int
 | 0=>fun _=>.none
 | n+1=>q16q p0 p1 (q8q p0 p1 n)
def q62q (F:Nat) (p0:List GUse) (p1:(GUse→Option Bool)):Option Int :=
 q8q p0 p1 F 0
def q13q (F:Nat) (p0:List GUse) (p1:(GUse→Option Bool)):Option Bool :=
 (q62q F p0 p1).bind fun r1 =>
 some (decide (r1 ≥ 0))
def bank_use (F:Nat) (p0:GBank) (p1:Gq0):Option (Int × GBank) :=
 (q133q F p0 p1.Ref).bind fun r1 =>
 optC r1 (
  some (4,p0)) fun j2 =>
 (idx p0.Records j2).bind fun x3 =>
 (if x3.Withdrawn=true then some true else (idx x3.Approved (i64 (p1.Ref.Version - 1))).bind fun x9=>some (!x9)).bind fun w7 =>
 if w7=true then
  some (8,p0)
 else
 (q13q F x3.Uses (fun a0=>q190q a0 p1)).bind fun r11 =>
 if r11=true then
  some (5,p0)
 else
 if (decide ((x3.Uses.length:Int) ≥ 300))=true then
  some (3,p0)
 else
 (app x3.Uses [(GUse.mk p1.Ref.Version p1.Form p1.Stamp.Time)]).bind fun v14 =>
 some (0,(GBank.mk (p0.Records.set (j2).toNat (Gq2.mk x3.ID x3.Versions x3.Approved v14 x3.Withdrawn))))
def q35q (F:Nat) (p0:GBank) (p1:Gq0) (c0:Bool):Option (Int × GBank) :=
 (q127q F p0 p1.Ref.ID).bind fun r1 =>
 optC r1 (
  some (4,p0)) fun j2 =>
 (idx p0.Records j2).bind fun x3 =>
 if (x3.Withdrawn == c0)=true then
  some (8,p0)
 else
 some (0,(GBank.mk (p0.Records.set (j2).toNat (Gq2.mk x3.ID x3.Versions x3.Approved x3.Uses c0))))
def q187q (F:Nat) (p0:Bool):Option Bool :=
 some p0
def bankHs:List (Int × Nat):=[(1,1),(2,2),(3,3),(4,4),(5,5),(6,6)]
def q202q (F:Nat):Option (List (Int × Nat)) :=
 some (mput (mput (mput (mput (mput (mput ([]:List (Int × Nat)) 1 1) 2 2) 3 3) 4 4) 5 5) 6 6)
def q132q (F:Nat) (p1:Int) (r1:List Gq0 × Int) (rec1:Int→(List Gq3)→(List Gq2)→Option (GBank × List Gq3 × Int)) (n3:Int) (l4:List Gq3) (l5:List Gq2):Option (GBank × List Gq3 × Int) :=
 if (decide (n3<(r1.1.length:Int)))=true then
  (idx r1.1 n3).bind fun x7 =>
  if (decide (x7.Stamp.Time > p1))=true then
   some ((GBank.mk l5),l4,0)
  else
  if (x7.Kind == 1)=true then
   (q175q F (GBank.mk l5) x7).bind fun r11 =>
   if (r11.1 != 0)=true then
    (app l4 [(Gq3.mk (Gq1.mk x7.Stamp.Source x7.Stamp.Seq) r11.1)]).bind fun v13 =>
    rec1 (i64 (n3+1)) v13 r11.2.Records
   else
   rec1 (i64 (n3+1)) l4 r11.2.Records
  else
  if (x7.Kind == 2)=true then
   (q166q F (GBank.mk l5) x7).bind fun r16 =>
   if (r16.1 != 0)=true then
    (app l4 [(Gq3.mk (Gq1.mk x7.Stamp.Source x7.Stamp.Seq) r16.1)]).bind fun v18 =>
    rec1 (i64 (n3+1)) v18 r16.2.Records
   else
   rec1 (i64 (n3+1)) l4 r16.2.Records
  else
  if (x7.Kind == 3)=true then
   (q152q F (GBank.mk l5) x7).bind fun r21 =>
   if (r21.1 != 0)=true then
    (app l4 [(Gq3.mk (Gq1.mk x7.Stamp.Source x7.Stamp.Seq) r21.1)]).bind fun v23 =>
    rec1 (i64 (n3+1)) v23 r21.2.Records
   else
   rec1 (i64 (n3+1)) l4 r21.2.Records
  else
  if (x7.Kind == 4)=true then
   (bank_use F (GBank.mk l5) x7).bind fun r26 =>
   if (r26.1 != 0)=true then
    (app l4 [(Gq3.mk (Gq1.mk x7.Stamp.Source x7.Stamp.Seq) r26.1)]).bind fun v28 =>
    rec1 (i64 (n3+1)) v28 r26.2.Records
   else
   rec1 (i64 (n3+1)) l4 r26.2.Records
  else
  if (x7.Kind == 5)=true then
   (q35q F (GBank.mk l5) x7 true).bind fun r31 =>
   if (r31.1 != 0)=true then
    (app l4 [(Gq3.mk (Gq1.mk x7.Stamp.Source x7.Stamp.Seq) r31.1)]).bind fun v33 =>
    rec1 (i64 (n3+1)) v33 r31.2.Records
   else
   rec1 (i64 (n3+1)) l4 r31.2.Records
  else
  if (x7.Kind == 6)=true then
   (q35q F (GBank.mk l5) x7 false).bind fun r36 =>
   if (r36.1 != 0)=true then
    (app l4 [(Gq3.mk (Gq1.mk x7.Stamp.Source x7.Stamp.Seq) r36.1)]).bind fun v38 =>
    rec1 (i64 (n3+1)) v38 r36.2.Records
   else
   rec1 (i64 (n3+1)) l4 r36.2.Records
  else
  if (2 != 0)=true then
   (app l4 [(Gq3.mk (Gq1.mk x7.Stamp.Source x7.Stamp.Seq) 2)]).bind fun v41 =>
   rec1 (i64 (n3+1)) v41 l5
  else
  rec1 (i64 (n3+1)) l4 l5
 else
 some ((GBank.mk l5),l4,0)
def q56q (F:Nat) (p1:Int) (r1:List Gq0 × Int):Nat→Int→(List Gq3)→(List Gq2)→Option (GBank × List Gq3 × Int)
 | 0=>fun _ _ _=>.none
 | n+1=>q132q F p1 r1 (q56q F p1 r1 n)
def bank_Fold (F:Nat) (p0:List Gq0) (p1:Int):Option (GBank × List Gq3 × Int) :=
 (q131q F p0).bind fun r1 =>
 if (r1.2 != 0)=true then
  some ((GBank.mk []),[],r1.2)
 else
 q56q F p1 r1 F 0 ([]:List Gq3) ([]:List Gq2)
def q72q (p0:GItem) (p1:GItem) (rec1:Int→(List Int)→Option (List Int)) (n1:Int) (l2:List Int):Option (List Int) :=
 if (decide (n1<(max (p0.Parts.length:Int) (p1.Parts.length:Int))))=true then
  (if (decide (n1 ≥ (p0.Parts.length:Int)))=true then some true else if (decide (n1 ≥ (p1.Parts.length:Int)))=true then some true else (idx p0.Parts n1).bind fun x8=>(idx p1.Parts n1).bind fun x9=>some (!(decide (x8=x9)))).bind fun w5 =>
  if w5=true then
   (app l2 [n1]).bind fun v11 =>
   rec1 (i64 (n1+1)) v11
  else
  rec1 (i64 (n1+1)) l2
 else
 some l2
def q32q (p0:GItem) (p1:GItem):Nat→Int→(List Int)→Option (List Int)
 | 0=>fun _ _=>.none
 | n+1=>q72q p0 p1 (q32q p0 p1 n)
def q162q (F:Nat) (p0:GItem) (p1:GItem):Option (List Int) :=
 q32q p0 p1 F 0 ([]:List Int)
def q150q (p0:List Int) (p1:List Int) (rec1:Int→Option Bool) (n2:Int):Option Bool :=
 if (decide (n2<(p0.length:Int)))=true then
  (idx p0 n2).bind fun x4 =>
  (idx p1 n2).bind fun x5 =>
  if (x4 != x5)=true then
   some false
  else
  rec1 (i64 (n2+1))
 else
 some true
def q114q (p0:List Int) (p1:List Int):Nat→Int→Option Bool
 | 0=>fun _=>.none
 | n+1=>q150q p0 p1 (q114q p0 p1 n)
def q161q (F:Nat) (p0:List Int) (p1:List Int):Option Bool :=
 if ((p0.length:Int) != (p1.length:Int))=true then
  some false
 else
 q114q p0 p1 F 0
def q163q (F:Nat) (p0:GItem) (p1:GItem):Option Bool :=
 (if (p0.ID == p1.ID)=true then if (p0.Version == p1.Version)=true then if (decide (p0.Stem=p1.Stem))=true then if ((p0.Parts.length:Int) == (p1.Parts.length:Int))=true then (q162q F p0 p1).bind fun r7=>if ((r7.length:Int) == 0)=true then (q161q F p0.Enemies p1.Enemies).bind fun r9=>some r9 else some false else some false else some false else some false else some false).bind fun w2 =>
 some w2
def q178q (F:Nat) (p0:Gq0) (p1:Gq0):Option Bool :=
 (if (decide (p0.Stamp=p1.Stamp))=true then if (p0.Kind == p1.Kind)=true then if (decide (p0.Ref=p1.Ref))=true then if (p0.Form == p1.Form)=true then (q163q F p0.Item p1.Item).bind fun r7=>some r7 else some false else some false else some false else some false).bind fun w2 =>
 some w2
def q169q (p0:Gq4):Option Bool :=
 some ((decide (p0.Time ≥ 0)) && ((decide (p0.Time≤1000000)) && ((decide (p0.Source ≥ 0)) && ((decide (p0.Source≤99)) && ((decide (p0.Seq ≥ 0)) && (decide (p0.Seq≤9999)))))))
def q159q (p0:Gq4) (p1:Gq4) (p2:Int) (p3:Int):Option Bool :=
 some ((p0.Source == p1.Source) && ((p0.Seq == p1.Seq) && ((p0.Time != p1.Time) || (p2 != p3))))
def q65q (p0:List Gq4) (p1:List Int) (p2:Int) (rec1:Int→Option Bool) (n4:Int):Option Bool :=
 if (decide (n4<(p0.length:Int)))=true then
  ((idx p0 n4).bind fun x8=>(q169q x8).bind fun r9=>if r9=true then (idx p0 p2).bind fun x11=>(idx p0 n4).bind fun x12=>(idx p1 p2).bind fun x13=>(idx p1 n4).bind fun x14=>(q159q x11 x12 x13 x14).bind fun r15=>if r15=true then some true else if (decide (n4<p2))=true then (idx p0 n4).bind fun x18=>(idx p0 p2).bind fun x19=>some (decide (x18=x19)) else some false else some false).bind fun w7 =>
  if w7=true then
   some false
  else
  rec1 (i64 (n4+1))
 else
 some true
def q83q (p0:List Gq4) (p1:List Int) (p2:Int):Nat→Int→Option Bool
 | 0=>fun _=>.none
 | n+1=>q65q p0 p1 p2 (q83q p0 p1 p2 n)
def q153q (F:Nat) (p0:List Gq4) (p1:List Int) (p2:Int):Option Bool :=
 (idx p0 p2).bind fun x1 =>
 (q169q x1).bind fun r2 =>
 if (!r2)=true then
  some false
 else
 q83q p0 p1 p2 F 0
def q91q (p0:Int) (p1:Int):Option Int :=
 if (decide (p0<p1))=true then
  some (-1)
 else
 if (decide (p0 > p1))=true then
  some 1
 else
 some 0
def q144q (p0:Gq4) (p1:Gq4):Option Int :=
 (q91q p0.Time p1.Time).bind fun r1 =>
 if (r1 == 0)=true then
  (q91q p0.Source p1.Source).bind fun r3 =>
  if (r3 == 0)=true then
   (q91q p0.Seq p1.Seq).bind fun r5 =>
   some r5
  else
  some r3
 else
 if (r1 == 0)=true then
  (q91q p0.Seq p1.Seq).bind fun r7 =>
  some r7
 else
 some r1
def q58q (rec1:(List Int)→Int→Option (List Int × Int)) (p0:List Gq4) (l2:List Int) (n3:Int) (rec2:Int→Option (List Int × Int)) (n7:Int):Option (List Int × Int) :=
 (if (decide (n7 > 0))=true then (idx l2 (i64 (n7 - 1))).bind fun x11=>(idx p0 x11).bind fun x12=>(idx p0 n3).bind fun x13=>(q144q x12 x13).bind fun r14=>some (decide (r14 > 0)) else some false).bind fun w9 =>
 if w9=true then
  rec2 (i64 (n7 - 1))
 else
 (slc l2 0 n7).bind fun v16 =>
 (app [] v16).bind fun v17 =>
 (app v17 [n3]).bind fun v18 =>
 (slc l2 n7 (l2.length:Int)).bind fun v19 =>
 (app v18 v19).bind fun v20 =>
 rec1 v20 (i64 (n3+1))
def q49q (rec1:(List Int)→Int→Option (List Int × Int)) (p0:List Gq4) (l2:List Int) (n3:Int):Nat→Int→Option (List Int × Int)
 | 0=>fun _=>.none
 | n+1=>q58q rec1 p0 l2 n3 (q49q rec1 p0 l2 n3 n)
def q57q (F:Nat) (p0:List Gq4) (p1:List Int) (rec1:(List Int)→Int→Option (List Int × Int)) (l2:List Int) (n3:Int):Option (List Int × Int) :=
 if (decide (n3<(p0.length:Int)))=true then
  (q153q F p0 p1 n3).bind fun r5 =>
  if (!r5)=true then
   rec1 l2 (i64 (n3+1))
  else
  q49q rec1 p0 l2 n3 F (l2.length:Int)
 else
 if (decide ((l2.length:Int) > 300))=true then
  some ([],3)
 else
 some (l2,0)
def q48q (F:Nat) (p0:List Gq4) (p1:List Int):Nat→(List Int)→Int→Option (List Int × Int)
 | 0=>fun _ _=>.none
 | n+1=>q57q F p0 p1 (q48q F p0 p1 n)
def q82q (F:Nat) (p0:List Gq4) (p1:List Int):Option (List Int × Int) :=
 if ((p1.length:Int) != (p0.length:Int))=true then
  some ([],1)
 else
 q48q F p0 p1 F ([]:List Int) 0
def q60q (rec1:Int→(List Gq4)→(List Int)→Option (List Gq0 × Int)) (F:Nat) (p0:List Gq0) (n1:Int) (l2:List Gq4) (l3:List Int) (rec2:Int→Int→Option (List Gq0 × Int)) (n5:Int) (n6:Int):Option (List Gq0 × Int) :=
 if (decide (n6 ≥ 0))=true then
  (idx p0 n1).bind fun x8 =>
  (idx p0 n6).bind fun x9 =>
  (q178q F x8 x9).bind fun r10 =>
  if r10=true then
   rec2 n6 (i64 (n6 - 1))
  else
  rec2 n5 (i64 (n6 - 1))
 else
 (idx p0 n1).bind fun x12 =>
 (app l2 [x12.Stamp]).bind fun v13 =>
 (app l3 [n5]).bind fun v14 =>
 rec1 (i64 (n1+1)) v13 v14
def q27q (rec1:Int→(List Gq4)→(List Int)→Option (List Gq0 × Int)) (F:Nat) (p0:List Gq0) (n1:Int) (l2:List Gq4) (l3:List Int):Nat→Int→Int→Option (List Gq0 × Int)
 | 0=>fun _ _=>.none
 | n+1=>q60q rec1 F p0 n1 l2 l3 (q27q rec1 F p0 n1 l2 l3 n)
def q61q (p0:List Gq0) (r15:List Int × Int) (rec3:Int→(List Gq0)→Option (List Gq0 × Int)) (n17:Int) (l18:List Gq0):Option (List Gq0 × Int) :=
 if (decide (n17<(r15.1.length:Int)))=true then
  (idx r15.1 n17).bind fun x20 =>
  (idx p0 x20).bind fun x21 =>
  (app l18 [x21]).bind fun v22 =>
  rec3 (i64 (n17+1)) v22
 else
 some (l18,0)
def q28q (p0:List Gq0) (r15:List Int × Int):Nat→Int→(List Gq0)→Option (List Gq0 × Int)
 | 0=>fun _ _=>.none
 | n+1=>q61q p0 r15 (q28q p0 r15 n)
def q59q (F:Nat) (p0:List Gq0) (rec1:Int→(List Gq4)→(List Int)→Option (List Gq0 × Int)) (n1:Int) (l2:List Gq4) (l3:List Int):Option (List Gq0 × Int) :=
 if (decide (n1<(p0.length:Int)))=true then
  q27q rec1 F p0 n1 l2 l3 F n1 (i64 (n1 - 1))
 else
 (q82q F l2 l3).bind fun r15 =>
 if (r15.2 != 0)=true then
  some ([],r15.2)
 else
 q28q p0 r15 F 0 ([]:List Gq0)
def q19q (F:Nat) (p0:List Gq0):Nat→Int→(List Gq4)→(List Int)→Option (List Gq0 × Int)
 | 0=>fun _ _ _=>.none
 | n+1=>q59q F p0 (q19q F p0 n)
def q151q (F:Nat) (p0:List Gq0):Option (List Gq0 × Int) :=
 q19q F p0 F 0 ([]:List Gq4) ([]:List Int)
def q123q (p0:GPart):Option Bool :=
 if ((decide (p0.Max<1)) || ((decide (p0.Max > 40)) || ((decide (p0.Topic<0)) || ((decide (p0.Topic ≥ 16)) || ((decide (p0.Objective<0)) || (decide (p0.Objective ≥ 6)))))))=true then
  some false
 else
 if (p0.Kind == 1)=true then
  some ((p0.Options == 0) && (p0.Key == 0))
 else
 some ((p0.Kind == 2) && ((decide (p0.Options ≥ 2)) && ((decide (p0.Options≤5)) && ((decide (p0.Key ≥ 0)) && (decide (p0.Key<p0.Options))))))
def q100q (p0:GItem) (rec3:Int→Option Int) (n25:Int):Option Int :=
 if (decide (n25<(p0.Enemies.length:Int)))=true then
  ((idx p0.Enemies n25).bind fun x29=>if (decide (x29<0))=true then some true else (idx p0.Enemies n25).bind fun x31=>if (decide (x31 > 9999))=true then some true else (idx p0.Enemies n25).bind fun x33=>if (x33 == p0.ID)=true then some true else if (decide (n25 > 0))=true then (idx p0.Enemies (i64 (n25 - 1))).bind fun x36=>(idx p0.Enemies n25).bind fun x37=>some (decide (x36 ≥ x37)) else some false).bind fun w28 =>
  if w28=true then
   some 9
  else
  rec3 (i64 (n25+1))
 else
 some 0
def q51q (p0:GItem):Nat→Int→Option Int
 | 0=>fun _=>.none
 | n+1=>q100q p0 (q51q p0 n)
def q99q (F:Nat) (p0:GItem) (rec2:Int→Option Int) (n20:Int):Option Int :=
 if (decide (n20<(p0.Parts.length:Int)))=true then
  (idx p0.Parts n20).bind fun x22 =>
  (q123q x22).bind fun r23 =>
  if (!r23)=true then
   some 1
  else
  rec2 (i64 (n20+1))
 else
 q51q p0 F 0
def q50q (F:Nat) (p0:GItem):Nat→Int→Option Int
 | 0=>fun _=>.none
 | n+1=>q99q F p0 (q50q F p0 n)
def q98q (F:Nat) (p0:GItem) (rec1:Int→Option Int) (n11:Int):Option Int :=
 if (decide (n11<(p0.Stem.size:Int)))=true then
  ((sidx p0.Stem n11).bind fun x15=>if (decide (x15<32))=true then some true else (sidx p0.Stem n11).bind fun x17=>some (decide (x17 > 126))).bind fun w14 =>
  if w14=true then
   some 7
  else
  rec1 (i64 (n11+1))
 else
 if ((p0.Parts.length:Int) == 0)=true then
  some 10
 else
 q50q F p0 F 0
def q76q (F:Nat) (p0:GItem):Nat→Int→Option Int
 | 0=>fun _=>.none
 | n+1=>q98q F p0 (q76q F p0 n)
def q128q (F:Nat) (p0:GItem):Option Int :=
 if ((decide (p0.ID<0)) || ((decide (p0.ID > 9999)) || ((decide (p0.Version<1)) || (decide (p0.Version > 8)))))=true then
  some 2
 else
 if ((decide ((p0.Stem.size:Int) > 40)) || ((decide ((p0.Parts.length:Int) > 6)) || (decide ((p0.Enemies.length:Int) > 8))))=true then
  some 3
 else
 if (decide (p0.Stem=(ByteArray.mk #[])))=true then
  some 7
 else
 q76q F p0 F 0
def q103q (rec1:Int→Option Bool) (n2:Int) (x4:Gq2) (rec3:Int→Option Bool) (n28:Int):Option Bool :=
 if (decide (n28<(x4.Uses.length:Int)))=true then
  ((idx x4.Uses n28).bind fun x32=>if (decide (x32.Version<1))=true then some true else (idx x4.Uses n28).bind fun x34=>some (decide (x34.Version > (x4.Versions.length:Int)))).bind fun w31 =>
  if w31=true then
   some false
  else
  rec3 (i64 (n28+1))
 else
 rec1 (i64 (n2+1))
def q53q (rec1:Int→Option Bool) (n2:Int) (x4:Gq2):Nat→Int→Option Bool
 | 0=>fun _=>.none
 | n+1=>q103q rec1 n2 x4 (q53q rec1 n2 x4 n)
def q102q (rec1:Int→Option Bool) (F:Nat) (n2:Int) (x4:Gq2) (rec2:Int→Option Bool) (n17:Int):Option Bool :=
 if (decide (n17<(x4.Versions.length:Int)))=true then
  ((idx x4.Versions n17).bind fun x21=>(q128q F x21).bind fun r22=>if (r22 != 0)=true then some true else (idx x4.Versions n17).bind fun x24=>if (x24.ID != x4.ID)=true then some true else (idx x4.Versions n17).bind fun x26=>some (x26.Version != (i64 (n17+1)))).bind fun w20 =>
  if w20=true then
   some false
  else
  rec2 (i64 (n17+1))
 else
 q53q rec1 n2 x4 F 0
def q52q (rec1:Int→Option Bool) (F:Nat) (n2:Int) (x4:Gq2):Nat→Int→Option Bool
 | 0=>fun _=>.none
 | n+1=>q102q rec1 F n2 x4 (q52q rec1 F n2 x4 n)
def q101q (F:Nat) (p0:GBank) (rec1:Int→Option Bool) (n2:Int):Option Bool :=
 if (decide (n2<(p0.Records.length:Int)))=true then
  (idx p0.Records n2).bind fun x4 =>
  (if (decide (n2 > 0))=true then (idx p0.Records (i64 (n2 - 1))).bind fun x8=>if (decide (x8.ID ≥ x4.ID))=true then some true else if (decide ((x4.Versions.length:Int)<1))=true then some true else if (decide ((x4.Versions.length:Int) > 8))=true then some true else if ((x4.Approved.length:Int) != (x4.Versions.length:Int))=true then some true else some (decide ((x4.Uses.length:Int) > 300)) else if (decide ((x4.Versions.length:Int)<1))=true then some true else if (decide ((x4.Versions.length:Int) > 8))=true then some true else if ((x4.Approved.length:Int) != (x4.Versions.length:Int))=true then some true else some (decide ((x4.Uses.length:Int) > 300))).bind fun w6 =>
  if w6=true then
   some false
  else
  q52q rec1 F n2 x4 F 0
 else
 some true
def q9q (F:Nat) (p0:GBank):Nat→Int→Option Bool
 | 0=>fun _=>.none
 | n+1=>q101q F p0 (q9q F p0 n)
def q171q (F:Nat) (p0:GBank):Option Bool :=
 if (decide ((p0.Records.length:Int) > 40))=true then
  some false
 else
 q9q F p0 F 0
def q104q (p0:GBank) (p1:Int) (rec1:Int→Option Int) (n1:Int):Option Int :=
 if (decide (n1<(p0.Records.length:Int)))=true then
  (idx p0.Records n1).bind fun x3 =>
  if (x3.ID == p1)=true then
   some n1
  else
  rec1 (i64 (n1+1))
 else
 some (-1)
def q93q (p0:GBank) (p1:Int):Nat→Int→Option Int
 | 0=>fun _=>.none
 | n+1=>q104q p0 p1 (q93q p0 p1 n)
def q78q (F:Nat) (p0:GBank) (p1:Int):Option Int :=
 q93q p0 p1 F 0
def q115q (rec1:Bool→Int→(List Gq2)→Option GBank) (p0:GBank) (p1:Gq2) (n2:Int) (b5:Bool) (l6:List Gq2):Option GBank :=
 (idx p0.Records n2).bind fun x7 =>
 if (x7.ID != p1.ID)=true then
  (idx p0.Records n2).bind fun x9 =>
  (app l6 [x9]).bind fun v10 =>
  rec1 b5 (i64 (n2+1)) v10
 else
 rec1 b5 (i64 (n2+1)) l6
def q125q (p0:GBank) (p1:Gq2) (rec1:Bool→Int→(List Gq2)→Option GBank) (b1:Bool) (n2:Int) (l3:List Gq2):Option GBank :=
 if (decide (n2<(p0.Records.length:Int)))=true then
  (if (!b1)=true then (idx p0.Records n2).bind fun x14=>some (decide (x14.ID ≥ p1.ID)) else some false).bind fun w12 =>
  if w12=true then
   (app l3 [p1]).bind fun v16 =>
   q115q rec1 p0 p1 n2 true v16
  else
  q115q rec1 p0 p1 n2 b1 l3
 else
 if (!b1)=true then
  (app l3 [p1]).bind fun v18 =>
  some (GBank.mk v18)
 else
 some (GBank.mk l3)
def q67q (p0:GBank) (p1:Gq2):Nat→Bool→Int→(List Gq2)→Option GBank
 | 0=>fun _ _ _=>.none
 | n+1=>q125q p0 p1 (q67q p0 p1 n)
def q79q (F:Nat) (p0:GBank) (p1:Gq2):Option GBank :=
 q67q p0 p1 F false 0 ([]:List Gq2)
def q172q (F:Nat) (p0:GBank) (p1:GItem):Option (GBank × Int) :=
 (q128q F p1).bind fun r1 =>
 if (r1 != 0)=true then
  some ((GBank.mk []),r1)
 else
 if (p1.Version != 1)=true then
  some ((GBank.mk []),8)
 else
 (q78q F p0 p1.ID).bind fun r4 =>
 if (decide (r4 ≥ 0))=true then
  some ((GBank.mk []),5)
 else
 if ((p0.Records.length:Int) == 40)=true then
  some ((GBank.mk []),3)
 else
 (q79q F p0 (Gq2.mk p1.ID [p1] [false] ([]:List GUse) false)).bind fun r7 =>
 some (r7,0)
def q154q (F:Nat) (p0:GBank) (p1:GItem):Option (GBank × Int) :=
 (q128q F p1).bind fun r1 =>
 if (r1 != 0)=true then
  some ((GBank.mk []),r1)
 else
 (q78q F p0 p1.ID).bind fun r3 =>
 if (decide (r3<0))=true then
  some ((GBank.mk []),4)
 else
 (idx p0.Records r3).bind fun x5 =>
 if (x5.Withdrawn || (p1.Version != (i64 ((x5.Versions.length:Int)+1))))=true then
  some ((GBank.mk []),8)
 else
 (app [] x5.Versions).bind fun v9 =>
 (app [] x5.Approved).bind fun v10 =>
 (app v9 [p1]).bind fun v11 =>
 (app v10 [false]).bind fun v12 =>
 (q79q F p0 (Gq2.mk x5.ID v11 v12 x5.Uses x5.Withdrawn)).bind fun r13 =>
 some (r13,0)
def q145q (F:Nat) (p0:GBank) (p1:GRef):Option (GBank × Int) :=
 (q78q F p0 p1.ID).bind fun r1 =>
 (if (decide (r1<0))=true then some true else if (decide (p1.Version<1))=true then some true else (idx p0.Records r1).bind fun x6=>some (decide (p1.Version > (x6.Versions.length:Int)))).bind fun w3 =>
 if w3=true then
  some ((GBank.mk []),4)
 else
 (idx p0.Records r1).bind fun x8 =>
 if x8.Withdrawn=true then
  some ((GBank.mk []),8)
 else
 (idx x8.Approved (i64 (p1.Version - 1))).bind fun x10 =>
 if x10=true then
  some ((GBank.mk []),5)
 else
 (app [] x8.Approved).bind fun v12 =>
 (idx v12 (i64 (p1.Version - 1))).bind fun x13 =>
 (q79q F p0 (Gq2.mk x8.ID x8.Versions (v12.set ((i64 (p1.Version - 1)).toNat) true) x8.Uses x8.Withdrawn)).bind fun r14 =>
 some (r14,0)
def q137q (F:Nat) (p0:GBank) (p1:GRef) (p2:Int) (p3:Int) (x8:Gq2) (rec1:Int→Option (GBank × Int)) (n14:Int):Option (GBank × Int) :=
 if (decide (n14<(x8.Uses.length:Int)))=true then
  (idx x8.Uses n14).bind fun x16 =>
  if (x16.Form == p2)=true then
   some ((GBank.mk []),5)
  else
  rec1 (i64 (n14+1))
 else
 if ((x8.Uses.length:Int) == 300)=true then
  some ((GBank.mk []),3)
 else
 (app [] x8.Uses).bind fun v19 =>
 (app v19 [(GUse.mk p1.Version p2 p3)]).bind fun v20 =>
 (q79q F p0 (Gq2.mk x8.ID x8.Versions x8.Approved v20 x8.Withdrawn)).bind fun r21 =>
 some (r21,0)
def q105q (F:Nat) (p0:GBank) (p1:GRef) (p2:Int) (p3:Int) (x8:Gq2):Nat→Int→Option (GBank × Int)
 | 0=>fun _=>.none
 | n+1=>q137q F p0 p1 p2 p3 x8 (q105q F p0 p1 p2 p3 x8 n)
def ref07_use (F:Nat) (p0:GBank) (p1:GRef) (p2:Int) (p3:Int):Option (GBank × Int) :=
 (q78q F p0 p1.ID).bind fun r1 =>
 (if (decide (r1<0))=true then some true else if (decide (p1.Version<1))=true then some true else (idx p0.Records r1).bind fun x6=>some (decide (p1.Version > (x6.Versions.length:Int)))).bind fun w3 =>
 if w3=true then
  some ((GBank.mk []),4)
 else
 (idx p0.Records r1).bind fun x8 =>
 (if x8.Withdrawn=true then some true else (idx x8.Approved (i64 (p1.Version - 1))).bind fun x12=>some (!x12)).bind fun w10 =>
 if w10=true then
  some ((GBank.mk []),8)
 else
 q105q F p0 p1 p2 p3 x8 F 0
def q94q (F:Nat) (p0:GBank) (p1:Int) (p2:Bool):Option (GBank × Int) :=
 (q78q F p0 p1).bind fun r1 =>
 if (decide (r1<0))=true then
  some ((GBank.mk []),4)
 else
 (idx p0.Records r1).bind fun x3 =>
 if (x3.Withdrawn == p2)=true then
  some ((GBank.mk []),8)
 else
 (q79q F p0 (Gq2.mk x3.ID x3.Versions x3.Approved x3.Uses p2)).bind fun r5 =>
 some (r5,0)
def q170q (F:Nat) (p0:GBank) (p1:Gq0):Option (GBank × Int) :=
 (q171q F p0).bind fun r1 =>
 if (!r1)=true then
  some ((GBank.mk []),1)
 else
 if (p1.Kind == 1)=true then
  (q172q F p0 p1.Item).bind fun r4 =>
  some (r4.1,r4.2)
 else
 if (p1.Kind == 2)=true then
  (q154q F p0 p1.Item).bind fun r6 =>
  some (r6.1,r6.2)
 else
 if (p1.Kind == 3)=true then
  (q145q F p0 p1.Ref).bind fun r8 =>
  some (r8.1,r8.2)
 else
 if (p1.Kind == 4)=true then
  (ref07_use F p0 p1.Ref p1.Form p1.Stamp.Time).bind fun r10 =>
  some (r10.1,r10.2)
 else
 if (p1.Kind == 5)=true then
  (q94q F p0 p1.Ref.ID true).bind fun r12 =>
  some (r12.1,r12.2)
 else
 if (p1.Kind == 6)=true then
  (q94q F p0 p1.Ref.ID false).bind fun r14 =>
  some (r14.1,r14.2)
 else
 some ((GBank.mk []),2)
def q124q (F:Nat) (p1:Int) (r1:List Gq0 × Int) (rec1:Int→(List Gq2)→(List Gq3)→Option (GBank × List Gq3 × Int)) (n3:Int) (l4:List Gq2) (l5:List Gq3):Option (GBank × List Gq3 × Int) :=
 if (decide (n3<(r1.1.length:Int)))=true then
  (idx r1.1 n3).bind fun x7 =>
  if (decide (x7.Stamp.Time > p1))=true then
   rec1 (i64 (n3+1)) l4 l5
  else
  (idx r1.1 n3).bind fun x9 =>
  (q170q F (GBank.mk l4) x9).bind fun r10 =>
  if (r10.2 != 0)=true then
   (idx r1.1 n3).bind fun x12 =>
   (idx r1.1 n3).bind fun x13 =>
   (app l5 [(Gq3.mk (Gq1.mk x12.Stamp.Source x13.Stamp.Seq) r10.2)]).bind fun v14 =>
   rec1 (i64 (n3+1)) l4 v14
  else
  rec1 (i64 (n3+1)) r10.1.Records l5
 else
 some ((GBank.mk l4),l5,0)
def q87q (F:Nat) (p1:Int) (r1:List Gq0 × Int):Nat→Int→(List Gq2)→(List Gq3)→Option (GBank × List Gq3 × Int)
 | 0=>fun _ _ _=>.none
 | n+1=>q124q F p1 r1 (q87q F p1 r1 n)
def q164q (F:Nat) (p0:List Gq0) (p1:Int):Option (GBank × List Gq3 × Int) :=
 (q151q F p0).bind fun r1 =>
 if (r1.2 != 0)=true then
  some ((GBank.mk []),[],r1.2)
 else
 q87q F p1 r1 F 0 ([]:List Gq2) ([]:List Gq3)
def q47q (p0:Gq2) (p1:Gq2) (rec3:Int→Option Bool) (n18:Int):Option Bool :=
 if (decide (n18<(p0.Uses.length:Int)))=true then
  (idx p0.Uses n18).bind fun x20 =>
  (idx p1.Uses n18).bind fun x21 =>
  if (!(decide (x20=x21)))=true then
   some false
  else
  rec3 (i64 (n18+1))
 else
 some true
def q25q (p0:Gq2) (p1:Gq2):Nat→Int→Option Bool
 | 0=>fun _=>.none
 | n+1=>q47q p0 p1 (q25q p0 p1 n)
def q46q (F:Nat) (p0:Gq2) (p1:Gq2) (rec2:Int→Option Bool) (n13:Int):Option Bool :=
 if (decide (n13<(p0.Approved.length:Int)))=true then
  (idx p0.Approved n13).bind fun x15 =>
  (idx p1.Approved n13).bind fun x16 =>
  if (!(x15 == x16))=true then
   some false
  else
  rec2 (i64 (n13+1))
 else
 q25q p0 p1 F 0
def q17q (F:Nat) (p0:Gq2) (p1:Gq2):Nat→Int→Option Bool
 | 0=>fun _=>.none
 | n+1=>q46q F p0 p1 (q17q F p0 p1 n)
def q45q (F:Nat) (p0:Gq2) (p1:Gq2) (rec1:Int→Option Bool) (n7:Int):Option Bool :=
 if (decide (n7<(p0.Versions.length:Int)))=true then
  (idx p0.Versions n7).bind fun x9 =>
  (idx p1.Versions n7).bind fun x10 =>
  (q163q F x9 x10).bind fun r11 =>
  if (!r11)=true then
   some false
  else
  rec1 (i64 (n7+1))
 else
 q17q F p0 p1 F 0
def q24q (F:Nat) (p0:Gq2) (p1:Gq2):Nat→Int→Option Bool
 | 0=>fun _=>.none
 | n+1=>q45q F p0 p1 (q24q F p0 p1 n)
def q97q (F:Nat) (p0:Gq2) (p1:Gq2):Option Bool :=
 if ((p0.ID != p1.ID) || ((!(p0.Withdrawn == p1.Withdrawn)) || (((p0.Versions.length:Int) != (p1.Versions.length:Int)) || (((p0.Approved.length:Int) != (p1.Approved.length:Int)) || ((p0.Uses.length:Int) != (p1.Uses.length:Int))))))=true then
  some false
 else
 q24q F p0 p1 F 0
def q122q (F:Nat) (p0:GBank) (p1:GBank) (rec1:Int→Option Bool) (n2:Int):Option Bool :=
 if (decide (n2<(p0.Records.length:Int)))=true then
  (idx p0.Records n2).bind fun x4 =>
  (idx p1.Records n2).bind fun x5 =>
  (q97q F x4 x5).bind fun r6 =>
  if (!r6)=true then
   some false
  else
  rec1 (i64 (n2+1))
 else
 some true
def q113q (F:Nat) (p0:GBank) (p1:GBank):Nat→Int→Option Bool
 | 0=>fun _=>.none
 | n+1=>q122q F p0 p1 (q113q F p0 p1 n)
def q158q (F:Nat) (p0:GBank) (p1:GBank):Option Bool :=
 if ((p0.Records.length:Int) != (p1.Records.length:Int))=true then
  some false
 else
 q113q F p0 p1 F 0
def q71q (p0:List Gq3) (p1:List Gq3) (rec1:Int→Option Bool) (n2:Int):Option Bool :=
 if (decide (n2<(p0.length:Int)))=true then
  (idx p0 n2).bind fun x4 =>
  (idx p1 n2).bind fun x5 =>
  if (!(decide (x4=x5)))=true then
   some false
  else
  rec1 (i64 (n2+1))
 else
 some true
def q64q (p0:List Gq3) (p1:List Gq3):Nat→Int→Option Bool
 | 0=>fun _=>.none
 | n+1=>q71q p0 p1 (q64q p0 p1 n)
def q92q (F:Nat) (p0:List Gq3) (p1:List Gq3):Option Bool :=
 if ((p0.length:Int) != (p1.length:Int))=true then
  some false
 else
 q64q p0 p1 F 0
def q44q (p0:Gq2) (rec2:Int→Option Bool) (n15:Int):Option Bool :=
 if (decide (n15<(p0.Uses.length:Int)))=true then
  (idx p0.Uses n15).bind fun x17 =>
  if ((decide (x17.Version<1)) || (decide (x17.Version > (p0.Versions.length:Int))))=true then
   some false
  else
  rec2 (i64 (n15+1))
 else
 some true
def q23q (p0:Gq2):Nat→Int→Option Bool
 | 0=>fun _=>.none
 | n+1=>q44q p0 (q23q p0 n)
def q43q (F:Nat) (p0:Gq2) (rec1:Int→Option Bool) (n6:Int):Option Bool :=
 if (decide (n6<(p0.Versions.length:Int)))=true then
  (idx p0.Versions n6).bind fun x8 =>
  ((q139q F x8).bind fun r11=>if (r11 != 0)=true then some true else if (x8.ID != p0.ID)=true then some true else some (x8.Version != (i64 (n6+1)))).bind fun w10 =>
  if w10=true then
   some false
  else
  rec1 (i64 (n6+1))
 else
 q23q p0 F 0
def q36q (F:Nat) (p0:Gq2):Nat→Int→Option Bool
 | 0=>fun _=>.none
 | n+1=>q43q F p0 (q36q F p0 n)
def q75q (F:Nat) (p0:Gq2):Option Bool :=
 if ((decide ((p0.Versions.length:Int)<1)) || ((decide ((p0.Versions.length:Int) > 8)) || (((p0.Approved.length:Int) != (p0.Versions.length:Int)) || (decide ((p0.Uses.length:Int) > 300)))))=true then
  some false
 else
 q36q F p0 F 0
def q120q (F:Nat) (p0:GBank) (rec1:Int→Option Bool) (n2:Int):Option Bool :=
 if (decide (n2<(p0.Records.length:Int)))=true then
  (idx p0.Records n2).bind fun x4 =>
  (if (decide (n2 > 0))=true then (idx p0.Records (i64 (n2 - 1))).bind fun x8=>if (decide (x8.ID ≥ x4.ID))=true then some true else (q75q F x4).bind fun r10=>some (!r10) else (q75q F x4).bind fun r11=>some (!r11)).bind fun w6 =>
  if w6=true then
   some false
  else
  rec1 (i64 (n2+1))
 else
 some true
def q110q (F:Nat) (p0:GBank):Nat→Int→Option Bool
 | 0=>fun _=>.none
 | n+1=>q120q F p0 (q110q F p0 n)
def q177q (F:Nat) (p0:GBank):Option Bool :=
 if (decide ((p0.Records.length:Int) > 40))=true then
  some false
 else
 q110q F p0 F 0
def q119q (p0:GUse) (c0:Int) (c1:Int):Option Bool :=
 some (decide (p0.Time > (i64 (c0 - c1))))
def q81q (rec1:Int→(List GRef)→Option (List GRef)) (n10:Int) (l11:List GRef) (x13:Gq2) (rec2:Int→Option (List GRef)) (n19:Int):Option (List GRef) :=
 if (decide (n19 ≥ 0))=true then
  (idx x13.Approved n19).bind fun x21 =>
  if x21=true then
   (app l11 [(GRef.mk x13.ID (i64 (n19+1)))]).bind fun v23 =>
   rec1 (i64 (n10+1)) v23
  else
  rec2 (i64 (n19 - 1))
 else
 rec1 (i64 (n10+1)) l11
def q41q (rec1:Int→(List GRef)→Option (List GRef)) (n10:Int) (l11:List GRef) (x13:Gq2):Nat→Int→Option (List GRef)
 | 0=>fun _=>.none
 | n+1=>q81q rec1 n10 l11 x13 (q41q rec1 n10 l11 x13 n)
def q80q (F:Nat) (p0:GBank) (p1:Int) (p2:Int) (p3:Int) (rec1:Int→(List GRef)→Option (List GRef)) (n10:Int) (l11:List GRef):Option (List GRef) :=
 if (decide (n10<(p0.Records.length:Int)))=true then
  (idx p0.Records n10).bind fun x13 =>
  if (x13.Withdrawn || (decide ((x13.Uses.length:Int) > p3)))=true then
   rec1 (i64 (n10+1)) l11
  else
  (q13q F x13.Uses (fun a0=>q119q a0 p1 p2)).bind fun r17 =>
  if r17=true then
   rec1 (i64 (n10+1)) l11
  else
  q41q rec1 n10 l11 x13 F (i64 ((x13.Approved.length:Int) - 1))
 else
 some l11
def q40q (F:Nat) (p0:GBank) (p1:Int) (p2:Int) (p3:Int):Nat→Int→(List GRef)→Option (List GRef)
 | 0=>fun _ _=>.none
 | n+1=>q80q F p0 p1 p2 p3 (q40q F p0 p1 p2 p3 n)
def q109q (F:Nat) (p0:GBank) (p1:Int) (p2:Int) (p3:Int):Option (List GRef) :=
 ((q177q F p0).bind fun r3=>if (!r3)=true then some true else if (decide (p1<0))=true then some true else if (decide (p1 > 1000000))=true then some true else if (decide (p2<0))=true then some true else if (decide (p2 > 1000000))=true then some true else some (decide (p3<0))).bind fun w2 =>
 if w2=true then
  some []
 else
 q40q F p0 p1 p2 p3 F 0 ([]:List GRef)
def q168q (F:Nat):Option Bool :=
 (bank_Fold F ([(Gq0.mk (Gq4.mk 3 0 2) 4 (GItem.mk 0 0 (ByteArray.mk #[]) [] []) (GRef.mk 5 1) 9),(Gq0.mk (Gq4.mk 1 0 0) 1 (GItem.mk 5 1 (ByteArray.mk #[113]) [(GPart.mk 1 3 0 0 0 0)] []) (GRef.mk 0 0) 0),(Gq0.mk (Gq4.mk 2 0 1) 3 (GItem.mk 0 0 (ByteArray.mk #[]) [] []) (GRef.mk 5 1) 0)]) 100).bind fun r1 =>
 (q109q F r1.1 10 7 1).bind fun r2 =>
 (if (r1.2.2 == 0)=true then if ((r1.2.1.length:Int) == 0)=true then if ((r2.length:Int) == 1)=true then (idx r2 0).bind fun x8=>if (decide (x8=(GRef.mk 5 1)))=true then (q109q F r1.1 10 8 1).bind fun r10=>some ((r10.length:Int) == 0) else some false else some false else some false else some false).bind fun w4 =>
 some w4
def q149q (F:Nat) (p0:List Int) (p1:Int):Option Bool :=
 (make_New p0).bind fun r1 =>
 (Gq5 F r1 14 5).bind fun r2 =>
 (Gq27 r2.2 0 20).bind fun r3 =>
 (bank_Fold F r2.1 p1).bind fun r4 =>
 (q164q F r2.1 p1).bind fun r5 =>
 (bank_Fold F r2.1 r3.1).bind fun r6 =>
 (q164q F r2.1 r3.1).bind fun r7 =>
 ((q158q F r4.1 r5.1).bind fun r10=>if r10=true then (q92q F r4.2.1 r5.2.1).bind fun r12=>if r12=true then if (r4.2.2 == r5.2.2)=true then (q158q F r6.1 r7.1).bind fun r15=>if r15=true then (q92q F r6.2.1 r7.2.1).bind fun r17=>if r17=true then if (r6.2.2 == r7.2.2)=true then (q168q F).bind fun r20=>some r20 else some false else some false else some false else some false else some false else some false).bind fun w9 =>
 some w9
end
end Go.Sh
