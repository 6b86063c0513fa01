import Derived.Test.YtiinmaihgmfniaaGreatZLb
set_option linter.unusedVariables false
set_option linter.unusedSimpArgs false
set_option maxRecDepth 100000
set_option maxHeartbeats 1000000
namespace Go.Sh
open Go.L
noncomputable section
structure GTape where
 L:List Int
 At:Int
 deriving DecidableEq,Inhabited
def GTape.lv (x:GTape):LV:=.agg [(lvl 1 LV.I) x.L,.I x.At]
theorem GTape.ok:OkF 2 GTape.lv:=fun _=>⟨rfl,rfl,rfl⟩
structure Gq2 where
 Close:Int
 Late:Int
 deriving DecidableEq,Inhabited
def Gq2.lv (x:Gq2):LV:=.agg [.I x.Close,.I x.Late]
theorem Gq2.ok:OkF 2 Gq2.lv:=fun _=>⟨rfl,rfl,rfl⟩
structure Gq10 where
 Time:Int
 Source:Int
 Seq:Int
 deriving DecidableEq,Inhabited
def Gq10.lv (x:Gq10):LV:=.agg [.I x.Time,.I x.Source,.I x.Seq]
theorem Gq10.ok:OkF 3 Gq10.lv:=fun _=>⟨rfl,rfl,rfl⟩
structure Gq4 where
 Candidate:Int
 Centre:Int
 Paper:Int
 deriving DecidableEq,Inhabited
def Gq4.lv (x:Gq4):LV:=.agg [.I x.Candidate,.I x.Centre,.I x.Paper]
theorem Gq4.ok:OkF 3 Gq4.lv:=fun _=>⟨rfl,rfl,rfl⟩
structure Gq5 where
 Stamp:Gq10
 Kind:Int
 Entry:Gq4
 To:Int
 deriving DecidableEq,Inhabited
def Gq5.lv (x:Gq5):LV:=.agg [.I x.Stamp.Time,.I x.Stamp.Source,.I x.Stamp.Seq,.I x.Kind,.I x.Entry.Candidate,.I x.Entry.Centre,.I x.Entry.Paper,.I x.To]
theorem Gq5.ok:OkF 8 Gq5.lv:=fun _=>⟨rfl,rfl,rfl⟩
structure Gq1 where
 Kind:Int
 Least:Int
 Extra:Int
 Needs:Int
 deriving DecidableEq,Inhabited
def Gq1.lv (x:Gq1):LV:=.agg [.I x.Kind,.I x.Least,.I x.Extra,.I x.Needs]
theorem Gq1.ok:OkF 4 Gq1.lv:=fun _=>⟨rfl,rfl,rfl⟩
structure Gq6 where
 Candidate:Int
 Kind:Int
 Level:Int
 From:Int
 Until:Int
 deriving DecidableEq,Inhabited
def Gq6.lv (x:Gq6):LV:=.agg [.I x.Candidate,.I x.Kind,.I x.Level,.I x.From,.I x.Until]
theorem Gq6.ok:OkF 5 Gq6.lv:=fun _=>⟨rfl,rfl,rfl⟩
structure GRoom where
 Rows:Int
 Cols:Int
 Offers:Int
 deriving DecidableEq,Inhabited
def GRoom.lv (x:GRoom):LV:=.agg [.I x.Rows,.I x.Cols,.I x.Offers]
theorem GRoom.ok:OkF 3 GRoom.lv:=fun _=>⟨rfl,rfl,rfl⟩
structure GNeed where
 Candidate:Int
 Needs:Int
 deriving DecidableEq,Inhabited
def GNeed.lv (x:GNeed):LV:=.agg [.I x.Candidate,.I x.Needs]
theorem GNeed.ok:OkF 2 GNeed.lv:=fun _=>⟨rfl,rfl,rfl⟩
structure Gq3 where
 Entry:Gq4
 Late:Bool
 deriving DecidableEq,Inhabited
def Gq3.lv (x:Gq3):LV:=.agg [.I x.Entry.Candidate,.I x.Entry.Centre,.I x.Entry.Paper,LV.bool x.Late]
theorem Gq3.ok:OkF 4 Gq3.lv:=fun _=>⟨rfl,rfl,rfl⟩
structure Gq7 where
 Source:Int
 Seq:Int
 deriving DecidableEq,Inhabited
def Gq7.lv (x:Gq7):LV:=.agg [.I x.Source,.I x.Seq]
theorem Gq7.ok:OkF 2 Gq7.lv:=fun _=>⟨rfl,rfl,rfl⟩
structure Gq9 where
 Event:Gq7
 Code:Int
 deriving DecidableEq,Inhabited
def Gq9.lv (x:Gq9):LV:=.agg [.I x.Event.Source,.I x.Event.Seq,.I x.Code]
theorem Gq9.ok:OkF 3 Gq9.lv:=fun _=>⟨rfl,rfl,rfl⟩
structure Gq0 where
 Extra:Int
 Needs:Int
 deriving DecidableEq,Inhabited
def Gq0.lv (x:Gq0):LV:=.agg [.I x.Extra,.I x.Needs]
theorem Gq0.ok:OkF 2 Gq0.lv:=fun _=>⟨rfl,rfl,rfl⟩
structure GSeat where
 Room:Int
 Row:Int
 Col:Int
 deriving DecidableEq,Inhabited
def GSeat.lv (x:GSeat):LV:=.agg [.I x.Room,.I x.Row,.I x.Col]
theorem GSeat.ok:OkF 3 GSeat.lv:=fun _=>⟨rfl,rfl,rfl⟩
structure Gq8 where
 Candidate:Int
 Seat:GSeat
 Variant:Int
 deriving DecidableEq,Inhabited
def Gq8.lv (x:Gq8):LV:=.agg [.I x.Candidate,.I x.Seat.Room,.I x.Seat.Row,.I x.Seat.Col,.I x.Variant]
theorem Gq8.ok:OkF 5 Gq8.lv:=fun _=>⟨rfl,rfl,rfl⟩
structure q0q where
 first:Int
 disputed:Bool
 deriving DecidableEq,Inhabited
def q0q.lv (x:q0q):LV:=.agg [.I x.first,LV.bool x.disputed]
theorem q0q.ok:OkF 2 q0q.lv:=fun _=>⟨rfl,rfl,rfl⟩
def make_New (p0:List Int):Option GTape :=
 if (decide ((p0.length:Int) > 600))=true then
  (slc p0 0 600).bind fun v2 =>
  some (GTape.mk v2 0)
 else
 some (GTape.mk p0 0)
def Gq40 (p0:GTape):Option (Int × GTape) :=
 if (decide (p0.At ≥ (p0.L.length:Int)))=true then
  some (0,p0)
 else
 (idx p0.L (i64 ((i64 (p0.At+1)) - 1))).bind fun x2 =>
 some (x2,(GTape.mk p0.L (i64 (p0.At+1))))
def make_Cut (p0:Int) (p1:Int):Option Int :=
 if (decide (p1<1))=true then
  some 0
 else
 (rmd p0 p1).bind fun v2 =>
 if (decide (v2<0))=true then
  some (i64 (v2+p1))
 else
 some v2
def Gq28 (p0:GTape) (p1:Int):Option (Int × GTape) :=
 (Gq40 p0).bind fun r1 =>
 (make_Cut r1.1 p1).bind fun r2 =>
 some (r2,r1.2)
def Gq38 (p0:GTape) (p1:Int) (p2:Int):Option (Int × GTape) :=
 (Gq28 p0 (i64 ((i64 (p2 - p1))+1))).bind fun r1 =>
 some ((i64 (p1+r1.1)),r1.2)
def Gq30 (p0:GTape) (p1:Int):Option (Bool × GTape) :=
 (Gq28 p0 p1).bind fun r1 =>
 some ((r1.1 == (i64 (p1 - 1))),r1.2)
def Gq36 (p0:GTape) (p1:List Int):Option (Int × GTape) :=
 (Gq28 p0 (p1.length:Int)).bind fun r1 =>
 (idx p1 r1.1).bind fun x2 =>
 some (x2,r1.2)
def Gq54 (p0:GTape):Option (Int × GTape) :=
 (Gq36 p0 [(-1),0,1,2,31,32,99,100,200,201,9999,10000,1000000,1000001,1152921504606846976,1152921504606846977,(-1152921504606846976),9223372036854775807,(-9223372036854775808)]).bind fun r1 =>
 some (r1.1,r1.2)
def Gq11 (p0:GTape) (p1:Int):Option (Gq2 × GTape) :=
 (Gq38 p0 4 14).bind fun r1 =>
 (Gq28 r1.2 10).bind fun r2 =>
 (if (decide (p1 > 0))=true then (Gq30 r2.2 p1).bind fun r8=>some (r8.1,r8.2.L,r8.2.At) else some (false,r2.2.L,r2.2.At)).bind fun w6 =>
 if w6.1=true then
  (Gq54 (GTape.mk w6.2.1 w6.2.2)).bind fun r10 =>
  (Gq54 r10.2).bind fun r11 =>
  some ((Gq2.mk r10.1 r11.1),r11.2)
 else
 some ((Gq2.mk r1.1 (i64 (r1.1+r2.1))),(GTape.mk w6.2.1 w6.2.2))
def Gq52 (p0:GTape) (p1:Int):Option (Gq10 × GTape) :=
 (Gq38 p0 0 24).bind fun r1 =>
 (Gq38 r1.2 0 3).bind fun r2 =>
 (Gq38 r2.2 0 9).bind fun r3 =>
 (if (decide (p1 > 0))=true then (Gq30 r3.2 p1).bind fun r9=>some (r9.1,r9.2.L,r9.2.At) else some (false,r3.2.L,r3.2.At)).bind fun w7 =>
 if w7.1=true then
  (Gq28 (GTape.mk w7.2.1 w7.2.2) 3).bind fun r11 =>
  if (r11.1 == 0)=true then
   (Gq54 r11.2).bind fun r13 =>
   some ((Gq10.mk r13.1 r2.1 r3.1),r13.2)
  else
  if (r11.1 == 1)=true then
   (Gq54 r11.2).bind fun r15 =>
   some ((Gq10.mk r1.1 r15.1 r3.1),r15.2)
  else
  (Gq54 r11.2).bind fun r16 =>
  some ((Gq10.mk r1.1 r2.1 r16.1),r16.2)
 else
 some ((Gq10.mk r1.1 r2.1 r3.1),(GTape.mk w7.2.1 w7.2.2))
def Gq16 (rec1:Int→(List Int)→Int→(List Gq5)→Option (List Gq5 × GTape)) (n2:Int) (l5:List Gq5) (n18:Int) (n19:Int) (n20:Int) (n21:Int) (n22:Int) (n23:Int) (n24:Int) (n25:Int) (l26:List Int) (n27:Int):Option (List Gq5 × GTape) :=
 (app l5 [(Gq5.mk (Gq10.mk n18 n19 n20) n21 (Gq4.mk n22 n23 n24) n25)]).bind fun v28 =>
 (Gq30 (GTape.mk l26 n27) 8).bind fun r29 =>
 if r29.1=true then
  (Gq28 r29.2 (v28.length:Int)).bind fun r31 =>
  (idx v28 r31.1).bind fun x32 =>
  (app v28 [x32]).bind fun v33 =>
  rec1 (i64 (n2 - 1)) r31.2.L r31.2.At v33
 else
 rec1 (i64 (n2 - 1)) r29.2.L r29.2.At v28
def Gq15 (rec1:Int→(List Int)→Int→(List Gq5)→Option (List Gq5 × GTape)) (p2:Int) (n2:Int) (l5:List Gq5) (r7:Int × GTape) (r8:Int × GTape) (r9:Int × GTape) (r10:Int × GTape) (r11:Int × GTape) (n14:Int) (l15:List Int) (n16:Int) (n17:Int):Option (List Gq5 × GTape) :=
 (if (decide (p2 > 0))=true then (Gq30 (GTape.mk l15 n16) p2).bind fun r39=>some (r39.1,r39.2.L,r39.2.At) else some (false,l15,n16)).bind fun w37 =>
 if w37.1=true then
  (Gq28 (GTape.mk w37.2.1 w37.2.2) 6).bind fun r41 =>
  if (r41.1 == 0)=true then
   (Gq38 r41.2 (-1) 4).bind fun r43 =>
   Gq16 rec1 n2 l5 r8.1 n14 (l5.length:Int) r43.1 r10.1 r7.1 r11.1 n17 r43.2.L r43.2.At
  else
  if (r41.1 == 1)=true then
   (Gq54 r41.2).bind fun r45 =>
   Gq16 rec1 n2 l5 r8.1 n14 (l5.length:Int) r9.1 r45.1 r7.1 r11.1 n17 r45.2.L r45.2.At
  else
  if (r41.1 == 2)=true then
   (Gq36 r41.2 [0,1,99,100]).bind fun r47 =>
   Gq16 rec1 n2 l5 r8.1 n14 (l5.length:Int) r9.1 r10.1 r47.1 r11.1 n17 r47.2.L r47.2.At
  else
  if (r41.1 == 3)=true then
   (Gq36 r41.2 [(-1),31,32]).bind fun r49 =>
   Gq16 rec1 n2 l5 r8.1 n14 (l5.length:Int) r9.1 r10.1 r7.1 r49.1 n17 r49.2.L r49.2.At
  else
  if (r41.1 == 4)=true then
   (Gq52 r41.2 4).bind fun r51 =>
   Gq16 rec1 n2 l5 r51.1.Time r51.1.Source r51.1.Seq r9.1 r10.1 r7.1 r11.1 n17 r51.2.L r51.2.At
  else
  (Gq36 r41.2 [0,99,100,r7.1]).bind fun r52 =>
  Gq16 rec1 n2 l5 r8.1 n14 (l5.length:Int) r9.1 r10.1 r7.1 r11.1 r52.1 r52.2.L r52.2.At
 else
 Gq16 rec1 n2 l5 r8.1 n14 (l5.length:Int) r9.1 r10.1 r7.1 r11.1 n17 w37.2.1 w37.2.2
def Gq14 (rec1:Int→(List Int)→Int→(List Gq5)→Option (List Gq5 × GTape)) (p2:Int) (n2:Int) (l5:List Gq5) (r7:Int × GTape) (r8:Int × GTape) (r9:Int × GTape) (r10:Int × GTape) (r11:Int × GTape) (l12:List Int) (n13:Int) (n14:Int):Option (List Gq5 × GTape) :=
 if (r9.1 == 3)=true then
  (Gq28 (GTape.mk l12 n13) 2).bind fun r54 =>
  (make_Cut (i64 (r7.1+r54.1)) 3).bind fun r55 =>
  Gq15 rec1 p2 n2 l5 r7 r8 r9 r10 r11 n14 r54.2.L r54.2.At (i64 (1+r55))
 else
 Gq15 rec1 p2 n2 l5 r7 r8 r9 r10 r11 n14 l12 n13 0
def Gq18 (p2:Int) (rec1:Int→(List Int)→Int→(List Gq5)→Option (List Gq5 × GTape)) (n2:Int) (l3:List Int) (n4:Int) (l5:List Gq5):Option (List Gq5 × GTape) :=
 if (decide (n2 > 0))=true then
  (Gq38 (GTape.mk l3 n4) 1 3).bind fun r7 =>
  (Gq38 r7.2 0 24).bind fun r8 =>
  (Gq36 r8.2 [1,1,1,2,3]).bind fun r9 =>
  (Gq28 r9.2 4).bind fun r10 =>
  (Gq28 r10.2 2).bind fun r11 =>
  (Gq30 r11.2 6).bind fun r56 =>
  if r56.1=true then
   Gq14 rec1 p2 n2 l5 r7 r8 r9 r10 r11 r56.2.L r56.2.At 0
  else
  Gq14 rec1 p2 n2 l5 r7 r8 r9 r10 r11 r56.2.L r56.2.At r7.1
 else
 some (l5,(GTape.mk l3 n4))
def Gq17 (p2:Int):Nat→Int→(List Int)→Int→(List Gq5)→Option (List Gq5 × GTape)
 | 0=>fun _ _ _ _=>.none
 | n+1=>Gq18 p2 (Gq17 p2 n)
def Gq13 (F:Nat) (p0:GTape) (p1:Int) (p2:Int):Option (List Gq5 × GTape) :=
 (Gq38 p0 0 p1).bind fun r1 =>
 Gq17 p2 F r1.1 r1.2.L r1.2.At ([]:List Gq5)
def Gq48 (p1:Int) (rec1:Int→(List Int)→Int→(List Gq1)→Option (List Gq1 × GTape)) (n2:Int) (l3:List Int) (n4:Int) (l5:List Gq1):Option (List Gq1 × GTape) :=
 if (decide (n2 > 0))=true then
  (Gq38 (GTape.mk l3 n4) 1 3).bind fun r7 =>
  (Gq38 r7.2 1 9).bind fun r8 =>
  (Gq36 r8.2 [0,10,25,26,50,100]).bind fun r9 =>
  (Gq36 r9.2 [0,2,4,8,16,32,6,63]).bind fun r10 =>
  (app l5 [(Gq1.mk r7.1 r8.1 r9.1 r10.1)]).bind fun v11 =>
  rec1 (i64 (n2 - 1)) r10.2.L r10.2.At v11
 else
 (if (decide (p1 > 0))=true then (Gq30 (GTape.mk l3 n4) p1).bind fun r17=>some (r17.1,r17.2.L,r17.2.At) else some (false,l3,n4)).bind fun w15 =>
 if w15.1=true then
  (Gq36 (GTape.mk w15.2.1 w15.2.2) [0,1,9,10]).bind fun r19 =>
  (Gq36 r19.2 [0,1,9,10]).bind fun r20 =>
  (Gq36 r20.2 [(-1),0,100,101]).bind fun r21 =>
  (Gq36 r21.2 [(-1),0,63,64]).bind fun r22 =>
  (app l5 [(Gq1.mk r19.1 r20.1 r21.1 r22.1)]).bind fun v23 =>
  some (v23,r22.2)
 else
 some (l5,(GTape.mk w15.2.1 w15.2.2))
def Gq47 (p1:Int):Nat→Int→(List Int)→Int→(List Gq1)→Option (List Gq1 × GTape)
 | 0=>fun _ _ _ _=>.none
 | n+1=>Gq48 p1 (Gq47 p1 n)
def Gq46 (F:Nat) (p0:GTape) (p1:Int):Option (List Gq1 × GTape) :=
 (Gq28 p0 6).bind fun r1 =>
 Gq47 p1 F r1.1 r1.2.L r1.2.At ([]:List Gq1)
def Gq50 (p0:GTape) (p1:Int) (p2:Int):Option (Int × GTape) :=
 (if (decide (p2 > 0))=true then (Gq30 p0 p2).bind fun r6=>some (r6.1,r6.2.L,r6.2.At) else some (false,p0.L,p0.At)).bind fun w4 =>
 if w4.1=true then
  (Gq54 (GTape.mk w4.2.1 w4.2.2)).bind fun r8 =>
  some (r8.1,r8.2)
 else
 some (p1,(GTape.mk w4.2.1 w4.2.2))
def Gq22  (rec1:Int→(List Int)→Int→(List Gq6)→Option (List Gq6 × GTape)) (n2:Int) (l3:List Int) (n4:Int) (l5:List Gq6):Option (List Gq6 × GTape) :=
 if (decide (n2 > 0))=true then
  (Gq38 (GTape.mk l3 n4) 0 20).bind fun r7 =>
  (Gq28 r7.2 2).bind fun r8 =>
  (Gq38 r8.2 1 3).bind fun r9 =>
  (Gq50 r9.2 r9.1 10).bind fun r10 =>
  (Gq38 r10.2 1 9).bind fun r11 =>
  (Gq50 r11.2 r11.1 10).bind fun r12 =>
  (Gq38 r12.2 (-1) 12).bind fun r13 =>
  (app l5 [(Gq6.mk r8.1 r10.1 r12.1 r7.1 (i64 (r7.1+r13.1)))]).bind fun v14 =>
  rec1 (i64 (n2 - 1)) r13.2.L r13.2.At v14
 else
 some (l5,(GTape.mk l3 n4))
def Gq21 :Nat→Int→(List Int)→Int→(List Gq6)→Option (List Gq6 × GTape)
 | 0=>fun _ _ _ _=>.none
 | n+1=>Gq22  (Gq21 n)
def Gq20 (F:Nat) (p0:GTape):Option (List Gq6 × GTape) :=
 (Gq28 p0 7).bind fun r1 =>
 Gq21 F r1.1 r1.2.L r1.2.At ([]:List Gq6)
def Gq44 (p1:Int) (rec1:Int→(List Int)→Int→(List GRoom)→Option (List GRoom × GTape)) (n2:Int) (l3:List Int) (n4:Int) (l5:List GRoom):Option (List GRoom × GTape) :=
 if (decide (n2 > 0))=true then
  (Gq38 (GTape.mk l3 n4) 1 2).bind fun r7 =>
  (Gq38 r7.2 1 3).bind fun r8 =>
  (Gq36 r8.2 [0,2,4,6,8,62]).bind fun r9 =>
  (Gq30 r9.2 3).bind fun r10 =>
  if r10.1=true then
   (Gq36 r10.2 [1,3,63,9]).bind fun r12 =>
   (app l5 [(GRoom.mk 1 1 r12.1)]).bind fun v13 =>
   rec1 (i64 (n2 - 1)) r12.2.L r12.2.At v13
  else
  (app l5 [(GRoom.mk r7.1 r8.1 r9.1)]).bind fun v14 =>
  rec1 (i64 (n2 - 1)) r10.2.L r10.2.At v14
 else
 (if (decide (p1 > 0))=true then (Gq30 (GTape.mk l3 n4) p1).bind fun r20=>some (r20.1,r20.2.L,r20.2.At) else some (false,l3,n4)).bind fun w18 =>
 if w18.1=true then
  (Gq38 (GTape.mk w18.2.1 w18.2.2) 0 9).bind fun r22 =>
  (Gq38 r22.2 0 9).bind fun r23 =>
  (Gq36 r23.2 [(-1),1,64,0]).bind fun r24 =>
  (app l5 [(GRoom.mk r22.1 r23.1 r24.1)]).bind fun v25 =>
  some (v25,r24.2)
 else
 some (l5,(GTape.mk w18.2.1 w18.2.2))
def Gq43 (p1:Int):Nat→Int→(List Int)→Int→(List GRoom)→Option (List GRoom × GTape)
 | 0=>fun _ _ _ _=>.none
 | n+1=>Gq44 p1 (Gq43 p1 n)
def Gq42 (F:Nat) (p0:GTape) (p1:Int):Option (List GRoom × GTape) :=
 (Gq28 p0 5).bind fun r1 =>
 Gq43 p1 F r1.1 r1.2.L r1.2.At ([]:List GRoom)
def Gq34 (p1:Int) (rec1:(List Int)→Int→(List Int)→Int→Option (List Int × GTape)) (l1:List Int) (n2:Int) (l3:List Int) (n4:Int):Option (List Int × GTape) :=
 if (decide (n2<p1))=true then
  (Gq28 (GTape.mk l3 n4) (i64 (n2+1))).bind fun r6 =>
  (slc l1 0 r6.1).bind fun v7 =>
  (app [] v7).bind fun v8 =>
  (app v8 [n2]).bind fun v9 =>
  (slc l1 r6.1 (l1.length:Int)).bind fun v10 =>
  (app v9 v10).bind fun v11 =>
  rec1 v11 (i64 (n2+1)) r6.2.L r6.2.At
 else
 some (l1,(GTape.mk l3 n4))
def Gq33 (p1:Int):Nat→(List Int)→Int→(List Int)→Int→Option (List Int × GTape)
 | 0=>fun _ _ _ _=>.none
 | n+1=>Gq34 p1 (Gq33 p1 n)
def Gq32 (F:Nat) (p0:GTape) (p1:Int):Option (List Int × GTape) :=
 Gq33 p1 F ([]:List Int) 0 p0.L p0.At
def Gq26 (p1:Int) (rec1:(List Int)→Int→(List Int)→Int→Option (List Int × GTape)) (l3:List Int) (n4:Int) (l5:List Int) (n6:Int):Option (List Int × GTape) :=
 if ((decide (n4 > 0)) && (decide (p1 > 0)))=true then
  (Gq28 (GTape.mk l5 n6) (i64 ((l3.length:Int)+1))).bind fun r10 =>
  (Gq28 r10.2 p1).bind fun r11 =>
  (slc l3 0 r10.1).bind fun v12 =>
  (app [] v12).bind fun v13 =>
  (app v13 [r11.1]).bind fun v14 =>
  (slc l3 r10.1 (l3.length:Int)).bind fun v15 =>
  (app v14 v15).bind fun v16 =>
  rec1 v16 (i64 (n4 - 1)) r11.2.L r11.2.At
 else
 some (l3,(GTape.mk l5 n6))
def Gq25 (p1:Int):Nat→(List Int)→Int→(List Int)→Int→Option (List Int × GTape)
 | 0=>fun _ _ _ _=>.none
 | n+1=>Gq26 p1 (Gq25 p1 n)
def Gq24 (F:Nat) (p0:GTape) (p1:Int):Option (List Int × GTape) :=
 (Gq32 F p0 p1).bind fun r1 =>
 (Gq28 r1.2 4).bind fun r2 =>
 Gq25 p1 F r1.1 r2.1 r2.2.L r2.2.At
def q99q (p0:Gq2):Option Bool :=
 some ((decide (p0.Close ≥ 0)) && ((decide (p0.Close≤p0.Late)) && (decide (p0.Late≤1000000))))
def q21q (p0:List Gq5) (p1:(Gq5→Option Gq10)) (p2:(Gq5→Gq5→Option Bool)) (rec1:Int→(List Gq10)→(List Int)→(List (Gq10 × Int))→Option (List Gq10 × List Int)) (n3:Int) (l4:List Gq10) (l5:List Int) (m6:List (Gq10 × Int)):Option (List Gq10 × List Int) :=
 if (decide (n3<(p0.length:Int)))=true then
  (idx p0 n3).bind fun x8 =>
  (p1 x8).bind fun r9 =>
  (idx l4 n3).bind fun x10 =>
  (idx (l4.set n3.toNat r9) n3).bind fun x11 =>
  if (!((mget m6 x11).isSome))=true then
   (idx (l4.set n3.toNat r9) n3).bind fun x13 =>
   rec1 (i64 (n3+1)) (l4.set n3.toNat r9) l5 (mput m6 x13 n3)
  else
  (idx p0 ((mget m6 x11).getD 0)).bind fun x14 =>
  (p2 x14 x8).bind fun r15 =>
  if (!r15)=true then
   (idx l5 n3).bind fun x17 =>
   rec1 (i64 (n3+1)) (l4.set n3.toNat r9) (l5.set n3.toNat 1) m6
  else
  rec1 (i64 (n3+1)) (l4.set n3.toNat r9) l5 m6
 else
 some (l4,l5)
def q9q (p0:List Gq5) (p1:(Gq5→Option Gq10)) (p2:(Gq5→Gq5→Option Bool)):Nat→Int→(List Gq10)→(List Int)→(List (Gq10 × Int))→Option (List Gq10 × List Int)
 | 0=>fun _ _ _ _=>.none
 | n+1=>q21q p0 p1 p2 (q9q p0 p1 p2 n)
def q34q (F:Nat) (p0:List Gq5) (p1:(Gq5→Option Gq10)) (p2:(Gq5→Gq5→Option Bool)):Option (List Gq10 × List Int) :=
 (mkl ((Gq10.mk 0 0 0):Gq10) (p0.length:Int)).bind fun v1 =>
 (mkl (0:Int) (p0.length:Int)).bind fun v2 =>
 q9q p0 p1 p2 F 0 v1 v2 ([]:List (Gq10 × Int))
def q159q (p0:Gq10):Option Bool :=
 some ((decide (p0.Time ≥ 0)) && ((decide (p0.Time≤1000000)) && ((decide (p0.Source ≥ 0)) && ((decide (p0.Source≤99)) && ((decide (p0.Seq ≥ 0)) && (decide (p0.Seq≤9999)))))))
def cmp_isNaN_int (p0:Int):Option Bool :=
 some (p0 != p0)
def cmp_Compare_int (p0:Int) (p1:Int):Option Int :=
 (cmp_isNaN_int p0).bind fun r1 =>
 (cmp_isNaN_int p1).bind fun r2 =>
 if r1=true then
  if r2=true then
   some 0
  else
  some (-1)
 else
 if r2=true then
  some 1
 else
 if (decide (p0<p1))=true then
  some (-1)
 else
 if (decide (p0 > p1))=true then
  some 1
 else
 some 0
def cmp_Or_int_L1_B (p0:List Int) (rec1:Int→Option Int) (n1:Int):Option Int :=
 if (decide (n1<(p0.length:Int)))=true then
  (idx p0 n1).bind fun x3 =>
  if (x3 != 0)=true then
   some x3
  else
  rec1 (i64 (n1+1))
 else
 some 0
def cmp_Or_int_L1 (p0:List Int):Nat→Int→Option Int
 | 0=>fun _=>.none
 | n+1=>cmp_Or_int_L1_B p0 (cmp_Or_int_L1 p0 n)
def cmp_Or_int (F:Nat) (p0:List Int):Option Int :=
 cmp_Or_int_L1 p0 F 0
def q28q (F:Nat) (p0:Gq10) (p1:Gq10):Option Int :=
 (cmp_Compare_int p0.Source p1.Source).bind fun r1 =>
 (cmp_Compare_int p0.Seq p1.Seq).bind fun r2 =>
 (cmp_Or_int F [r1,r2]).bind fun r3 =>
 some r3
def q105q (F:Nat) (p0:Int) (p1:Int) (c0:List Gq10):Option Int :=
 (idx c0 p0).bind fun x1 =>
 (idx c0 p1).bind fun x2 =>
 (q28q F x1 x2).bind fun r3 =>
 (cmp_Compare_int p0 p1).bind fun r4 =>
 (cmp_Or_int F [r3,r4]).bind fun r5 =>
 some r5
def q98q (F:Nat) (p0:List Gq10) (p1:List Int) (l8:List Int) (rec2:Int→(List q0q)→Option (List q0q)) (n9:Int) (l10:List q0q):Option (List q0q) :=
 if (decide (n9<(l8.length:Int)))=true then
  (idx l8 n9).bind fun x12 =>
  (if (decide ((i64 ((l10.length:Int) - 1))<0))=true then some true else (idx l10 (i64 ((l10.length:Int) - 1))).bind fun x16=>(idx p0 x16.first).bind fun x17=>(idx p0 x12).bind fun x18=>(q28q F x17 x18).bind fun r19=>some (r19 != 0)).bind fun w14 =>
  if w14=true then
   (app l10 [(q0q.mk x12 false)]).bind fun v21 =>
   rec2 (i64 (n9+1)) v21
  else
  (idx l10 (i64 ((l10.length:Int) - 1))).bind fun x22 =>
  ((idx p0 x22.first).bind fun x25=>(idx p0 x12).bind fun x26=>if (!(decide (x25=x26)))=true then some true else (idx p1 x22.first).bind fun x28=>(idx p1 x12).bind fun x29=>some (x28 != x29)).bind fun w24 =>
  if w24=true then
   (idx l10 (i64 ((l10.length:Int) - 1))).bind fun x31 =>
   rec2 (i64 (n9+1)) (l10.set ((i64 ((l10.length:Int) - 1)).toNat) (q0q.mk x31.first true))
  else
  rec2 (i64 (n9+1)) l10
 else
 some l10
def q84q (F:Nat) (p0:List Gq10) (p1:List Int) (l8:List Int):Nat→Int→(List q0q)→Option (List q0q)
 | 0=>fun _ _=>.none
 | n+1=>q98q F p0 p1 l8 (q84q F p0 p1 l8 n)
def q97q (F:Nat) (p0:List Gq10) (p1:List Int) (rec1:Int→(List Int)→Option (List q0q)) (n1:Int) (l2:List Int):Option (List q0q) :=
 if (decide (n1<(p0.length:Int)))=true then
  (idx p0 n1).bind fun x4 =>
  (q159q x4).bind fun r5 =>
  if r5=true then
   (app l2 [n1]).bind fun v7 =>
   rec1 (i64 (n1+1)) v7
  else
  rec1 (i64 (n1+1)) l2
 else
 (sortF (fun a0 a1=>q105q F a0 a1 p0) l2).bind fun l8 =>
 q84q F p0 p1 l8 F 0 ([]:List q0q)
def q83q (F:Nat) (p0:List Gq10) (p1:List Int):Nat→Int→(List Int)→Option (List q0q)
 | 0=>fun _ _=>.none
 | n+1=>q97q F p0 p1 (q83q F p0 p1 n)
def q156q (F:Nat) (p0:List Gq10) (p1:List Int):Option (List q0q) :=
 q83q F p0 p1 F 0 ([]:List Int)
def q136q (F:Nat) (p0:Gq10) (p1:Gq10):Option Int :=
 (cmp_Compare_int p0.Time p1.Time).bind fun r1 =>
 (cmp_Compare_int p0.Source p1.Source).bind fun r2 =>
 (cmp_Compare_int p0.Seq p1.Seq).bind fun r3 =>
 (cmp_Or_int F [r1,r2,r3]).bind fun r4 =>
 some r4
def q46q (F:Nat) (p0:Int) (p1:Int) (c0:List Gq10):Option Int :=
 (idx c0 p0).bind fun x1 =>
 (idx c0 p1).bind fun x2 =>
 (q136q F x1 x2).bind fun r3 =>
 some r3
def q45q (F:Nat) (p0:List Gq10) (r2:List q0q) (rec1:Int→(List Int)→Option (List Int × Int)) (n3:Int) (l4:List Int):Option (List Int × Int) :=
 if (decide (n3<(r2.length:Int)))=true then
  (idx r2 n3).bind fun x6 =>
  if (!x6.disputed)=true then
   (app l4 [x6.first]).bind fun v8 =>
   rec1 (i64 (n3+1)) v8
  else
  rec1 (i64 (n3+1)) l4
 else
 if (decide ((l4.length:Int) > 300))=true then
  some ([],3)
 else
 (sortF (fun a0 a1=>q46q F a0 a1 p0) l4).bind fun l10 =>
 some (l10,0)
def q39q (F:Nat) (p0:List Gq10) (r2:List q0q):Nat→Int→(List Int)→Option (List Int × Int)
 | 0=>fun _ _=>.none
 | n+1=>q45q F p0 r2 (q39q F p0 r2 n)
def q82q (F:Nat) (p0:List Gq10) (p1:List Int):Option (List Int × Int) :=
 if ((p0.length:Int) != (p1.length:Int))=true then
  some ([],1)
 else
 (q156q F p0 p1).bind fun r2 =>
 q39q F p0 r2 F 0 ([]:List Int)
def q22q (F:Nat) (p0:List Gq5) (p1:(Gq5→Option Gq10)) (p2:(Gq5→Gq5→Option Bool)):Option (List Int × Int) :=
 (q34q F p0 p1 p2).bind fun r1 =>
 (q82q F r1.1 r1.2).bind fun r2 =>
 some (r2.1,r2.2)
def q126q (p0:Gq5):Option Gq10 :=
 some p0.Stamp
def q164q (p0:Gq5) (p1:Gq5):Option Bool :=
 some (decide (p0=p1))
def q41q (p0:List Gq5) (r1:List Int × Int) (rec1:Int→(List Gq5)→Option (List Gq5 × Int)) (n4:Int) (l5:List Gq5):Option (List Gq5 × Int) :=
 if (decide (n4<(r1.1.length:Int)))=true then
  (idx r1.1 n4).bind fun x7 =>
  (idx p0 x7).bind fun x8 =>
  (idx l5 n4).bind fun x9 =>
  rec1 (i64 (n4+1)) (l5.set n4.toNat x8)
 else
 some (l5,0)
def q29q (p0:List Gq5) (r1:List Int × Int):Nat→Int→(List Gq5)→Option (List Gq5 × Int)
 | 0=>fun _ _=>.none
 | n+1=>q41q p0 r1 (q29q p0 r1 n)
def q124q (F:Nat) (p0:List Gq5):Option (List Gq5 × Int) :=
 (q22q F p0 (fun a0=>q126q a0) (fun a0 a1=>q164q a0 a1)).bind fun r1 =>
 if (r1.2 != 0)=true then
  some ([],r1.2)
 else
 (mkl ((Gq5.mk (Gq10.mk 0 0 0) 0 (Gq4.mk 0 0 0) 0):Gq5) (r1.1.length:Int)).bind fun v3 =>
 q29q p0 r1 F 0 v3
def q104q (p0:Int):Option Bool :=
 some ((decide (p0 ≥ 1)) && (decide (p0≤99)))
def q52q (p0:Gq4):Option Bool :=
 (if (decide (p0.Candidate ≥ 0))=true then if (decide (p0.Candidate≤9999))=true then (q104q p0.Centre).bind fun r5=>if r5=true then if (decide (p0.Paper ≥ 0))=true then some (decide (p0.Paper≤31)) else some false else some false else some false else some false).bind fun w2 =>
 some w2
def q48q (p0:Gq5) (b1:Bool):Option Bool :=
 if b1=true then
  (q52q p0.Entry).bind fun r3 =>
  some r3
 else
 if (p0.Kind == 3)=true then
  ((q52q p0.Entry).bind fun r7=>if r7=true then (q104q p0.To).bind fun r9=>if r9=true then some (p0.To != p0.Entry.Centre) else some false else some false).bind fun w6 =>
  some w6
 else
 some false
def q113q (p0:Gq5):Option Bool :=
 if (p0.Kind == 1)=true then
  q48q p0 (p0.Kind == 1)
 else
 q48q p0 (p0.Kind == 2)
def q3q (p0:List Gq3) (p1:Gq4) (p2:(Gq3→Gq4→Option Int)) (rec1:Int→Int→Option (Int × Bool)) (n1:Int) (n2:Int):Option (Int × Bool) :=
 if (decide (n1<n2))=true then
  (idx p0 (i64 (shrI .u64 (IntKind.u64.wrap (i64 (n1+n2))) 1))).bind fun x4 =>
  (p2 x4 p1).bind fun r5 =>
  if (decide (r5<0))=true then
   rec1 (i64 ((i64 (shrI .u64 (IntKind.u64.wrap (i64 (n1+n2))) 1))+1)) n2
  else
  rec1 n1 (i64 (shrI .u64 (IntKind.u64.wrap (i64 (n1+n2))) 1))
 else
 (if (decide (n1<(p0.length:Int)))=true then (idx p0 n1).bind fun x10=>(p2 x10 p1).bind fun r11=>some (r11 == 0) else some false).bind fun w8 =>
 some (n1,w8)
def q1q (p0:List Gq3) (p1:Gq4) (p2:(Gq3→Gq4→Option Int)):Nat→Int→Int→Option (Int × Bool)
 | 0=>fun _ _=>.none
 | n+1=>q3q p0 p1 p2 (q1q p0 p1 p2 n)
def q2q (F:Nat) (p0:List Gq3) (p1:Gq4) (p2:(Gq3→Gq4→Option Int)):Option (Int × Bool) :=
 q1q p0 p1 p2 F 0 (p0.length:Int)
def q87q (F:Nat) (p0:Gq3) (p1:Gq4):Option Int :=
 (cmp_Compare_int p0.Entry.Candidate p1.Candidate).bind fun r1 =>
 (cmp_Compare_int p0.Entry.Paper p1.Paper).bind fun r2 =>
 (cmp_Or_int F [r1,r2]).bind fun r3 =>
 some r3
def q154q (F:Nat) (p0:List Gq3) (p1:Gq2) (p2:Gq5):Option (List Gq3 × Int) :=
 (q113q p2).bind fun r1 =>
 if (!r1)=true then
  some ([],2)
 else
 if ((p2.Stamp.Source != 0) && (p2.Stamp.Source != p2.Entry.Centre))=true then
  some ([],28)
 else
 if (decide (p2.Stamp.Time > p1.Late))=true then
  some ([],27)
 else
 (q2q F p0 p2.Entry (fun a0 a1=>q87q F a0 a1)).bind fun r7 =>
 (if r7.2=true then (idx p0 r7.1).bind fun x11=>some (x11.Entry.Centre == p2.Entry.Centre) else some false).bind fun w9 =>
 (app [] p0).bind fun v12 =>
 if (p2.Kind == 1)=true then
  if w9=true then
   some ([],5)
  else
  if r7.2=true then
   some ([],9)
  else
  if (decide ((p0.length:Int) ≥ 300))=true then
   some ([],3)
  else
  (insF v12 r7.1 (Gq3.mk p2.Entry (decide (p2.Stamp.Time > p1.Close)))).bind fun v17 =>
  some (v17,0)
 else
 if (!w9)=true then
  some ([],4)
 else
 if (p2.Kind == 2)=true then
  (delF v12 r7.1 (i64 (r7.1+1))).bind fun v20 =>
  some (v20,0)
 else
 (idx v12 r7.1).bind fun x21 =>
 some ((v12.set r7.1.toNat (Gq3.mk (Gq4.mk x21.Entry.Candidate p2.To x21.Entry.Paper) x21.Late)),0)
def q125q (F:Nat) (p1:Gq2) (p2:Int) (r3:List Gq5 × Int) (rec1:(List Gq3)→Int→(List Gq9)→Option (List Gq3 × List Gq9 × Int)) (l5:List Gq3) (n6:Int) (l7:List Gq9):Option (List Gq3 × List Gq9 × Int) :=
 if (decide (n6<(r3.1.length:Int)))=true then
  (idx r3.1 n6).bind fun x9 =>
  if (decide (x9.Stamp.Time > p2))=true then
   some (l5,l7,0)
  else
  (q154q F l5 p1 x9).bind fun r11 =>
  if (r11.2 != 0)=true then
   (app l7 [(Gq9.mk (Gq7.mk x9.Stamp.Source x9.Stamp.Seq) r11.2)]).bind fun v13 =>
   rec1 l5 (i64 (n6+1)) v13
  else
  rec1 r11.1 (i64 (n6+1)) l7
 else
 some (l5,l7,0)
def q86q (F:Nat) (p1:Gq2) (p2:Int) (r3:List Gq5 × Int):Nat→(List Gq3)→Int→(List Gq9)→Option (List Gq3 × List Gq9 × Int)
 | 0=>fun _ _ _=>.none
 | n+1=>q125q F p1 p2 r3 (q86q F p1 p2 r3 n)
def q144q (F:Nat) (p0:List Gq5) (p1:Gq2) (p2:Int):Option (List Gq3 × List Gq9 × Int) :=
 (q99q p1).bind fun r1 =>
 if (!r1)=true then
  some ([],[],1)
 else
 (q124q F p0).bind fun r3 =>
 if (r3.2 != 0)=true then
  some ([],[],r3.2)
 else
 q86q F p1 p2 r3 F ([]:List Gq3) 0 ([]:List Gq9)
def q112q (p0:List Gq3) (p1:Int) (rec1:Int→(List Gq3)→Option (List Gq3)) (n1:Int) (l2:List Gq3):Option (List Gq3) :=
 if (decide (n1<(p0.length:Int)))=true then
  (idx p0 n1).bind fun x4 =>
  if (x4.Entry.Paper == p1)=true then
   (app l2 [x4]).bind fun v6 =>
   rec1 (i64 (n1+1)) v6
  else
  rec1 (i64 (n1+1)) l2
 else
 some l2
def q131q (p0:List Gq3) (p1:Int):Nat→Int→(List Gq3)→Option (List Gq3)
 | 0=>fun _ _=>.none
 | n+1=>q112q p0 p1 (q131q p0 p1 n)
def q148q (F:Nat) (p0:List Gq3) (p1:Int):Option (List Gq3) :=
 q131q p0 p1 F 0 ([]:List Gq3)
def q12q (p0:Int):Option Bool :=
 some ((decide (p0 ≥ 1)) && (decide (p0≤9)))
def q111q (p0:Gq0):Option Bool :=
 some ((decide (p0.Extra ≥ 0)) && ((decide (p0.Extra≤100)) && ((decide (p0.Needs ≥ 0)) && (decide (p0.Needs≤63)))))
def q92q (p0:List Gq1) (rec1:Int→Option Int) (n2:Int):Option Int :=
 if (decide (n2<(p0.length:Int)))=true then
  (idx p0 n2).bind fun x4 =>
  ((q12q x4.Kind).bind fun r7=>if (!r7)=true then some true else (q12q x4.Least).bind fun r9=>if (!r9)=true then some true else (q111q (Gq0.mk x4.Extra x4.Needs)).bind fun r11=>some (!r11)).bind fun w6 =>
  if w6=true then
   some 2
  else
  rec1 (i64 (n2+1))
 else
 some 0
def q80q (p0:List Gq1):Nat→Int→Option Int
 | 0=>fun _=>.none
 | n+1=>q92q p0 (q80q p0 n)
def q130q (F:Nat) (p0:List Gq1):Option Int :=
 if (decide ((p0.length:Int) > 12))=true then
  some 3
 else
 q80q p0 F 0
def q26q (p0:Gq1) (p1:List Gq6) (p2:Int) (p3:Int) (rec1:Int→Option Bool) (n1:Int):Option Bool :=
 if (decide (n1<(p1.length:Int)))=true then
  (idx p1 n1).bind fun x3 =>
  (if (x3.Candidate != p2)=true then some true else (q12q x3.Kind).bind fun r7=>if (!r7)=true then some true else (q12q x3.Level).bind fun r9=>if (!r9)=true then some true else if (decide (x3.From > p3))=true then some true else some (decide (p3 > x3.Until))).bind fun w5 =>
  if w5=true then
   rec1 (i64 (n1+1))
  else
  if ((x3.Kind == p0.Kind) && (decide (x3.Level ≥ p0.Least)))=true then
   some true
  else
  rec1 (i64 (n1+1))
 else
 some false
def q25q (p0:Gq1) (p1:List Gq6) (p2:Int) (p3:Int):Nat→Int→Option Bool
 | 0=>fun _=>.none
 | n+1=>q26q p0 p1 p2 p3 (q25q p0 p1 p2 p3 n)
def q103q (F:Nat) (p0:Gq1) (p1:List Gq6) (p2:Int) (p3:Int):Option Bool :=
 q25q p0 p1 p2 p3 F 0
def q18q (F:Nat) (p0:List Gq1) (p1:List Gq6) (p2:Int) (p3:Int) (rec1:Int→(List Int)→Option (List Int)) (n3:Int) (l4:List Int):Option (List Int) :=
 if (decide (n3<(p0.length:Int)))=true then
  (idx p0 n3).bind fun x6 =>
  (q103q F x6 p1 p2 p3).bind fun r7 =>
  if r7=true then
   (app l4 [n3]).bind fun v9 =>
   rec1 (i64 (n3+1)) v9
  else
  rec1 (i64 (n3+1)) l4
 else
 some l4
def q19q (F:Nat) (p0:List Gq1) (p1:List Gq6) (p2:Int) (p3:Int):Nat→Int→(List Int)→Option (List Int)
 | 0=>fun _ _=>.none
 | n+1=>q18q F p0 p1 p2 p3 (q19q F p0 p1 p2 p3 n)
def q102q (F:Nat) (p0:List Gq1) (p1:List Gq6) (p2:Int) (p3:Int):Option (List Int) :=
 (q130q F p0).bind fun r1 =>
 if (r1 != 0)=true then
  some []
 else
 q19q F p0 p1 p2 p3 F 0 ([]:List Int)
def q63q (p0:List Gq0) (rec1:Int→Int→Int→Option Gq0) (n1:Int) (n2:Int) (n3:Int):Option Gq0 :=
 if (decide (n1<(p0.length:Int)))=true then
  (idx p0 n1).bind fun x5 =>
  rec1 (i64 (n1+1)) (max n2 x5.Extra) (orI .i64 n3 x5.Needs)
 else
 some (Gq0.mk n2 n3)
def q110q (p0:List Gq0):Nat→Int→Int→Int→Option Gq0
 | 0=>fun _ _ _=>.none
 | n+1=>q63q p0 (q110q p0 n)
def q149q (F:Nat) (p0:List Gq0):Option Gq0 :=
 q110q p0 F 0 0 0
def q141q (p0:Gq0):Option Gq0 :=
 (q111q p0).bind fun r1 =>
 if (!r1)=true then
  some (Gq0.mk 0 0)
 else
 if (((andI .i64 p0.Needs 24) != 0) || (decide (p0.Extra > 25)))=true then
  some (Gq0.mk p0.Extra (orI .i64 p0.Needs 1))
 else
 some p0
def q93q (F:Nat) (p0:List Gq1) (r3:List Int) (rec1:Int→(List Gq0)→Option (Gq0 × Int)) (n4:Int) (l5:List Gq0):Option (Gq0 × Int) :=
 if (decide (n4<(r3.length:Int)))=true then
  (idx r3 n4).bind fun x7 =>
  (idx p0 x7).bind fun x8 =>
  (idx p0 x7).bind fun x9 =>
  (app l5 [(Gq0.mk x8.Extra x9.Needs)]).bind fun v10 =>
  rec1 (i64 (n4+1)) v10
 else
 (q149q F l5).bind fun r11 =>
 (q141q r11).bind fun r12 =>
 some (r12,0)
def q122q (F:Nat) (p0:List Gq1) (r3:List Int):Nat→Int→(List Gq0)→Option (Gq0 × Int)
 | 0=>fun _ _=>.none
 | n+1=>q93q F p0 r3 (q122q F p0 r3 n)
def q20q (F:Nat) (p0:List Gq1) (p1:List Gq6) (p2:Int) (p3:Int):Option (Gq0 × Int) :=
 (q130q F p0).bind fun r1 =>
 if (r1 != 0)=true then
  some ((Gq0.mk 0 0),r1)
 else
 (q102q F p0 p1 p2 p3).bind fun r3 =>
 q122q F p0 r3 F 0 ([]:List Gq0)
def q27q (p0:Int):Option Bool :=
 some ((decide (p0 ≥ 2)) && (decide (p0≤4)))
def q60q (p0:Int):Option Bool :=
 some ((decide (p0 ≥ 1)) && (decide (p0≤8)))
def q23q (p0:Int):Option Bool :=
 some ((decide (p0 ≥ 0)) && (decide (p0≤63)))
def q38q (p0:GRoom):Option Int :=
 some (i64 (p0.Rows * p0.Cols))
def q67q (p1:List GNeed) (rec4:Int→Option Int) (n34:Int):Option Int :=
 if (decide (n34<(p1.length:Int)))=true then
  (idx p1 (i64 (n34 - 1))).bind fun x36 =>
  (idx p1 n34).bind fun x37 =>
  if (decide (x36.Candidate ≥ x37.Candidate))=true then
   some 5
  else
  rec4 (i64 (n34+1))
 else
 some 0
def q56q (p1:List GNeed):Nat→Int→Option Int
 | 0=>fun _=>.none
 | n+1=>q67q p1 (q56q p1 n)
def q66q (F:Nat) (p0:List GRoom) (p1:List GNeed) (rec3:Int→Option Int) (n26:Int):Option Int :=
 if (decide (n26<(p0.length:Int)))=true then
  (idx p0 n26).bind fun x28 =>
  (if ((andI .i64 x28.Offers 1) != 0)=true then (q38q x28).bind fun r32=>some (r32 != 1) else some false).bind fun w30 =>
  if w30=true then
   some 9
  else
  rec3 (i64 (n26+1))
 else
 q56q p1 F 1
def q55q (F:Nat) (p0:List GRoom) (p1:List GNeed):Nat→Int→Option Int
 | 0=>fun _=>.none
 | n+1=>q66q F p0 p1 (q55q F p0 p1 n)
def q65q (F:Nat) (p0:List GRoom) (p1:List GNeed) (rec2:Int→Option Int) (n17:Int):Option Int :=
 if (decide (n17<(p1.length:Int)))=true then
  (idx p1 n17).bind fun x19 =>
  (if (decide (x19.Candidate<0))=true then some true else if (decide (x19.Candidate > 9999))=true then some true else (q23q x19.Needs).bind fun r24=>some (!r24)).bind fun w21 =>
  if w21=true then
   some 2
  else
  rec2 (i64 (n17+1))
 else
 q55q F p0 p1 F 0
def q54q (F:Nat) (p0:List GRoom) (p1:List GNeed):Nat→Int→Option Int
 | 0=>fun _=>.none
 | n+1=>q65q F p0 p1 (q54q F p0 p1 n)
def q64q (F:Nat) (p0:List GRoom) (p1:List GNeed) (rec1:Int→Option Int) (n6:Int):Option Int :=
 if (decide (n6<(p0.length:Int)))=true then
  (idx p0 n6).bind fun x8 =>
  ((q60q x8.Rows).bind fun r11=>if (!r11)=true then some true else (q60q x8.Cols).bind fun r13=>if (!r13)=true then some true else (q23q x8.Offers).bind fun r15=>some (!r15)).bind fun w10 =>
  if w10=true then
   some 2
  else
  rec1 (i64 (n6+1))
 else
 q54q F p0 p1 F 0
def q53q (F:Nat) (p0:List GRoom) (p1:List GNeed):Nat→Int→Option Int
 | 0=>fun _=>.none
 | n+1=>q64q F p0 p1 (q53q F p0 p1 n)
def q88q (F:Nat) (p0:List GRoom) (p1:List GNeed) (p2:Int):Option Int :=
 if ((decide ((p0.length:Int) > 8)) || (decide ((p1.length:Int) > 60)))=true then
  some 3
 else
 (q27q p2).bind fun r4 =>
 if (!r4)=true then
  some 2
 else
 q53q F p0 p1 F 0
def q30q (p0:GRoom) (p1:GNeed):Option Bool :=
 some ((annI .i64 p1.Needs p0.Offers) == 0)
def q43q (rec1:Int→(List Bool)→(List (List Int))→(List Int)→Option (Bool × List Bool × List (List Int) × List Int)) (self:Int→(List GRoom)→(List Bool)→(List GNeed)→(List (List Int))→(List Int)→Option (Bool × List Bool × List (List Int) × List Int)) (p0:Int) (c0:List GRoom) (c2:List GNeed) (n1:Int) (x22:List Int) (rec2:Int→(List Bool)→(List (List Int))→(List Int)→Option (Bool × List Bool × List (List Int) × List Int)) (n23:Int) (l24:List Bool) (l25:List (List Int)) (l26:List Int):Option (Bool × List Bool × List (List Int) × List Int) :=
 if (decide (n23<(x22.length:Int)))=true then
  (idx l25 n1).bind fun x28 =>
  (idx x28 n23).bind fun x29 =>
  (self x29 c0 l24 c2 l25 l26).bind fun r30 =>
  if r30.1=true then
   (idx r30.2.2.1 n1).bind fun x32 =>
   (idx x32 n23).bind fun x33 =>
   (idx r30.2.2.2 p0).bind fun x34 =>
   some (true,r30.2.1,(r30.2.2.1.set (n1).toNat (x32.set n23.toNat p0)),(r30.2.2.2.set p0.toNat n1))
  else
  rec2 (i64 (n23+1)) r30.2.1 r30.2.2.1 r30.2.2.2
 else
 rec1 (i64 (n1+1)) l24 l25 l26
def q69q (rec1:Int→(List Bool)→(List (List Int))→(List Int)→Option (Bool × List Bool × List (List Int) × List Int)) (self:Int→(List GRoom)→(List Bool)→(List GNeed)→(List (List Int))→(List Int)→Option (Bool × List Bool × List (List Int) × List Int)) (p0:Int) (c0:List GRoom) (c2:List GNeed) (n1:Int) (x22:List Int):Nat→Int→(List Bool)→(List (List Int))→(List Int)→Option (Bool × List Bool × List (List Int) × List Int)
 | 0=>fun _ _ _ _=>.none
 | n+1=>q43q rec1 self p0 c0 c2 n1 x22 (q69q rec1 self p0 c0 c2 n1 x22 n)
def q42q (F:Nat) (self:Int→(List GRoom)→(List Bool)→(List GNeed)→(List (List Int))→(List Int)→Option (Bool × List Bool × List (List Int) × List Int)) (p0:Int) (c0:List GRoom) (c2:List GNeed) (rec1:Int→(List Bool)→(List (List Int))→(List Int)→Option (Bool × List Bool × List (List Int) × List Int)) (n1:Int) (l2:List Bool) (l3:List (List Int)) (l4:List Int):Option (Bool × List Bool × List (List Int) × List Int) :=
 if (decide (n1<(c0.length:Int)))=true then
  ((idx l2 n1).bind fun x8=>if x8=true then some true else (idx c0 n1).bind fun x10=>(idx c2 p0).bind fun x11=>(q30q x10 x11).bind fun r12=>some (!r12)).bind fun w7 =>
  if w7=true then
   rec1 (i64 (n1+1)) l2 l3 l4
  else
  (idx l2 n1).bind fun x14 =>
  (idx l3 n1).bind fun x15 =>
  (idx c0 n1).bind fun x16 =>
  (q38q x16).bind fun r17 =>
  if (decide ((x15.length:Int)<r17))=true then
   (idx l3 n1).bind fun x19 =>
   (app x19 [p0]).bind fun v20 =>
   (idx l4 p0).bind fun x21 =>
   some (true,(l2.set n1.toNat true),(l3.set (n1).toNat v20),(l4.set p0.toNat n1))
  else
  (idx l3 n1).bind fun x22 =>
  q69q rec1 self p0 c0 c2 n1 x22 F 0 (l2.set n1.toNat true) l3 l4
 else
 some (false,l2,l3,l4)
def q68q (F:Nat) (self:Int→(List GRoom)→(List Bool)→(List GNeed)→(List (List Int))→(List Int)→Option (Bool × List Bool × List (List Int) × List Int)) (p0:Int) (c0:List GRoom) (c2:List GNeed):Nat→Int→(List Bool)→(List (List Int))→(List Int)→Option (Bool × List Bool × List (List Int) × List Int)
 | 0=>fun _ _ _ _=>.none
 | n+1=>q42q F self p0 c0 c2 (q68q F self p0 c0 c2 n)
def q15q:Nat→Int→(List GRoom)→(List Bool)→(List GNeed)→(List (List Int))→(List Int)→Option (Bool × List Bool × List (List Int) × List Int)
 | 0,_,_,_,_,_,_=>.none
 | F+1,p0,c0,c1,c2,c3,c4 =>
  q68q F (q15q F) p0 c0 c2 F 0 c1 c3 c4
def q81q (p0:Int) (p1:Int) (p2:Int):Option Int :=
 ((q27q p2).bind fun r3=>if (!r3)=true then some true else if (decide (p0<0))=true then some true else if (decide (p0 ≥ 8))=true then some true else if (decide (p1<0))=true then some true else some (decide (p1 ≥ 8))).bind fun w2 =>
 if w2=true then
  some 0
 else
 if (p2 == 2)=true then
  (rmd (i64 (p0+p1)) p2).bind fun v10 =>
  some v10
 else
 (rmd (i64 (p0+(i64 (2 * p1)))) p2).bind fun v11 =>
 some v11
def q51q (p0:List GRoom) (p1:List GNeed) (p2:Int) (p3:List Int) (rec3:Int→(List Int)→(List Gq8)→Option (List Gq8 × Int)) (n19:Int) (l20:List Int) (l21:List Gq8):Option (List Gq8 × Int) :=
 if (decide (n19<(p3.length:Int)))=true then
  (idx p3 n19).bind fun x23 =>
  (idx l20 x23).bind fun x24 =>
  (idx p0 x23).bind fun x25 =>
  (q38q x25).bind fun r26 =>
  if (x24 == r26)=true then
   some ([],3)
  else
  (idx l20 x23).bind fun x28 =>
  (idx p0 x23).bind fun x29 =>
  (quo .i64 x28 x29.Cols).bind fun v30 =>
  (idx l20 x23).bind fun x31 =>
  (idx p0 x23).bind fun x32 =>
  (rmd x31 x32.Cols).bind fun v33 =>
  (idx l20 x23).bind fun x34 =>
  (idx l20 x23).bind fun x35 =>
  (idx p1 n19).bind fun x36 =>
  (q81q v30 v33 p2).bind fun r37 =>
  (idx l21 n19).bind fun x38 =>
  rec3 (i64 (n19+1)) (l20.set x23.toNat (i64 (x34+1))) (l21.set n19.toNat (Gq8.mk x36.Candidate (GSeat.mk x23 v30 v33) r37))
 else
 some (l21,0)
def q96q (p0:List GRoom) (p1:List GNeed) (p2:Int) (p3:List Int):Nat→Int→(List Int)→(List Gq8)→Option (List Gq8 × Int)
 | 0=>fun _ _ _=>.none
 | n+1=>q51q p0 p1 p2 p3 (q96q p0 p1 p2 p3 n)
def q50q (F:Nat) (p0:List GRoom) (p1:List GNeed) (p2:Int) (p3:List Int) (rec2:Int→Option (List Gq8 × Int)) (n10:Int):Option (List Gq8 × Int) :=
 if (decide (n10<(p3.length:Int)))=true then
  (idx p3 n10).bind fun x12 =>
  (idx p0 x12).bind fun x13 =>
  (idx p1 n10).bind fun x14 =>
  (q30q x13 x14).bind fun r15 =>
  if (!r15)=true then
   some ([],9)
  else
  rec2 (i64 (n10+1))
 else
 (mkl (0:Int) (p0.length:Int)).bind fun v17 =>
 (mkl ((Gq8.mk 0 (GSeat.mk 0 0 0) 0):Gq8) (p1.length:Int)).bind fun v18 =>
 q96q p0 p1 p2 p3 F 0 v17 v18
def q95q (F:Nat) (p0:List GRoom) (p1:List GNeed) (p2:Int) (p3:List Int):Nat→Int→Option (List Gq8 × Int)
 | 0=>fun _=>.none
 | n+1=>q50q F p0 p1 p2 p3 (q95q F p0 p1 p2 p3 n)
def q49q (F:Nat) (p0:List GRoom) (p1:List GNeed) (p2:Int) (p3:List Int) (rec1:Int→Option (List Gq8 × Int)) (n4:Int):Option (List Gq8 × Int) :=
 if (decide (n4<(p3.length:Int)))=true then
  (idx p3 n4).bind fun x6 =>
  if ((decide (x6<0)) || (decide (x6 ≥ (p0.length:Int))))=true then
   some ([],2)
  else
  rec1 (i64 (n4+1))
 else
 q95q F p0 p1 p2 p3 F 0
def q94q (F:Nat) (p0:List GRoom) (p1:List GNeed) (p2:Int) (p3:List Int):Nat→Int→Option (List Gq8 × Int)
 | 0=>fun _=>.none
 | n+1=>q49q F p0 p1 p2 p3 (q94q F p0 p1 p2 p3 n)
def q132q (F:Nat) (p0:List GRoom) (p1:List GNeed) (p2:Int) (p3:List Int):Option (List Gq8 × Int) :=
 (q88q F p0 p1 p2).bind fun r1 =>
 if (r1 != 0)=true then
  some ([],r1)
 else
 if ((p3.length:Int) != (p1.length:Int))=true then
  some ([],1)
 else
 q94q F p0 p1 p2 p3 F 0
def q71q (p0:List GRoom) (r11:Bool × List Bool × List (List Int) × List Int) (rec2:Int→(List Int)→Option (List Gq8 × List Int × Int)) (n14:Int) (l15:List Int):Option (List Gq8 × List Int × Int) :=
 if (decide (n14<(p0.length:Int)))=true then
  (idx r11.2.1 n14).bind fun x17 =>
  if x17=true then
   (idx r11.2.2.1 n14).bind fun x19 =>
   (app l15 x19).bind fun v20 =>
   rec2 (i64 (n14+1)) v20
  else
  rec2 (i64 (n14+1)) l15
 else
 (sortS l15).bind fun l21 =>
 some ([],l21,10)
def q57q (p0:List GRoom) (r11:Bool × List Bool × List (List Int) × List Int):Nat→Int→(List Int)→Option (List Gq8 × List Int × Int)
 | 0=>fun _ _=>.none
 | n+1=>q71q p0 r11 (q57q p0 r11 n)
def q70q (F:Nat) (p0:List GRoom) (p1:List GNeed) (p2:Int) (rec1:Int→(List Bool)→(List (List Int))→(List Int)→Option (List Gq8 × List Int × Int)) (n5:Int) (l6:List Bool) (l7:List (List Int)) (l8:List Int):Option (List Gq8 × List Int × Int) :=
 if (decide (n5<(p1.length:Int)))=true then
  (mkl (false:Bool) (p0.length:Int)).bind fun v10 =>
  (q15q F n5 p0 v10 p1 l7 l8).bind fun r11 =>
  if r11.1=true then
   rec1 (i64 (n5+1)) r11.2.1 r11.2.2.1 r11.2.2.2
  else
  (app [] [n5]).bind fun v13 =>
  q57q p0 r11 F 0 v13
 else
 (q132q F p0 p1 p2 l8).bind fun r22 =>
 some (r22.1,[],r22.2)
def q114q (F:Nat) (p0:List GRoom) (p1:List GNeed) (p2:Int):Nat→Int→(List Bool)→(List (List Int))→(List Int)→Option (List Gq8 × List Int × Int)
 | 0=>fun _ _ _ _=>.none
 | n+1=>q70q F p0 p1 p2 (q114q F p0 p1 p2 n)
def q120q (F:Nat) (p0:List GRoom) (p1:List GNeed) (p2:Int):Option (List Gq8 × List Int × Int) :=
 (q88q F p0 p1 p2).bind fun r1 =>
 if (r1 != 0)=true then
  some ([],[],r1)
 else
 (repF (-1) (p1.length:Int)).bind fun l3 =>
 (mkl ([]:List Int) (p0.length:Int)).bind fun v4 =>
 q114q F p0 p1 p2 F 0 ([]:List Bool) v4 l3
def q73q (p0:List Int) (p1:Int) (rec1:Int→Option Bool) (n1:Int):Option Bool :=
 if (decide (n1<(p0.length:Int)))=true then
  (idx p0 n1).bind fun x3 =>
  (if (decide (x3<0))=true then some true else if (decide (x3 ≥ p1))=true then some true else if (decide (n1 > 0))=true then (idx p0 (i64 (n1 - 1))).bind fun x9=>some (decide (x9 ≥ x3)) else some false).bind fun w5 =>
  if w5=true then
   some false
  else
  rec1 (i64 (n1+1))
 else
 some true
def q59q (p0:List Int) (p1:Int):Nat→Int→Option Bool
 | 0=>fun _=>.none
 | n+1=>q73q p0 p1 (q59q p0 p1 n)
def q150q (F:Nat) (p0:List Int) (p1:Int):Option Bool :=
 q59q p0 p1 F 0
def q35q (p0:Int) (c0:GRoom) (c1:List GNeed):Option Bool :=
 (idx c1 p0).bind fun x1 =>
 (q30q c0 x1).bind fun r2 =>
 some r2
def q17q (p0:List Int) (p1:(Int→Option Bool)) (rec1:Int→Option Int) (n1:Int):Option Int :=
 if (decide (n1<(p0.length:Int)))=true then
  (idx p0 n1).bind fun x3 =>
  (p1 x3).bind fun r4 =>
  if r4=true then
   some n1
  else
  rec1 (i64 (n1+1))
 else
 some (-1)
def q14q (p0:List Int) (p1:(Int→Option Bool)):Nat→Int→Option Int
 | 0=>fun _=>.none
 | n+1=>q17q p0 p1 (q14q p0 p1 n)
def q44q (F:Nat) (p0:List Int) (p1:(Int→Option Bool)):Option Int :=
 q14q p0 p1 F 0
def q24q (F:Nat) (p0:List Int) (p1:(Int→Option Bool)):Option Bool :=
 (q44q F p0 p1).bind fun r1 =>
 some (decide (r1 ≥ 0))
def q72q (F:Nat) (p0:List GRoom) (p1:List GNeed) (p2:List Int) (rec1:Int→Int→Option Bool) (n7:Int) (n8:Int):Option Bool :=
 if (decide (n8<(p0.length:Int)))=true then
  (idx p0 n8).bind fun x10 =>
  (q24q F p2 (fun a0=>q35q a0 x10 p1)).bind fun r11 =>
  if r11=true then
   (q38q x10).bind fun r13 =>
   rec1 (i64 (n7+r13)) (i64 (n8+1))
  else
  rec1 n7 (i64 (n8+1))
 else
 some (decide (n7<(p2.length:Int)))
def q58q (F:Nat) (p0:List GRoom) (p1:List GNeed) (p2:List Int):Nat→Int→Int→Option Bool
 | 0=>fun _ _=>.none
 | n+1=>q72q F p0 p1 p2 (q58q F p0 p1 p2 n)
def q135q (F:Nat) (p0:List GRoom) (p1:List GNeed) (p2:List Int):Option Bool :=
 ((q88q F p0 p1 2).bind fun r3=>if (r3 != 0)=true then some true else (q150q F p2 (p1.length:Int)).bind fun r5=>some (!r5)).bind fun w2 =>
 if w2=true then
  some false
 else
 q58q F p0 p1 p2 F 0 0
def q140q (F:Nat):Option Bool :=
 (q144q F [(Gq5.mk (Gq10.mk 0 0 1) 1 (Gq4.mk 4 2 0) 0),(Gq5.mk (Gq10.mk 0 0 0) 1 (Gq4.mk 1 2 0) 0)] (Gq2.mk 5 5) 5).bind fun r1 =>
 (if (r1.2.2 != 0)=true then some true else if ((r1.1.length:Int) != 2)=true then some true else (idx r1.1 0).bind fun x6=>some (!(decide (x6.Entry=(Gq4.mk 1 2 0))))).bind fun w3 =>
 if w3=true then
  some false
 else
 (q120q F [(GRoom.mk 1 2 0)] [(GNeed.mk 1 0),(GNeed.mk 4 0)] 2).bind fun r8 =>
 (if (r8.2.2 == 0)=true then if ((r8.1.length:Int) == 2)=true then (idx r8.1 0).bind fun x13=>(idx r8.1 1).bind fun x14=>some (x13.Variant != x14.Variant) else some false else some false).bind fun w10 =>
 some w10
def q75q (rec1:(List Gq5)→(List Gq6)→(List GNeed)→Int→(List Int)→Int→Option Bool) (l10:List GNeed) (n11:Int) (l15:List Gq5) (l16:List Gq6) (l17:List Int) (n18:Int) (l22:List GNeed) (rec4:Int→Option Bool) (n33:Int):Option Bool :=
 if (decide (n33<(l10.length:Int)))=true then
  (idx l10 n33).bind fun x35 =>
  (idx l22 n33).bind fun x36 =>
  if (!(decide (x35=x36)))=true then
   some false
  else
  rec4 (i64 (n33+1))
 else
 rec1 l15 l16 l22 (i64 (n11+1)) l17 n18
def q116q (rec1:(List Gq5)→(List Gq6)→(List GNeed)→Int→(List Int)→Int→Option Bool) (l10:List GNeed) (n11:Int) (l15:List Gq5) (l16:List Gq6) (l17:List Int) (n18:Int) (l22:List GNeed):Nat→Int→Option Bool
 | 0=>fun _=>.none
 | n+1=>q75q rec1 l10 n11 l15 l16 l17 n18 l22 (q116q rec1 l10 n11 l15 l16 l17 n18 l22 n)
def q74q (rec1:(List Gq5)→(List Gq6)→(List GNeed)→Int→(List Int)→Int→Option Bool) (F:Nat) (r4:List Gq1 × GTape) (r7:Int) (l10:List GNeed) (n11:Int) (l15:List Gq5) (l16:List Gq6) (l17:List Int) (n18:Int) (r19:List Gq3 × List Gq9 × Int) (r20:List Gq3) (rec3:Int→(List GNeed)→Option Bool) (n21:Int) (l22:List GNeed):Option Bool :=
 if (decide (n21<(r20.length:Int)))=true then
  (idx r20 n21).bind fun x24 =>
  (q20q F r4.1 l16 x24.Entry.Candidate r7).bind fun r25 =>
  if (r25.2 != 0)=true then
   some false
  else
  (idx r20 n21).bind fun x27 =>
  (app l22 [(GNeed.mk x27.Entry.Candidate r25.1.Needs)]).bind fun v28 =>
  rec3 (i64 (n21+1)) v28
 else
 if ((r19.2.2 != 0) || ((n11 == 1) && ((l22.length:Int) != (l10.length:Int))))=true then
  some false
 else
 q116q rec1 l10 n11 l15 l16 l17 n18 l22 F 0
def q115q (rec1:(List Gq5)→(List Gq6)→(List GNeed)→Int→(List Int)→Int→Option Bool) (F:Nat) (r4:List Gq1 × GTape) (r7:Int) (l10:List GNeed) (n11:Int) (l15:List Gq5) (l16:List Gq6) (l17:List Int) (n18:Int) (r19:List Gq3 × List Gq9 × Int) (r20:List Gq3):Nat→Int→(List GNeed)→Option Bool
 | 0=>fun _ _=>.none
 | n+1=>q74q rec1 F r4 r7 l10 n11 l15 l16 l17 n18 r19 r20 (q115q rec1 F r4 r7 l10 n11 l15 l16 l17 n18 r19 r20 n)
def q61q (rec1:(List Gq5)→(List Gq6)→(List GNeed)→Int→(List Int)→Int→Option Bool) (F:Nat) (r2:Gq2 × GTape) (r4:List Gq1 × GTape) (r7:Int) (l10:List GNeed) (n11:Int) (l15:List Gq5) (l16:List Gq6) (l17:List Int) (n18:Int):Option Bool :=
 (q144q F l15 r2.1 1000000).bind fun r19 =>
 (q148q F r19.1 0).bind fun r20 =>
 q115q rec1 F r4 r7 l10 n11 l15 l16 l17 n18 r19 r20 F 0 ([]:List GNeed)
def q77q (rec1:(List Gq5)→(List Gq6)→(List GNeed)→Int→(List Int)→Int→Option Bool) (F:Nat) (r2:Gq2 × GTape) (r4:List Gq1 × GTape) (r7:Int) (l9:List Gq6) (l10:List GNeed) (n11:Int) (r40:List Int × GTape) (l42:List Gq5) (rec6:Int→(List Gq6)→Option Bool) (n47:Int) (l48:List Gq6):Option Bool :=
 if (decide (n47<(r40.1.length:Int)))=true then
  (idx r40.1 n47).bind fun x50 =>
  (idx l9 x50).bind fun x51 =>
  (app l48 [x51]).bind fun v52 =>
  rec6 (i64 (n47+1)) v52
 else
 q61q rec1 F r2 r4 r7 l10 n11 l42 l48 r40.2.L r40.2.At
def q118q (rec1:(List Gq5)→(List Gq6)→(List GNeed)→Int→(List Int)→Int→Option Bool) (F:Nat) (r2:Gq2 × GTape) (r4:List Gq1 × GTape) (r7:Int) (l9:List Gq6) (l10:List GNeed) (n11:Int) (r40:List Int × GTape) (l42:List Gq5):Nat→Int→(List Gq6)→Option Bool
 | 0=>fun _ _=>.none
 | n+1=>q77q rec1 F r2 r4 r7 l9 l10 n11 r40 l42 (q118q rec1 F r2 r4 r7 l9 l10 n11 r40 l42 n)
def q76q (rec1:(List Gq5)→(List Gq6)→(List GNeed)→Int→(List Int)→Int→Option Bool) (F:Nat) (r2:Gq2 × GTape) (r4:List Gq1 × GTape) (r7:Int) (l8:List Gq5) (l9:List Gq6) (l10:List GNeed) (n11:Int) (r39:List Int × GTape) (r40:List Int × GTape) (rec5:Int→(List Gq5)→Option Bool) (n41:Int) (l42:List Gq5):Option Bool :=
 if (decide (n41<(r39.1.length:Int)))=true then
  (idx r39.1 n41).bind fun x44 =>
  (idx l8 x44).bind fun x45 =>
  (app l42 [x45]).bind fun v46 =>
  rec5 (i64 (n41+1)) v46
 else
 q118q rec1 F r2 r4 r7 l9 l10 n11 r40 l42 F 0 ([]:List Gq6)
def q117q (rec1:(List Gq5)→(List Gq6)→(List GNeed)→Int→(List Int)→Int→Option Bool) (F:Nat) (r2:Gq2 × GTape) (r4:List Gq1 × GTape) (r7:Int) (l8:List Gq5) (l9:List Gq6) (l10:List GNeed) (n11:Int) (r39:List Int × GTape) (r40:List Int × GTape):Nat→Int→(List Gq5)→Option Bool
 | 0=>fun _ _=>.none
 | n+1=>q76q rec1 F r2 r4 r7 l8 l9 l10 n11 r39 r40 (q117q rec1 F r2 r4 r7 l8 l9 l10 n11 r39 r40 n)
def q79q (rec7:Int→Option Bool) (r53:List Gq8 × List Int × Int) (n64:Int) (x66:Gq8) (rec8:Int→Option Bool) (n77:Int):Option Bool :=
 if (decide (n77<n64))=true then
  (idx r53.1 n77).bind fun x79 =>
  (if (x66.Seat.Room == x79.Seat.Room)=true then if ((i64 ((i64 ((max x66.Seat.Row x79.Seat.Row) - (min x66.Seat.Row x79.Seat.Row)))+(i64 ((max x66.Seat.Col x79.Seat.Col) - (min x66.Seat.Col x79.Seat.Col))))) == 0)=true then some true else if ((i64 ((i64 ((max x66.Seat.Row x79.Seat.Row) - (min x66.Seat.Row x79.Seat.Row)))+(i64 ((max x66.Seat.Col x79.Seat.Col) - (min x66.Seat.Col x79.Seat.Col))))) == 1)=true then (idx r53.1 n77).bind fun x85=>some (x66.Variant == x85.Variant) else some false else some false).bind fun w81 =>
  if w81=true then
   some false
  else
  rec8 (i64 (n77+1))
 else
 rec7 (i64 (n64+1))
def q119q (rec7:Int→Option Bool) (r53:List Gq8 × List Int × Int) (n64:Int) (x66:Gq8):Nat→Int→Option Bool
 | 0=>fun _=>.none
 | n+1=>q79q rec7 r53 n64 x66 (q119q rec7 r53 n64 x66 n)
def q78q (F:Nat) (r6:List GRoom × GTape) (l10:List GNeed) (r53:List Gq8 × List Int × Int) (rec7:Int→Option Bool) (n64:Int):Option Bool :=
 if (decide (n64<(r53.1.length:Int)))=true then
  (idx r53.1 n64).bind fun x66 =>
  ((idx l10 n64).bind fun x69=>if (x66.Candidate != x69.Candidate)=true then some true else if (decide (x66.Seat.Room<0))=true then some true else if (decide (x66.Seat.Room ≥ (r6.1.length:Int)))=true then some true else (idx r6.1 x66.Seat.Room).bind fun x73=>(idx l10 n64).bind fun x74=>(q30q x73 x74).bind fun r75=>some (!r75)).bind fun w68 =>
  if w68=true then
   some false
  else
  q119q rec7 r53 n64 x66 F 0
 else
 (q140q F).bind fun r87 =>
 some r87
def q62q (F:Nat) (r6:List GRoom × GTape) (l10:List GNeed) (r53:List Gq8 × List Int × Int):Nat→Int→Option Bool
 | 0=>fun _=>.none
 | n+1=>q78q F r6 l10 r53 (q62q F r6 l10 r53 n)
def q16q (F:Nat) (r2:Gq2 × GTape) (r4:List Gq1 × GTape) (r6:List GRoom × GTape) (r7:Int) (rec1:(List Gq5)→(List Gq6)→(List GNeed)→Int→(List Int)→Int→Option Bool) (l8:List Gq5) (l9:List Gq6) (l10:List GNeed) (n11:Int) (l12:List Int) (n13:Int):Option Bool :=
 if (decide (n11<2))=true then
  if (n11 == 1)=true then
   (Gq24 F (GTape.mk l12 n13) (l8.length:Int)).bind fun r39 =>
   (Gq24 F r39.2 (l9.length:Int)).bind fun r40 =>
   q117q rec1 F r2 r4 r7 l8 l9 l10 n11 r39 r40 F 0 ([]:List Gq5)
  else
  q61q rec1 F r2 r4 r7 l10 n11 l8 l9 l12 n13
 else
 (q120q F r6.1 l10 2).bind fun r53 =>
 if (r53.2.2 == 10)=true then
  ((q135q F r6.1 l10 r53.2.1).bind fun r57=>if r57=true then if (decide ((r53.2.1.length:Int) > 0))=true then (q140q F).bind fun r60=>some r60 else some false else some false).bind fun w56 =>
  some w56
 else
 if ((r53.2.2 != 0) || ((r53.1.length:Int) != (l10.length:Int)))=true then
  some false
 else
 q62q F r6 l10 r53 F 0
def q13q (F:Nat) (r2:Gq2 × GTape) (r4:List Gq1 × GTape) (r6:List GRoom × GTape) (r7:Int):Nat→(List Gq5)→(List Gq6)→(List GNeed)→Int→(List Int)→Int→Option Bool
 | 0=>fun _ _ _ _ _ _=>.none
 | n+1=>q16q F r2 r4 r6 r7 (q13q F r2 r4 r6 r7 n)
def q137q (F:Nat) (p0:List Int) (p1:Int):Option Bool :=
 (make_New p0).bind fun r1 =>
 (Gq11 r1 0).bind fun r2 =>
 (Gq13 F r2.2 10 0).bind fun r3 =>
 (Gq46 F r3.2 0).bind fun r4 =>
 (Gq20 F r4.2).bind fun r5 =>
 (Gq42 F r5.2 0).bind fun r6 =>
 (make_Cut p1 30).bind fun r7 =>
 q13q F r2 r4 r6 r7 F r3.1 r5.1 ([]:List GNeed) 0 r6.2.L r6.2.At
end
end Go.Sh
