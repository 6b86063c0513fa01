import Derived.Test.YtmollikhdbaikaaGreatZLc
import Derived.Test.YtmollikhdbaikaaGreatZLb
set_option linter.unusedVariables false
set_option linter.unusedSimpArgs false
set_option maxRecDepth 100000
set_option maxHeartbeats 1000000
namespace Go.Sh
open Go.L
noncomputable section
structure aN where
 L:List Int
 At:Int
 deriving DecidableEq,Inhabited
def aN.lv (x:aN):LV:=.agg [(lvl 1 LV.I) x.L,.I x.At]
theorem aN.ok:pU 2 aN.lv:=fun _=>⟨rfl,rfl,rfl⟩
structure aL where
 Time:Int
 Source:Int
 Seq:Int
 deriving DecidableEq,Inhabited
def aL.lv (x:aL):LV:=.agg [.I x.Time,.I x.Source,.I x.Seq]
theorem aL.ok:pU 3 aL.lv:=fun _=>⟨rfl,rfl,rfl⟩
structure ao where
 Kind:Int
 Max:Int
 e5:Int
 cg:Int
 Options:Int
 Key:Int
 deriving DecidableEq,Inhabited
def ao.lv (x:ao):LV:=.agg [.I x.Kind,.I x.Max,.I x.e5,.I x.cg,.I x.Options,.I x.Key]
theorem ao.ok:pU 6 ao.lv:=fun _=>⟨rfl,rfl,rfl⟩
structure ai where
 ID:Int
 Version:Int
 bD:ByteArray
 aI:List ao
 aD:List Int
 deriving DecidableEq,Inhabited
def ai.lv (x:ai):LV:=.agg [.I x.ID,.I x.Version,LV.str x.bD,(lvl 6 ao.lv) x.aI,(lvl 1 LV.I) x.aD]
theorem ai.ok:pU 5 ai.lv:=fun _=>⟨rfl,rfl,rfl⟩
structure aG where
 ID:Int
 Version:Int
 deriving DecidableEq,Inhabited
def aG.lv (x:aG):LV:=.agg [.I x.ID,.I x.Version]
theorem aG.ok:pU 2 aG.lv:=fun _=>⟨rfl,rfl,rfl⟩
structure ax where
 ar:aL
 Kind:Int
 Item:ai
 Ref:aG
 Form:Int
 deriving DecidableEq,Inhabited
def ax.lv (x:ax):LV:=.agg [.I x.ar.Time,.I x.ar.Source,.I x.ar.Seq,.I x.Kind,.I x.Item.ID,.I x.Item.Version,LV.str x.Item.bD,(lvl 6 ao.lv) x.Item.aI,(lvl 1 LV.I) x.Item.aD,.I x.Ref.ID,.I x.Ref.Version,.I x.Form]
theorem ax.ok:pU 12 ax.lv:=fun _=>⟨rfl,rfl,rfl⟩
structure az where
 Version:Int
 Form:Int
 Time:Int
 deriving DecidableEq,Inhabited
def az.lv (x:az):LV:=.agg [.I x.Version,.I x.Form,.I x.Time]
theorem az.ok:pU 3 az.lv:=fun _=>⟨rfl,rfl,rfl⟩
structure aq where
 ID:Int
 ae:List ai
 ah:List Bool
 Uses:List az
 ab:Bool
 deriving DecidableEq,Inhabited
def aq.lv (x:aq):LV:=.agg [.I x.ID,(lvl 5 ai.lv) x.ae,(lvl 1 LV.bool) x.ah,(lvl 3 az.lv) x.Uses,LV.bool x.ab]
theorem aq.ok:pU 5 aq.lv:=fun _=>⟨rfl,rfl,rfl⟩
structure aM where
 aa:List aq
 deriving DecidableEq,Inhabited
def aM.lv (x:aM):LV:=.agg [(lvl 5 aq.lv) x.aa]
abbrev nN (p:aM):Nat × LE:=(811,.box [.arr 812 p.aa.length])
theorem aM.ok:pU 1 aM.lv:=fun _=>⟨rfl,rfl,rfl⟩
structure rO where
 Source:Int
 Seq:Int
 deriving DecidableEq,Inhabited
def rO.lv (x:rO):LV:=.agg [.I x.Source,.I x.Seq]
theorem rO.ok:pU 2 rO.lv:=fun _=>⟨rfl,rfl,rfl⟩
structure b7 where
 Event:rO
 Code:Int
 deriving DecidableEq,Inhabited
def b7.lv (x:b7):LV:=.agg [.I x.Event.Source,.I x.Event.Seq,.I x.Code]
theorem b7.ok:pU 3 b7.lv:=fun _=>⟨rfl,rfl,rfl⟩
structure ed where
 first:Int
 dI:Bool
 deriving DecidableEq,Inhabited
def ed.lv (x:ed):LV:=.agg [.I x.first,LV.bool x.dI]
theorem ed.ok:pU 2 ed.lv:=fun _=>⟨rfl,rfl,rfl⟩
def k9 (p0:List Int):Option aN :=
 if (decide ((p0.length:Int) > 600))=true then
  (DY p0 0 600).bind fun v2 =>
  some (aN.mk v2 0)
 else
 some (aN.mk p0 0)
def Ec (p0:aN):Option (Int × aN) :=
 if (decide (p0.At ≥ (p0.L.length:Int)))=true then
  some (0,p0)
 else
 (idx p0.L (i64 ((i64 (p0.At+1)) - 1))).bind fun x2 =>
 some (x2,(aN.mk p0.L (i64 (p0.At+1))))
def fS (p0:Int) (p1:Int):Option Int :=
 if (decide (p1<1))=true then
  some 0
 else
 (PZ p0 p1).bind fun v2 =>
 if (decide (v2<0))=true then
  some (i64 (v2+p1))
 else
 some v2
def iS (p0:aN) (p1:Int):Option (Int × aN) :=
 (Ec p0).bind fun r1 =>
 (fS r1.1 p1).bind fun r2 =>
 some (r2,r1.2)
def kH (p0:aN) (p1:Int) (p2:Int):Option (Int × aN) :=
 (iS p0 (i64 ((i64 (p2 - p1))+1))).bind fun r1 =>
 some ((i64 (p1+r1.1)),r1.2)
def tX (p0:aN) (p1:List Int):Option (Int × aN) :=
 (iS p0 (p1.length:Int)).bind fun r1 =>
 (idx p1 r1.1).bind fun x2 =>
 some (x2,r1.2)
def Ef  (aH:ByteArray→Int→(List Int)→Int→Option (ByteArray × aN)) (t2:ByteArray) (n3:Int) (l4:List Int) (n5:Int):Option (ByteArray × aN) :=
 if (decide (n3 > 0))=true then
  (iS (aN.mk l4 n5) 3).bind fun r7 =>
  (wi t2 (AV [(IntKind.u8.wrap (i64 (97+r7.1)))])).bind fun t8 =>
  aH t8 (i64 (n3 - 1)) r7.2.L r7.2.At
 else
 some (t2,(aN.mk l4 n5))
def Ee :Nat→ByteArray→Int→(List Int)→Int→Option (ByteArray × aN)
 | 0=>fun _ _ _ _=>.none
 | n+1=>Ef  (Ee n)
def Ed (F:Nat) (p0:aN) (p1:Int):Option (ByteArray × aN) :=
 (kH p0 1 p1).bind fun r1 =>
 Ee F (ByteArray.mk #[]) r1.1 r1.2.L r1.2.At
def nW (p0:aN) (p1:Int):Option (Bool × aN) :=
 (iS p0 p1).bind fun r1 =>
 some ((r1.1 == (i64 (p1 - 1))),r1.2)
def rP (p0:aN):Option (Int × aN) :=
 (tX p0 [(-1),0,1,2,31,32,99,100,200,201,9999,10000,1000000,1000001,1152921504606846976,1152921504606846977,(-1152921504606846976),9223372036854775807,(-9223372036854775808)]).bind fun r1 =>
 some (r1.1,r1.2)
def B8 (p1:Int) (r2:Int × aN) (r3:Int × aN) (l4:List Int) (n5:Int) (n6:Int) (n7:Int) (n8:Int) (n9:Int):Option (ao × aN) :=
 (if (decide (p1 > 0))=true then (nW (aN.mk l4 n5) p1).bind fun gi=>some (gi.1,gi.2.L,gi.2.At) else some (false,l4,n5)).bind fun ve =>
 if ve.1=true then
  (iS (aN.mk ve.2.1 ve.2.2) 6).bind fun ij =>
  if (ij.1 == 0)=true then
   (kH ij.2 (-1) 3).bind fun tS =>
   some ((ao.mk tS.1 n7 r2.1 r3.1 n8 n9),tS.2)
  else
  if (ij.1 == 1)=true then
   (tX ij.2 [0,40,41,(-1)]).bind fun gS =>
   some ((ao.mk n6 gS.1 r2.1 r3.1 n8 n9),gS.2)
  else
  if (ij.1 == 2)=true then
   (rP ij.2).bind fun rG =>
   some ((ao.mk n6 n7 rG.1 r3.1 n8 n9),rG.2)
  else
  if (ij.1 == 3)=true then
   (rP ij.2).bind fun vX =>
   some ((ao.mk n6 n7 r2.1 vX.1 n8 n9),vX.2)
  else
  if (ij.1 == 4)=true then
   (kH ij.2 (-1) 6).bind fun vY =>
   some ((ao.mk n6 n7 r2.1 r3.1 vY.1 n9),vY.2)
  else
  (kH ij.2 (-1) 5).bind fun vZ =>
  some ((ao.mk n6 n7 r2.1 r3.1 n8 vZ.1),vZ.2)
 else
 some ((ao.mk n6 n7 r2.1 r3.1 n8 n9),(aN.mk ve.2.1 ve.2.2))
def B7 (p0:aN) (p1:Int):Option (ao × aN) :=
 (kH p0 1 12).bind fun r1 =>
 (iS r1.2 4).bind fun r2 =>
 (iS r2.2 3).bind fun r3 =>
 (iS r3.2 3).bind fun tT =>
 if (tT.1 == 0)=true then
  (kH tT.2 2 5).bind fun da =>
  (iS da.2 da.1).bind fun H6 =>
  (kH H6.2 1 3).bind fun kB =>
  B8 p1 r2 r3 kB.2.L kB.2.At 2 kB.1 da.1 H6.1
 else
 B8 p1 r2 r3 tT.2.L tT.2.At 1 r1.1 0 0
def Ea (p1:Int) (p2:Int) (p3:Int) (t2:ByteArray) (l7:List ao) (eH:Int→(List Int)→Int→(List Int)→Option (ai × aN)) (n11:Int) (BD:List Int) (n13:Int) (cO:List Int):Option (ai × aN) :=
 if (decide (n11<6))=true then
  (if (n11 != p1)=true then (nW (aN.mk BD n13) 8).bind fun gS=>some (gS.1,gS.2.L,gS.2.At) else some (false,BD,n13)).bind fun vf =>
  if vf.1=true then
   (app cO [n11]).bind fun v23 =>
   eH (i64 (n11+1)) vf.2.1 vf.2.2 v23
  else
  eH (i64 (n11+1)) vf.2.1 vf.2.2 cO
 else
 (if (decide (p3 > 0))=true then (nW (aN.mk BD n13) p3).bind fun tT=>some (tT.1,tT.2.L,tT.2.At) else some (false,BD,n13)).bind fun pR =>
 if pR.1=true then
  (iS (aN.mk pR.2.1 pR.2.2) 7).bind fun da =>
  if (da.1 == 0)=true then
   (rP da.2).bind fun kB =>
   some ((ai.mk kB.1 p2 t2 l7 cO),kB.2)
  else
  if (da.1 == 1)=true then
   (tX da.2 [0,8,9,(-1)]).bind fun oL =>
   some ((ai.mk p1 oL.1 t2 l7 cO),oL.2)
  else
  if (da.1 == 2)=true then
   (iS da.2 3).bind fun lA =>
   (idx ([(ByteArray.mk #[]),(ByteArray.mk #[116,97,98,9]),(ByteArray.mk #[48,49,50,51,52,53,54,55,56,57,48,49,50,51,52,53,54,55,56,57,48,49,50,51,52,53,54,55,56,57,48,49,50,51,52,53,54,55,56,57,120])]) lA.1).bind fun D3 =>
   some ((ai.mk p1 p2 D3 l7 cO),lA.2)
  else
  if (da.1 == 3)=true then
   some ((ai.mk p1 p2 t2 [] cO),da.2)
  else
  if (da.1 == 4)=true then
   (B7 da.2 1).bind fun tU =>
   (app l7 [tU.1]).bind fun Ba =>
   some ((ai.mk p1 p2 t2 Ba cO),tU.2)
  else
  if (da.1 == 5)=true then
   (tX da.2 [0,p1,(-1),10000,3]).bind fun tV =>
   (app cO [tV.1]).bind fun v45 =>
   some ((ai.mk p1 p2 t2 l7 v45),tV.2)
  else
  (idx l7 0).bind fun Tw =>
  (idx l7 0).bind fun Tx =>
  (idx l7 0).bind fun Ty =>
  (idx l7 0).bind fun Tz =>
  (idx l7 0).bind fun TA =>
  (idx l7 0).bind fun TB =>
  (app l7 [Tw,Tx,Ty,Tz,TA,TB]).bind fun Bb =>
  some ((ai.mk p1 p2 t2 Bb cO),da.2)
 else
 some ((ai.mk p1 p2 t2 l7 cO),(aN.mk pR.2.1 pR.2.2))
def B6 (p1:Int) (p2:Int) (p3:Int) (t2:ByteArray) (l7:List ao):Nat→Int→(List Int)→Int→(List Int)→Option (ai × aN)
 | 0=>fun _ _ _ _=>.none
 | n+1=>Ea p1 p2 p3 t2 l7 (B6 p1 p2 p3 t2 l7 n)
def D9 (F:Nat) (p1:Int) (p2:Int) (p3:Int) (t2:ByteArray) (aH:Int→(List Int)→Int→(List ao)→Option (ai × aN)) (n4:Int) (l5:List Int) (n6:Int) (l7:List ao):Option (ai × aN) :=
 if (decide (n4 > 0))=true then
  (B7 (aN.mk l5 n6) 0).bind fun r9 =>
  (app l7 [r9.1]).bind fun v10 =>
  aH (i64 (n4 - 1)) r9.2.L r9.2.At v10
 else
 B6 p1 p2 p3 t2 l7 F 0 l5 n6 ([]:List Int)
def D8 (F:Nat) (p1:Int) (p2:Int) (p3:Int) (t2:ByteArray):Nat→Int→(List Int)→Int→(List ao)→Option (ai × aN)
 | 0=>fun _ _ _ _=>.none
 | n+1=>D9 F p1 p2 p3 t2 (D8 F p1 p2 p3 t2 n)
def D7 (F:Nat) (p0:aN) (p1:Int) (p2:Int) (p3:Int):Option (ai × aN) :=
 (Ed F p0 3).bind fun r1 =>
 (wi (ByteArray.mk #[113]) r1.1).bind fun t2 =>
 (kH r1.2 1 3).bind fun r3 =>
 D8 F p1 p2 p3 t2 F r3.1 r3.2.L r3.2.At ([]:List ao)
def B9 (p0:aN) (p1:Int):Option (aL × aN) :=
 (kH p0 0 24).bind fun r1 =>
 (kH r1.2 0 3).bind fun r2 =>
 (kH r2.2 0 9).bind fun r3 =>
 (if (decide (p1 > 0))=true then (nW r3.2 p1).bind fun r9=>some (r9.1,r9.2.L,r9.2.At) else some (false,r3.2.L,r3.2.At)).bind fun w7 =>
 if w7.1=true then
  (iS (aN.mk w7.2.1 w7.2.2) 3).bind fun cJ =>
  if (cJ.1 == 0)=true then
   (rP cJ.2).bind fun rm =>
   some ((aL.mk rm.1 r2.1 r3.1),rm.2)
  else
  if (cJ.1 == 1)=true then
   (rP cJ.2).bind fun gi =>
   some ((aL.mk r1.1 gi.1 r3.1),gi.2)
  else
  (rP cJ.2).bind fun kq =>
  some ((aL.mk r1.1 r2.1 kq.1),kq.2)
 else
 some ((aL.mk r1.1 r2.1 r3.1),(aN.mk w7.2.1 w7.2.2))
def G5 (aH:Int→(List Int)→Int→(List Int)→(List ax)→Option (List ax × aN)) (n3:Int) (l7:List ax) (n18:Int) (t20:ByteArray) (lL:List ao) (lM:List Int) (n25:Int) (gF:List Int) (n27:Int) (n28:Int) (n29:Int) (n30:Int) (n31:Int) (n32:Int) (n33:Int) (Lh:List Int) (n35:Int):Option (List ax × aN) :=
 (app l7 [(ax.mk (aL.mk n27 n28 n29) n30 (ai.mk n18 n31 t20 lL lM) (aG.mk n32 n33) n25)]).bind fun DD =>
 (nW (aN.mk Lh n35) 8).bind fun lA =>
 if lA.1=true then
  (iS lA.2 (DD.length:Int)).bind fun DX =>
  (idx DD DX.1).bind fun Tv =>
  (app DD [Tv]).bind fun v41 =>
  aH (i64 (n3 - 1)) DX.2.L DX.2.At gF v41
 else
 aH (i64 (n3 - 1)) lA.2.L lA.2.At gF DD
def L0 (aH:Int→(List Int)→Int→(List Int)→(List ax)→Option (List ax × aN)) (p2:Int) (n3:Int) (l7:List ax) (dG:Int × aN) (cJ:Int × aN) (Lg:List Int) (n16:Int) (n17:Int) (n18:Int) (n19:Int) (t20:ByteArray) (lL:List ao) (lM:List Int) (n23:Int) (n24:Int) (n25:Int) (gF:List Int):Option (List ax × aN) :=
 (if (decide (p2 > 0))=true then (nW (aN.mk Lg n16) p2).bind fun Mn=>some (Mn.1,Mn.2.L,Mn.2.At) else some (false,Lg,n16)).bind fun zw =>
 if zw.1=true then
  (iS (aN.mk zw.2.1 zw.2.2) 5).bind fun kC =>
  if (kC.1 == 0)=true then
   (kH kC.2 (-1) 8).bind fun zo =>
   G5 aH n3 l7 n18 t20 lL lM n25 gF (i64 ((l7.length:Int)+dG.1)) cJ.1 (l7.length:Int) zo.1 n19 n23 n24 zo.2.L zo.2.At
  else
  if (kC.1 == 1)=true then
   (kH kC.2 (-1) 3).bind fun zp =>
   G5 aH n3 l7 n18 t20 lL lM n25 gF (i64 ((l7.length:Int)+dG.1)) cJ.1 (l7.length:Int) n17 n19 n23 zp.1 zp.2.L zp.2.At
  else
  if (kC.1 == 2)=true then
   (iS kC.2 7).bind fun zq =>
   G5 aH n3 l7 n18 t20 lL lM n25 gF (i64 ((l7.length:Int)+dG.1)) cJ.1 (l7.length:Int) n17 n19 zq.1 n24 zq.2.L zq.2.At
  else
  if (kC.1 == 3)=true then
   (B9 kC.2 3).bind fun qG =>
   G5 aH n3 l7 n18 t20 lL lM n25 gF qG.1.Time qG.1.Source qG.1.Seq n17 n19 n23 n24 qG.2.L qG.2.At
  else
  (kH kC.2 0 3).bind fun zr =>
  G5 aH n3 l7 n18 t20 lL lM n25 gF (i64 ((l7.length:Int)+dG.1)) cJ.1 (l7.length:Int) n17 zr.1 n23 n24 zr.2.L zr.2.At
 else
 G5 aH n3 l7 n18 t20 lL lM n25 gF (i64 ((l7.length:Int)+dG.1)) cJ.1 (l7.length:Int) n17 n19 n23 n24 zw.2.1 zw.2.2
def L3 (aH:Int→(List Int)→Int→(List Int)→(List ax)→Option (List ax × aN)) (F:Nat) (p2:Int) (n3:Int) (l6:List Int) (l7:List ax) (r9:Int × aN) (dG:Int × aN) (cJ:Int × aN) (fb:Int × aN) (Je:Int):Option (List ax × aN) :=
 (idx l6 r9.1).bind fun Hj =>
 (idx l6 r9.1).bind fun UC =>
 (idx (l6.set r9.1.toNat (min (i64 (Hj+1)) 9)) r9.1).bind fun Ql =>
 (D7 F fb.2 r9.1 Ql p2).bind fun rp =>
 L0 aH p2 n3 l7 dG cJ rp.2.L rp.2.At Je rp.1.ID rp.1.Version rp.1.bD rp.1.aI rp.1.aD 0 0 0 (l6.set r9.1.toNat (min (i64 (Hj+1)) 9))
def D6 (F:Nat) (p2:Int) (aH:Int→(List Int)→Int→(List Int)→(List ax)→Option (List ax × aN)) (n3:Int) (l4:List Int) (n5:Int) (l6:List Int) (l7:List ax):Option (List ax × aN) :=
 if (decide (n3 > 0))=true then
  (iS (aN.mk l4 n5) 5).bind fun r9 =>
  (iS r9.2 2).bind fun dG =>
  (iS dG.2 2).bind fun cJ =>
  (tX cJ.2 [3,4,4,2,5,6]).bind fun cI =>
  (idx l6 r9.1).bind fun cT =>
  (iS cI.2 4).bind fun fb =>
  ((idx l6 r9.1).bind fun Qk=>if (Qk == 0)=true then some true else some (cI.1 == 2)).bind fun QU =>
  if QU=true then
   (idx l6 r9.1).bind fun Qm =>
   if (Qm == 0)=true then
    L3 aH F p2 n3 l6 l7 r9 dG cJ fb 1
   else
   L3 aH F p2 n3 l6 l7 r9 dG cJ fb 2
  else
  L0 aH p2 n3 l7 dG cJ fb.2.L fb.2.At cI.1 0 0 (ByteArray.mk #[]) ([]:List ao) ([]:List Int) r9.1 (max 1 cT) fb.1 l6
 else
 some (l7,(aN.mk l4 n5))
def D5 (F:Nat) (p2:Int):Nat→Int→(List Int)→Int→(List Int)→(List ax)→Option (List ax × aN)
 | 0=>fun _ _ _ _ _=>.none
 | n+1=>D6 F p2 (D5 F p2 n)
def LZ (F:Nat) (p0:aN) (p1:Int) (p2:Int):Option (List ax × aN) :=
 (DV (0:Int) 5).bind fun v1 =>
 (kH p0 0 p1).bind fun r2 =>
 D5 F p2 F r2.1 r2.2.L r2.2.At v1 ([]:List ax)
def F6 (p0:List ax) (p1:(ax→Option aL)) (p2:(ax→ax→Option Bool)) (aH:Int→(List aL)→(List Int)→(List (aL × Int))→Option (List aL × List Int)) (n3:Int) (l4:List aL) (l5:List Int) (m6:List (aL × Int)):Option (List aL × List Int) :=
 if (decide (n3<(p0.length:Int)))=true then
  (idx p0 n3).bind fun x8 =>
  (p1 x8).bind fun r9 =>
  (idx l4 n3).bind fun qR =>
  (idx (l4.set n3.toNat r9) n3).bind fun bc =>
  if (!((gG m6 bc).isSome))=true then
   (idx (l4.set n3.toNat r9) n3).bind fun cT =>
   aH (i64 (n3+1)) (l4.set n3.toNat r9) l5 (dS m6 cT n3)
  else
  (idx p0 ((gG m6 bc).getD 0)).bind fun nJ =>
  (p2 nJ x8).bind fun gi =>
  if (!gi)=true then
   (idx l5 n3).bind fun nK =>
   aH (i64 (n3+1)) (l4.set n3.toNat r9) (l5.set n3.toNat 1) m6
  else
  aH (i64 (n3+1)) (l4.set n3.toNat r9) l5 m6
 else
 some (l4,l5)
def AD (p0:List ax) (p1:(ax→Option aL)) (p2:(ax→ax→Option Bool)):Nat→Int→(List aL)→(List Int)→(List (aL × Int))→Option (List aL × List Int)
 | 0=>fun _ _ _ _=>.none
 | n+1=>F6 p0 p1 p2 (AD p0 p1 p2 n)
def Gb (F:Nat) (p0:List ax) (p1:(ax→Option aL)) (p2:(ax→ax→Option Bool)):Option (List aL × List Int) :=
 (DV ((aL.mk 0 0 0):aL) (p0.length:Int)).bind fun v1 =>
 (DV (0:Int) (p0.length:Int)).bind fun v2 =>
 AD p0 p1 p2 F 0 v1 v2 ([]:List (aL × Int))
def BZ (p0:aL):Option Bool :=
 some ((decide (p0.Time ≥ 0)) && ((decide (p0.Time≤1000000)) && ((decide (p0.Source ≥ 0)) && ((decide (p0.Source≤99)) && ((decide (p0.Seq ≥ 0)) && (decide (p0.Seq≤9999)))))))
def cmp_isNaN_int (p0:Int):Option Bool :=
 some (p0 != p0)
def cE (p0:Int) (p1:Int):Option Int :=
 (cmp_isNaN_int p0).bind fun r1 =>
 (cmp_isNaN_int p1).bind fun r2 =>
 if r1=true then
  if r2=true then
   some 0
  else
  some (-1)
 else
 if r2=true then
  some 1
 else
 if (decide (p0<p1))=true then
  some (-1)
 else
 if (decide (p0 > p1))=true then
  some 1
 else
 some 0
def fw (p0:List Int) (aH:Int→Option Int) (n1:Int):Option Int :=
 if (decide (n1<(p0.length:Int)))=true then
  (idx p0 n1).bind fun x3 =>
  if (x3 != 0)=true then
   some x3
  else
  aH (i64 (n1+1))
 else
 some 0
def eK (p0:List Int):Nat→Int→Option Int
 | 0=>fun _=>.none
 | n+1=>fw p0 (eK p0 n)
def gC (F:Nat) (p0:List Int):Option Int :=
 eK p0 F 0
def C6 (F:Nat) (p0:aL) (p1:aL):Option Int :=
 (cE p0.Source p1.Source).bind fun r1 =>
 (cE p0.Seq p1.Seq).bind fun r2 =>
 (gC F [r1,r2]).bind fun r3 =>
 some r3
def Dp (F:Nat) (p0:Int) (p1:Int) (c0:List aL):Option Int :=
 (idx c0 p0).bind fun x1 =>
 (idx c0 p1).bind fun x2 =>
 (C6 F x1 x2).bind fun r3 =>
 (cE p0 p1).bind fun r4 =>
 (gC F [r3,r4]).bind fun r5 =>
 some r5
def Gx (F:Nat) (p0:List aL) (p1:List Int) (l8:List Int) (eH:Int→(List ed)→Option (List ed)) (n9:Int) (gp:List ed):Option (List ed) :=
 if (decide (n9<(l8.length:Int)))=true then
  (idx l8 n9).bind fun gq =>
  (if (decide ((i64 ((gp.length:Int) - 1))<0))=true then some true else (idx gp (i64 ((gp.length:Int) - 1))).bind fun It=>(idx p0 It.first).bind fun nK=>(idx p0 gq).bind fun Bc=>(C6 F nK Bc).bind fun tS=>some (tS != 0)).bind fun Is =>
  if Is=true then
   (app gp [(ed.mk gq false)]).bind fun v21 =>
   eH (i64 (n9+1)) v21
  else
  (idx gp (i64 ((gp.length:Int) - 1))).bind fun JH =>
  ((idx p0 JH.first).bind fun Mo=>(idx p0 gq).bind fun LW=>if (!(decide (Mo=LW)))=true then some true else (idx p1 JH.first).bind fun LX=>(idx p1 gq).bind fun Mp=>some (LX != Mp)).bind fun QR =>
  if QR=true then
   (idx gp (i64 ((gp.length:Int) - 1))).bind fun D2 =>
   eH (i64 (n9+1)) (gp.set ((i64 ((gp.length:Int) - 1)).toNat) (ed.mk D2.first true))
  else
  eH (i64 (n9+1)) gp
 else
 some gp
def Dk (F:Nat) (p0:List aL) (p1:List Int) (l8:List Int):Nat→Int→(List ed)→Option (List ed)
 | 0=>fun _ _=>.none
 | n+1=>Gx F p0 p1 l8 (Dk F p0 p1 l8 n)
def Gw (F:Nat) (p0:List aL) (p1:List Int) (aH:Int→(List Int)→Option (List ed)) (n1:Int) (l2:List Int):Option (List ed) :=
 if (decide (n1<(p0.length:Int)))=true then
  (idx p0 n1).bind fun x4 =>
  (BZ x4).bind fun r5 =>
  if r5=true then
   (app l2 [n1]).bind fun v7 =>
   aH (i64 (n1+1)) v7
  else
  aH (i64 (n1+1)) l2
 else
 (pM (fun a0 a1=>Dp F a0 a1 p0) l2).bind fun l8 =>
 Dk F p0 p1 l8 F 0 ([]:List ed)
def Dj (F:Nat) (p0:List aL) (p1:List Int):Nat→Int→(List Int)→Option (List ed)
 | 0=>fun _ _=>.none
 | n+1=>Gw F p0 p1 (Dj F p0 p1 n)
def BY (F:Nat) (p0:List aL) (p1:List Int):Option (List ed) :=
 Dj F p0 p1 F 0 ([]:List Int)
def yd (F:Nat) (p0:aL) (p1:aL):Option Int :=
 (cE p0.Time p1.Time).bind fun r1 =>
 (cE p0.Source p1.Source).bind fun r2 =>
 (cE p0.Seq p1.Seq).bind fun r3 =>
 (gC F [r1,r2,r3]).bind fun r4 =>
 some r4
def De (F:Nat) (p0:Int) (p1:Int) (c0:List aL):Option Int :=
 (idx c0 p0).bind fun x1 =>
 (idx c0 p1).bind fun x2 =>
 (yd F x1 x2).bind fun r3 =>
 some r3
def Gl (F:Nat) (p0:List aL) (r2:List ed) (aH:Int→(List Int)→Option (List Int × Int)) (n3:Int) (l4:List Int):Option (List Int × Int) :=
 if (decide (n3<(r2.length:Int)))=true then
  (idx r2 n3).bind fun x6 =>
  if (!x6.dI)=true then
   (app l4 [x6.first]).bind fun v8 =>
   aH (i64 (n3+1)) v8
  else
  aH (i64 (n3+1)) l4
 else
 if (decide ((l4.length:Int) > 300))=true then
  some ([],3)
 else
 (pM (fun a0 a1=>De F a0 a1 p0) l4).bind fun gp =>
 some (gp,0)
def Dc (F:Nat) (p0:List aL) (r2:List ed):Nat→Int→(List Int)→Option (List Int × Int)
 | 0=>fun _ _=>.none
 | n+1=>Gl F p0 r2 (Dc F p0 r2 n)
def Di (F:Nat) (p0:List aL) (p1:List Int):Option (List Int × Int) :=
 if ((p0.length:Int) != (p1.length:Int))=true then
  some ([],1)
 else
 (BY F p0 p1).bind fun r2 =>
 Dc F p0 r2 F 0 ([]:List Int)
def F8 (F:Nat) (p0:List ax) (p1:(ax→Option aL)) (p2:(ax→ax→Option Bool)):Option (List Int × Int) :=
 (Gb F p0 p1 p2).bind fun r1 =>
 (Di F r1.1 r1.2).bind fun r2 =>
 some (r2.1,r2.2)
def BR (p0:ax):Option aL :=
 some p0.ar
def F7 (p0:List ao) (p1:List ao) (aH:Int→Option Bool) (n2:Int):Option Bool :=
 if (decide (n2<(p0.length:Int)))=true then
  (idx p0 n2).bind fun x4 =>
  (idx p1 n2).bind fun x5 =>
  if (!(decide (x4=x5)))=true then
   some false
  else
  aH (i64 (n2+1))
 else
 some true
def C2 (p0:List ao) (p1:List ao):Nat→Int→Option Bool
 | 0=>fun _=>.none
 | n+1=>F7 p0 p1 (C2 p0 p1 n)
def Gd (F:Nat) (p0:List ao) (p1:List ao):Option Bool :=
 if ((p0.length:Int) != (p1.length:Int))=true then
  some false
 else
 C2 p0 p1 F 0
def C3 (p0:List Int) (p1:List Int) (aH:Int→Option Bool) (n2:Int):Option Bool :=
 if (decide (n2<(p0.length:Int)))=true then
  (idx p0 n2).bind fun x4 =>
  (idx p1 n2).bind fun x5 =>
  if (x4 != x5)=true then
   some false
  else
  aH (i64 (n2+1))
 else
 some true
def xL (p0:List Int) (p1:List Int):Nat→Int→Option Bool
 | 0=>fun _=>.none
 | n+1=>C3 p0 p1 (xL p0 p1 n)
def AE (F:Nat) (p0:List Int) (p1:List Int):Option Bool :=
 if ((p0.length:Int) != (p1.length:Int))=true then
  some false
 else
 xL p0 p1 F 0
def xZ (F:Nat) (p0:ai) (p1:ai):Option Bool :=
 (if (p0.ID == p1.ID)=true then if (p0.Version == p1.Version)=true then if (decide (p0.bD=p1.bD))=true then (Gd F p0.aI p1.aI).bind fun r6=>if r6=true then (AE F p0.aD p1.aD).bind fun r8=>some r8 else some false else some false else some false else some false).bind fun w2 =>
 some w2
def iy (F:Nat) (p0:ax) (p1:ax):Option Bool :=
 (if (decide (p0.ar=p1.ar))=true then if (p0.Kind == p1.Kind)=true then if (decide (p0.Ref=p1.Ref))=true then if (p0.Form == p1.Form)=true then (xZ F p0.Item p1.Item).bind fun r7=>some r7 else some false else some false else some false else some false).bind fun w2 =>
 some w2
def AO (p0:ai):Option ai :=
 (app [] p0.aI).bind fun v1 =>
 (app [] p0.aD).bind fun v2 =>
 some (ai.mk p0.ID p0.Version p0.bD v1 v2)
def Gm (p0:List ax) (r1:List Int × Int) (aH:Int→(List ax)→Option (List ax × Int)) (n4:Int) (l5:List ax):Option (List ax × Int) :=
 if (decide (n4<(r1.1.length:Int)))=true then
  (idx r1.1 n4).bind fun x7 =>
  (idx p0 x7).bind fun x8 =>
  (idx l5 n4).bind fun x9 =>
  (idx p0 x7).bind fun qR =>
  (AO qR.Item).bind fun cJ =>
  (idx (l5.set n4.toNat x8) n4).bind fun gq =>
  aH (i64 (n4+1)) ((l5.set n4.toNat x8).set n4.toNat (ax.mk gq.ar gq.Kind cJ gq.Ref gq.Form))
 else
 some (l5,0)
def AI (p0:List ax) (r1:List Int × Int):Nat→Int→(List ax)→Option (List ax × Int)
 | 0=>fun _ _=>.none
 | n+1=>Gm p0 r1 (AI p0 r1 n)
def xS (F:Nat) (p0:List ax):Option (List ax × Int) :=
 (F8 F p0 (fun a0=>BR a0) (fun a0 a1=>iy F a0 a1)).bind fun r1 =>
 if (r1.2 != 0)=true then
  some ([],r1.2)
 else
 (DV ((ax.mk (aL.mk 0 0 0) 0 (ai.mk 0 0 (ByteArray.mk #[]) [] []) (aG.mk 0 0) 0):ax) (r1.1.length:Int)).bind fun v3 =>
 AI p0 r1 F 0 v3
def uW (p0:Int):Option Bool :=
 some ((decide (p0 ≥ 0)) && (decide (p0≤9999)))
def Gn (p0:ByteArray) (aH:Int→Option Bool) (n1:Int):Option Bool :=
 if (decide (n1<(p0.size:Int)))=true then
  ((yL p0 n1).bind fun x5=>if (decide (x5<32))=true then some true else (yL p0 n1).bind fun x7=>some (decide (x7 > 126))).bind fun w4 =>
  if w4=true then
   some false
  else
  aH (i64 (n1+1))
 else
 some true
def AJ (p0:ByteArray):Nat→Int→Option Bool
 | 0=>fun _=>.none
 | n+1=>Gn p0 (AJ p0 n)
def xV (F:Nat) (p0:ByteArray):Option Bool :=
 AJ p0 F 0
def xU (p0:ao):Option Bool :=
 if ((decide (p0.Max<1)) || ((decide (p0.Max > 40)) || ((decide (p0.e5<0)) || ((decide (p0.e5 ≥ 16)) || ((decide (p0.cg<0)) || (decide (p0.cg ≥ 6)))))))=true then
  some false
 else
 if (p0.Kind == 1)=true then
  some ((p0.Options == 0) && (p0.Key == 0))
 else
 if (p0.Kind == 2)=true then
  some ((decide (p0.Options ≥ 2)) && ((decide (p0.Options≤5)) && ((decide (p0.Key ≥ 0)) && (decide (p0.Key<p0.Options)))))
 else
 some false
def Gc (p0:Int) (p1:List Int) (aH:Int→Option Bool) (n1:Int):Option Bool :=
 if (decide (n1<(p1.length:Int)))=true then
  (idx p1 n1).bind fun x3 =>
  ((uW x3).bind fun r6=>if (!r6)=true then some true else if (x3 == p0)=true then some true else if (decide (n1 > 0))=true then (idx p1 (i64 (n1 - 1))).bind fun qR=>some (decide (qR ≥ x3)) else some false).bind fun w5 =>
  if w5=true then
   some false
  else
  aH (i64 (n1+1))
 else
 some true
def C7 (p0:Int) (p1:List Int):Nat→Int→Option Bool
 | 0=>fun _=>.none
 | n+1=>Gc p0 p1 (C7 p0 p1 n)
def Gv (F:Nat) (p0:Int) (p1:List Int):Option Bool :=
 C7 p0 p1 F 0
def xO (F:Nat) (p0:ai) (aH:Int→Option Int) (n17:Int):Option Int :=
 if (decide (n17<(p0.aI.length:Int)))=true then
  (idx p0.aI n17).bind fun zx =>
  (xU zx).bind fun QO =>
  if (!QO)=true then
   some 1
  else
  aH (i64 (n17+1))
 else
 (Gv F p0.ID p0.aD).bind fun jL =>
 if (!jL)=true then
  some 9
 else
 some 0
def uV (F:Nat) (p0:ai):Nat→Int→Option Int
 | 0=>fun _=>.none
 | n+1=>xO F p0 (uV F p0 n)
def tq (F:Nat) (p0:ai):Option Int :=
 ((uW p0.ID).bind fun r3=>if (!r3)=true then some true else if (decide (p0.Version<1))=true then some true else some (decide (p0.Version > 8))).bind fun w2 =>
 if w2=true then
  some 2
 else
 if ((decide ((p0.bD.size:Int) > 40)) || ((decide ((p0.aI.length:Int) > 6)) || (decide ((p0.aD.length:Int) > 8))))=true then
  some 3
 else
 (if (decide (p0.bD=(ByteArray.mk #[])))=true then some true else (xV F p0.bD).bind fun fb=>some (!fb)).bind fun Ir =>
 if Ir=true then
  some 7
 else
 if ((p0.aI.length:Int) == 0)=true then
  some 10
 else
 uV F p0 F 0
def QN (p0:List aq) (p1:Int) (p2:(aq→Int→Option Int)) (aH:Int→Int→Option (Int × Bool)) (n1:Int) (n2:Int):Option (Int × Bool) :=
 if (decide (n1<n2))=true then
  (idx p0 (i64 (oQ .u64 (IntKind.u64.wrap (i64 (n1+n2))) 1))).bind fun x4 =>
  (p2 x4 p1).bind fun r5 =>
  if (decide (r5<0))=true then
   aH (i64 ((i64 (oQ .u64 (IntKind.u64.wrap (i64 (n1+n2))) 1))+1)) n2
  else
  aH n1 (i64 (oQ .u64 (IntKind.u64.wrap (i64 (n1+n2))) 1))
 else
 (if (decide (n1<(p0.length:Int)))=true then (idx p0 n1).bind fun qR=>(p2 qR p1).bind fun cJ=>some (cJ == 0) else some false).bind fun w8 =>
 some (n1,w8)
def Mm (p0:List aq) (p1:Int) (p2:(aq→Int→Option Int)):Nat→Int→Int→Option (Int × Bool)
 | 0=>fun _ _=>.none
 | n+1=>QN p0 p1 p2 (Mm p0 p1 p2 n)
def PU (F:Nat) (p0:List aq) (p1:Int) (p2:(aq→Int→Option Int)):Option (Int × Bool) :=
 Mm p0 p1 p2 F 0 (p0.length:Int)
def tj (p0:aq) (p1:Int):Option Int :=
 (cE p0.ID p1).bind fun r1 =>
 some r1
def u1 (F:Nat) (p0:aM) (p1:Int):Option (Int × Bool) :=
 (PU F p0.aa p1 (fun a0 a1=>tj a0 a1)).bind fun r1 =>
 some (r1.1,r1.2)
def yn (F:Nat) (p0:aM) (p1:ax):Option (Int × aM) :=
 (tq F p1.Item).bind fun r1 =>
 if (r1 != 0)=true then
  some (r1,p0)
 else
 if (p1.Item.Version != 1)=true then
  some (8,p0)
 else
 (u1 F p0 p1.Item.ID).bind fun r4 =>
 if r4.2=true then
  some (5,p0)
 else
 if (decide ((p0.aa.length:Int) ≥ 40))=true then
  some (3,p0)
 else
 (AO p1.Item).bind fun r7 =>
 (HO p0.aa r4.1 (aq.mk p1.Item.ID [r7] [false] ([]:List az) false)).bind fun v8 =>
 some (0,(aM.mk v8))
def tl (F:Nat) (p0:aM) (p1:Int):Option (Option Int) :=
 (u1 F p0 p1).bind fun r1 =>
 if (!r1.2)=true then
  some (none:Option Int)
 else
 (idx p0.aa r1.1).bind fun x3 =>
 some (some r1.1)
def yh (F:Nat) (p0:aM) (p1:ax):Option (Int × aM) :=
 (tq F p1.Item).bind fun r1 =>
 if (r1 != 0)=true then
  some (r1,p0)
 else
 (tl F p0 p1.Item.ID).bind fun r3 =>
 pF r3 (
  some (4,p0)) fun j4 =>
 (idx p0.aa j4).bind fun x5 =>
 if (x5.ab || (p1.Item.Version != (i64 ((x5.ae.length:Int)+1))))=true then
  some (8,p0)
 else
 (AO p1.Item).bind fun cJ =>
 (app x5.ae [cJ]).bind fun v12 =>
 (app x5.ah [false]).bind fun rL =>
 some (0,(aM.mk (p0.aa.set (j4).toNat (aq.mk x5.ID v12 rL x5.Uses x5.ab))))
def uZ (F:Nat) (p0:aM) (p1:aG):Option (Option Int) :=
 (tl F p0 p1.ID).bind fun r1 =>
 pF r1 (
  some (none:Option Int)) fun j2 =>
 (idx p0.aa j2).bind fun x3 =>
 if ((decide (p1.Version<1)) || (decide (p1.Version > (x3.ae.length:Int))))=true then
  some (none:Option Int)
 else
 some (some j2)
def ye (F:Nat) (p0:aM) (p1:ax):Option (Int × aM) :=
 (uZ F p0 p1.Ref).bind fun r1 =>
 pF r1 (
  some (4,p0)) fun j2 =>
 (idx p0.aa j2).bind fun x3 =>
 if x3.ab=true then
  some (8,p0)
 else
 (idx x3.ah (i64 (p1.Ref.Version - 1))).bind fun x7 =>
 if x7=true then
  some (5,p0)
 else
 (idx x3.ah (i64 (p1.Ref.Version - 1))).bind fun x9 =>
 some (0,(aM.mk (p0.aa.set (j2).toNat (aq.mk x3.ID x3.ae (x3.ah.set ((i64 (p1.Ref.Version - 1)).toNat) true) x3.Uses x3.ab))))
def B0 (p0:az) (c0:ax):Option Bool :=
 some (p0.Form == c0.Form)
def F2 (p0:List az) (p1:(az→Option Bool)) (aH:Int→Option Int) (n1:Int):Option Int :=
 if (decide (n1<(p0.length:Int)))=true then
  (idx p0 n1).bind fun x3 =>
  (p1 x3).bind fun r4 =>
  if r4=true then
   some n1
  else
  aH (i64 (n1+1))
 else
 some (-1)
def LA (p0:List az) (p1:(az→Option Bool)):Nat→Int→Option Int
 | 0=>fun _=>.none
 | n+1=>F2 p0 p1 (LA p0 p1 n)
def H5 (F:Nat) (p0:List az) (p1:(az→Option Bool)):Option Int :=
 LA p0 p1 F 0
def C1 (F:Nat) (p0:List az) (p1:(az→Option Bool)):Option Bool :=
 (H5 F p0 p1).bind fun r1 =>
 some (decide (r1 ≥ 0))
def mi (F:Nat) (p0:aM) (p1:ax):Option (Int × aM) :=
 (uZ F p0 p1.Ref).bind fun r1 =>
 pF r1 (
  some (4,p0)) fun j2 =>
 (idx p0.aa j2).bind fun x3 =>
 (if x3.ab=true then some true else (idx x3.ah (i64 (p1.Ref.Version - 1))).bind fun x9=>some (!x9)).bind fun w7 =>
 if w7=true then
  some (8,p0)
 else
 (C1 F x3.Uses (fun a0=>B0 a0 p1)).bind fun cJ =>
 if cJ=true then
  some (5,p0)
 else
 if (decide ((x3.Uses.length:Int) ≥ 300))=true then
  some (3,p0)
 else
 (app x3.Uses [(az.mk p1.Ref.Version p1.Form p1.ar.Time)]).bind fun kE =>
 some (0,(aM.mk (p0.aa.set (j2).toNat (aq.mk x3.ID x3.ae x3.ah kE x3.ab))))
def C8 (F:Nat) (p0:aM) (p1:ax) (c0:Bool):Option (Int × aM) :=
 (tl F p0 p1.Ref.ID).bind fun r1 =>
 pF r1 (
  some (4,p0)) fun j2 =>
 (idx p0.aa j2).bind fun x3 =>
 if (x3.ab == c0)=true then
  some (8,p0)
 else
 some (0,(aM.mk (p0.aa.set (j2).toNat (aq.mk x3.ID x3.ae x3.ah x3.Uses c0))))
def Jq (F:Nat) (p0:Bool):Option Bool :=
 some p0
def bn:List (Int × Nat):=[(1,1),(2,2),(3,3),(4,4),(5,5),(6,6)]
def Jw (F:Nat):Option (List (Int × Nat)) :=
 some (dS (dS (dS (dS (dS (dS ([]:List (Int × Nat)) 1 1) 2 2) 3 3) 4 4) 5 5) 6 6)
def xT (F:Nat) (p1:Int) (r1:List ax × Int) (aH:Int→(List b7)→(List aq)→Option (aM × List b7 × Int)) (n3:Int) (l4:List b7) (l5:List aq):Option (aM × List b7 × Int) :=
 if (decide (n3<(r1.1.length:Int)))=true then
  (idx r1.1 n3).bind fun x7 =>
  if (decide (x7.ar.Time > p1))=true then
   some ((aM.mk l5),l4,0)
  else
  if (x7.Kind == 1)=true then
   (yn F (aM.mk l5) x7).bind fun cJ =>
   if (cJ.1 != 0)=true then
    (app l4 [(b7.mk (rO.mk x7.ar.Source x7.ar.Seq) cJ.1)]).bind fun rL =>
    aH (i64 (n3+1)) rL cJ.2.aa
   else
   aH (i64 (n3+1)) l4 cJ.2.aa
  else
  if (x7.Kind == 2)=true then
   (yh F (aM.mk l5) x7).bind fun kq =>
   if (kq.1 != 0)=true then
    (app l4 [(b7.mk (rO.mk x7.ar.Source x7.ar.Seq) kq.1)]).bind fun pP =>
    aH (i64 (n3+1)) pP kq.2.aa
   else
   aH (i64 (n3+1)) l4 kq.2.aa
  else
  if (x7.Kind == 3)=true then
   (ye F (aM.mk l5) x7).bind fun gS =>
   if (gS.1 != 0)=true then
    (app l4 [(b7.mk (rO.mk x7.ar.Source x7.ar.Seq) gS.1)]).bind fun v23 =>
    aH (i64 (n3+1)) v23 gS.2.aa
   else
   aH (i64 (n3+1)) l4 gS.2.aa
  else
  if (x7.Kind == 4)=true then
   (mi F (aM.mk l5) x7).bind fun pH =>
   if (pH.1 != 0)=true then
    (app l4 [(b7.mk (rO.mk x7.ar.Source x7.ar.Seq) pH.1)]).bind fun v28 =>
    aH (i64 (n3+1)) v28 pH.2.aa
   else
   aH (i64 (n3+1)) l4 pH.2.aa
  else
  if (x7.Kind == 5)=true then
   (C8 F (aM.mk l5) x7 true).bind fun da =>
   if (da.1 != 0)=true then
    (app l4 [(b7.mk (rO.mk x7.ar.Source x7.ar.Seq) da.1)]).bind fun v33 =>
    aH (i64 (n3+1)) v33 da.2.aa
   else
   aH (i64 (n3+1)) l4 da.2.aa
  else
  if (x7.Kind == 6)=true then
   (C8 F (aM.mk l5) x7 false).bind fun rn =>
   if (rn.1 != 0)=true then
    (app l4 [(b7.mk (rO.mk x7.ar.Source x7.ar.Seq) rn.1)]).bind fun LR =>
    aH (i64 (n3+1)) LR rn.2.aa
   else
   aH (i64 (n3+1)) l4 rn.2.aa
  else
  if (2 != 0)=true then
   (app l4 [(b7.mk (rO.mk x7.ar.Source x7.ar.Seq) 2)]).bind fun v41 =>
   aH (i64 (n3+1)) v41 l5
  else
  aH (i64 (n3+1)) l4 l5
 else
 some ((aM.mk l5),l4,0)
def vV (F:Nat) (p1:Int) (r1:List ax × Int):Nat→Int→(List b7)→(List aq)→Option (aM × List b7 × Int)
 | 0=>fun _ _ _=>.none
 | n+1=>xT F p1 r1 (vV F p1 r1 n)
def kU (F:Nat) (p0:List ax) (p1:Int):Option (aM × List b7 × Int) :=
 (xS F p0).bind fun r1 =>
 if (r1.2 != 0)=true then
  some ((aM.mk []),[],r1.2)
 else
 vV F p1 r1 F 0 ([]:List b7) ([]:List aq)
def Gp (p0:ai) (p1:ai) (aH:Int→(List Int)→Option (List Int)) (n1:Int) (l2:List Int):Option (List Int) :=
 if (decide (n1<(max (p0.aI.length:Int) (p1.aI.length:Int))))=true then
  (if (decide (n1 ≥ (p0.aI.length:Int)))=true then some true else if (decide (n1 ≥ (p1.aI.length:Int)))=true then some true else (idx p0.aI n1).bind fun x8=>(idx p1.aI n1).bind fun x9=>some (!(decide (x8=x9)))).bind fun w5 =>
  if w5=true then
   (app l2 [n1]).bind fun v11 =>
   aH (i64 (n1+1)) v11
  else
  aH (i64 (n1+1)) l2
 else
 some l2
def AK (p0:ai) (p1:ai):Nat→Int→(List Int)→Option (List Int)
 | 0=>fun _ _=>.none
 | n+1=>Gp p0 p1 (AK p0 p1 n)
def BX (F:Nat) (p0:ai) (p1:ai):Option (List Int) :=
 AK p0 p1 F 0 ([]:List Int)
def BT (p0:List Int) (p1:List Int) (aH:Int→Option Bool) (n2:Int):Option Bool :=
 if (decide (n2<(p0.length:Int)))=true then
  (idx p0 n2).bind fun x4 =>
  (idx p1 n2).bind fun x5 =>
  if (x4 != x5)=true then
   some false
  else
  aH (i64 (n2+1))
 else
 some true
def uX (p0:List Int) (p1:List Int):Nat→Int→Option Bool
 | 0=>fun _=>.none
 | n+1=>BT p0 p1 (uX p0 p1 n)
def u3 (F:Nat) (p0:List Int) (p1:List Int):Option Bool :=
 if ((p0.length:Int) != (p1.length:Int))=true then
  some false
 else
 uX p0 p1 F 0
def yp (F:Nat) (p0:ai) (p1:ai):Option Bool :=
 (if (p0.ID == p1.ID)=true then if (p0.Version == p1.Version)=true then if (decide (p0.bD=p1.bD))=true then if ((p0.aI.length:Int) == (p1.aI.length:Int))=true then (BX F p0 p1).bind fun r7=>if ((r7.length:Int) == 0)=true then (u3 F p0.aD p1.aD).bind fun r9=>some r9 else some false else some false else some false else some false else some false).bind fun w2 =>
 some w2
def yr (F:Nat) (p0:ax) (p1:ax):Option Bool :=
 (if (decide (p0.ar=p1.ar))=true then if (p0.Kind == p1.Kind)=true then if (decide (p0.Ref=p1.Ref))=true then if (p0.Form == p1.Form)=true then (yp F p0.Item p1.Item).bind fun r7=>some r7 else some false else some false else some false else some false).bind fun w2 =>
 some w2
def yj (p0:aL):Option Bool :=
 some ((decide (p0.Time ≥ 0)) && ((decide (p0.Time≤1000000)) && ((decide (p0.Source ≥ 0)) && ((decide (p0.Source≤99)) && ((decide (p0.Seq ≥ 0)) && (decide (p0.Seq≤9999)))))))
def BV (p0:aL) (p1:aL) (p2:Int) (p3:Int):Option Bool :=
 some ((p0.Source == p1.Source) && ((p0.Seq == p1.Seq) && ((p0.Time != p1.Time) || (p2 != p3))))
def Dd (p0:List aL) (p1:List Int) (p2:Int) (aH:Int→Option Bool) (n4:Int):Option Bool :=
 if (decide (n4<(p0.length:Int)))=true then
  ((idx p0 n4).bind fun x8=>(yj x8).bind fun r9=>if r9=true then (idx p0 p2).bind fun bc=>(idx p0 n4).bind fun gq=>(idx p1 p2).bind fun cT=>(idx p1 n4).bind fun nJ=>(BV bc gq cT nJ).bind fun gi=>if gi=true then some true else if (decide (n4<p2))=true then (idx p0 n4).bind fun Bc=>(idx p0 p2).bind fun zx=>some (decide (Bc=zx)) else some false else some false).bind fun w7 =>
  if w7=true then
   some false
  else
  aH (i64 (n4+1))
 else
 some true
def Dh (p0:List aL) (p1:List Int) (p2:Int):Nat→Int→Option Bool
 | 0=>fun _=>.none
 | n+1=>Dd p0 p1 p2 (Dh p0 p1 p2 n)
def yf (F:Nat) (p0:List aL) (p1:List Int) (p2:Int):Option Bool :=
 (idx p0 p2).bind fun x1 =>
 (yj x1).bind fun r2 =>
 if (!r2)=true then
  some false
 else
 Dh p0 p1 p2 F 0
def yB (p0:Int) (p1:Int):Option Int :=
 if (decide (p0<p1))=true then
  some (-1)
 else
 if (decide (p0 > p1))=true then
  some 1
 else
 some 0
def ya (p0:aL) (p1:aL):Option Int :=
 (yB p0.Time p1.Time).bind fun r1 =>
 if (r1 == 0)=true then
  (yB p0.Source p1.Source).bind fun r3 =>
  if (r3 == 0)=true then
   (yB p0.Seq p1.Seq).bind fun r5 =>
   some r5
  else
  some r3
 else
 if (r1 == 0)=true then
  (yB p0.Seq p1.Seq).bind fun r7 =>
  some r7
 else
 some r1
def Gh (aH:(List Int)→Int→Option (List Int × Int)) (p0:List aL) (l2:List Int) (n3:Int) (eH:Int→Option (List Int × Int)) (n7:Int):Option (List Int × Int) :=
 (if (decide (n7 > 0))=true then (idx l2 (i64 (n7 - 1))).bind fun bc=>(idx p0 bc).bind fun gq=>(idx p0 n3).bind fun cT=>(ya gq cT).bind fun fb=>some (decide (fb > 0)) else some false).bind fun w9 =>
 if w9=true then
  eH (i64 (n7 - 1))
 else
 (DY l2 0 n7).bind fun DZ =>
 (app [] DZ).bind fun v17 =>
 (app v17 [n3]).bind fun pP =>
 (DY l2 n7 (l2.length:Int)).bind fun qQ =>
 (app pP qQ).bind fun v20 =>
 aH v20 (i64 (n3+1))
def Db (aH:(List Int)→Int→Option (List Int × Int)) (p0:List aL) (l2:List Int) (n3:Int):Nat→Int→Option (List Int × Int)
 | 0=>fun _=>.none
 | n+1=>Gh aH p0 l2 n3 (Db aH p0 l2 n3 n)
def Gg (F:Nat) (p0:List aL) (p1:List Int) (aH:(List Int)→Int→Option (List Int × Int)) (l2:List Int) (n3:Int):Option (List Int × Int) :=
 if (decide (n3<(p0.length:Int)))=true then
  (yf F p0 p1 n3).bind fun r5 =>
  if (!r5)=true then
   aH l2 (i64 (n3+1))
  else
  Db aH p0 l2 n3 F (l2.length:Int)
 else
 if (decide ((l2.length:Int) > 300))=true then
  some ([],3)
 else
 some (l2,0)
def Da (F:Nat) (p0:List aL) (p1:List Int):Nat→(List Int)→Int→Option (List Int × Int)
 | 0=>fun _ _=>.none
 | n+1=>Gg F p0 p1 (Da F p0 p1 n)
def Dg (F:Nat) (p0:List aL) (p1:List Int):Option (List Int × Int) :=
 if ((p1.length:Int) != (p0.length:Int))=true then
  some ([],1)
 else
 Da F p0 p1 F ([]:List Int) 0
def Gj (aH:Int→(List aL)→(List Int)→Option (List ax × Int)) (F:Nat) (p0:List ax) (n1:Int) (l2:List aL) (l3:List Int) (eH:Int→Int→Option (List ax × Int)) (n5:Int) (n6:Int):Option (List ax × Int) :=
 if (decide (n6 ≥ 0))=true then
  (idx p0 n1).bind fun x8 =>
  (idx p0 n6).bind fun x9 =>
  (yr F x8 x9).bind fun dG =>
  if dG=true then
   eH n6 (i64 (n6 - 1))
  else
  eH n5 (i64 (n6 - 1))
 else
 (idx p0 n1).bind fun gq =>
 (app l2 [gq.ar]).bind fun rL =>
 (app l3 [n5]).bind fun kE =>
 aH (i64 (n1+1)) rL kE
def AG (aH:Int→(List aL)→(List Int)→Option (List ax × Int)) (F:Nat) (p0:List ax) (n1:Int) (l2:List aL) (l3:List Int):Nat→Int→Int→Option (List ax × Int)
 | 0=>fun _ _=>.none
 | n+1=>Gj aH F p0 n1 l2 l3 (AG aH F p0 n1 l2 l3 n)
def Gk (p0:List ax) (gi:List Int × Int) (oN:Int→(List ax)→Option (List ax × Int)) (n17:Int) (wF:List ax):Option (List ax × Int) :=
 if (decide (n17<(gi.1.length:Int)))=true then
  (idx gi.1 n17).bind fun QV =>
  (idx p0 QV).bind fun D1 =>
  (app wF [D1]).bind fun v22 =>
  oN (i64 (n17+1)) v22
 else
 some (wF,0)
def AH (p0:List ax) (gi:List Int × Int):Nat→Int→(List ax)→Option (List ax × Int)
 | 0=>fun _ _=>.none
 | n+1=>Gk p0 gi (AH p0 gi n)
def Gi (F:Nat) (p0:List ax) (aH:Int→(List aL)→(List Int)→Option (List ax × Int)) (n1:Int) (l2:List aL) (l3:List Int):Option (List ax × Int) :=
 if (decide (n1<(p0.length:Int)))=true then
  AG aH F p0 n1 l2 l3 F n1 (i64 (n1 - 1))
 else
 (Dg F l2 l3).bind fun gi =>
 if (gi.2 != 0)=true then
  some ([],gi.2)
 else
 AH p0 gi F 0 ([]:List ax)
def yt (F:Nat) (p0:List ax):Nat→Int→(List aL)→(List Int)→Option (List ax × Int)
 | 0=>fun _ _ _=>.none
 | n+1=>Gi F p0 (yt F p0 n)
def BU (F:Nat) (p0:List ax):Option (List ax × Int) :=
 yt F p0 F 0 ([]:List aL) ([]:List Int)
def xP (p0:ao):Option Bool :=
 if ((decide (p0.Max<1)) || ((decide (p0.Max > 40)) || ((decide (p0.e5<0)) || ((decide (p0.e5 ≥ 16)) || ((decide (p0.cg<0)) || (decide (p0.cg ≥ 6)))))))=true then
  some false
 else
 if (p0.Kind == 1)=true then
  some ((p0.Options == 0) && (p0.Key == 0))
 else
 some ((p0.Kind == 2) && ((decide (p0.Options ≥ 2)) && ((decide (p0.Options≤5)) && ((decide (p0.Key ≥ 0)) && (decide (p0.Key<p0.Options))))))
def xG (p0:ai) (oN:Int→Option Int) (n25:Int):Option Int :=
 if (decide (n25<(p0.aD.length:Int)))=true then
  ((idx p0.aD n25).bind fun Mp=>if (decide (Mp<0))=true then some true else (idx p0.aD n25).bind fun D2=>if (decide (D2 > 9999))=true then some true else (idx p0.aD n25).bind fun Tu=>if (Tu == p0.ID)=true then some true else if (decide (n25 > 0))=true then (idx p0.aD (i64 (n25 - 1))).bind fun UA=>(idx p0.aD n25).bind fun UB=>some (decide (UA ≥ UB)) else some false).bind fun QS =>
  if QS=true then
   some 9
  else
  oN (i64 (n25+1))
 else
 some 0
def yw (p0:ai):Nat→Int→Option Int
 | 0=>fun _=>.none
 | n+1=>xG p0 (yw p0 n)
def xF (F:Nat) (p0:ai) (eH:Int→Option Int) (n20:Int):Option Int :=
 if (decide (n20<(p0.aI.length:Int)))=true then
  (idx p0.aI n20).bind fun JH =>
  (xP JH).bind fun rG =>
  if (!rG)=true then
   some 1
  else
  eH (i64 (n20+1))
 else
 yw p0 F 0
def yv (F:Nat) (p0:ai):Nat→Int→Option Int
 | 0=>fun _=>.none
 | n+1=>xF F p0 (yv F p0 n)
def xE (F:Nat) (p0:ai) (aH:Int→Option Int) (n11:Int):Option Int :=
 if (decide (n11<(p0.bD.size:Int)))=true then
  ((yL p0.bD n11).bind fun Ts=>if (decide (Ts<32))=true then some true else (yL p0.bD n11).bind fun nK=>some (decide (nK > 126))).bind fun Is =>
  if Is=true then
   some 7
  else
  aH (i64 (n11+1))
 else
 if ((p0.aI.length:Int) == 0)=true then
  some 10
 else
 yv F p0 F 0
def AP (F:Nat) (p0:ai):Nat→Int→Option Int
 | 0=>fun _=>.none
 | n+1=>xE F p0 (AP F p0 n)
def tp (F:Nat) (p0:ai):Option Int :=
 if ((decide (p0.ID<0)) || ((decide (p0.ID > 9999)) || ((decide (p0.Version<1)) || (decide (p0.Version > 8)))))=true then
  some 2
 else
 if ((decide ((p0.bD.size:Int) > 40)) || ((decide ((p0.aI.length:Int) > 6)) || (decide ((p0.aD.length:Int) > 8))))=true then
  some 3
 else
 if (decide (p0.bD=(ByteArray.mk #[])))=true then
  some 7
 else
 AP F p0 F 0
def xJ (aH:Int→Option Bool) (n2:Int) (x4:aq) (oN:Int→Option Bool) (n28:Int):Option Bool :=
 if (decide (n28<(x4.Uses.length:Int)))=true then
  ((idx x4.Uses n28).bind fun Tt=>if (decide (Tt.Version<1))=true then some true else (idx x4.Uses n28).bind fun Uz=>some (decide (Uz.Version > (x4.ae.length:Int)))).bind fun QT =>
  if QT=true then
   some false
  else
  oN (i64 (n28+1))
 else
 aH (i64 (n2+1))
def yy (aH:Int→Option Bool) (n2:Int) (x4:aq):Nat→Int→Option Bool
 | 0=>fun _=>.none
 | n+1=>xJ aH n2 x4 (yy aH n2 x4 n)
def xI (aH:Int→Option Bool) (F:Nat) (n2:Int) (x4:aq) (eH:Int→Option Bool) (n17:Int):Option Bool :=
 if (decide (n17<(x4.ae.length:Int)))=true then
  ((idx x4.ae n17).bind fun D1=>(tp F D1).bind fun jL=>if (jL != 0)=true then some true else (idx x4.ae n17).bind fun Iu=>if (Iu.ID != x4.ID)=true then some true else (idx x4.ae n17).bind fun LW=>some (LW.Version != (i64 (n17+1)))).bind fun QQ =>
  if QQ=true then
   some false
  else
  eH (i64 (n17+1))
 else
 yy aH n2 x4 F 0
def yx (aH:Int→Option Bool) (F:Nat) (n2:Int) (x4:aq):Nat→Int→Option Bool
 | 0=>fun _=>.none
 | n+1=>xI aH F n2 x4 (yx aH F n2 x4 n)
def xH (F:Nat) (p0:aM) (aH:Int→Option Bool) (n2:Int):Option Bool :=
 if (decide (n2<(p0.aa.length:Int)))=true then
  (idx p0.aa n2).bind fun x4 =>
  (if (decide (n2 > 0))=true then (idx p0.aa (i64 (n2 - 1))).bind fun x8=>if (decide (x8.ID ≥ x4.ID))=true then some true else if (decide ((x4.ae.length:Int)<1))=true then some true else if (decide ((x4.ae.length:Int) > 8))=true then some true else if ((x4.ah.length:Int) != (x4.ae.length:Int))=true then some true else some (decide ((x4.Uses.length:Int) > 300)) else if (decide ((x4.ae.length:Int)<1))=true then some true else if (decide ((x4.ae.length:Int) > 8))=true then some true else if ((x4.ah.length:Int) != (x4.ae.length:Int))=true then some true else some (decide ((x4.Uses.length:Int) > 300))).bind fun w6 =>
  if w6=true then
   some false
  else
  yx aH F n2 x4 F 0
 else
 some true
def B1 (F:Nat) (p0:aM):Nat→Int→Option Bool
 | 0=>fun _=>.none
 | n+1=>xH F p0 (B1 F p0 n)
def u0 (F:Nat) (p0:aM):Option Bool :=
 if (decide ((p0.aa.length:Int) > 40))=true then
  some false
 else
 B1 F p0 F 0
def xK (p0:aM) (p1:Int) (aH:Int→Option Int) (n1:Int):Option Int :=
 if (decide (n1<(p0.aa.length:Int)))=true then
  (idx p0.aa n1).bind fun x3 =>
  if (x3.ID == p1)=true then
   some n1
  else
  aH (i64 (n1+1))
 else
 some (-1)
def Dm (p0:aM) (p1:Int):Nat→Int→Option Int
 | 0=>fun _=>.none
 | n+1=>xK p0 p1 (Dm p0 p1 n)
def vW (F:Nat) (p0:aM) (p1:Int):Option Int :=
 Dm p0 p1 F 0
def uY (aH:Bool→Int→(List aq)→Option aM) (p0:aM) (p1:aq) (n2:Int) (b5:Bool) (l6:List aq):Option aM :=
 (idx p0.aa n2).bind fun x7 =>
 if (x7.ID != p1.ID)=true then
  (idx p0.aa n2).bind fun x9 =>
  (app l6 [x9]).bind fun v10 =>
  aH b5 (i64 (n2+1)) v10
 else
 aH b5 (i64 (n2+1)) l6
def xR (p0:aM) (p1:aq) (aH:Bool→Int→(List aq)→Option aM) (b1:Bool) (n2:Int) (l3:List aq):Option aM :=
 if (decide (n2<(p0.aa.length:Int)))=true then
  (if (!b1)=true then (idx p0.aa n2).bind fun nJ=>some (decide (nJ.ID ≥ p1.ID)) else some false).bind fun Ir =>
  if Ir=true then
   (app l3 [p1]).bind fun DZ =>
   uY aH p0 p1 n2 true DZ
  else
  uY aH p0 p1 n2 b1 l3
 else
 if (!b1)=true then
  (app l3 [p1]).bind fun pP =>
  some (aM.mk pP)
 else
 some (aM.mk l3)
def yA (p0:aM) (p1:aq):Nat→Bool→Int→(List aq)→Option aM
 | 0=>fun _ _ _=>.none
 | n+1=>xR p0 p1 (yA p0 p1 n)
def ui (F:Nat) (p0:aM) (p1:aq):Option aM :=
 yA p0 p1 F false 0 ([]:List aq)
def ym (F:Nat) (p0:aM) (p1:ai):Option (aM × Int) :=
 (tp F p1).bind fun r1 =>
 if (r1 != 0)=true then
  some ((aM.mk []),r1)
 else
 if (p1.Version != 1)=true then
  some ((aM.mk []),8)
 else
 (vW F p0 p1.ID).bind fun r4 =>
 if (decide (r4 ≥ 0))=true then
  some ((aM.mk []),5)
 else
 if ((p0.aa.length:Int) == 40)=true then
  some ((aM.mk []),3)
 else
 (ui F p0 (aq.mk p1.ID [p1] [false] ([]:List az) false)).bind fun r7 =>
 some (r7,0)
def yg (F:Nat) (p0:aM) (p1:ai):Option (aM × Int) :=
 (tp F p1).bind fun r1 =>
 if (r1 != 0)=true then
  some ((aM.mk []),r1)
 else
 (vW F p0 p1.ID).bind fun r3 =>
 if (decide (r3<0))=true then
  some ((aM.mk []),4)
 else
 (idx p0.aa r3).bind fun x5 =>
 if (x5.ab || (p1.Version != (i64 ((x5.ae.length:Int)+1))))=true then
  some ((aM.mk []),8)
 else
 (app [] x5.ae).bind fun v9 =>
 (app [] x5.ah).bind fun v10 =>
 (app v9 [p1]).bind fun v11 =>
 (app v10 [false]).bind fun v12 =>
 (ui F p0 (aq.mk x5.ID v11 v12 x5.Uses x5.ab)).bind fun rm =>
 some (rm,0)
def yb (F:Nat) (p0:aM) (p1:aG):Option (aM × Int) :=
 (vW F p0 p1.ID).bind fun r1 =>
 (if (decide (r1<0))=true then some true else if (decide (p1.Version<1))=true then some true else (idx p0.aa r1).bind fun x6=>some (decide (p1.Version > (x6.ae.length:Int)))).bind fun w3 =>
 if w3=true then
  some ((aM.mk []),4)
 else
 (idx p0.aa r1).bind fun x8 =>
 if x8.ab=true then
  some ((aM.mk []),8)
 else
 (idx x8.ah (i64 (p1.Version - 1))).bind fun qR =>
 if qR=true then
  some ((aM.mk []),5)
 else
 (app [] x8.ah).bind fun v12 =>
 (idx v12 (i64 (p1.Version - 1))).bind fun cT =>
 (ui F p0 (aq.mk x8.ID x8.ae (v12.set ((i64 (p1.Version - 1)).toNat) true) x8.Uses x8.ab)).bind fun fb =>
 some (fb,0)
def xX (F:Nat) (p0:aM) (p1:aG) (p2:Int) (p3:Int) (x8:aq) (aH:Int→Option (aM × Int)) (n14:Int):Option (aM × Int) :=
 if (decide (n14<(x8.Uses.length:Int)))=true then
  (idx x8.Uses n14).bind fun It =>
  if (It.Form == p2)=true then
   some ((aM.mk []),5)
  else
  aH (i64 (n14+1))
 else
 if ((x8.Uses.length:Int) == 300)=true then
  some ((aM.mk []),3)
 else
 (app [] x8.Uses).bind fun qQ =>
 (app qQ [(az.mk p1.Version p2 p3)]).bind fun v20 =>
 (ui F p0 (aq.mk x8.ID x8.ae x8.ah v20 x8.ab)).bind fun gS =>
 some (gS,0)
def tk (F:Nat) (p0:aM) (p1:aG) (p2:Int) (p3:Int) (x8:aq):Nat→Int→Option (aM × Int)
 | 0=>fun _=>.none
 | n+1=>xX F p0 p1 p2 p3 x8 (tk F p0 p1 p2 p3 x8 n)
def lg (F:Nat) (p0:aM) (p1:aG) (p2:Int) (p3:Int):Option (aM × Int) :=
 (vW F p0 p1.ID).bind fun r1 =>
 (if (decide (r1<0))=true then some true else if (decide (p1.Version<1))=true then some true else (idx p0.aa r1).bind fun x6=>some (decide (p1.Version > (x6.ae.length:Int)))).bind fun w3 =>
 if w3=true then
  some ((aM.mk []),4)
 else
 (idx p0.aa r1).bind fun x8 =>
 (if x8.ab=true then some true else (idx x8.ah (i64 (p1.Version - 1))).bind fun gq=>some (!gq)).bind fun Iq =>
 if Iq=true then
  some ((aM.mk []),8)
 else
 tk F p0 p1 p2 p3 x8 F 0
def Dn (F:Nat) (p0:aM) (p1:Int) (p2:Bool):Option (aM × Int) :=
 (vW F p0 p1).bind fun r1 =>
 if (decide (r1<0))=true then
  some ((aM.mk []),4)
 else
 (idx p0.aa r1).bind fun x3 =>
 if (x3.ab == p2)=true then
  some ((aM.mk []),8)
 else
 (ui F p0 (aq.mk x3.ID x3.ae x3.ah x3.Uses p2)).bind fun r5 =>
 some (r5,0)
def yl (F:Nat) (p0:aM) (p1:ax):Option (aM × Int) :=
 (u0 F p0).bind fun r1 =>
 if (!r1)=true then
  some ((aM.mk []),1)
 else
 if (p1.Kind == 1)=true then
  (ym F p0 p1.Item).bind fun r4 =>
  some (r4.1,r4.2)
 else
 if (p1.Kind == 2)=true then
  (yg F p0 p1.Item).bind fun r6 =>
  some (r6.1,r6.2)
 else
 if (p1.Kind == 3)=true then
  (yb F p0 p1.Ref).bind fun r8 =>
  some (r8.1,r8.2)
 else
 if (p1.Kind == 4)=true then
  (lg F p0 p1.Ref p1.Form p1.ar.Time).bind fun dG =>
  some (dG.1,dG.2)
 else
 if (p1.Kind == 5)=true then
  (Dn F p0 p1.Ref.ID true).bind fun cI =>
  some (cI.1,cI.2)
 else
 if (p1.Kind == 6)=true then
  (Dn F p0 p1.Ref.ID false).bind fun fb =>
  some (fb.1,fb.2)
 else
 some ((aM.mk []),2)
def xQ (F:Nat) (p1:Int) (r1:List ax × Int) (aH:Int→(List aq)→(List b7)→Option (aM × List b7 × Int)) (n3:Int) (l4:List aq) (l5:List b7):Option (aM × List b7 × Int) :=
 if (decide (n3<(r1.1.length:Int)))=true then
  (idx r1.1 n3).bind fun x7 =>
  if (decide (x7.ar.Time > p1))=true then
   aH (i64 (n3+1)) l4 l5
  else
  (idx r1.1 n3).bind fun x9 =>
  (yl F (aM.mk l4) x9).bind fun dG =>
  if (dG.2 != 0)=true then
   (idx r1.1 n3).bind fun gq =>
   (idx r1.1 n3).bind fun cT =>
   (app l5 [(b7.mk (rO.mk gq.ar.Source cT.ar.Seq) dG.2)]).bind fun kE =>
   aH (i64 (n3+1)) l4 kE
  else
  aH (i64 (n3+1)) dG.1.aa l5
 else
 some ((aM.mk l4),l5,0)
def AQ (F:Nat) (p1:Int) (r1:List ax × Int):Nat→Int→(List aq)→(List b7)→Option (aM × List b7 × Int)
 | 0=>fun _ _ _=>.none
 | n+1=>xQ F p1 r1 (AQ F p1 r1 n)
def yq (F:Nat) (p0:List ax) (p1:Int):Option (aM × List b7 × Int) :=
 (BU F p0).bind fun r1 =>
 if (r1.2 != 0)=true then
  some ((aM.mk []),[],r1.2)
 else
 AQ F p1 r1 F 0 ([]:List aq) ([]:List b7)
def Gf (p0:aq) (eH:Int→Option Bool) (n15:Int):Option Bool :=
 if (decide (n15<(p0.Uses.length:Int)))=true then
  (idx p0.Uses n15).bind fun nK =>
  if ((decide (nK.Version<1)) || (decide (nK.Version > (p0.ae.length:Int))))=true then
   some false
  else
  eH (i64 (n15+1))
 else
 some true
def AF (p0:aq):Nat→Int→Option Bool
 | 0=>fun _=>.none
 | n+1=>Gf p0 (AF p0 n)
def Ge (F:Nat) (p0:aq) (aH:Int→Option Bool) (n6:Int):Option Bool :=
 if (decide (n6<(p0.ae.length:Int)))=true then
  (idx p0.ae n6).bind fun x8 =>
  ((tq F x8).bind fun cJ=>if (cJ != 0)=true then some true else if (x8.ID != p0.ID)=true then some true else some (x8.Version != (i64 (n6+1)))).bind fun Iq =>
  if Iq=true then
   some false
  else
  aH (i64 (n6+1))
 else
 AF p0 F 0
def C9 (F:Nat) (p0:aq):Nat→Int→Option Bool
 | 0=>fun _=>.none
 | n+1=>Ge F p0 (C9 F p0 n)
def Df (F:Nat) (p0:aq):Option Bool :=
 if ((decide ((p0.ae.length:Int)<1)) || ((decide ((p0.ae.length:Int) > 8)) || (((p0.ah.length:Int) != (p0.ae.length:Int)) || (decide ((p0.Uses.length:Int) > 300)))))=true then
  some false
 else
 C9 F p0 F 0
def xN (F:Nat) (p0:aM) (aH:Int→Option Bool) (n2:Int):Option Bool :=
 if (decide (n2<(p0.aa.length:Int)))=true then
  (idx p0.aa n2).bind fun x4 =>
  (if (decide (n2 > 0))=true then (idx p0.aa (i64 (n2 - 1))).bind fun x8=>if (decide (x8.ID ≥ x4.ID))=true then some true else (Df F x4).bind fun dG=>some (!dG) else (Df F x4).bind fun cJ=>some (!cJ)).bind fun w6 =>
  if w6=true then
   some false
  else
  aH (i64 (n2+1))
 else
 some true
def uU (F:Nat) (p0:aM):Nat→Int→Option Bool
 | 0=>fun _=>.none
 | n+1=>xN F p0 (uU F p0 n)
def yo (F:Nat) (p0:aM):Option Bool :=
 if (decide ((p0.aa.length:Int) > 40))=true then
  some false
 else
 uU F p0 F 0
def xM (p0:az) (c0:Int) (c1:Int):Option Bool :=
 some (decide (p0.Time > (i64 (c0 - c1))))
def Gu (aH:Int→(List aG)→Option (List aG)) (n10:Int) (cF:List aG) (cT:aq) (eH:Int→Option (List aG)) (n19:Int):Option (List aG) :=
 if (decide (n19 ≥ 0))=true then
  (idx cT.ah n19).bind fun D1 =>
  if D1=true then
   (app cF [(aG.mk cT.ID (i64 (n19+1)))]).bind fun v23 =>
   aH (i64 (n10+1)) v23
  else
  eH (i64 (n19 - 1))
 else
 aH (i64 (n10+1)) cF
def AN (aH:Int→(List aG)→Option (List aG)) (n10:Int) (cF:List aG) (cT:aq):Nat→Int→Option (List aG)
 | 0=>fun _=>.none
 | n+1=>Gu aH n10 cF cT (AN aH n10 cF cT n)
def Gt (F:Nat) (p0:aM) (p1:Int) (p2:Int) (p3:Int) (aH:Int→(List aG)→Option (List aG)) (n10:Int) (cF:List aG):Option (List aG) :=
 if (decide (n10<(p0.aa.length:Int)))=true then
  (idx p0.aa n10).bind fun cT =>
  if (cT.ab || (decide ((cT.Uses.length:Int) > p3)))=true then
   aH (i64 (n10+1)) cF
  else
  (C1 F cT.Uses (fun a0=>xM a0 p1 p2)).bind fun ij =>
  if ij=true then
   aH (i64 (n10+1)) cF
  else
  AN aH n10 cF cT F (i64 ((cT.ah.length:Int) - 1))
 else
 some cF
def AM (F:Nat) (p0:aM) (p1:Int) (p2:Int) (p3:Int):Nat→Int→(List aG)→Option (List aG)
 | 0=>fun _ _=>.none
 | n+1=>Gt F p0 p1 p2 p3 (AM F p0 p1 p2 p3 n)
def yz (F:Nat) (p0:aM) (p1:Int) (p2:Int) (p3:Int):Option (List aG) :=
 ((yo F p0).bind fun r3=>if (!r3)=true then some true else if (decide (p1<0))=true then some true else if (decide (p1 > 1000000))=true then some true else if (decide (p2<0))=true then some true else if (decide (p2 > 1000000))=true then some true else some (decide (p3<0))).bind fun w2 =>
 if w2=true then
  some []
 else
 AM F p0 p1 p2 p3 F 0 ([]:List aG)
def yi (F:Nat):Option Bool :=
 (kU F ([(ax.mk (aL.mk 3 0 2) 4 (ai.mk 0 0 (ByteArray.mk #[]) [] []) (aG.mk 5 1) 9),(ax.mk (aL.mk 1 0 0) 1 (ai.mk 5 1 (ByteArray.mk #[113]) [(ao.mk 1 3 0 0 0 0)] []) (aG.mk 0 0) 0),(ax.mk (aL.mk 2 0 1) 3 (ai.mk 0 0 (ByteArray.mk #[]) [] []) (aG.mk 5 1) 0)]) 100).bind fun r1 =>
 (yz F r1.1 10 7 1).bind fun r2 =>
 (if (r1.2.2 == 0)=true then if ((r1.2.1.length:Int) == 0)=true then if ((r2.length:Int) == 1)=true then (idx r2 0).bind fun x8=>if (decide (x8=(aG.mk 5 1)))=true then (yz F r1.1 10 8 1).bind fun dG=>some ((dG.length:Int) == 0) else some false else some false else some false else some false).bind fun w4 =>
 some w4
def LY (F:Nat) (p0:aN) (p1:Int):Option (aM × aN) :=
 (LZ F p0 14 0).bind fun r1 =>
 (yq F r1.1 1000000).bind fun r2 =>
 (if (decide (p1 > 0))=true then (nW r1.2 p1).bind fun r8=>if r8.1=true then some ((decide ((r2.1.aa.length:Int) > 0)),r8.2.L,r8.2.At) else some (false,r8.2.L,r8.2.At) else some (false,r1.2.L,r1.2.At)).bind fun w6 =>
 if w6.1=true then
  (idx r2.1.aa 0).bind fun bc =>
  (iS (aN.mk w6.2.1 w6.2.2) 4).bind fun cI =>
  if (cI.1 == 0)=true then
   (app bc.ah [true]).bind fun kE =>
   (app [] r2.1.aa).bind fun zt =>
   (idx zt 0).bind fun It =>
   some ((aM.mk (zt.set ((0:Int).toNat) (aq.mk bc.ID bc.ae kE bc.Uses bc.ab))),cI.2)
  else
  if (cI.1 == 1)=true then
   (iS cI.2 5).bind fun jK =>
   (app [] r2.1.aa).bind fun qQ =>
   (idx qQ 0).bind fun QV =>
   some ((aM.mk (qQ.set ((0:Int).toNat) (aq.mk jK.1 bc.ae bc.ah bc.Uses bc.ab))),jK.2)
  else
  if (cI.1 == 2)=true then
   (kH cI.2 0 9).bind fun jL =>
   (app bc.Uses [(az.mk jL.1 0 0)]).bind fun v23 =>
   (app [] r2.1.aa).bind fun v24 =>
   (idx v24 0).bind fun Mo =>
   some ((aM.mk (v24.set ((0:Int).toNat) (aq.mk bc.ID bc.ae bc.ah v23 bc.ab))),jL.2)
  else
  (app r2.1.aa [bc]).bind fun v26 =>
  (app [] v26).bind fun zu =>
  (idx zu 0).bind fun LX =>
  some ((aM.mk (zu.set ((0:Int).toNat) bc)),cI.2)
 else
 some (r2.1,(aN.mk w6.2.1 w6.2.2))
def Gs (aH:Int→(List aG)→Option (List aG)) (p1:Int) (p2:Int) (n10:Int) (cF:List aG) (cT:aq) (n14:Int) (oN:Bool→Int→Option (List aG)) (DG:Bool) (n23:Int):Option (List aG) :=
 if (decide (n23<(cT.Uses.length:Int)))=true then
  (if DG=true then (idx cT.Uses n23).bind fun LX=>some (decide (LX.Time≤(i64 (p1 - p2)))) else some false).bind fun Qh =>
  oN Qh (i64 (n23+1))
 else
 if DG=true then
  (app cF [(aG.mk cT.ID n14)]).bind fun v30 =>
  aH (i64 (n10+1)) v30
 else
 aH (i64 (n10+1)) cF
def yu (aH:Int→(List aG)→Option (List aG)) (p1:Int) (p2:Int) (n10:Int) (cF:List aG) (cT:aq) (n14:Int):Nat→Bool→Int→Option (List aG)
 | 0=>fun _ _=>.none
 | n+1=>Gs aH p1 p2 n10 cF cT n14 (yu aH p1 p2 n10 cF cT n14 n)
def Gr (aH:Int→(List aG)→Option (List aG)) (F:Nat) (p1:Int) (p2:Int) (p3:Int) (n10:Int) (cF:List aG) (cT:aq) (eH:Int→Int→Option (List aG)) (n14:Int) (n15:Int):Option (List aG) :=
 if (decide (n15<(cT.ah.length:Int)))=true then
  (idx cT.ah n15).bind fun nK =>
  if nK=true then
   eH (i64 (n15+1)) (i64 (n15+1))
  else
  eH n14 (i64 (n15+1))
 else
 yu aH p1 p2 n10 cF cT n14 F ((!cT.ab) && ((decide (n14 > 0)) && (decide ((cT.Uses.length:Int)≤p3)))) 0
def AL (aH:Int→(List aG)→Option (List aG)) (F:Nat) (p1:Int) (p2:Int) (p3:Int) (n10:Int) (cF:List aG) (cT:aq):Nat→Int→Int→Option (List aG)
 | 0=>fun _ _=>.none
 | n+1=>Gr aH F p1 p2 p3 n10 cF cT (AL aH F p1 p2 p3 n10 cF cT n)
def Gq (F:Nat) (p0:aM) (p1:Int) (p2:Int) (p3:Int) (aH:Int→(List aG)→Option (List aG)) (n10:Int) (cF:List aG):Option (List aG) :=
 if (decide (n10<(p0.aa.length:Int)))=true then
  (idx p0.aa n10).bind fun cT =>
  AL aH F p1 p2 p3 n10 cF cT F 0 0
 else
 some cF
def vU (F:Nat) (p0:aM) (p1:Int) (p2:Int) (p3:Int):Nat→Int→(List aG)→Option (List aG)
 | 0=>fun _ _=>.none
 | n+1=>Gq F p0 p1 p2 p3 (vU F p0 p1 p2 p3 n)
def Dl (F:Nat) (p0:aM) (p1:Int) (p2:Int) (p3:Int):Option (List aG) :=
 ((u0 F p0).bind fun r3=>if (!r3)=true then some true else if (decide (p1<0))=true then some true else if (decide (p1 > 1000000))=true then some true else if (decide (p2<0))=true then some true else if (decide (p2 > 1000000))=true then some true else some (decide (p3<0))).bind fun w2 =>
 if w2=true then
  some []
 else
 vU F p0 p1 p2 p3 F 0 ([]:List aG)
def Ga (F:Nat) (r8:List aG) (cI:List aG) (eH:Int→Option Bool) (n21:Int):Option Bool :=
 if (decide (n21<(r8.length:Int)))=true then
  (idx r8 n21).bind fun Qj =>
  (idx cI n21).bind fun Iu =>
  if (!(decide (Qj=Iu)))=true then
   some false
  else
  eH (i64 (n21+1))
 else
 (yi F).bind fun pH =>
 some pH
def C5 (F:Nat) (r8:List aG) (cI:List aG):Nat→Int→Option Bool
 | 0=>fun _=>.none
 | n+1=>Ga F r8 cI (C5 F r8 cI n)
def F9 (F:Nat) (r3:List aG) (r4:List aG) (r8:List aG) (cI:List aG) (aH:Int→Option Bool) (n16:Int):Option Bool :=
 if (decide (n16<(r3.length:Int)))=true then
  (idx r3 n16).bind fun Bc =>
  (idx r4 n16).bind fun zx =>
  if (!(decide (Bc=zx)))=true then
   some false
  else
  aH (i64 (n16+1))
 else
 C5 F r8 cI F 0
def C4 (F:Nat) (r3:List aG) (r4:List aG) (r8:List aG) (cI:List aG):Nat→Int→Option Bool
 | 0=>fun _=>.none
 | n+1=>F9 F r3 r4 r8 cI (C4 F r3 r4 r8 cI n)
def BQ (F:Nat) (p0:List Int) (p1:Int) (p2:Int) (p3:Int):Option Bool :=
 (k9 p0).bind fun r1 =>
 (LY F r1 8).bind fun r2 =>
 (yz F r2.1 p1 p2 p3).bind fun r3 =>
 (Dl F r2.1 p1 p2 p3).bind fun r4 =>
 (fS p1 40).bind fun r5 =>
 (fS p2 30).bind fun r6 =>
 (fS p3 5).bind fun r7 =>
 (yz F r2.1 r5 r6 r7).bind fun r8 =>
 (fS p1 40).bind fun r9 =>
 (fS p2 30).bind fun dG =>
 (fS p3 5).bind fun cJ =>
 (Dl F r2.1 r9 dG cJ).bind fun cI =>
 if (((r3.length:Int) != (r4.length:Int)) || ((r8.length:Int) != (cI.length:Int)))=true then
  some false
 else
 C4 F r3 r4 r8 cI F 0
end
end Go.Sh
