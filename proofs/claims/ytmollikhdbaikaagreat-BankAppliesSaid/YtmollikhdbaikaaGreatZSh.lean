import Derived.Test.YtmollikhdbaikaaGreatZLc
import Derived.Test.YtmollikhdbaikaaGreatZLb
set_option linter.unusedVariables false
set_option linter.unusedSimpArgs false
set_option maxRecDepth 100000
set_option maxHeartbeats 1000000
namespace Go.Sh
open Go.L
noncomputable section
structure aP where
 L:List Int
 At:Int
 deriving DecidableEq,Inhabited
def aP.lv (x:aP):LV:=.agg [(lvl 1 LV.I) x.L,.I x.At]
theorem aP.ok:qm 2 aP.lv:=fun _=>⟨rfl,rfl,rfl⟩
structure aL where
 Time:Int
 Source:Int
 Seq:Int
 deriving DecidableEq,Inhabited
def aL.lv (x:aL):LV:=.agg [.I x.Time,.I x.Source,.I x.Seq]
theorem aL.ok:qm 3 aL.lv:=fun _=>⟨rfl,rfl,rfl⟩
structure aq where
 Kind:Int
 Max:Int
 e9:Int
 cr:Int
 Options:Int
 Key:Int
 deriving DecidableEq,Inhabited
def aq.lv (x:aq):LV:=.agg [.I x.Kind,.I x.Max,.I x.e9,.I x.cr,.I x.Options,.I x.Key]
theorem aq.ok:qm 6 aq.lv:=fun _=>⟨rfl,rfl,rfl⟩
structure ai where
 ID:Int
 Version:Int
 bJ:ByteArray
 aH:List aq
 aF:List Int
 deriving DecidableEq,Inhabited
def ai.lv (x:ai):LV:=.agg [.I x.ID,.I x.Version,LV.str x.bJ,(lvl 6 aq.lv) x.aH,(lvl 1 LV.I) x.aF]
theorem ai.ok:qm 5 ai.lv:=fun _=>⟨rfl,rfl,rfl⟩
structure bR where
 ID:Int
 Version:Int
 deriving DecidableEq,Inhabited
def bR.lv (x:bR):LV:=.agg [.I x.ID,.I x.Version]
theorem bR.ok:qm 2 bR.lv:=fun _=>⟨rfl,rfl,rfl⟩
structure ax where
 ar:aL
 Kind:Int
 Item:ai
 Ref:bR
 Form:Int
 deriving DecidableEq,Inhabited
def ax.lv (x:ax):LV:=.agg [.I x.ar.Time,.I x.ar.Source,.I x.ar.Seq,.I x.Kind,.I x.Item.ID,.I x.Item.Version,LV.str x.Item.bJ,(lvl 6 aq.lv) x.Item.aH,(lvl 1 LV.I) x.Item.aF,.I x.Ref.ID,.I x.Ref.Version,.I x.Form]
theorem ax.ok:qm 12 ax.lv:=fun _=>⟨rfl,rfl,rfl⟩
structure ay where
 Version:Int
 Form:Int
 Time:Int
 deriving DecidableEq,Inhabited
def ay.lv (x:ay):LV:=.agg [.I x.Version,.I x.Form,.I x.Time]
theorem ay.ok:qm 3 ay.lv:=fun _=>⟨rfl,rfl,rfl⟩
structure ak where
 ID:Int
 ab:List ai
 ah:List Bool
 Uses:List ay
 ae:Bool
 deriving DecidableEq,Inhabited
def ak.lv (x:ak):LV:=.agg [.I x.ID,(lvl 5 ai.lv) x.ab,(lvl 1 LV.bool) x.ah,(lvl 3 ay.lv) x.Uses,LV.bool x.ae]
theorem ak.ok:qm 5 ak.lv:=fun _=>⟨rfl,rfl,rfl⟩
structure aG where
 aa:List ak
 deriving DecidableEq,Inhabited
def aG.lv (x:aG):LV:=.agg [(lvl 5 ak.lv) x.aa]
abbrev oj (p:aG):Nat × LE:=(811,.box [.arr 812 p.aa.length])
theorem aG.ok:qm 1 aG.lv:=fun _=>⟨rfl,rfl,rfl⟩
structure si where
 Source:Int
 Seq:Int
 deriving DecidableEq,Inhabited
def si.lv (x:si):LV:=.agg [.I x.Source,.I x.Seq]
theorem si.ok:qm 2 si.lv:=fun _=>⟨rfl,rfl,rfl⟩
structure cg where
 Event:si
 Code:Int
 deriving DecidableEq,Inhabited
def cg.lv (x:cg):LV:=.agg [.I x.Event.Source,.I x.Event.Seq,.I x.Code]
theorem cg.ok:qm 3 cg.lv:=fun _=>⟨rfl,rfl,rfl⟩
structure ep where
 first:Int
 dV:Bool
 deriving DecidableEq,Inhabited
def ep.lv (x:ep):LV:=.agg [.I x.first,LV.bool x.dV]
theorem ep.ok:qm 2 ep.lv:=fun _=>⟨rfl,rfl,rfl⟩
def lH (p0:List Int):Option aP :=
 if (decide ((p0.length:Int) > 600))=true then
  (Ep p0 0 600).bind fun v2 =>
  some (aP.mk v2 0)
 else
 some (aP.mk p0 0)
def EC (p0:aP):Option (Int × aP) :=
 if (decide (p0.At ≥ (p0.L.length:Int)))=true then
  some (0,p0)
 else
 (idx p0.L (i64 ((i64 (p0.At+1)) - 1))).bind fun x2 =>
 some (x2,(aP.mk p0.L (i64 (p0.At+1))))
def na (p0:Int) (p1:Int):Option Int :=
 if (decide (p1<1))=true then
  some 0
 else
 (QN p0 p1).bind fun v2 =>
 if (decide (v2<0))=true then
  some (i64 (v2+p1))
 else
 some v2
def jg (p0:aP) (p1:Int):Option (Int × aP) :=
 (EC p0).bind fun r1 =>
 (na r1.1 p1).bind fun r2 =>
 some (r2,r1.2)
def kU (p0:aP) (p1:Int) (p2:Int):Option (Int × aP) :=
 (jg p0 (i64 ((i64 (p2 - p1))+1))).bind fun r1 =>
 some ((i64 (p1+r1.1)),r1.2)
def uw (p0:aP) (p1:List Int):Option (Int × aP) :=
 (jg p0 (p1.length:Int)).bind fun r1 =>
 (idx p1 r1.1).bind fun x2 =>
 some (x2,r1.2)
def EF  (aK:ByteArray→Int→(List Int)→Int→Option (ByteArray × aP)) (t2:ByteArray) (n3:Int) (l4:List Int) (n5:Int):Option (ByteArray × aP) :=
 if (decide (n3 > 0))=true then
  (jg (aP.mk l4 n5) 3).bind fun r7 =>
  (wX t2 (Bv [(IntKind.u8.wrap (i64 (97+r7.1)))])).bind fun t8 =>
  aK t8 (i64 (n3 - 1)) r7.2.L r7.2.At
 else
 some (t2,(aP.mk l4 n5))
def EE :Nat→ByteArray→Int→(List Int)→Int→Option (ByteArray × aP)
 | 0=>fun _ _ _ _=>.none
 | n+1=>EF  (EE n)
def ED (F:Nat) (p0:aP) (p1:Int):Option (ByteArray × aP) :=
 (kU p0 1 p1).bind fun r1 =>
 EE F (ByteArray.mk #[]) r1.1 r1.2.L r1.2.At
def oz (p0:aP) (p1:Int):Option (Bool × aP) :=
 (jg p0 p1).bind fun r1 =>
 some ((r1.1 == (i64 (p1 - 1))),r1.2)
def sj (p0:aP):Option (Int × aP) :=
 (uw p0 [(-1),0,1,2,31,32,99,100,200,201,9999,10000,1000000,1000001,1152921504606846976,1152921504606846977,(-1152921504606846976),9223372036854775807,(-9223372036854775808)]).bind fun r1 =>
 some (r1.1,r1.2)
def CH (p1:Int) (r2:Int × aP) (r3:Int × aP) (l4:List Int) (n5:Int) (n6:Int) (n7:Int) (n8:Int) (n9:Int):Option (aq × aP) :=
 (if (decide (p1 > 0))=true then (oz (aP.mk l4 n5) p1).bind fun fD=>some (fD.1,fD.2.L,fD.2.At) else some (false,l4,n5)).bind fun vN =>
 if vN.1=true then
  (jg (aP.mk vN.2.1 vN.2.2) 6).bind fun iC =>
  if (iC.1 == 0)=true then
   (kU iC.2 (-1) 3).bind fun um =>
   some ((aq.mk um.1 n7 r2.1 r3.1 n8 n9),um.2)
  else
  if (iC.1 == 1)=true then
   (uw iC.2 [0,40,41,(-1)]).bind fun eS =>
   some ((aq.mk n6 eS.1 r2.1 r3.1 n8 n9),eS.2)
  else
  if (iC.1 == 2)=true then
   (sj iC.2).bind fun rY =>
   some ((aq.mk n6 n7 rY.1 r3.1 n8 n9),rY.2)
  else
  if (iC.1 == 3)=true then
   (sj iC.2).bind fun qy =>
   some ((aq.mk n6 n7 r2.1 qy.1 n8 n9),qy.2)
  else
  if (iC.1 == 4)=true then
   (kU iC.2 (-1) 6).bind fun wJ =>
   some ((aq.mk n6 n7 r2.1 r3.1 wJ.1 n9),wJ.2)
  else
  (kU iC.2 (-1) 5).bind fun wL =>
  some ((aq.mk n6 n7 r2.1 r3.1 n8 wL.1),wL.2)
 else
 some ((aq.mk n6 n7 r2.1 r3.1 n8 n9),(aP.mk vN.2.1 vN.2.2))
def CG (p0:aP) (p1:Int):Option (aq × aP) :=
 (kU p0 1 12).bind fun r1 =>
 (jg r1.2 4).bind fun r2 =>
 (jg r2.2 3).bind fun r3 =>
 (jg r3.2 3).bind fun uo =>
 if (uo.1 == 0)=true then
  (kU uo.2 2 5).bind fun cM =>
  (jg cM.2 cM.1).bind fun IA =>
  (kU IA.2 1 3).bind fun kO =>
  CH p1 r2 r3 kO.2.L kO.2.At 2 kO.1 cM.1 IA.1
 else
 CH p1 r2 r3 uo.2.L uo.2.At 1 r1.1 0 0
def EA (p1:Int) (p2:Int) (p3:Int) (t2:ByteArray) (l7:List aq) (fv:Int→(List Int)→Int→(List Int)→Option (ai × aP)) (n11:Int) (Cb:List Int) (n13:Int) (cU:List Int):Option (ai × aP) :=
 if (decide (n11<6))=true then
  (if (n11 != p1)=true then (oz (aP.mk Cb n13) 8).bind fun eS=>some (eS.1,eS.2.L,eS.2.At) else some (false,Cb,n13)).bind fun vO =>
  if vO.1=true then
   (app cU [n11]).bind fun v23 =>
   fv (i64 (n11+1)) vO.2.1 vO.2.2 v23
  else
  fv (i64 (n11+1)) vO.2.1 vO.2.2 cU
 else
 (if (decide (p3 > 0))=true then (oz (aP.mk Cb n13) p3).bind fun uo=>some (uo.1,uo.2.L,uo.2.At) else some (false,Cb,n13)).bind fun qh =>
 if qh.1=true then
  (jg (aP.mk qh.2.1 qh.2.2) 7).bind fun cM =>
  if (cM.1 == 0)=true then
   (sj cM.2).bind fun kO =>
   some ((ai.mk kO.1 p2 t2 l7 cU),kO.2)
  else
  if (cM.1 == 1)=true then
   (uw cM.2 [0,8,9,(-1)]).bind fun o8 =>
   some ((ai.mk p1 o8.1 t2 l7 cU),o8.2)
  else
  if (cM.1 == 2)=true then
   (jg cM.2 3).bind fun lW =>
   (idx ([(ByteArray.mk #[]),(ByteArray.mk #[116,97,98,9]),(ByteArray.mk #[48,49,50,51,52,53,54,55,56,57,48,49,50,51,52,53,54,55,56,57,48,49,50,51,52,53,54,55,56,57,48,49,50,51,52,53,54,55,56,57,120])]) lW.1).bind fun Et =>
   some ((ai.mk p1 p2 Et l7 cU),lW.2)
  else
  if (cM.1 == 3)=true then
   some ((ai.mk p1 p2 t2 [] cU),cM.2)
  else
  if (cM.1 == 4)=true then
   (CG cM.2 1).bind fun uq =>
   (app l7 [uq.1]).bind fun BG =>
   some ((ai.mk p1 p2 t2 BG cU),uq.2)
  else
  if (cM.1 == 5)=true then
   (uw cM.2 [0,p1,(-1),10000,3]).bind fun ur =>
   (app cU [ur.1]).bind fun v45 =>
   some ((ai.mk p1 p2 t2 l7 v45),ur.2)
  else
  (idx l7 0).bind fun Uh =>
  (idx l7 0).bind fun Ui =>
  (idx l7 0).bind fun Uj =>
  (idx l7 0).bind fun Uk =>
  (idx l7 0).bind fun Ul =>
  (idx l7 0).bind fun Um =>
  (app l7 [Uh,Ui,Uj,Uk,Ul,Um]).bind fun BH =>
  some ((ai.mk p1 p2 t2 BH cU),cM.2)
 else
 some ((ai.mk p1 p2 t2 l7 cU),(aP.mk qh.2.1 qh.2.2))
def CF (p1:Int) (p2:Int) (p3:Int) (t2:ByteArray) (l7:List aq):Nat→Int→(List Int)→Int→(List Int)→Option (ai × aP)
 | 0=>fun _ _ _ _=>.none
 | n+1=>EA p1 p2 p3 t2 l7 (CF p1 p2 p3 t2 l7 n)
def Ez (F:Nat) (p1:Int) (p2:Int) (p3:Int) (t2:ByteArray) (aK:Int→(List Int)→Int→(List aq)→Option (ai × aP)) (n4:Int) (l5:List Int) (n6:Int) (l7:List aq):Option (ai × aP) :=
 if (decide (n4 > 0))=true then
  (CG (aP.mk l5 n6) 0).bind fun r9 =>
  (app l7 [r9.1]).bind fun v10 =>
  aK (i64 (n4 - 1)) r9.2.L r9.2.At v10
 else
 CF p1 p2 p3 t2 l7 F 0 l5 n6 ([]:List Int)
def Ey (F:Nat) (p1:Int) (p2:Int) (p3:Int) (t2:ByteArray):Nat→Int→(List Int)→Int→(List aq)→Option (ai × aP)
 | 0=>fun _ _ _ _=>.none
 | n+1=>Ez F p1 p2 p3 t2 (Ey F p1 p2 p3 t2 n)
def Ex (F:Nat) (p0:aP) (p1:Int) (p2:Int) (p3:Int):Option (ai × aP) :=
 (ED F p0 3).bind fun r1 =>
 (wX (ByteArray.mk #[113]) r1.1).bind fun t2 =>
 (kU r1.2 1 3).bind fun r3 =>
 Ey F p1 p2 p3 t2 F r3.1 r3.2.L r3.2.At ([]:List aq)
def CI (p0:aP) (p1:Int):Option (aL × aP) :=
 (kU p0 0 24).bind fun r1 =>
 (kU r1.2 0 3).bind fun r2 =>
 (kU r2.2 0 9).bind fun r3 =>
 (if (decide (p1 > 0))=true then (oz r3.2 p1).bind fun r9=>some (r9.1,r9.2.L,r9.2.At) else some (false,r3.2.L,r3.2.At)).bind fun w7 =>
 if w7.1=true then
  (jg (aP.mk w7.2.1 w7.2.2) 3).bind fun cm =>
  if (cm.1 == 0)=true then
   (sj cm.2).bind fun rH =>
   some ((aL.mk rH.1 r2.1 r3.1),rH.2)
  else
  if (cm.1 == 1)=true then
   (sj cm.2).bind fun fD =>
   some ((aL.mk r1.1 fD.1 r3.1),fD.2)
  else
  (sj cm.2).bind fun fW =>
  some ((aL.mk r1.1 r2.1 fW.1),fW.2)
 else
 some ((aL.mk r1.1 r2.1 r3.1),(aP.mk w7.2.1 w7.2.2))
def Hp (aK:Int→(List Int)→Int→(List Int)→(List ax)→Option (List ax × aP)) (n3:Int) (l7:List ax) (n18:Int) (t20:ByteArray) (mo:List aq) (mq:List Int) (n25:Int) (gT:List Int) (n27:Int) (n28:Int) (n29:Int) (n30:Int) (n31:Int) (n32:Int) (n33:Int) (L5:List Int) (n35:Int):Option (List ax × aP) :=
 (app l7 [(ax.mk (aL.mk n27 n28 n29) n30 (ai.mk n18 n31 t20 mo mq) (bR.mk n32 n33) n25)]).bind fun D8 =>
 (oz (aP.mk L5 n35) 8).bind fun lW =>
 if lW.1=true then
  (jg lW.2 (D8.length:Int)).bind fun Eo =>
  (idx D8 Eo.1).bind fun Ug =>
  (app D8 [Ug]).bind fun v41 =>
  aK (i64 (n3 - 1)) Eo.2.L Eo.2.At gT v41
 else
 aK (i64 (n3 - 1)) lW.2.L lW.2.At gT D8
def MK (aK:Int→(List Int)→Int→(List Int)→(List ax)→Option (List ax × aP)) (p2:Int) (n3:Int) (l7:List ax) (dG:Int × aP) (cm:Int × aP) (L4:List Int) (n16:Int) (n17:Int) (n18:Int) (n19:Int) (t20:ByteArray) (mo:List aq) (mq:List Int) (n23:Int) (n24:Int) (n25:Int) (gT:List Int):Option (List ax × aP) :=
 (if (decide (p2 > 0))=true then (oz (aP.mk L4 n16) p2).bind fun M8=>some (M8.1,M8.2.L,M8.2.At) else some (false,L4,n16)).bind fun Af =>
 if Af.1=true then
  (jg (aP.mk Af.2.1 Af.2.2) 5).bind fun kP =>
  if (kP.1 == 0)=true then
   (kU kP.2 (-1) 8).bind fun z7 =>
   Hp aK n3 l7 n18 t20 mo mq n25 gT (i64 ((l7.length:Int)+dG.1)) cm.1 (l7.length:Int) z7.1 n19 n23 n24 z7.2.L z7.2.At
  else
  if (kP.1 == 1)=true then
   (kU kP.2 (-1) 3).bind fun z8 =>
   Hp aK n3 l7 n18 t20 mo mq n25 gT (i64 ((l7.length:Int)+dG.1)) cm.1 (l7.length:Int) n17 n19 n23 z8.1 z8.2.L z8.2.At
  else
  if (kP.1 == 2)=true then
   (jg kP.2 7).bind fun Aa =>
   Hp aK n3 l7 n18 t20 mo mq n25 gT (i64 ((l7.length:Int)+dG.1)) cm.1 (l7.length:Int) n17 n19 Aa.1 n24 Aa.2.L Aa.2.At
  else
  if (kP.1 == 3)=true then
   (CI kP.2 3).bind fun qZ =>
   Hp aK n3 l7 n18 t20 mo mq n25 gT qZ.1.Time qZ.1.Source qZ.1.Seq n17 n19 n23 n24 qZ.2.L qZ.2.At
  else
  (kU kP.2 0 3).bind fun Ab =>
  Hp aK n3 l7 n18 t20 mo mq n25 gT (i64 ((l7.length:Int)+dG.1)) cm.1 (l7.length:Int) n17 Ab.1 n23 n24 Ab.2.L Ab.2.At
 else
 Hp aK n3 l7 n18 t20 mo mq n25 gT (i64 ((l7.length:Int)+dG.1)) cm.1 (l7.length:Int) n17 n19 n23 n24 Af.2.1 Af.2.2
def ML (aK:Int→(List Int)→Int→(List Int)→(List ax)→Option (List ax × aP)) (F:Nat) (p2:Int) (n3:Int) (l6:List Int) (l7:List ax) (r9:Int × aP) (dG:Int × aP) (cm:Int × aP) (e7:Int × aP) (JL:Int):Option (List ax × aP) :=
 (idx l6 r9.1).bind fun HG =>
 (idx l6 r9.1).bind fun Vm =>
 (idx (l6.set r9.1.toNat (min (i64 (HG+1)) 9)) r9.1).bind fun Q7 =>
 (Ex F e7.2 r9.1 Q7 p2).bind fun rJ =>
 MK aK p2 n3 l7 dG cm rJ.2.L rJ.2.At JL rJ.1.ID rJ.1.Version rJ.1.bJ rJ.1.aH rJ.1.aF 0 0 0 (l6.set r9.1.toNat (min (i64 (HG+1)) 9))
def Ew (F:Nat) (p2:Int) (aK:Int→(List Int)→Int→(List Int)→(List ax)→Option (List ax × aP)) (n3:Int) (l4:List Int) (n5:Int) (l6:List Int) (l7:List ax):Option (List ax × aP) :=
 if (decide (n3 > 0))=true then
  (jg (aP.mk l4 n5) 5).bind fun r9 =>
  (jg r9.2 2).bind fun dG =>
  (jg dG.2 2).bind fun cm =>
  (uw cm.2 [3,4,4,2,5,6]).bind fun dD =>
  (idx l6 r9.1).bind fun fg =>
  (jg dD.2 4).bind fun e7 =>
  ((idx l6 r9.1).bind fun Q6=>if (Q6 == 0)=true then some true else some (dD.1 == 2)).bind fun RN =>
  if RN=true then
   (idx l6 r9.1).bind fun Q8 =>
   if (Q8 == 0)=true then
    ML aK F p2 n3 l6 l7 r9 dG cm e7 1
   else
   ML aK F p2 n3 l6 l7 r9 dG cm e7 2
  else
  MK aK p2 n3 l7 dG cm e7.2.L e7.2.At dD.1 0 0 (ByteArray.mk #[]) ([]:List aq) ([]:List Int) r9.1 (max 1 fg) e7.1 l6
 else
 some (l7,(aP.mk l4 n5))
def Ev (F:Nat) (p2:Int):Nat→Int→(List Int)→Int→(List Int)→(List ax)→Option (List ax × aP)
 | 0=>fun _ _ _ _ _=>.none
 | n+1=>Ew F p2 (Ev F p2 n)
def Kq (F:Nat) (p0:aP) (p1:Int) (p2:Int):Option (List ax × aP) :=
 (z1 (0:Int) 5).bind fun v1 =>
 (kU p0 0 p1).bind fun r2 =>
 Ev F p2 F r2.1 r2.2.L r2.2.At v1 ([]:List ax)
def Gt (p0:List ax) (p1:(ax→Option aL)) (p2:(ax→ax→Option Bool)) (aK:Int→(List aL)→(List Int)→(List (aL × Int))→Option (List aL × List Int)) (n3:Int) (l4:List aL) (l5:List Int) (m6:List (aL × Int)):Option (List aL × List Int) :=
 if (decide (n3<(p0.length:Int)))=true then
  (idx p0 n3).bind fun x8 =>
  (p1 x8).bind fun r9 =>
  (idx l4 n3).bind fun pq =>
  (idx (l4.set n3.toNat r9) n3).bind fun bg =>
  if (!((gU m6 bg).isSome))=true then
   (idx (l4.set n3.toNat r9) n3).bind fun fg =>
   aK (i64 (n3+1)) (l4.set n3.toNat r9) l5 (ee m6 fg n3)
  else
  (idx p0 ((gU m6 bg).getD 0)).bind fun og =>
  (p2 og x8).bind fun fD =>
  if (!fD)=true then
   (idx l5 n3).bind fun qj =>
   aK (i64 (n3+1)) (l4.set n3.toNat r9) (l5.set n3.toNat 1) m6
  else
  aK (i64 (n3+1)) (l4.set n3.toNat r9) l5 m6
 else
 some (l4,l5)
def Ba (p0:List ax) (p1:(ax→Option aL)) (p2:(ax→ax→Option Bool)):Nat→Int→(List aL)→(List Int)→(List (aL × Int))→Option (List aL × List Int)
 | 0=>fun _ _ _ _=>.none
 | n+1=>Gt p0 p1 p2 (Ba p0 p1 p2 n)
def Gw (F:Nat) (p0:List ax) (p1:(ax→Option aL)) (p2:(ax→ax→Option Bool)):Option (List aL × List Int) :=
 (z1 ((aL.mk 0 0 0):aL) (p0.length:Int)).bind fun v1 =>
 (z1 (0:Int) (p0.length:Int)).bind fun v2 =>
 Ba p0 p1 p2 F 0 v1 v2 ([]:List (aL × Int))
def Cv (p0:aL):Option Bool :=
 some ((decide (p0.Time ≥ 0)) && ((decide (p0.Time≤1000000)) && ((decide (p0.Source ≥ 0)) && ((decide (p0.Source≤99)) && ((decide (p0.Seq ≥ 0)) && (decide (p0.Seq≤9999)))))))
def cmp_isNaN_int (p0:Int):Option Bool :=
 some (p0 != p0)
def cL (p0:Int) (p1:Int):Option Int :=
 (cmp_isNaN_int p0).bind fun r1 =>
 (cmp_isNaN_int p1).bind fun r2 =>
 if r1=true then
  if r2=true then
   some 0
  else
  some (-1)
 else
 if r2=true then
  some 1
 else
 if (decide (p0<p1))=true then
  some (-1)
 else
 if (decide (p0 > p1))=true then
  some 1
 else
 some 0
def fA (p0:List Int) (aK:Int→Option Int) (n1:Int):Option Int :=
 if (decide (n1<(p0.length:Int)))=true then
  (idx p0 n1).bind fun x3 =>
  if (x3 != 0)=true then
   some x3
  else
  aK (i64 (n1+1))
 else
 some 0
def eU (p0:List Int):Nat→Int→Option Int
 | 0=>fun _=>.none
 | n+1=>fA p0 (eU p0 n)
def gR (F:Nat) (p0:List Int):Option Int :=
 eU p0 F 0
def DC (F:Nat) (p0:aL) (p1:aL):Option Int :=
 (cL p0.Source p1.Source).bind fun r1 =>
 (cL p0.Seq p1.Seq).bind fun r2 =>
 (gR F [r1,r2]).bind fun r3 =>
 some r3
def vm (F:Nat) (p0:Int) (p1:Int) (c0:List aL):Option Int :=
 (idx c0 p0).bind fun x1 =>
 (idx c0 p1).bind fun x2 =>
 (DC F x1 x2).bind fun r3 =>
 (cL p0 p1).bind fun r4 =>
 (gR F [r3,r4]).bind fun r5 =>
 some r5
def GV (F:Nat) (p0:List aL) (p1:List Int) (l8:List Int) (fv:Int→(List ep)→Option (List ep)) (n9:Int) (gF:List ep):Option (List ep) :=
 if (decide (n9<(l8.length:Int)))=true then
  (idx l8 n9).bind fun gG =>
  (if (decide ((i64 ((gF.length:Int) - 1))<0))=true then some true else (idx gF (i64 ((gF.length:Int) - 1))).bind fun CE=>(idx p0 CE.first).bind fun qj=>(idx p0 gG).bind fun IX=>(DC F qj IX).bind fun um=>some (um != 0)).bind fun IW =>
  if IW=true then
   (app gF [(ep.mk gG false)]).bind fun v21 =>
   fv (i64 (n9+1)) v21
  else
  (idx gF (i64 ((gF.length:Int) - 1))).bind fun Kn =>
  ((idx p0 Kn.first).bind fun M9=>(idx p0 gG).bind fun MI=>if (!(decide (M9=MI)))=true then some true else (idx p1 Kn.first).bind fun RO=>(idx p1 gG).bind fun Na=>some (RO != Na)).bind fun RK =>
  if RK=true then
   (idx gF (i64 ((gF.length:Int) - 1))).bind fun Es =>
   fv (i64 (n9+1)) (gF.set ((i64 ((gF.length:Int) - 1)).toNat) (ep.mk Es.first true))
  else
  fv (i64 (n9+1)) gF
 else
 some gF
def DQ (F:Nat) (p0:List aL) (p1:List Int) (l8:List Int):Nat→Int→(List ep)→Option (List ep)
 | 0=>fun _ _=>.none
 | n+1=>GV F p0 p1 l8 (DQ F p0 p1 l8 n)
def GU (F:Nat) (p0:List aL) (p1:List Int) (aK:Int→(List Int)→Option (List ep)) (n1:Int) (l2:List Int):Option (List ep) :=
 if (decide (n1<(p0.length:Int)))=true then
  (idx p0 n1).bind fun x4 =>
  (Cv x4).bind fun r5 =>
  if r5=true then
   (app l2 [n1]).bind fun v7 =>
   aK (i64 (n1+1)) v7
  else
  aK (i64 (n1+1)) l2
 else
 (p8 (fun a0 a1=>vm F a0 a1 p0) l2).bind fun l8 =>
 DQ F p0 p1 l8 F 0 ([]:List ep)
def DP (F:Nat) (p0:List aL) (p1:List Int):Nat→Int→(List Int)→Option (List ep)
 | 0=>fun _ _=>.none
 | n+1=>GU F p0 p1 (DP F p0 p1 n)
def Cu (F:Nat) (p0:List aL) (p1:List Int):Option (List ep) :=
 DP F p0 p1 F 0 ([]:List Int)
def yT (F:Nat) (p0:aL) (p1:aL):Option Int :=
 (cL p0.Time p1.Time).bind fun r1 =>
 (cL p0.Source p1.Source).bind fun r2 =>
 (cL p0.Seq p1.Seq).bind fun r3 =>
 (gR F [r1,r2,r3]).bind fun r4 =>
 some r4
def DK (F:Nat) (p0:Int) (p1:Int) (c0:List aL):Option Int :=
 (idx c0 p0).bind fun x1 =>
 (idx c0 p1).bind fun x2 =>
 (yT F x1 x2).bind fun r3 =>
 some r3
def GL (F:Nat) (p0:List aL) (r2:List ep) (aK:Int→(List Int)→Option (List Int × Int)) (n3:Int) (l4:List Int):Option (List Int × Int) :=
 if (decide (n3<(r2.length:Int)))=true then
  (idx r2 n3).bind fun x6 =>
  if (!x6.dV)=true then
   (app l4 [x6.first]).bind fun v8 =>
   aK (i64 (n3+1)) v8
  else
  aK (i64 (n3+1)) l4
 else
 if (decide ((l4.length:Int) > 300))=true then
  some ([],3)
 else
 (p8 (fun a0 a1=>DK F a0 a1 p0) l4).bind fun gF =>
 some (gF,0)
def DH (F:Nat) (p0:List aL) (r2:List ep):Nat→Int→(List Int)→Option (List Int × Int)
 | 0=>fun _ _=>.none
 | n+1=>GL F p0 r2 (DH F p0 r2 n)
def DO (F:Nat) (p0:List aL) (p1:List Int):Option (List Int × Int) :=
 if ((p0.length:Int) != (p1.length:Int))=true then
  some ([],1)
 else
 (Cu F p0 p1).bind fun r2 =>
 DH F p0 r2 F 0 ([]:List Int)
def Gv (F:Nat) (p0:List ax) (p1:(ax→Option aL)) (p2:(ax→ax→Option Bool)):Option (List Int × Int) :=
 (Gw F p0 p1 p2).bind fun r1 =>
 (DO F r1.1 r1.2).bind fun r2 =>
 some (r2.1,r2.2)
def Co (p0:ax):Option aL :=
 some p0.ar
def Gu (p0:List aq) (p1:List aq) (aK:Int→Option Bool) (n2:Int):Option Bool :=
 if (decide (n2<(p0.length:Int)))=true then
  (idx p0 n2).bind fun x4 =>
  (idx p1 n2).bind fun x5 =>
  if (!(decide (x4=x5)))=true then
   some false
  else
  aK (i64 (n2+1))
 else
 some true
def DA (p0:List aq) (p1:List aq):Nat→Int→Option Bool
 | 0=>fun _=>.none
 | n+1=>Gu p0 p1 (DA p0 p1 n)
def Gy (F:Nat) (p0:List aq) (p1:List aq):Option Bool :=
 if ((p0.length:Int) != (p1.length:Int))=true then
  some false
 else
 DA p0 p1 F 0
def DB (p0:List Int) (p1:List Int) (aK:Int→Option Bool) (n2:Int):Option Bool :=
 if (decide (n2<(p0.length:Int)))=true then
  (idx p0 n2).bind fun x4 =>
  (idx p1 n2).bind fun x5 =>
  if (x4 != x5)=true then
   some false
  else
  aK (i64 (n2+1))
 else
 some true
def yB (p0:List Int) (p1:List Int):Nat→Int→Option Bool
 | 0=>fun _=>.none
 | n+1=>DB p0 p1 (yB p0 p1 n)
def Bb (F:Nat) (p0:List Int) (p1:List Int):Option Bool :=
 if ((p0.length:Int) != (p1.length:Int))=true then
  some false
 else
 yB p0 p1 F 0
def yQ (F:Nat) (p0:ai) (p1:ai):Option Bool :=
 (if (p0.ID == p1.ID)=true then if (p0.Version == p1.Version)=true then if (decide (p0.bJ=p1.bJ))=true then (Gy F p0.aH p1.aH).bind fun r6=>if r6=true then (Bb F p0.aF p1.aF).bind fun r8=>some r8 else some false else some false else some false else some false).bind fun w2 =>
 some w2
def iJ (F:Nat) (p0:ax) (p1:ax):Option Bool :=
 (if (decide (p0.ar=p1.ar))=true then if (p0.Kind == p1.Kind)=true then if (decide (p0.Ref=p1.Ref))=true then if (p0.Form == p1.Form)=true then (yQ F p0.Item p1.Item).bind fun r7=>some r7 else some false else some false else some false else some false).bind fun w2 =>
 some w2
def y8 (p0:ai):Option ai :=
 (app [] p0.aH).bind fun v1 =>
 (app [] p0.aF).bind fun v2 =>
 some (ai.mk p0.ID p0.Version p0.bJ v1 v2)
def GM (p0:List ax) (r1:List Int × Int) (aK:Int→(List ax)→Option (List ax × Int)) (n4:Int) (l5:List ax):Option (List ax × Int) :=
 if (decide (n4<(r1.1.length:Int)))=true then
  (idx r1.1 n4).bind fun x7 =>
  (idx p0 x7).bind fun x8 =>
  (idx l5 n4).bind fun x9 =>
  (idx p0 x7).bind fun pq =>
  (y8 pq.Item).bind fun cm =>
  (idx (l5.set n4.toNat x8) n4).bind fun gG =>
  aK (i64 (n4+1)) ((l5.set n4.toNat x8).set n4.toNat (ax.mk gG.ar gG.Kind cm gG.Ref gG.Form))
 else
 some (l5,0)
def Bi (p0:List ax) (r1:List Int × Int):Nat→Int→(List ax)→Option (List ax × Int)
 | 0=>fun _ _=>.none
 | n+1=>GM p0 r1 (Bi p0 r1 n)
def yJ (F:Nat) (p0:List ax):Option (List ax × Int) :=
 (Gv F p0 (fun a0=>Co a0) (fun a0 a1=>iJ F a0 a1)).bind fun r1 =>
 if (r1.2 != 0)=true then
  some ([],r1.2)
 else
 (z1 ((ax.mk (aL.mk 0 0 0) 0 (ai.mk 0 0 (ByteArray.mk #[]) [] []) (bR.mk 0 0) 0):ax) (r1.1.length:Int)).bind fun v3 =>
 Bi p0 r1 F 0 v3
def vq (p0:Int):Option Bool :=
 some ((decide (p0 ≥ 0)) && (decide (p0≤9999)))
def GO (p0:ByteArray) (aK:Int→Option Bool) (n1:Int):Option Bool :=
 if (decide (n1<(p0.size:Int)))=true then
  ((zm p0 n1).bind fun x5=>if (decide (x5<32))=true then some true else (zm p0 n1).bind fun x7=>some (decide (x7 > 126))).bind fun w4 =>
  if w4=true then
   some false
  else
  aK (i64 (n1+1))
 else
 some true
def Bk (p0:ByteArray):Nat→Int→Option Bool
 | 0=>fun _=>.none
 | n+1=>GO p0 (Bk p0 n)
def yM (F:Nat) (p0:ByteArray):Option Bool :=
 Bk p0 F 0
def yL (p0:aq):Option Bool :=
 if ((decide (p0.Max<1)) || ((decide (p0.Max > 40)) || ((decide (p0.e9<0)) || ((decide (p0.e9 ≥ 16)) || ((decide (p0.cr<0)) || (decide (p0.cr ≥ 6)))))))=true then
  some false
 else
 if (p0.Kind == 1)=true then
  some ((p0.Options == 0) && (p0.Key == 0))
 else
 if (p0.Kind == 2)=true then
  some ((decide (p0.Options ≥ 2)) && ((decide (p0.Options≤5)) && ((decide (p0.Key ≥ 0)) && (decide (p0.Key<p0.Options)))))
 else
 some false
def Gx (p0:Int) (p1:List Int) (aK:Int→Option Bool) (n1:Int):Option Bool :=
 if (decide (n1<(p1.length:Int)))=true then
  (idx p1 n1).bind fun x3 =>
  ((vq x3).bind fun r6=>if (!r6)=true then some true else if (x3 == p0)=true then some true else if (decide (n1 > 0))=true then (idx p1 (i64 (n1 - 1))).bind fun pq=>some (decide (pq ≥ x3)) else some false).bind fun w5 =>
  if w5=true then
   some false
  else
  aK (i64 (n1+1))
 else
 some true
def DD (p0:Int) (p1:List Int):Nat→Int→Option Bool
 | 0=>fun _=>.none
 | n+1=>Gx p0 p1 (DD p0 p1 n)
def GS (F:Nat) (p0:Int) (p1:List Int):Option Bool :=
 DD p0 p1 F 0
def yE (F:Nat) (p0:ai) (aK:Int→Option Int) (n17:Int):Option Int :=
 if (decide (n17<(p0.aH.length:Int)))=true then
  (idx p0.aH n17).bind fun HE =>
  (yL HE).bind fun En =>
  if (!En)=true then
   some 1
  else
  aK (i64 (n17+1))
 else
 (GS F p0.ID p0.aF).bind fun j6 =>
 if (!j6)=true then
  some 9
 else
 some 0
def vp (F:Nat) (p0:ai):Nat→Int→Option Int
 | 0=>fun _=>.none
 | n+1=>yE F p0 (vp F p0 n)
def tM (F:Nat) (p0:ai):Option Int :=
 ((vq p0.ID).bind fun r3=>if (!r3)=true then some true else if (decide (p0.Version<1))=true then some true else some (decide (p0.Version > 8))).bind fun w2 =>
 if w2=true then
  some 2
 else
 if ((decide ((p0.bJ.size:Int) > 40)) || ((decide ((p0.aH.length:Int) > 6)) || (decide ((p0.aF.length:Int) > 8))))=true then
  some 3
 else
 (if (decide (p0.bJ=(ByteArray.mk #[])))=true then some true else (yM F p0.bJ).bind fun e7=>some (!e7)).bind fun IV =>
 if IV=true then
  some 7
 else
 if ((p0.aH.length:Int) == 0)=true then
  some 10
 else
 vp F p0 F 0
def RG (p0:List ak) (p1:Int) (p2:(ak→Int→Option Int)) (aK:Int→Int→Option (Int × Bool)) (n1:Int) (n2:Int):Option (Int × Bool) :=
 if (decide (n1<n2))=true then
  (idx p0 (i64 (pd .u64 (IntKind.u64.wrap (i64 (n1+n2))) 1))).bind fun x4 =>
  (p2 x4 p1).bind fun r5 =>
  if (decide (r5<0))=true then
   aK (i64 ((i64 (pd .u64 (IntKind.u64.wrap (i64 (n1+n2))) 1))+1)) n2
  else
  aK n1 (i64 (pd .u64 (IntKind.u64.wrap (i64 (n1+n2))) 1))
 else
 (if (decide (n1<(p0.length:Int)))=true then (idx p0 n1).bind fun pq=>(p2 pq p1).bind fun cm=>some (cm == 0) else some false).bind fun w8 =>
 some (n1,w8)
def M7 (p0:List ak) (p1:Int) (p2:(ak→Int→Option Int)):Nat→Int→Int→Option (Int × Bool)
 | 0=>fun _ _=>.none
 | n+1=>RG p0 p1 p2 (M7 p0 p1 p2 n)
def QJ (F:Nat) (p0:List ak) (p1:Int) (p2:(ak→Int→Option Int)):Option (Int × Bool) :=
 M7 p0 p1 p2 F 0 (p0.length:Int)
def tH (p0:ak) (p1:Int):Option Int :=
 (cL p0.ID p1).bind fun r1 =>
 some r1
def vC (F:Nat) (p0:aG) (p1:Int):Option (Int × Bool) :=
 (QJ F p0.aa p1 (fun a0 a1=>tH a0 a1)).bind fun r1 =>
 some (r1.1,r1.2)
def vB (F:Nat) (p0:aG) (p1:ax):Option (Int × aG) :=
 (tM F p1.Item).bind fun r1 =>
 if (r1 != 0)=true then
  some (r1,p0)
 else
 if (p1.Item.Version != 1)=true then
  some (8,p0)
 else
 (vC F p0 p1.Item.ID).bind fun r4 =>
 if r4.2=true then
  some (5,p0)
 else
 if (decide ((p0.aa.length:Int) ≥ 40))=true then
  some (3,p0)
 else
 (y8 p1.Item).bind fun r7 =>
 (Ie p0.aa r4.1 (ak.mk p1.Item.ID [r7] [false] ([]:List ay) false)).bind fun v8 =>
 some (0,(aG.mk v8))
def tJ (F:Nat) (p0:aG) (p1:Int):Option (Option Int) :=
 (vC F p0 p1).bind fun r1 =>
 if (!r1.2)=true then
  some (none:Option Int)
 else
 (idx p0.aa r1.1).bind fun x3 =>
 some (some r1.1)
def vz (F:Nat) (p0:aG) (p1:ax):Option (Int × aG) :=
 (tM F p1.Item).bind fun r1 =>
 if (r1 != 0)=true then
  some (r1,p0)
 else
 (tJ F p0 p1.Item.ID).bind fun r3 =>
 pY r3 (
  some (4,p0)) fun j4 =>
 (idx p0.aa j4).bind fun x5 =>
 if (x5.ae || (p1.Item.Version != (i64 ((x5.ab.length:Int)+1))))=true then
  some (8,p0)
 else
 (y8 p1.Item).bind fun cm =>
 (app x5.ab [cm]).bind fun v12 =>
 (app x5.ah [false]).bind fun se =>
 some (0,(aG.mk (p0.aa.set (j4).toNat (ak.mk x5.ID v12 se x5.Uses x5.ae))))
def vy (F:Nat) (p0:aG) (p1:bR):Option (Option Int) :=
 (tJ F p0 p1.ID).bind fun r1 =>
 pY r1 (
  some (none:Option Int)) fun j2 =>
 (idx p0.aa j2).bind fun x3 =>
 if ((decide (p1.Version<1)) || (decide (p1.Version > (x3.ab.length:Int))))=true then
  some (none:Option Int)
 else
 some (some j2)
def vw (F:Nat) (p0:aG) (p1:ax):Option (Int × aG) :=
 (vy F p0 p1.Ref).bind fun r1 =>
 pY r1 (
  some (4,p0)) fun j2 =>
 (idx p0.aa j2).bind fun x3 =>
 if x3.ae=true then
  some (8,p0)
 else
 (idx x3.ah (i64 (p1.Ref.Version - 1))).bind fun x7 =>
 if x7=true then
  some (5,p0)
 else
 (idx x3.ah (i64 (p1.Ref.Version - 1))).bind fun x9 =>
 some (0,(aG.mk (p0.aa.set (j2).toNat (ak.mk x3.ID x3.ab (x3.ah.set ((i64 (p1.Ref.Version - 1)).toNat) true) x3.Uses x3.ae))))
def Cw (p0:ay) (c0:ax):Option Bool :=
 some (p0.Form == c0.Form)
def Gp (p0:List ay) (p1:(ay→Option Bool)) (aK:Int→Option Int) (n1:Int):Option Int :=
 if (decide (n1<(p0.length:Int)))=true then
  (idx p0 n1).bind fun x3 =>
  (p1 x3).bind fun r4 =>
  if r4=true then
   some n1
  else
  aK (i64 (n1+1))
 else
 some (-1)
def Mq (p0:List ay) (p1:(ay→Option Bool)):Nat→Int→Option Int
 | 0=>fun _=>.none
 | n+1=>Gp p0 p1 (Mq p0 p1 n)
def Iy (F:Nat) (p0:List ay) (p1:(ay→Option Bool)):Option Int :=
 Mq p0 p1 F 0
def Dz (F:Nat) (p0:List ay) (p1:(ay→Option Bool)):Option Bool :=
 (Iy F p0 p1).bind fun r1 =>
 some (decide (r1 ≥ 0))
def lq (F:Nat) (p0:aG) (p1:ax):Option (Int × aG) :=
 (vy F p0 p1.Ref).bind fun r1 =>
 pY r1 (
  some (4,p0)) fun j2 =>
 (idx p0.aa j2).bind fun x3 =>
 (if x3.ae=true then some true else (idx x3.ah (i64 (p1.Ref.Version - 1))).bind fun x9=>some (!x9)).bind fun w7 =>
 if w7=true then
  some (8,p0)
 else
 (Dz F x3.Uses (fun a0=>Cw a0 p1)).bind fun cm =>
 if cm=true then
  some (5,p0)
 else
 if (decide ((x3.Uses.length:Int) ≥ 300))=true then
  some (3,p0)
 else
 (app x3.Uses [(ay.mk p1.Ref.Version p1.Form p1.ar.Time)]).bind fun kR =>
 some (0,(aG.mk (p0.aa.set (j2).toNat (ak.mk x3.ID x3.ab x3.ah kR x3.ae))))
def yZ (F:Nat) (p0:aG) (p1:ax) (c0:Bool):Option (Int × aG) :=
 (tJ F p0 p1.Ref.ID).bind fun r1 =>
 pY r1 (
  some (4,p0)) fun j2 =>
 (idx p0.aa j2).bind fun x3 =>
 if (x3.ae == c0)=true then
  some (8,p0)
 else
 some (0,(aG.mk (p0.aa.set (j2).toNat (ak.mk x3.ID x3.ab x3.ah x3.Uses c0))))
def JX (F:Nat) (p0:Bool):Option Bool :=
 some p0
def ba:List (Int × Nat):=[(1,1),(2,2),(3,3),(4,4),(5,5),(6,6)]
def J7 (F:Nat):Option (List (Int × Nat)) :=
 some (ee (ee (ee (ee (ee (ee ([]:List (Int × Nat)) 1 1) 2 2) 3 3) 4 4) 5 5) 6 6)
def yK (F:Nat) (p1:Int) (r1:List ax × Int) (aK:Int→(List cg)→(List ak)→Option (aG × List cg × Int)) (n3:Int) (l4:List cg) (l5:List ak):Option (aG × List cg × Int) :=
 if (decide (n3<(r1.1.length:Int)))=true then
  (idx r1.1 n3).bind fun x7 =>
  if (decide (x7.ar.Time > p1))=true then
   some ((aG.mk l5),l4,0)
  else
  if (x7.Kind == 1)=true then
   (vB F (aG.mk l5) x7).bind fun cm =>
   if (cm.1 != 0)=true then
    (app l4 [(cg.mk (si.mk x7.ar.Source x7.ar.Seq) cm.1)]).bind fun se =>
    aK (i64 (n3+1)) se cm.2.aa
   else
   aK (i64 (n3+1)) l4 cm.2.aa
  else
  if (x7.Kind == 2)=true then
   (vz F (aG.mk l5) x7).bind fun fW =>
   if (fW.1 != 0)=true then
    (app l4 [(cg.mk (si.mk x7.ar.Source x7.ar.Seq) fW.1)]).bind fun qf =>
    aK (i64 (n3+1)) qf fW.2.aa
   else
   aK (i64 (n3+1)) l4 fW.2.aa
  else
  if (x7.Kind == 3)=true then
   (vw F (aG.mk l5) x7).bind fun eS =>
   if (eS.1 != 0)=true then
    (app l4 [(cg.mk (si.mk x7.ar.Source x7.ar.Seq) eS.1)]).bind fun v23 =>
    aK (i64 (n3+1)) v23 eS.2.aa
   else
   aK (i64 (n3+1)) l4 eS.2.aa
  else
  if (x7.Kind == 4)=true then
   (lq F (aG.mk l5) x7).bind fun jA =>
   if (jA.1 != 0)=true then
    (app l4 [(cg.mk (si.mk x7.ar.Source x7.ar.Seq) jA.1)]).bind fun v28 =>
    aK (i64 (n3+1)) v28 jA.2.aa
   else
   aK (i64 (n3+1)) l4 jA.2.aa
  else
  if (x7.Kind == 5)=true then
   (yZ F (aG.mk l5) x7 true).bind fun cM =>
   if (cM.1 != 0)=true then
    (app l4 [(cg.mk (si.mk x7.ar.Source x7.ar.Seq) cM.1)]).bind fun v33 =>
    aK (i64 (n3+1)) v33 cM.2.aa
   else
   aK (i64 (n3+1)) l4 cM.2.aa
  else
  if (x7.Kind == 6)=true then
   (yZ F (aG.mk l5) x7 false).bind fun rI =>
   if (rI.1 != 0)=true then
    (app l4 [(cg.mk (si.mk x7.ar.Source x7.ar.Seq) rI.1)]).bind fun MF =>
    aK (i64 (n3+1)) MF rI.2.aa
   else
   aK (i64 (n3+1)) l4 rI.2.aa
  else
  if (2 != 0)=true then
   (app l4 [(cg.mk (si.mk x7.ar.Source x7.ar.Seq) 2)]).bind fun v41 =>
   aK (i64 (n3+1)) v41 l5
  else
  aK (i64 (n3+1)) l4 l5
 else
 some ((aG.mk l5),l4,0)
def wH (F:Nat) (p1:Int) (r1:List ax × Int):Nat→Int→(List cg)→(List ak)→Option (aG × List cg × Int)
 | 0=>fun _ _ _=>.none
 | n+1=>yK F p1 r1 (wH F p1 r1 n)
def lp (F:Nat) (p0:List ax) (p1:Int):Option (aG × List cg × Int) :=
 (yJ F p0).bind fun r1 =>
 if (r1.2 != 0)=true then
  some ((aG.mk []),[],r1.2)
 else
 wH F p1 r1 F 0 ([]:List cg) ([]:List ak)
def GP (p0:ai) (p1:ai) (aK:Int→(List Int)→Option (List Int)) (n1:Int) (l2:List Int):Option (List Int) :=
 if (decide (n1<(max (p0.aH.length:Int) (p1.aH.length:Int))))=true then
  (if (decide (n1 ≥ (p0.aH.length:Int)))=true then some true else if (decide (n1 ≥ (p1.aH.length:Int)))=true then some true else (idx p0.aH n1).bind fun x8=>(idx p1.aH n1).bind fun x9=>some (!(decide (x8=x9)))).bind fun w5 =>
  if w5=true then
   (app l2 [n1]).bind fun v11 =>
   aK (i64 (n1+1)) v11
  else
  aK (i64 (n1+1)) l2
 else
 some l2
def Bl (p0:ai) (p1:ai):Nat→Int→(List Int)→Option (List Int)
 | 0=>fun _ _=>.none
 | n+1=>GP p0 p1 (Bl p0 p1 n)
def Ct (F:Nat) (p0:ai) (p1:ai):Option (List Int) :=
 Bl p0 p1 F 0 ([]:List Int)
def Cp (p0:List Int) (p1:List Int) (aK:Int→Option Bool) (n2:Int):Option Bool :=
 if (decide (n2<(p0.length:Int)))=true then
  (idx p0 n2).bind fun x4 =>
  (idx p1 n2).bind fun x5 =>
  if (x4 != x5)=true then
   some false
  else
  aK (i64 (n2+1))
 else
 some true
def vu (p0:List Int) (p1:List Int):Nat→Int→Option Bool
 | 0=>fun _=>.none
 | n+1=>Cp p0 p1 (vu p0 p1 n)
def vE (F:Nat) (p0:List Int) (p1:List Int):Option Bool :=
 if ((p0.length:Int) != (p1.length:Int))=true then
  some false
 else
 vu p0 p1 F 0
def vF (F:Nat) (p0:ai) (p1:ai):Option Bool :=
 (if (p0.ID == p1.ID)=true then if (p0.Version == p1.Version)=true then if (decide (p0.bJ=p1.bJ))=true then if ((p0.aH.length:Int) == (p1.aH.length:Int))=true then (Ct F p0 p1).bind fun r7=>if ((r7.length:Int) == 0)=true then (vE F p0.aF p1.aF).bind fun r9=>some r9 else some false else some false else some false else some false else some false).bind fun w2 =>
 some w2
def y4 (F:Nat) (p0:ax) (p1:ax):Option Bool :=
 (if (decide (p0.ar=p1.ar))=true then if (p0.Kind == p1.Kind)=true then if (decide (p0.Ref=p1.Ref))=true then if (p0.Form == p1.Form)=true then (vF F p0.Item p1.Item).bind fun r7=>some r7 else some false else some false else some false else some false).bind fun w2 =>
 some w2
def yW (p0:aL):Option Bool :=
 some ((decide (p0.Time ≥ 0)) && ((decide (p0.Time≤1000000)) && ((decide (p0.Source ≥ 0)) && ((decide (p0.Source≤99)) && ((decide (p0.Seq ≥ 0)) && (decide (p0.Seq≤9999)))))))
def Cr (p0:aL) (p1:aL) (p2:Int) (p3:Int):Option Bool :=
 some ((p0.Source == p1.Source) && ((p0.Seq == p1.Seq) && ((p0.Time != p1.Time) || (p2 != p3))))
def DJ (p0:List aL) (p1:List Int) (p2:Int) (aK:Int→Option Bool) (n4:Int):Option Bool :=
 if (decide (n4<(p0.length:Int)))=true then
  ((idx p0 n4).bind fun x8=>(yW x8).bind fun r9=>if r9=true then (idx p0 p2).bind fun bg=>(idx p0 n4).bind fun gG=>(idx p1 p2).bind fun fg=>(idx p1 n4).bind fun og=>(Cr bg gG fg og).bind fun fD=>if fD=true then some true else if (decide (n4<p2))=true then (idx p0 n4).bind fun IX=>(idx p0 p2).bind fun HE=>some (decide (IX=HE)) else some false else some false).bind fun w7 =>
  if w7=true then
   some false
  else
  aK (i64 (n4+1))
 else
 some true
def DN (p0:List aL) (p1:List Int) (p2:Int):Nat→Int→Option Bool
 | 0=>fun _=>.none
 | n+1=>DJ p0 p1 p2 (DN p0 p1 p2 n)
def yU (F:Nat) (p0:List aL) (p1:List Int) (p2:Int):Option Bool :=
 (idx p0 p2).bind fun x1 =>
 (yW x1).bind fun r2 =>
 if (!r2)=true then
  some false
 else
 DN p0 p1 p2 F 0
def zf (p0:Int) (p1:Int):Option Int :=
 if (decide (p0<p1))=true then
  some (-1)
 else
 if (decide (p0 > p1))=true then
  some 1
 else
 some 0
def yR (p0:aL) (p1:aL):Option Int :=
 (zf p0.Time p1.Time).bind fun r1 =>
 if (r1 == 0)=true then
  (zf p0.Source p1.Source).bind fun r3 =>
  if (r3 == 0)=true then
   (zf p0.Seq p1.Seq).bind fun r5 =>
   some r5
  else
  some r3
 else
 if (r1 == 0)=true then
  (zf p0.Seq p1.Seq).bind fun r7 =>
  some r7
 else
 some r1
def GH (aK:(List Int)→Int→Option (List Int × Int)) (p0:List aL) (l2:List Int) (n3:Int) (fv:Int→Option (List Int × Int)) (n7:Int):Option (List Int × Int) :=
 (if (decide (n7 > 0))=true then (idx l2 (i64 (n7 - 1))).bind fun bg=>(idx p0 bg).bind fun gG=>(idx p0 n3).bind fun fg=>(yR gG fg).bind fun e7=>some (decide (e7 > 0)) else some false).bind fun w9 =>
 if w9=true then
  fv (i64 (n7 - 1))
 else
 (Ep l2 0 n7).bind fun Er =>
 (app [] Er).bind fun v17 =>
 (app v17 [n3]).bind fun qf =>
 (Ep l2 n7 (l2.length:Int)).bind fun rm =>
 (app qf rm).bind fun v20 =>
 aK v20 (i64 (n3+1))
def DG (aK:(List Int)→Int→Option (List Int × Int)) (p0:List aL) (l2:List Int) (n3:Int):Nat→Int→Option (List Int × Int)
 | 0=>fun _=>.none
 | n+1=>GH aK p0 l2 n3 (DG aK p0 l2 n3 n)
def GG (F:Nat) (p0:List aL) (p1:List Int) (aK:(List Int)→Int→Option (List Int × Int)) (l2:List Int) (n3:Int):Option (List Int × Int) :=
 if (decide (n3<(p0.length:Int)))=true then
  (yU F p0 p1 n3).bind fun r5 =>
  if (!r5)=true then
   aK l2 (i64 (n3+1))
  else
  DG aK p0 l2 n3 F (l2.length:Int)
 else
 if (decide ((l2.length:Int) > 300))=true then
  some ([],3)
 else
 some (l2,0)
def DF (F:Nat) (p0:List aL) (p1:List Int):Nat→(List Int)→Int→Option (List Int × Int)
 | 0=>fun _ _=>.none
 | n+1=>GG F p0 p1 (DF F p0 p1 n)
def DM (F:Nat) (p0:List aL) (p1:List Int):Option (List Int × Int) :=
 if ((p1.length:Int) != (p0.length:Int))=true then
  some ([],1)
 else
 DF F p0 p1 F ([]:List Int) 0
def GJ (aK:Int→(List aL)→(List Int)→Option (List ax × Int)) (F:Nat) (p0:List ax) (n1:Int) (l2:List aL) (l3:List Int) (fv:Int→Int→Option (List ax × Int)) (n5:Int) (n6:Int):Option (List ax × Int) :=
 if (decide (n6 ≥ 0))=true then
  (idx p0 n1).bind fun x8 =>
  (idx p0 n6).bind fun x9 =>
  (y4 F x8 x9).bind fun dG =>
  if dG=true then
   fv n6 (i64 (n6 - 1))
  else
  fv n5 (i64 (n6 - 1))
 else
 (idx p0 n1).bind fun gG =>
 (app l2 [gG.ar]).bind fun se =>
 (app l3 [n5]).bind fun kR =>
 aK (i64 (n1+1)) se kR
def Bg (aK:Int→(List aL)→(List Int)→Option (List ax × Int)) (F:Nat) (p0:List ax) (n1:Int) (l2:List aL) (l3:List Int):Nat→Int→Int→Option (List ax × Int)
 | 0=>fun _ _=>.none
 | n+1=>GJ aK F p0 n1 l2 l3 (Bg aK F p0 n1 l2 l3 n)
def GK (p0:List ax) (fD:List Int × Int) (o9:Int→(List ax)→Option (List ax × Int)) (n17:Int) (xp:List ax):Option (List ax × Int) :=
 if (decide (n17<(fD.1.length:Int)))=true then
  (idx fD.1 n17).bind fun HF =>
  (idx p0 HF).bind fun xt =>
  (app xp [xt]).bind fun v22 =>
  o9 (i64 (n17+1)) v22
 else
 some (xp,0)
def Bh (p0:List ax) (fD:List Int × Int):Nat→Int→(List ax)→Option (List ax × Int)
 | 0=>fun _ _=>.none
 | n+1=>GK p0 fD (Bh p0 fD n)
def GI (F:Nat) (p0:List ax) (aK:Int→(List aL)→(List Int)→Option (List ax × Int)) (n1:Int) (l2:List aL) (l3:List Int):Option (List ax × Int) :=
 if (decide (n1<(p0.length:Int)))=true then
  Bg aK F p0 n1 l2 l3 F n1 (i64 (n1 - 1))
 else
 (DM F l2 l3).bind fun fD =>
 if (fD.2 != 0)=true then
  some ([],fD.2)
 else
 Bh p0 fD F 0 ([]:List ax)
def y6 (F:Nat) (p0:List ax):Nat→Int→(List aL)→(List Int)→Option (List ax × Int)
 | 0=>fun _ _ _=>.none
 | n+1=>GI F p0 (y6 F p0 n)
def Cq (F:Nat) (p0:List ax):Option (List ax × Int) :=
 y6 F p0 F 0 ([]:List aL) ([]:List Int)
def yG (p0:aq):Option Bool :=
 if ((decide (p0.Max<1)) || ((decide (p0.Max > 40)) || ((decide (p0.e9<0)) || ((decide (p0.e9 ≥ 16)) || ((decide (p0.cr<0)) || (decide (p0.cr ≥ 6)))))))=true then
  some false
 else
 if (p0.Kind == 1)=true then
  some ((p0.Options == 0) && (p0.Key == 0))
 else
 some ((p0.Kind == 2) && ((decide (p0.Options ≥ 2)) && ((decide (p0.Options≤5)) && ((decide (p0.Key ≥ 0)) && (decide (p0.Key<p0.Options))))))
def yw (p0:ai) (o9:Int→Option Int) (n25:Int):Option Int :=
 if (decide (n25<(p0.aF.length:Int)))=true then
  ((idx p0.aF n25).bind fun Na=>if (decide (Na<0))=true then some true else (idx p0.aF n25).bind fun Es=>if (decide (Es > 9999))=true then some true else (idx p0.aF n25).bind fun Uf=>if (Uf == p0.ID)=true then some true else if (decide (n25 > 0))=true then (idx p0.aF (i64 (n25 - 1))).bind fun Vk=>(idx p0.aF n25).bind fun Vl=>some (decide (Vk ≥ Vl)) else some false).bind fun RL =>
  if RL=true then
   some 9
  else
  o9 (i64 (n25+1))
 else
 some 0
def za (p0:ai):Nat→Int→Option Int
 | 0=>fun _=>.none
 | n+1=>yw p0 (za p0 n)
def yv (F:Nat) (p0:ai) (fv:Int→Option Int) (n20:Int):Option Int :=
 if (decide (n20<(p0.aH.length:Int)))=true then
  (idx p0.aH n20).bind fun Kn =>
  (yG Kn).bind fun rY =>
  if (!rY)=true then
   some 1
  else
  fv (i64 (n20+1))
 else
 za p0 F 0
def y9 (F:Nat) (p0:ai):Nat→Int→Option Int
 | 0=>fun _=>.none
 | n+1=>yv F p0 (y9 F p0 n)
def yu (F:Nat) (p0:ai) (aK:Int→Option Int) (n11:Int):Option Int :=
 if (decide (n11<(p0.bJ.size:Int)))=true then
  ((zm p0.bJ n11).bind fun Km=>if (decide (Km<32))=true then some true else (zm p0.bJ n11).bind fun qj=>some (decide (qj > 126))).bind fun IW =>
  if IW=true then
   some 7
  else
  aK (i64 (n11+1))
 else
 if ((p0.aH.length:Int) == 0)=true then
  some 10
 else
 y9 F p0 F 0
def Bo (F:Nat) (p0:ai):Nat→Int→Option Int
 | 0=>fun _=>.none
 | n+1=>yu F p0 (Bo F p0 n)
def tK (F:Nat) (p0:ai):Option Int :=
 if ((decide (p0.ID<0)) || ((decide (p0.ID > 9999)) || ((decide (p0.Version<1)) || (decide (p0.Version > 8)))))=true then
  some 2
 else
 if ((decide ((p0.bJ.size:Int) > 40)) || ((decide ((p0.aH.length:Int) > 6)) || (decide ((p0.aF.length:Int) > 8))))=true then
  some 3
 else
 if (decide (p0.bJ=(ByteArray.mk #[])))=true then
  some 7
 else
 Bo F p0 F 0
def yz (aK:Int→Option Bool) (n2:Int) (x4:ak) (o9:Int→Option Bool) (n28:Int):Option Bool :=
 if (decide (n28<(x4.Uses.length:Int)))=true then
  ((idx x4.Uses n28).bind fun Ue=>if (decide (Ue.Version<1))=true then some true else (idx x4.Uses n28).bind fun Vj=>some (decide (Vj.Version > (x4.ab.length:Int)))).bind fun RM =>
  if RM=true then
   some false
  else
  o9 (i64 (n28+1))
 else
 aK (i64 (n2+1))
def zd (aK:Int→Option Bool) (n2:Int) (x4:ak):Nat→Int→Option Bool
 | 0=>fun _=>.none
 | n+1=>yz aK n2 x4 (zd aK n2 x4 n)
def yy (aK:Int→Option Bool) (F:Nat) (n2:Int) (x4:ak) (fv:Int→Option Bool) (n17:Int):Option Bool :=
 if (decide (n17<(x4.ab.length:Int)))=true then
  ((idx x4.ab n17).bind fun xt=>(tK F xt).bind fun j6=>if (j6 != 0)=true then some true else (idx x4.ab n17).bind fun Ud=>if (Ud.ID != x4.ID)=true then some true else (idx x4.ab n17).bind fun MI=>some (MI.Version != (i64 (n17+1)))).bind fun RJ =>
  if RJ=true then
   some false
  else
  fv (i64 (n17+1))
 else
 zd aK n2 x4 F 0
def zb (aK:Int→Option Bool) (F:Nat) (n2:Int) (x4:ak):Nat→Int→Option Bool
 | 0=>fun _=>.none
 | n+1=>yy aK F n2 x4 (zb aK F n2 x4 n)
def yx (F:Nat) (p0:aG) (aK:Int→Option Bool) (n2:Int):Option Bool :=
 if (decide (n2<(p0.aa.length:Int)))=true then
  (idx p0.aa n2).bind fun x4 =>
  (if (decide (n2 > 0))=true then (idx p0.aa (i64 (n2 - 1))).bind fun x8=>if (decide (x8.ID ≥ x4.ID))=true then some true else if (decide ((x4.ab.length:Int)<1))=true then some true else if (decide ((x4.ab.length:Int) > 8))=true then some true else if ((x4.ah.length:Int) != (x4.ab.length:Int))=true then some true else some (decide ((x4.Uses.length:Int) > 300)) else if (decide ((x4.ab.length:Int)<1))=true then some true else if (decide ((x4.ab.length:Int) > 8))=true then some true else if ((x4.ah.length:Int) != (x4.ab.length:Int))=true then some true else some (decide ((x4.Uses.length:Int) > 300))).bind fun w6 =>
  if w6=true then
   some false
  else
  zb aK F n2 x4 F 0
 else
 some true
def Cy (F:Nat) (p0:aG):Nat→Int→Option Bool
 | 0=>fun _=>.none
 | n+1=>yx F p0 (Cy F p0 n)
def yX (F:Nat) (p0:aG):Option Bool :=
 if (decide ((p0.aa.length:Int) > 40))=true then
  some false
 else
 Cy F p0 F 0
def yA (p0:aG) (p1:Int) (aK:Int→Option Int) (n1:Int):Option Int :=
 if (decide (n1<(p0.aa.length:Int)))=true then
  (idx p0.aa n1).bind fun x3 =>
  if (x3.ID == p1)=true then
   some n1
  else
  aK (i64 (n1+1))
 else
 some (-1)
def DR (p0:aG) (p1:Int):Nat→Int→Option Int
 | 0=>fun _=>.none
 | n+1=>yA p0 p1 (DR p0 p1 n)
def wI (F:Nat) (p0:aG) (p1:Int):Option Int :=
 DR p0 p1 F 0
def vv (aK:Bool→Int→(List ak)→Option aG) (p0:aG) (p1:ak) (n2:Int) (b5:Bool) (l6:List ak):Option aG :=
 (idx p0.aa n2).bind fun x7 =>
 if (x7.ID != p1.ID)=true then
  (idx p0.aa n2).bind fun x9 =>
  (app l6 [x9]).bind fun v10 =>
  aK b5 (i64 (n2+1)) v10
 else
 aK b5 (i64 (n2+1)) l6
def yI (p0:aG) (p1:ak) (aK:Bool→Int→(List ak)→Option aG) (b1:Bool) (n2:Int) (l3:List ak):Option aG :=
 if (decide (n2<(p0.aa.length:Int)))=true then
  (if (!b1)=true then (idx p0.aa n2).bind fun og=>some (decide (og.ID ≥ p1.ID)) else some false).bind fun IV =>
  if IV=true then
   (app l3 [p1]).bind fun Er =>
   vv aK p0 p1 n2 true Er
  else
  vv aK p0 p1 n2 b1 l3
 else
 if (!b1)=true then
  (app l3 [p1]).bind fun qf =>
  some (aG.mk qf)
 else
 some (aG.mk l3)
def ze (p0:aG) (p1:ak):Nat→Bool→Int→(List ak)→Option aG
 | 0=>fun _ _ _=>.none
 | n+1=>yI p0 p1 (ze p0 p1 n)
def uI (F:Nat) (p0:aG) (p1:ak):Option aG :=
 ze p0 p1 F false 0 ([]:List ak)
def yY (F:Nat) (p0:aG) (p1:ai):Option (aG × Int) :=
 (tK F p1).bind fun r1 =>
 if (r1 != 0)=true then
  some ((aG.mk []),r1)
 else
 if (p1.Version != 1)=true then
  some ((aG.mk []),8)
 else
 (wI F p0 p1.ID).bind fun r4 =>
 if (decide (r4 ≥ 0))=true then
  some ((aG.mk []),5)
 else
 if ((p0.aa.length:Int) == 40)=true then
  some ((aG.mk []),3)
 else
 (uI F p0 (ak.mk p1.ID [p1] [false] ([]:List ay) false)).bind fun r7 =>
 some (r7,0)
def yV (F:Nat) (p0:aG) (p1:ai):Option (aG × Int) :=
 (tK F p1).bind fun r1 =>
 if (r1 != 0)=true then
  some ((aG.mk []),r1)
 else
 (wI F p0 p1.ID).bind fun r3 =>
 if (decide (r3<0))=true then
  some ((aG.mk []),4)
 else
 (idx p0.aa r3).bind fun x5 =>
 if (x5.ae || (p1.Version != (i64 ((x5.ab.length:Int)+1))))=true then
  some ((aG.mk []),8)
 else
 (app [] x5.ab).bind fun v9 =>
 (app [] x5.ah).bind fun v10 =>
 (app v9 [p1]).bind fun v11 =>
 (app v10 [false]).bind fun v12 =>
 (uI F p0 (ak.mk x5.ID v11 v12 x5.Uses x5.ae)).bind fun rH =>
 some (rH,0)
def yS (F:Nat) (p0:aG) (p1:bR):Option (aG × Int) :=
 (wI F p0 p1.ID).bind fun r1 =>
 (if (decide (r1<0))=true then some true else if (decide (p1.Version<1))=true then some true else (idx p0.aa r1).bind fun x6=>some (decide (p1.Version > (x6.ab.length:Int)))).bind fun w3 =>
 if w3=true then
  some ((aG.mk []),4)
 else
 (idx p0.aa r1).bind fun x8 =>
 if x8.ae=true then
  some ((aG.mk []),8)
 else
 (idx x8.ah (i64 (p1.Version - 1))).bind fun pq =>
 if pq=true then
  some ((aG.mk []),5)
 else
 (app [] x8.ah).bind fun v12 =>
 (idx v12 (i64 (p1.Version - 1))).bind fun fg =>
 (uI F p0 (ak.mk x8.ID x8.ab (v12.set ((i64 (p1.Version - 1)).toNat) true) x8.Uses x8.ae)).bind fun e7 =>
 some (e7,0)
def yO (F:Nat) (p0:aG) (p1:bR) (p2:Int) (p3:Int) (x8:ak) (aK:Int→Option (aG × Int)) (n14:Int):Option (aG × Int) :=
 if (decide (n14<(x8.Uses.length:Int)))=true then
  (idx x8.Uses n14).bind fun CE =>
  if (CE.Form == p2)=true then
   some ((aG.mk []),5)
  else
  aK (i64 (n14+1))
 else
 if ((x8.Uses.length:Int) == 300)=true then
  some ((aG.mk []),3)
 else
 (app [] x8.Uses).bind fun rm =>
 (app rm [(ay.mk p1.Version p2 p3)]).bind fun v20 =>
 (uI F p0 (ak.mk x8.ID x8.ab x8.ah v20 x8.ae)).bind fun eS =>
 some (eS,0)
def tI (F:Nat) (p0:aG) (p1:bR) (p2:Int) (p3:Int) (x8:ak):Nat→Int→Option (aG × Int)
 | 0=>fun _=>.none
 | n+1=>yO F p0 p1 p2 p3 x8 (tI F p0 p1 p2 p3 x8 n)
def lK (F:Nat) (p0:aG) (p1:bR) (p2:Int) (p3:Int):Option (aG × Int) :=
 (wI F p0 p1.ID).bind fun r1 =>
 (if (decide (r1<0))=true then some true else if (decide (p1.Version<1))=true then some true else (idx p0.aa r1).bind fun x6=>some (decide (p1.Version > (x6.ab.length:Int)))).bind fun w3 =>
 if w3=true then
  some ((aG.mk []),4)
 else
 (idx p0.aa r1).bind fun x8 =>
 (if x8.ae=true then some true else (idx x8.ah (i64 (p1.Version - 1))).bind fun gG=>some (!gG)).bind fun D9 =>
 if D9=true then
  some ((aG.mk []),8)
 else
 tI F p0 p1 p2 p3 x8 F 0
def DS (F:Nat) (p0:aG) (p1:Int) (p2:Bool):Option (aG × Int) :=
 (wI F p0 p1).bind fun r1 =>
 if (decide (r1<0))=true then
  some ((aG.mk []),4)
 else
 (idx p0.aa r1).bind fun x3 =>
 if (x3.ae == p2)=true then
  some ((aG.mk []),8)
 else
 (uI F p0 (ak.mk x3.ID x3.ab x3.ah x3.Uses p2)).bind fun r5 =>
 some (r5,0)
def tL (F:Nat) (p0:aG) (p1:ax):Option (aG × Int) :=
 (yX F p0).bind fun r1 =>
 if (!r1)=true then
  some ((aG.mk []),1)
 else
 if (p1.Kind == 1)=true then
  (yY F p0 p1.Item).bind fun r4 =>
  some (r4.1,r4.2)
 else
 if (p1.Kind == 2)=true then
  (yV F p0 p1.Item).bind fun r6 =>
  some (r6.1,r6.2)
 else
 if (p1.Kind == 3)=true then
  (yS F p0 p1.Ref).bind fun r8 =>
  some (r8.1,r8.2)
 else
 if (p1.Kind == 4)=true then
  (lK F p0 p1.Ref p1.Form p1.ar.Time).bind fun dG =>
  some (dG.1,dG.2)
 else
 if (p1.Kind == 5)=true then
  (DS F p0 p1.Ref.ID true).bind fun dD =>
  some (dD.1,dD.2)
 else
 if (p1.Kind == 6)=true then
  (DS F p0 p1.Ref.ID false).bind fun e7 =>
  some (e7.1,e7.2)
 else
 some ((aG.mk []),2)
def yH (F:Nat) (p1:Int) (r1:List ax × Int) (aK:Int→(List ak)→(List cg)→Option (aG × List cg × Int)) (n3:Int) (l4:List ak) (l5:List cg):Option (aG × List cg × Int) :=
 if (decide (n3<(r1.1.length:Int)))=true then
  (idx r1.1 n3).bind fun x7 =>
  if (decide (x7.ar.Time > p1))=true then
   aK (i64 (n3+1)) l4 l5
  else
  (idx r1.1 n3).bind fun x9 =>
  (tL F (aG.mk l4) x9).bind fun dG =>
  if (dG.2 != 0)=true then
   (idx r1.1 n3).bind fun gG =>
   (idx r1.1 n3).bind fun fg =>
   (app l5 [(cg.mk (si.mk gG.ar.Source fg.ar.Seq) dG.2)]).bind fun kR =>
   aK (i64 (n3+1)) l4 kR
  else
  aK (i64 (n3+1)) dG.1.aa l5
 else
 some ((aG.mk l4),l5,0)
def Bp (F:Nat) (p1:Int) (r1:List ax × Int):Nat→Int→(List ak)→(List cg)→Option (aG × List cg × Int)
 | 0=>fun _ _ _=>.none
 | n+1=>yH F p1 r1 (Bp F p1 r1 n)
def y3 (F:Nat) (p0:List ax) (p1:Int):Option (aG × List cg × Int) :=
 (Cq F p0).bind fun r1 =>
 if (r1.2 != 0)=true then
  some ((aG.mk []),[],r1.2)
 else
 Bp F p1 r1 F 0 ([]:List ak) ([]:List cg)
def GF (p0:ak) (p1:ak) (o9:Int→Option Bool) (n18:Int):Option Bool :=
 if (decide (n18<(p0.Uses.length:Int)))=true then
  (idx p0.Uses n18).bind fun HF =>
  (idx p1.Uses n18).bind fun xt =>
  if (!(decide (HF=xt)))=true then
   some false
  else
  o9 (i64 (n18+1))
 else
 some true
def Bf (p0:ak) (p1:ak):Nat→Int→Option Bool
 | 0=>fun _=>.none
 | n+1=>GF p0 p1 (Bf p0 p1 n)
def GD (F:Nat) (p0:ak) (p1:ak) (fv:Int→Option Bool) (n13:Int):Option Bool :=
 if (decide (n13<(p0.ah.length:Int)))=true then
  (idx p0.ah n13).bind fun Km =>
  (idx p1.ah n13).bind fun CE =>
  if (!(Km == CE))=true then
   some false
  else
  fv (i64 (n13+1))
 else
 Bf p0 p1 F 0
def y5 (F:Nat) (p0:ak) (p1:ak):Nat→Int→Option Bool
 | 0=>fun _=>.none
 | n+1=>GD F p0 p1 (y5 F p0 p1 n)
def GC (F:Nat) (p0:ak) (p1:ak) (aK:Int→Option Bool) (n7:Int):Option Bool :=
 if (decide (n7<(p0.ab.length:Int)))=true then
  (idx p0.ab n7).bind fun x9 =>
  (idx p1.ab n7).bind fun pq =>
  (vF F x9 pq).bind fun cm =>
  if (!cm)=true then
   some false
  else
  aK (i64 (n7+1))
 else
 y5 F p0 p1 F 0
def Be (F:Nat) (p0:ak) (p1:ak):Nat→Int→Option Bool
 | 0=>fun _=>.none
 | n+1=>GC F p0 p1 (Be F p0 p1 n)
def yt (F:Nat) (p0:ak) (p1:ak):Option Bool :=
 if ((p0.ID != p1.ID) || ((!(p0.ae == p1.ae)) || (((p0.ab.length:Int) != (p1.ab.length:Int)) || (((p0.ah.length:Int) != (p1.ah.length:Int)) || ((p0.Uses.length:Int) != (p1.Uses.length:Int))))))=true then
  some false
 else
 Be F p0 p1 F 0
def yF (F:Nat) (p0:aG) (p1:aG) (aK:Int→Option Bool) (n2:Int):Option Bool :=
 if (decide (n2<(p0.aa.length:Int)))=true then
  (idx p0.aa n2).bind fun x4 =>
  (idx p1.aa n2).bind fun x5 =>
  (yt F x4 x5).bind fun r6 =>
  if (!r6)=true then
   some false
  else
  aK (i64 (n2+1))
 else
 some true
def vr (F:Nat) (p0:aG) (p1:aG):Nat→Int→Option Bool
 | 0=>fun _=>.none
 | n+1=>yF F p0 p1 (vr F p0 p1 n)
def y2 (F:Nat) (p0:aG) (p1:aG):Option Bool :=
 if ((p0.aa.length:Int) != (p1.aa.length:Int))=true then
  some false
 else
 vr F p0 p1 F 0
def GB (p0:ak) (fv:Int→Option Bool) (n15:Int):Option Bool :=
 if (decide (n15<(p0.Uses.length:Int)))=true then
  (idx p0.Uses n15).bind fun qj =>
  if ((decide (qj.Version<1)) || (decide (qj.Version > (p0.ab.length:Int))))=true then
   some false
  else
  fv (i64 (n15+1))
 else
 some true
def Bd (p0:ak):Nat→Int→Option Bool
 | 0=>fun _=>.none
 | n+1=>GB p0 (Bd p0 n)
def GA (F:Nat) (p0:ak) (aK:Int→Option Bool) (n6:Int):Option Bool :=
 if (decide (n6<(p0.ab.length:Int)))=true then
  (idx p0.ab n6).bind fun x8 =>
  ((tM F x8).bind fun cm=>if (cm != 0)=true then some true else if (x8.ID != p0.ID)=true then some true else some (x8.Version != (i64 (n6+1)))).bind fun D9 =>
  if D9=true then
   some false
  else
  aK (i64 (n6+1))
 else
 Bd p0 F 0
def DE (F:Nat) (p0:ak):Nat→Int→Option Bool
 | 0=>fun _=>.none
 | n+1=>GA F p0 (DE F p0 n)
def DL (F:Nat) (p0:ak):Option Bool :=
 if ((decide ((p0.ab.length:Int)<1)) || ((decide ((p0.ab.length:Int) > 8)) || (((p0.ah.length:Int) != (p0.ab.length:Int)) || (decide ((p0.Uses.length:Int) > 300)))))=true then
  some false
 else
 DE F p0 F 0
def yD (F:Nat) (p0:aG) (aK:Int→Option Bool) (n2:Int):Option Bool :=
 if (decide (n2<(p0.aa.length:Int)))=true then
  (idx p0.aa n2).bind fun x4 =>
  (if (decide (n2 > 0))=true then (idx p0.aa (i64 (n2 - 1))).bind fun x8=>if (decide (x8.ID ≥ x4.ID))=true then some true else (DL F x4).bind fun dG=>some (!dG) else (DL F x4).bind fun cm=>some (!cm)).bind fun w6 =>
  if w6=true then
   some false
  else
  aK (i64 (n2+1))
 else
 some true
def vo (F:Nat) (p0:aG):Nat→Int→Option Bool
 | 0=>fun _=>.none
 | n+1=>yD F p0 (vo F p0 n)
def vD (F:Nat) (p0:aG):Option Bool :=
 if (decide ((p0.aa.length:Int) > 40))=true then
  some false
 else
 vo F p0 F 0
def yC (p0:ay) (c0:Int) (c1:Int):Option Bool :=
 some (decide (p0.Time > (i64 (c0 - c1))))
def GR (aK:Int→(List bR)→Option (List bR)) (n10:Int) (gP:List bR) (fg:ak) (fv:Int→Option (List bR)) (n19:Int):Option (List bR) :=
 if (decide (n19 ≥ 0))=true then
  (idx fg.ah n19).bind fun xt =>
  if xt=true then
   (app gP [(bR.mk fg.ID (i64 (n19+1)))]).bind fun v23 =>
   aK (i64 (n10+1)) v23
  else
  fv (i64 (n19 - 1))
 else
 aK (i64 (n10+1)) gP
def Bn (aK:Int→(List bR)→Option (List bR)) (n10:Int) (gP:List bR) (fg:ak):Nat→Int→Option (List bR)
 | 0=>fun _=>.none
 | n+1=>GR aK n10 gP fg (Bn aK n10 gP fg n)
def GQ (F:Nat) (p0:aG) (p1:Int) (p2:Int) (p3:Int) (aK:Int→(List bR)→Option (List bR)) (n10:Int) (gP:List bR):Option (List bR) :=
 if (decide (n10<(p0.aa.length:Int)))=true then
  (idx p0.aa n10).bind fun fg =>
  if (fg.ae || (decide ((fg.Uses.length:Int) > p3)))=true then
   aK (i64 (n10+1)) gP
  else
  (Dz F fg.Uses (fun a0=>yC a0 p1 p2)).bind fun iC =>
  if iC=true then
   aK (i64 (n10+1)) gP
  else
  Bn aK n10 gP fg F (i64 ((fg.ah.length:Int) - 1))
 else
 some gP
def Bm (F:Nat) (p0:aG) (p1:Int) (p2:Int) (p3:Int):Nat→Int→(List bR)→Option (List bR)
 | 0=>fun _ _=>.none
 | n+1=>GQ F p0 p1 p2 p3 (Bm F p0 p1 p2 p3 n)
def vn (F:Nat) (p0:aG) (p1:Int) (p2:Int) (p3:Int):Option (List bR) :=
 ((vD F p0).bind fun r3=>if (!r3)=true then some true else if (decide (p1<0))=true then some true else if (decide (p1 > 1000000))=true then some true else if (decide (p2<0))=true then some true else if (decide (p2 > 1000000))=true then some true else some (decide (p3<0))).bind fun w2 =>
 if w2=true then
  some []
 else
 Bm F p0 p1 p2 p3 F 0 ([]:List bR)
def vA (F:Nat):Option Bool :=
 (lp F ([(ax.mk (aL.mk 3 0 2) 4 (ai.mk 0 0 (ByteArray.mk #[]) [] []) (bR.mk 5 1) 9),(ax.mk (aL.mk 1 0 0) 1 (ai.mk 5 1 (ByteArray.mk #[113]) [(aq.mk 1 3 0 0 0 0)] []) (bR.mk 0 0) 0),(ax.mk (aL.mk 2 0 1) 3 (ai.mk 0 0 (ByteArray.mk #[]) [] []) (bR.mk 5 1) 0)]) 100).bind fun r1 =>
 (vn F r1.1 10 7 1).bind fun r2 =>
 (if (r1.2.2 == 0)=true then if ((r1.2.1.length:Int) == 0)=true then if ((r2.length:Int) == 1)=true then (idx r2 0).bind fun x8=>if (decide (x8=(bR.mk 5 1)))=true then (vn F r1.1 10 8 1).bind fun dG=>some ((dG.length:Int) == 0) else some false else some false else some false else some false).bind fun w4 =>
 some w4
def MJ (F:Nat) (p0:aP) (p1:Int):Option (aG × aP) :=
 (Kq F p0 14 0).bind fun r1 =>
 (y3 F r1.1 1000000).bind fun r2 =>
 (if (decide (p1 > 0))=true then (oz r1.2 p1).bind fun r8=>if r8.1=true then some ((decide ((r2.1.aa.length:Int) > 0)),r8.2.L,r8.2.At) else some (false,r8.2.L,r8.2.At) else some (false,r1.2.L,r1.2.At)).bind fun w6 =>
 if w6.1=true then
  (idx r2.1.aa 0).bind fun bg =>
  (jg (aP.mk w6.2.1 w6.2.2) 4).bind fun dD =>
  if (dD.1 == 0)=true then
   (app bg.ah [true]).bind fun kR =>
   (app [] r2.1.aa).bind fun Ad =>
   (idx Ad 0).bind fun CE =>
   some ((aG.mk (Ad.set ((0:Int).toNat) (ak.mk bg.ID bg.ab kR bg.Uses bg.ae))),dD.2)
  else
  if (dD.1 == 1)=true then
   (jg dD.2 5).bind fun j5 =>
   (app [] r2.1.aa).bind fun rm =>
   (idx rm 0).bind fun HF =>
   some ((aG.mk (rm.set ((0:Int).toNat) (ak.mk j5.1 bg.ab bg.ah bg.Uses bg.ae))),j5.2)
  else
  if (dD.1 == 2)=true then
   (kU dD.2 0 9).bind fun j6 =>
   (app bg.Uses [(ay.mk j6.1 0 0)]).bind fun v23 =>
   (app [] r2.1.aa).bind fun v24 =>
   (idx v24 0).bind fun M9 =>
   some ((aG.mk (v24.set ((0:Int).toNat) (ak.mk bg.ID bg.ab bg.ah v23 bg.ae))),j6.2)
  else
  (app r2.1.aa [bg]).bind fun v26 =>
  (app [] v26).bind fun Ae =>
  (idx Ae 0).bind fun RO =>
  some ((aG.mk (Ae.set ((0:Int).toNat) bg)),dD.2)
 else
 some (r2.1,(aP.mk w6.2.1 w6.2.2))
def Gz (p0:ak) (aK:Int→(List ai)→Option ak) (n2:Int) (l3:List ai):Option ak :=
 if (decide (n2<(p0.ab.length:Int)))=true then
  (idx p0.ab n2).bind fun x5 =>
  (y8 x5).bind fun r6 =>
  (idx l3 n2).bind fun x7 =>
  aK (i64 (n2+1)) (l3.set n2.toNat r6)
 else
 (app [] p0.ah).bind fun v8 =>
 (app [] p0.Uses).bind fun v9 =>
 some (ak.mk p0.ID l3 v8 v9 p0.ae)
def Bc (p0:ak):Nat→Int→(List ai)→Option ak
 | 0=>fun _ _=>.none
 | n+1=>Gz p0 (Bc p0 n)
def yr (F:Nat) (p0:ak):Option ak :=
 (z1 ((ai.mk 0 0 (ByteArray.mk #[]) [] []):ai) (p0.ab.length:Int)).bind fun v1 =>
 Bc p0 F 0 v1
def GN (F:Nat) (p0:aG) (aK:Int→(List ak)→Option aG) (n2:Int) (l3:List ak):Option aG :=
 if (decide (n2<(p0.aa.length:Int)))=true then
  (idx p0.aa n2).bind fun x5 =>
  (yr F x5).bind fun r6 =>
  (idx l3 n2).bind fun x7 =>
  aK (i64 (n2+1)) (l3.set (n2).toNat r6)
 else
 some (aG.mk l3)
def Bj (F:Nat) (p0:aG):Nat→Int→(List ak)→Option aG
 | 0=>fun _ _=>.none
 | n+1=>GN F p0 (Bj F p0 n)
def uH (F:Nat) (p0:aG):Option aG :=
 (z1 ((ak.mk 0 [] [] [] false):ak) (p0.aa.length:Int)).bind fun v1 =>
 Bj F p0 F 0 v1
def y1 (F:Nat) (p0:aG) (p1:ax):Option (aG × Int) :=
 (vD F p0).bind fun r1 =>
 if (!r1)=true then
  some ((aG.mk []),1)
 else
 if (p1.Kind == 1)=true then
  (uH F p0).bind fun r5 =>
  (vB F r5 p1).bind fun r6 =>
  if (r6.1 != 0)=true then
   some ((aG.mk []),r6.1)
  else
  some (r6.2,0)
 else
 if (p1.Kind == 2)=true then
  (uH F p0).bind fun dG =>
  (vz F dG p1).bind fun cm =>
  if (cm.1 != 0)=true then
   some ((aG.mk []),cm.1)
  else
  some (cm.2,0)
 else
 if (p1.Kind == 3)=true then
  (uH F p0).bind fun fD =>
  (vw F fD p1).bind fun fW =>
  if (fW.1 != 0)=true then
   some ((aG.mk []),fW.1)
  else
  some (fW.2,0)
 else
 if (p1.Kind == 4)=true then
  (uH F p0).bind fun En =>
  (lq F En p1).bind fun eS =>
  if (eS.1 != 0)=true then
   some ((aG.mk []),eS.1)
  else
  some (eS.2,0)
 else
 if (p1.Kind == 5)=true then
  (uH F p0).bind fun qy =>
  (yZ F qy p1 true).bind fun jA =>
  if (jA.1 != 0)=true then
   some ((aG.mk []),jA.1)
  else
  some (jA.2,0)
 else
 if (p1.Kind == 6)=true then
  (uH F p0).bind fun Mr =>
  (yZ F Mr p1 false).bind fun cM =>
  if (cM.1 != 0)=true then
   some ((aG.mk []),cM.1)
  else
  some (cM.2,0)
 else
 some ((aG.mk []),2)
def Cn (F:Nat) (p0:List Int):Option Bool :=
 (lH p0).bind fun r1 =>
 (MJ F r1 10).bind fun r2 =>
 (Kq F r2.2 6 3).bind fun r3 =>
 if ((r3.1.length:Int) == 0)=true then
  (vA F).bind fun r5 =>
  some r5
 else
 (idx r3.1 (i64 ((r3.1.length:Int) - 1))).bind fun x6 =>
 (y1 F r2.1 x6).bind fun r7 =>
 (tL F r2.1 x6).bind fun r8 =>
 ((y2 F r7.1 r8.1).bind fun cm=>if cm=true then if (r7.2 == r8.2)=true then (vA F).bind fun e7=>some e7 else some false else some false).bind fun D9 =>
 some D9
end
end Go.Sh
