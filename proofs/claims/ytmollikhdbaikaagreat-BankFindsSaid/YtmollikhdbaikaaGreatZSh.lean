import Derived.Test.YtmollikhdbaikaaGreatZLc
import Derived.Test.YtmollikhdbaikaaGreatZLb
set_option linter.unusedVariables false
set_option linter.unusedSimpArgs false
set_option maxRecDepth 100000
set_option maxHeartbeats 1000000
namespace Go.Sh
open Go.L
noncomputable section
structure aP where
 L:List Int
 At:Int
 deriving DecidableEq,Inhabited
def aP.lv (x:aP):LV:=.agg [(lvl 1 LV.I) x.L,.I x.At]
theorem aP.ok:p5 2 aP.lv:=fun _=>⟨rfl,rfl,rfl⟩
structure aL where
 Time:Int
 Source:Int
 Seq:Int
 deriving DecidableEq,Inhabited
def aL.lv (x:aL):LV:=.agg [.I x.Time,.I x.Source,.I x.Seq]
theorem aL.ok:p5 3 aL.lv:=fun _=>⟨rfl,rfl,rfl⟩
structure aq where
 Kind:Int
 Max:Int
 e6:Int
 ct:Int
 Options:Int
 Key:Int
 deriving DecidableEq,Inhabited
def aq.lv (x:aq):LV:=.agg [.I x.Kind,.I x.Max,.I x.e6,.I x.ct,.I x.Options,.I x.Key]
theorem aq.ok:p5 6 aq.lv:=fun _=>⟨rfl,rfl,rfl⟩
structure ai where
 ID:Int
 Version:Int
 bI:ByteArray
 aG:List aq
 aE:List Int
 deriving DecidableEq,Inhabited
def ai.lv (x:ai):LV:=.agg [.I x.ID,.I x.Version,LV.str x.bI,(lvl 6 aq.lv) x.aG,(lvl 1 LV.I) x.aE]
theorem ai.ok:p5 5 ai.lv:=fun _=>⟨rfl,rfl,rfl⟩
structure bG where
 ID:Int
 Version:Int
 deriving DecidableEq,Inhabited
def bG.lv (x:bG):LV:=.agg [.I x.ID,.I x.Version]
theorem bG.ok:p5 2 bG.lv:=fun _=>⟨rfl,rfl,rfl⟩
structure ax where
 ar:aL
 Kind:Int
 Item:ai
 Ref:bG
 Form:Int
 deriving DecidableEq,Inhabited
def ax.lv (x:ax):LV:=.agg [.I x.ar.Time,.I x.ar.Source,.I x.ar.Seq,.I x.Kind,.I x.Item.ID,.I x.Item.Version,LV.str x.Item.bI,(lvl 6 aq.lv) x.Item.aG,(lvl 1 LV.I) x.Item.aE,.I x.Ref.ID,.I x.Ref.Version,.I x.Form]
theorem ax.ok:p5 12 ax.lv:=fun _=>⟨rfl,rfl,rfl⟩
structure ay where
 Version:Int
 Form:Int
 Time:Int
 deriving DecidableEq,Inhabited
def ay.lv (x:ay):LV:=.agg [.I x.Version,.I x.Form,.I x.Time]
theorem ay.ok:p5 3 ay.lv:=fun _=>⟨rfl,rfl,rfl⟩
structure al where
 ID:Int
 ab:List ai
 ah:List Bool
 Uses:List ay
 ae:Bool
 deriving DecidableEq,Inhabited
def al.lv (x:al):LV:=.agg [.I x.ID,(lvl 5 ai.lv) x.ab,(lvl 1 LV.bool) x.ah,(lvl 3 ay.lv) x.Uses,LV.bool x.ae]
theorem al.ok:p5 5 al.lv:=fun _=>⟨rfl,rfl,rfl⟩
structure aK where
 aa:List al
 deriving DecidableEq,Inhabited
def aK.lv (x:aK):LV:=.agg [(lvl 5 al.lv) x.aa]
abbrev nS (p:aK):Nat × LE:=(811,.box [.arr 812 p.aa.length])
theorem aK.ok:p5 1 aK.lv:=fun _=>⟨rfl,rfl,rfl⟩
structure rX where
 Source:Int
 Seq:Int
 deriving DecidableEq,Inhabited
def rX.lv (x:rX):LV:=.agg [.I x.Source,.I x.Seq]
theorem rX.ok:p5 2 rX.lv:=fun _=>⟨rfl,rfl,rfl⟩
structure cj where
 Event:rX
 Code:Int
 deriving DecidableEq,Inhabited
def cj.lv (x:cj):LV:=.agg [.I x.Event.Source,.I x.Event.Seq,.I x.Code]
theorem cj.ok:p5 3 cj.lv:=fun _=>⟨rfl,rfl,rfl⟩
structure ej where
 first:Int
 dS:Bool
 deriving DecidableEq,Inhabited
def ej.lv (x:ej):LV:=.agg [.I x.first,LV.bool x.dS]
theorem ej.ok:p5 2 ej.lv:=fun _=>⟨rfl,rfl,rfl⟩
def lp (p0:List Int):Option aP :=
 if (decide ((p0.length:Int) > 600))=true then
  (Eb p0 0 600).bind fun v2 =>
  some (aP.mk v2 0)
 else
 some (aP.mk p0 0)
def Eo (p0:aP):Option (Int × aP) :=
 if (decide (p0.At ≥ (p0.L.length:Int)))=true then
  some (0,p0)
 else
 (idx p0.L (i64 ((i64 (p0.At+1)) - 1))).bind fun x2 =>
 some (x2,(aP.mk p0.L (i64 (p0.At+1))))
def kg (p0:Int) (p1:Int):Option Int :=
 if (decide (p1<1))=true then
  some 0
 else
 (Qo p0 p1).bind fun v2 =>
 if (decide (v2<0))=true then
  some (i64 (v2+p1))
 else
 some v2
def ja (p0:aP) (p1:Int):Option (Int × aP) :=
 (Eo p0).bind fun r1 =>
 (kg r1.1 p1).bind fun r2 =>
 some (r2,r1.2)
def kO (p0:aP) (p1:Int) (p2:Int):Option (Int × aP) :=
 (ja p0 (i64 ((i64 (p2 - p1))+1))).bind fun r1 =>
 some ((i64 (p1+r1.1)),r1.2)
def ui (p0:aP) (p1:List Int):Option (Int × aP) :=
 (ja p0 (p1.length:Int)).bind fun r1 =>
 (idx p1 r1.1).bind fun x2 =>
 some (x2,r1.2)
def Es  (aJ:ByteArray→Int→(List Int)→Int→Option (ByteArray × aP)) (t2:ByteArray) (n3:Int) (l4:List Int) (n5:Int):Option (ByteArray × aP) :=
 if (decide (n3 > 0))=true then
  (ja (aP.mk l4 n5) 3).bind fun r7 =>
  (wI t2 (Bd [(IntKind.u8.wrap (i64 (97+r7.1)))])).bind fun t8 =>
  aJ t8 (i64 (n3 - 1)) r7.2.L r7.2.At
 else
 some (t2,(aP.mk l4 n5))
def Er :Nat→ByteArray→Int→(List Int)→Int→Option (ByteArray × aP)
 | 0=>fun _ _ _ _=>.none
 | n+1=>Es  (Er n)
def Ep (F:Nat) (p0:aP) (p1:Int):Option (ByteArray × aP) :=
 (kO p0 1 p1).bind fun r1 =>
 Er F (ByteArray.mk #[]) r1.1 r1.2.L r1.2.At
def oc (p0:aP) (p1:Int):Option (Bool × aP) :=
 (ja p0 p1).bind fun r1 =>
 some ((r1.1 == (i64 (p1 - 1))),r1.2)
def rY (p0:aP):Option (Int × aP) :=
 (ui p0 [(-1),0,1,2,31,32,99,100,200,201,9999,10000,1000000,1000001,1152921504606846976,1152921504606846977,(-1152921504606846976),9223372036854775807,(-9223372036854775808)]).bind fun r1 =>
 some (r1.1,r1.2)
def Cq (p1:Int) (r2:Int × aP) (r3:Int × aP) (l4:List Int) (n5:Int) (n6:Int) (n7:Int) (n8:Int) (n9:Int):Option (aq × aP) :=
 (if (decide (p1 > 0))=true then (oc (aP.mk l4 n5) p1).bind fun gq=>some (gq.1,gq.2.L,gq.2.At) else some (false,l4,n5)).bind fun vA =>
 if vA.1=true then
  (ja (aP.mk vA.2.1 vA.2.2) 6).bind fun iw =>
  if (iw.1 == 0)=true then
   (kO iw.2 (-1) 3).bind fun qN =>
   some ((aq.mk qN.1 n7 r2.1 r3.1 n8 n9),qN.2)
  else
  if (iw.1 == 1)=true then
   (ui iw.2 [0,40,41,(-1)]).bind fun hT =>
   some ((aq.mk n6 hT.1 r2.1 r3.1 n8 n9),hT.2)
  else
  if (iw.1 == 2)=true then
   (rY iw.2).bind fun rP =>
   some ((aq.mk n6 n7 rP.1 r3.1 n8 n9),rP.2)
  else
  if (iw.1 == 3)=true then
   (rY iw.2).bind fun wx =>
   some ((aq.mk n6 n7 r2.1 wx.1 n8 n9),wx.2)
  else
  if (iw.1 == 4)=true then
   (kO iw.2 (-1) 6).bind fun wy =>
   some ((aq.mk n6 n7 r2.1 r3.1 wy.1 n9),wy.2)
  else
  (kO iw.2 (-1) 5).bind fun wz =>
  some ((aq.mk n6 n7 r2.1 r3.1 n8 wz.1),wz.2)
 else
 some ((aq.mk n6 n7 r2.1 r3.1 n8 n9),(aP.mk vA.2.1 vA.2.2))
def Cp (p0:aP) (p1:Int):Option (aq × aP) :=
 (kO p0 1 12).bind fun r1 =>
 (ja r1.2 4).bind fun r2 =>
 (ja r2.2 3).bind fun r3 =>
 (ja r3.2 3).bind fun ue =>
 if (ue.1 == 0)=true then
  (kO ue.2 2 5).bind fun dg =>
  (ja dg.2 dg.1).bind fun Iq =>
  (kO Iq.2 1 3).bind fun kH =>
  Cq p1 r2 r3 kH.2.L kH.2.At 2 kH.1 dg.1 Iq.1
 else
 Cq p1 r2 r3 ue.2.L ue.2.At 1 r1.1 0 0
def Em (p1:Int) (p2:Int) (p3:Int) (t2:ByteArray) (l7:List aq) (fo:Int→(List Int)→Int→(List Int)→Option (ai × aP)) (n11:Int) (BV:List Int) (n13:Int) (cR:List Int):Option (ai × aP) :=
 if (decide (n11<6))=true then
  (if (n11 != p1)=true then (oc (aP.mk BV n13) 8).bind fun hT=>some (hT.1,hT.2.L,hT.2.At) else some (false,BV,n13)).bind fun vB =>
  if vB.1=true then
   (app cR [n11]).bind fun v23 =>
   fo (i64 (n11+1)) vB.2.1 vB.2.2 v23
  else
  fo (i64 (n11+1)) vB.2.1 vB.2.2 cR
 else
 (if (decide (p3 > 0))=true then (oc (aP.mk BV n13) p3).bind fun ue=>some (ue.1,ue.2.L,ue.2.At) else some (false,BV,n13)).bind fun pX =>
 if pX.1=true then
  (ja (aP.mk pX.2.1 pX.2.2) 7).bind fun dg =>
  if (dg.1 == 0)=true then
   (rY dg.2).bind fun kH =>
   some ((ai.mk kH.1 p2 t2 l7 cR),kH.2)
  else
  if (dg.1 == 1)=true then
   (ui dg.2 [0,8,9,(-1)]).bind fun oR =>
   some ((ai.mk p1 oR.1 t2 l7 cR),oR.2)
  else
  if (dg.1 == 2)=true then
   (ja dg.2 3).bind fun lJ =>
   (idx ([(ByteArray.mk #[]),(ByteArray.mk #[116,97,98,9]),(ByteArray.mk #[48,49,50,51,52,53,54,55,56,57,48,49,50,51,52,53,54,55,56,57,48,49,50,51,52,53,54,55,56,57,48,49,50,51,52,53,54,55,56,57,120])]) lJ.1).bind fun Ef =>
   some ((ai.mk p1 p2 Ef l7 cR),lJ.2)
  else
  if (dg.1 == 3)=true then
   some ((ai.mk p1 p2 t2 [] cR),dg.2)
  else
  if (dg.1 == 4)=true then
   (Cp dg.2 1).bind fun uf =>
   (app l7 [uf.1]).bind fun Bp =>
   some ((ai.mk p1 p2 t2 Bp cR),uf.2)
  else
  if (dg.1 == 5)=true then
   (ui dg.2 [0,p1,(-1),10000,3]).bind fun ug =>
   (app cR [ug.1]).bind fun v45 =>
   some ((ai.mk p1 p2 t2 l7 v45),ug.2)
  else
  (idx l7 0).bind fun TV =>
  (idx l7 0).bind fun TW =>
  (idx l7 0).bind fun TX =>
  (idx l7 0).bind fun TY =>
  (idx l7 0).bind fun TZ =>
  (idx l7 0).bind fun T0 =>
  (app l7 [TV,TW,TX,TY,TZ,T0]).bind fun Bq =>
  some ((ai.mk p1 p2 t2 Bq cR),dg.2)
 else
 some ((ai.mk p1 p2 t2 l7 cR),(aP.mk pX.2.1 pX.2.2))
def Co (p1:Int) (p2:Int) (p3:Int) (t2:ByteArray) (l7:List aq):Nat→Int→(List Int)→Int→(List Int)→Option (ai × aP)
 | 0=>fun _ _ _ _=>.none
 | n+1=>Em p1 p2 p3 t2 l7 (Co p1 p2 p3 t2 l7 n)
def El (F:Nat) (p1:Int) (p2:Int) (p3:Int) (t2:ByteArray) (aJ:Int→(List Int)→Int→(List aq)→Option (ai × aP)) (n4:Int) (l5:List Int) (n6:Int) (l7:List aq):Option (ai × aP) :=
 if (decide (n4 > 0))=true then
  (Cp (aP.mk l5 n6) 0).bind fun r9 =>
  (app l7 [r9.1]).bind fun v10 =>
  aJ (i64 (n4 - 1)) r9.2.L r9.2.At v10
 else
 Co p1 p2 p3 t2 l7 F 0 l5 n6 ([]:List Int)
def Ek (F:Nat) (p1:Int) (p2:Int) (p3:Int) (t2:ByteArray):Nat→Int→(List Int)→Int→(List aq)→Option (ai × aP)
 | 0=>fun _ _ _ _=>.none
 | n+1=>El F p1 p2 p3 t2 (Ek F p1 p2 p3 t2 n)
def Ej (F:Nat) (p0:aP) (p1:Int) (p2:Int) (p3:Int):Option (ai × aP) :=
 (Ep F p0 3).bind fun r1 =>
 (wI (ByteArray.mk #[113]) r1.1).bind fun t2 =>
 (kO r1.2 1 3).bind fun r3 =>
 Ek F p1 p2 p3 t2 F r3.1 r3.2.L r3.2.At ([]:List aq)
def Cr (p0:aP) (p1:Int):Option (aL × aP) :=
 (kO p0 0 24).bind fun r1 =>
 (kO r1.2 0 3).bind fun r2 =>
 (kO r2.2 0 9).bind fun r3 =>
 (if (decide (p1 > 0))=true then (oc r3.2 p1).bind fun r9=>some (r9.1,r9.2.L,r9.2.At) else some (false,r3.2.L,r3.2.At)).bind fun w7 =>
 if w7.1=true then
  (ja (aP.mk w7.2.1 w7.2.2) 3).bind fun cM =>
  if (cM.1 == 0)=true then
   (rY cM.2).bind fun pN =>
   some ((aL.mk pN.1 r2.1 r3.1),pN.2)
  else
  if (cM.1 == 1)=true then
   (rY cM.2).bind fun gq =>
   some ((aL.mk r1.1 gq.1 r3.1),gq.2)
  else
  (rY cM.2).bind fun jT =>
  some ((aL.mk r1.1 r2.1 jT.1),jT.2)
 else
 some ((aL.mk r1.1 r2.1 r3.1),(aP.mk w7.2.1 w7.2.2))
def Hi (aJ:Int→(List Int)→Int→(List Int)→(List ax)→Option (List ax × aP)) (n3:Int) (l7:List ax) (n18:Int) (t20:ByteArray) (lV:List aq) (lW:List Int) (n25:Int) (gQ:List Int) (n27:Int) (n28:Int) (n29:Int) (n30:Int) (n31:Int) (n32:Int) (n33:Int) (LC:List Int) (n35:Int):Option (List ax × aP) :=
 (app l7 [(ax.mk (aL.mk n27 n28 n29) n30 (ai.mk n18 n31 t20 lV lW) (bG.mk n32 n33) n25)]).bind fun DS =>
 (oc (aP.mk LC n35) 8).bind fun lJ =>
 if lJ.1=true then
  (ja lJ.2 (DS.length:Int)).bind fun Ea =>
  (idx DS Ea.1).bind fun TU =>
  (app DS [TU]).bind fun v41 =>
  aJ (i64 (n3 - 1)) Ea.2.L Ea.2.At gQ v41
 else
 aJ (i64 (n3 - 1)) lJ.2.L lJ.2.At gQ DS
def Mk (aJ:Int→(List Int)→Int→(List Int)→(List ax)→Option (List ax × aP)) (p2:Int) (n3:Int) (l7:List ax) (dy:Int × aP) (cM:Int × aP) (LB:List Int) (n16:Int) (n17:Int) (n18:Int) (n19:Int) (t20:ByteArray) (lV:List aq) (lW:List Int) (n23:Int) (n24:Int) (n25:Int) (gQ:List Int):Option (List ax × aP) :=
 (if (decide (p2 > 0))=true then (oc (aP.mk LB n16) p2).bind fun ME=>some (ME.1,ME.2.L,ME.2.At) else some (false,LB,n16)).bind fun zL =>
 if zL.1=true then
  (ja (aP.mk zL.2.1 zL.2.2) 5).bind fun kI =>
  if (kI.1 == 0)=true then
   (kO kI.2 (-1) 8).bind fun zF =>
   Hi aJ n3 l7 n18 t20 lV lW n25 gQ (i64 ((l7.length:Int)+dy.1)) cM.1 (l7.length:Int) zF.1 n19 n23 n24 zF.2.L zF.2.At
  else
  if (kI.1 == 1)=true then
   (kO kI.2 (-1) 3).bind fun zG =>
   Hi aJ n3 l7 n18 t20 lV lW n25 gQ (i64 ((l7.length:Int)+dy.1)) cM.1 (l7.length:Int) n17 n19 n23 zG.1 zG.2.L zG.2.At
  else
  if (kI.1 == 2)=true then
   (ja kI.2 7).bind fun zH =>
   Hi aJ n3 l7 n18 t20 lV lW n25 gQ (i64 ((l7.length:Int)+dy.1)) cM.1 (l7.length:Int) n17 n19 zH.1 n24 zH.2.L zH.2.At
  else
  if (kI.1 == 3)=true then
   (Cr kI.2 3).bind fun qO =>
   Hi aJ n3 l7 n18 t20 lV lW n25 gQ qO.1.Time qO.1.Source qO.1.Seq n17 n19 n23 n24 qO.2.L qO.2.At
  else
  (kO kI.2 0 3).bind fun zI =>
  Hi aJ n3 l7 n18 t20 lV lW n25 gQ (i64 ((l7.length:Int)+dy.1)) cM.1 (l7.length:Int) n17 zI.1 n23 n24 zI.2.L zI.2.At
 else
 Hi aJ n3 l7 n18 t20 lV lW n25 gQ (i64 ((l7.length:Int)+dy.1)) cM.1 (l7.length:Int) n17 n19 n23 n24 zL.2.1 zL.2.2
def Ml (aJ:Int→(List Int)→Int→(List Int)→(List ax)→Option (List ax × aP)) (F:Nat) (p2:Int) (n3:Int) (l6:List Int) (l7:List ax) (r9:Int × aP) (dy:Int × aP) (cM:Int × aP) (fg:Int × aP) (Jv:Int):Option (List ax × aP) :=
 (idx l6 r9.1).bind fun Hy =>
 (idx l6 r9.1).bind fun U1 =>
 (idx (l6.set r9.1.toNat (min (i64 (Hy+1)) 9)) r9.1).bind fun QH =>
 (Ej F fg.2 r9.1 QH p2).bind fun rB =>
 Mk aJ p2 n3 l7 dy cM rB.2.L rB.2.At Jv rB.1.ID rB.1.Version rB.1.bI rB.1.aG rB.1.aE 0 0 0 (l6.set r9.1.toNat (min (i64 (Hy+1)) 9))
def Ei (F:Nat) (p2:Int) (aJ:Int→(List Int)→Int→(List Int)→(List ax)→Option (List ax × aP)) (n3:Int) (l4:List Int) (n5:Int) (l6:List Int) (l7:List ax):Option (List ax × aP) :=
 if (decide (n3 > 0))=true then
  (ja (aP.mk l4 n5) 5).bind fun r9 =>
  (ja r9.2 2).bind fun dy =>
  (ja dy.2 2).bind fun cM =>
  (ui cM.2 [3,4,4,2,5,6]).bind fun dz =>
  (idx l6 r9.1).bind fun fe =>
  (ja dz.2 4).bind fun fg =>
  ((idx l6 r9.1).bind fun QG=>if (QG == 0)=true then some true else some (dz.1 == 2)).bind fun Rl =>
  if Rl=true then
   (idx l6 r9.1).bind fun QI =>
   if (QI == 0)=true then
    Ml aJ F p2 n3 l6 l7 r9 dy cM fg 1
   else
   Ml aJ F p2 n3 l6 l7 r9 dy cM fg 2
  else
  Mk aJ p2 n3 l7 dy cM fg.2.L fg.2.At dz.1 0 0 (ByteArray.mk #[]) ([]:List aq) ([]:List Int) r9.1 (max 1 fe) fg.1 l6
 else
 some (l7,(aP.mk l4 n5))
def Eh (F:Nat) (p2:Int):Nat→Int→(List Int)→Int→(List Int)→(List ax)→Option (List ax × aP)
 | 0=>fun _ _ _ _ _=>.none
 | n+1=>Ei F p2 (Eh F p2 n)
def Mj (F:Nat) (p0:aP) (p1:Int) (p2:Int):Option (List ax × aP) :=
 (C7 (0:Int) 5).bind fun v1 =>
 (kO p0 0 p1).bind fun r2 =>
 Eh F p2 F r2.1 r2.2.L r2.2.At v1 ([]:List ax)
def Gf (p0:List ax) (p1:(ax→Option aL)) (p2:(ax→ax→Option Bool)) (aJ:Int→(List aL)→(List Int)→(List (aL × Int))→Option (List aL × List Int)) (n3:Int) (l4:List aL) (l5:List Int) (m6:List (aL × Int)):Option (List aL × List Int) :=
 if (decide (n3<(p0.length:Int)))=true then
  (idx p0 n3).bind fun x8 =>
  (p1 x8).bind fun r9 =>
  (idx l4 n3).bind fun o9 =>
  (idx (l4.set n3.toNat r9) n3).bind fun bc =>
  if (!((gR m6 bc).isSome))=true then
   (idx (l4.set n3.toNat r9) n3).bind fun fe =>
   aJ (i64 (n3+1)) (l4.set n3.toNat r9) l5 (ed m6 fe n3)
  else
  (idx p0 ((gR m6 bc).getD 0)).bind fun nP =>
  (p2 nP x8).bind fun gq =>
  if (!gq)=true then
   (idx l5 n3).bind fun pY =>
   aJ (i64 (n3+1)) (l4.set n3.toNat r9) (l5.set n3.toNat 1) m6
  else
  aJ (i64 (n3+1)) (l4.set n3.toNat r9) l5 m6
 else
 some (l4,l5)
def AU (p0:List ax) (p1:(ax→Option aL)) (p2:(ax→ax→Option Bool)):Nat→Int→(List aL)→(List Int)→(List (aL × Int))→Option (List aL × List Int)
 | 0=>fun _ _ _ _=>.none
 | n+1=>Gf p0 p1 p2 (AU p0 p1 p2 n)
def Gk (F:Nat) (p0:List ax) (p1:(ax→Option aL)) (p2:(ax→ax→Option Bool)):Option (List aL × List Int) :=
 (C7 ((aL.mk 0 0 0):aL) (p0.length:Int)).bind fun v1 =>
 (C7 (0:Int) (p0.length:Int)).bind fun v2 =>
 AU p0 p1 p2 F 0 v1 v2 ([]:List (aL × Int))
def Cf (p0:aL):Option Bool :=
 some ((decide (p0.Time ≥ 0)) && ((decide (p0.Time≤1000000)) && ((decide (p0.Source ≥ 0)) && ((decide (p0.Source≤99)) && ((decide (p0.Seq ≥ 0)) && (decide (p0.Seq≤9999)))))))
def cmp_isNaN_int (p0:Int):Option Bool :=
 some (p0 != p0)
def cJ (p0:Int) (p1:Int):Option Int :=
 (cmp_isNaN_int p0).bind fun r1 =>
 (cmp_isNaN_int p1).bind fun r2 =>
 if r1=true then
  if r2=true then
   some 0
  else
  some (-1)
 else
 if r2=true then
  some 1
 else
 if (decide (p0<p1))=true then
  some (-1)
 else
 if (decide (p0 > p1))=true then
  some 1
 else
 some 0
def fx (p0:List Int) (aJ:Int→Option Int) (n1:Int):Option Int :=
 if (decide (n1<(p0.length:Int)))=true then
  (idx p0 n1).bind fun x3 =>
  if (x3 != 0)=true then
   some x3
  else
  aJ (i64 (n1+1))
 else
 some 0
def eO (p0:List Int):Nat→Int→Option Int
 | 0=>fun _=>.none
 | n+1=>fx p0 (eO p0 n)
def gO (F:Nat) (p0:List Int):Option Int :=
 eO p0 F 0
def Dk (F:Nat) (p0:aL) (p1:aL):Option Int :=
 (cJ p0.Source p1.Source).bind fun r1 =>
 (cJ p0.Seq p1.Seq).bind fun r2 =>
 (gO F [r1,r2]).bind fun r3 =>
 some r3
def DE (F:Nat) (p0:Int) (p1:Int) (c0:List aL):Option Int :=
 (idx c0 p0).bind fun x1 =>
 (idx c0 p1).bind fun x2 =>
 (Dk F x1 x2).bind fun r3 =>
 (cJ p0 p1).bind fun r4 =>
 (gO F [r3,r4]).bind fun r5 =>
 some r5
def GK (F:Nat) (p0:List aL) (p1:List Int) (l8:List Int) (fo:Int→(List ej)→Option (List ej)) (n9:Int) (gB:List ej):Option (List ej) :=
 if (decide (n9<(l8.length:Int)))=true then
  (idx l8 n9).bind fun gC =>
  (if (decide ((i64 ((gB.length:Int) - 1))<0))=true then some true else (idx gB (i64 ((gB.length:Int) - 1))).bind fun Cn=>(idx p0 Cn.first).bind fun pY=>(idx p0 gC).bind fun IL=>(Dk F pY IL).bind fun qN=>some (qN != 0)).bind fun IK =>
  if IK=true then
   (app gB [(ej.mk gC false)]).bind fun v21 =>
   fo (i64 (n9+1)) v21
  else
  (idx gB (i64 ((gB.length:Int) - 1))).bind fun J1 =>
  ((idx p0 J1.first).bind fun MF=>(idx p0 gC).bind fun Mh=>if (!(decide (MF=Mh)))=true then some true else (idx p1 J1.first).bind fun Rm=>(idx p1 gC).bind fun MG=>some (Rm != MG)).bind fun Ri =>
  if Ri=true then
   (idx gB (i64 ((gB.length:Int) - 1))).bind fun Ee =>
   fo (i64 (n9+1)) (gB.set ((i64 ((gB.length:Int) - 1)).toNat) (ej.mk Ee.first true))
  else
  fo (i64 (n9+1)) gB
 else
 some gB
def DA (F:Nat) (p0:List aL) (p1:List Int) (l8:List Int):Nat→Int→(List ej)→Option (List ej)
 | 0=>fun _ _=>.none
 | n+1=>GK F p0 p1 l8 (DA F p0 p1 l8 n)
def GJ (F:Nat) (p0:List aL) (p1:List Int) (aJ:Int→(List Int)→Option (List ej)) (n1:Int) (l2:List Int):Option (List ej) :=
 if (decide (n1<(p0.length:Int)))=true then
  (idx p0 n1).bind fun x4 =>
  (Cf x4).bind fun r5 =>
  if r5=true then
   (app l2 [n1]).bind fun v7 =>
   aJ (i64 (n1+1)) v7
  else
  aJ (i64 (n1+1)) l2
 else
 (pT (fun a0 a1=>DE F a0 a1 p0) l2).bind fun l8 =>
 DA F p0 p1 l8 F 0 ([]:List ej)
def Dz (F:Nat) (p0:List aL) (p1:List Int):Nat→Int→(List Int)→Option (List ej)
 | 0=>fun _ _=>.none
 | n+1=>GJ F p0 p1 (Dz F p0 p1 n)
def Ce (F:Nat) (p0:List aL) (p1:List Int):Option (List ej) :=
 Dz F p0 p1 F 0 ([]:List Int)
def yA (F:Nat) (p0:aL) (p1:aL):Option Int :=
 (cJ p0.Time p1.Time).bind fun r1 =>
 (cJ p0.Source p1.Source).bind fun r2 =>
 (cJ p0.Seq p1.Seq).bind fun r3 =>
 (gO F [r1,r2,r3]).bind fun r4 =>
 some r4
def Dt (F:Nat) (p0:Int) (p1:Int) (c0:List aL):Option Int :=
 (idx c0 p0).bind fun x1 =>
 (idx c0 p1).bind fun x2 =>
 (yA F x1 x2).bind fun r3 =>
 some r3
def Gz (F:Nat) (p0:List aL) (r2:List ej) (aJ:Int→(List Int)→Option (List Int × Int)) (n3:Int) (l4:List Int):Option (List Int × Int) :=
 if (decide (n3<(r2.length:Int)))=true then
  (idx r2 n3).bind fun x6 =>
  if (!x6.dS)=true then
   (app l4 [x6.first]).bind fun v8 =>
   aJ (i64 (n3+1)) v8
  else
  aJ (i64 (n3+1)) l4
 else
 if (decide ((l4.length:Int) > 300))=true then
  some ([],3)
 else
 (pT (fun a0 a1=>Dt F a0 a1 p0) l4).bind fun gB =>
 some (gB,0)
def Dr (F:Nat) (p0:List aL) (r2:List ej):Nat→Int→(List Int)→Option (List Int × Int)
 | 0=>fun _ _=>.none
 | n+1=>Gz F p0 r2 (Dr F p0 r2 n)
def Dy (F:Nat) (p0:List aL) (p1:List Int):Option (List Int × Int) :=
 if ((p0.length:Int) != (p1.length:Int))=true then
  some ([],1)
 else
 (Ce F p0 p1).bind fun r2 =>
 Dr F p0 r2 F 0 ([]:List Int)
def Gj (F:Nat) (p0:List ax) (p1:(ax→Option aL)) (p2:(ax→ax→Option Bool)):Option (List Int × Int) :=
 (Gk F p0 p1 p2).bind fun r1 =>
 (Dy F r1.1 r1.2).bind fun r2 =>
 some (r2.1,r2.2)
def B6 (p0:ax):Option aL :=
 some p0.ar
def Gi (p0:List aq) (p1:List aq) (aJ:Int→Option Bool) (n2:Int):Option Bool :=
 if (decide (n2<(p0.length:Int)))=true then
  (idx p0 n2).bind fun x4 =>
  (idx p1 n2).bind fun x5 =>
  if (!(decide (x4=x5)))=true then
   some false
  else
  aJ (i64 (n2+1))
 else
 some true
def Di (p0:List aq) (p1:List aq):Nat→Int→Option Bool
 | 0=>fun _=>.none
 | n+1=>Gi p0 p1 (Di p0 p1 n)
def Gm (F:Nat) (p0:List aq) (p1:List aq):Option Bool :=
 if ((p0.length:Int) != (p1.length:Int))=true then
  some false
 else
 Di p0 p1 F 0
def Dj (p0:List Int) (p1:List Int) (aJ:Int→Option Bool) (n2:Int):Option Bool :=
 if (decide (n2<(p0.length:Int)))=true then
  (idx p0 n2).bind fun x4 =>
  (idx p1 n2).bind fun x5 =>
  if (x4 != x5)=true then
   some false
  else
  aJ (i64 (n2+1))
 else
 some true
def yh (p0:List Int) (p1:List Int):Nat→Int→Option Bool
 | 0=>fun _=>.none
 | n+1=>Dj p0 p1 (yh p0 p1 n)
def AV (F:Nat) (p0:List Int) (p1:List Int):Option Bool :=
 if ((p0.length:Int) != (p1.length:Int))=true then
  some false
 else
 yh p0 p1 F 0
def yx (F:Nat) (p0:ai) (p1:ai):Option Bool :=
 (if (p0.ID == p1.ID)=true then if (p0.Version == p1.Version)=true then if (decide (p0.bI=p1.bI))=true then (Gm F p0.aG p1.aG).bind fun r6=>if r6=true then (AV F p0.aE p1.aE).bind fun r8=>some r8 else some false else some false else some false else some false).bind fun w2 =>
 some w2
def iG (F:Nat) (p0:ax) (p1:ax):Option Bool :=
 (if (decide (p0.ar=p1.ar))=true then if (p0.Kind == p1.Kind)=true then if (decide (p0.Ref=p1.Ref))=true then if (p0.Form == p1.Form)=true then (yx F p0.Item p1.Item).bind fun r7=>some r7 else some false else some false else some false else some false).bind fun w2 =>
 some w2
def wu (p0:ai):Option ai :=
 (app [] p0.aG).bind fun v1 =>
 (app [] p0.aE).bind fun v2 =>
 some (ai.mk p0.ID p0.Version p0.bI v1 v2)
def GA (p0:List ax) (r1:List Int × Int) (aJ:Int→(List ax)→Option (List ax × Int)) (n4:Int) (l5:List ax):Option (List ax × Int) :=
 if (decide (n4<(r1.1.length:Int)))=true then
  (idx r1.1 n4).bind fun x7 =>
  (idx p0 x7).bind fun x8 =>
  (idx l5 n4).bind fun x9 =>
  (idx p0 x7).bind fun o9 =>
  (wu o9.Item).bind fun cM =>
  (idx (l5.set n4.toNat x8) n4).bind fun gC =>
  aJ (i64 (n4+1)) ((l5.set n4.toNat x8).set n4.toNat (ax.mk gC.ar gC.Kind cM gC.Ref gC.Form))
 else
 some (l5,0)
def A2 (p0:List ax) (r1:List Int × Int):Nat→Int→(List ax)→Option (List ax × Int)
 | 0=>fun _ _=>.none
 | n+1=>GA p0 r1 (A2 p0 r1 n)
def yp (F:Nat) (p0:List ax):Option (List ax × Int) :=
 (Gj F p0 (fun a0=>B6 a0) (fun a0 a1=>iG F a0 a1)).bind fun r1 =>
 if (r1.2 != 0)=true then
  some ([],r1.2)
 else
 (C7 ((ax.mk (aL.mk 0 0 0) 0 (ai.mk 0 0 (ByteArray.mk #[]) [] []) (bG.mk 0 0) 0):ax) (r1.1.length:Int)).bind fun v3 =>
 A2 p0 r1 F 0 v3
def vd (p0:Int):Option Bool :=
 some ((decide (p0 ≥ 0)) && (decide (p0≤9999)))
def GB (p0:ByteArray) (aJ:Int→Option Bool) (n1:Int):Option Bool :=
 if (decide (n1<(p0.size:Int)))=true then
  ((y1 p0 n1).bind fun x5=>if (decide (x5<32))=true then some true else (y1 p0 n1).bind fun x7=>some (decide (x7 > 126))).bind fun w4 =>
  if w4=true then
   some false
  else
  aJ (i64 (n1+1))
 else
 some true
def A3 (p0:ByteArray):Nat→Int→Option Bool
 | 0=>fun _=>.none
 | n+1=>GB p0 (A3 p0 n)
def yu (F:Nat) (p0:ByteArray):Option Bool :=
 A3 p0 F 0
def yt (p0:aq):Option Bool :=
 if ((decide (p0.Max<1)) || ((decide (p0.Max > 40)) || ((decide (p0.e6<0)) || ((decide (p0.e6 ≥ 16)) || ((decide (p0.ct<0)) || (decide (p0.ct ≥ 6)))))))=true then
  some false
 else
 if (p0.Kind == 1)=true then
  some ((p0.Options == 0) && (p0.Key == 0))
 else
 if (p0.Kind == 2)=true then
  some ((decide (p0.Options ≥ 2)) && ((decide (p0.Options≤5)) && ((decide (p0.Key ≥ 0)) && (decide (p0.Key<p0.Options)))))
 else
 some false
def Gl (p0:Int) (p1:List Int) (aJ:Int→Option Bool) (n1:Int):Option Bool :=
 if (decide (n1<(p1.length:Int)))=true then
  (idx p1 n1).bind fun x3 =>
  ((vd x3).bind fun r6=>if (!r6)=true then some true else if (x3 == p0)=true then some true else if (decide (n1 > 0))=true then (idx p1 (i64 (n1 - 1))).bind fun o9=>some (decide (o9 ≥ x3)) else some false).bind fun w5 =>
  if w5=true then
   some false
  else
  aJ (i64 (n1+1))
 else
 some true
def Dl (p0:Int) (p1:List Int):Nat→Int→Option Bool
 | 0=>fun _=>.none
 | n+1=>Gl p0 p1 (Dl p0 p1 n)
def GI (F:Nat) (p0:Int) (p1:List Int):Option Bool :=
 Dl p0 p1 F 0
def yl (F:Nat) (p0:ai) (aJ:Int→Option Int) (n17:Int):Option Int :=
 if (decide (n17<(p0.aG.length:Int)))=true then
  (idx p0.aG n17).bind fun Hw =>
  (yt Hw).bind fun Rf =>
  if (!Rf)=true then
   some 1
  else
  aJ (i64 (n17+1))
 else
 (GI F p0.ID p0.aE).bind fun jr =>
 if (!jr)=true then
  some 9
 else
 some 0
def va (F:Nat) (p0:ai):Nat→Int→Option Int
 | 0=>fun _=>.none
 | n+1=>yl F p0 (va F p0 n)
def tE (F:Nat) (p0:ai):Option Int :=
 ((vd p0.ID).bind fun r3=>if (!r3)=true then some true else if (decide (p0.Version<1))=true then some true else some (decide (p0.Version > 8))).bind fun w2 =>
 if w2=true then
  some 2
 else
 if ((decide ((p0.bI.size:Int) > 40)) || ((decide ((p0.aG.length:Int) > 6)) || (decide ((p0.aE.length:Int) > 8))))=true then
  some 3
 else
 (if (decide (p0.bI=(ByteArray.mk #[])))=true then some true else (yu F p0.bI).bind fun fg=>some (!fg)).bind fun DT =>
 if DT=true then
  some 7
 else
 if ((p0.aG.length:Int) == 0)=true then
  some 10
 else
 va F p0 F 0
def Re (p0:List al) (p1:Int) (p2:(al→Int→Option Int)) (aJ:Int→Int→Option (Int × Bool)) (n1:Int) (n2:Int):Option (Int × Bool) :=
 if (decide (n1<n2))=true then
  (idx p0 (i64 (oW .u64 (IntKind.u64.wrap (i64 (n1+n2))) 1))).bind fun x4 =>
  (p2 x4 p1).bind fun r5 =>
  if (decide (r5<0))=true then
   aJ (i64 ((i64 (oW .u64 (IntKind.u64.wrap (i64 (n1+n2))) 1))+1)) n2
  else
  aJ n1 (i64 (oW .u64 (IntKind.u64.wrap (i64 (n1+n2))) 1))
 else
 (if (decide (n1<(p0.length:Int)))=true then (idx p0 n1).bind fun o9=>(p2 o9 p1).bind fun cM=>some (cM == 0) else some false).bind fun w8 =>
 some (n1,w8)
def MD (p0:List al) (p1:Int) (p2:(al→Int→Option Int)):Nat→Int→Int→Option (Int × Bool)
 | 0=>fun _ _=>.none
 | n+1=>Re p0 p1 p2 (MD p0 p1 p2 n)
def Qj (F:Nat) (p0:List al) (p1:Int) (p2:(al→Int→Option Int)):Option (Int × Bool) :=
 MD p0 p1 p2 F 0 (p0.length:Int)
def tA (p0:al) (p1:Int):Option Int :=
 (cJ p0.ID p1).bind fun r1 =>
 some r1
def vn (F:Nat) (p0:aK) (p1:Int):Option (Int × Bool) :=
 (Qj F p0.aa p1 (fun a0 a1=>tA a0 a1)).bind fun r1 =>
 some (r1.1,r1.2)
def yL (F:Nat) (p0:aK) (p1:ax):Option (Int × aK) :=
 (tE F p1.Item).bind fun r1 =>
 if (r1 != 0)=true then
  some (r1,p0)
 else
 if (p1.Item.Version != 1)=true then
  some (8,p0)
 else
 (vn F p0 p1.Item.ID).bind fun r4 =>
 if r4.2=true then
  some (5,p0)
 else
 if (decide ((p0.aa.length:Int) ≥ 40))=true then
  some (3,p0)
 else
 (wu p1.Item).bind fun r7 =>
 (H5 p0.aa r4.1 (al.mk p1.Item.ID [r7] [false] ([]:List ay) false)).bind fun v8 =>
 some (0,(aK.mk v8))
def tC (F:Nat) (p0:aK) (p1:Int):Option (Option Int) :=
 (vn F p0 p1).bind fun r1 =>
 if (!r1.2)=true then
  some (none:Option Int)
 else
 (idx p0.aa r1.1).bind fun x3 =>
 some (some r1.1)
def yE (F:Nat) (p0:aK) (p1:ax):Option (Int × aK) :=
 (tE F p1.Item).bind fun r1 =>
 if (r1 != 0)=true then
  some (r1,p0)
 else
 (tC F p0 p1.Item.ID).bind fun r3 =>
 pL r3 (
  some (4,p0)) fun j4 =>
 (idx p0.aa j4).bind fun x5 =>
 if (x5.ae || (p1.Item.Version != (i64 ((x5.ab.length:Int)+1))))=true then
  some (8,p0)
 else
 (wu p1.Item).bind fun cM =>
 (app x5.ab [cM]).bind fun v12 =>
 (app x5.ah [false]).bind fun rU =>
 some (0,(aK.mk (p0.aa.set (j4).toNat (al.mk x5.ID v12 rU x5.Uses x5.ae))))
def vm (F:Nat) (p0:aK) (p1:bG):Option (Option Int) :=
 (tC F p0 p1.ID).bind fun r1 =>
 pL r1 (
  some (none:Option Int)) fun j2 =>
 (idx p0.aa j2).bind fun x3 =>
 if ((decide (p1.Version<1)) || (decide (p1.Version > (x3.ab.length:Int))))=true then
  some (none:Option Int)
 else
 some (some j2)
def yB (F:Nat) (p0:aK) (p1:ax):Option (Int × aK) :=
 (vm F p0 p1.Ref).bind fun r1 =>
 pL r1 (
  some (4,p0)) fun j2 =>
 (idx p0.aa j2).bind fun x3 =>
 if x3.ae=true then
  some (8,p0)
 else
 (idx x3.ah (i64 (p1.Ref.Version - 1))).bind fun x7 =>
 if x7=true then
  some (5,p0)
 else
 (idx x3.ah (i64 (p1.Ref.Version - 1))).bind fun x9 =>
 some (0,(aK.mk (p0.aa.set (j2).toNat (al.mk x3.ID x3.ab (x3.ah.set ((i64 (p1.Ref.Version - 1)).toNat) true) x3.Uses x3.ae))))
def Cg (p0:ay) (c0:ax):Option Bool :=
 some (p0.Form == c0.Form)
def Gc (p0:List ay) (p1:(ay→Option Bool)) (aJ:Int→Option Int) (n1:Int):Option Int :=
 if (decide (n1<(p0.length:Int)))=true then
  (idx p0 n1).bind fun x3 =>
  (p1 x3).bind fun r4 =>
  if r4=true then
   some n1
  else
  aJ (i64 (n1+1))
 else
 some (-1)
def LY (p0:List ay) (p1:(ay→Option Bool)):Nat→Int→Option Int
 | 0=>fun _=>.none
 | n+1=>Gc p0 p1 (LY p0 p1 n)
def Ip (F:Nat) (p0:List ay) (p1:(ay→Option Bool)):Option Int :=
 LY p0 p1 F 0
def Dh (F:Nat) (p0:List ay) (p1:(ay→Option Bool)):Option Bool :=
 (Ip F p0 p1).bind fun r1 =>
 some (decide (r1 ≥ 0))
def mw (F:Nat) (p0:aK) (p1:ax):Option (Int × aK) :=
 (vm F p0 p1.Ref).bind fun r1 =>
 pL r1 (
  some (4,p0)) fun j2 =>
 (idx p0.aa j2).bind fun x3 =>
 (if x3.ae=true then some true else (idx x3.ah (i64 (p1.Ref.Version - 1))).bind fun x9=>some (!x9)).bind fun w7 =>
 if w7=true then
  some (8,p0)
 else
 (Dh F x3.Uses (fun a0=>Cg a0 p1)).bind fun cM =>
 if cM=true then
  some (5,p0)
 else
 if (decide ((x3.Uses.length:Int) ≥ 300))=true then
  some (3,p0)
 else
 (app x3.Uses [(ay.mk p1.Ref.Version p1.Form p1.ar.Time)]).bind fun kL =>
 some (0,(aK.mk (p0.aa.set (j2).toNat (al.mk x3.ID x3.ab x3.ah kL x3.ae))))
def Dm (F:Nat) (p0:aK) (p1:ax) (c0:Bool):Option (Int × aK) :=
 (tC F p0 p1.Ref.ID).bind fun r1 =>
 pL r1 (
  some (4,p0)) fun j2 =>
 (idx p0.aa j2).bind fun x3 =>
 if (x3.ae == c0)=true then
  some (8,p0)
 else
 some (0,(aK.mk (p0.aa.set (j2).toNat (al.mk x3.ID x3.ab x3.ah x3.Uses c0))))
def JH (F:Nat) (p0:Bool):Option Bool :=
 some p0
def bm:List (Int × Nat):=[(1,1),(2,2),(3,3),(4,4),(5,5),(6,6)]
def JO (F:Nat):Option (List (Int × Nat)) :=
 some (ed (ed (ed (ed (ed (ed ([]:List (Int × Nat)) 1 1) 2 2) 3 3) 4 4) 5 5) 6 6)
def yr (F:Nat) (p1:Int) (r1:List ax × Int) (aJ:Int→(List cj)→(List al)→Option (aK × List cj × Int)) (n3:Int) (l4:List cj) (l5:List al):Option (aK × List cj × Int) :=
 if (decide (n3<(r1.1.length:Int)))=true then
  (idx r1.1 n3).bind fun x7 =>
  if (decide (x7.ar.Time > p1))=true then
   some ((aK.mk l5),l4,0)
  else
  if (x7.Kind == 1)=true then
   (yL F (aK.mk l5) x7).bind fun cM =>
   if (cM.1 != 0)=true then
    (app l4 [(cj.mk (rX.mk x7.ar.Source x7.ar.Seq) cM.1)]).bind fun rU =>
    aJ (i64 (n3+1)) rU cM.2.aa
   else
   aJ (i64 (n3+1)) l4 cM.2.aa
  else
  if (x7.Kind == 2)=true then
   (yE F (aK.mk l5) x7).bind fun jT =>
   if (jT.1 != 0)=true then
    (app l4 [(cj.mk (rX.mk x7.ar.Source x7.ar.Seq) jT.1)]).bind fun pV =>
    aJ (i64 (n3+1)) pV jT.2.aa
   else
   aJ (i64 (n3+1)) l4 jT.2.aa
  else
  if (x7.Kind == 3)=true then
   (yB F (aK.mk l5) x7).bind fun hT =>
   if (hT.1 != 0)=true then
    (app l4 [(cj.mk (rX.mk x7.ar.Source x7.ar.Seq) hT.1)]).bind fun v23 =>
    aJ (i64 (n3+1)) v23 hT.2.aa
   else
   aJ (i64 (n3+1)) l4 hT.2.aa
  else
  if (x7.Kind == 4)=true then
   (mw F (aK.mk l5) x7).bind fun rz =>
   if (rz.1 != 0)=true then
    (app l4 [(cj.mk (rX.mk x7.ar.Source x7.ar.Seq) rz.1)]).bind fun v28 =>
    aJ (i64 (n3+1)) v28 rz.2.aa
   else
   aJ (i64 (n3+1)) l4 rz.2.aa
  else
  if (x7.Kind == 5)=true then
   (Dm F (aK.mk l5) x7 true).bind fun dg =>
   if (dg.1 != 0)=true then
    (app l4 [(cj.mk (rX.mk x7.ar.Source x7.ar.Seq) dg.1)]).bind fun v33 =>
    aJ (i64 (n3+1)) v33 dg.2.aa
   else
   aJ (i64 (n3+1)) l4 dg.2.aa
  else
  if (x7.Kind == 6)=true then
   (Dm F (aK.mk l5) x7 false).bind fun rA =>
   if (rA.1 != 0)=true then
    (app l4 [(cj.mk (rX.mk x7.ar.Source x7.ar.Seq) rA.1)]).bind fun Me =>
    aJ (i64 (n3+1)) Me rA.2.aa
   else
   aJ (i64 (n3+1)) l4 rA.2.aa
  else
  if (2 != 0)=true then
   (app l4 [(cj.mk (rX.mk x7.ar.Source x7.ar.Seq) 2)]).bind fun v41 =>
   aJ (i64 (n3+1)) v41 l5
  else
  aJ (i64 (n3+1)) l4 l5
 else
 some ((aK.mk l5),l4,0)
def wv (F:Nat) (p1:Int) (r1:List ax × Int):Nat→Int→(List cj)→(List al)→Option (aK × List cj × Int)
 | 0=>fun _ _ _=>.none
 | n+1=>yr F p1 r1 (wv F p1 r1 n)
def k7 (F:Nat) (p0:List ax) (p1:Int):Option (aK × List cj × Int) :=
 (yp F p0).bind fun r1 =>
 if (r1.2 != 0)=true then
  some ((aK.mk []),[],r1.2)
 else
 wv F p1 r1 F 0 ([]:List cj) ([]:List al)
def GC (p0:ai) (p1:ai) (aJ:Int→(List Int)→Option (List Int)) (n1:Int) (l2:List Int):Option (List Int) :=
 if (decide (n1<(max (p0.aG.length:Int) (p1.aG.length:Int))))=true then
  (if (decide (n1 ≥ (p0.aG.length:Int)))=true then some true else if (decide (n1 ≥ (p1.aG.length:Int)))=true then some true else (idx p0.aG n1).bind fun x8=>(idx p1.aG n1).bind fun x9=>some (!(decide (x8=x9)))).bind fun w5 =>
  if w5=true then
   (app l2 [n1]).bind fun v11 =>
   aJ (i64 (n1+1)) v11
  else
  aJ (i64 (n1+1)) l2
 else
 some l2
def A4 (p0:ai) (p1:ai):Nat→Int→(List Int)→Option (List Int)
 | 0=>fun _ _=>.none
 | n+1=>GC p0 p1 (A4 p0 p1 n)
def Cc (F:Nat) (p0:ai) (p1:ai):Option (List Int) :=
 A4 p0 p1 F 0 ([]:List Int)
def B8 (p0:List Int) (p1:List Int) (aJ:Int→Option Bool) (n2:Int):Option Bool :=
 if (decide (n2<(p0.length:Int)))=true then
  (idx p0 n2).bind fun x4 =>
  (idx p1 n2).bind fun x5 =>
  if (x4 != x5)=true then
   some false
  else
  aJ (i64 (n2+1))
 else
 some true
def ve (p0:List Int) (p1:List Int):Nat→Int→Option Bool
 | 0=>fun _=>.none
 | n+1=>B8 p0 p1 (ve p0 p1 n)
def vo (F:Nat) (p0:List Int) (p1:List Int):Option Bool :=
 if ((p0.length:Int) != (p1.length:Int))=true then
  some false
 else
 ve p0 p1 F 0
def qM (F:Nat) (p0:ai) (p1:ai):Option Bool :=
 (if (p0.ID == p1.ID)=true then if (p0.Version == p1.Version)=true then if (decide (p0.bI=p1.bI))=true then if ((p0.aG.length:Int) == (p1.aG.length:Int))=true then (Cc F p0 p1).bind fun r7=>if ((r7.length:Int) == 0)=true then (vo F p0.aE p1.aE).bind fun r9=>some r9 else some false else some false else some false else some false else some false).bind fun w2 =>
 some w2
def yO (F:Nat) (p0:ax) (p1:ax):Option Bool :=
 (if (decide (p0.ar=p1.ar))=true then if (p0.Kind == p1.Kind)=true then if (decide (p0.Ref=p1.Ref))=true then if (p0.Form == p1.Form)=true then (qM F p0.Item p1.Item).bind fun r7=>some r7 else some false else some false else some false else some false).bind fun w2 =>
 some w2
def yG (p0:aL):Option Bool :=
 some ((decide (p0.Time ≥ 0)) && ((decide (p0.Time≤1000000)) && ((decide (p0.Source ≥ 0)) && ((decide (p0.Source≤99)) && ((decide (p0.Seq ≥ 0)) && (decide (p0.Seq≤9999)))))))
def Ca (p0:aL) (p1:aL) (p2:Int) (p3:Int):Option Bool :=
 some ((p0.Source == p1.Source) && ((p0.Seq == p1.Seq) && ((p0.Time != p1.Time) || (p2 != p3))))
def Ds (p0:List aL) (p1:List Int) (p2:Int) (aJ:Int→Option Bool) (n4:Int):Option Bool :=
 if (decide (n4<(p0.length:Int)))=true then
  ((idx p0 n4).bind fun x8=>(yG x8).bind fun r9=>if r9=true then (idx p0 p2).bind fun bc=>(idx p0 n4).bind fun gC=>(idx p1 p2).bind fun fe=>(idx p1 n4).bind fun nP=>(Ca bc gC fe nP).bind fun gq=>if gq=true then some true else if (decide (n4<p2))=true then (idx p0 n4).bind fun IL=>(idx p0 p2).bind fun Hw=>some (decide (IL=Hw)) else some false else some false).bind fun w7 =>
  if w7=true then
   some false
  else
  aJ (i64 (n4+1))
 else
 some true
def Dx (p0:List aL) (p1:List Int) (p2:Int):Nat→Int→Option Bool
 | 0=>fun _=>.none
 | n+1=>Ds p0 p1 p2 (Dx p0 p1 p2 n)
def yC (F:Nat) (p0:List aL) (p1:List Int) (p2:Int):Option Bool :=
 (idx p0 p2).bind fun x1 =>
 (yG x1).bind fun r2 =>
 if (!r2)=true then
  some false
 else
 Dx p0 p1 p2 F 0
def yV (p0:Int) (p1:Int):Option Int :=
 if (decide (p0<p1))=true then
  some (-1)
 else
 if (decide (p0 > p1))=true then
  some 1
 else
 some 0
def yy (p0:aL) (p1:aL):Option Int :=
 (yV p0.Time p1.Time).bind fun r1 =>
 if (r1 == 0)=true then
  (yV p0.Source p1.Source).bind fun r3 =>
  if (r3 == 0)=true then
   (yV p0.Seq p1.Seq).bind fun r5 =>
   some r5
  else
  some r3
 else
 if (r1 == 0)=true then
  (yV p0.Seq p1.Seq).bind fun r7 =>
  some r7
 else
 some r1
def Gv (aJ:(List Int)→Int→Option (List Int × Int)) (p0:List aL) (l2:List Int) (n3:Int) (fo:Int→Option (List Int × Int)) (n7:Int):Option (List Int × Int) :=
 (if (decide (n7 > 0))=true then (idx l2 (i64 (n7 - 1))).bind fun bc=>(idx p0 bc).bind fun gC=>(idx p0 n3).bind fun fe=>(yy gC fe).bind fun fg=>some (decide (fg > 0)) else some false).bind fun w9 =>
 if w9=true then
  fo (i64 (n7 - 1))
 else
 (Eb l2 0 n7).bind fun Ec =>
 (app [] Ec).bind fun v17 =>
 (app v17 [n3]).bind fun pV =>
 (Eb l2 n7 (l2.length:Int)).bind fun qY =>
 (app pV qY).bind fun v20 =>
 aJ v20 (i64 (n3+1))
def Dq (aJ:(List Int)→Int→Option (List Int × Int)) (p0:List aL) (l2:List Int) (n3:Int):Nat→Int→Option (List Int × Int)
 | 0=>fun _=>.none
 | n+1=>Gv aJ p0 l2 n3 (Dq aJ p0 l2 n3 n)
def Gu (F:Nat) (p0:List aL) (p1:List Int) (aJ:(List Int)→Int→Option (List Int × Int)) (l2:List Int) (n3:Int):Option (List Int × Int) :=
 if (decide (n3<(p0.length:Int)))=true then
  (yC F p0 p1 n3).bind fun r5 =>
  if (!r5)=true then
   aJ l2 (i64 (n3+1))
  else
  Dq aJ p0 l2 n3 F (l2.length:Int)
 else
 if (decide ((l2.length:Int) > 300))=true then
  some ([],3)
 else
 some (l2,0)
def Dp (F:Nat) (p0:List aL) (p1:List Int):Nat→(List Int)→Int→Option (List Int × Int)
 | 0=>fun _ _=>.none
 | n+1=>Gu F p0 p1 (Dp F p0 p1 n)
def Dw (F:Nat) (p0:List aL) (p1:List Int):Option (List Int × Int) :=
 if ((p1.length:Int) != (p0.length:Int))=true then
  some ([],1)
 else
 Dp F p0 p1 F ([]:List Int) 0
def Gx (aJ:Int→(List aL)→(List Int)→Option (List ax × Int)) (F:Nat) (p0:List ax) (n1:Int) (l2:List aL) (l3:List Int) (fo:Int→Int→Option (List ax × Int)) (n5:Int) (n6:Int):Option (List ax × Int) :=
 if (decide (n6 ≥ 0))=true then
  (idx p0 n1).bind fun x8 =>
  (idx p0 n6).bind fun x9 =>
  (yO F x8 x9).bind fun dy =>
  if dy=true then
   fo n6 (i64 (n6 - 1))
  else
  fo n5 (i64 (n6 - 1))
 else
 (idx p0 n1).bind fun gC =>
 (app l2 [gC.ar]).bind fun rU =>
 (app l3 [n5]).bind fun kL =>
 aJ (i64 (n1+1)) rU kL
def A0 (aJ:Int→(List aL)→(List Int)→Option (List ax × Int)) (F:Nat) (p0:List ax) (n1:Int) (l2:List aL) (l3:List Int):Nat→Int→Int→Option (List ax × Int)
 | 0=>fun _ _=>.none
 | n+1=>Gx aJ F p0 n1 l2 l3 (A0 aJ F p0 n1 l2 l3 n)
def Gy (p0:List ax) (gq:List Int × Int) (oS:Int→(List ax)→Option (List ax × Int)) (n17:Int) (xa:List ax):Option (List ax × Int) :=
 if (decide (n17<(gq.1.length:Int)))=true then
  (idx gq.1 n17).bind fun Hx =>
  (idx p0 Hx).bind fun xd =>
  (app xa [xd]).bind fun v22 =>
  oS (i64 (n17+1)) v22
 else
 some (xa,0)
def A1 (p0:List ax) (gq:List Int × Int):Nat→Int→(List ax)→Option (List ax × Int)
 | 0=>fun _ _=>.none
 | n+1=>Gy p0 gq (A1 p0 gq n)
def Gw (F:Nat) (p0:List ax) (aJ:Int→(List aL)→(List Int)→Option (List ax × Int)) (n1:Int) (l2:List aL) (l3:List Int):Option (List ax × Int) :=
 if (decide (n1<(p0.length:Int)))=true then
  A0 aJ F p0 n1 l2 l3 F n1 (i64 (n1 - 1))
 else
 (Dw F l2 l3).bind fun gq =>
 if (gq.2 != 0)=true then
  some ([],gq.2)
 else
 A1 p0 gq F 0 ([]:List ax)
def yP (F:Nat) (p0:List ax):Nat→Int→(List aL)→(List Int)→Option (List ax × Int)
 | 0=>fun _ _ _=>.none
 | n+1=>Gw F p0 (yP F p0 n)
def B9 (F:Nat) (p0:List ax):Option (List ax × Int) :=
 yP F p0 F 0 ([]:List aL) ([]:List Int)
def ym (p0:aq):Option Bool :=
 if ((decide (p0.Max<1)) || ((decide (p0.Max > 40)) || ((decide (p0.e6<0)) || ((decide (p0.e6 ≥ 16)) || ((decide (p0.ct<0)) || (decide (p0.ct ≥ 6)))))))=true then
  some false
 else
 if (p0.Kind == 1)=true then
  some ((p0.Options == 0) && (p0.Key == 0))
 else
 some ((p0.Kind == 2) && ((decide (p0.Options ≥ 2)) && ((decide (p0.Options≤5)) && ((decide (p0.Key ≥ 0)) && (decide (p0.Key<p0.Options))))))
def yb (p0:ai) (oS:Int→Option Int) (n25:Int):Option Int :=
 if (decide (n25<(p0.aE.length:Int)))=true then
  ((idx p0.aE n25).bind fun MG=>if (decide (MG<0))=true then some true else (idx p0.aE n25).bind fun Ee=>if (decide (Ee > 9999))=true then some true else (idx p0.aE n25).bind fun TT=>if (TT == p0.ID)=true then some true else if (decide (n25 > 0))=true then (idx p0.aE (i64 (n25 - 1))).bind fun UZ=>(idx p0.aE n25).bind fun U0=>some (decide (UZ ≥ U0)) else some false).bind fun Rj =>
  if Rj=true then
   some 9
  else
  oS (i64 (n25+1))
 else
 some 0
def yR (p0:ai):Nat→Int→Option Int
 | 0=>fun _=>.none
 | n+1=>yb p0 (yR p0 n)
def ya (F:Nat) (p0:ai) (fo:Int→Option Int) (n20:Int):Option Int :=
 if (decide (n20<(p0.aG.length:Int)))=true then
  (idx p0.aG n20).bind fun J1 =>
  (ym J1).bind fun rP =>
  if (!rP)=true then
   some 1
  else
  fo (i64 (n20+1))
 else
 yR p0 F 0
def yQ (F:Nat) (p0:ai):Nat→Int→Option Int
 | 0=>fun _=>.none
 | n+1=>ya F p0 (yQ F p0 n)
def xZ (F:Nat) (p0:ai) (aJ:Int→Option Int) (n11:Int):Option Int :=
 if (decide (n11<(p0.bI.size:Int)))=true then
  ((y1 p0.bI n11).bind fun J0=>if (decide (J0<32))=true then some true else (y1 p0.bI n11).bind fun pY=>some (decide (pY > 126))).bind fun IK =>
  if IK=true then
   some 7
  else
  aJ (i64 (n11+1))
 else
 if ((p0.aG.length:Int) == 0)=true then
  some 10
 else
 yQ F p0 F 0
def A7 (F:Nat) (p0:ai):Nat→Int→Option Int
 | 0=>fun _=>.none
 | n+1=>xZ F p0 (A7 F p0 n)
def tD (F:Nat) (p0:ai):Option Int :=
 if ((decide (p0.ID<0)) || ((decide (p0.ID > 9999)) || ((decide (p0.Version<1)) || (decide (p0.Version > 8)))))=true then
  some 2
 else
 if ((decide ((p0.bI.size:Int) > 40)) || ((decide ((p0.aG.length:Int) > 6)) || (decide ((p0.aE.length:Int) > 8))))=true then
  some 3
 else
 if (decide (p0.bI=(ByteArray.mk #[])))=true then
  some 7
 else
 A7 F p0 F 0
def yf (aJ:Int→Option Bool) (n2:Int) (x4:al) (oS:Int→Option Bool) (n28:Int):Option Bool :=
 if (decide (n28<(x4.Uses.length:Int)))=true then
  ((idx x4.Uses n28).bind fun TS=>if (decide (TS.Version<1))=true then some true else (idx x4.Uses n28).bind fun UY=>some (decide (UY.Version > (x4.ab.length:Int)))).bind fun Rk =>
  if Rk=true then
   some false
  else
  oS (i64 (n28+1))
 else
 aJ (i64 (n2+1))
def yT (aJ:Int→Option Bool) (n2:Int) (x4:al):Nat→Int→Option Bool
 | 0=>fun _=>.none
 | n+1=>yf aJ n2 x4 (yT aJ n2 x4 n)
def ye (aJ:Int→Option Bool) (F:Nat) (n2:Int) (x4:al) (fo:Int→Option Bool) (n17:Int):Option Bool :=
 if (decide (n17<(x4.ab.length:Int)))=true then
  ((idx x4.ab n17).bind fun xd=>(tD F xd).bind fun jr=>if (jr != 0)=true then some true else (idx x4.ab n17).bind fun TR=>if (TR.ID != x4.ID)=true then some true else (idx x4.ab n17).bind fun Mh=>some (Mh.Version != (i64 (n17+1)))).bind fun Rh =>
  if Rh=true then
   some false
  else
  fo (i64 (n17+1))
 else
 yT aJ n2 x4 F 0
def yS (aJ:Int→Option Bool) (F:Nat) (n2:Int) (x4:al):Nat→Int→Option Bool
 | 0=>fun _=>.none
 | n+1=>ye aJ F n2 x4 (yS aJ F n2 x4 n)
def yd (F:Nat) (p0:aK) (aJ:Int→Option Bool) (n2:Int):Option Bool :=
 if (decide (n2<(p0.aa.length:Int)))=true then
  (idx p0.aa n2).bind fun x4 =>
  (if (decide (n2 > 0))=true then (idx p0.aa (i64 (n2 - 1))).bind fun x8=>if (decide (x8.ID ≥ x4.ID))=true then some true else if (decide ((x4.ab.length:Int)<1))=true then some true else if (decide ((x4.ab.length:Int) > 8))=true then some true else if ((x4.ah.length:Int) != (x4.ab.length:Int))=true then some true else some (decide ((x4.Uses.length:Int) > 300)) else if (decide ((x4.ab.length:Int)<1))=true then some true else if (decide ((x4.ab.length:Int) > 8))=true then some true else if ((x4.ah.length:Int) != (x4.ab.length:Int))=true then some true else some (decide ((x4.Uses.length:Int) > 300))).bind fun w6 =>
  if w6=true then
   some false
  else
  yS aJ F n2 x4 F 0
 else
 some true
def Ch (F:Nat) (p0:aK):Nat→Int→Option Bool
 | 0=>fun _=>.none
 | n+1=>yd F p0 (Ch F p0 n)
def yI (F:Nat) (p0:aK):Option Bool :=
 if (decide ((p0.aa.length:Int) > 40))=true then
  some false
 else
 Ch F p0 F 0
def yg (p0:aK) (p1:Int) (aJ:Int→Option Int) (n1:Int):Option Int :=
 if (decide (n1<(p0.aa.length:Int)))=true then
  (idx p0.aa n1).bind fun x3 =>
  if (x3.ID == p1)=true then
   some n1
  else
  aJ (i64 (n1+1))
 else
 some (-1)
def DB (p0:aK) (p1:Int):Nat→Int→Option Int
 | 0=>fun _=>.none
 | n+1=>yg p0 p1 (DB p0 p1 n)
def ux (F:Nat) (p0:aK) (p1:Int):Option Int :=
 DB p0 p1 F 0
def vh (aJ:Bool→Int→(List al)→Option aK) (p0:aK) (p1:al) (n2:Int) (b5:Bool) (l6:List al):Option aK :=
 (idx p0.aa n2).bind fun x7 =>
 if (x7.ID != p1.ID)=true then
  (idx p0.aa n2).bind fun x9 =>
  (app l6 [x9]).bind fun v10 =>
  aJ b5 (i64 (n2+1)) v10
 else
 aJ b5 (i64 (n2+1)) l6
def yo (p0:aK) (p1:al) (aJ:Bool→Int→(List al)→Option aK) (b1:Bool) (n2:Int) (l3:List al):Option aK :=
 if (decide (n2<(p0.aa.length:Int)))=true then
  (if (!b1)=true then (idx p0.aa n2).bind fun nP=>some (decide (nP.ID ≥ p1.ID)) else some false).bind fun DT =>
  if DT=true then
   (app l3 [p1]).bind fun Ec =>
   vh aJ p0 p1 n2 true Ec
  else
  vh aJ p0 p1 n2 b1 l3
 else
 if (!b1)=true then
  (app l3 [p1]).bind fun pV =>
  some (aK.mk pV)
 else
 some (aK.mk l3)
def yU (p0:aK) (p1:al):Nat→Bool→Int→(List al)→Option aK
 | 0=>fun _ _ _=>.none
 | n+1=>yo p0 p1 (yU p0 p1 n)
def uy (F:Nat) (p0:aK) (p1:al):Option aK :=
 yU p0 p1 F false 0 ([]:List al)
def yJ (F:Nat) (p0:aK) (p1:ai):Option (aK × Int) :=
 (tD F p1).bind fun r1 =>
 if (r1 != 0)=true then
  some ((aK.mk []),r1)
 else
 if (p1.Version != 1)=true then
  some ((aK.mk []),8)
 else
 (ux F p0 p1.ID).bind fun r4 =>
 if (decide (r4 ≥ 0))=true then
  some ((aK.mk []),5)
 else
 if ((p0.aa.length:Int) == 40)=true then
  some ((aK.mk []),3)
 else
 (uy F p0 (al.mk p1.ID [p1] [false] ([]:List ay) false)).bind fun r7 =>
 some (r7,0)
def yD (F:Nat) (p0:aK) (p1:ai):Option (aK × Int) :=
 (tD F p1).bind fun r1 =>
 if (r1 != 0)=true then
  some ((aK.mk []),r1)
 else
 (ux F p0 p1.ID).bind fun r3 =>
 if (decide (r3<0))=true then
  some ((aK.mk []),4)
 else
 (idx p0.aa r3).bind fun x5 =>
 if (x5.ae || (p1.Version != (i64 ((x5.ab.length:Int)+1))))=true then
  some ((aK.mk []),8)
 else
 (app [] x5.ab).bind fun v9 =>
 (app [] x5.ah).bind fun v10 =>
 (app v9 [p1]).bind fun v11 =>
 (app v10 [false]).bind fun v12 =>
 (uy F p0 (al.mk x5.ID v11 v12 x5.Uses x5.ae)).bind fun pN =>
 some (pN,0)
def yz (F:Nat) (p0:aK) (p1:bG):Option (aK × Int) :=
 (ux F p0 p1.ID).bind fun r1 =>
 (if (decide (r1<0))=true then some true else if (decide (p1.Version<1))=true then some true else (idx p0.aa r1).bind fun x6=>some (decide (p1.Version > (x6.ab.length:Int)))).bind fun w3 =>
 if w3=true then
  some ((aK.mk []),4)
 else
 (idx p0.aa r1).bind fun x8 =>
 if x8.ae=true then
  some ((aK.mk []),8)
 else
 (idx x8.ah (i64 (p1.Version - 1))).bind fun o9 =>
 if o9=true then
  some ((aK.mk []),5)
 else
 (app [] x8.ah).bind fun v12 =>
 (idx v12 (i64 (p1.Version - 1))).bind fun fe =>
 (uy F p0 (al.mk x8.ID x8.ab (v12.set ((i64 (p1.Version - 1)).toNat) true) x8.Uses x8.ae)).bind fun fg =>
 some (fg,0)
def yv (F:Nat) (p0:aK) (p1:bG) (p2:Int) (p3:Int) (x8:al) (aJ:Int→Option (aK × Int)) (n14:Int):Option (aK × Int) :=
 if (decide (n14<(x8.Uses.length:Int)))=true then
  (idx x8.Uses n14).bind fun Cn =>
  if (Cn.Form == p2)=true then
   some ((aK.mk []),5)
  else
  aJ (i64 (n14+1))
 else
 if ((x8.Uses.length:Int) == 300)=true then
  some ((aK.mk []),3)
 else
 (app [] x8.Uses).bind fun qY =>
 (app qY [(ay.mk p1.Version p2 p3)]).bind fun v20 =>
 (uy F p0 (al.mk x8.ID x8.ab x8.ah v20 x8.ae)).bind fun hT =>
 some (hT,0)
def tB (F:Nat) (p0:aK) (p1:bG) (p2:Int) (p3:Int) (x8:al):Nat→Int→Option (aK × Int)
 | 0=>fun _=>.none
 | n+1=>yv F p0 p1 p2 p3 x8 (tB F p0 p1 p2 p3 x8 n)
def lq (F:Nat) (p0:aK) (p1:bG) (p2:Int) (p3:Int):Option (aK × Int) :=
 (ux F p0 p1.ID).bind fun r1 =>
 (if (decide (r1<0))=true then some true else if (decide (p1.Version<1))=true then some true else (idx p0.aa r1).bind fun x6=>some (decide (p1.Version > (x6.ab.length:Int)))).bind fun w3 =>
 if w3=true then
  some ((aK.mk []),4)
 else
 (idx p0.aa r1).bind fun x8 =>
 (if x8.ae=true then some true else (idx x8.ah (i64 (p1.Version - 1))).bind fun gC=>some (!gC)).bind fun IJ =>
 if IJ=true then
  some ((aK.mk []),8)
 else
 tB F p0 p1 p2 p3 x8 F 0
def DD (F:Nat) (p0:aK) (p1:Int) (p2:Bool):Option (aK × Int) :=
 (ux F p0 p1).bind fun r1 =>
 if (decide (r1<0))=true then
  some ((aK.mk []),4)
 else
 (idx p0.aa r1).bind fun x3 =>
 if (x3.ae == p2)=true then
  some ((aK.mk []),8)
 else
 (uy F p0 (al.mk x3.ID x3.ab x3.ah x3.Uses p2)).bind fun r5 =>
 some (r5,0)
def yH (F:Nat) (p0:aK) (p1:ax):Option (aK × Int) :=
 (yI F p0).bind fun r1 =>
 if (!r1)=true then
  some ((aK.mk []),1)
 else
 if (p1.Kind == 1)=true then
  (yJ F p0 p1.Item).bind fun r4 =>
  some (r4.1,r4.2)
 else
 if (p1.Kind == 2)=true then
  (yD F p0 p1.Item).bind fun r6 =>
  some (r6.1,r6.2)
 else
 if (p1.Kind == 3)=true then
  (yz F p0 p1.Ref).bind fun r8 =>
  some (r8.1,r8.2)
 else
 if (p1.Kind == 4)=true then
  (lq F p0 p1.Ref p1.Form p1.ar.Time).bind fun dy =>
  some (dy.1,dy.2)
 else
 if (p1.Kind == 5)=true then
  (DD F p0 p1.Ref.ID true).bind fun dz =>
  some (dz.1,dz.2)
 else
 if (p1.Kind == 6)=true then
  (DD F p0 p1.Ref.ID false).bind fun fg =>
  some (fg.1,fg.2)
 else
 some ((aK.mk []),2)
def yn (F:Nat) (p1:Int) (r1:List ax × Int) (aJ:Int→(List al)→(List cj)→Option (aK × List cj × Int)) (n3:Int) (l4:List al) (l5:List cj):Option (aK × List cj × Int) :=
 if (decide (n3<(r1.1.length:Int)))=true then
  (idx r1.1 n3).bind fun x7 =>
  if (decide (x7.ar.Time > p1))=true then
   aJ (i64 (n3+1)) l4 l5
  else
  (idx r1.1 n3).bind fun x9 =>
  (yH F (aK.mk l4) x9).bind fun dy =>
  if (dy.2 != 0)=true then
   (idx r1.1 n3).bind fun gC =>
   (idx r1.1 n3).bind fun fe =>
   (app l5 [(cj.mk (rX.mk gC.ar.Source fe.ar.Seq) dy.2)]).bind fun kL =>
   aJ (i64 (n3+1)) l4 kL
  else
  aJ (i64 (n3+1)) dy.1.aa l5
 else
 some ((aK.mk l4),l5,0)
def A8 (F:Nat) (p1:Int) (r1:List ax × Int):Nat→Int→(List al)→(List cj)→Option (aK × List cj × Int)
 | 0=>fun _ _ _=>.none
 | n+1=>yn F p1 r1 (A8 F p1 r1 n)
def yN (F:Nat) (p0:List ax) (p1:Int):Option (aK × List cj × Int) :=
 (B9 F p0).bind fun r1 =>
 if (r1.2 != 0)=true then
  some ((aK.mk []),[],r1.2)
 else
 A8 F p1 r1 F 0 ([]:List al) ([]:List cj)
def Gt (p0:al) (p1:al) (oS:Int→Option Bool) (n18:Int):Option Bool :=
 if (decide (n18<(p0.Uses.length:Int)))=true then
  (idx p0.Uses n18).bind fun Hx =>
  (idx p1.Uses n18).bind fun xd =>
  if (!(decide (Hx=xd)))=true then
   some false
  else
  oS (i64 (n18+1))
 else
 some true
def AZ (p0:al) (p1:al):Nat→Int→Option Bool
 | 0=>fun _=>.none
 | n+1=>Gt p0 p1 (AZ p0 p1 n)
def Gs (F:Nat) (p0:al) (p1:al) (fo:Int→Option Bool) (n13:Int):Option Bool :=
 if (decide (n13<(p0.ah.length:Int)))=true then
  (idx p0.ah n13).bind fun J0 =>
  (idx p1.ah n13).bind fun Cn =>
  if (!(J0 == Cn))=true then
   some false
  else
  fo (i64 (n13+1))
 else
 AZ p0 p1 F 0
def yK (F:Nat) (p0:al) (p1:al):Nat→Int→Option Bool
 | 0=>fun _=>.none
 | n+1=>Gs F p0 p1 (yK F p0 p1 n)
def Gr (F:Nat) (p0:al) (p1:al) (aJ:Int→Option Bool) (n7:Int):Option Bool :=
 if (decide (n7<(p0.ab.length:Int)))=true then
  (idx p0.ab n7).bind fun x9 =>
  (idx p1.ab n7).bind fun o9 =>
  (qM F x9 o9).bind fun cM =>
  if (!cM)=true then
   some false
  else
  aJ (i64 (n7+1))
 else
 yK F p0 p1 F 0
def AY (F:Nat) (p0:al) (p1:al):Nat→Int→Option Bool
 | 0=>fun _=>.none
 | n+1=>Gr F p0 p1 (AY F p0 p1 n)
def xY (F:Nat) (p0:al) (p1:al):Option Bool :=
 if ((p0.ID != p1.ID) || ((!(p0.ae == p1.ae)) || (((p0.ab.length:Int) != (p1.ab.length:Int)) || (((p0.ah.length:Int) != (p1.ah.length:Int)) || ((p0.Uses.length:Int) != (p1.Uses.length:Int))))))=true then
  some false
 else
 AY F p0 p1 F 0
def Gq (p0:al) (fo:Int→Option Bool) (n15:Int):Option Bool :=
 if (decide (n15<(p0.Uses.length:Int)))=true then
  (idx p0.Uses n15).bind fun pY =>
  if ((decide (pY.Version<1)) || (decide (pY.Version > (p0.ab.length:Int))))=true then
   some false
  else
  fo (i64 (n15+1))
 else
 some true
def AX (p0:al):Nat→Int→Option Bool
 | 0=>fun _=>.none
 | n+1=>Gq p0 (AX p0 n)
def Gp (F:Nat) (p0:al) (aJ:Int→Option Bool) (n6:Int):Option Bool :=
 if (decide (n6<(p0.ab.length:Int)))=true then
  (idx p0.ab n6).bind fun x8 =>
  ((tE F x8).bind fun cM=>if (cM != 0)=true then some true else if (x8.ID != p0.ID)=true then some true else some (x8.Version != (i64 (n6+1)))).bind fun IJ =>
  if IJ=true then
   some false
  else
  aJ (i64 (n6+1))
 else
 AX p0 F 0
def Dn (F:Nat) (p0:al):Nat→Int→Option Bool
 | 0=>fun _=>.none
 | n+1=>Gp F p0 (Dn F p0 n)
def Du (F:Nat) (p0:al):Option Bool :=
 if ((decide ((p0.ab.length:Int)<1)) || ((decide ((p0.ab.length:Int) > 8)) || (((p0.ah.length:Int) != (p0.ab.length:Int)) || (decide ((p0.Uses.length:Int) > 300)))))=true then
  some false
 else
 Dn F p0 F 0
def yj (F:Nat) (p0:aK) (aJ:Int→Option Bool) (n2:Int):Option Bool :=
 if (decide (n2<(p0.aa.length:Int)))=true then
  (idx p0.aa n2).bind fun x4 =>
  (if (decide (n2 > 0))=true then (idx p0.aa (i64 (n2 - 1))).bind fun x8=>if (decide (x8.ID ≥ x4.ID))=true then some true else (Du F x4).bind fun dy=>some (!dy) else (Du F x4).bind fun cM=>some (!cM)).bind fun w6 =>
  if w6=true then
   some false
  else
  aJ (i64 (n2+1))
 else
 some true
def u9 (F:Nat) (p0:aK):Nat→Int→Option Bool
 | 0=>fun _=>.none
 | n+1=>yj F p0 (u9 F p0 n)
def yM (F:Nat) (p0:aK):Option Bool :=
 if (decide ((p0.aa.length:Int) > 40))=true then
  some false
 else
 u9 F p0 F 0
def yi (p0:ay) (c0:Int) (c1:Int):Option Bool :=
 some (decide (p0.Time > (i64 (c0 - c1))))
def GF (aJ:Int→(List bG)→Option (List bG)) (n10:Int) (gN:List bG) (fe:al) (fo:Int→Option (List bG)) (n19:Int):Option (List bG) :=
 if (decide (n19 ≥ 0))=true then
  (idx fe.ah n19).bind fun xd =>
  if xd=true then
   (app gN [(bG.mk fe.ID (i64 (n19+1)))]).bind fun v23 =>
   aJ (i64 (n10+1)) v23
  else
  fo (i64 (n19 - 1))
 else
 aJ (i64 (n10+1)) gN
def A6 (aJ:Int→(List bG)→Option (List bG)) (n10:Int) (gN:List bG) (fe:al):Nat→Int→Option (List bG)
 | 0=>fun _=>.none
 | n+1=>GF aJ n10 gN fe (A6 aJ n10 gN fe n)
def GD (F:Nat) (p0:aK) (p1:Int) (p2:Int) (p3:Int) (aJ:Int→(List bG)→Option (List bG)) (n10:Int) (gN:List bG):Option (List bG) :=
 if (decide (n10<(p0.aa.length:Int)))=true then
  (idx p0.aa n10).bind fun fe =>
  if (fe.ae || (decide ((fe.Uses.length:Int) > p3)))=true then
   aJ (i64 (n10+1)) gN
  else
  (Dh F fe.Uses (fun a0=>yi a0 p1 p2)).bind fun iw =>
  if iw=true then
   aJ (i64 (n10+1)) gN
  else
  A6 aJ n10 gN fe F (i64 ((fe.ah.length:Int) - 1))
 else
 some gN
def A5 (F:Nat) (p0:aK) (p1:Int) (p2:Int) (p3:Int):Nat→Int→(List bG)→Option (List bG)
 | 0=>fun _ _=>.none
 | n+1=>GD F p0 p1 p2 p3 (A5 F p0 p1 p2 p3 n)
def u7 (F:Nat) (p0:aK) (p1:Int) (p2:Int) (p3:Int):Option (List bG) :=
 ((yM F p0).bind fun r3=>if (!r3)=true then some true else if (decide (p1<0))=true then some true else if (decide (p1 > 1000000))=true then some true else if (decide (p2<0))=true then some true else if (decide (p2 > 1000000))=true then some true else some (decide (p3<0))).bind fun w2 =>
 if w2=true then
  some []
 else
 A5 F p0 p1 p2 p3 F 0 ([]:List bG)
def yF (F:Nat):Option Bool :=
 (k7 F ([(ax.mk (aL.mk 3 0 2) 4 (ai.mk 0 0 (ByteArray.mk #[]) [] []) (bG.mk 5 1) 9),(ax.mk (aL.mk 1 0 0) 1 (ai.mk 5 1 (ByteArray.mk #[113]) [(aq.mk 1 3 0 0 0 0)] []) (bG.mk 0 0) 0),(ax.mk (aL.mk 2 0 1) 3 (ai.mk 0 0 (ByteArray.mk #[]) [] []) (bG.mk 5 1) 0)]) 100).bind fun r1 =>
 (u7 F r1.1 10 7 1).bind fun r2 =>
 (if (r1.2.2 == 0)=true then if ((r1.2.1.length:Int) == 0)=true then if ((r2.length:Int) == 1)=true then (idx r2 0).bind fun x8=>if (decide (x8=(bG.mk 5 1)))=true then (u7 F r1.1 10 8 1).bind fun dy=>some ((dy.length:Int) == 0) else some false else some false else some false else some false).bind fun w4 =>
 some w4
def Mi (F:Nat) (p0:aP) (p1:Int):Option (aK × aP) :=
 (Mj F p0 14 0).bind fun r1 =>
 (yN F r1.1 1000000).bind fun r2 =>
 (if (decide (p1 > 0))=true then (oc r1.2 p1).bind fun r8=>if r8.1=true then some ((decide ((r2.1.aa.length:Int) > 0)),r8.2.L,r8.2.At) else some (false,r8.2.L,r8.2.At) else some (false,r1.2.L,r1.2.At)).bind fun w6 =>
 if w6.1=true then
  (idx r2.1.aa 0).bind fun bc =>
  (ja (aP.mk w6.2.1 w6.2.2) 4).bind fun dz =>
  if (dz.1 == 0)=true then
   (app bc.ah [true]).bind fun kL =>
   (app [] r2.1.aa).bind fun zJ =>
   (idx zJ 0).bind fun Cn =>
   some ((aK.mk (zJ.set ((0:Int).toNat) (al.mk bc.ID bc.ab kL bc.Uses bc.ae))),dz.2)
  else
  if (dz.1 == 1)=true then
   (ja dz.2 5).bind fun jU =>
   (app [] r2.1.aa).bind fun qY =>
   (idx qY 0).bind fun Hx =>
   some ((aK.mk (qY.set ((0:Int).toNat) (al.mk jU.1 bc.ab bc.ah bc.Uses bc.ae))),jU.2)
  else
  if (dz.1 == 2)=true then
   (kO dz.2 0 9).bind fun jr =>
   (app bc.Uses [(ay.mk jr.1 0 0)]).bind fun v23 =>
   (app [] r2.1.aa).bind fun v24 =>
   (idx v24 0).bind fun MF =>
   some ((aK.mk (v24.set ((0:Int).toNat) (al.mk bc.ID bc.ab bc.ah v23 bc.ae))),jr.2)
  else
  (app r2.1.aa [bc]).bind fun v26 =>
  (app [] v26).bind fun zK =>
  (idx zK 0).bind fun Rm =>
  some ((aK.mk (zK.set ((0:Int).toNat) bc)),dz.2)
 else
 some (r2.1,(aP.mk w6.2.1 w6.2.2))
def Gn (p0:al) (aJ:Int→(List ai)→Option al) (n2:Int) (l3:List ai):Option al :=
 if (decide (n2<(p0.ab.length:Int)))=true then
  (idx p0.ab n2).bind fun x5 =>
  (wu x5).bind fun r6 =>
  (idx l3 n2).bind fun x7 =>
  aJ (i64 (n2+1)) (l3.set n2.toNat r6)
 else
 (app [] p0.ah).bind fun v8 =>
 (app [] p0.Uses).bind fun v9 =>
 some (al.mk p0.ID l3 v8 v9 p0.ae)
def AW (p0:al):Nat→Int→(List ai)→Option al
 | 0=>fun _ _=>.none
 | n+1=>Gn p0 (AW p0 n)
def xX (F:Nat) (p0:al):Option al :=
 (C7 ((ai.mk 0 0 (ByteArray.mk #[]) [] []):ai) (p0.ab.length:Int)).bind fun v1 =>
 AW p0 F 0 v1
def yq (F:Nat) (p0:aK) (p1:Int) (aJ:Int→Option (al × Bool)) (n1:Int):Option (al × Bool) :=
 if (decide (n1<(p0.aa.length:Int)))=true then
  (idx p0.aa n1).bind fun x3 =>
  if (x3.ID == p1)=true then
   (xX F x3).bind fun r5 =>
   some (r5,true)
  else
  aJ (i64 (n1+1))
 else
 some ((al.mk 0 [] [] [] false),false)
def vi (F:Nat) (p0:aK) (p1:Int):Nat→Int→Option (al × Bool)
 | 0=>fun _=>.none
 | n+1=>yq F p0 p1 (vi F p0 p1 n)
def k6 (F:Nat) (p0:aK) (p1:Int):Option (al × Bool) :=
 vi F p0 p1 F 0
def vp (F:Nat) (p0:aK) (p1:Int):Option (al × Bool) :=
 (ux F p0 p1).bind fun r1 =>
 if (decide (r1<0))=true then
  some ((al.mk 0 [] [] [] false),false)
 else
 (idx p0.aa r1).bind fun x3 =>
 some (x3,true)
def GG (p0:aK) (p1:bG) (aJ:Int→Option (ai × Bool)) (n1:Int):Option (ai × Bool) :=
 if (decide (n1<(p0.aa.length:Int)))=true then
  (idx p0.aa n1).bind fun x3 =>
  if (x3.ID != p1.ID)=true then
   aJ (i64 (n1+1))
  else
  if ((decide (p1.Version<1)) || (decide (p1.Version > (x3.ab.length:Int))))=true then
   some ((ai.mk 0 0 (ByteArray.mk #[]) [] []),false)
  else
  (idx x3.ab (i64 (p1.Version - 1))).bind fun x8 =>
  (wu x8).bind fun r9 =>
  some (r9,true)
 else
 some ((ai.mk 0 0 (ByteArray.mk #[]) [] []),false)
def Dv (p0:aK) (p1:bG):Nat→Int→Option (ai × Bool)
 | 0=>fun _=>.none
 | n+1=>GG p0 p1 (Dv p0 p1 n)
def vj (F:Nat) (p0:aK) (p1:bG):Option (ai × Bool) :=
 Dv p0 p1 F 0
def vf (F:Nat) (p0:aK) (p1:bG):Option (ai × Bool) :=
 (vp F p0 p1.ID).bind fun r1 =>
 if ((!r1.2) || ((decide (p1.Version<1)) || (decide (p1.Version > (r1.1.ab.length:Int)))))=true then
  some ((ai.mk 0 0 (ByteArray.mk #[]) [] []),false)
 else
 (idx r1.1.ab (i64 (p1.Version - 1))).bind fun x6 =>
 some (x6,true)
def B7 (F:Nat) (p0:List Int) (p1:Int) (p2:Int):Option Bool :=
 (lp p0).bind fun r1 =>
 (Mi F r1 6).bind fun r2 =>
 (kg p1 6).bind fun r3 =>
 (kg p2 5).bind fun r4 =>
 (k6 F r2.1 r3).bind fun r5 =>
 (vp F r2.1 r3).bind fun r6 =>
 (vj F r2.1 (bG.mk r3 r4)).bind fun r7 =>
 (vf F r2.1 (bG.mk r3 r4)).bind fun r8 =>
 (vj F r2.1 (bG.mk p1 p2)).bind fun r9 =>
 (vf F r2.1 (bG.mk p1 p2)).bind fun dy =>
 ((xY F r5.1 r6.1).bind fun pN=>if pN=true then if (r5.2 == r6.2)=true then (qM F r7.1 r8.1).bind fun jT=>if jT=true then if (r7.2 == r8.2)=true then (qM F r9.1 dy.1).bind fun qN=>if qN=true then if (r9.2 == dy.2)=true then (yF F).bind fun jr=>some jr else some false else some false else some false else some false else some false else some false).bind fun DT =>
 some DT
end
end Go.Sh
