import Derived.Test.YtiinmaihgmfniaaGreatZLb
import Derived.Test.YtiinmaihgmfniaaGreatZLc
set_option linter.unusedVariables false
set_option linter.unusedSimpArgs false
set_option maxRecDepth 100000
set_option maxHeartbeats 1000000
namespace Go.Sh
open Go.L
noncomputable section
structure ax where
 L:List Int
 At:Int
 deriving DecidableEq,Inhabited
def ax.lv (x:ax):LV:=.agg [(lvl 1 LV.I) x.L,.I x.At]
theorem ax.ok:pG 2 ax.lv:=fun _=>⟨rfl,rfl,rfl⟩
structure bJ where
 Time:Int
 Source:Int
 Seq:Int
 deriving DecidableEq,Inhabited
def bJ.lv (x:bJ):LV:=.agg [.I x.Time,.I x.Source,.I x.Seq]
theorem bJ.ok:pG 3 bJ.lv:=fun _=>⟨rfl,rfl,rfl⟩
structure xX where
 Source:Int
 Seq:Int
 deriving DecidableEq,Inhabited
def xX.lv (x:xX):LV:=.agg [.I x.Source,.I x.Seq]
theorem xX.ok:pG 2 xX.lv:=fun _=>⟨rfl,rfl,rfl⟩
structure gM where
 Event:xX
 Code:Int
 deriving DecidableEq,Inhabited
def gM.lv (x:gM):LV:=.agg [.I x.Event.Source,.I x.Event.Seq,.I x.Code]
theorem gM.ok:pG 3 gM.lv:=fun _=>⟨rfl,rfl,rfl⟩
structure aq where
 Kind:Int
 Max:Int
 fx:Int
 cG:Int
 Options:Int
 Key:Int
 deriving DecidableEq,Inhabited
def aq.lv (x:aq):LV:=.agg [.I x.Kind,.I x.Max,.I x.fx,.I x.cG,.I x.Options,.I x.Key]
theorem aq.ok:pG 6 aq.lv:=fun _=>⟨rfl,rfl,rfl⟩
structure ah where
 ID:Int
 Version:Int
 cO:ByteArray
 aH:List aq
 aO:List Int
 deriving DecidableEq,Inhabited
def ah.lv (x:ah):LV:=.agg [.I x.ID,.I x.Version,LV.str x.cO,(lvl 6 aq.lv) x.aH,(lvl 1 LV.I) x.aO]
theorem ah.ok:pG 5 ah.lv:=fun _=>⟨rfl,rfl,rfl⟩
structure bD where
 ID:Int
 Version:Int
 deriving DecidableEq,Inhabited
def bD.lv (x:bD):LV:=.agg [.I x.ID,.I x.Version]
theorem bD.ok:pG 2 bD.lv:=fun _=>⟨rfl,rfl,rfl⟩
structure bu where
 ai:bJ
 Kind:Int
 Item:ah
 Ref:bD
 Form:Int
 deriving DecidableEq,Inhabited
def bu.lv (x:bu):LV:=.agg [.I x.ai.Time,.I x.ai.Source,.I x.ai.Seq,.I x.Kind,.I x.Item.ID,.I x.Item.Version,LV.str x.Item.cO,(lvl 6 aq.lv) x.Item.aH,(lvl 1 LV.I) x.Item.aO,.I x.Ref.ID,.I x.Ref.Version,.I x.Form]
theorem bu.ok:pG 12 bu.lv:=fun _=>⟨rfl,rfl,rfl⟩
structure bH where
 Version:Int
 Form:Int
 Time:Int
 deriving DecidableEq,Inhabited
def bH.lv (x:bH):LV:=.agg [.I x.Version,.I x.Form,.I x.Time]
theorem bH.ok:pG 3 bH.lv:=fun _=>⟨rfl,rfl,rfl⟩
structure a8 where
 ID:Int
 ak:List ah
 au:List Bool
 Uses:List bH
 al:Bool
 deriving DecidableEq,Inhabited
def a8.lv (x:a8):LV:=.agg [.I x.ID,(lvl 5 ah.lv) x.ak,(lvl 1 LV.bool) x.au,(lvl 3 bH.lv) x.Uses,LV.bool x.al]
theorem a8.ok:pG 5 a8.lv:=fun _=>⟨rfl,rfl,rfl⟩
structure bV where
 ab:List a8
 deriving DecidableEq,Inhabited
def bV.lv (x:bV):LV:=.agg [(lvl 5 a8.lv) x.ab]
abbrev OB (p:bV):Nat × LE:=(811,.box [.arr 812 p.ab.length])
theorem bV.ok:pG 1 bV.lv:=fun _=>⟨rfl,rfl,rfl⟩
structure bM where
 Index:Int
 bE:Int
 cX:Int
 deriving DecidableEq,Inhabited
def bM.lv (x:bM):LV:=.agg [.I x.Index,.I x.bE,.I x.cX]
theorem bM.ok:pG 3 bM.lv:=fun _=>⟨rfl,rfl,rfl⟩
structure bA where
 Code:Int
 Items:List bD
 deriving DecidableEq,Inhabited
def bA.lv (x:bA):LV:=.agg [.I x.Code,(lvl 2 bD.lv) x.Items]
theorem bA.ok:pG 2 bA.lv:=fun _=>⟨rfl,rfl,rfl⟩
structure fG where
 cD:Int
 c6:Int
 aY:Int
 bh:Int
 b5:List bM
 aR:List bM
 cV:List Int
 bC:List bA
 aV:Int
 deriving DecidableEq,Inhabited
def fG.lv (x:fG):LV:=.agg [.I x.cD,.I x.c6,.I x.aY,.I x.bh,(lvl 3 bM.lv) x.b5,(lvl 3 bM.lv) x.aR,(lvl 1 LV.I) x.cV,(lvl 2 bA.lv) x.bC,.I x.aV]
theorem fG.ok:pG 9 fG.lv:=fun _=>⟨rfl,rfl,rfl⟩
structure ar where
 bU:List Int
 bE:Int
 cX:Int
 deriving DecidableEq,Inhabited
def ar.lv (x:ar):LV:=.agg [(lvl 1 LV.I) x.bU,.I x.bE,.I x.cX]
theorem ar.ok:pG 3 ar.lv:=fun _=>⟨rfl,rfl,rfl⟩
structure cZ where
 aj:List Int
 Rows:List ar
 deriving DecidableEq,Inhabited
def cZ.lv (x:cZ):LV:=.agg [(lvl 1 LV.I) x.aj,(lvl 3 ar.lv) x.Rows]
theorem cZ.ok:pG 2 cZ.lv:=fun _=>⟨rfl,rfl,rfl⟩
structure aG where
 Kind:Int
 Var:Int
 Zero:Int
 One:Int
 Row:Int
 qx:Int
 Den:Int
 deriving DecidableEq,Inhabited
def aG.lv (x:aG):LV:=.agg [.I x.Kind,.I x.Var,.I x.Zero,.I x.One,.I x.Row,.I x.qx,.I x.Den]
theorem aG.ok:pG 7 aG.lv:=fun _=>⟨rfl,rfl,rfl⟩
structure bb where
 Found:Bool
 cT:List Int
 jH:Int
 ke:List aG
 deriving DecidableEq,Inhabited
def bb.lv (x:bb):LV:=.agg [LV.bool x.Found,(lvl 1 LV.I) x.cT,.I x.jH,(lvl 7 aG.lv) x.ke]
theorem bb.ok:pG 4 bb.lv:=fun _=>⟨rfl,rfl,rfl⟩
structure jd where
 Code:Int
 Variant:Int
 aH:List aq
 deriving DecidableEq,Inhabited
def jd.lv (x:jd):LV:=.agg [.I x.Code,.I x.Variant,(lvl 6 aq.lv) x.aH]
theorem jd.ok:pG 3 jd.lv:=fun _=>⟨rfl,rfl,rfl⟩
structure gQ where
 first:Int
 gy:Bool
 deriving DecidableEq,Inhabited
def gQ.lv (x:gQ):LV:=.agg [.I x.first,LV.bool x.gy]
theorem gQ.ok:pG 2 gQ.lv:=fun _=>⟨rfl,rfl,rfl⟩
def ni (p0:List Int):Option ax :=
 if (decide ((p0.length:Int) > 600))=true then
  (UG p0 0 600).bind fun v2 =>
  some (ax.mk v2 0)
 else
 some (ax.mk p0 0)
def KD (p0:ax):Option (Int × ax) :=
 if (decide (p0.At ≥ (p0.L.length:Int)))=true then
  some (0,p0)
 else
 (idx p0.L (i64 ((i64 (p0.At+1)) - 1))).bind fun x2 =>
 some (x2,(ax.mk p0.L (i64 (p0.At+1))))
def pq (p0:Int) (p1:Int):Option Int :=
 if (decide (p1<1))=true then
  some 0
 else
 (Uy p0 p1).bind fun v2 =>
 if (decide (v2<0))=true then
  some (i64 (v2+p1))
 else
 some v2
def gw (p0:ax) (p1:Int):Option (Int × ax) :=
 (KD p0).bind fun r1 =>
 (pq r1.1 p1).bind fun r2 =>
 some (r2,r1.2)
def jI (p0:ax) (p1:Int) (p2:Int):Option (Int × ax) :=
 (gw p0 (i64 ((i64 (p2 - p1))+1))).bind fun r1 =>
 some ((i64 (p1+r1.1)),r1.2)
def rl (p0:ax) (p1:List Int):Option (Int × ax) :=
 (gw p0 (p1.length:Int)).bind fun r1 =>
 (idx p1 r1.1).bind fun x2 =>
 some (x2,r1.2)
def KH  (aE:ByteArray→Int→(List Int)→Int→Option (ByteArray × ax)) (t2:ByteArray) (n3:Int) (l4:List Int) (n5:Int):Option (ByteArray × ax) :=
 if (decide (n3 > 0))=true then
  (gw (ax.mk l4 n5) 3).bind fun r7 =>
  (A5 t2 (GZ [(IntKind.u8.wrap (i64 (97+r7.1)))])).bind fun t8 =>
  aE t8 (i64 (n3 - 1)) r7.2.L r7.2.At
 else
 some (t2,(ax.mk l4 n5))
def KG :Nat→ByteArray→Int→(List Int)→Int→Option (ByteArray × ax)
 | 0=>fun _ _ _ _=>.none
 | n+1=>KH  (KG n)
def KF (F:Nat) (p0:ax) (p1:Int):Option (ByteArray × ax) :=
 (jI p0 1 p1).bind fun r1 =>
 KG F (ByteArray.mk #[]) r1.1 r1.2.L r1.2.At
def nC (p0:ax) (p1:Int):Option (Bool × ax) :=
 (gw p0 p1).bind fun r1 =>
 some ((r1.1 == (i64 (p1 - 1))),r1.2)
def uh (p0:ax):Option (Int × ax) :=
 (rl p0 [(-1),0,1,2,31,32,99,100,200,201,9999,10000,1000000,1000001,1152921504606846976,1152921504606846977,(-1152921504606846976),9223372036854775807,(-9223372036854775808)]).bind fun r1 =>
 some (r1.1,r1.2)
def IB (p1:Int) (r2:Int × ax) (r3:Int × ax) (l4:List Int) (n5:Int) (n6:Int) (n7:Int) (n8:Int) (n9:Int):Option (aq × ax) :=
 (if (decide (p1 > 0))=true then (nC (ax.mk l4 n5) p1).bind fun ri=>some (ri.1,ri.2.L,ri.2.At) else some (false,l4,n5)).bind fun N2 =>
 if N2.1=true then
  (gw (ax.mk N2.2.1 N2.2.2) 6).bind fun jk =>
  if (jk.1 == 0)=true then
   (jI jk.2 (-1) 3).bind fun Bt =>
   some ((aq.mk Bt.1 n7 r2.1 r3.1 n8 n9),Bt.2)
  else
  if (jk.1 == 1)=true then
   (rl jk.2 [0,40,41,(-1)]).bind fun nA =>
   some ((aq.mk n6 nA.1 r2.1 r3.1 n8 n9),nA.2)
  else
  if (jk.1 == 2)=true then
   (uh jk.2).bind fun uB =>
   some ((aq.mk n6 n7 uB.1 r3.1 n8 n9),uB.2)
  else
  if (jk.1 == 3)=true then
   (uh jk.2).bind fun PE =>
   some ((aq.mk n6 n7 r2.1 PE.1 n8 n9),PE.2)
  else
  if (jk.1 == 4)=true then
   (jI jk.2 (-1) 6).bind fun AZ =>
   some ((aq.mk n6 n7 r2.1 r3.1 AZ.1 n9),AZ.2)
  else
  (jI jk.2 (-1) 5).bind fun Bu =>
  some ((aq.mk n6 n7 r2.1 r3.1 n8 Bu.1),Bu.2)
 else
 some ((aq.mk n6 n7 r2.1 r3.1 n8 n9),(ax.mk N2.2.1 N2.2.2))
def IA (p0:ax) (p1:Int):Option (aq × ax) :=
 (jI p0 1 12).bind fun r1 =>
 (gw r1.2 4).bind fun r2 =>
 (gw r2.2 3).bind fun r3 =>
 (gw r3.2 3).bind fun tT =>
 if (tT.1 == 0)=true then
  (jI tT.2 2 5).bind fun jV =>
  (gw jV.2 jV.1).bind fun r32 =>
  (jI r32.2 1 3).bind fun yw =>
  IB p1 r2 r3 yw.2.L yw.2.At 2 yw.1 jV.1 r32.1
 else
 IB p1 r2 r3 tT.2.L tT.2.At 1 r1.1 0 0
def KC (p1:Int) (p2:Int) (p3:Int) (t2:ByteArray) (l7:List aq) (dU:Int→(List Int)→Int→(List Int)→Option (ah × ax)) (n11:Int) (qO:List Int) (n13:Int) (lJ:List Int):Option (ah × ax) :=
 if (decide (n11<6))=true then
  (if (n11 != p1)=true then (nC (ax.mk qO n13) 8).bind fun nA=>some (nA.1,nA.2.L,nA.2.At) else some (false,qO,n13)).bind fun EX =>
  if EX.1=true then
   (app lJ [n11]).bind fun v23 =>
   dU (i64 (n11+1)) EX.2.1 EX.2.2 v23
  else
  dU (i64 (n11+1)) EX.2.1 EX.2.2 lJ
 else
 (if (decide (p3 > 0))=true then (nC (ax.mk qO n13) p3).bind fun tT=>some (tT.1,tT.2.L,tT.2.At) else some (false,qO,n13)).bind fun Qb =>
 if Qb.1=true then
  (gw (ax.mk Qb.2.1 Qb.2.2) 7).bind fun jV =>
  if (jV.1 == 0)=true then
   (uh jV.2).bind fun yw =>
   some ((ah.mk yw.1 p2 t2 l7 lJ),yw.2)
  else
  if (jV.1 == 1)=true then
   (rl jV.2 [0,8,9,(-1)]).bind fun PF =>
   some ((ah.mk p1 PF.1 t2 l7 lJ),PF.2)
  else
  if (jV.1 == 2)=true then
   (gw jV.2 3).bind fun GO =>
   (idx ([(ByteArray.mk #[]),(ByteArray.mk #[116,97,98,9]),(ByteArray.mk #[48,49,50,51,52,53,54,55,56,57,48,49,50,51,52,53,54,55,56,57,48,49,50,51,52,53,54,55,56,57,48,49,50,51,52,53,54,55,56,57,120])]) GO.1).bind fun U0 =>
   some ((ah.mk p1 p2 U0 l7 lJ),GO.2)
  else
  if (jV.1 == 3)=true then
   some ((ah.mk p1 p2 t2 [] lJ),jV.2)
  else
  if (jV.1 == 4)=true then
   (IA jV.2 1).bind fun Vr =>
   (app l7 [Vr.1]).bind fun v42 =>
   some ((ah.mk p1 p2 t2 v42 lJ),Vr.2)
  else
  if (jV.1 == 5)=true then
   (rl jV.2 [0,p1,(-1),10000,3]).bind fun E5 =>
   (app lJ [E5.1]).bind fun v45 =>
   some ((ah.mk p1 p2 t2 l7 v45),E5.2)
  else
  (idx l7 0).bind fun Ot =>
  (idx l7 0).bind fun x47 =>
  (idx l7 0).bind fun x48 =>
  (idx l7 0).bind fun x49 =>
  (idx l7 0).bind fun x50 =>
  (idx l7 0).bind fun x51 =>
  (app l7 [Ot,x47,x48,x49,x50,x51]).bind fun ZK =>
  some ((ah.mk p1 p2 t2 ZK lJ),jV.2)
 else
 some ((ah.mk p1 p2 t2 l7 lJ),(ax.mk Qb.2.1 Qb.2.2))
def Iz (p1:Int) (p2:Int) (p3:Int) (t2:ByteArray) (l7:List aq):Nat→Int→(List Int)→Int→(List Int)→Option (ah × ax)
 | 0=>fun _ _ _ _=>.none
 | n+1=>KC p1 p2 p3 t2 l7 (Iz p1 p2 p3 t2 l7 n)
def KB (F:Nat) (p1:Int) (p2:Int) (p3:Int) (t2:ByteArray) (aE:Int→(List Int)→Int→(List aq)→Option (ah × ax)) (n4:Int) (l5:List Int) (n6:Int) (l7:List aq):Option (ah × ax) :=
 if (decide (n4 > 0))=true then
  (IA (ax.mk l5 n6) 0).bind fun r9 =>
  (app l7 [r9.1]).bind fun v10 =>
  aE (i64 (n4 - 1)) r9.2.L r9.2.At v10
 else
 Iz p1 p2 p3 t2 l7 F 0 l5 n6 ([]:List Int)
def KA (F:Nat) (p1:Int) (p2:Int) (p3:Int) (t2:ByteArray):Nat→Int→(List Int)→Int→(List aq)→Option (ah × ax)
 | 0=>fun _ _ _ _=>.none
 | n+1=>KB F p1 p2 p3 t2 (KA F p1 p2 p3 t2 n)
def Kz (F:Nat) (p0:ax) (p1:Int) (p2:Int) (p3:Int):Option (ah × ax) :=
 (KF F p0 3).bind fun r1 =>
 (A5 (ByteArray.mk #[113]) r1.1).bind fun t2 =>
 (jI r1.2 1 3).bind fun r3 =>
 KA F p1 p2 p3 t2 F r3.1 r3.2.L r3.2.At ([]:List aq)
def RW (p0:ax) (p1:Int):Option (bJ × ax) :=
 (jI p0 0 24).bind fun r1 =>
 (jI r1.2 0 3).bind fun r2 =>
 (jI r2.2 0 9).bind fun r3 =>
 (if (decide (p1 > 0))=true then (nC r3.2 p1).bind fun r9=>some (r9.1,r9.2.L,r9.2.At) else some (false,r3.2.L,r3.2.At)).bind fun w7 =>
 if w7.1=true then
  (gw (ax.mk w7.2.1 w7.2.2) 3).bind fun dS =>
  if (dS.1 == 0)=true then
   (uh dS.2).bind fun sD =>
   some ((bJ.mk sD.1 r2.1 r3.1),sD.2)
  else
  if (dS.1 == 1)=true then
   (uh dS.2).bind fun ri =>
   some ((bJ.mk r1.1 ri.1 r3.1),ri.2)
  else
  (uh dS.2).bind fun gV =>
  some ((bJ.mk r1.1 r2.1 gV.1),gV.2)
 else
 some ((bJ.mk r1.1 r2.1 r3.1),(ax.mk w7.2.1 w7.2.2))
def xW (aE:Int→(List Int)→Int→(List Int)→(List bu)→Option (List bu × ax)) (n3:Int) (l7:List bu) (n18:Int) (t20:ByteArray) (yj:List aq) (yl:List Int) (n25:Int) (rh:List Int) (n27:Int) (n28:Int) (n29:Int) (n30:Int) (n31:Int) (n32:Int) (n33:Int) (XM:List Int) (n35:Int):Option (List bu × ax) :=
 (app l7 [(bu.mk (bJ.mk n27 n28 n29) n30 (ah.mk n18 n31 t20 yj yl) (bD.mk n32 n33) n25)]).bind fun Vv =>
 (nC (ax.mk XM n35) 8).bind fun GO =>
 if GO.1=true then
  (gw GO.2 (Vv.length:Int)).bind fun PG =>
  (idx Vv PG.1).bind fun VA =>
  (app Vv [VA]).bind fun v41 =>
  aE (i64 (n3 - 1)) PG.2.L PG.2.At rh v41
 else
 aE (i64 (n3 - 1)) GO.2.L GO.2.At rh Vv
def Ix (aE:Int→(List Int)→Int→(List Int)→(List bu)→Option (List bu × ax)) (p2:Int) (n3:Int) (l7:List bu) (fR:Int × ax) (dS:Int × ax) (Vm:List Int) (n16:Int) (n17:Int) (n18:Int) (n19:Int) (t20:ByteArray) (yj:List aq) (yl:List Int) (n23:Int) (n24:Int) (n25:Int) (rh:List Int):Option (List bu × ax) :=
 (if (decide (p2 > 0))=true then (nC (ax.mk Vm n16) p2).bind fun zJ=>some (zJ.1,zJ.2.L,zJ.2.At) else some (false,Vm,n16)).bind fun N4 =>
 if N4.1=true then
  (gw (ax.mk N4.2.1 N4.2.2) 5).bind fun Oj =>
  if (Oj.1 == 0)=true then
   (jI Oj.2 (-1) 8).bind fun Ol =>
   xW aE n3 l7 n18 t20 yj yl n25 rh (i64 ((l7.length:Int)+fR.1)) dS.1 (l7.length:Int) Ol.1 n19 n23 n24 Ol.2.L Ol.2.At
  else
  if (Oj.1 == 1)=true then
   (jI Oj.2 (-1) 3).bind fun Om =>
   xW aE n3 l7 n18 t20 yj yl n25 rh (i64 ((l7.length:Int)+fR.1)) dS.1 (l7.length:Int) n17 n19 n23 Om.1 Om.2.L Om.2.At
  else
  if (Oj.1 == 2)=true then
   (gw Oj.2 7).bind fun GP =>
   xW aE n3 l7 n18 t20 yj yl n25 rh (i64 ((l7.length:Int)+fR.1)) dS.1 (l7.length:Int) n17 n19 GP.1 n24 GP.2.L GP.2.At
  else
  if (Oj.1 == 3)=true then
   (RW Oj.2 3).bind fun oQ =>
   xW aE n3 l7 n18 t20 yj yl n25 rh oQ.1.Time oQ.1.Source oQ.1.Seq n17 n19 n23 n24 oQ.2.L oQ.2.At
  else
  (jI Oj.2 0 3).bind fun On =>
  xW aE n3 l7 n18 t20 yj yl n25 rh (i64 ((l7.length:Int)+fR.1)) dS.1 (l7.length:Int) n17 On.1 n23 n24 On.2.L On.2.At
 else
 xW aE n3 l7 n18 t20 yj yl n25 rh (i64 ((l7.length:Int)+fR.1)) dS.1 (l7.length:Int) n17 n19 n23 n24 N4.2.1 N4.2.2
def Iy (aE:Int→(List Int)→Int→(List Int)→(List bu)→Option (List bu × ax)) (F:Nat) (p2:Int) (n3:Int) (l6:List Int) (l7:List bu) (r9:Int × ax) (fR:Int × ax) (dS:Int × ax) (fJ:Int × ax) (QW:Int):Option (List bu × ax) :=
 (idx l6 r9.1).bind fun Ou =>
 (idx l6 r9.1).bind fun x66 =>
 (idx (l6.set r9.1.toNat (min (i64 (Ou+1)) 9)) r9.1).bind fun x67 =>
 (Kz F fJ.2 r9.1 x67 p2).bind fun xh =>
 Ix aE p2 n3 l7 fR dS xh.2.L xh.2.At QW xh.1.ID xh.1.Version xh.1.cO xh.1.aH xh.1.aO 0 0 0 (l6.set r9.1.toNat (min (i64 (Ou+1)) 9))
def Ks (F:Nat) (p2:Int) (aE:Int→(List Int)→Int→(List Int)→(List bu)→Option (List bu × ax)) (n3:Int) (l4:List Int) (n5:Int) (l6:List Int) (l7:List bu):Option (List bu × ax) :=
 if (decide (n3 > 0))=true then
  (gw (ax.mk l4 n5) 5).bind fun r9 =>
  (gw r9.2 2).bind fun fR =>
  (gw fR.2 2).bind fun dS =>
  (rl dS.2 [3,4,4,2,5,6]).bind fun jU =>
  (idx l6 r9.1).bind fun jc =>
  (gw jU.2 4).bind fun fJ =>
  ((idx l6 r9.1).bind fun ZP=>if (ZP == 0)=true then some true else some (jU.1 == 2)).bind fun w60 =>
  if w60=true then
   (idx l6 r9.1).bind fun x69 =>
   if (x69 == 0)=true then
    Iy aE F p2 n3 l6 l7 r9 fR dS fJ 1
   else
   Iy aE F p2 n3 l6 l7 r9 fR dS fJ 2
  else
  Ix aE p2 n3 l7 fR dS fJ.2.L fJ.2.At jU.1 0 0 (ByteArray.mk #[]) ([]:List aq) ([]:List Int) r9.1 (max 1 jc) fJ.1 l6
 else
 some (l7,(ax.mk l4 n5))
def Kr (F:Nat) (p2:Int):Nat→Int→(List Int)→Int→(List Int)→(List bu)→Option (List bu × ax)
 | 0=>fun _ _ _ _ _=>.none
 | n+1=>Ks F p2 (Kr F p2 n)
def RX (F:Nat) (p0:ax) (p1:Int) (p2:Int):Option (List bu × ax) :=
 (yo (0:Int) 5).bind fun v1 =>
 (jI p0 0 p1).bind fun r2 =>
 Kr F p2 F r2.1 r2.2.L r2.2.At v1 ([]:List bu)
def Ni (p0:List bu) (p1:(bu→Option bJ)) (p2:(bu→bu→Option Bool)) (aE:Int→(List bJ)→(List Int)→(List (bJ × Int))→Option (List bJ × List Int)) (n3:Int) (l4:List bJ) (l5:List Int) (m6:List (bJ × Int)):Option (List bJ × List Int) :=
 if (decide (n3<(p0.length:Int)))=true then
  (idx p0 n3).bind fun x8 =>
  (p1 x8).bind fun r9 =>
  (idx l4 n3).bind fun mI =>
  (idx (l4.set n3.toNat r9) n3).bind fun qa =>
  if (!((eR m6 qa).isSome))=true then
   (idx (l4.set n3.toNat r9) n3).bind fun jc =>
   aE (i64 (n3+1)) (l4.set n3.toNat r9) l5 (et m6 jc n3)
  else
  (idx p0 ((eR m6 qa).getD 0)).bind fun e7 =>
  (p2 e7 x8).bind fun ri =>
  if (!ri)=true then
   (idx l5 n3).bind fun jn =>
   aE (i64 (n3+1)) (l4.set n3.toNat r9) (l5.set n3.toNat 1) m6
  else
  aE (i64 (n3+1)) (l4.set n3.toNat r9) l5 m6
 else
 some (l4,l5)
def Gj (p0:List bu) (p1:(bu→Option bJ)) (p2:(bu→bu→Option Bool)):Nat→Int→(List bJ)→(List Int)→(List (bJ × Int))→Option (List bJ × List Int)
 | 0=>fun _ _ _ _=>.none
 | n+1=>Ni p0 p1 p2 (Gj p0 p1 p2 n)
def CR (F:Nat) (p0:List bu) (p1:(bu→Option bJ)) (p2:(bu→bu→Option Bool)):Option (List bJ × List Int) :=
 (yo ((bJ.mk 0 0 0):bJ) (p0.length:Int)).bind fun v1 =>
 (yo (0:Int) (p0.length:Int)).bind fun v2 =>
 Gj p0 p1 p2 F 0 v1 v2 ([]:List (bJ × Int))
def Ig (p0:bJ):Option Bool :=
 some ((decide (p0.Time ≥ 0)) && ((decide (p0.Time≤1000000)) && ((decide (p0.Source ≥ 0)) && ((decide (p0.Source≤99)) && ((decide (p0.Seq ≥ 0)) && (decide (p0.Seq≤9999)))))))
def cmp_isNaN_int (p0:Int):Option Bool :=
 some (p0 != p0)
def db (p0:Int) (p1:Int):Option Int :=
 (cmp_isNaN_int p0).bind fun r1 =>
 (cmp_isNaN_int p1).bind fun r2 =>
 if r1=true then
  if r2=true then
   some 0
  else
  some (-1)
 else
 if r2=true then
  some 1
 else
 if (decide (p0<p1))=true then
  some (-1)
 else
 if (decide (p0 > p1))=true then
  some 1
 else
 some 0
def fU (p0:List Int) (aE:Int→Option Int) (n1:Int):Option Int :=
 if (decide (n1<(p0.length:Int)))=true then
  (idx p0 n1).bind fun x3 =>
  if (x3 != 0)=true then
   some x3
  else
  aE (i64 (n1+1))
 else
 some 0
def fl (p0:List Int):Nat→Int→Option Int
 | 0=>fun _=>.none
 | n+1=>fU p0 (fl p0 n)
def iC (F:Nat) (p0:List Int):Option Int :=
 fl p0 F 0
def JE (F:Nat) (p0:bJ) (p1:bJ):Option Int :=
 (db p0.Source p1.Source).bind fun r1 =>
 (db p0.Seq p1.Seq).bind fun r2 =>
 (iC F [r1,r2]).bind fun r3 =>
 some r3
def zw (F:Nat) (p0:Int) (p1:Int) (c0:List bJ):Option Int :=
 (idx c0 p0).bind fun x1 =>
 (idx c0 p1).bind fun x2 =>
 (JE F x1 x2).bind fun r3 =>
 (db p0 p1).bind fun r4 =>
 (iC F [r3,r4]).bind fun r5 =>
 some r5
def DP (F:Nat) (p0:List bJ) (p1:List Int) (l8:List Int) (dU:Int→(List gQ)→Option (List gQ)) (n9:Int) (iN:List gQ):Option (List gQ) :=
 if (decide (n9<(l8.length:Int)))=true then
  (idx l8 n9).bind fun kb =>
  (if (decide ((i64 ((iN.length:Int) - 1))<0))=true then some true else (idx iN (i64 ((iN.length:Int) - 1))).bind fun oe=>(idx p0 oe.first).bind fun jn=>(idx p0 kb).bind fun x18=>(JE F jn x18).bind fun Bt=>some (Bt != 0)).bind fun N3 =>
  if N3=true then
   (app iN [(gQ.mk kb false)]).bind fun v21 =>
   dU (i64 (n9+1)) v21
  else
  (idx iN (i64 ((iN.length:Int) - 1))).bind fun x22 =>
  ((idx p0 x22.first).bind fun Hc=>(idx p0 kb).bind fun x26=>if (!(decide (Hc=x26)))=true then some true else (idx p1 x22.first).bind fun x28=>(idx p1 kb).bind fun x29=>some (x28 != x29)).bind fun UW =>
  if UW=true then
   (idx iN (i64 ((iN.length:Int) - 1))).bind fun Vx =>
   dU (i64 (n9+1)) (iN.set ((i64 ((iN.length:Int) - 1)).toNat) (gQ.mk Vx.first true))
  else
  dU (i64 (n9+1)) iN
 else
 some iN
def zt (F:Nat) (p0:List bJ) (p1:List Int) (l8:List Int):Nat→Int→(List gQ)→Option (List gQ)
 | 0=>fun _ _=>.none
 | n+1=>DP F p0 p1 l8 (zt F p0 p1 l8 n)
def DO (F:Nat) (p0:List bJ) (p1:List Int) (aE:Int→(List Int)→Option (List gQ)) (n1:Int) (l2:List Int):Option (List gQ) :=
 if (decide (n1<(p0.length:Int)))=true then
  (idx p0 n1).bind fun x4 =>
  (Ig x4).bind fun r5 =>
  if r5=true then
   (app l2 [n1]).bind fun v7 =>
   aE (i64 (n1+1)) v7
  else
  aE (i64 (n1+1)) l2
 else
 (sf (fun a0 a1=>zw F a0 a1 p0) l2).bind fun l8 =>
 zt F p0 p1 l8 F 0 ([]:List gQ)
def zr (F:Nat) (p0:List bJ) (p1:List Int):Nat→Int→(List Int)→Option (List gQ)
 | 0=>fun _ _=>.none
 | n+1=>DO F p0 p1 (zr F p0 p1 n)
def Ie (F:Nat) (p0:List bJ) (p1:List Int):Option (List gQ) :=
 zr F p0 p1 F 0 ([]:List Int)
def Eb (F:Nat) (p0:bJ) (p1:bJ):Option Int :=
 (db p0.Time p1.Time).bind fun r1 =>
 (db p0.Source p1.Source).bind fun r2 =>
 (db p0.Seq p1.Seq).bind fun r3 =>
 (iC F [r1,r2,r3]).bind fun r4 =>
 some r4
def zi (F:Nat) (p0:Int) (p1:Int) (c0:List bJ):Option Int :=
 (idx c0 p0).bind fun x1 =>
 (idx c0 p1).bind fun x2 =>
 (Eb F x1 x2).bind fun r3 =>
 some r3
def De (F:Nat) (p0:List bJ) (r2:List gQ) (aE:Int→(List Int)→Option (List Int × Int)) (n3:Int) (l4:List Int):Option (List Int × Int) :=
 if (decide (n3<(r2.length:Int)))=true then
  (idx r2 n3).bind fun x6 =>
  if (!x6.gy)=true then
   (app l4 [x6.first]).bind fun v8 =>
   aE (i64 (n3+1)) v8
  else
  aE (i64 (n3+1)) l4
 else
 if (decide ((l4.length:Int) > 300))=true then
  some ([],3)
 else
 (sf (fun a0 a1=>zi F a0 a1 p0) l4).bind fun iN =>
 some (iN,0)
def zf (F:Nat) (p0:List bJ) (r2:List gQ):Nat→Int→(List Int)→Option (List Int × Int)
 | 0=>fun _ _=>.none
 | n+1=>De F p0 r2 (zf F p0 r2 n)
def zq (F:Nat) (p0:List bJ) (p1:List Int):Option (List Int × Int) :=
 if ((p0.length:Int) != (p1.length:Int))=true then
  some ([],1)
 else
 (Ie F p0 p1).bind fun r2 =>
 zf F p0 r2 F 0 ([]:List Int)
def Nl (F:Nat) (p0:List bu) (p1:(bu→Option bJ)) (p2:(bu→bu→Option Bool)):Option (List Int × Int) :=
 (CR F p0 p1 p2).bind fun r1 =>
 (zq F r1.1 r1.2).bind fun r2 =>
 some (r2.1,r2.2)
def H6 (p0:bu):Option bJ :=
 some p0.ai
def Nj (p0:List aq) (p1:List aq) (aE:Int→Option Bool) (n2:Int):Option Bool :=
 if (decide (n2<(p0.length:Int)))=true then
  (idx p0 n2).bind fun x4 =>
  (idx p1 n2).bind fun x5 =>
  if (!(decide (x4=x5)))=true then
   some false
  else
  aE (i64 (n2+1))
 else
 some true
def JA (p0:List aq) (p1:List aq):Nat→Int→Option Bool
 | 0=>fun _=>.none
 | n+1=>Nj p0 p1 (JA p0 p1 n)
def CZ (F:Nat) (p0:List aq) (p1:List aq):Option Bool :=
 if ((p0.length:Int) != (p1.length:Int))=true then
  some false
 else
 JA p0 p1 F 0
def No (p0:List Int) (p1:List Int) (aE:Int→Option Bool) (n2:Int):Option Bool :=
 if (decide (n2<(p0.length:Int)))=true then
  (idx p0 n2).bind fun x4 =>
  (idx p1 n2).bind fun x5 =>
  if (x4 != x5)=true then
   some false
  else
  aE (i64 (n2+1))
 else
 some true
def JB (p0:List Int) (p1:List Int):Nat→Int→Option Bool
 | 0=>fun _=>.none
 | n+1=>No p0 p1 (JB p0 p1 n)
def Dd (F:Nat) (p0:List Int) (p1:List Int):Option Bool :=
 if ((p0.length:Int) != (p1.length:Int))=true then
  some false
 else
 JB p0 p1 F 0
def D9 (F:Nat) (p0:ah) (p1:ah):Option Bool :=
 (if (p0.ID == p1.ID)=true then if (p0.Version == p1.Version)=true then if (decide (p0.cO=p1.cO))=true then (CZ F p0.aH p1.aH).bind fun r6=>if r6=true then (Dd F p0.aO p1.aO).bind fun r8=>some r8 else some false else some false else some false else some false).bind fun w2 =>
 some w2
def kN (F:Nat) (p0:bu) (p1:bu):Option Bool :=
 (if (decide (p0.ai=p1.ai))=true then if (p0.Kind == p1.Kind)=true then if (decide (p0.Ref=p1.Ref))=true then if (p0.Form == p1.Form)=true then (D9 F p0.Item p1.Item).bind fun r7=>some r7 else some false else some false else some false else some false).bind fun w2 =>
 some w2
def tQ (p0:ah):Option ah :=
 (app [] p0.aH).bind fun v1 =>
 (app [] p0.aO).bind fun v2 =>
 some (ah.mk p0.ID p0.Version p0.cO v1 v2)
def Dg (p0:List bu) (r1:List Int × Int) (aE:Int→(List bu)→Option (List bu × Int)) (n4:Int) (l5:List bu):Option (List bu × Int) :=
 if (decide (n4<(r1.1.length:Int)))=true then
  (idx r1.1 n4).bind fun x7 =>
  (idx p0 x7).bind fun x8 =>
  (idx l5 n4).bind fun x9 =>
  (idx p0 x7).bind fun mI =>
  (tQ mI.Item).bind fun dS =>
  (idx (l5.set n4.toNat x8) n4).bind fun kb =>
  aE (i64 (n4+1)) ((l5.set n4.toNat x8).set n4.toNat (bu.mk kb.ai kb.Kind dS kb.Ref kb.Form))
 else
 some (l5,0)
def wE (p0:List bu) (r1:List Int × Int):Nat→Int→(List bu)→Option (List bu × Int)
 | 0=>fun _ _=>.none
 | n+1=>Dg p0 r1 (wE p0 r1 n)
def D2 (F:Nat) (p0:List bu):Option (List bu × Int) :=
 (Nl F p0 (fun a0=>H6 a0) (fun a0 a1=>kN F a0 a1)).bind fun r1 =>
 if (r1.2 != 0)=true then
  some ([],r1.2)
 else
 (yo ((bu.mk (bJ.mk 0 0 0) 0 (ah.mk 0 0 (ByteArray.mk #[]) [] []) (bD.mk 0 0) 0):bu) (r1.1.length:Int)).bind fun v3 =>
 wE p0 r1 F 0 v3
def zE (p0:Int):Option Bool :=
 some ((decide (p0 ≥ 0)) && (decide (p0≤9999)))
def Dn (p0:ByteArray) (aE:Int→Option Bool) (n1:Int):Option Bool :=
 if (decide (n1<(p0.size:Int)))=true then
  ((JM p0 n1).bind fun x5=>if (decide (x5<32))=true then some true else (JM p0 n1).bind fun x7=>some (decide (x7 > 126))).bind fun w4 =>
  if w4=true then
   some false
  else
  aE (i64 (n1+1))
 else
 some true
def wM (p0:ByteArray):Nat→Int→Option Bool
 | 0=>fun _=>.none
 | n+1=>Dn p0 (wM p0 n)
def D7 (F:Nat) (p0:ByteArray):Option Bool :=
 wM p0 F 0
def zu (p0:aq):Option Bool :=
 if ((decide (p0.Max<1)) || ((decide (p0.Max > 40)) || ((decide (p0.fx<0)) || ((decide (p0.fx ≥ 16)) || ((decide (p0.cG<0)) || (decide (p0.cG ≥ 6)))))))=true then
  some false
 else
 if (p0.Kind == 1)=true then
  some ((p0.Options == 0) && (p0.Key == 0))
 else
 if (p0.Kind == 2)=true then
  some ((decide (p0.Options ≥ 2)) && ((decide (p0.Options≤5)) && ((decide (p0.Key ≥ 0)) && (decide (p0.Key<p0.Options)))))
 else
 some false
def CS (p0:Int) (p1:List Int) (aE:Int→Option Bool) (n1:Int):Option Bool :=
 if (decide (n1<(p1.length:Int)))=true then
  (idx p1 n1).bind fun x3 =>
  ((zE x3).bind fun r6=>if (!r6)=true then some true else if (x3 == p0)=true then some true else if (decide (n1 > 0))=true then (idx p1 (i64 (n1 - 1))).bind fun mI=>some (decide (mI ≥ x3)) else some false).bind fun w5 =>
  if w5=true then
   some false
  else
  aE (i64 (n1+1))
 else
 some true
def JI (p0:Int) (p1:List Int):Nat→Int→Option Bool
 | 0=>fun _=>.none
 | n+1=>CS p0 p1 (JI p0 p1 n)
def DJ (F:Nat) (p0:Int) (p1:List Int):Option Bool :=
 JI p0 p1 F 0
def D0 (F:Nat) (p0:ah) (aE:Int→Option Int) (n17:Int):Option Int :=
 if (decide (n17<(p0.aH.length:Int)))=true then
  (idx p0.aH n17).bind fun Vw =>
  (zu Vw).bind fun rj =>
  if (!rj)=true then
   some 1
  else
  aE (i64 (n17+1))
 else
 (DJ F p0.ID p0.aO).bind fun sa =>
 if (!sa)=true then
  some 9
 else
 some 0
def zD (F:Nat) (p0:ah):Nat→Int→Option Int
 | 0=>fun _=>.none
 | n+1=>D0 F p0 (zD F p0 n)
def ou (F:Nat) (p0:ah):Option Int :=
 ((zE p0.ID).bind fun r3=>if (!r3)=true then some true else if (decide (p0.Version<1))=true then some true else some (decide (p0.Version > 8))).bind fun w2 =>
 if w2=true then
  some 2
 else
 if ((decide ((p0.cO.size:Int) > 40)) || ((decide ((p0.aH.length:Int) > 6)) || (decide ((p0.aO.length:Int) > 8))))=true then
  some 3
 else
 (if (decide (p0.cO=(ByteArray.mk #[])))=true then some true else (D7 F p0.cO).bind fun fJ=>some (!fJ)).bind fun w12 =>
 if w12=true then
  some 7
 else
 if ((p0.aH.length:Int) == 0)=true then
  some 10
 else
 zD F p0 F 0
def PC (p0:List a8) (p1:Int) (p2:(a8→Int→Option Int)) (aE:Int→Int→Option (Int × Bool)) (n1:Int) (n2:Int):Option (Int × Bool) :=
 if (decide (n1<n2))=true then
  (idx p0 (i64 (uC .u64 (IntKind.u64.wrap (i64 (n1+n2))) 1))).bind fun x4 =>
  (p2 x4 p1).bind fun r5 =>
  if (decide (r5<0))=true then
   aE (i64 ((i64 (uC .u64 (IntKind.u64.wrap (i64 (n1+n2))) 1))+1)) n2
  else
  aE n1 (i64 (uC .u64 (IntKind.u64.wrap (i64 (n1+n2))) 1))
 else
 (if (decide (n1<(p0.length:Int)))=true then (idx p0 n1).bind fun mI=>(p2 mI p1).bind fun dS=>some (dS == 0) else some false).bind fun w8 =>
 some (n1,w8)
def Vq (p0:List a8) (p1:Int) (p2:(a8→Int→Option Int)):Nat→Int→Int→Option (Int × Bool)
 | 0=>fun _ _=>.none
 | n+1=>PC p0 p1 p2 (Vq p0 p1 p2 n)
def M7 (F:Nat) (p0:List a8) (p1:Int) (p2:(a8→Int→Option Int)):Option (Int × Bool) :=
 Vq p0 p1 p2 F 0 (p0.length:Int)
def xc (p0:a8) (p1:Int):Option Int :=
 (db p0.ID p1).bind fun r1 =>
 some r1
def zI (F:Nat) (p0:bV) (p1:Int):Option (Int × Bool) :=
 (M7 F p0.ab p1 (fun a0 a1=>xc a0 a1)).bind fun r1 =>
 some (r1.1,r1.2)
def Ef (F:Nat) (p0:bV) (p1:bu):Option (Int × bV) :=
 (ou F p1.Item).bind fun r1 =>
 if (r1 != 0)=true then
  some (r1,p0)
 else
 if (p1.Item.Version != 1)=true then
  some (8,p0)
 else
 (zI F p0 p1.Item.ID).bind fun r4 =>
 if r4.2=true then
  some (5,p0)
 else
 if (decide ((p0.ab.length:Int) ≥ 40))=true then
  some (3,p0)
 else
 (tQ p1.Item).bind fun r7 =>
 (Pd p0.ab r4.1 (a8.mk p1.Item.ID [r7] [false] ([]:List bH) false)).bind fun v8 =>
 some (0,(bV.mk v8))
def xd (F:Nat) (p0:bV) (p1:Int):Option (Option Int) :=
 (zI F p0 p1).bind fun r1 =>
 if (!r1.2)=true then
  some (none:Option Int)
 else
 (idx p0.ab r1.1).bind fun x3 =>
 some (some r1.1)
def Ed (F:Nat) (p0:bV) (p1:bu):Option (Int × bV) :=
 (ou F p1.Item).bind fun r1 =>
 if (r1 != 0)=true then
  some (r1,p0)
 else
 (xd F p0 p1.Item.ID).bind fun r3 =>
 rV r3 (
  some (4,p0)) fun j4 =>
 (idx p0.ab j4).bind fun x5 =>
 if (x5.al || (p1.Item.Version != (i64 ((x5.ak.length:Int)+1))))=true then
  some (8,p0)
 else
 (tQ p1.Item).bind fun dS =>
 (app x5.ak [dS]).bind fun v12 =>
 (app x5.au [false]).bind fun Kn =>
 some (0,(bV.mk (p0.ab.set (j4).toNat (a8.mk x5.ID v12 Kn x5.Uses x5.al))))
def zG (F:Nat) (p0:bV) (p1:bD):Option (Option Int) :=
 (xd F p0 p1.ID).bind fun r1 =>
 rV r1 (
  some (none:Option Int)) fun j2 =>
 (idx p0.ab j2).bind fun x3 =>
 if ((decide (p1.Version<1)) || (decide (p1.Version > (x3.ak.length:Int))))=true then
  some (none:Option Int)
 else
 some (some j2)
def Ec (F:Nat) (p0:bV) (p1:bu):Option (Int × bV) :=
 (zG F p0 p1.Ref).bind fun r1 =>
 rV r1 (
  some (4,p0)) fun j2 =>
 (idx p0.ab j2).bind fun x3 =>
 if x3.al=true then
  some (8,p0)
 else
 (idx x3.au (i64 (p1.Ref.Version - 1))).bind fun x7 =>
 if x7=true then
  some (5,p0)
 else
 (idx x3.au (i64 (p1.Ref.Version - 1))).bind fun x9 =>
 some (0,(bV.mk (p0.ab.set (j2).toNat (a8.mk x3.ID x3.ak (x3.au.set ((i64 (p1.Ref.Version - 1)).toNat) true) x3.Uses x3.al))))
def Ih (p0:bH) (c0:bu):Option Bool :=
 some (p0.Form == c0.Form)
def Nf (p0:List bH) (p1:(bH→Option Bool)) (aE:Int→Option Int) (n1:Int):Option Int :=
 if (decide (n1<(p0.length:Int)))=true then
  (idx p0 n1).bind fun x3 =>
  (p1 x3).bind fun r4 =>
  if r4=true then
   some n1
  else
  aE (i64 (n1+1))
 else
 some (-1)
def Gh (p0:List bH) (p1:(bH→Option Bool)):Nat→Int→Option Int
 | 0=>fun _=>.none
 | n+1=>Nf p0 p1 (Gh p0 p1 n)
def HS (F:Nat) (p0:List bH) (p1:(bH→Option Bool)):Option Int :=
 Gh p0 p1 F 0
def Jz (F:Nat) (p0:List bH) (p1:(bH→Option Bool)):Option Bool :=
 (HS F p0 p1).bind fun r1 =>
 some (decide (r1 ≥ 0))
def o3 (F:Nat) (p0:bV) (p1:bu):Option (Int × bV) :=
 (zG F p0 p1.Ref).bind fun r1 =>
 rV r1 (
  some (4,p0)) fun j2 =>
 (idx p0.ab j2).bind fun x3 =>
 (if x3.al=true then some true else (idx x3.au (i64 (p1.Ref.Version - 1))).bind fun x9=>some (!x9)).bind fun w7 =>
 if w7=true then
  some (8,p0)
 else
 (Jz F x3.Uses (fun a0=>Ih a0 p1)).bind fun dS =>
 if dS=true then
  some (5,p0)
 else
 if (decide ((x3.Uses.length:Int) ≥ 300))=true then
  some (3,p0)
 else
 (app x3.Uses [(bH.mk p1.Ref.Version p1.Form p1.ai.Time)]).bind fun Aa =>
 some (0,(bV.mk (p0.ab.set (j2).toNat (a8.mk x3.ID x3.ak x3.au Aa x3.al))))
def za (F:Nat) (p0:bV) (p1:bu) (c0:Bool):Option (Int × bV) :=
 (xd F p0 p1.Ref.ID).bind fun r1 =>
 rV r1 (
  some (4,p0)) fun j2 =>
 (idx p0.ab j2).bind fun x3 =>
 if (x3.al == c0)=true then
  some (8,p0)
 else
 some (0,(bV.mk (p0.ab.set (j2).toNat (a8.mk x3.ID x3.ak x3.au x3.Uses c0))))
def Rj (F:Nat) (p0:Bool):Option Bool :=
 some p0
def mg:List (Int × Nat):=[(1,1),(2,2),(3,3),(4,4),(5,5),(6,6)]
def Rt (F:Nat):Option (List (Int × Nat)) :=
 some (et (et (et (et (et (et ([]:List (Int × Nat)) 1 1) 2 2) 3 3) 4 4) 5 5) 6 6)
def D3 (F:Nat) (p1:Int) (r1:List bu × Int) (aE:Int→(List gM)→(List a8)→Option (bV × List gM × Int)) (n3:Int) (l4:List gM) (l5:List a8):Option (bV × List gM × Int) :=
 if (decide (n3<(r1.1.length:Int)))=true then
  (idx r1.1 n3).bind fun x7 =>
  if (decide (x7.ai.Time > p1))=true then
   some ((bV.mk l5),l4,0)
  else
  if (x7.Kind == 1)=true then
   (Ef F (bV.mk l5) x7).bind fun dS =>
   if (dS.1 != 0)=true then
    (app l4 [(gM.mk (xX.mk x7.ai.Source x7.ai.Seq) dS.1)]).bind fun Kn =>
    aE (i64 (n3+1)) Kn dS.2.ab
   else
   aE (i64 (n3+1)) l4 dS.2.ab
  else
  if (x7.Kind == 2)=true then
   (Ed F (bV.mk l5) x7).bind fun gV =>
   if (gV.1 != 0)=true then
    (app l4 [(gM.mk (xX.mk x7.ai.Source x7.ai.Seq) gV.1)]).bind fun P7 =>
    aE (i64 (n3+1)) P7 gV.2.ab
   else
   aE (i64 (n3+1)) l4 gV.2.ab
  else
  if (x7.Kind == 3)=true then
   (Ec F (bV.mk l5) x7).bind fun nA =>
   if (nA.1 != 0)=true then
    (app l4 [(gM.mk (xX.mk x7.ai.Source x7.ai.Seq) nA.1)]).bind fun v23 =>
    aE (i64 (n3+1)) v23 nA.2.ab
   else
   aE (i64 (n3+1)) l4 nA.2.ab
  else
  if (x7.Kind == 4)=true then
   (o3 F (bV.mk l5) x7).bind fun En =>
   if (En.1 != 0)=true then
    (app l4 [(gM.mk (xX.mk x7.ai.Source x7.ai.Seq) En.1)]).bind fun v28 =>
    aE (i64 (n3+1)) v28 En.2.ab
   else
   aE (i64 (n3+1)) l4 En.2.ab
  else
  if (x7.Kind == 5)=true then
   (za F (bV.mk l5) x7 true).bind fun jV =>
   if (jV.1 != 0)=true then
    (app l4 [(gM.mk (xX.mk x7.ai.Source x7.ai.Seq) jV.1)]).bind fun v33 =>
    aE (i64 (n3+1)) v33 jV.2.ab
   else
   aE (i64 (n3+1)) l4 jV.2.ab
  else
  if (x7.Kind == 6)=true then
   (za F (bV.mk l5) x7 false).bind fun Eo =>
   if (Eo.1 != 0)=true then
    (app l4 [(gM.mk (xX.mk x7.ai.Source x7.ai.Seq) Eo.1)]).bind fun v38 =>
    aE (i64 (n3+1)) v38 Eo.2.ab
   else
   aE (i64 (n3+1)) l4 Eo.2.ab
  else
  if (2 != 0)=true then
   (app l4 [(gM.mk (xX.mk x7.ai.Source x7.ai.Seq) 2)]).bind fun v41 =>
   aE (i64 (n3+1)) v41 l5
  else
  aE (i64 (n3+1)) l4 l5
 else
 some ((bV.mk l5),l4,0)
def rZ (F:Nat) (p1:Int) (r1:List bu × Int):Nat→Int→(List gM)→(List a8)→Option (bV × List gM × Int)
 | 0=>fun _ _ _=>.none
 | n+1=>D3 F p1 r1 (rZ F p1 r1 n)
def iK (F:Nat) (p0:List bu) (p1:Int):Option (bV × List gM × Int) :=
 (D2 F p0).bind fun r1 =>
 if (r1.2 != 0)=true then
  some ((bV.mk []),[],r1.2)
 else
 rZ F p1 r1 F 0 ([]:List gM) ([]:List a8)
def C2 (p0:a8) (dU:Int→Option Bool) (n15:Int):Option Bool :=
 if (decide (n15<(p0.Uses.length:Int)))=true then
  (idx p0.Uses n15).bind fun jn =>
  if ((decide (jn.Version<1)) || (decide (jn.Version > (p0.ak.length:Int))))=true then
   some false
  else
  dU (i64 (n15+1))
 else
 some true
def GC (p0:a8):Nat→Int→Option Bool
 | 0=>fun _=>.none
 | n+1=>C2 p0 (GC p0 n)
def C1 (F:Nat) (p0:a8) (aE:Int→Option Bool) (n6:Int):Option Bool :=
 if (decide (n6<(p0.ak.length:Int)))=true then
  (idx p0.ak n6).bind fun x8 =>
  ((ou F x8).bind fun dS=>if (dS != 0)=true then some true else if (x8.ID != p0.ID)=true then some true else some (x8.Version != (i64 (n6+1)))).bind fun UU =>
  if UU=true then
   some false
  else
  aE (i64 (n6+1))
 else
 GC p0 F 0
def zb (F:Nat) (p0:a8):Nat→Int→Option Bool
 | 0=>fun _=>.none
 | n+1=>C1 F p0 (zb F p0 n)
def zj (F:Nat) (p0:a8):Option Bool :=
 if ((decide ((p0.ak.length:Int)<1)) || ((decide ((p0.ak.length:Int) > 8)) || (((p0.au.length:Int) != (p0.ak.length:Int)) || (decide ((p0.Uses.length:Int) > 300)))))=true then
  some false
 else
 zb F p0 F 0
def DX (F:Nat) (p0:bV) (aE:Int→Option Bool) (n2:Int):Option Bool :=
 if (decide (n2<(p0.ab.length:Int)))=true then
  (idx p0.ab n2).bind fun x4 =>
  (if (decide (n2 > 0))=true then (idx p0.ab (i64 (n2 - 1))).bind fun x8=>if (decide (x8.ID ≥ x4.ID))=true then some true else (zj F x4).bind fun fR=>some (!fR) else (zj F x4).bind fun dS=>some (!dS)).bind fun w6 =>
  if w6=true then
   some false
  else
  aE (i64 (n2+1))
 else
 some true
def zC (F:Nat) (p0:bV):Nat→Int→Option Bool
 | 0=>fun _=>.none
 | n+1=>DX F p0 (zC F p0 n)
def Eg (F:Nat) (p0:bV):Option Bool :=
 if (decide ((p0.ab.length:Int) > 40))=true then
  some false
 else
 zC F p0 F 0
def DW (p0:bH) (c0:Int) (c1:Int):Option Bool :=
 some (decide (p0.Time > (i64 (c0 - c1))))
def DA (aE:Int→(List bD)→Option (List bD)) (n10:Int) (fe:List bD) (jc:a8) (dU:Int→Option (List bD)) (n19:Int):Option (List bD) :=
 if (decide (n19 ≥ 0))=true then
  (idx jc.au n19).bind fun E7 =>
  if E7=true then
   (app fe [(bD.mk jc.ID (i64 (n19+1)))]).bind fun v23 =>
   aE (i64 (n10+1)) v23
  else
  dU (i64 (n19 - 1))
 else
 aE (i64 (n10+1)) fe
def wW (aE:Int→(List bD)→Option (List bD)) (n10:Int) (fe:List bD) (jc:a8):Nat→Int→Option (List bD)
 | 0=>fun _=>.none
 | n+1=>DA aE n10 fe jc (wW aE n10 fe jc n)
def Dz (F:Nat) (p0:bV) (p1:Int) (p2:Int) (p3:Int) (aE:Int→(List bD)→Option (List bD)) (n10:Int) (fe:List bD):Option (List bD) :=
 if (decide (n10<(p0.ab.length:Int)))=true then
  (idx p0.ab n10).bind fun jc =>
  if (jc.al || (decide ((jc.Uses.length:Int) > p3)))=true then
   aE (i64 (n10+1)) fe
  else
  (Jz F jc.Uses (fun a0=>DW a0 p1 p2)).bind fun jk =>
  if jk=true then
   aE (i64 (n10+1)) fe
  else
  wW aE n10 fe jc F (i64 ((jc.au.length:Int) - 1))
 else
 some fe
def wV (F:Nat) (p0:bV) (p1:Int) (p2:Int) (p3:Int):Nat→Int→(List bD)→Option (List bD)
 | 0=>fun _ _=>.none
 | n+1=>Dz F p0 p1 p2 p3 (wV F p0 p1 p2 p3 n)
def zy (F:Nat) (p0:bV) (p1:Int) (p2:Int) (p3:Int):Option (List bD) :=
 ((Eg F p0).bind fun r3=>if (!r3)=true then some true else if (decide (p1<0))=true then some true else if (decide (p1 > 1000000))=true then some true else if (decide (p2<0))=true then some true else if (decide (p2 > 1000000))=true then some true else some (decide (p3<0))).bind fun w2 =>
 if w2=true then
  some []
 else
 wV F p0 p1 p2 p3 F 0 ([]:List bD)
def DI (p0:bV) (p1:bD) (aE:Int→Option (ah × Bool)) (n1:Int):Option (ah × Bool) :=
 if (decide (n1<(p0.ab.length:Int)))=true then
  (idx p0.ab n1).bind fun x3 =>
  if (x3.ID != p1.ID)=true then
   aE (i64 (n1+1))
  else
  if ((decide (p1.Version<1)) || (decide (p1.Version > (x3.ak.length:Int))))=true then
   some ((ah.mk 0 0 (ByteArray.mk #[]) [] []),false)
  else
  (idx x3.ak (i64 (p1.Version - 1))).bind fun x8 =>
  (tQ x8).bind fun r9 =>
  some (r9,true)
 else
 some ((ah.mk 0 0 (ByteArray.mk #[]) [] []),false)
def zn (p0:bV) (p1:bD):Nat→Int→Option (ah × Bool)
 | 0=>fun _=>.none
 | n+1=>DI p0 p1 (zn p0 p1 n)
def zF (F:Nat) (p0:bV) (p1:bD):Option (ah × Bool) :=
 zn p0 p1 F 0
def CN (F:Nat) (r1:bV × List gM × Int) (r2:List bD) (aE:Int→(List ah)→Option (bV × List ah × Bool)) (n3:Int) (l4:List ah):Option (bV × List ah × Bool) :=
 if (decide (n3<(r2.length:Int)))=true then
  (idx r2 n3).bind fun x6 =>
  (zF F r1.1 x6).bind fun r7 =>
  (if (!r7.2)=true then some true else (idx r2 n3).bind fun qa=>if (r7.1.ID != qa.ID)=true then some true else (idx r2 n3).bind fun jc=>some (r7.1.Version != jc.Version)).bind fun w9 =>
  if w9=true then
   some (r1.1,[],false)
  else
  (app l4 [r7.1]).bind fun JZ =>
  aE (i64 (n3+1)) JZ
 else
 some (r1.1,l4,(r1.2.2 == 0))
def Ee (F:Nat) (r1:bV × List gM × Int) (r2:List bD):Nat→Int→(List ah)→Option (bV × List ah × Bool)
 | 0=>fun _ _=>.none
 | n+1=>CN F r1 r2 (Ee F r1 r2 n)
def DH (F:Nat) (p0:List bu) (p1:Int) (p2:Int) (p3:Int):Option (bV × List ah × Bool) :=
 (iK F p0 1000000).bind fun r1 =>
 (zy F r1.1 p1 p2 p3).bind fun r2 =>
 Ee F r1 r2 F 0 ([]:List ah)
def Ky (lC:Int→(List Int)→Int→(List bA)→Option (fG × ax)) (n35:Int) (jA:List bA) (GR:Int→(List Int)→Int→(List bD)→Option (fG × ax)) (n41:Int) (Pg:List Int) (n43:Int) (Cm:List bD):Option (fG × ax) :=
 if (decide (n41 > 0))=true then
  (gw (ax.mk Pg n43) 4).bind fun PH =>
  (jI PH.2 1 2).bind fun zJ =>
  (app Cm [(bD.mk PH.1 zJ.1)]).bind fun v48 =>
  GR (i64 (n41 - 1)) zJ.2.L zJ.2.At v48
 else
 (app jA [(bA.mk 0 Cm)]).bind fun v49 =>
 lC (i64 (n35 - 1)) Pg n43 v49
def Fe (lC:Int→(List Int)→Int→(List bA)→Option (fG × ax)) (n35:Int) (jA:List bA):Nat→Int→(List Int)→Int→(List bD)→Option (fG × ax)
 | 0=>fun _ _ _ _=>.none
 | n+1=>Ky lC n35 jA (Fe lC n35 jA n)
def Kx (F:Nat) (p1:Int) (r1:Int × ax) (r2:Int × ax) (r3:Int × ax) (r4:Int × ax) (r5:Int × ax) (l9:List bM) (ga:List bM) (km:List Int) (lC:Int→(List Int)→Int→(List bA)→Option (fG × ax)) (n35:Int) (QV:List Int) (n37:Int) (jA:List bA):Option (fG × ax) :=
 if (decide (n35 > 0))=true then
  (gw (ax.mk QV n37) 4).bind fun Bv =>
  Fe lC n35 jA F Bv.1 Bv.2.L Bv.2.At ([]:List bD)
 else
 (if (decide (p1 > 0))=true then (nC (ax.mk QV n37) p1).bind fun GP=>some (GP.1,GP.2.L,GP.2.At) else some (false,QV,n37)).bind fun Qc =>
 if Qc.1=true then
  (gw (ax.mk Qc.2.1 Qc.2.2) 7).bind fun oQ =>
  if (oQ.1 == 0)=true then
   (uh oQ.2).bind fun r59 =>
   some ((fG.mk r59.1 (i64 (r1.1+r2.1)) r3.1 r4.1 l9 ga km jA r5.1),r59.2)
  else
  if (oQ.1 == 1)=true then
   (uh oQ.2).bind fun r61 =>
   some ((fG.mk r1.1 (i64 (r1.1+r2.1)) r3.1 r61.1 l9 ga km jA r5.1),r61.2)
  else
  if (oQ.1 == 2)=true then
   (rl oQ.2 [(-1),12,13]).bind fun r63 =>
   some ((fG.mk r1.1 (i64 (r1.1+r2.1)) r3.1 r4.1 l9 ga km jA r63.1),r63.2)
  else
  if (oQ.1 == 3)=true then
   (rl oQ.2 [(-1),0,15,16]).bind fun PI =>
   (uh PI.2).bind fun PJ =>
   (uh PJ.2).bind fun PK =>
   (app l9 [(bM.mk PI.1 PJ.1 PK.1)]).bind fun ZL =>
   some ((fG.mk r1.1 (i64 (r1.1+r2.1)) r3.1 r4.1 ZL ga km jA r5.1),PK.2)
  else
  if (oQ.1 == 4)=true then
   (rl oQ.2 [0,(-1),9]).bind fun Vs =>
   (app km [Vs.1]).bind fun v71 =>
   some ((fG.mk r1.1 (i64 (r1.1+r2.1)) r3.1 r4.1 l9 ga v71 jA r5.1),Vs.2)
  else
  if (oQ.1 == 5)=true then
   (app jA ([(bA.mk 0 []),(bA.mk 0 []),(bA.mk 0 [])])).bind fun v73 =>
   some ((fG.mk r1.1 (i64 (r1.1+r2.1)) r3.1 r4.1 l9 ga km v73 r5.1),oQ.2)
  else
  (rl oQ.2 [0,5,6]).bind fun Uw =>
  (app ga [(bM.mk Uw.1 0 4)]).bind fun v75 =>
  some ((fG.mk r1.1 (i64 (r1.1+r2.1)) r3.1 r4.1 l9 v75 km jA r5.1),Uw.2)
 else
 some ((fG.mk r1.1 (i64 (r1.1+r2.1)) r3.1 r4.1 l9 ga km jA r5.1),(ax.mk Qc.2.1 Qc.2.2))
def By (F:Nat) (p1:Int) (r1:Int × ax) (r2:Int × ax) (r3:Int × ax) (r4:Int × ax) (r5:Int × ax) (l9:List bM) (ga:List bM) (km:List Int):Nat→Int→(List Int)→Int→(List bA)→Option (fG × ax)
 | 0=>fun _ _ _ _=>.none
 | n+1=>Kx F p1 r1 r2 r3 r4 r5 l9 ga km (By F p1 r1 r2 r3 r4 r5 l9 ga km n)
def Kw (F:Nat) (p1:Int) (r1:Int × ax) (r2:Int × ax) (r3:Int × ax) (r4:Int × ax) (r5:Int × ax) (l9:List bM) (ga:List bM) (fH:Int→(List Int)→Int→(List Int)→Option (fG × ax)) (n26:Int) (Ub:List Int) (n28:Int) (km:List Int):Option (fG × ax) :=
 if (decide (n26<3))=true then
  (nC (ax.mk Ub n28) 5).bind fun jV =>
  if jV.1=true then
   (app km [n26]).bind fun v33 =>
   fH (i64 (n26+1)) jV.2.L jV.2.At v33
  else
  fH (i64 (n26+1)) jV.2.L jV.2.At km
 else
 (gw (ax.mk Ub n28) 3).bind fun Kk =>
 By F p1 r1 r2 r3 r4 r5 l9 ga km F Kk.1 Kk.2.L Kk.2.At ([]:List bA)
def Fc (F:Nat) (p1:Int) (r1:Int × ax) (r2:Int × ax) (r3:Int × ax) (r4:Int × ax) (r5:Int × ax) (l9:List bM) (ga:List bM):Nat→Int→(List Int)→Int→(List Int)→Option (fG × ax)
 | 0=>fun _ _ _ _=>.none
 | n+1=>Kw F p1 r1 r2 r3 r4 r5 l9 ga (Fc F p1 r1 r2 r3 r4 r5 l9 ga n)
def Kv (F:Nat) (p1:Int) (r1:Int × ax) (r2:Int × ax) (r3:Int × ax) (r4:Int × ax) (r5:Int × ax) (l9:List bM) (dU:Int→(List Int)→Int→(List bM)→Option (fG × ax)) (n16:Int) (Bq:List Int) (n18:Int) (ga:List bM):Option (fG × ax) :=
 if (decide (n16<3))=true then
  (nC (ax.mk Bq n18) 4).bind fun nA =>
  if nA.1=true then
   (gw nA.2 4).bind fun uB =>
   (jI uB.2 4 30).bind fun Oi =>
   (app ga [(bM.mk n16 uB.1 Oi.1)]).bind fun v25 =>
   dU (i64 (n16+1)) Oi.2.L Oi.2.At v25
  else
  dU (i64 (n16+1)) nA.2.L nA.2.At ga
 else
 Fc F p1 r1 r2 r3 r4 r5 l9 ga F 0 Bq n18 ([]:List Int)
def Fb (F:Nat) (p1:Int) (r1:Int × ax) (r2:Int × ax) (r3:Int × ax) (r4:Int × ax) (r5:Int × ax) (l9:List bM):Nat→Int→(List Int)→Int→(List bM)→Option (fG × ax)
 | 0=>fun _ _ _ _=>.none
 | n+1=>Kv F p1 r1 r2 r3 r4 r5 l9 (Fb F p1 r1 r2 r3 r4 r5 l9 n)
def Ku (F:Nat) (p1:Int) (r1:Int × ax) (r2:Int × ax) (r3:Int × ax) (r4:Int × ax) (r5:Int × ax) (aE:Int→(List Int)→Int→(List bM)→Option (fG × ax)) (n6:Int) (l7:List Int) (n8:Int) (l9:List bM):Option (fG × ax) :=
 if (decide (n6<4))=true then
  (nC (ax.mk l7 n8) 3).bind fun dS =>
  if dS.1=true then
   (gw dS.2 4).bind fun sD =>
   (jI sD.2 4 30).bind fun fJ =>
   (app l9 [(bM.mk n6 sD.1 fJ.1)]).bind fun JZ =>
   aE (i64 (n6+1)) fJ.2.L fJ.2.At JZ
  else
  aE (i64 (n6+1)) dS.2.L dS.2.At l9
 else
 Fb F p1 r1 r2 r3 r4 r5 l9 F 0 l7 n8 ([]:List bM)
def Fa (F:Nat) (p1:Int) (r1:Int × ax) (r2:Int × ax) (r3:Int × ax) (r4:Int × ax) (r5:Int × ax):Nat→Int→(List Int)→Int→(List bM)→Option (fG × ax)
 | 0=>fun _ _ _ _=>.none
 | n+1=>Ku F p1 r1 r2 r3 r4 r5 (Fa F p1 r1 r2 r3 r4 r5 n)
def Kt (F:Nat) (p0:ax) (p1:Int):Option (fG × ax) :=
 (gw p0 3).bind fun r1 =>
 (jI r1.2 0 4).bind fun r2 =>
 (gw r2.2 12).bind fun r3 =>
 (jI r3.2 10 60).bind fun r4 =>
 (gw r4.2 3).bind fun r5 =>
 Fa F p1 r1 r2 r3 r4 r5 F 0 r5.2.L r5.2.At ([]:List bM)
def rY (p0:Int):Option Bool :=
 some ((decide (p0 ≥ 0)) && (decide (p0≤200)))
def CI (p0:bM) (c0:bM):Option Bool :=
 some (p0.Index == c0.Index)
def M9 (p0:List bM) (p1:(bM→Option Bool)) (aE:Int→Option Int) (n1:Int):Option Int :=
 if (decide (n1<(p0.length:Int)))=true then
  (idx p0 n1).bind fun x3 =>
  (p1 x3).bind fun r4 =>
  if r4=true then
   some n1
  else
  aE (i64 (n1+1))
 else
 some (-1)
def Rx (p0:List bM) (p1:(bM→Option Bool)):Nat→Int→Option Int
 | 0=>fun _=>.none
 | n+1=>M9 p0 p1 (Rx p0 p1 n)
def PD (F:Nat) (p0:List bM) (p1:(bM→Option Bool)):Option Int :=
 Rx p0 p1 F 0
def Jy (F:Nat) (p0:List bM) (p1:(bM→Option Bool)):Option Bool :=
 (PD F p0 p1).bind fun r1 =>
 some (decide (r1 ≥ 0))
def Nk (F:Nat) (p0:List bM) (p1:Int) (aE:Int→Option Int) (n1:Int):Option Int :=
 if (decide (n1<(p0.length:Int)))=true then
  (idx p0 n1).bind fun x3 =>
  (if (decide (x3.Index<0))=true then some true else if (decide (x3.Index ≥ p1))=true then some true else (rY x3.bE).bind fun r8=>if (!r8)=true then some true else (rY x3.cX).bind fun fR=>some (!fR)).bind fun w5 =>
  if w5=true then
   some 2
  else
  (UG p0 0 n1).bind fun v12 =>
  (Jy F v12 (fun a0=>CI a0 x3)).bind fun sD =>
  if sD=true then
   some 5
  else
  aE (i64 (n1+1))
 else
 some 0
def Gl (F:Nat) (p0:List bM) (p1:Int):Nat→Int→Option Int
 | 0=>fun _=>.none
 | n+1=>Nk F p0 p1 (Gl F p0 p1 n)
def Gn (F:Nat) (p0:List bM) (p1:Int):Option Int :=
 Gl F p0 p1 F 0
def HT (p0:fG) (aE:Int→Option Int) (n22:Int):Option Int :=
 if (decide (n22<(p0.cV.length:Int)))=true then
  (idx p0.cV (i64 (n22 - 1))).bind fun x24 =>
  (idx p0.cV n22).bind fun Hc =>
  if (decide (x24 ≥ Hc))=true then
   some 9
  else
  aE (i64 (n22+1))
 else
 some 0
def DB (p0:fG):Nat→Int→Option Int
 | 0=>fun _=>.none
 | n+1=>HT p0 (DB p0 n)
def DY (F:Nat) (p0:fG):Option Int :=
 ((rY p0.cD).bind fun r3=>if (!r3)=true then some true else (rY p0.c6).bind fun r5=>if (!r5)=true then some true else (rY p0.aY).bind fun r7=>if (!r7)=true then some true else (rY p0.bh).bind fun r9=>if (!r9)=true then some true else if (decide (p0.aV<0))=true then some true else some (decide (p0.aV > 12))).bind fun w2 =>
 if w2=true then
  some 2
 else
 if ((decide ((p0.b5.length:Int) > 16)) || ((decide ((p0.aR.length:Int) > 6)) || ((decide ((p0.cV.length:Int) > 12)) || (decide ((p0.bC.length:Int) > 4)))))=true then
  some 3
 else
 (Gn F p0.b5 16).bind fun j9 =>
 if (j9 != 0)=true then
  some j9
 else
 (Gn F p0.aR 6).bind fun rj =>
 if (rj != 0)=true then
  some rj
 else
 DB p0 F 1
def DC (p0:List ah) (p1:Int) (p2:Int) (p3:(ah→Option Int)) (aE:Int→(List Int)→Option ar) (n2:Int) (l3:List Int):Option ar :=
 if (decide (n2<(p0.length:Int)))=true then
  (idx p0 n2).bind fun x5 =>
  (p3 x5).bind fun r6 =>
  (idx l3 n2).bind fun x7 =>
  aE (i64 (n2+1)) (l3.set n2.toNat r6)
 else
 some (ar.mk l3 p1 p2)
def wX (p0:List ah) (p1:Int) (p2:Int) (p3:(ah→Option Int)):Nat→Int→(List Int)→Option ar
 | 0=>fun _ _=>.none
 | n+1=>DC p0 p1 p2 p3 (wX p0 p1 p2 p3 n)
def uA (F:Nat) (p0:List ah) (p1:Int) (p2:Int) (p3:(ah→Option Int)):Option ar :=
 (yo (0:Int) (p0.length:Int)).bind fun v1 =>
 wX p0 p1 p2 p3 F 0 v1
def DS (p0:ah):Option Int :=
 some 1
def GL (p0:List aq) (aE:Int→Int→Option Int) (n1:Int) (n2:Int):Option Int :=
 if (decide (n2<(p0.length:Int)))=true then
  (idx p0 n2).bind fun x4 =>
  aE (i64 (n1+x4.Max)) (i64 (n2+1))
 else
 some n1
def xg (p0:List aq):Nat→Int→Int→Option Int
 | 0=>fun _ _=>.none
 | n+1=>GL p0 (xg p0 n)
def yv (F:Nat) (p0:List aq):Option Int :=
 xg p0 F 0 0
def xf (F:Nat) (p0:ah):Option Int :=
 (ou F p0).bind fun r1 =>
 if (r1 != 0)=true then
  some 0
 else
 (yv F p0.aH).bind fun r3 =>
 some r3
def Ii (p0:List ar) (p1:List ar):Option (List ar) :=
 (app p0 p1).bind fun v1 =>
 some v1
def HX (p0:aq) (c0:bM):Option Bool :=
 some (p0.fx == c0.Index)
def CP (p0:ah) (p1:(aq→Option Bool)) (aE:Int→Int→Option Int) (n1:Int) (n2:Int):Option Int :=
 if (decide (n2<(p0.aH.length:Int)))=true then
  (idx p0.aH n2).bind fun x4 =>
  (p1 x4).bind fun r5 =>
  if r5=true then
   aE (i64 (n1+x4.Max)) (i64 (n2+1))
  else
  aE n1 (i64 (n2+1))
 else
 some n1
def Gt (p0:ah) (p1:(aq→Option Bool)):Nat→Int→Int→Option Int
 | 0=>fun _ _=>.none
 | n+1=>CP p0 p1 (Gt p0 p1 n)
def wJ (F:Nat) (p0:ah) (p1:(aq→Option Bool)):Option Int :=
 Gt p0 p1 F 0 0
def H7 (F:Nat) (p0:ah) (c0:bM):Option Int :=
 (wJ F p0 (fun a0=>HX a0 c0)).bind fun r1 =>
 some r1
def HY (p0:aq) (c0:bM):Option Bool :=
 some (p0.cG == c0.Index)
def H8 (F:Nat) (p0:ah) (c0:bM):Option Int :=
 (wJ F p0 (fun a0=>HY a0 c0)).bind fun r1 =>
 some r1
def Ea (p0:Bool):Option Int :=
 if p0=true then
  some 1
 else
 some 0
def Nb (p0:ah) (c0:Int):Option Int :=
 (Ea (p0.ID == c0)).bind fun r1 =>
 some r1
def Gk (p0:List Int) (p1:Int) (aE:Int→Option Int) (n1:Int):Option Int :=
 if (decide (n1<(p0.length:Int)))=true then
  (idx p0 n1).bind fun x3 =>
  if (p1 == x3)=true then
   some n1
  else
  aE (i64 (n1+1))
 else
 some (-1)
def Nq (p0:List Int) (p1:Int):Nat→Int→Option Int
 | 0=>fun _=>.none
 | n+1=>Gk p0 p1 (Nq p0 p1 n)
def y9 (F:Nat) (p0:List Int) (p1:Int):Option Int :=
 Nq p0 p1 F 0
def AS (F:Nat) (p0:List Int) (p1:Int):Option Bool :=
 (y9 F p0 p1).bind fun r1 =>
 some (decide (r1 ≥ 0))
def xe (F:Nat) (p0:ah) (p1:ah):Option Bool :=
 ((ou F p0).bind fun r3=>if (r3 != 0)=true then some true else (ou F p1).bind fun r5=>if (r5 != 0)=true then some true else some (p0.ID == p1.ID)).bind fun w2 =>
 if w2=true then
  some false
 else
 ((AS F p0.aO p1.ID).bind fun fR=>if fR=true then some true else (AS F p1.aO p0.ID).bind fun jU=>some jU).bind fun w9 =>
 some w9
def Nh (aE:Int→(List ar)→Option (List ar)) (F:Nat) (p1:List ah) (n1:Int) (dU:Int→(List ar)→Option (List ar)) (n4:Int) (l5:List ar):Option (List ar) :=
 if (decide (n4<(p1.length:Int)))=true then
  ((idx p1 n1).bind fun x9=>(idx p1 n4).bind fun mI=>if (x9.ID != mI.ID)=true then (idx p1 n1).bind fun kb=>(idx p1 n4).bind fun jc=>(xe F kb jc).bind fun fJ=>some (!fJ) else some false).bind fun w8 =>
  if w8=true then
   dU (i64 (n4+1)) l5
  else
  (yo (0:Int) (p1.length:Int)).bind fun NZ =>
  (idx NZ n1).bind fun jn =>
  (idx (NZ.set n1.toNat 1) n4).bind fun x18 =>
  (Ii l5 [(ar.mk ((NZ.set n1.toNat 1).set n4.toNat 1) 0 1)]).bind fun Bt =>
  dU (i64 (n4+1)) Bt
 else
 aE (i64 (n1+1)) l5
def Gi (aE:Int→(List ar)→Option (List ar)) (F:Nat) (p1:List ah) (n1:Int):Nat→Int→(List ar)→Option (List ar)
 | 0=>fun _ _=>.none
 | n+1=>Nh aE F p1 n1 (Gi aE F p1 n1 n)
def Ng (F:Nat) (p1:List ah) (aE:Int→(List ar)→Option (List ar)) (n1:Int) (l2:List ar):Option (List ar) :=
 if (decide (n1<(p1.length:Int)))=true then
  Gi aE F p1 n1 F (i64 (n1+1)) l2
 else
 some l2
def AR (F:Nat) (p1:List ah):Nat→Int→(List ar)→Option (List ar)
 | 0=>fun _ _=>.none
 | n+1=>Ng F p1 (AR F p1 n)
def JC (F:Nat) (p0:List ar) (p1:List ah):Option (List ar) :=
 AR F p1 F 0 p0
def Np (p0:List bD) (p1:bD) (aE:Int→Option Int) (n1:Int):Option Int :=
 if (decide (n1<(p0.length:Int)))=true then
  (idx p0 n1).bind fun x3 =>
  if (decide (p1=x3))=true then
   some n1
  else
  aE (i64 (n1+1))
 else
 some (-1)
def DF (p0:List bD) (p1:bD):Nat→Int→Option Int
 | 0=>fun _=>.none
 | n+1=>Np p0 p1 (DF p0 p1 n)
def HV (F:Nat) (p0:List bD) (p1:bD):Option Int :=
 DF p0 p1 F 0
def CM (F:Nat) (p0:List bD) (p1:bD):Option Bool :=
 (HV F p0 p1).bind fun r1 =>
 some (decide (r1 ≥ 0))
def H9 (F:Nat) (p0:ah) (c0:bA):Option Int :=
 (CM F c0.Items (bD.mk p0.ID p0.Version)).bind fun r1 =>
 (Ea r1).bind fun r2 =>
 some r2
def Dl (F:Nat) (p0:fG) (p1:List ah) (GR:Int→(List ar)→Option (List ar × Int)) (n31:Int) (Jk:List ar):Option (List ar × Int) :=
 if (decide (n31<(p0.bC.length:Int)))=true then
  (idx p0.bC n31).bind fun Vy =>
  (uA F p1 0 p0.aV (fun a0=>H9 F a0 Vy)).bind fun PF =>
  (Ii Jk [PF]).bind fun Eo =>
  GR (i64 (n31+1)) Eo
 else
 if (decide ((Jk.length:Int) > 60))=true then
  some ([],3)
 else
 some (Jk,0)
def Ej (F:Nat) (p0:fG) (p1:List ah):Nat→Int→(List ar)→Option (List ar × Int)
 | 0=>fun _ _=>.none
 | n+1=>Dl F p0 p1 (Ej F p0 p1 n)
def HW (F:Nat) (p0:fG) (p1:List ah) (lC:Int→(List ar)→Option (List ar × Int)) (n24:Int) (Ke:List ar):Option (List ar × Int) :=
 if (decide (n24<(p0.cV.length:Int)))=true then
  (idx p0.cV n24).bind fun UY =>
  (uA F p1 1 1 (fun a0=>Nb a0 UY)).bind fun Bu =>
  (Ii Ke [Bu]).bind fun tT =>
  lC (i64 (n24+1)) tT
 else
 (JC F Ke p1).bind fun Ry =>
 Ej F p0 p1 F 0 Ry
def AV (F:Nat) (p0:fG) (p1:List ah):Nat→Int→(List ar)→Option (List ar × Int)
 | 0=>fun _ _=>.none
 | n+1=>HW F p0 p1 (AV F p0 p1 n)
def Dk (F:Nat) (p0:fG) (p1:List ah) (fH:Int→(List ar)→Option (List ar × Int)) (n18:Int) (ga:List ar):Option (List ar × Int) :=
 if (decide (n18<(p0.aR.length:Int)))=true then
  (idx p0.aR n18).bind fun E7 =>
  (uA F p1 E7.bE E7.cX (fun a0=>H8 F a0 E7)).bind fun sa =>
  (Ii ga [sa]).bind fun uB =>
  fH (i64 (n18+1)) uB
 else
 AV F p0 p1 F 0 ga
def wH (F:Nat) (p0:fG) (p1:List ah):Nat→Int→(List ar)→Option (List ar × Int)
 | 0=>fun _ _=>.none
 | n+1=>Dk F p0 p1 (wH F p0 p1 n)
def Dj (F:Nat) (p0:fG) (p1:List ah) (dU:Int→(List ar)→Option (List ar × Int)) (n12:Int) (pn:List ar):Option (List ar × Int) :=
 if (decide (n12<(p0.b5.length:Int)))=true then
  (idx p0.b5 n12).bind fun Bc =>
  (uA F p1 Bc.bE Bc.cX (fun a0=>H7 F a0 Bc)).bind fun gV =>
  (Ii pn [gV]).bind fun jk =>
  dU (i64 (n12+1)) jk
 else
 wH F p0 p1 F 0 pn
def Ei (F:Nat) (p0:fG) (p1:List ah):Nat→Int→(List ar)→Option (List ar × Int)
 | 0=>fun _ _=>.none
 | n+1=>Dj F p0 p1 (Ei F p0 p1 n)
def Di (F:Nat) (p0:fG) (p1:List ah) (aE:Int→Option (List ar × Int)) (n4:Int):Option (List ar × Int) :=
 if (decide (n4<(p1.length:Int)))=true then
  (idx p1 n4).bind fun x6 =>
  (ou F x6).bind fun r7 =>
  if (r7 != 0)=true then
   some ([],1)
  else
  aE (i64 (n4+1))
 else
 (uA F p1 p0.cD p0.c6 (fun a0=>DS a0)).bind fun r9 =>
 (uA F p1 p0.aY p0.bh (fun a0=>xf F a0)).bind fun fR =>
 (Ii ([]:List ar) [r9,fR]).bind fun dS =>
 Ei F p0 p1 F 0 dS
def wG (F:Nat) (p0:fG) (p1:List ah):Nat→Int→Option (List ar × Int)
 | 0=>fun _=>.none
 | n+1=>Di F p0 p1 (wG F p0 p1 n)
def D6 (F:Nat) (p0:fG) (p1:List ah):Option (List ar × Int) :=
 (DY F p0).bind fun r1 =>
 if (r1 != 0)=true then
  some ([],r1)
 else
 if (decide ((p1.length:Int) > 12))=true then
  some ([],3)
 else
 wG F p0 p1 F 0
def C0 (p2:List Int) (r1:List ar × Int) (aE:Int→Option (cZ × Int)) (n4:Int):Option (cZ × Int) :=
 if (decide (n4<(p2.length:Int)))=true then
  (idx p2 n4).bind fun x6 =>
  if ((decide (x6<0)) || (decide (x6 > 10000)))=true then
   some ((cZ.mk [] []),2)
  else
  aE (i64 (n4+1))
 else
 (app [] p2).bind fun v10 =>
 some ((cZ.mk v10 r1.1),0)
def GB (p2:List Int) (r1:List ar × Int):Nat→Int→Option (cZ × Int)
 | 0=>fun _=>.none
 | n+1=>C0 p2 r1 (GB p2 r1 n)
def DQ (F:Nat) (p0:fG) (p1:List ah) (p2:List Int):Option (cZ × Int) :=
 (D6 F p0 p1).bind fun r1 =>
 if (r1.2 != 0)=true then
  some ((cZ.mk [] []),r1.2)
 else
 if ((p2.length:Int) != (p1.length:Int))=true then
  some ((cZ.mk [] []),1)
 else
 GB p2 r1 F 0
def Nn (p0:List Int) (aE:Int→Option Bool) (n1:Int):Option Bool :=
 if (decide (n1<(p0.length:Int)))=true then
  (idx p0 n1).bind fun x3 =>
  if ((decide (x3<(-10000))) || (decide (x3 > 10000)))=true then
   some false
  else
  aE (i64 (n1+1))
 else
 some true
def Gm (p0:List Int):Nat→Int→Option Bool
 | 0=>fun _=>.none
 | n+1=>Nn p0 (Gm p0 n)
def JH (F:Nat) (p0:List Int):Option Bool :=
 Gm p0 F 0
def Ek (p0:Int):Option Bool :=
 some ((decide (p0 ≥ (-1000000))) && (decide (p0≤1000000)))
def Db (F:Nat) (p0:cZ) (dU:Int→Option Bool) (n10:Int):Option Bool :=
 if (decide (n10<(p0.Rows.length:Int)))=true then
  (idx p0.Rows n10).bind fun kb =>
  (if ((kb.bU.length:Int) != (p0.aj.length:Int))=true then some true else (JH F kb.bU).bind fun gV=>if (!gV)=true then some true else (Ek kb.bE).bind fun j9=>if (!j9)=true then some true else (Ek kb.cX).bind fun rj=>some (!rj)).bind fun N3 =>
  if N3=true then
   some false
  else
  dU (i64 (n10+1))
 else
 some true
def Eh (F:Nat) (p0:cZ):Nat→Int→Option Bool
 | 0=>fun _=>.none
 | n+1=>Db F p0 (Eh F p0 n)
def Da (F:Nat) (p0:cZ) (aE:Int→Option Bool) (n4:Int):Option Bool :=
 if (decide (n4<(p0.aj.length:Int)))=true then
  (idx p0.aj n4).bind fun x6 =>
  if ((decide (x6<0)) || (decide (x6 > 10000)))=true then
   some false
  else
  aE (i64 (n4+1))
 else
 Eh F p0 F 0
def GI (F:Nat) (p0:cZ):Nat→Int→Option Bool
 | 0=>fun _=>.none
 | n+1=>Da F p0 (GI F p0 n)
def th (F:Nat) (p0:cZ):Option Bool :=
 if ((decide ((p0.aj.length:Int) > 12)) || (decide ((p0.Rows.length:Int) > 60)))=true then
  some false
 else
 GI F p0 F 0
def CY (p0:List Int) (p1:Int) (aE:Int→Option Bool) (n1:Int):Option Bool :=
 if (decide (n1<(p0.length:Int)))=true then
  (idx p0 n1).bind fun x3 =>
  (if (decide (x3<0))=true then some true else if (decide (x3 ≥ p1))=true then some true else if (decide (n1 > 0))=true then (idx p0 (i64 (n1 - 1))).bind fun x9=>some (decide (x9 ≥ x3)) else some false).bind fun w5 =>
  if w5=true then
   some false
  else
  aE (i64 (n1+1))
 else
 some true
def GA (p0:List Int) (p1:Int):Nat→Int→Option Bool
 | 0=>fun _=>.none
 | n+1=>CY p0 p1 (GA p0 p1 n)
def AX (F:Nat) (p0:List Int) (p1:Int):Option Bool :=
 GA p0 p1 F 0
def zp (p0:Int) (p1:Int) (p2:Int):Option ar :=
 (yo (0:Int) p0).bind fun v1 =>
 (idx v1 p1).bind fun x2 =>
 some (ar.mk (v1.set p1.toNat 1) p2 p2)
def CX (F:Nat) (p0:cZ) (p1:List Int) (p2:List Int) (v9:List Int) (fH:Int→(List ar)→Option (cZ × Int)) (n22:Int) (Kd:List ar):Option (cZ × Int) :=
 if (decide (n22<(p2.length:Int)))=true then
  (idx p2 n22).bind fun Hc =>
  (AS F p1 Hc).bind fun En =>
  if (!En)=true then
   (zp (p0.aj.length:Int) Hc 0).bind fun Bu =>
   (app Kd [Bu]).bind fun ZJ =>
   fH (i64 (n22+1)) ZJ
  else
  fH (i64 (n22+1)) Kd
 else
 if (decide ((Kd.length:Int) > 60))=true then
  some ((cZ.mk [] []),3)
 else
 some ((cZ.mk v9 Kd),0)
def Gz (F:Nat) (p0:cZ) (p1:List Int) (p2:List Int) (v9:List Int):Nat→Int→(List ar)→Option (cZ × Int)
 | 0=>fun _ _=>.none
 | n+1=>CX F p0 p1 p2 v9 (Gz F p0 p1 p2 v9 n)
def CW (F:Nat) (p0:cZ) (p1:List Int) (p2:List Int) (v9:List Int) (dU:Int→(List ar)→Option (cZ × Int)) (n16:Int) (Bq:List ar):Option (cZ × Int) :=
 if (decide (n16<(p1.length:Int)))=true then
  (idx p1 n16).bind fun Vw =>
  (zp (p0.aj.length:Int) Vw 1).bind fun rj =>
  (app Bq [rj]).bind fun v21 =>
  dU (i64 (n16+1)) v21
 else
 Gz F p0 p1 p2 v9 F 0 Bq
def Gy (F:Nat) (p0:cZ) (p1:List Int) (p2:List Int) (v9:List Int):Nat→Int→(List ar)→Option (cZ × Int)
 | 0=>fun _ _=>.none
 | n+1=>CW F p0 p1 p2 v9 (Gy F p0 p1 p2 v9 n)
def CV (F:Nat) (p0:cZ) (p1:List Int) (p2:List Int) (v9:List Int) (aE:Int→(List ar)→Option (cZ × Int)) (n10:Int) (fe:List ar):Option (cZ × Int) :=
 if (decide (n10<(p0.Rows.length:Int)))=true then
  (idx p0.Rows n10).bind fun jc =>
  (app [] jc.bU).bind fun Aa =>
  (app fe [(ar.mk Aa jc.bE jc.cX)]).bind fun JZ =>
  aE (i64 (n10+1)) JZ
 else
 Gy F p0 p1 p2 v9 F 0 fe
def Gx (F:Nat) (p0:cZ) (p1:List Int) (p2:List Int) (v9:List Int):Nat→Int→(List ar)→Option (cZ × Int)
 | 0=>fun _ _=>.none
 | n+1=>CV F p0 p1 p2 v9 (Gx F p0 p1 p2 v9 n)
def zh (F:Nat) (p0:cZ) (p1:List Int) (p2:List Int):Option (cZ × Int) :=
 (th F p0).bind fun r1 =>
 if (!r1)=true then
  some ((cZ.mk [] []),1)
 else
 ((AX F p1 (p0.aj.length:Int)).bind fun r5=>if (!r5)=true then some true else (AX F p2 (p0.aj.length:Int)).bind fun r7=>some (!r7)).bind fun w4 =>
 if w4=true then
  some ((cZ.mk [] []),2)
 else
 (app [] p0.aj).bind fun v9 =>
 Gx F p0 p1 p2 v9 F 0 ([]:List ar)
def DR (p0:List Int) (p1:Int) (c0:bb):Option bb :=
 if ((!c0.Found) || (decide (p1<c0.jH)))=true then
  (app [] p0).bind fun v4 =>
  some (bb.mk true v4 p1 c0.ke)
 else
 some c0
def C6 (p0:Int) (p1:Int) (c0:cZ) (aE:Int→(List Int)→Option (List Int)) (n1:Int) (l2:List Int):Option (List Int) :=
 if (decide (n1<(c0.Rows.length:Int)))=true then
  (idx c0.Rows n1).bind fun x4 =>
  (idx l2 n1).bind fun x5 =>
  (idx x4.bU p0).bind fun x6 =>
  (idx l2 n1).bind fun x7 =>
  aE (i64 (n1+1)) (l2.set n1.toNat (i64 (x5+(i64 (p1 * x6)))))
 else
 some l2
def GD (p0:Int) (p1:Int) (c0:cZ):Nat→Int→(List Int)→Option (List Int)
 | 0=>fun _ _=>.none
 | n+1=>C6 p0 p1 c0 (GD p0 p1 c0 n)
def zm (F:Nat) (p0:Int) (p1:Int) (c0:cZ) (c1:List Int):Option (List Int) :=
 GD p0 p1 c0 F 0 c1
def C7 (c0:cZ) (c1:List Int) (aE:Int→Option (Bool × List Int)) (n1:Int):Option (Bool × List Int) :=
 if (decide (n1<(c0.Rows.length:Int)))=true then
  (idx c0.Rows n1).bind fun x3 =>
  ((idx c1 n1).bind fun x6=>if (decide (x6<x3.bE))=true then some true else (idx c1 n1).bind fun x8=>some (decide (x8 > x3.cX))).bind fun w5 =>
  if w5=true then
   some (false,c1)
  else
  aE (i64 (n1+1))
 else
 some (true,c1)
def GF (c0:cZ) (c1:List Int):Nat→Int→Option (Bool × List Int)
 | 0=>fun _=>.none
 | n+1=>C7 c0 c1 (GF c0 c1 n)
def DV (F:Nat) (c0:cZ) (c1:List Int):Option (Bool × List Int) :=
 GF c0 c1 F 0
def C8 (F:Nat) (self:Int→Int→(List Int)→cZ→(List Int)→bb→Option (List Int × List Int × bb)) (p1:Int) (c3:cZ) (dU:Int→Bool→(List Int)→Int→(List aG)→(List Int)→(List Int)→Option (List Int × List Int × bb)) (n6:Int) (b7:Bool) (l8:List Int) (n9:Int) (iN:List aG) (fe:List Int) (qO:List Int):Option (List Int × List Int × bb) :=
 if (decide (n6<(c3.aj.length:Int)))=true then
  (app qO [n6]).bind fun Aa =>
  (zm F n6 1 c3 fe).bind fun ri =>
  (idx c3.aj n6).bind fun oe =>
  (self (i64 (n6+1)) (i64 (p1+oe)) Aa c3 ri (bb.mk b7 l8 n9 iN)).bind fun jk =>
  (zm F n6 (-1) c3 jk.2.1).bind fun j9 =>
  (KW jk.1 (i64 ((jk.1.length:Int) - 1))).bind fun RR =>
  dU (i64 (n6+1)) jk.2.2.Found jk.2.2.cT jk.2.2.jH jk.2.2.ke j9 RR
 else
 some (qO,fe,(bb.mk b7 l8 n9 iN))
def GG (F:Nat) (self:Int→Int→(List Int)→cZ→(List Int)→bb→Option (List Int × List Int × bb)) (p1:Int) (c3:cZ):Nat→Int→Bool→(List Int)→Int→(List aG)→(List Int)→(List Int)→Option (List Int × List Int × bb)
 | 0=>fun _ _ _ _ _ _ _=>.none
 | n+1=>C8 F self p1 c3 (GG F self p1 c3 n)
def ze (F:Nat) (self:Int→Int→(List Int)→cZ→(List Int)→bb→Option (List Int × List Int × bb)) (p0:Int) (p1:Int) (c2:List Int) (c3:cZ) (b1:Bool) (l2:List Int) (n3:Int) (l4:List aG) (l5:List Int):Option (List Int × List Int × bb) :=
 GG F self p1 c3 F p0 b1 l2 n3 l4 l5 c2
def yt:Nat→Int→Int→(List Int)→cZ→(List Int)→bb→Option (List Int × List Int × bb)
 | 0,_,_,_,_,_,_=>.none
 | F+1,p0,p1,c2,c3,RC,Im =>
  (DV F c3 RC).bind fun rj =>
  if rj.1=true then
   (DR c2 p1 Im).bind fun sa =>
   ze F (yt F) p0 p1 c2 c3 sa.Found sa.cT sa.jH sa.ke rj.2
  else
  ze F (yt F) p0 p1 c2 c3 Im.Found Im.cT Im.jH Im.ke rj.2
def D8 (F:Nat) (p0:cZ) (Km:bb):Option bb :=
 (yo (0:Int) (p0.Rows.length:Int)).bind fun v1 =>
 (yt F 0 0 ([]:List Int) p0 v1 Km).bind fun r2 =>
 some r2.2.2
def CO (p0:List Int) (aE:Int→Option Bool) (n4:Int):Option Bool :=
 if (decide (n4<(p0.length:Int)))=true then
  (idx p0 n4).bind fun x6 =>
  if ((decide (x6<(-1))) || (decide (x6 > 1)))=true then
   some false
  else
  aE (i64 (n4+1))
 else
 some true
def Gs (p0:List Int):Nat→Int→Option Bool
 | 0=>fun _=>.none
 | n+1=>CO p0 (Gs p0 n)
def zg (F:Nat) (p0:List Int) (p1:Int):Option Bool :=
 if (((p0.length:Int) != p1) || (decide (p1 > 12)))=true then
  some false
 else
 Gs p0 F 0
def Dm (p0:ar) (p1:List Int) (aE:Int→Int→Int→Option (Int × Int × Bool)) (n7:Int) (n8:Int) (n9:Int):Option (Int × Int × Bool) :=
 if (decide (n9<(p0.bU.length:Int)))=true then
  (idx p0.bU n9).bind fun qa =>
  (idx p1 n9).bind fun kb =>
  if (kb == 1)=true then
   aE (i64 (n7+qa)) (i64 (n8+qa)) (i64 (n9+1))
  else
  if (kb == (-1))=true then
   aE (i64 (n7+(min qa 0))) (i64 (n8+(max qa 0))) (i64 (n9+1))
  else
  aE n7 n8 (i64 (n9+1))
 else
 some (n7,n8,true)
def wI (p0:ar) (p1:List Int):Nat→Int→Int→Int→Option (Int × Int × Bool)
 | 0=>fun _ _ _=>.none
 | n+1=>Dm p0 p1 (wI p0 p1 n)
def xa (F:Nat) (p0:ar) (p1:List Int):Option (Int × Int × Bool) :=
 ((zg F p1 (p0.bU.length:Int)).bind fun r3=>if (!r3)=true then some true else (JH F p0.bU).bind fun r5=>some (!r5)).bind fun w2 =>
 if w2=true then
  some (0,0,false)
 else
 wI p0 p1 F 0 0 0
def Dh (F:Nat) (p0:cZ) (p1:List Int) (aE:Int→Option Int) (n7:Int):Option Int :=
 if (decide (n7<(p0.Rows.length:Int)))=true then
  (idx p0.Rows n7).bind fun x9 =>
  (xa F x9 p1).bind fun fR =>
  if (fR.2.2 && ((decide (fR.1 > x9.cX)) || ((decide (fR.2.1<x9.bE)) || (decide (x9.bE > x9.cX)))))=true then
   some n7
  else
  aE (i64 (n7+1))
 else
 some (-1)
def wF (F:Nat) (p0:cZ) (p1:List Int):Nat→Int→Option Int
 | 0=>fun _=>.none
 | n+1=>Dh F p0 p1 (wF F p0 p1 n)
def D5 (F:Nat) (p0:cZ) (p1:List Int):Option Int :=
 ((th F p0).bind fun r3=>if (!r3)=true then some true else (zg F p1 (p0.aj.length:Int)).bind fun r5=>some (!r5)).bind fun w2 =>
 if w2=true then
  some (-1)
 else
 wF F p0 p1 F 0
def CL (p0:List Int) (aE:Int→Option Bool) (n2:Int):Option Bool :=
 if (decide (n2<(p0.length:Int)))=true then
  (idx p0 n2).bind fun x4 =>
  if ((decide (x4<(-1))) || (decide (x4 > 1)))=true then
   some false
  else
  aE (i64 (n2+1))
 else
 some true
def Gr (p0:List Int):Nat→Int→Option Bool
 | 0=>fun _=>.none
 | n+1=>CL p0 (Gr p0 n)
def DD (F:Nat) (p0:List Int) (p1:Int):Option Bool :=
 if ((p0.length:Int) != p1)=true then
  some false
 else
 Gr p0 F 0
def AU (p0:cZ) (p1:aG):Option Bool :=
 if (p1.Kind != 3)=true then
  some false
 else
 if (p1.Row == (-1))=true then
  some ((p1.qx == 0) && (p1.Den == 1))
 else
 some ((decide (p1.Row ≥ 0)) && ((decide (p1.Row<(p0.Rows.length:Int))) && ((decide (p1.qx ≥ (-10000))) && ((decide (p1.qx≤10000)) && ((decide (p1.Den ≥ 1)) && (decide (p1.Den≤10000)))))))
def Ib (p0:Int) (p1:Int):Option Int :=
 (quo .i64 p0 p1).bind fun v1 =>
 (Uy p0 p1).bind fun v2 =>
 if (decide (v2 > 0))=true then
  some (i64 (v1+1))
 else
 some v1
def CK (p0:cZ) (p1:List Int) (p2:aG) (l2:List Int) (fH:Int→Int→Option Int) (n6:Int) (n7:Int):Option Int :=
 if (decide (n7<(p0.aj.length:Int)))=true then
  (idx p0.aj n7).bind fun x9 =>
  (idx l2 n7).bind fun mI =>
  (idx p1 n7).bind fun qa =>
  if (qa == 1)=true then
   fH (i64 (n6+(i64 ((i64 (p2.Den * x9)) - (i64 (p2.qx * mI)))))) (i64 (n7+1))
  else
  if (qa == (-1))=true then
   fH (i64 (n6+(min (i64 ((i64 (p2.Den * x9)) - (i64 (p2.qx * mI)))) 0))) (i64 (n7+1))
  else
  fH n6 (i64 (n7+1))
 else
 (Ib n6 p2.Den).bind fun fJ =>
 some fJ
def Gq (p0:cZ) (p1:List Int) (p2:aG) (l2:List Int):Nat→Int→Int→Option Int
 | 0=>fun _ _=>.none
 | n+1=>CK p0 p1 p2 l2 (Gq p0 p1 p2 l2 n)
def C4 (F:Nat) (p0:cZ) (p1:List Int) (p2:aG) (l2:List Int) (n5:Int):Option Int :=
 Gq p0 p1 p2 l2 F n5 0
def C3 (F:Nat) (p0:cZ) (p1:List Int) (p2:aG) (l2:List Int) (n3:Int) (n4:Int):Option Int :=
 if (decide (p2.qx<0))=true then
  C4 F p0 p1 p2 l2 (i64 (p2.qx * n4))
 else
 C4 F p0 p1 p2 l2 (i64 (p2.qx * n3))
def GM (F:Nat) (p0:cZ) (p1:List Int) (p2:aG):Option Int :=
 (yo (0:Int) (p0.aj.length:Int)).bind fun v1 =>
 if (decide (p2.Row ≥ 0))=true then
  (idx p0.Rows p2.Row).bind fun jn =>
  C3 F p0 p1 p2 jn.bU jn.bE jn.cX
 else
 C3 F p0 p1 p2 v1 0 0
def DT (F:Nat) (p0:cZ) (p1:List Int) (p2:aG):Option (Int × Bool) :=
 ((th F p0).bind fun r3=>if (!r3)=true then some true else (DD F p1 (p0.aj.length:Int)).bind fun r5=>if (!r5)=true then some true else (AU p0 p2).bind fun r7=>some (!r7)).bind fun w2 =>
 if w2=true then
  some (0,false)
 else
 (GM F p0 p1 p2).bind fun r9 =>
 some (r9,true)
def DU:Nat→Int→(List aG)→cZ→(List Int)→aG→Bool→Int→Option (Int × List aG × List Int)
 | 0,_,_,_,_,_,_,_=>.none
 | F+1,p0,c0,c1,c2,c3,c4,c5 =>
  (D5 F c1 c2).bind fun r1 =>
  if (decide (r1 ≥ 0))=true then
   (app c0 [(aG.mk 2 0 0 0 r1 0 0)]).bind fun v3 =>
   some ((c0.length:Int),v3,c2)
  else
  (DT F c1 c2 c3).bind fun r4 =>
  if ((p0 == (c2.length:Int)) || (c4 && (decide (r4.1 ≥ c5))))=true then
   (app c0 [c3]).bind fun v9 =>
   some ((c0.length:Int),v9,c2)
  else
  (app c0 [(aG.mk 1 p0 0 0 0 0 0)]).bind fun v10 =>
  (idx c2 p0).bind fun qa =>
  ((DU F) (i64 (p0+1)) v10 c1 (c2.set p0.toNat 0) c3 c4 c5).bind fun jU =>
  (idx jU.2.2 p0).bind fun jc =>
  ((DU F) (i64 (p0+1)) jU.2.1 c1 (jU.2.2.set p0.toNat 1) c3 c4 c5).bind fun fJ =>
  (idx fJ.2.2 p0).bind fun Bc =>
  (idx fJ.2.1 (c0.length:Int)).bind fun oe =>
  (idx (fJ.2.1.set ((c0.length:Int).toNat) (aG.mk oe.Kind oe.Var jU.1 oe.One oe.Row oe.qx oe.Den)) (c0.length:Int)).bind fun jn =>
  some ((c0.length:Int),((fJ.2.1.set ((c0.length:Int).toNat) (aG.mk oe.Kind oe.Var jU.1 oe.One oe.Row oe.qx oe.Den)).set ((c0.length:Int).toNat) (aG.mk jn.Kind jn.Var jn.Zero fJ.1 jn.Row jn.qx jn.Den)),(fJ.2.2.set p0.toNat (-1)))
def C5 (F:Nat) (p0:cZ) (p1:Bool) (p2:Int):Option (List aG) :=
 (Es (-1) (p0.aj.length:Int)).bind fun l1 =>
 (DU F 0 ([]:List aG) p0 l1 (aG.mk 3 0 0 0 (-1) 0 1) p1 p2).bind fun r2 =>
 some r2.2.1
def D1 (F:Nat) (p0:cZ):Option (bb × Int) :=
 (th F p0).bind fun r1 =>
 if (!r1)=true then
  some ((bb.mk false [] 0 []),1)
 else
 (D8 F p0 (bb.mk false ([]:List Int) 0 ([]:List aG))).bind fun r3 =>
 (C5 F p0 r3.Found r3.jH).bind fun r4 =>
 some ((bb.mk r3.Found r3.cT r3.jH r4),0)
def CU (F:Nat) (p0:cZ) (p1:List Int) (p2:Int) (aE:Int→(List bb)→(List Int)→Option (List bb × Int)) (n9:Int) (iN:List bb) (fe:List Int):Option (List bb × Int) :=
 if (decide (n9<p2))=true then
  (zh F p0 p1 fe).bind fun sD =>
  if (sD.2 != 0)=true then
   some ([],sD.2)
  else
  (D1 F sD.1).bind fun ri =>
  if (ri.2 != 0)=true then
   some ([],ri.2)
  else
  if (!ri.1.Found)=true then
   some ([],10)
  else
  (app iN [ri.1]).bind fun P7 =>
  (app fe ri.1.cT).bind fun RR =>
  (xl RR).bind fun Z7 =>
  (KT Z7).bind fun v21 =>
  aE (i64 (n9+1)) P7 v21
 else
 some (iN,0)
def Gw (F:Nat) (p0:cZ) (p1:List Int) (p2:Int):Nat→Int→(List bb)→(List Int)→Option (List bb × Int)
 | 0=>fun _ _ _=>.none
 | n+1=>CU F p0 p1 p2 (Gw F p0 p1 p2 n)
def DM (F:Nat) (p0:cZ) (p1:List Int) (p2:Int):Option (List bb × Int) :=
 (th F p0).bind fun r1 =>
 if (!r1)=true then
  some ([],1)
 else
 ((AX F p1 (p0.aj.length:Int)).bind fun r5=>if (!r5)=true then some true else if (decide (p2<1))=true then some true else some (decide (p2 > 4))).bind fun w4 =>
 if w4=true then
  some ([],2)
 else
 Gw F p0 p1 p2 F 0 ([]:List bb) ([]:List Int)
def Dc (F:Nat) (p0:jd) (aE:Int→Option Bool) (n9:Int):Option Bool :=
 if (decide (n9<(p0.aH.length:Int)))=true then
  (idx p0.aH n9).bind fun qa =>
  (zu qa).bind fun jU =>
  if (!jU)=true then
   some false
  else
  aE (i64 (n9+1))
 else
 (yv F p0.aH).bind fun fJ =>
 some (decide (fJ≤200))
def GK (F:Nat) (p0:jd):Nat→Int→Option Bool
 | 0=>fun _=>.none
 | n+1=>Dc F p0 (GK F p0 n)
def tP (F:Nat) (p0:jd):Option Bool :=
 if ((decide (p0.Code<0)) || ((decide (p0.Code > 31)) || ((decide (p0.Variant<0)) || (decide (p0.Variant ≥ 4)))))=true then
  some false
 else
 if ((decide ((p0.aH.length:Int)<1)) || (decide ((p0.aH.length:Int) > 24)))=true then
  some false
 else
 GK F p0 F 0
def Dt (F:Nat) (p0:List ah) (p1:List Int) (p2:Int) (p3:Int) (aE:Int→(List aq)→Option (jd × Int)) (n3:Int) (l4:List aq):Option (jd × Int) :=
 if (decide (n3<(p1.length:Int)))=true then
  (idx p1 n3).bind fun x6 =>
  (idx p0 x6).bind fun x7 =>
  (ou F x7).bind fun r8 =>
  if (r8 != 0)=true then
   some ((jd.mk 0 0 []),1)
  else
  (idx p0 x6).bind fun mI =>
  (app l4 mI.aH).bind fun v11 =>
  aE (i64 (n3+1)) v11
 else
 (tP F (jd.mk p2 p3 l4)).bind fun jU =>
 if (!jU)=true then
  some ((jd.mk 0 0 []),1)
 else
 some ((jd.mk p2 p3 l4),0)
def wR (F:Nat) (p0:List ah) (p1:List Int) (p2:Int) (p3:Int):Nat→Int→(List aq)→Option (jd × Int)
 | 0=>fun _ _=>.none
 | n+1=>Dt F p0 p1 p2 p3 (wR F p0 p1 p2 p3 n)
def tR (F:Nat) (p0:List ah) (p1:List Int) (p2:Int) (p3:Int):Option (jd × Int) :=
 (AX F p1 (p0.length:Int)).bind fun r1 =>
 if (!r1)=true then
  some ((jd.mk 0 0 []),2)
 else
 wR F p0 p1 p2 p3 F 0 ([]:List aq)
def Ia (F:Nat) (p0:jd):Option Int :=
 (tP F p0).bind fun r1 =>
 if (!r1)=true then
  some 0
 else
 (yv F p0.aH).bind fun r3 =>
 some r3
def qq (F:Nat):Option Bool :=
 (iK F ([(bu.mk (bJ.mk 0 0 0) 1 (ah.mk 4 1 (ByteArray.mk #[113]) [(aq.mk 1 3 0 0 0 0)] []) (bD.mk 0 0) 0),(bu.mk (bJ.mk 1 0 1) 3 (ah.mk 0 0 (ByteArray.mk #[]) [] []) (bD.mk 4 1) 0)]) 9).bind fun r1 =>
 (zy F r1.1 9 0 9).bind fun r2 =>
 if ((r1.2.2 != 0) || ((r2.length:Int) != 1))=true then
  some false
 else
 (idx r2 0).bind fun x6 =>
 (zF F r1.1 x6).bind fun r7 =>
 (tR F [r7.1] [0] 2 1).bind fun r8 =>
 (if r7.2=true then if (r8.2 == 0)=true then (Ia F r8.1).bind fun sD=>if (sD == 3)=true then if (r8.1.Code == 2)=true then some (r8.1.Variant == 1) else some false else some false else some false else some false).bind fun UU =>
 some UU
def DN (p0:Int) (p1:List Int) (aE:Int→Option Bool) (n1:Int):Option Bool :=
 if (decide (n1<(p1.length:Int)))=true then
  ((idx p1 n1).bind fun x5=>if (decide (x5<0))=true then some true else (idx p1 n1).bind fun x7=>if (decide (x7 ≥ p0))=true then some true else if (decide (n1 > 0))=true then (idx p1 (i64 (n1 - 1))).bind fun mI=>(idx p1 n1).bind fun qa=>some (decide (mI ≥ qa)) else some false).bind fun w4 =>
  if w4=true then
   some false
  else
  aE (i64 (n1+1))
 else
 some true
def wZ (p0:Int) (p1:List Int):Nat→Int→Option Bool
 | 0=>fun _=>.none
 | n+1=>DN p0 p1 (wZ p0 p1 n)
def zH (F:Nat) (p0:Int) (p1:List Int):Option Bool :=
 wZ p0 p1 F 0
def Df (p0:jd) (p1:Int) (p2:Int) (aE:Int→Int→Option Int) (n1:Int) (n2:Int):Option Int :=
 if (decide (n2<(p0.aH.length:Int)))=true then
  (if (decide (p1<0))=true then if (decide (p2<0))=true then some true else (idx p0.aH n2).bind fun x8=>some (x8.cG == p2) else (idx p0.aH n2).bind fun x9=>if (x9.fx == p1)=true then if (decide (p2<0))=true then some true else (idx p0.aH n2).bind fun kb=>some (kb.cG == p2) else some false).bind fun w5 =>
  if w5=true then
   (idx p0.aH n2).bind fun e7 =>
   aE (i64 (n1+e7.Max)) (i64 (n2+1))
  else
  aE n1 (i64 (n2+1))
 else
 some n1
def GN (p0:jd) (p1:Int) (p2:Int):Nat→Int→Int→Option Int
 | 0=>fun _ _=>.none
 | n+1=>Df p0 p1 p2 (GN p0 p1 p2 n)
def yu (F:Nat) (p0:jd) (p1:Int) (p2:Int):Option Int :=
 GN p0 p1 p2 F 0 0
def Dx (fH:Int→Option Bool) (F:Nat) (p1:List ah) (p2:List Int) (n29:Int) (lC:Int→Option Bool) (n31:Int):Option Bool :=
 if (decide (n31<n29))=true then
  ((idx p2 n29).bind fun x35=>(idx p1 x35).bind fun Vz=>(idx p2 n31).bind fun ZN=>(idx p1 ZN).bind fun U0=>if (Vz.ID == U0.ID)=true then some true else (idx p2 n29).bind fun VA=>(idx p1 VA).bind fun x41=>(idx p2 n31).bind fun x42=>(idx p1 x42).bind fun ZO=>(xe F x41 ZO).bind fun E5=>some E5).bind fun w34 =>
  if w34=true then
   some false
  else
  lC (i64 (n31+1))
 else
 fH (i64 (n29+1))
def wU (fH:Int→Option Bool) (F:Nat) (p1:List ah) (p2:List Int) (n29:Int):Nat→Int→Option Bool
 | 0=>fun _=>.none
 | n+1=>Dx fH F p1 p2 n29 (wU fH F p1 p2 n29 n)
def Dw (F:Nat) (p1:List ah) (p2:List Int) (fH:Int→Option Bool) (n29:Int):Option Bool :=
 if (decide (n29<(p2.length:Int)))=true then
  wU fH F p1 p2 n29 F 0
 else
 some true
def AY (F:Nat) (p1:List ah) (p2:List Int):Nat→Int→Option Bool
 | 0=>fun _=>.none
 | n+1=>Dw F p1 p2 (AY F p1 p2 n)
def Dv (F:Nat) (p0:fG) (p1:List ah) (p2:List Int) (p3:jd) (dU:Int→Option Bool) (n19:Int):Option Bool :=
 if (decide (n19<(p0.aR.length:Int)))=true then
  (idx p0.aR n19).bind fun E7 =>
  (yu F p3 (-1) E7.Index).bind fun sa =>
  ((idx p0.aR n19).bind fun Hc=>if (decide (sa<Hc.bE))=true then some true else (idx p0.aR n19).bind fun UY=>some (decide (sa > UY.cX))).bind fun UW =>
  if UW=true then
   some false
  else
  dU (i64 (n19+1))
 else
 AY F p1 p2 F 0
def wT (F:Nat) (p0:fG) (p1:List ah) (p2:List Int) (p3:jd):Nat→Int→Option Bool
 | 0=>fun _=>.none
 | n+1=>Dv F p0 p1 p2 p3 (wT F p0 p1 p2 p3 n)
def Du (F:Nat) (p0:fG) (p1:List ah) (p2:List Int) (p3:jd) (aE:Int→Option Bool) (n9:Int):Option Bool :=
 if (decide (n9<(p0.b5.length:Int)))=true then
  (idx p0.b5 n9).bind fun qa =>
  (yu F p3 qa.Index (-1)).bind fun jU =>
  ((idx p0.b5 n9).bind fun Bc=>if (decide (jU<Bc.bE))=true then some true else (idx p0.b5 n9).bind fun jn=>some (decide (jU > jn.cX))).bind fun N3 =>
  if N3=true then
   some false
  else
  aE (i64 (n9+1))
 else
 wT F p0 p1 p2 p3 F 0
def wS (F:Nat) (p0:fG) (p1:List ah) (p2:List Int) (p3:jd):Nat→Int→Option Bool
 | 0=>fun _=>.none
 | n+1=>Du F p0 p1 p2 p3 (wS F p0 p1 p2 p3 n)
def zx (F:Nat) (p0:fG) (p1:List ah) (p2:List Int) (p3:jd):Option Bool :=
 (if (decide ((p2.length:Int)<p0.cD))=true then some true else if (decide ((p2.length:Int) > p0.c6))=true then some true else (yu F p3 (-1) (-1)).bind fun r5=>if (decide (r5<p0.aY))=true then some true else (yu F p3 (-1) (-1)).bind fun r7=>some (decide (r7 > p0.bh))).bind fun w2 =>
 if w2=true then
  some false
 else
 wS F p0 p1 p2 p3 F 0
def CJ (p0:List Int) (p1:Int) (aE:Int→Option Bool) (n1:Int):Option Bool :=
 if (decide (n1<(p0.length:Int)))=true then
  (idx p0 n1).bind fun x3 =>
  (if (decide (x3<0))=true then some true else if (decide (x3 ≥ p1))=true then some true else if (decide (n1 > 0))=true then (idx p0 (i64 (n1 - 1))).bind fun x9=>some (decide (x9 ≥ x3)) else some false).bind fun w5 =>
  if w5=true then
   some false
  else
  aE (i64 (n1+1))
 else
 some true
def Gp (p0:List Int) (p1:Int):Nat→Int→Option Bool
 | 0=>fun _=>.none
 | n+1=>CJ p0 p1 (Gp p0 p1 n)
def GJ (F:Nat) (p0:List Int) (p1:Int):Option Bool :=
 Gp p0 p1 F 0
def CQ (p0:List Int) (p1:List Int) (aE:Int→Int→Option Int) (n1:Int) (n2:Int):Option Int :=
 if (decide (n2<(p1.length:Int)))=true then
  (idx p1 n2).bind fun x4 =>
  (idx p0 x4).bind fun x5 =>
  aE (i64 (n1+x5)) (i64 (n2+1))
 else
 some n1
def Gu (p0:List Int) (p1:List Int):Nat→Int→Int→Option Int
 | 0=>fun _ _=>.none
 | n+1=>CQ p0 p1 (Gu p0 p1 n)
def wL (F:Nat) (p0:List Int) (p1:List Int):Option Int :=
 Gu p0 p1 F 0 0
def D4 (F:Nat) (p0:cZ) (p1:List Int):Option (Int × Bool) :=
 ((th F p0).bind fun r3=>if (!r3)=true then some true else (GJ F p1 (p0.aj.length:Int)).bind fun r5=>some (!r5)).bind fun w2 =>
 if w2=true then
  some (0,false)
 else
 (wL F p0.aj p1).bind fun r7 =>
 some (r7,true)
def C9 (F:Nat) (p0:cZ) (p1:List Int) (aE:Int→Option Bool) (n7:Int):Option Bool :=
 if (decide (n7<(p0.Rows.length:Int)))=true then
  (idx p0.Rows n7).bind fun x9 =>
  (wL F x9.bU p1).bind fun fR =>
  if ((decide (fR<x9.bE)) || (decide (fR > x9.cX)))=true then
   some false
  else
  aE (i64 (n7+1))
 else
 some true
def GH (F:Nat) (p0:cZ) (p1:List Int):Nat→Int→Option Bool
 | 0=>fun _=>.none
 | n+1=>C9 F p0 p1 (GH F p0 p1 n)
def DZ (F:Nat) (p0:cZ) (p1:List Int):Option Bool :=
 ((th F p0).bind fun r3=>if (!r3)=true then some true else (GJ F p1 (p0.aj.length:Int)).bind fun r5=>some (!r5)).bind fun w2 =>
 if w2=true then
  some false
 else
 GH F p0 p1 F 0
def zd (p0:Int) (p1:Int) (c0:List aG) (c1:List Bool):Option (Bool × List Bool) :=
 (if (decide (p0 > p1))=true then if (decide (p0<(c0.length:Int)))=true then (idx c1 p0).bind fun x5=>some (!x5) else some false else some false).bind fun w2 =>
 some (w2,c1)
def Dy (p0:cZ) (p1:aG):Option Bool :=
 some ((p1.Kind == 2) && ((decide (p1.Row ≥ 0)) && (decide (p1.Row<(p0.Rows.length:Int)))))
def zo (p0:List Int) (p1:Int) (p2:Int):Option (List Int) :=
 (app [] p0).bind fun v1 =>
 (idx v1 p1).bind fun x2 =>
 some (v1.set p1.toNat p2)
def JD (p0:cZ) (p1:List aG) (aE:Int→(List (List Int))→(List Bool)→Option (List (List Int) × Int)) (n10:Int) (fe:List (List Int)) (qO:List Bool):Option (List (List Int) × Int) :=
 if (decide (n10<(p1.length:Int)))=true then
  (idx p1 n10).bind fun e7 =>
  (idx qO n10).bind fun Bc =>
  if (!Bc)=true then
   some ([],29)
  else
  if (e7.Kind != 1)=true then
   ((Dy p0 e7).bind fun rj=>if (!rj)=true then (AU p0 e7).bind fun sa=>some (!sa) else some false).bind fun EX =>
   if EX=true then
    some ([],29)
   else
   aE (i64 (n10+1)) fe qO
  else
  ((zd e7.Zero n10 p1 qO).bind fun AZ=>if (!AZ.1)=true then some (true,AZ.2) else (zd e7.One n10 p1 AZ.2).bind fun tT=>if (!tT.1)=true then some (true,tT.2) else some ((e7.Zero == e7.One),tT.2)).bind fun EY =>
  if EY.1=true then
   some ([],29)
  else
  (if (decide (e7.Var<0))=true then some true else if (decide (e7.Var ≥ (p0.aj.length:Int)))=true then some true else (idx fe n10).bind fun Vz=>(idx Vz e7.Var).bind fun ZN=>some (ZN != (-1))).bind fun w33 =>
  if w33=true then
   some ([],29)
  else
  (idx fe n10).bind fun x39 =>
  (zo x39 e7.Var 0).bind fun Bv =>
  (idx fe e7.Zero).bind fun x41 =>
  (idx EY.2 e7.Zero).bind fun x42 =>
  (idx (fe.set e7.Zero.toNat Bv) n10).bind fun ZO =>
  (zo ZO e7.Var 1).bind fun E5 =>
  (idx (fe.set e7.Zero.toNat Bv) e7.One).bind fun x45 =>
  (idx (EY.2.set e7.Zero.toNat true) e7.One).bind fun Ot =>
  aE (i64 (n10+1)) ((fe.set e7.Zero.toNat Bv).set e7.One.toNat E5) ((EY.2.set e7.Zero.toNat true).set e7.One.toNat true)
 else
 some (fe,0)
def Kj (p0:cZ) (p1:List aG):Nat→Int→(List (List Int))→(List Bool)→Option (List (List Int) × Int)
 | 0=>fun _ _ _=>.none
 | n+1=>JD p0 p1 (Kj p0 p1 n)
def DL (F:Nat) (p0:cZ) (p1:List aG):Option (List (List Int) × Int) :=
 (th F p0).bind fun r1 =>
 if (!r1)=true then
  some ([],1)
 else
 if (decide ((p1.length:Int) > 8191))=true then
  some ([],3)
 else
 if ((p1.length:Int) == 0)=true then
  some ([],29)
 else
 (yo ([]:List Int) (p1.length:Int)).bind fun v5 =>
 (yo (false:Bool) (p1.length:Int)).bind fun v6 =>
 (Es (-1) (p0.aj.length:Int)).bind fun l7 =>
 (idx v5 0).bind fun x8 =>
 (idx v6 0).bind fun x9 =>
 Kj p0 p1 F 0 (v5.set ((0:Int).toNat) l7) (v6.set ((0:Int).toNat) true)
def CT (F:Nat) (p0:cZ) (p1:List aG) (r1:List (List Int) × Int) (aE:Int→Bool→Int→Option (Int × Bool × Int)) (n3:Int) (b4:Bool) (n5:Int):Option (Int × Bool × Int) :=
 if (decide (n5<(p1.length:Int)))=true then
  (idx p1 n5).bind fun x7 =>
  if (x7.Kind == 2)=true then
   (idx p0.Rows x7.Row).bind fun x9 =>
   (idx r1.1 n5).bind fun mI =>
   (xa F x9 mI).bind fun dS =>
   if ((decide (dS.1≤x9.cX)) && ((decide (dS.2.1 ≥ x9.bE)) && (decide (x9.bE≤x9.cX))))=true then
    some (0,false,29)
   else
   aE n3 b4 (i64 (n5+1))
  else
  if (x7.Kind == 3)=true then
   (idx r1.1 n5).bind fun jn =>
   (GM F p0 jn x7).bind fun j9 =>
   if ((!b4) || (decide (j9<n3)))=true then
    aE j9 true (i64 (n5+1))
   else
   aE n3 b4 (i64 (n5+1))
  else
  aE n3 b4 (i64 (n5+1))
 else
 some (n3,b4,0)
def Gv (F:Nat) (p0:cZ) (p1:List aG) (r1:List (List Int) × Int):Nat→Int→Bool→Int→Option (Int × Bool × Int)
 | 0=>fun _ _ _=>.none
 | n+1=>CT F p0 p1 r1 (Gv F p0 p1 r1 n)
def DK (F:Nat) (p0:cZ) (p1:List aG):Option (Int × Bool × Int) :=
 (DL F p0 p1).bind fun r1 =>
 if (r1.2 != 0)=true then
  some (0,false,r1.2)
 else
 Gv F p0 p1 r1 F 0 false 0
def Dp (F:Nat) (p0:cZ) (p1:bb):Option Int :=
 (DK F p0 p1.ke).bind fun r3 =>
 if (r3.2.2 != 0)=true then
  some r3.2.2
 else
 if (if p1.Found=true then ((!r3.2.1) || ((decide (r3.1<p1.jH)) || ((!p1.Found) && r3.2.1))) else ((!p1.Found) && r3.2.1))=true then
  some 30
 else
 some 0
def wY (F:Nat) (p0:cZ) (p1:bb):Option Int :=
 (th F p0).bind fun r1 =>
 if (!r1)=true then
  some 1
 else
 if p1.Found=true then
  (D4 F p0 p1.cT).bind fun sD =>
  ((DZ F p0 p1.cT).bind fun gV=>if (!gV)=true then some true else some (sD.1 != p1.jH)).bind fun w15 =>
  if w15=true then
   some 10
  else
  Dp F p0 p1
 else
 if (((p1.cT.length:Int) != 0) || (p1.jH != 0))=true then
  some 10
 else
 Dp F p0 p1
def Ds (dU:Int→(List (Int × Int))→Option Bool) (m3:List (Int × Bool)) (n6:Int) (x9:List Int) (fH:Int→(List (Int × Int))→(List (Int × Bool))→Option Bool) (n10:Int) (m11:List (Int × Int)) (m12:List (Int × Bool)):Option Bool :=
 if (decide (n10<(x9.length:Int)))=true then
  (idx x9 n10).bind fun e7 =>
  if ((eR m3 e7).getD false)=true then
   fH (i64 (n10+1)) m11 (et m12 e7 true)
  else
  if ((eR m11 e7).isSome && (((eR m11 e7).getD 0) != n6))=true then
   some false
  else
  fH (i64 (n10+1)) (et m11 e7 n6) m12
 else
 if ((m12.length:Int) != (m3.length:Int))=true then
  some false
 else
 dU (i64 (n6+1)) m11
def wQ (dU:Int→(List (Int × Int))→Option Bool) (m3:List (Int × Bool)) (n6:Int) (x9:List Int):Nat→Int→(List (Int × Int))→(List (Int × Bool))→Option Bool
 | 0=>fun _ _ _=>.none
 | n+1=>Ds dU m3 n6 x9 (wQ dU m3 n6 x9 n)
def Dr (F:Nat) (p0:List (List Int)) (m3:List (Int × Bool)) (dU:Int→(List (Int × Int))→Option Bool) (n6:Int) (m7:List (Int × Int)):Option Bool :=
 if (decide (n6<(p0.length:Int)))=true then
  (idx p0 n6).bind fun x9 =>
  wQ dU m3 n6 x9 F 0 m7 ([]:List (Int × Bool))
 else
 some true
def AW (F:Nat) (p0:List (List Int)) (m3:List (Int × Bool)):Nat→Int→(List (Int × Int))→Option Bool
 | 0=>fun _ _=>.none
 | n+1=>Dr F p0 m3 (AW F p0 m3 n)
def Dq (F:Nat) (p0:List (List Int)) (p1:List Int) (aE:Int→(List (Int × Bool))→Option Bool) (n2:Int) (m3:List (Int × Bool)):Option Bool :=
 if (decide (n2<(p1.length:Int)))=true then
  (idx p1 n2).bind fun x5 =>
  aE (i64 (n2+1)) (et m3 x5 true)
 else
 AW F p0 m3 F 0 ([]:List (Int × Int))
def wP (F:Nat) (p0:List (List Int)) (p1:List Int):Nat→Int→(List (Int × Bool))→Option Bool
 | 0=>fun _ _=>.none
 | n+1=>Dq F p0 p1 (wP F p0 p1 n)
def xb (F:Nat) (p0:List (List Int)) (p1:List Int):Option Bool :=
 if (decide ((p0.length:Int)<2))=true then
  some true
 else
 wP F p0 p1 F 0 ([]:List (Int × Bool))
def DG (F:Nat) (r3:bV × List ah × Bool) (r5:fG × ax) (pn:List Int) (gV:cZ × Int) (j9:List bb × Int) (fH:Int→(List (List Int))→Option Bool) (n27:Int) (Jj:List (List Int)):Option Bool :=
 if (decide (n27<(j9.1.length:Int)))=true then
  (idx j9.1 n27).bind fun UZ =>
  (zH F (r3.2.1.length:Int) UZ.cT).bind fun jV =>
  if (!jV)=true then
   some false
  else
  (tR F r3.2.1 UZ.cT 3 n27).bind fun yw =>
  (if (yw.2 != 0)=true then some true else (tP F yw.1).bind fun GO=>if (!GO)=true then some true else (zx F (fG.mk 1 3 r5.1.aY r5.1.bh r5.1.b5 r5.1.aR ([]:List Int) r5.1.bC r5.1.aV) r3.2.1 UZ.cT yw.1).bind fun PG=>some (!PG)).bind fun w35 =>
  if w35=true then
   some false
  else
  (app Jj [UZ.cT]).bind fun v41 =>
  fH (i64 (n27+1)) v41
 else
 (if ((pn.length:Int) == 0)=true then if ((j9.1.length:Int) == 0)=true then some true else (idx j9.1 0).bind fun Ot=>(wY F gV.1 Ot).bind fun zJ=>some (zJ != 0) else some false).bind fun w43 =>
 if w43=true then
  some false
 else
 (if (decide ((j9.1.length:Int) > 0))=true then (xb F Jj pn).bind fun r52=>if r52=true then (qq F).bind fun r54=>some r54 else some false else some false).bind fun w50 =>
 some w50
def Em (F:Nat) (r3:bV × List ah × Bool) (r5:fG × ax) (pn:List Int) (gV:cZ × Int) (j9:List bb × Int):Nat→Int→(List (List Int))→Option Bool
 | 0=>fun _ _=>.none
 | n+1=>DG F r3 r5 pn gV j9 (Em F r3 r5 pn gV j9 n)
def zl (F:Nat) (r3:bV × List ah × Bool) (r5:fG × ax) (l9:List Int) (pn:List Int) (lJ:List Int) (n15:Int):Option Bool :=
 (DQ F (fG.mk 1 3 r5.1.aY r5.1.bh r5.1.b5 r5.1.aR ([]:List Int) r5.1.bC r5.1.aV) r3.2.1 l9).bind fun gV =>
 (jI (ax.mk lJ n15) 1 3).bind fun jk =>
 (DM F gV.1 pn jk.1).bind fun j9 =>
 if ((gV.2 != 0) || (j9.2 != 0))=true then
  (if (gV.2 == 0)=true then if (j9.2 == 10)=true then (qq F).bind fun En=>some En else some false else some false).bind fun w23 =>
  some w23
 else
 Em F r3 r5 pn gV j9 F 0 ([]:List (List Int))
def DE (F:Nat) (r3:bV × List ah × Bool) (r5:fG × ax) (aE:Int→(List Int)→Int→(List Int)→Option Bool) (n6:Int) (l7:List Int) (n8:Int) (l9:List Int):Option Bool :=
 if (decide (n6<(r3.2.1.length:Int)))=true then
  (gw (ax.mk l7 n8) 9).bind fun dS =>
  (app l9 [dS.1]).bind fun v12 =>
  aE (i64 (n6+1)) dS.2.L dS.2.At v12
 else
 (if (decide ((r3.2.1.length:Int) > 0))=true then (nC (ax.mk l7 n8) 3).bind fun Rz=>some (Rz.1,Rz.2.L,Rz.2.At) else some (false,l7,n8)).bind fun N5 =>
 if N5.1=true then
  (gw (ax.mk N5.2.1 N5.2.2) (r3.2.1.length:Int)).bind fun Nr =>
  zl F r3 r5 l9 [Nr.1] Nr.2.L Nr.2.At
 else
 zl F r3 r5 l9 ([]:List Int) N5.2.1 N5.2.2
def El (F:Nat) (r3:bV × List ah × Bool) (r5:fG × ax):Nat→Int→(List Int)→Int→(List Int)→Option Bool
 | 0=>fun _ _ _ _=>.none
 | n+1=>DE F r3 r5 (El F r3 r5 n)
def Ic (F:Nat) (p0:List Int):Option Bool :=
 (ni p0).bind fun r1 =>
 (RX F r1 24 0).bind fun r2 =>
 (DH F r2.1 100 0 9).bind fun r3 =>
 if (!r3.2.2)=true then
  some false
 else
 (Kt F r2.2 0).bind fun r5 =>
 El F r3 r5 F 0 r5.2.L r5.2.At ([]:List Int)
end
end Go.Sh
