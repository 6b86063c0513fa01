import Derived.Test.YtiinmaihgmfniaaGreatZLb
import Derived.Test.YtiinmaihgmfniaaGreatZLc
set_option linter.unusedVariables false
set_option linter.unusedSimpArgs false
set_option maxRecDepth 100000
set_option maxHeartbeats 1000000
namespace Go.Sh
open Go.L
noncomputable section
structure aU where
 L:List Int
 At:Int
 deriving DecidableEq,Inhabited
def aU.lv (x:aU):LV:=.agg [(lvl 1 LV.I) x.L,.I x.At]
theorem aU.ok:oR 2 aU.lv:=fun _=>⟨rfl,rfl,rfl⟩
structure bE where
 Time:Int
 Source:Int
 Seq:Int
 deriving DecidableEq,Inhabited
def bE.lv (x:bE):LV:=.agg [.I x.Time,.I x.Source,.I x.Seq]
theorem bE.ok:oR 3 bE.lv:=fun _=>⟨rfl,rfl,rfl⟩
structure vF where
 Source:Int
 Seq:Int
 deriving DecidableEq,Inhabited
def vF.lv (x:vF):LV:=.agg [.I x.Source,.I x.Seq]
theorem vF.ok:oR 2 vF.lv:=fun _=>⟨rfl,rfl,rfl⟩
structure fc where
 Event:vF
 Code:Int
 deriving DecidableEq,Inhabited
def fc.lv (x:fc):LV:=.agg [.I x.Event.Source,.I x.Event.Seq,.I x.Code]
theorem fc.ok:oR 3 fc.lv:=fun _=>⟨rfl,rfl,rfl⟩
structure ag where
 Kind:Int
 Max:Int
 gi:Int
 cU:Int
 Options:Int
 Key:Int
 deriving DecidableEq,Inhabited
def ag.lv (x:ag):LV:=.agg [.I x.Kind,.I x.Max,.I x.gi,.I x.cU,.I x.Options,.I x.Key]
theorem ag.ok:oR 6 ag.lv:=fun _=>⟨rfl,rfl,rfl⟩
structure ab where
 ID:Int
 Version:Int
 cn:ByteArray
 aK:List ag
 aL:List Int
 deriving DecidableEq,Inhabited
def ab.lv (x:ab):LV:=.agg [.I x.ID,.I x.Version,LV.str x.cn,(lvl 6 ag.lv) x.aK,(lvl 1 LV.I) x.aL]
theorem ab.ok:oR 5 ab.lv:=fun _=>⟨rfl,rfl,rfl⟩
structure aS where
 ID:Int
 Version:Int
 deriving DecidableEq,Inhabited
def aS.lv (x:aS):LV:=.agg [.I x.ID,.I x.Version]
theorem aS.ok:oR 2 aS.lv:=fun _=>⟨rfl,rfl,rfl⟩
structure ba where
 ak:bE
 Kind:Int
 Item:ab
 Ref:aS
 Form:Int
 deriving DecidableEq,Inhabited
def ba.lv (x:ba):LV:=.agg [.I x.ak.Time,.I x.ak.Source,.I x.ak.Seq,.I x.Kind,.I x.Item.ID,.I x.Item.Version,LV.str x.Item.cn,(lvl 6 ag.lv) x.Item.aK,(lvl 1 LV.I) x.Item.aL,.I x.Ref.ID,.I x.Ref.Version,.I x.Form]
theorem ba.ok:oR 12 ba.lv:=fun _=>⟨rfl,rfl,rfl⟩
structure bI where
 Version:Int
 Form:Int
 Time:Int
 deriving DecidableEq,Inhabited
def bI.lv (x:bI):LV:=.agg [.I x.Version,.I x.Form,.I x.Time]
theorem bI.ok:oR 3 bI.lv:=fun _=>⟨rfl,rfl,rfl⟩
structure ay where
 ID:Int
 ah:List ab
 au:List Bool
 Uses:List bI
 ao:Bool
 deriving DecidableEq,Inhabited
def ay.lv (x:ay):LV:=.agg [.I x.ID,(lvl 5 ab.lv) x.ah,(lvl 1 LV.bool) x.au,(lvl 3 bI.lv) x.Uses,LV.bool x.ao]
theorem ay.ok:oR 5 ay.lv:=fun _=>⟨rfl,rfl,rfl⟩
structure bx where
 aa:List ay
 deriving DecidableEq,Inhabited
def bx.lv (x:bx):LV:=.agg [(lvl 5 ay.lv) x.aa]
abbrev KI (p:bx):Nat × LE:=(811,.box [.arr 812 p.aa.length])
theorem bx.ok:oR 1 bx.lv:=fun _=>⟨rfl,rfl,rfl⟩
structure cK where
 Index:Int
 bQ:Int
 cO:Int
 deriving DecidableEq,Inhabited
def cK.lv (x:cK):LV:=.agg [.I x.Index,.I x.bQ,.I x.cO]
theorem cK.ok:oR 3 cK.lv:=fun _=>⟨rfl,rfl,rfl⟩
structure bG where
 Code:Int
 Items:List aS
 deriving DecidableEq,Inhabited
def bG.lv (x:bG):LV:=.agg [.I x.Code,(lvl 2 aS.lv) x.Items]
theorem bG.ok:oR 2 bG.lv:=fun _=>⟨rfl,rfl,rfl⟩
structure qR where
 bf:Int
 bB:Int
 bg:Int
 bC:Int
 b6:List cK
 aP:List cK
 bb:List Int
 bm:List bG
 aV:Int
 deriving DecidableEq,Inhabited
def qR.lv (x:qR):LV:=.agg [.I x.bf,.I x.bB,.I x.bg,.I x.bC,(lvl 3 cK.lv) x.b6,(lvl 3 cK.lv) x.aP,(lvl 1 LV.I) x.bb,(lvl 2 bG.lv) x.bm,.I x.aV]
theorem qR.ok:oR 9 qR.lv:=fun _=>⟨rfl,rfl,rfl⟩
structure aq where
 cu:List Int
 bQ:Int
 cO:Int
 deriving DecidableEq,Inhabited
def aq.lv (x:aq):LV:=.agg [(lvl 1 LV.I) x.cu,.I x.bQ,.I x.cO]
theorem aq.ok:oR 3 aq.lv:=fun _=>⟨rfl,rfl,rfl⟩
structure eX where
 al:List Int
 Rows:List aq
 deriving DecidableEq,Inhabited
def eX.lv (x:eX):LV:=.agg [(lvl 1 LV.I) x.al,(lvl 3 aq.lv) x.Rows]
theorem eX.ok:oR 2 eX.lv:=fun _=>⟨rfl,rfl,rfl⟩
structure aM where
 Kind:Int
 Var:Int
 Zero:Int
 One:Int
 Row:Int
 pa:Int
 Den:Int
 deriving DecidableEq,Inhabited
def aM.lv (x:aM):LV:=.agg [.I x.Kind,.I x.Var,.I x.Zero,.I x.One,.I x.Row,.I x.pa,.I x.Den]
theorem aM.ok:oR 7 aM.lv:=fun _=>⟨rfl,rfl,rfl⟩
structure bk where
 Found:Bool
 cN:List Int
 iy:Int
 jt:List aM
 deriving DecidableEq,Inhabited
def bk.lv (x:bk):LV:=.agg [LV.bool x.Found,(lvl 1 LV.I) x.cN,.I x.iy,(lvl 7 aM.lv) x.jt]
theorem bk.ok:oR 4 bk.lv:=fun _=>⟨rfl,rfl,rfl⟩
structure nA where
 Code:Int
 Variant:Int
 aK:List ag
 deriving DecidableEq,Inhabited
def nA.lv (x:nA):LV:=.agg [.I x.Code,.I x.Variant,(lvl 6 ag.lv) x.aK]
theorem nA.ok:oR 3 nA.lv:=fun _=>⟨rfl,rfl,rfl⟩
structure fG where
 first:Int
 eI:Bool
 deriving DecidableEq,Inhabited
def fG.lv (x:fG):LV:=.agg [.I x.first,LV.bool x.eI]
theorem fG.ok:oR 2 fG.lv:=fun _=>⟨rfl,rfl,rfl⟩
def lQ (p0:List Int):Option aU :=
 if (decide ((p0.length:Int) > 600))=true then
  (Q5 p0 0 600).bind fun v2 =>
  some (aU.mk v2 0)
 else
 some (aU.mk p0 0)
def Hg (p0:aU):Option (Int × aU) :=
 if (decide (p0.At ≥ (p0.L.length:Int)))=true then
  some (0,p0)
 else
 (idx p0.L (i64 ((i64 (p0.At+1)) - 1))).bind fun x2 =>
 some (x2,(aU.mk p0.L (i64 (p0.At+1))))
def lP (p0:Int) (p1:Int):Option Int :=
 if (decide (p1<1))=true then
  some 0
 else
 (QX p0 p1).bind fun v2 =>
 if (decide (v2<0))=true then
  some (i64 (v2+p1))
 else
 some v2
def jD (p0:aU) (p1:Int):Option (Int × aU) :=
 (Hg p0).bind fun r1 =>
 (lP r1.1 p1).bind fun r2 =>
 some (r2,r1.2)
def lA (p0:aU) (p1:Int) (p2:Int):Option (Int × aU) :=
 (jD p0 (i64 ((i64 (p2 - p1))+1))).bind fun r1 =>
 some ((i64 (p1+r1.1)),r1.2)
def vG (p0:aU) (p1:List Int):Option (Int × aU) :=
 (jD p0 (p1.length:Int)).bind fun r1 =>
 (idx p1 r1.1).bind fun x2 =>
 some (x2,r1.2)
def Hj  (aH:ByteArray→Int→(List Int)→Int→Option (ByteArray × aU)) (t2:ByteArray) (n3:Int) (l4:List Int) (n5:Int):Option (ByteArray × aU) :=
 if (decide (n3 > 0))=true then
  (jD (aU.mk l4 n5) 3).bind fun r7 =>
  (yK t2 (Du [(IntKind.u8.wrap (i64 (97+r7.1)))])).bind fun t8 =>
  aH t8 (i64 (n3 - 1)) r7.2.L r7.2.At
 else
 some (t2,(aU.mk l4 n5))
def Hi :Nat→ByteArray→Int→(List Int)→Int→Option (ByteArray × aU)
 | 0=>fun _ _ _ _=>.none
 | n+1=>Hj  (Hi n)
def Hh (F:Nat) (p0:aU) (p1:Int):Option (ByteArray × aU) :=
 (lA p0 1 p1).bind fun r1 =>
 Hi F (ByteArray.mk #[]) r1.1 r1.2.L r1.2.At
def qS (p0:aU) (p1:Int):Option (Bool × aU) :=
 (jD p0 p1).bind fun r1 =>
 some ((r1.1 == (i64 (p1 - 1))),r1.2)
def y7 (p0:aU):Option (Int × aU) :=
 (vG p0 [(-1),0,1,2,31,32,99,100,200,201,9999,10000,1000000,1000001,1152921504606846976,1152921504606846977,(-1152921504606846976),9223372036854775807,(-9223372036854775808)]).bind fun r1 =>
 some (r1.1,r1.2)
def Fk (p1:Int) (r2:Int × aU) (r3:Int × aU) (l4:List Int) (n5:Int) (n6:Int) (n7:Int) (n8:Int) (n9:Int):Option (ag × aU) :=
 (if (decide (p1 > 0))=true then (qS (aU.mk l4 n5) p1).bind fun kC=>some (kC.1,kC.2.L,kC.2.At) else some (false,l4,n5)).bind fun xS =>
 if xS.1=true then
  (jD (aU.mk xS.2.1 xS.2.2) 6).bind fun fp =>
  if (fp.1 == 0)=true then
   (lA fp.2 (-1) 3).bind fun qK =>
   some ((ag.mk qK.1 n7 r2.1 r3.1 n8 n9),qK.2)
  else
  if (fp.1 == 1)=true then
   (vG fp.2 [0,40,41,(-1)]).bind fun er =>
   some ((ag.mk n6 er.1 r2.1 r3.1 n8 n9),er.2)
  else
  if (fp.1 == 2)=true then
   (y7 fp.2).bind fun rr =>
   some ((ag.mk n6 n7 rr.1 r3.1 n8 n9),rr.2)
  else
  if (fp.1 == 3)=true then
   (y7 fp.2).bind fun sA =>
   some ((ag.mk n6 n7 r2.1 sA.1 n8 n9),sA.2)
  else
  if (fp.1 == 4)=true then
   (lA fp.2 (-1) 6).bind fun yG =>
   some ((ag.mk n6 n7 r2.1 r3.1 yG.1 n9),yG.2)
  else
  (lA fp.2 (-1) 5).bind fun pT =>
  some ((ag.mk n6 n7 r2.1 r3.1 n8 pT.1),pT.2)
 else
 some ((ag.mk n6 n7 r2.1 r3.1 n8 n9),(aU.mk xS.2.1 xS.2.2))
def Fj (p0:aU) (p1:Int):Option (ag × aU) :=
 (lA p0 1 12).bind fun r1 =>
 (jD r1.2 4).bind fun r2 =>
 (jD r2.2 3).bind fun r3 =>
 (jD r3.2 3).bind fun oH =>
 if (oH.1 == 0)=true then
  (lA oH.2 2 5).bind fun ek =>
  (jD ek.2 ek.1).bind fun NG =>
  (lA NG.2 1 3).bind fun ga =>
  Fk p1 r2 r3 ga.2.L ga.2.At 2 ga.1 ek.1 NG.1
 else
 Fk p1 r2 r3 oH.2.L oH.2.At 1 r1.1 0 0
def He (p1:Int) (p2:Int) (p3:Int) (t2:ByteArray) (l7:List ag) (fH:Int→(List Int)→Int→(List Int)→Option (ab × aU)) (n11:Int) (wR:List Int) (n13:Int) (dD:List Int):Option (ab × aU) :=
 if (decide (n11<6))=true then
  (if (n11 != p1)=true then (qS (aU.mk wR n13) 8).bind fun er=>some (er.1,er.2.L,er.2.At) else some (false,wR,n13)).bind fun Fb =>
  if Fb.1=true then
   (app dD [n11]).bind fun v23 =>
   fH (i64 (n11+1)) Fb.2.1 Fb.2.2 v23
  else
  fH (i64 (n11+1)) Fb.2.1 Fb.2.2 dD
 else
 (if (decide (p3 > 0))=true then (qS (aU.mk wR n13) p3).bind fun oH=>some (oH.1,oH.2.L,oH.2.At) else some (false,wR,n13)).bind fun qN =>
 if qN.1=true then
  (jD (aU.mk qN.2.1 qN.2.2) 7).bind fun ek =>
  if (ek.1 == 0)=true then
   (y7 ek.2).bind fun ga =>
   some ((ab.mk ga.1 p2 t2 l7 dD),ga.2)
  else
  if (ek.1 == 1)=true then
   (vG ek.2 [0,8,9,(-1)]).bind fun nC =>
   some ((ab.mk p1 nC.1 t2 l7 dD),nC.2)
  else
  if (ek.1 == 2)=true then
   (jD ek.2 3).bind fun oJ =>
   (idx ([(ByteArray.mk #[]),(ByteArray.mk #[116,97,98,9]),(ByteArray.mk #[48,49,50,51,52,53,54,55,56,57,48,49,50,51,52,53,54,55,56,57,48,49,50,51,52,53,54,55,56,57,48,49,50,51,52,53,54,55,56,57,120])]) oJ.1).bind fun G7 =>
   some ((ab.mk p1 p2 G7 l7 dD),oJ.2)
  else
  if (ek.1 == 3)=true then
   some ((ab.mk p1 p2 t2 [] dD),ek.2)
  else
  if (ek.1 == 4)=true then
   (Fj ek.2 1).bind fun vC =>
   (app l7 [vC.1]).bind fun DT =>
   some ((ab.mk p1 p2 t2 DT dD),vC.2)
  else
  if (ek.1 == 5)=true then
   (vG ek.2 [0,p1,(-1),10000,3]).bind fun vD =>
   (app dD [vD.1]).bind fun v45 =>
   some ((ab.mk p1 p2 t2 l7 v45),vD.2)
  else
  (idx l7 0).bind fun YS =>
  (idx l7 0).bind fun YT =>
  (idx l7 0).bind fun YU =>
  (idx l7 0).bind fun YV =>
  (idx l7 0).bind fun YW =>
  (idx l7 0).bind fun YX =>
  (app l7 [YS,YT,YU,YV,YW,YX]).bind fun DU =>
  some ((ab.mk p1 p2 t2 DU dD),ek.2)
 else
 some ((ab.mk p1 p2 t2 l7 dD),(aU.mk qN.2.1 qN.2.2))
def Fh (p1:Int) (p2:Int) (p3:Int) (t2:ByteArray) (l7:List ag):Nat→Int→(List Int)→Int→(List Int)→Option (ab × aU)
 | 0=>fun _ _ _ _=>.none
 | n+1=>He p1 p2 p3 t2 l7 (Fh p1 p2 p3 t2 l7 n)
def Hd (F:Nat) (p1:Int) (p2:Int) (p3:Int) (t2:ByteArray) (aH:Int→(List Int)→Int→(List ag)→Option (ab × aU)) (n4:Int) (l5:List Int) (n6:Int) (l7:List ag):Option (ab × aU) :=
 if (decide (n4 > 0))=true then
  (Fj (aU.mk l5 n6) 0).bind fun r9 =>
  (app l7 [r9.1]).bind fun v10 =>
  aH (i64 (n4 - 1)) r9.2.L r9.2.At v10
 else
 Fh p1 p2 p3 t2 l7 F 0 l5 n6 ([]:List Int)
def Hc (F:Nat) (p1:Int) (p2:Int) (p3:Int) (t2:ByteArray):Nat→Int→(List Int)→Int→(List ag)→Option (ab × aU)
 | 0=>fun _ _ _ _=>.none
 | n+1=>Hd F p1 p2 p3 t2 (Hc F p1 p2 p3 t2 n)
def Hb (F:Nat) (p0:aU) (p1:Int) (p2:Int) (p3:Int):Option (ab × aU) :=
 (Hh F p0 3).bind fun r1 =>
 (yK (ByteArray.mk #[113]) r1.1).bind fun t2 =>
 (lA r1.2 1 3).bind fun r3 =>
 Hc F p1 p2 p3 t2 F r3.1 r3.2.L r3.2.At ([]:List ag)
def N7 (p0:aU) (p1:Int):Option (bE × aU) :=
 (lA p0 0 24).bind fun r1 =>
 (lA r1.2 0 3).bind fun r2 =>
 (lA r2.2 0 9).bind fun r3 =>
 (if (decide (p1 > 0))=true then (qS r3.2 p1).bind fun r9=>some (r9.1,r9.2.L,r9.2.At) else some (false,r3.2.L,r3.2.At)).bind fun w7 =>
 if w7.1=true then
  (jD (aU.mk w7.2.1 w7.2.2) 3).bind fun da =>
  if (da.1 == 0)=true then
   (y7 da.2).bind fun ew =>
   some ((bE.mk ew.1 r2.1 r3.1),ew.2)
  else
  if (da.1 == 1)=true then
   (y7 da.2).bind fun kC =>
   some ((bE.mk r1.1 kC.1 r3.1),kC.2)
  else
  (y7 da.2).bind fun iz =>
  some ((bE.mk r1.1 r2.1 iz.1),iz.2)
 else
 some ((bE.mk r1.1 r2.1 r3.1),(aU.mk w7.2.1 w7.2.2))
def vE (aH:Int→(List Int)→Int→(List Int)→(List ba)→Option (List ba × aU)) (n3:Int) (l7:List ba) (n18:Int) (t20:ByteArray) (oW:List ag) (oX:List Int) (n25:Int) (k7:List Int) (n27:Int) (n28:Int) (n29:Int) (n30:Int) (n31:Int) (n32:Int) (n33:Int) (RG:List Int) (n35:Int):Option (List ba × aU) :=
 (app l7 [(ba.mk (bE.mk n27 n28 n29) n30 (ab.mk n18 n31 t20 oW oX) (aS.mk n32 n33) n25)]).bind fun Ri =>
 (qS (aU.mk RG n35) 8).bind fun oJ =>
 if oJ.1=true then
  (jD oJ.2 (Ri.length:Int)).bind fun NH =>
  (idx Ri NH.1).bind fun YR =>
  (app Ri [YR]).bind fun v41 =>
  aH (i64 (n3 - 1)) NH.2.L NH.2.At k7 v41
 else
 aH (i64 (n3 - 1)) oJ.2.L oJ.2.At k7 Ri
def Ff (aH:Int→(List Int)→Int→(List Int)→(List ba)→Option (List ba × aU)) (p2:Int) (n3:Int) (l7:List ba) (ea:Int × aU) (da:Int × aU) (Qo:List Int) (n16:Int) (n17:Int) (n18:Int) (n19:Int) (t20:ByteArray) (oW:List ag) (oX:List Int) (n23:Int) (n24:Int) (n25:Int) (k7:List Int):Option (List ba × aU) :=
 (if (decide (p2 > 0))=true then (qS (aU.mk Qo n16) p2).bind fun RJ=>some (RJ.1,RJ.2.L,RJ.2.At) else some (false,Qo,n16)).bind fun B9 =>
 if B9.1=true then
  (jD (aU.mk B9.2.1 B9.2.2) 5).bind fun rY =>
  if (rY.1 == 0)=true then
   (lA rY.2 (-1) 8).bind fun B2 =>
   vE aH n3 l7 n18 t20 oW oX n25 k7 (i64 ((l7.length:Int)+ea.1)) da.1 (l7.length:Int) B2.1 n19 n23 n24 B2.2.L B2.2.At
  else
  if (rY.1 == 1)=true then
   (lA rY.2 (-1) 3).bind fun B3 =>
   vE aH n3 l7 n18 t20 oW oX n25 k7 (i64 ((l7.length:Int)+ea.1)) da.1 (l7.length:Int) n17 n19 n23 B3.1 B3.2.L B3.2.At
  else
  if (rY.1 == 2)=true then
   (jD rY.2 7).bind fun B4 =>
   vE aH n3 l7 n18 t20 oW oX n25 k7 (i64 ((l7.length:Int)+ea.1)) da.1 (l7.length:Int) n17 n19 B4.1 n24 B4.2.L B4.2.At
  else
  if (rY.1 == 3)=true then
   (N7 rY.2 3).bind fun rZ =>
   vE aH n3 l7 n18 t20 oW oX n25 k7 rZ.1.Time rZ.1.Source rZ.1.Seq n17 n19 n23 n24 rZ.2.L rZ.2.At
  else
  (lA rY.2 0 3).bind fun B5 =>
  vE aH n3 l7 n18 t20 oW oX n25 k7 (i64 ((l7.length:Int)+ea.1)) da.1 (l7.length:Int) n17 B5.1 n23 n24 B5.2.L B5.2.At
 else
 vE aH n3 l7 n18 t20 oW oX n25 k7 (i64 ((l7.length:Int)+ea.1)) da.1 (l7.length:Int) n17 n19 n23 n24 B9.2.1 B9.2.2
def Fg (aH:Int→(List Int)→Int→(List Int)→(List ba)→Option (List ba × aU)) (F:Nat) (p2:Int) (n3:Int) (l6:List Int) (l7:List ba) (r9:Int × aU) (ea:Int × aU) (da:Int × aU) (ct:Int × aU) (M5:Int):Option (List ba × aU) :=
 (idx l6 r9.1).bind fun KY =>
 (idx l6 r9.1).bind fun ZY =>
 (idx (l6.set r9.1.toNat (min (i64 (KY+1)) 9)) r9.1).bind fun Vx =>
 (Hb F ct.2 r9.1 Vx p2).bind fun sC =>
 Ff aH p2 n3 l7 ea da sC.2.L sC.2.At M5 sC.1.ID sC.1.Version sC.1.cn sC.1.aK sC.1.aL 0 0 0 (l6.set r9.1.toNat (min (i64 (KY+1)) 9))
def Ha (F:Nat) (p2:Int) (aH:Int→(List Int)→Int→(List Int)→(List ba)→Option (List ba × aU)) (n3:Int) (l4:List Int) (n5:Int) (l6:List Int) (l7:List ba):Option (List ba × aU) :=
 if (decide (n3 > 0))=true then
  (jD (aU.mk l4 n5) 5).bind fun r9 =>
  (jD r9.2 2).bind fun ea =>
  (jD ea.2 2).bind fun da =>
  (vG da.2 [3,4,4,2,5,6]).bind fun fx =>
  (idx l6 r9.1).bind fun gF =>
  (jD fx.2 4).bind fun ct =>
  ((idx l6 r9.1).bind fun Vw=>if (Vw == 0)=true then some true else some (fx.1 == 2)).bind fun VZ =>
  if VZ=true then
   (idx l6 r9.1).bind fun V2 =>
   if (V2 == 0)=true then
    Fg aH F p2 n3 l6 l7 r9 ea da ct 1
   else
   Fg aH F p2 n3 l6 l7 r9 ea da ct 2
  else
  Ff aH p2 n3 l7 ea da ct.2.L ct.2.At fx.1 0 0 (ByteArray.mk #[]) ([]:List ag) ([]:List Int) r9.1 (max 1 gF) ct.1 l6
 else
 some (l7,(aU.mk l4 n5))
def G9 (F:Nat) (p2:Int):Nat→Int→(List Int)→Int→(List Int)→(List ba)→Option (List ba × aU)
 | 0=>fun _ _ _ _ _=>.none
 | n+1=>Ha F p2 (G9 F p2 n)
def N8 (F:Nat) (p0:aU) (p1:Int) (p2:Int):Option (List ba × aU) :=
 (vB (0:Int) 5).bind fun v1 =>
 (lA p0 0 p1).bind fun r2 =>
 G9 F p2 F r2.1 r2.2.L r2.2.At v1 ([]:List ba)
def JO (p0:List ba) (p1:(ba→Option bE)) (p2:(ba→ba→Option Bool)) (aH:Int→(List bE)→(List Int)→(List (bE × Int))→Option (List bE × List Int)) (n3:Int) (l4:List bE) (l5:List Int) (m6:List (bE × Int)):Option (List bE × List Int) :=
 if (decide (n3<(p0.length:Int)))=true then
  (idx p0 n3).bind fun x8 =>
  (p1 x8).bind fun r9 =>
  (idx l4 n3).bind fun lr =>
  (idx (l4.set n3.toNat r9) n3).bind fun lu =>
  if (!((ib m6 lu).isSome))=true then
   (idx (l4.set n3.toNat r9) n3).bind fun gF =>
   aH (i64 (n3+1)) (l4.set n3.toNat r9) l5 (eW m6 gF n3)
  else
  (idx p0 ((ib m6 lu).getD 0)).bind fun pQ =>
  (p2 pQ x8).bind fun kC =>
  if (!kC)=true then
   (idx l5 n3).bind fun gA =>
   aH (i64 (n3+1)) (l4.set n3.toNat r9) (l5.set n3.toNat 1) m6
  else
  aH (i64 (n3+1)) (l4.set n3.toNat r9) l5 m6
 else
 some (l4,l5)
def C2 (p0:List ba) (p1:(ba→Option bE)) (p2:(ba→ba→Option Bool)):Nat→Int→(List bE)→(List Int)→(List (bE × Int))→Option (List bE × List Int)
 | 0=>fun _ _ _ _=>.none
 | n+1=>JO p0 p1 p2 (C2 p0 p1 p2 n)
def J3 (F:Nat) (p0:List ba) (p1:(ba→Option bE)) (p2:(ba→ba→Option Bool)):Option (List bE × List Int) :=
 (vB ((bE.mk 0 0 0):bE) (p0.length:Int)).bind fun v1 =>
 (vB (0:Int) (p0.length:Int)).bind fun v2 =>
 C2 p0 p1 p2 F 0 v1 v2 ([]:List (bE × Int))
def ES (p0:bE):Option Bool :=
 some ((decide (p0.Time ≥ 0)) && ((decide (p0.Time≤1000000)) && ((decide (p0.Source ≥ 0)) && ((decide (p0.Source≤99)) && ((decide (p0.Seq ≥ 0)) && (decide (p0.Seq≤9999)))))))
def cmp_isNaN_int (p0:Int):Option Bool :=
 some (p0 != p0)
def cW (p0:Int) (p1:Int):Option Int :=
 (cmp_isNaN_int p0).bind fun r1 =>
 (cmp_isNaN_int p1).bind fun r2 =>
 if r1=true then
  if r2=true then
   some 0
  else
  some (-1)
 else
 if r2=true then
  some 1
 else
 if (decide (p0<p1))=true then
  some (-1)
 else
 if (decide (p0 > p1))=true then
  some 1
 else
 some 0
def fO (p0:List Int) (aH:Int→Option Int) (n1:Int):Option Int :=
 if (decide (n1<(p0.length:Int)))=true then
  (idx p0 n1).bind fun x3 =>
  if (x3 != 0)=true then
   some x3
  else
  aH (i64 (n1+1))
 else
 some 0
def fi (p0:List Int):Nat→Int→Option Int
 | 0=>fun _=>.none
 | n+1=>fO p0 (fi p0 n)
def ia (F:Nat) (p0:List Int):Option Int :=
 fi p0 F 0
def Gn (F:Nat) (p0:bE) (p1:bE):Option Int :=
 (cW p0.Source p1.Source).bind fun r1 =>
 (cW p0.Seq p1.Seq).bind fun r2 =>
 (ia F [r1,r2]).bind fun r3 =>
 some r3
def xo (F:Nat) (p0:Int) (p1:Int) (c0:List bE):Option Int :=
 (idx c0 p0).bind fun x1 =>
 (idx c0 p1).bind fun x2 =>
 (Gn F x1 x2).bind fun r3 =>
 (cW p0 p1).bind fun r4 =>
 (ia F [r3,r4]).bind fun r5 =>
 some r5
def AV (F:Nat) (p0:List bE) (p1:List Int) (l8:List Int) (fH:Int→(List fG)→Option (List fG)) (n9:Int) (iW:List fG):Option (List fG) :=
 if (decide (n9<(l8.length:Int)))=true then
  (idx l8 n9).bind fun iB =>
  (if (decide ((i64 ((iW.length:Int) - 1))<0))=true then some true else (idx iW (i64 ((iW.length:Int) - 1))).bind fun mY=>(idx p0 mY.first).bind fun gA=>(idx p0 iB).bind fun Rl=>(Gn F gA Rl).bind fun qK=>some (qK != 0)).bind fun Mr =>
  if Mr=true then
   (app iW [(fG.mk iB false)]).bind fun v21 =>
   fH (i64 (n9+1)) v21
  else
  (idx iW (i64 ((iW.length:Int) - 1))).bind fun YP =>
  ((idx p0 YP.first).bind fun Ca=>(idx p0 iB).bind fun V1=>if (!(decide (Ca=V1)))=true then some true else (idx p1 YP.first).bind fun ZW=>(idx p1 iB).bind fun ZX=>some (ZW != ZX)).bind fun VY =>
  if VY=true then
   (idx iW (i64 ((iW.length:Int) - 1))).bind fun RM =>
   fH (i64 (n9+1)) (iW.set ((i64 ((iW.length:Int) - 1)).toNat) (fG.mk RM.first true))
  else
  fH (i64 (n9+1)) iW
 else
 some iW
def xm (F:Nat) (p0:List bE) (p1:List Int) (l8:List Int):Nat→Int→(List fG)→Option (List fG)
 | 0=>fun _ _=>.none
 | n+1=>AV F p0 p1 l8 (xm F p0 p1 l8 n)
def AU (F:Nat) (p0:List bE) (p1:List Int) (aH:Int→(List Int)→Option (List fG)) (n1:Int) (l2:List Int):Option (List fG) :=
 if (decide (n1<(p0.length:Int)))=true then
  (idx p0 n1).bind fun x4 =>
  (ES x4).bind fun r5 =>
  if r5=true then
   (app l2 [n1]).bind fun v7 =>
   aH (i64 (n1+1)) v7
  else
  aH (i64 (n1+1)) l2
 else
 (qs (fun a0 a1=>xo F a0 a1 p0) l2).bind fun l8 =>
 xm F p0 p1 l8 F 0 ([]:List fG)
def xl (F:Nat) (p0:List bE) (p1:List Int):Nat→Int→(List Int)→Option (List fG)
 | 0=>fun _ _=>.none
 | n+1=>AU F p0 p1 (xl F p0 p1 n)
def ER (F:Nat) (p0:List bE) (p1:List Int):Option (List fG) :=
 xl F p0 p1 F 0 ([]:List Int)
def Bi (F:Nat) (p0:bE) (p1:bE):Option Int :=
 (cW p0.Time p1.Time).bind fun r1 =>
 (cW p0.Source p1.Source).bind fun r2 =>
 (cW p0.Seq p1.Seq).bind fun r3 =>
 (ia F [r1,r2,r3]).bind fun r4 =>
 some r4
def xf (F:Nat) (p0:Int) (p1:Int) (c0:List bE):Option Int :=
 (idx c0 p0).bind fun x1 =>
 (idx c0 p1).bind fun x2 =>
 (Bi F x1 x2).bind fun r3 =>
 some r3
def Aq (F:Nat) (p0:List bE) (r2:List fG) (aH:Int→(List Int)→Option (List Int × Int)) (n3:Int) (l4:List Int):Option (List Int × Int) :=
 if (decide (n3<(r2.length:Int)))=true then
  (idx r2 n3).bind fun x6 =>
  if (!x6.eI)=true then
   (app l4 [x6.first]).bind fun v8 =>
   aH (i64 (n3+1)) v8
  else
  aH (i64 (n3+1)) l4
 else
 if (decide ((l4.length:Int) > 300))=true then
  some ([],3)
 else
 (qs (fun a0 a1=>xf F a0 a1 p0) l4).bind fun iW =>
 some (iW,0)
def xb (F:Nat) (p0:List bE) (r2:List fG):Nat→Int→(List Int)→Option (List Int × Int)
 | 0=>fun _ _=>.none
 | n+1=>Aq F p0 r2 (xb F p0 r2 n)
def xk (F:Nat) (p0:List bE) (p1:List Int):Option (List Int × Int) :=
 if ((p0.length:Int) != (p1.length:Int))=true then
  some ([],1)
 else
 (ER F p0 p1).bind fun r2 =>
 xb F p0 r2 F 0 ([]:List Int)
def JQ (F:Nat) (p0:List ba) (p1:(ba→Option bE)) (p2:(ba→ba→Option Bool)):Option (List Int × Int) :=
 (J3 F p0 p1 p2).bind fun r1 =>
 (xk F r1.1 r1.2).bind fun r2 =>
 some (r2.1,r2.2)
def EI (p0:ba):Option bE :=
 some p0.ak
def JP (p0:List ag) (p1:List ag) (aH:Int→Option Bool) (n2:Int):Option Bool :=
 if (decide (n2<(p0.length:Int)))=true then
  (idx p0 n2).bind fun x4 =>
  (idx p1 n2).bind fun x5 =>
  if (!(decide (x4=x5)))=true then
   some false
  else
  aH (i64 (n2+1))
 else
 some true
def Gk (p0:List ag) (p1:List ag):Nat→Int→Option Bool
 | 0=>fun _=>.none
 | n+1=>JP p0 p1 (Gk p0 p1 n)
def J5 (F:Nat) (p0:List ag) (p1:List ag):Option Bool :=
 if ((p0.length:Int) != (p1.length:Int))=true then
  some false
 else
 Gk p0 p1 F 0
def JS (p0:List Int) (p1:List Int) (aH:Int→Option Bool) (n2:Int):Option Bool :=
 if (decide (n2<(p0.length:Int)))=true then
  (idx p0 n2).bind fun x4 =>
  (idx p1 n2).bind fun x5 =>
  if (x4 != x5)=true then
   some false
  else
  aH (i64 (n2+1))
 else
 some true
def Gm (p0:List Int) (p1:List Int):Nat→Int→Option Bool
 | 0=>fun _=>.none
 | n+1=>JS p0 p1 (Gm p0 p1 n)
def Ap (F:Nat) (p0:List Int) (p1:List Int):Option Bool :=
 if ((p0.length:Int) != (p1.length:Int))=true then
  some false
 else
 Gm p0 p1 F 0
def Bg (F:Nat) (p0:ab) (p1:ab):Option Bool :=
 (if (p0.ID == p1.ID)=true then if (p0.Version == p1.Version)=true then if (decide (p0.cn=p1.cn))=true then (J5 F p0.aK p1.aK).bind fun r6=>if r6=true then (Ap F p0.aL p1.aL).bind fun r8=>some r8 else some false else some false else some false else some false).bind fun w2 =>
 some w2
def jZ (F:Nat) (p0:ba) (p1:ba):Option Bool :=
 (if (decide (p0.ak=p1.ak))=true then if (p0.Kind == p1.Kind)=true then if (decide (p0.Ref=p1.Ref))=true then if (p0.Form == p1.Form)=true then (Bg F p0.Item p1.Item).bind fun r7=>some r7 else some false else some false else some false else some false).bind fun w2 =>
 some w2
def yE (p0:ab):Option ab :=
 (app [] p0.aK).bind fun v1 =>
 (app [] p0.aL).bind fun v2 =>
 some (ab.mk p0.ID p0.Version p0.cn v1 v2)
def Ar (p0:List ba) (r1:List Int × Int) (aH:Int→(List ba)→Option (List ba × Int)) (n4:Int) (l5:List ba):Option (List ba × Int) :=
 if (decide (n4<(r1.1.length:Int)))=true then
  (idx r1.1 n4).bind fun x7 =>
  (idx p0 x7).bind fun x8 =>
  (idx l5 n4).bind fun x9 =>
  (idx p0 x7).bind fun lr =>
  (yE lr.Item).bind fun da =>
  (idx (l5.set n4.toNat x8) n4).bind fun iB =>
  aH (i64 (n4+1)) ((l5.set n4.toNat x8).set n4.toNat (ba.mk iB.ak iB.Kind da iB.Ref iB.Form))
 else
 some (l5,0)
def Df (p0:List ba) (r1:List Int × Int):Nat→Int→(List ba)→Option (List ba × Int)
 | 0=>fun _ _=>.none
 | n+1=>Ar p0 r1 (Df p0 r1 n)
def A7 (F:Nat) (p0:List ba):Option (List ba × Int) :=
 (JQ F p0 (fun a0=>EI a0) (fun a0 a1=>jZ F a0 a1)).bind fun r1 =>
 if (r1.2 != 0)=true then
  some ([],r1.2)
 else
 (vB ((ba.mk (bE.mk 0 0 0) 0 (ab.mk 0 0 (ByteArray.mk #[]) [] []) (aS.mk 0 0) 0):ba) (r1.1.length:Int)).bind fun v3 =>
 Df p0 r1 F 0 v3
def xr (p0:Int):Option Bool :=
 some ((decide (p0 ≥ 0)) && (decide (p0≤9999)))
def Ay (p0:ByteArray) (aH:Int→Option Bool) (n1:Int):Option Bool :=
 if (decide (n1<(p0.size:Int)))=true then
  ((Gz p0 n1).bind fun x5=>if (decide (x5<32))=true then some true else (Gz p0 n1).bind fun x7=>some (decide (x7 > 126))).bind fun w4 =>
  if w4=true then
   some false
  else
  aH (i64 (n1+1))
 else
 some true
def Dl (p0:ByteArray):Nat→Int→Option Bool
 | 0=>fun _=>.none
 | n+1=>Ay p0 (Dl p0 n)
def Bc (F:Nat) (p0:ByteArray):Option Bool :=
 Dl p0 F 0
def xn (p0:ag):Option Bool :=
 if ((decide (p0.Max<1)) || ((decide (p0.Max > 40)) || ((decide (p0.gi<0)) || ((decide (p0.gi ≥ 16)) || ((decide (p0.cU<0)) || (decide (p0.cU ≥ 6)))))))=true then
  some false
 else
 if (p0.Kind == 1)=true then
  some ((p0.Options == 0) && (p0.Key == 0))
 else
 if (p0.Kind == 2)=true then
  some ((decide (p0.Options ≥ 2)) && ((decide (p0.Options≤5)) && ((decide (p0.Key ≥ 0)) && (decide (p0.Key<p0.Options)))))
 else
 some false
def J4 (p0:Int) (p1:List Int) (aH:Int→Option Bool) (n1:Int):Option Bool :=
 if (decide (n1<(p1.length:Int)))=true then
  (idx p1 n1).bind fun x3 =>
  ((xr x3).bind fun r6=>if (!r6)=true then some true else if (x3 == p0)=true then some true else if (decide (n1 > 0))=true then (idx p1 (i64 (n1 - 1))).bind fun lr=>some (decide (lr ≥ x3)) else some false).bind fun w5 =>
  if w5=true then
   some false
  else
  aH (i64 (n1+1))
 else
 some true
def Gs (p0:Int) (p1:List Int):Nat→Int→Option Bool
 | 0=>fun _=>.none
 | n+1=>J4 p0 p1 (Gs p0 p1 n)
def AT (F:Nat) (p0:Int) (p1:List Int):Option Bool :=
 Gs p0 p1 F 0
def A6 (F:Nat) (p0:ab) (aH:Int→Option Int) (n17:Int):Option Int :=
 if (decide (n17<(p0.aK.length:Int)))=true then
  (idx p0.aK n17).bind fun RL =>
  (xn RL).bind fun pH =>
  if (!pH)=true then
   some 1
  else
  aH (i64 (n17+1))
 else
 (AT F p0.ID p0.aL).bind fun xE =>
 if (!xE)=true then
  some 9
 else
 some 0
def xq (F:Nat) (p0:ab):Nat→Int→Option Int
 | 0=>fun _=>.none
 | n+1=>A6 F p0 (xq F p0 n)
def rq (F:Nat) (p0:ab):Option Int :=
 ((xr p0.ID).bind fun r3=>if (!r3)=true then some true else if (decide (p0.Version<1))=true then some true else some (decide (p0.Version > 8))).bind fun w2 =>
 if w2=true then
  some 2
 else
 if ((decide ((p0.cn.size:Int) > 40)) || ((decide ((p0.aK.length:Int) > 6)) || (decide ((p0.aL.length:Int) > 8))))=true then
  some 3
 else
 (if (decide (p0.cn=(ByteArray.mk #[])))=true then some true else (Bc F p0.cn).bind fun ct=>some (!ct)).bind fun VX =>
 if VX=true then
  some 7
 else
 if ((p0.aK.length:Int) == 0)=true then
  some 10
 else
 xq F p0 F 0
def VV (p0:List ay) (p1:Int) (p2:(ay→Int→Option Int)) (aH:Int→Int→Option (Int × Bool)) (n1:Int) (n2:Int):Option (Int × Bool) :=
 if (decide (n1<n2))=true then
  (idx p0 (i64 (pK .u64 (IntKind.u64.wrap (i64 (n1+n2))) 1))).bind fun x4 =>
  (p2 x4 p1).bind fun r5 =>
  if (decide (r5<0))=true then
   aH (i64 ((i64 (pK .u64 (IntKind.u64.wrap (i64 (n1+n2))) 1))+1)) n2
  else
  aH n1 (i64 (pK .u64 (IntKind.u64.wrap (i64 (n1+n2))) 1))
 else
 (if (decide (n1<(p0.length:Int)))=true then (idx p0 n1).bind fun lr=>(p2 lr p1).bind fun da=>some (da == 0) else some false).bind fun w8 =>
 some (n1,w8)
def RI (p0:List ay) (p1:Int) (p2:(ay→Int→Option Int)):Nat→Int→Int→Option (Int × Bool)
 | 0=>fun _ _=>.none
 | n+1=>VV p0 p1 p2 (RI p0 p1 p2 n)
def U5 (F:Nat) (p0:List ay) (p1:Int) (p2:(ay→Int→Option Int)):Option (Int × Bool) :=
 RI p0 p1 p2 F 0 (p0.length:Int)
def uK (p0:ay) (p1:Int):Option Int :=
 (cW p0.ID p1).bind fun r1 =>
 some r1
def xz (F:Nat) (p0:bx) (p1:Int):Option (Int × Bool) :=
 (U5 F p0.aa p1 (fun a0 a1=>uK a0 a1)).bind fun r1 =>
 some (r1.1,r1.2)
def xy (F:Nat) (p0:bx) (p1:ba):Option (Int × bx) :=
 (rq F p1.Item).bind fun r1 =>
 if (r1 != 0)=true then
  some (r1,p0)
 else
 if (p1.Item.Version != 1)=true then
  some (8,p0)
 else
 (xz F p0 p1.Item.ID).bind fun r4 =>
 if r4.2=true then
  some (5,p0)
 else
 if (decide ((p0.aa.length:Int) ≥ 40))=true then
  some (3,p0)
 else
 (yE p1.Item).bind fun r7 =>
 (LI p0.aa r4.1 (ay.mk p1.Item.ID [r7] [false] ([]:List bI) false)).bind fun v8 =>
 some (0,(bx.mk v8))
def uM (F:Nat) (p0:bx) (p1:Int):Option (Option Int) :=
 (xz F p0 p1).bind fun r1 =>
 if (!r1.2)=true then
  some (none:Option Int)
 else
 (idx p0.aa r1.1).bind fun x3 =>
 some (some r1.1)
def xw (F:Nat) (p0:bx) (p1:ba):Option (Int × bx) :=
 (rq F p1.Item).bind fun r1 =>
 if (r1 != 0)=true then
  some (r1,p0)
 else
 (uM F p0 p1.Item.ID).bind fun r3 =>
 qn r3 (
  some (4,p0)) fun j4 =>
 (idx p0.aa j4).bind fun x5 =>
 if (x5.ao || (p1.Item.Version != (i64 ((x5.ah.length:Int)+1))))=true then
  some (8,p0)
 else
 (yE p1.Item).bind fun da =>
 (app x5.ah [da]).bind fun v12 =>
 (app x5.au [false]).bind fun G6 =>
 some (0,(bx.mk (p0.aa.set (j4).toNat (ay.mk x5.ID v12 G6 x5.Uses x5.ao))))
def xv (F:Nat) (p0:bx) (p1:aS):Option (Option Int) :=
 (uM F p0 p1.ID).bind fun r1 =>
 qn r1 (
  some (none:Option Int)) fun j2 =>
 (idx p0.aa j2).bind fun x3 =>
 if ((decide (p1.Version<1)) || (decide (p1.Version > (x3.ah.length:Int))))=true then
  some (none:Option Int)
 else
 some (some j2)
def xu (F:Nat) (p0:bx) (p1:ba):Option (Int × bx) :=
 (xv F p0 p1.Ref).bind fun r1 =>
 qn r1 (
  some (4,p0)) fun j2 =>
 (idx p0.aa j2).bind fun x3 =>
 if x3.ao=true then
  some (8,p0)
 else
 (idx x3.au (i64 (p1.Ref.Version - 1))).bind fun x7 =>
 if x7=true then
  some (5,p0)
 else
 (idx x3.au (i64 (p1.Ref.Version - 1))).bind fun x9 =>
 some (0,(bx.mk (p0.aa.set (j2).toNat (ay.mk x3.ID x3.ah (x3.au.set ((i64 (p1.Ref.Version - 1)).toNat) true) x3.Uses x3.ao))))
def ET (p0:bI) (c0:ba):Option Bool :=
 some (p0.Form == c0.Form)
def JB (p0:List bI) (p1:(bI→Option Bool)) (aH:Int→Option Int) (n1:Int):Option Int :=
 if (decide (n1<(p0.length:Int)))=true then
  (idx p0 n1).bind fun x3 =>
  (p1 x3).bind fun r4 =>
  if r4=true then
   some n1
  else
  aH (i64 (n1+1))
 else
 some (-1)
def C0 (p0:List bI) (p1:(bI→Option Bool)):Nat→Int→Option Int
 | 0=>fun _=>.none
 | n+1=>JB p0 p1 (C0 p0 p1 n)
def Eu (F:Nat) (p0:List bI) (p1:(bI→Option Bool)):Option Int :=
 C0 p0 p1 F 0
def Gj (F:Nat) (p0:List bI) (p1:(bI→Option Bool)):Option Bool :=
 (Eu F p0 p1).bind fun r1 =>
 some (decide (r1 ≥ 0))
def lD (F:Nat) (p0:bx) (p1:ba):Option (Int × bx) :=
 (xv F p0 p1.Ref).bind fun r1 =>
 qn r1 (
  some (4,p0)) fun j2 =>
 (idx p0.aa j2).bind fun x3 =>
 (if x3.ao=true then some true else (idx x3.au (i64 (p1.Ref.Version - 1))).bind fun x9=>some (!x9)).bind fun w7 =>
 if w7=true then
  some (8,p0)
 else
 (Gj F x3.Uses (fun a0=>ET a0 p1)).bind fun da =>
 if da=true then
  some (5,p0)
 else
 if (decide ((x3.Uses.length:Int) ≥ 300))=true then
  some (3,p0)
 else
 (app x3.Uses [(bI.mk p1.Ref.Version p1.Form p1.ak.Time)]).bind fun DS =>
 some (0,(bx.mk (p0.aa.set (j2).toNat (ay.mk x3.ID x3.ah x3.au DS x3.ao))))
def Bj (F:Nat) (p0:bx) (p1:ba) (c0:Bool):Option (Int × bx) :=
 (uM F p0 p1.Ref.ID).bind fun r1 =>
 qn r1 (
  some (4,p0)) fun j2 =>
 (idx p0.aa j2).bind fun x3 =>
 if (x3.ao == c0)=true then
  some (8,p0)
 else
 some (0,(bx.mk (p0.aa.set (j2).toNat (ay.mk x3.ID x3.ah x3.au x3.Uses c0))))
def Np (F:Nat) (p0:Bool):Option Bool :=
 some p0
def c8:List (Int × Nat):=[(1,1),(2,2),(3,3),(4,4),(5,5),(6,6)]
def Ny (F:Nat):Option (List (Int × Nat)) :=
 some (eW (eW (eW (eW (eW (eW ([]:List (Int × Nat)) 1 1) 2 2) 3 3) 4 4) 5 5) 6 6)
def A8 (F:Nat) (p1:Int) (r1:List ba × Int) (aH:Int→(List fc)→(List ay)→Option (bx × List fc × Int)) (n3:Int) (l4:List fc) (l5:List ay):Option (bx × List fc × Int) :=
 if (decide (n3<(r1.1.length:Int)))=true then
  (idx r1.1 n3).bind fun x7 =>
  if (decide (x7.ak.Time > p1))=true then
   some ((bx.mk l5),l4,0)
  else
  if (x7.Kind == 1)=true then
   (xy F (bx.mk l5) x7).bind fun da =>
   if (da.1 != 0)=true then
    (app l4 [(fc.mk (vF.mk x7.ak.Source x7.ak.Seq) da.1)]).bind fun G6 =>
    aH (i64 (n3+1)) G6 da.2.aa
   else
   aH (i64 (n3+1)) l4 da.2.aa
  else
  if (x7.Kind == 2)=true then
   (xw F (bx.mk l5) x7).bind fun iz =>
   if (iz.1 != 0)=true then
    (app l4 [(fc.mk (vF.mk x7.ak.Source x7.ak.Seq) iz.1)]).bind fun YM =>
    aH (i64 (n3+1)) YM iz.2.aa
   else
   aH (i64 (n3+1)) l4 iz.2.aa
  else
  if (x7.Kind == 3)=true then
   (xu F (bx.mk l5) x7).bind fun er =>
   if (er.1 != 0)=true then
    (app l4 [(fc.mk (vF.mk x7.ak.Source x7.ak.Seq) er.1)]).bind fun v23 =>
    aH (i64 (n3+1)) v23 er.2.aa
   else
   aH (i64 (n3+1)) l4 er.2.aa
  else
  if (x7.Kind == 4)=true then
   (lD F (bx.mk l5) x7).bind fun k9 =>
   if (k9.1 != 0)=true then
    (app l4 [(fc.mk (vF.mk x7.ak.Source x7.ak.Seq) k9.1)]).bind fun v28 =>
    aH (i64 (n3+1)) v28 k9.2.aa
   else
   aH (i64 (n3+1)) l4 k9.2.aa
  else
  if (x7.Kind == 5)=true then
   (Bj F (bx.mk l5) x7 true).bind fun ek =>
   if (ek.1 != 0)=true then
    (app l4 [(fc.mk (vF.mk x7.ak.Source x7.ak.Seq) ek.1)]).bind fun v33 =>
    aH (i64 (n3+1)) v33 ek.2.aa
   else
   aH (i64 (n3+1)) l4 ek.2.aa
  else
  if (x7.Kind == 6)=true then
   (Bj F (bx.mk l5) x7 false).bind fun xF =>
   if (xF.1 != 0)=true then
    (app l4 [(fc.mk (vF.mk x7.ak.Source x7.ak.Seq) xF.1)]).bind fun YN =>
    aH (i64 (n3+1)) YN xF.2.aa
   else
   aH (i64 (n3+1)) l4 xF.2.aa
  else
  if (2 != 0)=true then
   (app l4 [(fc.mk (vF.mk x7.ak.Source x7.ak.Seq) 2)]).bind fun v41 =>
   aH (i64 (n3+1)) v41 l5
  else
  aH (i64 (n3+1)) l4 l5
 else
 some ((bx.mk l5),l4,0)
def qp (F:Nat) (p1:Int) (r1:List ba × Int):Nat→Int→(List fc)→(List ay)→Option (bx × List fc × Int)
 | 0=>fun _ _ _=>.none
 | n+1=>A8 F p1 r1 (qp F p1 r1 n)
def iq (F:Nat) (p0:List ba) (p1:Int):Option (bx × List fc × Int) :=
 (A7 F p0).bind fun r1 =>
 if (r1.2 != 0)=true then
  some ((bx.mk []),[],r1.2)
 else
 qp F p1 r1 F 0 ([]:List fc) ([]:List ay)
def J9 (p0:ay) (fH:Int→Option Bool) (n15:Int):Option Bool :=
 if (decide (n15<(p0.Uses.length:Int)))=true then
  (idx p0.Uses n15).bind fun gA =>
  if ((decide (gA.Version<1)) || (decide (gA.Version > (p0.ah.length:Int))))=true then
   some false
  else
  fH (i64 (n15+1))
 else
 some true
def Da (p0:ay):Nat→Int→Option Bool
 | 0=>fun _=>.none
 | n+1=>J9 p0 (Da p0 n)
def J8 (F:Nat) (p0:ay) (aH:Int→Option Bool) (n6:Int):Option Bool :=
 if (decide (n6<(p0.ah.length:Int)))=true then
  (idx p0.ah n6).bind fun x8 =>
  ((rq F x8).bind fun da=>if (da != 0)=true then some true else if (x8.ID != p0.ID)=true then some true else some (x8.Version != (i64 (n6+1)))).bind fun N1 =>
  if N1=true then
   some false
  else
  aH (i64 (n6+1))
 else
 Da p0 F 0
def Gt (F:Nat) (p0:ay):Nat→Int→Option Bool
 | 0=>fun _=>.none
 | n+1=>J8 F p0 (Gt F p0 n)
def xg (F:Nat) (p0:ay):Option Bool :=
 if ((decide ((p0.ah.length:Int)<1)) || ((decide ((p0.ah.length:Int) > 8)) || (((p0.au.length:Int) != (p0.ah.length:Int)) || (decide ((p0.Uses.length:Int) > 300)))))=true then
  some false
 else
 Gt F p0 F 0
def A4 (F:Nat) (p0:bx) (aH:Int→Option Bool) (n2:Int):Option Bool :=
 if (decide (n2<(p0.aa.length:Int)))=true then
  (idx p0.aa n2).bind fun x4 =>
  (if (decide (n2 > 0))=true then (idx p0.aa (i64 (n2 - 1))).bind fun x8=>if (decide (x8.ID ≥ x4.ID))=true then some true else (xg F x4).bind fun ea=>some (!ea) else (xg F x4).bind fun da=>some (!da)).bind fun w6 =>
  if w6=true then
   some false
  else
  aH (i64 (n2+1))
 else
 some true
def xp (F:Nat) (p0:bx):Nat→Int→Option Bool
 | 0=>fun _=>.none
 | n+1=>A4 F p0 (xp F p0 n)
def xB (F:Nat) (p0:bx):Option Bool :=
 if (decide ((p0.aa.length:Int) > 40))=true then
  some false
 else
 xp F p0 F 0
def A2 (p0:bI) (c0:Int) (c1:Int):Option Bool :=
 some (decide (p0.Time > (i64 (c0 - c1))))
def AD (aH:Int→(List aS)→Option (List aS)) (n10:Int) (jk:List aS) (gF:ay) (fH:Int→Option (List aS)) (n19:Int):Option (List aS) :=
 if (decide (n19 ≥ 0))=true then
  (idx gF.au n19).bind fun qO =>
  if qO=true then
   (app jk [(aS.mk gF.ID (i64 (n19+1)))]).bind fun v23 =>
   aH (i64 (n10+1)) v23
  else
  fH (i64 (n19 - 1))
 else
 aH (i64 (n10+1)) jk
def Dp (aH:Int→(List aS)→Option (List aS)) (n10:Int) (jk:List aS) (gF:ay):Nat→Int→Option (List aS)
 | 0=>fun _=>.none
 | n+1=>AD aH n10 jk gF (Dp aH n10 jk gF n)
def AB (F:Nat) (p0:bx) (p1:Int) (p2:Int) (p3:Int) (aH:Int→(List aS)→Option (List aS)) (n10:Int) (jk:List aS):Option (List aS) :=
 if (decide (n10<(p0.aa.length:Int)))=true then
  (idx p0.aa n10).bind fun gF =>
  if (gF.ao || (decide ((gF.Uses.length:Int) > p3)))=true then
   aH (i64 (n10+1)) jk
  else
  (Gj F gF.Uses (fun a0=>A2 a0 p1 p2)).bind fun fp =>
  if fp=true then
   aH (i64 (n10+1)) jk
  else
  Dp aH n10 jk gF F (i64 ((gF.au.length:Int) - 1))
 else
 some jk
def Dn (F:Nat) (p0:bx) (p1:Int) (p2:Int) (p3:Int):Nat→Int→(List aS)→Option (List aS)
 | 0=>fun _ _=>.none
 | n+1=>AB F p0 p1 p2 p3 (Dn F p0 p1 p2 p3 n)
def rW (F:Nat) (p0:bx) (p1:Int) (p2:Int) (p3:Int):Option (List aS) :=
 ((xB F p0).bind fun r3=>if (!r3)=true then some true else if (decide (p1<0))=true then some true else if (decide (p1 > 1000000))=true then some true else if (decide (p2<0))=true then some true else if (decide (p2 > 1000000))=true then some true else some (decide (p3<0))).bind fun w2 =>
 if w2=true then
  some []
 else
 Dn F p0 p1 p2 p3 F 0 ([]:List aS)
def AP (p0:bx) (p1:aS) (aH:Int→Option (ab × Bool)) (n1:Int):Option (ab × Bool) :=
 if (decide (n1<(p0.aa.length:Int)))=true then
  (idx p0.aa n1).bind fun x3 =>
  if (x3.ID != p1.ID)=true then
   aH (i64 (n1+1))
  else
  if ((decide (p1.Version<1)) || (decide (p1.Version > (x3.ah.length:Int))))=true then
   some ((ab.mk 0 0 (ByteArray.mk #[]) [] []),false)
  else
  (idx x3.ah (i64 (p1.Version - 1))).bind fun x8 =>
  (yE x8).bind fun r9 =>
  some (r9,true)
 else
 some ((ab.mk 0 0 (ByteArray.mk #[]) [] []),false)
def xj (p0:bx) (p1:aS):Nat→Int→Option (ab × Bool)
 | 0=>fun _=>.none
 | n+1=>AP p0 p1 (xj p0 p1 n)
def xt (F:Nat) (p0:bx) (p1:aS):Option (ab × Bool) :=
 xj p0 p1 F 0
def JZ (F:Nat) (r1:bx × List fc × Int) (r2:List aS) (aH:Int→(List ab)→Option (bx × List ab × Bool)) (n3:Int) (l4:List ab):Option (bx × List ab × Bool) :=
 if (decide (n3<(r2.length:Int)))=true then
  (idx r2 n3).bind fun x6 =>
  (xt F r1.1 x6).bind fun r7 =>
  (if (!r7.2)=true then some true else (idx r2 n3).bind fun lu=>if (r7.1.ID != lu.ID)=true then some true else (idx r2 n3).bind fun gF=>some (r7.1.Version != gF.Version)).bind fun w9 =>
  if w9=true then
   some (r1.1,[],false)
  else
  (app l4 [r7.1]).bind fun YL =>
  aH (i64 (n3+1)) YL
 else
 some (r1.1,l4,(r1.2.2 == 0))
def A3 (F:Nat) (r1:bx × List fc × Int) (r2:List aS):Nat→Int→(List ab)→Option (bx × List ab × Bool)
 | 0=>fun _ _=>.none
 | n+1=>JZ F r1 r2 (A3 F r1 r2 n)
def AN (F:Nat) (p0:List ba) (p1:Int) (p2:Int) (p3:Int):Option (bx × List ab × Bool) :=
 (iq F p0 1000000).bind fun r1 =>
 (rW F r1.1 p1 p2 p3).bind fun r2 =>
 A3 F r1 r2 F 0 ([]:List ab)
def yD (p0:Int):Option Bool :=
 some ((decide (p0 ≥ 0)) && (decide (p0≤200)))
def Jx (p0:cK) (c0:cK):Option Bool :=
 some (p0.Index == c0.Index)
def QT (p0:List cK) (p1:(cK→Option Bool)) (aH:Int→Option Int) (n1:Int):Option Int :=
 if (decide (n1<(p0.length:Int)))=true then
  (idx p0 n1).bind fun x3 =>
  (p1 x3).bind fun r4 =>
  if r4=true then
   some n1
  else
  aH (i64 (n1+1))
 else
 some (-1)
def L3 (p0:List cK) (p1:(cK→Option Bool)):Nat→Int→Option Int
 | 0=>fun _=>.none
 | n+1=>QT p0 p1 (L3 p0 p1 n)
def Jw (F:Nat) (p0:List cK) (p1:(cK→Option Bool)):Option Int :=
 L3 p0 p1 F 0
def Jv (F:Nat) (p0:List cK) (p1:(cK→Option Bool)):Option Bool :=
 (Jw F p0 p1).bind fun r1 =>
 some (decide (r1 ≥ 0))
def L5 (F:Nat) (p0:List cK) (p1:Int) (aH:Int→Option Int) (n1:Int):Option Int :=
 if (decide (n1<(p0.length:Int)))=true then
  (idx p0 n1).bind fun x3 =>
  (if (decide (x3.Index<0))=true then some true else if (decide (x3.Index ≥ p1))=true then some true else (yD x3.bQ).bind fun r8=>if (!r8)=true then some true else (yD x3.cO).bind fun ea=>some (!ea)).bind fun w5 =>
  if w5=true then
   some 2
  else
  (Q5 p0 0 n1).bind fun v12 =>
  (Jv F v12 (fun a0=>Jx a0 x3)).bind fun ew =>
  if ew=true then
   some 5
  else
  aH (i64 (n1+1))
 else
 some 0
def JV (F:Nat) (p0:List cK) (p1:Int):Nat→Int→Option Int
 | 0=>fun _=>.none
 | n+1=>L5 F p0 p1 (JV F p0 p1 n)
def Ag (F:Nat) (p0:List cK) (p1:Int):Option Int :=
 JV F p0 p1 F 0
def Ew (p0:qR) (aH:Int→Option Int) (n22:Int):Option Int :=
 if (decide (n22<(p0.bb.length:Int)))=true then
  (idx p0.bb (i64 (n22 - 1))).bind fun V0 =>
  (idx p0.bb n22).bind fun Ca =>
  if (decide (V0 ≥ Ca))=true then
   some 9
  else
  aH (i64 (n22+1))
 else
 some 0
def AE (p0:qR):Nat→Int→Option Int
 | 0=>fun _=>.none
 | n+1=>Ew p0 (AE p0 n)
def A5 (F:Nat) (p0:qR):Option Int :=
 ((yD p0.bf).bind fun r3=>if (!r3)=true then some true else (yD p0.bB).bind fun r5=>if (!r5)=true then some true else (yD p0.bg).bind fun r7=>if (!r7)=true then some true else (yD p0.bC).bind fun r9=>if (!r9)=true then some true else if (decide (p0.aV<0))=true then some true else some (decide (p0.aV > 12))).bind fun w2 =>
 if w2=true then
  some 2
 else
 if ((decide ((p0.b6.length:Int) > 16)) || ((decide ((p0.aP.length:Int) > 6)) || ((decide ((p0.bb.length:Int) > 12)) || (decide ((p0.bm.length:Int) > 4)))))=true then
  some 3
 else
 (Ag F p0.b6 16).bind fun xD =>
 if (xD != 0)=true then
  some xD
 else
 (Ag F p0.aP 6).bind fun pH =>
 if (pH != 0)=true then
  some pH
 else
 AE p0 F 1
def AF (p0:List ab) (p1:Int) (p2:Int) (p3:(ab→Option Int)) (aH:Int→(List Int)→Option aq) (n2:Int) (l3:List Int):Option aq :=
 if (decide (n2<(p0.length:Int)))=true then
  (idx p0 n2).bind fun x5 =>
  (p3 x5).bind fun r6 =>
  (idx l3 n2).bind fun x7 =>
  aH (i64 (n2+1)) (l3.set n2.toNat r6)
 else
 some (aq.mk l3 p1 p2)
def Dq (p0:List ab) (p1:Int) (p2:Int) (p3:(ab→Option Int)):Nat→Int→(List Int)→Option aq
 | 0=>fun _ _=>.none
 | n+1=>AF p0 p1 p2 p3 (Dq p0 p1 p2 p3 n)
def sz (F:Nat) (p0:List ab) (p1:Int) (p2:Int) (p3:(ab→Option Int)):Option aq :=
 (vB (0:Int) (p0.length:Int)).bind fun v1 =>
 Dq p0 p1 p2 p3 F 0 v1
def AZ (p0:ab):Option Int :=
 some 1
def AH (p0:List ag) (aH:Int→Int→Option Int) (n1:Int) (n2:Int):Option Int :=
 if (decide (n2<(p0.length:Int)))=true then
  (idx p0 n2).bind fun x4 =>
  aH (i64 (n1+x4.Max)) (i64 (n2+1))
 else
 some n1
def Bp (p0:List ag):Nat→Int→Int→Option Int
 | 0=>fun _ _=>.none
 | n+1=>AH p0 (Bp p0 n)
def uJ (F:Nat) (p0:List ag):Option Int :=
 Bp p0 F 0 0
def uN (F:Nat) (p0:ab):Option Int :=
 (rq F p0).bind fun r1 =>
 if (r1 != 0)=true then
  some 0
 else
 (uJ F p0.aK).bind fun r3 =>
 some r3
def G5 (p0:List aq) (p1:List aq):Option (List aq) :=
 (app p0 p1).bind fun v1 =>
 some v1
def JD (p0:ag) (c0:cK):Option Bool :=
 some (p0.gi == c0.Index)
def Jy (p0:ab) (p1:(ag→Option Bool)) (aH:Int→Int→Option Int) (n1:Int) (n2:Int):Option Int :=
 if (decide (n2<(p0.aK.length:Int)))=true then
  (idx p0.aK n2).bind fun x4 =>
  (p1 x4).bind fun r5 =>
  if r5=true then
   aH (i64 (n1+x4.Max)) (i64 (n2+1))
  else
  aH n1 (i64 (n2+1))
 else
 some n1
def Ex (p0:ab) (p1:(ag→Option Bool)):Nat→Int→Int→Option Int
 | 0=>fun _ _=>.none
 | n+1=>Jy p0 p1 (Ex p0 p1 n)
def EG (F:Nat) (p0:ab) (p1:(ag→Option Bool)):Option Int :=
 Ex p0 p1 F 0 0
def JH (F:Nat) (p0:ab) (c0:cK):Option Int :=
 (EG F p0 (fun a0=>JD a0 c0)).bind fun r1 =>
 some r1
def JE (p0:ag) (c0:cK):Option Bool :=
 some (p0.cU == c0.Index)
def JI (F:Nat) (p0:ab) (c0:cK):Option Int :=
 (EG F p0 (fun a0=>JE a0 c0)).bind fun r1 =>
 some r1
def Bh (p0:Bool):Option Int :=
 if p0=true then
  some 1
 else
 some 0
def JJ (p0:ab) (c0:Int):Option Int :=
 (Bh (p0.ID == c0)).bind fun r1 =>
 some r1
def JU (p0:List Int) (p1:Int) (aH:Int→Option Int) (n1:Int):Option Int :=
 if (decide (n1<(p0.length:Int)))=true then
  (idx p0 n1).bind fun x3 =>
  if (p1 == x3)=true then
   some n1
  else
  aH (i64 (n1+1))
 else
 some (-1)
def AG (p0:List Int) (p1:Int):Nat→Int→Option Int
 | 0=>fun _=>.none
 | n+1=>JU p0 p1 (AG p0 p1 n)
def EA (F:Nat) (p0:List Int) (p1:Int):Option Int :=
 AG p0 p1 F 0
def Gl (F:Nat) (p0:List Int) (p1:Int):Option Bool :=
 (EA F p0 p1).bind fun r1 =>
 some (decide (r1 ≥ 0))
def xC (F:Nat) (p0:ab) (p1:ab):Option Bool :=
 ((rq F p0).bind fun r3=>if (r3 != 0)=true then some true else (rq F p1).bind fun r5=>if (r5 != 0)=true then some true else some (p0.ID == p1.ID)).bind fun w2 =>
 if w2=true then
  some false
 else
 ((Gl F p0.aL p1.ID).bind fun ea=>if ea=true then some true else (Gl F p1.aL p0.ID).bind fun fx=>some fx).bind fun w9 =>
 some w9
def JN (aH:Int→(List aq)→Option (List aq)) (F:Nat) (p1:List ab) (n1:Int) (fH:Int→(List aq)→Option (List aq)) (n4:Int) (l5:List aq):Option (List aq) :=
 if (decide (n4<(p1.length:Int)))=true then
  ((idx p1 n1).bind fun x9=>(idx p1 n4).bind fun lr=>if (x9.ID != lr.ID)=true then (idx p1 n1).bind fun iB=>(idx p1 n4).bind fun gF=>(xC F iB gF).bind fun ct=>some (!ct) else some false).bind fun w8 =>
  if w8=true then
   fH (i64 (n4+1)) l5
  else
  (vB (0:Int) (p1.length:Int)).bind fun y5 =>
  (idx y5 n1).bind fun gA =>
  (idx (y5.set n1.toNat 1) n4).bind fun Rl =>
  (G5 l5 [(aq.mk ((y5.set n1.toNat 1).set n4.toNat 1) 0 1)]).bind fun qK =>
  fH (i64 (n4+1)) qK
 else
 aH (i64 (n1+1)) l5
def C1 (aH:Int→(List aq)→Option (List aq)) (F:Nat) (p1:List ab) (n1:Int):Nat→Int→(List aq)→Option (List aq)
 | 0=>fun _ _=>.none
 | n+1=>JN aH F p1 n1 (C1 aH F p1 n1 n)
def JM (F:Nat) (p1:List ab) (aH:Int→(List aq)→Option (List aq)) (n1:Int) (l2:List aq):Option (List aq) :=
 if (decide (n1<(p1.length:Int)))=true then
  C1 aH F p1 n1 F (i64 (n1+1)) l2
 else
 some l2
def L4 (F:Nat) (p1:List ab):Nat→Int→(List aq)→Option (List aq)
 | 0=>fun _ _=>.none
 | n+1=>JM F p1 (L4 F p1 n)
def J1 (F:Nat) (p0:List aq) (p1:List ab):Option (List aq) :=
 L4 F p1 F 0 p0
def JT (p0:List aS) (p1:aS) (aH:Int→Option Int) (n1:Int):Option Int :=
 if (decide (n1<(p0.length:Int)))=true then
  (idx p0 n1).bind fun x3 =>
  if (decide (p1=x3))=true then
   some n1
  else
  aH (i64 (n1+1))
 else
 some (-1)
def Az (p0:List aS) (p1:aS):Nat→Int→Option Int
 | 0=>fun _=>.none
 | n+1=>JT p0 p1 (Az p0 p1 n)
def Ez (F:Nat) (p0:List aS) (p1:aS):Option Int :=
 Az p0 p1 F 0
def JY (F:Nat) (p0:List aS) (p1:aS):Option Bool :=
 (Ez F p0 p1).bind fun r1 =>
 some (decide (r1 ≥ 0))
def EK (F:Nat) (p0:ab) (c0:bG):Option Int :=
 (JY F c0.Items (aS.mk p0.ID p0.Version)).bind fun r1 =>
 (Bh r1).bind fun r2 =>
 some r2
def Aw (F:Nat) (p0:qR) (p1:List ab) (QV:Int→(List aq)→Option (List aq × Int)) (n31:Int) (sY:List aq):Option (List aq × Int) :=
 if (decide (n31<(p0.bm.length:Int)))=true then
  (idx p0.bm n31).bind fun Fe =>
  (sz F p1 0 p0.aV (fun a0=>EK F a0 Fe)).bind fun nC =>
  (G5 sY [nC]).bind fun xF =>
  QV (i64 (n31+1)) xF
 else
 if (decide ((sY.length:Int) > 60))=true then
  some ([],3)
 else
 some (sY,0)
def Dj (F:Nat) (p0:qR) (p1:List ab):Nat→Int→(List aq)→Option (List aq × Int)
 | 0=>fun _ _=>.none
 | n+1=>Aw F p0 p1 (Dj F p0 p1 n)
def ED (F:Nat) (p0:qR) (p1:List ab) (QU:Int→(List aq)→Option (List aq × Int)) (n24:Int) (BZ:List aq):Option (List aq × Int) :=
 if (decide (n24<(p0.bb.length:Int)))=true then
  (idx p0.bb n24).bind fun N3 =>
  (sz F p1 1 1 (fun a0=>JJ a0 N3)).bind fun pT =>
  (G5 BZ [pT]).bind fun oH =>
  QU (i64 (n24+1)) oH
 else
 (J1 F BZ p1).bind fun EU =>
 Dj F p0 p1 F 0 EU
def AS (F:Nat) (p0:qR) (p1:List ab):Nat→Int→(List aq)→Option (List aq × Int)
 | 0=>fun _ _=>.none
 | n+1=>ED F p0 p1 (AS F p0 p1 n)
def EC (F:Nat) (p0:qR) (p1:List ab) (rv:Int→(List aq)→Option (List aq × Int)) (n18:Int) (zT:List aq):Option (List aq × Int) :=
 if (decide (n18<(p0.aP.length:Int)))=true then
  (idx p0.aP n18).bind fun qO =>
  (sz F p1 qO.bQ qO.cO (fun a0=>JI F a0 qO)).bind fun xE =>
  (G5 zT [xE]).bind fun rr =>
  rv (i64 (n18+1)) rr
 else
 AS F p0 p1 F 0 zT
def AR (F:Nat) (p0:qR) (p1:List ab):Nat→Int→(List aq)→Option (List aq × Int)
 | 0=>fun _ _=>.none
 | n+1=>EC F p0 p1 (AR F p0 p1 n)
def EB (F:Nat) (p0:qR) (p1:List ab) (fH:Int→(List aq)→Option (List aq × Int)) (n12:Int) (zR:List aq):Option (List aq × Int) :=
 if (decide (n12<(p0.b6.length:Int)))=true then
  (idx p0.b6 n12).bind fun pR =>
  (sz F p1 pR.bQ pR.cO (fun a0=>JH F a0 pR)).bind fun iz =>
  (G5 zR [iz]).bind fun fp =>
  fH (i64 (n12+1)) fp
 else
 AR F p0 p1 F 0 zR
def xd (F:Nat) (p0:qR) (p1:List ab):Nat→Int→(List aq)→Option (List aq × Int)
 | 0=>fun _ _=>.none
 | n+1=>EB F p0 p1 (xd F p0 p1 n)
def Av (F:Nat) (p0:qR) (p1:List ab) (aH:Int→Option (List aq × Int)) (n4:Int):Option (List aq × Int) :=
 if (decide (n4<(p1.length:Int)))=true then
  (idx p1 n4).bind fun x6 =>
  (rq F x6).bind fun r7 =>
  if (r7 != 0)=true then
   some ([],1)
  else
  aH (i64 (n4+1))
 else
 (sz F p1 p0.bf p0.bB (fun a0=>AZ a0)).bind fun r9 =>
 (sz F p1 p0.bg p0.bC (fun a0=>uN F a0)).bind fun ea =>
 (G5 ([]:List aq) [r9,ea]).bind fun da =>
 xd F p0 p1 F 0 da
def Di (F:Nat) (p0:qR) (p1:List ab):Nat→Int→Option (List aq × Int)
 | 0=>fun _=>.none
 | n+1=>Av F p0 p1 (Di F p0 p1 n)
def Ba (F:Nat) (p0:qR) (p1:List ab):Option (List aq × Int) :=
 (A5 F p0).bind fun r1 =>
 if (r1 != 0)=true then
  some ([],r1)
 else
 if (decide ((p1.length:Int) > 12))=true then
  some ([],3)
 else
 Di F p0 p1 F 0
def J6 (p2:List Int) (r1:List aq × Int) (aH:Int→Option (eX × Int)) (n4:Int):Option (eX × Int) :=
 if (decide (n4<(p2.length:Int)))=true then
  (idx p2 n4).bind fun x6 =>
  if ((decide (x6<0)) || (decide (x6 > 10000)))=true then
   some ((eX.mk [] []),2)
  else
  aH (i64 (n4+1))
 else
 (app [] p2).bind fun v10 =>
 some ((eX.mk v10 r1.1),0)
def C8 (p2:List Int) (r1:List aq × Int):Nat→Int→Option (eX × Int)
 | 0=>fun _=>.none
 | n+1=>J6 p2 r1 (C8 p2 r1 n)
def Dm (F:Nat) (p0:qR) (p1:List ab) (p2:List Int):Option (eX × Int) :=
 (Ba F p0 p1).bind fun r1 =>
 if (r1.2 != 0)=true then
  some ((eX.mk [] []),r1.2)
 else
 if ((p2.length:Int) != (p1.length:Int))=true then
  some ((eX.mk [] []),1)
 else
 C8 p2 r1 F 0
def JR (p0:List Int) (aH:Int→Option Bool) (n1:Int):Option Bool :=
 if (decide (n1<(p0.length:Int)))=true then
  (idx p0 n1).bind fun x3 =>
  if ((decide (x3<(-10000))) || (decide (x3 > 10000)))=true then
   some false
  else
  aH (i64 (n1+1))
 else
 some true
def C3 (p0:List Int):Nat→Int→Option Bool
 | 0=>fun _=>.none
 | n+1=>JR p0 (C3 p0 n)
def Gr (F:Nat) (p0:List Int):Option Bool :=
 C3 p0 F 0
def Bm (p0:Int):Option Bool :=
 some ((decide (p0 ≥ (-1000000))) && (decide (p0≤1000000)))
def Ao (F:Nat) (p0:eX) (fH:Int→Option Bool) (n10:Int):Option Bool :=
 if (decide (n10<(p0.Rows.length:Int)))=true then
  (idx p0.Rows n10).bind fun iB =>
  (if ((iB.cu.length:Int) != (p0.al.length:Int))=true then some true else (Gr F iB.cu).bind fun iz=>if (!iz)=true then some true else (Bm iB.bQ).bind fun xD=>if (!xD)=true then some true else (Bm iB.cO).bind fun pH=>some (!pH)).bind fun Mr =>
  if Mr=true then
   some false
  else
  fH (i64 (n10+1))
 else
 some true
def Bl (F:Nat) (p0:eX):Nat→Int→Option Bool
 | 0=>fun _=>.none
 | n+1=>Ao F p0 (Bl F p0 n)
def An (F:Nat) (p0:eX) (aH:Int→Option Bool) (n4:Int):Option Bool :=
 if (decide (n4<(p0.al.length:Int)))=true then
  (idx p0.al n4).bind fun x6 =>
  if ((decide (x6<0)) || (decide (x6 > 10000)))=true then
   some false
  else
  aH (i64 (n4+1))
 else
 Bl F p0 F 0
def De (F:Nat) (p0:eX):Nat→Int→Option Bool
 | 0=>fun _=>.none
 | n+1=>An F p0 (De F p0 n)
def uH (F:Nat) (p0:eX):Option Bool :=
 if ((decide ((p0.al.length:Int) > 12)) || (decide ((p0.Rows.length:Int) > 60)))=true then
  some false
 else
 De F p0 F 0
def AW (p0:List Int) (p1:Int) (c0:bk):Option bk :=
 if ((!c0.Found) || (decide (p1<c0.iy)))=true then
  (app [] p0).bind fun v4 =>
  some (bk.mk true v4 p1 c0.jt)
 else
 some c0
def Ak (p0:Int) (p1:Int) (c0:eX) (aH:Int→(List Int)→Option (List Int)) (n1:Int) (l2:List Int):Option (List Int) :=
 if (decide (n1<(c0.Rows.length:Int)))=true then
  (idx c0.Rows n1).bind fun x4 =>
  (idx l2 n1).bind fun x5 =>
  (idx x4.cu p0).bind fun x6 =>
  (idx l2 n1).bind fun x7 =>
  aH (i64 (n1+1)) (l2.set n1.toNat (i64 (x5+(i64 (p1 * x6)))))
 else
 some l2
def Db (p0:Int) (p1:Int) (c0:eX):Nat→Int→(List Int)→Option (List Int)
 | 0=>fun _ _=>.none
 | n+1=>Ak p0 p1 c0 (Db p0 p1 c0 n)
def xi (F:Nat) (p0:Int) (p1:Int) (c0:eX) (c1:List Int):Option (List Int) :=
 Db p0 p1 c0 F 0 c1
def Al (c0:eX) (c1:List Int) (aH:Int→Option (Bool × List Int)) (n1:Int):Option (Bool × List Int) :=
 if (decide (n1<(c0.Rows.length:Int)))=true then
  (idx c0.Rows n1).bind fun x3 =>
  ((idx c1 n1).bind fun x6=>if (decide (x6<x3.bQ))=true then some true else (idx c1 n1).bind fun x8=>some (decide (x8 > x3.cO))).bind fun w5 =>
  if w5=true then
   some (false,c1)
  else
  aH (i64 (n1+1))
 else
 some (true,c1)
def Dc (c0:eX) (c1:List Int):Nat→Int→Option (Bool × List Int)
 | 0=>fun _=>.none
 | n+1=>Al c0 c1 (Dc c0 c1 n)
def A1 (F:Nat) (c0:eX) (c1:List Int):Option (Bool × List Int) :=
 Dc c0 c1 F 0
def Am (F:Nat) (self:Int→Int→(List Int)→eX→(List Int)→bk→Option (List Int × List Int × bk)) (p1:Int) (c3:eX) (fH:Int→Bool→(List Int)→Int→(List aM)→(List Int)→(List Int)→Option (List Int × List Int × bk)) (n6:Int) (b7:Bool) (l8:List Int) (n9:Int) (iW:List aM) (jk:List Int) (wR:List Int):Option (List Int × List Int × bk) :=
 if (decide (n6<(c3.al.length:Int)))=true then
  (app wR [n6]).bind fun DS =>
  (xi F n6 1 c3 jk).bind fun kC =>
  (idx c3.al n6).bind fun mY =>
  (self (i64 (n6+1)) (i64 (p1+mY)) DS c3 kC (bk.mk b7 l8 n9 iW)).bind fun fp =>
  (xi F n6 (-1) c3 fp.2.1).bind fun xD =>
  (Ht fp.1 (i64 ((fp.1.length:Int) - 1))).bind fun Vu =>
  fH (i64 (n6+1)) fp.2.2.Found fp.2.2.cN fp.2.2.iy fp.2.2.jt xD Vu
 else
 some (wR,jk,(bk.mk b7 l8 n9 iW))
def Dd (F:Nat) (self:Int→Int→(List Int)→eX→(List Int)→bk→Option (List Int × List Int × bk)) (p1:Int) (c3:eX):Nat→Int→Bool→(List Int)→Int→(List aM)→(List Int)→(List Int)→Option (List Int × List Int × bk)
 | 0=>fun _ _ _ _ _ _ _=>.none
 | n+1=>Am F self p1 c3 (Dd F self p1 c3 n)
def Gu (F:Nat) (self:Int→Int→(List Int)→eX→(List Int)→bk→Option (List Int × List Int × bk)) (p0:Int) (p1:Int) (c2:List Int) (c3:eX) (b1:Bool) (l2:List Int) (n3:Int) (l4:List aM) (l5:List Int):Option (List Int × List Int × bk) :=
 Dd F self p1 c3 F p0 b1 l2 n3 l4 l5 c2
def wa:Nat→Int→Int→(List Int)→eX→(List Int)→bk→Option (List Int × List Int × bk)
 | 0,_,_,_,_,_,_=>.none
 | F+1,p0,p1,c2,c3,KX,B6 =>
  (A1 F c3 KX).bind fun pH =>
  if pH.1=true then
   (AW c2 p1 B6).bind fun xE =>
   Gu F (wa F) p0 p1 c2 c3 xE.Found xE.cN xE.iy xE.jt pH.2
  else
  Gu F (wa F) p0 p1 c2 c3 B6.Found B6.cN B6.iy B6.jt pH.2
def Bf (F:Nat) (p0:eX) (E0:bk):Option bk :=
 (vB (0:Int) (p0.Rows.length:Int)).bind fun v1 =>
 (wa F 0 0 ([]:List Int) p0 v1 E0).bind fun r2 =>
 some r2.2.2
def J2 (p0:List Int) (aH:Int→Option Bool) (n4:Int):Option Bool :=
 if (decide (n4<(p0.length:Int)))=true then
  (idx p0 n4).bind fun x6 =>
  if ((decide (x6<(-1))) || (decide (x6 > 1)))=true then
   some false
  else
  aH (i64 (n4+1))
 else
 some true
def C7 (p0:List Int):Nat→Int→Option Bool
 | 0=>fun _=>.none
 | n+1=>J2 p0 (C7 p0 n)
def xe (F:Nat) (p0:List Int) (p1:Int):Option Bool :=
 if (((p0.length:Int) != p1) || (decide (p1 > 12)))=true then
  some false
 else
 C7 p0 F 0
def Ax (p0:aq) (p1:List Int) (aH:Int→Int→Int→Option (Int × Int × Bool)) (n7:Int) (n8:Int) (n9:Int):Option (Int × Int × Bool) :=
 if (decide (n9<(p0.cu.length:Int)))=true then
  (idx p0.cu n9).bind fun lu =>
  (idx p1 n9).bind fun iB =>
  if (iB == 1)=true then
   aH (i64 (n7+lu)) (i64 (n8+lu)) (i64 (n9+1))
  else
  if (iB == (-1))=true then
   aH (i64 (n7+(min lu 0))) (i64 (n8+(max lu 0))) (i64 (n9+1))
  else
  aH n7 n8 (i64 (n9+1))
 else
 some (n7,n8,true)
def Dk (p0:aq) (p1:List Int):Nat→Int→Int→Int→Option (Int × Int × Bool)
 | 0=>fun _ _ _=>.none
 | n+1=>Ax p0 p1 (Dk p0 p1 n)
def Bb (F:Nat) (p0:aq) (p1:List Int):Option (Int × Int × Bool) :=
 ((xe F p1 (p0.cu.length:Int)).bind fun r3=>if (!r3)=true then some true else (Gr F p0.cu).bind fun r5=>some (!r5)).bind fun w2 =>
 if w2=true then
  some (0,0,false)
 else
 Dk p0 p1 F 0 0 0
def Au (F:Nat) (p0:eX) (p1:List Int) (aH:Int→Option Int) (n7:Int):Option Int :=
 if (decide (n7<(p0.Rows.length:Int)))=true then
  (idx p0.Rows n7).bind fun x9 =>
  (Bb F x9 p1).bind fun ea =>
  if (ea.2.2 && ((decide (ea.1 > x9.cO)) || ((decide (ea.2.1<x9.bQ)) || (decide (x9.bQ > x9.cO)))))=true then
   some n7
  else
  aH (i64 (n7+1))
 else
 some (-1)
def Dh (F:Nat) (p0:eX) (p1:List Int):Nat→Int→Option Int
 | 0=>fun _=>.none
 | n+1=>Au F p0 p1 (Dh F p0 p1 n)
def A9 (F:Nat) (p0:eX) (p1:List Int):Option Int :=
 ((uH F p0).bind fun r3=>if (!r3)=true then some true else (xe F p1 (p0.al.length:Int)).bind fun r5=>some (!r5)).bind fun w2 =>
 if w2=true then
  some (-1)
 else
 Dh F p0 p1 F 0
def JX (p0:List Int) (aH:Int→Option Bool) (n2:Int):Option Bool :=
 if (decide (n2<(p0.length:Int)))=true then
  (idx p0 n2).bind fun x4 =>
  if ((decide (x4<(-1))) || (decide (x4 > 1)))=true then
   some false
  else
  aH (i64 (n2+1))
 else
 some true
def C5 (p0:List Int):Nat→Int→Option Bool
 | 0=>fun _=>.none
 | n+1=>JX p0 (C5 p0 n)
def AJ (F:Nat) (p0:List Int) (p1:Int):Option Bool :=
 if ((p0.length:Int) != p1)=true then
  some false
 else
 C5 p0 F 0
def AI (p0:eX) (p1:aM):Option Bool :=
 if (p1.Kind != 3)=true then
  some false
 else
 if (p1.Row == (-1))=true then
  some ((p1.pa == 0) && (p1.Den == 1))
 else
 some ((decide (p1.Row ≥ 0)) && ((decide (p1.Row<(p0.Rows.length:Int))) && ((decide (p1.pa ≥ (-10000))) && ((decide (p1.pa≤10000)) && ((decide (p1.Den ≥ 1)) && (decide (p1.Den≤10000)))))))
def EN (p0:Int) (p1:Int):Option Int :=
 (quo .i64 p0 p1).bind fun v1 =>
 (QX p0 p1).bind fun v2 =>
 if (decide (v2 > 0))=true then
  some (i64 (v1+1))
 else
 some v1
def JW (p0:eX) (p1:List Int) (p2:aM) (l2:List Int) (rv:Int→Int→Option Int) (n6:Int) (n7:Int):Option Int :=
 if (decide (n7<(p0.al.length:Int)))=true then
  (idx p0.al n7).bind fun x9 =>
  (idx l2 n7).bind fun lr =>
  (idx p1 n7).bind fun lu =>
  if (lu == 1)=true then
   rv (i64 (n6+(i64 ((i64 (p2.Den * x9)) - (i64 (p2.pa * lr)))))) (i64 (n7+1))
  else
  if (lu == (-1))=true then
   rv (i64 (n6+(min (i64 ((i64 (p2.Den * x9)) - (i64 (p2.pa * lr)))) 0))) (i64 (n7+1))
  else
  rv n6 (i64 (n7+1))
 else
 (EN n6 p2.Den).bind fun ct =>
 some ct
def C4 (p0:eX) (p1:List Int) (p2:aM) (l2:List Int):Nat→Int→Int→Option Int
 | 0=>fun _ _=>.none
 | n+1=>JW p0 p1 p2 l2 (C4 p0 p1 p2 l2 n)
def Ai (F:Nat) (p0:eX) (p1:List Int) (p2:aM) (l2:List Int) (n5:Int):Option Int :=
 C4 p0 p1 p2 l2 F n5 0
def Ah (F:Nat) (p0:eX) (p1:List Int) (p2:aM) (l2:List Int) (n3:Int) (n4:Int):Option Int :=
 if (decide (p2.pa<0))=true then
  Ai F p0 p1 p2 l2 (i64 (p2.pa * n4))
 else
 Ai F p0 p1 p2 l2 (i64 (p2.pa * n3))
def EF (F:Nat) (p0:eX) (p1:List Int) (p2:aM):Option Int :=
 (vB (0:Int) (p0.al.length:Int)).bind fun v1 =>
 if (decide (p2.Row ≥ 0))=true then
  (idx p0.Rows p2.Row).bind fun gA =>
  Ah F p0 p1 p2 gA.cu gA.bQ gA.cO
 else
 Ah F p0 p1 p2 v1 0 0
def A0 (F:Nat) (p0:eX) (p1:List Int) (p2:aM):Option (Int × Bool) :=
 ((uH F p0).bind fun r3=>if (!r3)=true then some true else (AJ F p1 (p0.al.length:Int)).bind fun r5=>if (!r5)=true then some true else (AI p0 p2).bind fun r7=>some (!r7)).bind fun w2 =>
 if w2=true then
  some (0,false)
 else
 (EF F p0 p1 p2).bind fun r9 =>
 some (r9,true)
def AX:Nat→Int→(List aM)→eX→(List Int)→aM→Bool→Int→Option (Int × List aM × List Int)
 | 0,_,_,_,_,_,_,_=>.none
 | F+1,p0,c0,c1,c2,c3,c4,c5 =>
  (A9 F c1 c2).bind fun r1 =>
  if (decide (r1 ≥ 0))=true then
   (app c0 [(aM.mk 2 0 0 0 r1 0 0)]).bind fun v3 =>
   some ((c0.length:Int),v3,c2)
  else
  (A0 F c1 c2 c3).bind fun r4 =>
  if ((p0 == (c2.length:Int)) || (c4 && (decide (r4.1 ≥ c5))))=true then
   (app c0 [c3]).bind fun v9 =>
   some ((c0.length:Int),v9,c2)
  else
  (app c0 [(aM.mk 1 p0 0 0 0 0 0)]).bind fun v10 =>
  (idx c2 p0).bind fun lu =>
  ((AX F) (i64 (p0+1)) v10 c1 (c2.set p0.toNat 0) c3 c4 c5).bind fun fx =>
  (idx fx.2.2 p0).bind fun gF =>
  ((AX F) (i64 (p0+1)) fx.2.1 c1 (fx.2.2.set p0.toNat 1) c3 c4 c5).bind fun ct =>
  (idx ct.2.2 p0).bind fun pR =>
  (idx ct.2.1 (c0.length:Int)).bind fun mY =>
  (idx (ct.2.1.set ((c0.length:Int).toNat) (aM.mk mY.Kind mY.Var fx.1 mY.One mY.Row mY.pa mY.Den)) (c0.length:Int)).bind fun gA =>
  some ((c0.length:Int),((ct.2.1.set ((c0.length:Int).toNat) (aM.mk mY.Kind mY.Var fx.1 mY.One mY.Row mY.pa mY.Den)).set ((c0.length:Int).toNat) (aM.mk gA.Kind gA.Var gA.Zero ct.1 gA.Row gA.pa gA.Den)),(ct.2.2.set p0.toNat (-1)))
def Aj (F:Nat) (p0:eX) (p1:Bool) (p2:Int):Option (List aM) :=
 (Kc (-1) (p0.al.length:Int)).bind fun l1 =>
 (AX F 0 ([]:List aM) p0 l1 (aM.mk 3 0 0 0 (-1) 0 1) p1 p2).bind fun r2 =>
 some r2.2.1
def uI (F:Nat) (p0:eX):Option (bk × Int) :=
 (uH F p0).bind fun r1 =>
 if (!r1)=true then
  some ((bk.mk false [] 0 []),1)
 else
 (Bf F p0 (bk.mk false ([]:List Int) 0 ([]:List aM))).bind fun r3 =>
 (Aj F p0 r3.Found r3.iy).bind fun r4 =>
 some ((bk.mk r3.Found r3.cN r3.iy r4),0)
def J0 (p0:List Int) (p1:Int) (aH:Int→Option Bool) (n1:Int):Option Bool :=
 if (decide (n1<(p0.length:Int)))=true then
  (idx p0 n1).bind fun x3 =>
  (if (decide (x3<0))=true then some true else if (decide (x3 ≥ p1))=true then some true else if (decide (n1 > 0))=true then (idx p0 (i64 (n1 - 1))).bind fun x9=>some (decide (x9 ≥ x3)) else some false).bind fun w5 =>
  if w5=true then
   some false
  else
  aH (i64 (n1+1))
 else
 some true
def C6 (p0:List Int) (p1:Int):Nat→Int→Option Bool
 | 0=>fun _=>.none
 | n+1=>J0 p0 p1 (C6 p0 p1 n)
def AO (F:Nat) (p0:List Int) (p1:Int):Option Bool :=
 C6 p0 p1 F 0
def AA (F:Nat) (p0:List ab) (p1:List Int) (p2:Int) (aH:Int→(List aS)→Option (bG × Int)) (n7:Int) (l8:List aS):Option (bG × Int) :=
 if (decide (n7<(p1.length:Int)))=true then
  (idx p1 n7).bind fun lr =>
  (idx p0 lr).bind fun lu =>
  (rq F lu).bind fun fx =>
  if (fx != 0)=true then
   some ((bG.mk 0 []),1)
  else
  (idx p0 lr).bind fun pQ =>
  (idx p0 lr).bind fun pR =>
  (app l8 [(aS.mk pQ.ID pR.Version)]).bind fun y5 =>
  aH (i64 (n7+1)) y5
 else
 some ((bG.mk p2 l8),0)
def Bn (F:Nat) (p0:List ab) (p1:List Int) (p2:Int):Nat→Int→(List aS)→Option (bG × Int)
 | 0=>fun _ _=>.none
 | n+1=>AA F p0 p1 p2 (Bn F p0 p1 p2 n)
def Be (F:Nat) (p0:List ab) (p1:List Int) (p2:Int):Option (bG × Int) :=
 (if (decide (p2<0))=true then some true else if (decide (p2 > 9999))=true then some true else (AO F p1 (p0.length:Int)).bind fun r5=>some (!r5)).bind fun w2 =>
 if w2=true then
  some ((bG.mk 0 []),2)
 else
 Bn F p0 p1 p2 F 0 ([]:List aS)
def J7 (p0:ay) (aH:Int→(List ab)→Option ay) (n2:Int) (l3:List ab):Option ay :=
 if (decide (n2<(p0.ah.length:Int)))=true then
  (idx p0.ah n2).bind fun x5 =>
  (yE x5).bind fun r6 =>
  (idx l3 n2).bind fun x7 =>
  aH (i64 (n2+1)) (l3.set n2.toNat r6)
 else
 (app [] p0.au).bind fun v8 =>
 (app [] p0.Uses).bind fun v9 =>
 some (ay.mk p0.ID l3 v8 v9 p0.ao)
def C9 (p0:ay):Nat→Int→(List ab)→Option ay
 | 0=>fun _ _=>.none
 | n+1=>J7 p0 (C9 p0 n)
def AY (F:Nat) (p0:ay):Option ay :=
 (vB ((ab.mk 0 0 (ByteArray.mk #[]) [] []):ab) (p0.ah.length:Int)).bind fun v1 =>
 C9 p0 F 0 v1
def As (F:Nat) (p0:bx) (aH:Int→(List ay)→Option bx) (n2:Int) (l3:List ay):Option bx :=
 if (decide (n2<(p0.aa.length:Int)))=true then
  (idx p0.aa n2).bind fun x5 =>
  (AY F x5).bind fun r6 =>
  (idx l3 n2).bind fun x7 =>
  aH (i64 (n2+1)) (l3.set (n2).toNat r6)
 else
 some (bx.mk l3)
def Dg (F:Nat) (p0:bx):Nat→Int→(List ay)→Option bx
 | 0=>fun _ _=>.none
 | n+1=>As F p0 (Dg F p0 n)
def wb (F:Nat) (p0:bx):Option bx :=
 (vB ((ay.mk 0 [] [] [] false):ay) (p0.aa.length:Int)).bind fun v1 =>
 Dg F p0 F 0 v1
def xx (F:Nat) (p0:bx) (p1:ba):Option (bx × Int) :=
 (xB F p0).bind fun r1 =>
 if (!r1)=true then
  some ((bx.mk []),1)
 else
 if (p1.Kind == 1)=true then
  (wb F p0).bind fun r5 =>
  (xy F r5 p1).bind fun r6 =>
  if (r6.1 != 0)=true then
   some ((bx.mk []),r6.1)
  else
  some (r6.2,0)
 else
 if (p1.Kind == 2)=true then
  (wb F p0).bind fun ea =>
  (xw F ea p1).bind fun da =>
  if (da.1 != 0)=true then
   some ((bx.mk []),da.1)
  else
  some (da.2,0)
 else
 if (p1.Kind == 3)=true then
  (wb F p0).bind fun kC =>
  (xu F kC p1).bind fun iz =>
  if (iz.1 != 0)=true then
   some ((bx.mk []),iz.1)
  else
  some (iz.2,0)
 else
 if (p1.Kind == 4)=true then
  (wb F p0).bind fun pH =>
  (lD F pH p1).bind fun er =>
  if (er.1 != 0)=true then
   some ((bx.mk []),er.1)
  else
  some (er.2,0)
 else
 if (p1.Kind == 5)=true then
  (wb F p0).bind fun sA =>
  (Bj F sA p1 true).bind fun k9 =>
  if (k9.1 != 0)=true then
   some ((bx.mk []),k9.1)
  else
  some (k9.2,0)
 else
 if (p1.Kind == 6)=true then
  (wb F p0).bind fun EU =>
  (Bj F EU p1 false).bind fun ek =>
  if (ek.1 != 0)=true then
   some ((bx.mk []),ek.1)
  else
  some (ek.2,0)
 else
 some ((bx.mk []),2)
def Bd (p0:List Int) (p1:Int) (aH:Int→Option Bool) (n1:Int):Option Bool :=
 if (decide (n1<(p0.length:Int)))=true then
  (idx p0 n1).bind fun x3 =>
  if (x3 == p1)=true then
   some true
  else
  aH (i64 (n1+1))
 else
 some false
def rX (p0:List Int) (p1:Int):Nat→Int→Option Bool
 | 0=>fun _=>.none
 | n+1=>Bd p0 p1 (rX p0 p1 n)
def lS (F:Nat) (p0:List Int) (p1:Int):Option Bool :=
 rX p0 p1 F 0
def Jz (p0:List Int) (p1:Int) (aH:Int→Option Bool) (n1:Int):Option Bool :=
 if (decide (n1<(p0.length:Int)))=true then
  (idx p0 n1).bind fun x3 =>
  (if (decide (x3<0))=true then some true else if (decide (x3 ≥ p1))=true then some true else if (decide (n1 > 0))=true then (idx p0 (i64 (n1 - 1))).bind fun x9=>some (decide (x9 ≥ x3)) else some false).bind fun w5 =>
  if w5=true then
   some false
  else
  aH (i64 (n1+1))
 else
 some true
def Ey (p0:List Int) (p1:Int):Nat→Int→Option Bool
 | 0=>fun _=>.none
 | n+1=>Jz p0 p1 (Ey p0 p1 n)
def JG (F:Nat) (p0:List Int) (p1:Int):Option Bool :=
 Ey p0 p1 F 0
def JA (F:Nat) (p0:nA) (aH:Int→Option Bool) (n9:Int):Option Bool :=
 if (decide (n9<(p0.aK.length:Int)))=true then
  (idx p0.aK n9).bind fun lu =>
  (xn lu).bind fun fx =>
  if (!fx)=true then
   some false
  else
  aH (i64 (n9+1))
 else
 (uJ F p0.aK).bind fun ct =>
 some (decide (ct≤200))
def EE (F:Nat) (p0:nA):Nat→Int→Option Bool
 | 0=>fun _=>.none
 | n+1=>JA F p0 (EE F p0 n)
def EM (F:Nat) (p0:nA):Option Bool :=
 if ((decide (p0.Code<0)) || ((decide (p0.Code > 31)) || ((decide (p0.Variant<0)) || (decide (p0.Variant ≥ 4)))))=true then
  some false
 else
 if ((decide ((p0.aK.length:Int)<1)) || (decide ((p0.aK.length:Int) > 24)))=true then
  some false
 else
 EE F p0 F 0
def JC (F:Nat) (p0:List ab) (p1:List Int) (p2:Int) (p3:Int) (aH:Int→(List ag)→Option (nA × Int)) (n3:Int) (l4:List ag):Option (nA × Int) :=
 if (decide (n3<(p1.length:Int)))=true then
  (idx p1 n3).bind fun x6 =>
  (idx p0 x6).bind fun x7 =>
  (rq F x7).bind fun r8 =>
  if (r8 != 0)=true then
   some ((nA.mk 0 0 []),1)
  else
  (idx p0 x6).bind fun lr =>
  (app l4 lr.aK).bind fun v11 =>
  aH (i64 (n3+1)) v11
 else
 (EM F (nA.mk p2 p3 l4)).bind fun fx =>
 if (!fx)=true then
  some ((nA.mk 0 0 []),1)
 else
 some ((nA.mk p2 p3 l4),0)
def EH (F:Nat) (p0:List ab) (p1:List Int) (p2:Int) (p3:Int):Nat→Int→(List ag)→Option (nA × Int)
 | 0=>fun _ _=>.none
 | n+1=>JC F p0 p1 p2 p3 (EH F p0 p1 p2 p3 n)
def EO (F:Nat) (p0:List ab) (p1:List Int) (p2:Int) (p3:Int):Option (nA × Int) :=
 (JG F p1 (p0.length:Int)).bind fun r1 =>
 if (!r1)=true then
  some ((nA.mk 0 0 []),2)
 else
 EH F p0 p1 p2 p3 F 0 ([]:List ag)
def EL (F:Nat) (p0:nA):Option Int :=
 (EM F p0).bind fun r1 =>
 if (!r1)=true then
  some 0
 else
 (uJ F p0.aK).bind fun r3 =>
 some r3
def Bk (F:Nat):Option Bool :=
 (iq F ([(ba.mk (bE.mk 0 0 0) 1 (ab.mk 4 1 (ByteArray.mk #[113]) [(ag.mk 1 3 0 0 0 0)] []) (aS.mk 0 0) 0),(ba.mk (bE.mk 1 0 1) 3 (ab.mk 0 0 (ByteArray.mk #[]) [] []) (aS.mk 4 1) 0)]) 9).bind fun r1 =>
 (rW F r1.1 9 0 9).bind fun r2 =>
 if ((r1.2.2 != 0) || ((r2.length:Int) != 1))=true then
  some false
 else
 (idx r2 0).bind fun x6 =>
 (xt F r1.1 x6).bind fun r7 =>
 (EO F [r7.1] [0] 2 1).bind fun r8 =>
 (if r7.2=true then if (r8.2 == 0)=true then (EL F r8.1).bind fun ew=>if (ew == 3)=true then if (r8.1.Code == 2)=true then some (r8.1.Variant == 1) else some false else some false else some false else some false).bind fun N1 =>
 some N1
def AM (F:Nat) (r3:bx × List ab × Bool) (ew:bk × Int) (ct:bG × Int) (ga:eX × Int) (nk:bk × Int) (rv:Int→Option Bool) (n35:Int):Option Bool :=
 if (decide (n35<(nk.1.cN.length:Int)))=true then
  (idx nk.1.cN n35).bind fun YQ =>
  (lS F ew.1.cN YQ).bind fun VW =>
  if VW=true then
   some false
  else
  rv (i64 (n35+1))
 else
 (if (ga.2 == 0)=true then if (nk.2 == 0)=true then if (nk.1.Found == (decide ((r3.2.1.length:Int) > (ct.1.Items.length:Int))))=true then (Bk F).bind fun ZQ=>some ZQ else some false else some false else some false).bind fun YO =>
 some YO
def Bs (F:Nat) (r3:bx × List ab × Bool) (ew:bk × Int) (ct:bG × Int) (ga:eX × Int) (nk:bk × Int):Nat→Int→Option Bool
 | 0=>fun _=>.none
 | n+1=>AM F r3 ew ct ga nk (Bs F r3 ew ct ga nk n)
def AL (F:Nat) (r3:bx × List ab × Bool) (l8:List Int) (ew:bk × Int) (ct:bG × Int) (er:Int) (fH:Int→(List ay)→Option Bool) (n22:Int) (BY:List ay):Option Bool :=
 if (decide (n22<(ct.1.Items.length:Int)))=true then
  (idx ct.1.Items n22).bind fun Ca =>
  (xx F (bx.mk BY) (ba.mk (bE.mk 200 0 0) 4 (ab.mk 0 0 (ByteArray.mk #[]) ([]:List ag) ([]:List Int)) Ca 900)).bind fun k9 =>
  if (k9.2 != 0)=true then
   some false
  else
  fH (i64 (n22+1)) k9.1.aa
 else
 (rW F (bx.mk BY) (i64 (199+(i64 (1+er)))) (i64 (1+er)) 99).bind fun pT =>
 (rW F (bx.mk BY) (i64 (200+(i64 (1+er)))) (i64 (1+er)) 99).bind fun oH =>
 if (((oH.length:Int) != (r3.2.1.length:Int)) || ((pT.length:Int) != (i64 ((r3.2.1.length:Int) - (ct.1.Items.length:Int)))))=true then
  some false
 else
 (Dm F (qR.mk 1 2 0 200 ([]:List cK) ([]:List cK) ([]:List Int) [ct.1] 0) r3.2.1 l8).bind fun ga =>
 (uI F ga.1).bind fun nk =>
 Bs F r3 ew ct ga nk F 0
def Br (F:Nat) (r3:bx × List ab × Bool) (l8:List Int) (ew:bk × Int) (ct:bG × Int) (er:Int):Nat→Int→(List ay)→Option Bool
 | 0=>fun _ _=>.none
 | n+1=>AL F r3 l8 ew ct er (Br F r3 l8 ew ct er n)
def AK (F:Nat) (p1:Int) (r3:bx × List ab × Bool) (aH:Int→(List Int)→Int→(List Int)→Option Bool) (n5:Int) (l6:List Int) (n7:Int) (l8:List Int):Option Bool :=
 if (decide (n5<(r3.2.1.length:Int)))=true then
  (jD (aU.mk l6 n7) 5).bind fun ea =>
  (app l8 [ea.1]).bind fun v11 =>
  aH (i64 (n5+1)) ea.2.L ea.2.At v11
 else
 (Dm F (qR.mk 1 2 0 200 ([]:List cK) ([]:List cK) ([]:List Int) ([]:List bG) 0) r3.2.1 l8).bind fun fx =>
 (uI F fx.1).bind fun ew =>
 (Be F r3.2.1 ew.1.cN 900).bind fun ct =>
 if ((fx.2 != 0) || ((ew.2 != 0) || ((ct.2 != 0) || ((!(ew.1.Found == (decide ((r3.2.1.length:Int) > 0)))) || ((ct.1.Items.length:Int) != (ew.1.cN.length:Int))))))=true then
  some false
 else
 (lP p1 50).bind fun er =>
 Br F r3 l8 ew ct er F 0 r3.1.aa
def Bq (F:Nat) (p1:Int) (r3:bx × List ab × Bool):Nat→Int→(List Int)→Int→(List Int)→Option Bool
 | 0=>fun _ _ _ _=>.none
 | n+1=>AK F p1 r3 (Bq F p1 r3 n)
def EP (F:Nat) (p0:List Int) (p1:Int):Option Bool :=
 (lQ p0).bind fun r1 =>
 (N8 F r1 18 0).bind fun r2 =>
 (AN F r2.1 100 0 9).bind fun r3 =>
 if (!r3.2.2)=true then
  some false
 else
 Bq F p1 r3 F 0 r2.2.L r2.2.At ([]:List Int)
end
end Go.Sh
