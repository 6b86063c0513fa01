import Derived.Test.YtiinmaihgmfniaaGreatProg
import Derived.Shelf.RegionOpenPlain
import Derived.WalkKit
import Derived.Deep.LoopGhost
import Derived.Deep.RegionLaw
import Derived.Lib.Walk
import Derived.Sort.WalkB12
import Derived.Shelf.SlicesE.Kit
import Derived.Laws.Externs
import Derived.Test.YtiinmaihgmfniaaGreatZLb
set_option linter.unusedVariables false
set_option linter.unusedSimpArgs false
namespace Go.Proofs.YtiinmaihgmfniaaGreat
open Go.L Go.Shelf Go.RowKit Go.Lib Go.Sort
theorem Ys:Tryz.t3.zero=some (.int .i64 0):=by kernel_rfl
set_option maxHeartbeats 4000000 in
set_option maxRecDepth 100000 in
theorem tw:te Tryz.prog 67 3 1:=by
 intro a n cap news w hl hnil hc h1 hn
 have q22:∀ (w:World) (a:Option Addr) (n c n' c':Nat),(binOp .eql 22 (.slice a n c) (.slice none n' c')).run Tryz.prog w=.ok (.bool a.isNone) w:=fun w a n c n' c'=>Lib.run_eql_slice_nil w _ _ a n c n' c' Tryz.underlying22
 cases a with
 | none =>
  have KQ:=hnil rfl
  subst KQ
  have ni:news=[]:=List.eq_nil_of_length_eq_zero (by simpa using hl)
  subst ni
  clear hl hnil hc h1 hn
  go_enter Tryz.func67,Tryz.ntmps67
  go_wp2
  go_ret
  exact ⟨_,rfl,⟨World.ownsRow_nil w 0 3 1,⟨rfl,rfl,rfl,Nat.le_refl _,fun _ _ _=>rfl⟩,fun b hb=>.inl hb,Nat.le_refl _⟩⟩
 | some ad =>
  have bN:(w.alloc (.cells #[] 3)).ownsRow 0 3 1 (.slice (some ⟨w.heap.size,0,none⟩) 0 0) 0 []:=World.ownsRow_made w #[] 0 (Nat.zero_le _) (Nat.zero_le _) (by simp)
  obtain ⟨u',w',hr,h2,h3,h4,_,h6⟩:=fy (P:=Tryz.prog) (t:=22) (ty:=22) Tryz.underlying22 (i:=Tryz.t3) rfl Ys (by kernel_rfl) (by decide) (by decide) bN (q:=n) (cap:=cap) (a:=ad) (news:=news) hl (fun j u hj=>Lib.cell?_alloc_some _ (hc ad rfl j u hj)) h1 (by omega)
  have kJ:Hid (∀ ty,(Builtin.append_ #[22,22] ty #[.slice (some ⟨w.heap.size,0,none⟩) 0 0,.slice (some ad) n cap]).run Tryz.prog (w.alloc (.cells #[] 3))=.ok u' w'):=fun ty=>(lC ▸ hr)
  have F:Aside (kH w w' 3 1 (.slice none 0 0) u' n news):=by
   have Ld:w'.ownsRow 0 3 1 u' (0+n) ([]++news):=h2
   refine ⟨by simpa using Ld,⟨h3.os,h3.tape,h3.output,Nat.le_trans (by simp) h3.size,fun k hk _=>(h3.block k (by simp; omega) (by simp [Value.ownBlock]; omega)).trans (_root_.Go.heap_alloc_old w _ hk)⟩,fun b hb=>.inr ?_,Nat.le_trans (Nat.le_refl _) h6⟩
   rcases h4 b hb with h | h
   ·simp [Value.ownBlock] at h; omega
   ·simp at h; omega
  clear hl hnil hc h1 hn bN hr h2 h3 h4 h6
  go_enter Tryz.func67,Tryz.ntmps67
  go_wp2_with (at_builtin; refine Lib.wpList_append_run _ rfl _ _ _ _ rfl _ _ rfl rfl _ _ (kJ.out _) ?_)
  go_ret
  exact ⟨_,rfl,F.out⟩
theorem Q0:Tryz.t185.zero=some (.agg #[.int .i64 0,.int .i64 0,.int .i64 0,.int .i64 0,.int .i64 0,.int .i64 0]):=by kernel_rfl
set_option maxHeartbeats 4000000 in
set_option maxRecDepth 100000 in
theorem Fv:te Tryz.prog 179 185 6:=by
 intro a n cap news w hl hnil hc h1 hn
 have abD:∀ (w:World) (a:Option Addr) (n c n' c':Nat),(binOp .eql 106 (.slice a n c) (.slice none n' c')).run Tryz.prog w=.ok (.bool a.isNone) w:=fun w a n c n' c'=>Lib.run_eql_slice_nil w _ _ a n c n' c' Tryz.underlying106
 cases a with
 | none =>
  have KQ:=hnil rfl
  subst KQ
  have ni:news=[]:=List.eq_nil_of_length_eq_zero (by simpa using hl)
  subst ni
  clear hl hnil hc h1 hn
  go_enter Tryz.func179,Tryz.ntmps179
  go_wp2
  go_ret
  exact ⟨_,rfl,⟨World.ownsRow_nil w 0 185 6,⟨rfl,rfl,rfl,Nat.le_refl _,fun _ _ _=>rfl⟩,fun b hb=>.inl hb,Nat.le_refl _⟩⟩
 | some ad =>
  have bN:(w.alloc (.cells #[] 185)).ownsRow 0 185 6 (.slice (some ⟨w.heap.size,0,none⟩) 0 0) 0 []:=World.ownsRow_made w #[] 0 (Nat.zero_le _) (Nat.zero_le _) (by simp)
  obtain ⟨u',w',hr,h2,h3,h4,_,h6⟩:=fy (P:=Tryz.prog) (t:=106) (ty:=106) Tryz.underlying106 (i:=Tryz.t185) rfl Q0 (by kernel_rfl) (by decide) (by decide) bN (q:=n) (cap:=cap) (a:=ad) (news:=news) hl (fun j u hj=>Lib.cell?_alloc_some _ (hc ad rfl j u hj)) h1 (by omega)
  have kJ:Hid (∀ ty,(Builtin.append_ #[106,106] ty #[.slice (some ⟨w.heap.size,0,none⟩) 0 0,.slice (some ad) n cap]).run Tryz.prog (w.alloc (.cells #[] 185))=.ok u' w'):=fun ty=>(lC ▸ hr)
  have F:Aside (kH w w' 185 6 (.slice none 0 0) u' n news):=by
   have Ld:w'.ownsRow 0 185 6 u' (0+n) ([]++news):=h2
   refine ⟨by simpa using Ld,⟨h3.os,h3.tape,h3.output,Nat.le_trans (by simp) h3.size,fun k hk _=>(h3.block k (by simp; omega) (by simp [Value.ownBlock]; omega)).trans (_root_.Go.heap_alloc_old w _ hk)⟩,fun b hb=>.inr ?_,Nat.le_trans (Nat.le_refl _) h6⟩
   rcases h4 b hb with h | h
   ·simp [Value.ownBlock] at h; omega
   ·simp at h; omega
  clear hl hnil hc h1 hn bN hr h2 h3 h4 h6
  go_enter Tryz.func179,Tryz.ntmps179
  go_wp2_with (at_builtin; refine Lib.wpList_append_run _ rfl _ _ _ _ rfl _ _ rfl rfl _ _ (kJ.out _) ?_)
  go_ret
  exact ⟨_,rfl,F.out⟩
theorem Ke:Tryz.t179.zero=some (.agg #[.int .i64 0,.slice none 0 0,.slice none 0 0,.slice none 0 0,.bool false]):=by kernel_rfl
set_option maxHeartbeats 4000000 in
set_option maxRecDepth 100000 in
theorem LD (u:Value) (n vb vc:Nat) (xs vs:List Value) (pP:Array Value) (w:World) (bN:w.ownsRow 0 179 5 u n xs) (hn:n≤549755813887)
  (hv:w.heap[vb]?=some (.cells pP 179 (0,0))) (G1:pP.toList.take 5=vs) (nU:vs.length=5) (FI:∀ v ∈ vs,v.oneCell'=true) :
  Calls Tryz.prog 187 #[u,.int .i64 n,.slice (some ⟨vb,0,none⟩) 1 vc] w fun e w'=>∃ u',e=.returned u'∧kH w w' 179 5 u u' (n+1) (xs++vs):=by
 have hsrc:∀ j x,vs[j]?=some x→w.cell? ((⟨vb,0,none⟩:Addr).add j)=some x:=by
  intro j x hx
  rw [Addr.add_lit]
  rw [← G1,List.getElem?_take] at hx
  split at hx
  ·simp [World.cell?,hv]; simpa using hx
  ·cases hx
 obtain ⟨u',w',hr,h2,h3,h4,_,h6⟩:=fy (P:=Tryz.prog) (t:=76) (ty:=76) Tryz.underlying76 (i:=Tryz.t179) rfl Ke (by kernel_rfl) (by decide) (by decide) bN (q:=1) (cap:=vc) (news:=vs) nU hsrc FI (by omega)
 have kJ:Hid (∀ ty,(Builtin.append_ #[76,76] ty #[u,.slice (some ⟨vb,0,none⟩) 1 vc]).run Tryz.prog w=.ok u' w'):=fun ty=>(lC ▸ hr)
 have mixed:Tryz.prog.follows .mixedOrders=true:=by kernel_rfl
 have F:Aside (kH w w' 179 5 u u' (n+1) (xs++vs)):=⟨h2,h3,h4,h6⟩
 rcases bN.2 with ⟨rfl,rfl⟩ | ⟨g,cap,cur,rfl,_,hg,mh,hcm,hcs,wE⟩
 ·clear bN h2 h3 h4 h6 hr hsrc FI nU G1 hv
  go_enter Tryz.func187,Tryz.ntmps187
  go_wp2_with (at_builtin; refine Lib.wpList_append_run _ rfl _ _ _ _ rfl _ _ rfl rfl _ _ (kJ.out _) ?_)
  go_ret
  exact ⟨_,rfl,F.out⟩
 ·have aas:cap≤9223372036854775807:=by simp only [maxLen] at hcm; omega
  clear bN h2 h3 h4 h6 hr hsrc FI nU G1 hv hg hcs wE
  by_cases hcn:cap=n
  ·subst hcn
   go_enter Tryz.func187,Tryz.ntmps187
   go_wp2_with (at_builtin; refine Lib.wpList_append_run _ rfl _ _ _ _ rfl _ _ rfl rfl _ _ (kJ.out _) ?_)
   all_goals (go_ret; exact ⟨_,rfl,F.out⟩)
  ·go_enter Tryz.func187,Tryz.ntmps187
   go_wp2_with (at_builtin; refine Lib.wpList_append_run _ rfl _ _ _ _ rfl _ _ rfl rfl _ _ (kJ.out _) ?_)
   all_goals (go_ret; exact ⟨_,rfl,F.out⟩)
set_option maxHeartbeats 4000000 in
set_option maxRecDepth 100000 in
theorem LG (g cap n i vb vc:Nat) (cur pP:Array Value) (xs vs:List Value) (w:World) (hg:w.heap[g]?=some (.cells cur 179 (0,0))) (ug:n+1≤cap) (hcm:cap≤maxLen) (hcs:cur.size=cap * 5) (BW:cur.toList.take (n * 5)=xs) (h1:∀ y ∈ xs,y.oneCell'=true) (hi:i<n)
  (hv:w.heap[vb]?=some (.cells pP 179 (0,0))) (G1:pP.toList.take 5=vs) (nU:vs.length=5) (FI:∀ v ∈ vs,v.oneCell'=true) (eE:vb ≠ g) :
  Calls Tryz.prog 187 #[.slice (some ⟨g,0,none⟩) n cap,.int .i64 i,.slice (some ⟨vb,0,none⟩) 1 vc] w fun e w'=>∃ u',e=.returned u'∧kH w w' 179 5 (.slice (some ⟨g,0,none⟩) n cap) u' (n+1) (xs.take (i * 5)++vs++xs.drop (i * 5)):=by
 have wG:xs.length=n * 5:=by rw [← BW]; simp; omega
 have Lp:cap≤9223372036854775807:=by simp only [maxLen] at hcm; omega
 have hov:∀ lb cb,(callFunc 216 #[.slice (some ⟨vb,0,none⟩) 1 vc,.slice (some ⟨g,(i+1) * 5,none⟩) lb cb]).run Tryz.prog w=.ok (.value (.bool false)) w:=fun lb cb=>by
  rw [run_callFunc_extern Tryz.func216 (by kernel_rfl) (by kernel_rfl) (by kernel_rfl) (e:=Extern.SlicesOverlaps.overlaps #[76,76] #[4]) (by kernel_rfl),
   Lib.run_overlaps_apart w 76 4 179 Tryz.underlying76 5 Tryz.sizeOf179 ⟨vb,0,none⟩ ⟨g,(i+1) * 5,none⟩ 1 vc lb cb eE 179 179 pP.size cur.size (by simp [World.shape?,hv]) (by simp [World.shape?,hg]) (by omega) (by simp [World.frozen?,hv]) (by simp [World.frozen?,hv])]
  rfl
 obtain ⟨nG,zA⟩:∃ nG,nG=(cur.toList.take ((i+1) * 5)++xs.drop (i * 5)++cur.toList.drop ((i+1) * 5+(xs.drop (i * 5)).length)).toArray:=⟨_,rfl⟩
 have Ti:(xs.drop (i * 5)).length=(n - i) * 5:=by simp [wG]; omega
 have HM:Hid (∀ ty dc sc,(Builtin.copy_ #[76,76] ty #[.slice (some ⟨g,(i+1) * 5,none⟩) (n - i) dc,.slice (some ⟨g,i * 5,none⟩) (n+1 - i) sc]).run Tryz.prog w.drew=.ok (goInt ((n - i:Nat):Int)) (w.drew.setRow g nG)):=fun ty dc sc=>by
  have tZ:Nat.min (n+1 - i) (n - i)=n - i:=by simp only [Nat.min_def]; split <;> omega
  have:=jn (P:=Tryz.prog) w.drew 76 76 ty 179 5 g ((i+1) * 5) (n - i) dc ⟨g,i * 5,none⟩ (n+1 - i) sc cur 179 (xs.drop (i * 5)) Tryz.underlying76 Tryz.sizeOf179 hg (by rw [tZ]; exact Ti)
   (fun j v hj=>by
    rw [Addr.add_lit]
    rw [List.getElem?_drop,← BW,List.getElem?_take] at hj
    split at hj
    ·show w.cell? _=_
     simp [World.cell?,hg]; simpa using hj
    ·cases hj) (by omega) (fun v hv=>h1 v (List.mem_of_mem_drop hv))
  rw [this,tZ,zA]
 have OL:nG.size=cur.size:=by rw [zA]; simp [wG]; omega
 have Ru:(w.drew.setRow g nG).heap[g]?=some (.cells nG 179 (0,0)):=setRow_heap w.drew g cur nG 179 _ hg
 obtain ⟨Fy,Ed⟩:∃ Fy,Fy=(nG.toList.take (i * 5)++vs++nG.toList.drop (i * 5+vs.length)).toArray:=⟨_,rfl⟩
 have FM:Hid (∀ ty dc,(Builtin.copy_ #[76,76] ty #[.slice (some ⟨g,i * 5,none⟩) (n+1 - i) dc,.slice (some ⟨vb,0,none⟩) 1 vc]).run Tryz.prog (w.drew.setRow g nG)=.ok (goInt ((1:Nat):Int)) (w.drew.setRow g Fy)):=fun ty dc=>by
  have tZ:Nat.min 1 (n+1 - i)=1:=by simp only [Nat.min_def]; split <;> omega
  have:=jn (P:=Tryz.prog) (w.drew.setRow g nG) 76 76 ty 179 5 g (i * 5) (n+1 - i) dc ⟨vb,0,none⟩ 1 vc nG 179 vs Tryz.underlying76 Tryz.sizeOf179 Ru (by rw [tZ]; exact nU)
   (fun j v hj=>by
    rw [Addr.add_lit]
    rw [← G1,List.getElem?_take] at hj
    split at hj
    ·have hb:(w.drew.setRow g nG).heap[vb]?=some (.cells pP 179 (0,0)):=(setRow_other w.drew g vb nG eE).trans hv
     simp [World.cell?,hb]; simpa using hj
    ·cases hj) (by omega) FI
  rw [this,tZ,Ed,setRow_setRow]
 obtain ⟨W1,GU⟩:∃ W1,W1=w.drew.setRow g nG:=⟨_,rfl⟩
 obtain ⟨W2,yg⟩:∃ W2,W2=w.drew.setRow g Fy:=⟨_,rfl⟩
 have F:Aside (kH w W2 179 5 (.slice (some ⟨g,0,none⟩) n cap) (.slice (some ⟨g,0,none⟩) (n+1) cap) (n+1) (xs.take (i * 5)++vs++xs.drop (i * 5))):=by
  refine ⟨⟨by simp [wG,nU]; omega,.inr ⟨g,cap,Fy,rfl,Nat.zero_le _,by rw [yg]; exact setRow_heap w.drew g cur Fy 179 _ hg,ug,hcm,by rw [Ed]; simp [nU]; omega,?_⟩⟩,⟨by rw [yg]; rfl,by rw [yg]; rfl,by rw [yg]; rfl,by rw [yg]; simp,fun k _ hk=>by rw [yg]; exact setRow_other w.drew g k _ (fun e=>hk (by simp [Value.ownBlock,e]))⟩,fun b hb=>.inl (by simpa [Value.ownBlock] using hb),by rw [yg]; show w.drawn≤w.drew.drawn; simp⟩
  have e1:nG.toList.take (i * 5)=xs.take (i * 5):=by
   rw [zA,List.append_assoc]
   rw [List.take_append_of_le_length (by simp; omega),List.take_take,← BW,List.take_take]
   congr 1
   omega
  have e2:nG.toList.drop (i * 5+vs.length)=xs.drop (i * 5)++cur.toList.drop ((i+1) * 5+(xs.drop (i * 5)).length):=by
   rw [zA,List.append_assoc]
   exact List.drop_left' (by simp [nU]; omega)
  rw [Ed,e1,e2]
  show List.take ((n+1) * 5) (xs.take (i * 5)++vs++(xs.drop (i * 5)++_))=_
  rw [← List.append_assoc]
  exact List.take_left' (by simp [wG,nU]; omega)
 rw [← GU] at HM FM
 rw [← yg] at FM
 clear zA Ed Ru OL GU yg Ti h1 FI nU G1 hv BW wG hg hcs
 have mixed:Tryz.prog.follows .mixedOrders=true:=by kernel_rfl
 have BX:¬ ((i:Int)=(n:Int)):=by omega
 have hw1:IntKind.i64.wrap ((i:Int)+1)=(i:Int)+1:=by rw [IntKind.wrap_i64]; omega
 have Ox:(0:Int)≤(i:Int)+1:=by omega
 have hin:i≤n:=by omega
 have XA:((i:Int)+1).toNat=i+1:=by omega
 have hb2:¬ (cap=i+1):=by omega
 have hb3:(i:Int)≤(n:Int)+1:=by omega
 have bY:¬ (cap=i):=by omega
 go_enter Tryz.func187,Tryz.ntmps187
 go_wp2_with (simp only [hov])
 go_region_law_o (refine ku rfl (.tmp 73) (.tmp 76) 76 76 rfl (.slice (some ⟨g,(i+1) * 5,none⟩) (n - i) (cap - (i+1))) (.slice (some ⟨g,i * 5,none⟩) (n+1 - i) (cap - i)) (by simp [Act.eval,Act.put]) (by simp [Act.eval,Act.put]) (HM.out _ _ _) ?_)
 go_wp2_with (simp only [FM.out])
 go_ret
 exact ⟨_,rfl,F.out⟩
set_option maxHeartbeats 4000000 in
set_option maxRecDepth 100000 in
theorem LF (g cap n i vb vc:Nat) (cur pP:Array Value) (xs vs:List Value) (w:World) (hg:w.heap[g]?=some (.cells cur 179 (0,0))) (mh:n≤cap) (ug:cap<n+1) (hn:n≤549755813887) (hcs:cur.size=cap * 5) (BW:cur.toList.take (n * 5)=xs) (h1:∀ y ∈ xs,y.oneCell'=true) (hi:i<n)
  (hv:w.heap[vb]?=some (.cells pP 179 (0,0))) (G1:pP.toList.take 5=vs) (nU:vs.length=5) (FI:∀ v ∈ vs,v.oneCell'=true) :
  Calls Tryz.prog 187 #[.slice (some ⟨g,0,none⟩) n cap,.int .i64 i,.slice (some ⟨vb,0,none⟩) 1 vc] w fun e w'=>∃ u',e=.returned u'∧kH w w' 179 5 (.slice (some ⟨g,0,none⟩) n cap) u' (n+1) (xs.take (i * 5)++vs++xs.drop (i * 5)):=by
 obtain rfl:cap=n:=by omega
 have wG:xs.length=cap * 5:=by rw [← BW]; simp; omega
 have Su:g<w.heap.size:=(Array.getElem?_eq_some_iff.1 hg).1
 have S0:vb<w.heap.size:=(Array.getElem?_eq_some_iff.1 hv).1
 obtain ⟨h,hh⟩:∃ h,h=w.heap.size:=⟨_,rfl⟩
 obtain ⟨NC,VC⟩:∃ NC,NC=grownCap w (cap+1) cap 179:=⟨_,rfl⟩
 have Wp:cap+1≤NC:=by rw [VC]; exact grownCap_ge w (cap+1) cap 179
 have Oq:NC≤maxLen:=by rw [VC]; exact grownCap_le_maxLen w (cap+1) cap 179 (by simp only [maxLen]; omega)
 have aak:NC≤9223372036854775807:=by simp only [maxLen] at Oq; omega
 obtain ⟨nc,Lu⟩:∃ nc:Array Value,nc=(xs.take (i * 5)).toArray++Builtin.zeroCells (Value.agg #[.int .i64 0,.slice none 0 0,.slice none 0 0,.slice none 0 0,.bool false]).cells (cap+1 - i)++Builtin.zeroCells (Value.agg #[.int .i64 0,.slice none 0 0,.slice none 0 0,.slice none 0 0,.bool false]).cells (NC - (cap+1)):=⟨_,rfl⟩
 have W6:nc.size=NC * 5:=by rw [Lu]; simp [Builtin.zeroCells,Value.cells,wG]; omega
 have Lj:Hid (∀ ty,(Builtin.append_ #[76,3] ty #[.slice (some ⟨g,0,none⟩) i cap,.int .i64 ((cap:Int)+1 - (i:Int))]).run Tryz.prog w=.ok (.slice (some ⟨h,0,none⟩) (cap+1) NC) (w.drew.alloc (.cells nc 179))):=fun ty=>by
  have:=nz (P:=Tryz.prog) w 76 3 ty 179 Tryz.t179 _ .i64 .i64 Tryz.underlying76 Tryz.underlying3 rfl Ke ⟨g,0,none⟩ i cap (xs.take (i * 5)) (by show _=i * 5; simp [wG]; omega)
   (fun j v hj=>by
    rw [Addr.add_lit]
    rw [List.getElem?_take] at hj
    split at hj
    ·rw [← BW,List.getElem?_take] at hj
     split at hj
     ·simp [World.cell?,hg]; simpa using hj
     ·cases hj
    ·cases hj) (cap+1 - i) (by omega) (by decide) (by omega) (by omega) (by show (cap+1 - i) * 88≤_; omega) (growslice_fits (by omega) (by show (i+(cap+1 - i)) * 88≤_; omega))
  have e1:((cap+1 - i:Nat):Int)=(cap:Int)+1 - (i:Int):=by omega
  have e2:i+(cap+1 - i)=cap+1:=by omega
  rw [e1,e2,← VC,← hh,← Lu] at this
  exact this
 obtain ⟨W0,Lh⟩:∃ W0,W0=w.drew.alloc (.cells nc 179):=⟨_,rfl⟩
 have WQ:W0.heap[h]?=some (.cells nc 179 (0,0)):=by rw [Lh,hh]; exact heap_alloc_new w.drew _
 have hold:∀ b,b<w.heap.size→W0.heap[b]?=w.heap[b]?:=fun b hb=>by rw [Lh]; exact _root_.Go.heap_alloc_old w.drew _ hb
 obtain ⟨c1,hc1⟩:∃ c1,c1=(nc.toList.take (i * 5)++vs++nc.toList.drop (i * 5+vs.length)).toArray:=⟨_,rfl⟩
 have WC:c1.size=nc.size:=by rw [hc1]; simp [nU]; omega
 have HM:Hid (∀ ty dc,(Builtin.copy_ #[76,76] ty #[.slice (some ⟨h,i * 5,none⟩) (cap+1 - i) dc,.slice (some ⟨vb,0,none⟩) 1 vc]).run Tryz.prog W0=.ok (goInt ((1:Nat):Int)) (W0.setRow h c1)):=fun ty dc=>by
  have tZ:Nat.min 1 (cap+1 - i)=1:=by simp only [Nat.min_def]; split <;> omega
  have:=jn (P:=Tryz.prog) W0 76 76 ty 179 5 h (i * 5) (cap+1 - i) dc ⟨vb,0,none⟩ 1 vc nc 179 vs Tryz.underlying76 Tryz.sizeOf179 WQ (by rw [tZ]; exact nU)
   (fun j v hj=>by
    rw [Addr.add_lit]
    rw [← G1,List.getElem?_take] at hj
    split at hj
    ·have hb:=(hold vb S0).trans hv
     simp [World.cell?,hb]; simpa using hj
    ·cases hj) (by omega) FI
  rw [this,tZ,hc1]
 obtain ⟨W1,GU⟩:∃ W1,W1=W0.setRow h c1:=⟨_,rfl⟩
 have Ru:W1.heap[h]?=some (.cells c1 179 (0,0)):=by rw [GU]; exact setRow_heap W0 h nc c1 179 _ WQ
 have H8:∀ b,b<w.heap.size→W1.heap[b]?=w.heap[b]?:=fun b hb=>by rw [GU,setRow_other W0 h b c1 (by omega)]; exact hold b hb
 obtain ⟨c2,dI⟩:∃ c2,c2=(c1.toList.take ((i+1) * 5)++xs.drop (i * 5)++c1.toList.drop ((i+1) * 5+(xs.drop (i * 5)).length)).toArray:=⟨_,rfl⟩
 have Ti:(xs.drop (i * 5)).length=(cap - i) * 5:=by simp [wG]; omega
 have FM:Hid (∀ ty dc sc,(Builtin.copy_ #[76,76] ty #[.slice (some ⟨h,(i+1) * 5,none⟩) (cap - i) dc,.slice (some ⟨g,i * 5,none⟩) (cap - i) sc]).run Tryz.prog W1.drew=.ok (goInt ((cap - i:Nat):Int)) (W1.drew.setRow h c2)):=fun ty dc sc=>by
  have tZ:Nat.min (cap - i) (cap - i)=cap - i:=by simp [Nat.min_def]
  have:=jn (P:=Tryz.prog) W1.drew 76 76 ty 179 5 h ((i+1) * 5) (cap - i) dc ⟨g,i * 5,none⟩ (cap - i) sc c1 179 (xs.drop (i * 5)) Tryz.underlying76 Tryz.sizeOf179 Ru (by rw [tZ]; exact Ti)
   (fun j v hj=>by
    rw [Addr.add_lit]
    rw [List.getElem?_drop,← BW,List.getElem?_take] at hj
    split at hj
    ·show W1.cell? _=_
     have hb:=(H8 g Su).trans hg
     simp [World.cell?,hb]; simpa using hj
    ·cases hj) (by omega) (fun v hv=>h1 v (List.mem_of_mem_drop hv))
  rw [this,tZ,dI]
 obtain ⟨W2,yg⟩:∃ W2,W2=W1.drew.setRow h c2:=⟨_,rfl⟩
 have F:Aside (kH w W2 179 5 (.slice (some ⟨g,0,none⟩) cap cap) (.slice (some ⟨h,0,none⟩) (cap+1) NC) (cap+1) (xs.take (i * 5)++vs++xs.drop (i * 5))):=by
  refine ⟨⟨by simp [wG,nU]; omega,.inr ⟨h,NC,c2,rfl,Nat.zero_le _,by rw [yg]; exact setRow_heap W1.drew h c1 c2 179 _ Ru,Wp,Oq,by rw [dI]; simp [wG]; omega,?_⟩⟩,⟨by rw [yg,GU,Lh]; rfl,by rw [yg,GU,Lh]; rfl,by rw [yg,GU,Lh]; rfl,by rw [yg,GU,Lh]; simp,fun k hk _=>by rw [yg,setRow_other W1.drew h k _ (by omega)]; exact H8 k hk⟩,fun b hb=>.inr (by simp [Value.ownBlock] at hb; omega),by rw [yg,GU,Lh]; show w.drawn≤w.drawn+1+1; omega⟩
  have e0:nc.toList.take (i * 5)=xs.take (i * 5):=by
   rw [Lu]
   simp only [Array.toList_append,List.append_assoc]
   exact List.take_left' (by simp [wG]; omega)
  have e1:c1.toList.take ((i+1) * 5)=xs.take (i * 5)++vs:=by
   rw [hc1,e0]
   exact List.take_left' (by simp [wG,nU]; omega)
  rw [dI,e1]
  exact List.take_left' (by simp [wG,nU]; omega)
 rw [← Lh] at Lj
 rw [← GU] at HM
 rw [← yg] at FM
 clear hcs BW h1 hv G1 nU FI wG Su S0 hh VC Oq Lu W6 Lh WQ hold hc1 WC GU Ru H8 dI Ti yg hg
 have mixed:Tryz.prog.follows .mixedOrders=true:=by kernel_rfl
 have BX:¬ ((i:Int)=(cap:Int)):=by omega
 have hw1:IntKind.i64.wrap ((i:Int)+1)=(i:Int)+1:=by rw [IntKind.wrap_i64]; omega
 have qf:IntKind.i64.wrap ((cap:Int)+1)=(cap:Int)+1:=by rw [IntKind.wrap_i64]; omega
 have VM:IntKind.i64.wrap ((cap:Int)+1 - (i:Int))=(cap:Int)+1 - (i:Int):=by rw [IntKind.wrap_i64]; omega
 have Ox:(0:Int)≤(i:Int)+1:=by omega
 have hin:i≤cap:=by omega
 have XA:((i:Int)+1).toNat=i+1:=by omega
 have hb2:¬ (NC=i+1):=by omega
 have hb3:(i:Int)≤(cap:Int)+1:=by omega
 have bY:¬ (NC=i):=by omega
 have eD:¬ (cap=i):=by omega
 have bV:(i:Int)+1≤(cap:Int)+1:=by omega
 have cI:i≤cap+1:=by omega
 go_enter Tryz.func187,Tryz.ntmps187
 go_wp2_with (first | (at_builtin; refine Lib.wpList_append_run _ rfl _ _ _ _ rfl _ _ rfl rfl _ _ (Lj.out _) ?_) | (simp only [HM.out]))
 go_region_law_o (refine ku rfl (.tmp 50) (.tmp 53) 76 76 rfl (.slice (some ⟨h,(i+1) * 5,none⟩) (cap - i) (NC - (i+1))) (.slice (some ⟨g,i * 5,none⟩) (cap - i) (cap - i)) (by simp [Act.eval,Act.put]) (by simp [Act.eval,Act.put]) (FM.out _ _ _) ?_)
 go_wp2
 go_ret
 exact ⟨_,rfl,F.out⟩
theorem LJ:RQ Tryz.prog 187 179 5:=by
 intro u n i xs v vs w bN h1 hi hn hv FI eE
 rcases hv.2 with ⟨_,h0⟩ | ⟨vb,vc,pP,rfl,_,XP,hvc,_,G1,hvt⟩
 ·cases h0
 ·have nU:vs.length=5:=by have:=hv.1; omega
  have Po:pP.toList.take 5=vs:=by simpa using hvt
  by_cases hin:i=n
  ·subst hin
   have:=LD u i vb vc xs vs pP w bN hn XP Po nU FI
   have e1:xs.take (i * 5)=xs:=List.take_of_length_le (by rw [bN.1]; exact Nat.le_refl _)
   have e2:xs.drop (i * 5)=[]:=List.drop_of_length_le (by rw [bN.1]; exact Nat.le_refl _)
   rw [e1,e2,List.append_nil]
   exact this
  ·rcases bN.2 with ⟨_,rfl⟩ | ⟨g,cap,cur,rfl,_,hg,mh,hcm,hcs,wE⟩
   ·omega
   ·by_cases ug:n+1≤cap
    ·exact LG g cap n i vb vc cur pP xs vs w hg ug hcm hcs wE h1 (by omega) XP Po nU FI (fun h=>eE vb rfl (by simp [Value.ownBlock,h]))
    ·exact LF g cap n i vb vc cur pP xs vs w hg mh (by omega) hn hcs wE h1 (by omega) XP Po nU FI
theorem Yt:Tryz.t4.zero=some (.bool false):=by kernel_rfl
set_option maxHeartbeats 4000000 in
set_option maxRecDepth 100000 in
theorem Fw:te Tryz.prog 192 4 1:=by
 intro a n cap news w hl hnil hc h1 hn
 have abE:∀ (w:World) (a:Option Addr) (n c n' c':Nat),(binOp .eql 151 (.slice a n c) (.slice none n' c')).run Tryz.prog w=.ok (.bool a.isNone) w:=fun w a n c n' c'=>Lib.run_eql_slice_nil w _ _ a n c n' c' Tryz.underlying151
 cases a with
 | none =>
  have KQ:=hnil rfl
  subst KQ
  have ni:news=[]:=List.eq_nil_of_length_eq_zero (by simpa using hl)
  subst ni
  clear hl hnil hc h1 hn
  go_enter Tryz.func192,Tryz.ntmps192
  go_wp2
  go_ret
  exact ⟨_,rfl,⟨World.ownsRow_nil w 0 4 1,⟨rfl,rfl,rfl,Nat.le_refl _,fun _ _ _=>rfl⟩,fun b hb=>.inl hb,Nat.le_refl _⟩⟩
 | some ad =>
  have bN:(w.alloc (.cells #[] 4)).ownsRow 0 4 1 (.slice (some ⟨w.heap.size,0,none⟩) 0 0) 0 []:=World.ownsRow_made w #[] 0 (Nat.zero_le _) (Nat.zero_le _) (by simp)
  obtain ⟨u',w',hr,h2,h3,h4,_,h6⟩:=fy (P:=Tryz.prog) (t:=151) (ty:=151) Tryz.underlying151 (i:=Tryz.t4) rfl Yt (by kernel_rfl) (by decide) (by decide) bN (q:=n) (cap:=cap) (a:=ad) (news:=news) hl (fun j u hj=>Lib.cell?_alloc_some _ (hc ad rfl j u hj)) h1 (by omega)
  have kJ:Hid (∀ ty,(Builtin.append_ #[151,151] ty #[.slice (some ⟨w.heap.size,0,none⟩) 0 0,.slice (some ad) n cap]).run Tryz.prog (w.alloc (.cells #[] 4))=.ok u' w'):=fun ty=>(lC ▸ hr)
  have F:Aside (kH w w' 4 1 (.slice none 0 0) u' n news):=by
   have Ld:w'.ownsRow 0 4 1 u' (0+n) ([]++news):=h2
   refine ⟨by simpa using Ld,⟨h3.os,h3.tape,h3.output,Nat.le_trans (by simp) h3.size,fun k hk _=>(h3.block k (by simp; omega) (by simp [Value.ownBlock]; omega)).trans (_root_.Go.heap_alloc_old w _ hk)⟩,fun b hb=>.inr ?_,Nat.le_trans (Nat.le_refl _) h6⟩
   rcases h4 b hb with h | h
   ·simp [Value.ownBlock] at h; omega
   ·simp at h; omega
  clear hl hnil hc h1 hn bN hr h2 h3 h4 h6
  go_enter Tryz.func192,Tryz.ntmps192
  go_wp2_with (at_builtin; refine Lib.wpList_append_run _ rfl _ _ _ _ rfl _ _ rfl rfl _ _ (kJ.out _) ?_)
  go_ret
  exact ⟨_,rfl,F.out⟩
theorem QZ:Tryz.t182.zero=some (.agg #[.int .i64 0,.int .i64 0,.int .i64 0]):=by kernel_rfl
set_option maxHeartbeats 4000000 in
set_option maxRecDepth 100000 in
theorem Fx:te Tryz.prog 193 182 3:=by
 intro a n cap news w hl hnil hc h1 hn
 have abF:∀ (w:World) (a:Option Addr) (n c n' c':Nat),(binOp .eql 177 (.slice a n c) (.slice none n' c')).run Tryz.prog w=.ok (.bool a.isNone) w:=fun w a n c n' c'=>Lib.run_eql_slice_nil w _ _ a n c n' c' Tryz.underlying177
 cases a with
 | none =>
  have KQ:=hnil rfl
  subst KQ
  have ni:news=[]:=List.eq_nil_of_length_eq_zero (by simpa using hl)
  subst ni
  clear hl hnil hc h1 hn
  go_enter Tryz.func193,Tryz.ntmps193
  go_wp2
  go_ret
  exact ⟨_,rfl,⟨World.ownsRow_nil w 0 182 3,⟨rfl,rfl,rfl,Nat.le_refl _,fun _ _ _=>rfl⟩,fun b hb=>.inl hb,Nat.le_refl _⟩⟩
 | some ad =>
  have bN:(w.alloc (.cells #[] 182)).ownsRow 0 182 3 (.slice (some ⟨w.heap.size,0,none⟩) 0 0) 0 []:=World.ownsRow_made w #[] 0 (Nat.zero_le _) (Nat.zero_le _) (by simp)
  obtain ⟨u',w',hr,h2,h3,h4,_,h6⟩:=fy (P:=Tryz.prog) (t:=177) (ty:=177) Tryz.underlying177 (i:=Tryz.t182) rfl QZ (by kernel_rfl) (by decide) (by decide) bN (q:=n) (cap:=cap) (a:=ad) (news:=news) hl (fun j u hj=>Lib.cell?_alloc_some _ (hc ad rfl j u hj)) h1 (by omega)
  have kJ:Hid (∀ ty,(Builtin.append_ #[177,177] ty #[.slice (some ⟨w.heap.size,0,none⟩) 0 0,.slice (some ad) n cap]).run Tryz.prog (w.alloc (.cells #[] 182))=.ok u' w'):=fun ty=>(lC ▸ hr)
  have F:Aside (kH w w' 182 3 (.slice none 0 0) u' n news):=by
   have Ld:w'.ownsRow 0 182 3 u' (0+n) ([]++news):=h2
   refine ⟨by simpa using Ld,⟨h3.os,h3.tape,h3.output,Nat.le_trans (by simp) h3.size,fun k hk _=>(h3.block k (by simp; omega) (by simp [Value.ownBlock]; omega)).trans (_root_.Go.heap_alloc_old w _ hk)⟩,fun b hb=>.inr ?_,Nat.le_trans (Nat.le_refl _) h6⟩
   rcases h4 b hb with h | h
   ·simp [Value.ownBlock] at h; omega
   ·simp at h; omega
  clear hl hnil hc h1 hn bN hr h2 h3 h4 h6
  go_enter Tryz.func193,Tryz.ntmps193
  go_wp2_with (at_builtin; refine Lib.wpList_append_run _ rfl _ _ _ _ rfl _ _ rfl rfl _ _ (kJ.out _) ?_)
  go_ret
  exact ⟨_,rfl,F.out⟩
end Go.Proofs.YtiinmaihgmfniaaGreat
