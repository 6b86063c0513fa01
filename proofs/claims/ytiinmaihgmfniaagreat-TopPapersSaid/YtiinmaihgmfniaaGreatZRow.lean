import Derived.Test.YtiinmaihgmfniaaGreatProg
import Derived.Shelf.RegionOpenPlain
import Derived.WalkKit
import Derived.Deep.LoopGhost
import Derived.Deep.RegionLaw
import Derived.Lib.Walk
import Derived.Sort.WalkB12
import Derived.Shelf.SlicesE.Kit
import Derived.Laws.Externs
import Derived.Test.YtiinmaihgmfniaaGreatZLb
set_option linter.unusedVariables false
set_option linter.unusedSimpArgs false
namespace Go.Proofs.YtiinmaihgmfniaaGreat
open Go.L Go.Shelf Go.RowKit Go.Lib Go.Sort
theorem adw:Tryz.t3.zero=some (.int .i64 0):=by kernel_rfl
set_option maxHeartbeats 4000000 in
set_option maxRecDepth 100000 in
theorem mO:E9 Tryz.prog 67 3 1:=by
 intro a n cap news w hl hnil hc h1 hn
 have q22:∀ (w:World) (a:Option Addr) (n c n' c':Nat),(binOp .eql 22 (.slice a n c) (.slice none n' c')).run Tryz.prog w=.ok (.bool a.isNone) w:=fun w a n c n' c'=>Lib.run_eql_slice_nil w _ _ a n c n' c' Tryz.underlying22
 cases a with
 | none =>
  have Vg:=hnil rfl
  subst Vg
  have tK:news=[]:=List.eq_nil_of_length_eq_zero (by simpa using hl)
  subst tK
  clear hl hnil hc h1 hn
  go_enter Tryz.func67,Tryz.ntmps67
  go_wp2
  go_ret
  exact ⟨_,rfl,⟨World.ownsRow_nil w 0 3 1,⟨rfl,rfl,rfl,Nat.le_refl _,fun _ _ _=>rfl⟩,fun b hb=>.inl hb,Nat.le_refl _⟩⟩
 | some ad =>
  have bt:(w.alloc (.cells #[] 3)).ownsRow 0 3 1 (.slice (some ⟨w.heap.size,0,none⟩) 0 0) 0 []:=World.ownsRow_made w #[] 0 (Nat.zero_le _) (Nat.zero_le _) (by simp)
  obtain ⟨u',w',hr,h2,h3,h4,_,h6⟩:=ja (P:=Tryz.prog) (t:=22) (ty:=22) Tryz.underlying22 (i:=Tryz.t3) rfl adw (by kernel_rfl) (by decide) (by decide) bt (q:=n) (cap:=cap) (a:=ad) (news:=news) hl (fun j u hj=>Lib.cell?_alloc_some _ (hc ad rfl j u hj)) h1 (by omega)
  have om:Hid (∀ ty,(Builtin.append_ #[22,22] ty #[.slice (some ⟨w.heap.size,0,none⟩) 0 0,.slice (some ad) n cap]).run Tryz.prog (w.alloc (.cells #[] 3))=.ok u' w'):=fun ty=>(sM ▸ hr)
  have F:Aside (mJ w w' 3 1 (.slice none 0 0) u' n news):=by
   have VX:w'.ownsRow 0 3 1 u' (0+n) ([]++news):=h2
   refine ⟨by simpa using VX,⟨h3.os,h3.tape,h3.output,Nat.le_trans (by simp) h3.size,fun k hk _=>(h3.block k (by simp; omega) (by simp [Value.ownBlock]; omega)).trans (_root_.Go.heap_alloc_old w _ hk)⟩,fun b hb=>.inr ?_,Nat.le_trans (Nat.le_refl _) h6⟩
   rcases h4 b hb with h | h
   ·simp [Value.ownBlock] at h; omega
   ·simp at h; omega
  clear hl hnil hc h1 hn bt hr h2 h3 h4 h6
  go_enter Tryz.func67,Tryz.ntmps67
  go_wp2_with (at_builtin; refine Lib.wpList_append_run _ rfl _ _ _ _ rfl _ _ rfl rfl _ _ (om.out _) ?_)
  go_ret
  exact ⟨_,rfl,F.out⟩
theorem UA:Tryz.t185.zero=some (.agg #[.int .i64 0,.int .i64 0,.int .i64 0,.int .i64 0,.int .i64 0,.int .i64 0]):=by kernel_rfl
set_option maxHeartbeats 4000000 in
set_option maxRecDepth 100000 in
theorem IM:E9 Tryz.prog 179 185 6:=by
 intro a n cap news w hl hnil hc h1 hn
 have ag7:∀ (w:World) (a:Option Addr) (n c n' c':Nat),(binOp .eql 106 (.slice a n c) (.slice none n' c')).run Tryz.prog w=.ok (.bool a.isNone) w:=fun w a n c n' c'=>Lib.run_eql_slice_nil w _ _ a n c n' c' Tryz.underlying106
 cases a with
 | none =>
  have Vg:=hnil rfl
  subst Vg
  have tK:news=[]:=List.eq_nil_of_length_eq_zero (by simpa using hl)
  subst tK
  clear hl hnil hc h1 hn
  go_enter Tryz.func179,Tryz.ntmps179
  go_wp2
  go_ret
  exact ⟨_,rfl,⟨World.ownsRow_nil w 0 185 6,⟨rfl,rfl,rfl,Nat.le_refl _,fun _ _ _=>rfl⟩,fun b hb=>.inl hb,Nat.le_refl _⟩⟩
 | some ad =>
  have bt:(w.alloc (.cells #[] 185)).ownsRow 0 185 6 (.slice (some ⟨w.heap.size,0,none⟩) 0 0) 0 []:=World.ownsRow_made w #[] 0 (Nat.zero_le _) (Nat.zero_le _) (by simp)
  obtain ⟨u',w',hr,h2,h3,h4,_,h6⟩:=ja (P:=Tryz.prog) (t:=106) (ty:=106) Tryz.underlying106 (i:=Tryz.t185) rfl UA (by kernel_rfl) (by decide) (by decide) bt (q:=n) (cap:=cap) (a:=ad) (news:=news) hl (fun j u hj=>Lib.cell?_alloc_some _ (hc ad rfl j u hj)) h1 (by omega)
  have om:Hid (∀ ty,(Builtin.append_ #[106,106] ty #[.slice (some ⟨w.heap.size,0,none⟩) 0 0,.slice (some ad) n cap]).run Tryz.prog (w.alloc (.cells #[] 185))=.ok u' w'):=fun ty=>(sM ▸ hr)
  have F:Aside (mJ w w' 185 6 (.slice none 0 0) u' n news):=by
   have VX:w'.ownsRow 0 185 6 u' (0+n) ([]++news):=h2
   refine ⟨by simpa using VX,⟨h3.os,h3.tape,h3.output,Nat.le_trans (by simp) h3.size,fun k hk _=>(h3.block k (by simp; omega) (by simp [Value.ownBlock]; omega)).trans (_root_.Go.heap_alloc_old w _ hk)⟩,fun b hb=>.inr ?_,Nat.le_trans (Nat.le_refl _) h6⟩
   rcases h4 b hb with h | h
   ·simp [Value.ownBlock] at h; omega
   ·simp at h; omega
  clear hl hnil hc h1 hn bt hr h2 h3 h4 h6
  go_enter Tryz.func179,Tryz.ntmps179
  go_wp2_with (at_builtin; refine Lib.wpList_append_run _ rfl _ _ _ _ rfl _ _ rfl rfl _ _ (om.out _) ?_)
  go_ret
  exact ⟨_,rfl,F.out⟩
theorem Nx:Tryz.t179.zero=some (.agg #[.int .i64 0,.slice none 0 0,.slice none 0 0,.slice none 0 0,.bool false]):=by kernel_rfl
set_option maxHeartbeats 4000000 in
set_option maxRecDepth 100000 in
theorem Pa (u:Value) (n vb vc:Nat) (xs vs:List Value) (qZ:Array Value) (w:World) (bt:w.ownsRow 0 179 5 u n xs) (hn:n≤549755813887)
  (hv:w.heap[vb]?=some (.cells qZ 179 (0,0))) (Kb:qZ.toList.take 5=vs) (pg:vs.length=5) (IZ:∀ v ∈ vs,v.oneCell'=true) :
  Calls Tryz.prog 187 #[u,.int .i64 n,.slice (some ⟨vb,0,none⟩) 1 vc] w fun e w'=>∃ u',e=.returned u'∧mJ w w' 179 5 u u' (n+1) (xs++vs):=by
 have hsrc:∀ j x,vs[j]?=some x→w.cell? ((⟨vb,0,none⟩:Addr).add j)=some x:=by
  intro j x hx
  rw [Addr.add_lit]
  rw [← Kb,List.getElem?_take] at hx
  split at hx
  ·simp [World.cell?,hv]; simpa using hx
  ·cases hx
 obtain ⟨u',w',hr,h2,h3,h4,_,h6⟩:=ja (P:=Tryz.prog) (t:=76) (ty:=76) Tryz.underlying76 (i:=Tryz.t179) rfl Nx (by kernel_rfl) (by decide) (by decide) bt (q:=1) (cap:=vc) (news:=vs) pg hsrc IZ (by omega)
 have om:Hid (∀ ty,(Builtin.append_ #[76,76] ty #[u,.slice (some ⟨vb,0,none⟩) 1 vc]).run Tryz.prog w=.ok u' w'):=fun ty=>(sM ▸ hr)
 have mixed:Tryz.prog.follows .mixedOrders=true:=by kernel_rfl
 have F:Aside (mJ w w' 179 5 u u' (n+1) (xs++vs)):=⟨h2,h3,h4,h6⟩
 rcases bt.2 with ⟨rfl,rfl⟩ | ⟨g,cap,cur,rfl,_,hg,mG,hcm,hcs,uP⟩
 ·clear bt h2 h3 h4 h6 hr hsrc IZ pg Kb hv
  go_enter Tryz.func187,Tryz.ntmps187
  go_wp2_with (at_builtin; refine Lib.wpList_append_run _ rfl _ _ _ _ rfl _ _ rfl rfl _ _ (om.out _) ?_)
  go_ret
  exact ⟨_,rfl,F.out⟩
 ·have afS:cap≤9223372036854775807:=by simp only [maxLen] at hcm; omega
  clear bt h2 h3 h4 h6 hr hsrc IZ pg Kb hv hg hcs uP
  by_cases hcn:cap=n
  ·subst hcn
   go_enter Tryz.func187,Tryz.ntmps187
   go_wp2_with (at_builtin; refine Lib.wpList_append_run _ rfl _ _ _ _ rfl _ _ rfl rfl _ _ (om.out _) ?_)
   all_goals (go_ret; exact ⟨_,rfl,F.out⟩)
  ·go_enter Tryz.func187,Tryz.ntmps187
   go_wp2_with (at_builtin; refine Lib.wpList_append_run _ rfl _ _ _ _ rfl _ _ rfl rfl _ _ (om.out _) ?_)
   all_goals (go_ret; exact ⟨_,rfl,F.out⟩)
set_option maxHeartbeats 4000000 in
set_option maxRecDepth 100000 in
theorem Pc (g cap n i vb vc:Nat) (cur qZ:Array Value) (xs vs:List Value) (w:World) (hg:w.heap[g]?=some (.cells cur 179 (0,0))) (vX:n+1≤cap) (hcm:cap≤maxLen) (hcs:cur.size=cap * 5) (Bm:cur.toList.take (n * 5)=xs) (h1:∀ y ∈ xs,y.oneCell'=true) (hi:i<n)
  (hv:w.heap[vb]?=some (.cells qZ 179 (0,0))) (Kb:qZ.toList.take 5=vs) (pg:vs.length=5) (IZ:∀ v ∈ vs,v.oneCell'=true) (eO:vb ≠ g) :
  Calls Tryz.prog 187 #[.slice (some ⟨g,0,none⟩) n cap,.int .i64 i,.slice (some ⟨vb,0,none⟩) 1 vc] w fun e w'=>∃ u',e=.returned u'∧mJ w w' 179 5 (.slice (some ⟨g,0,none⟩) n cap) u' (n+1) (xs.take (i * 5)++vs++xs.drop (i * 5)):=by
 have vZ:xs.length=n * 5:=by rw [← Bm]; simp; omega
 have V6:cap≤9223372036854775807:=by simp only [maxLen] at hcm; omega
 have hov:∀ lb cb,(callFunc 216 #[.slice (some ⟨vb,0,none⟩) 1 vc,.slice (some ⟨g,(i+1) * 5,none⟩) lb cb]).run Tryz.prog w=.ok (.value (.bool false)) w:=fun lb cb=>by
  rw [run_callFunc_extern Tryz.func216 (by kernel_rfl) (by kernel_rfl) (by kernel_rfl) (e:=Extern.SlicesOverlaps.overlaps #[76,76] #[4]) (by kernel_rfl),
   Lib.run_overlaps_apart w 76 4 179 Tryz.underlying76 5 Tryz.sizeOf179 ⟨vb,0,none⟩ ⟨g,(i+1) * 5,none⟩ 1 vc lb cb eO 179 179 qZ.size cur.size (by simp [World.shape?,hv]) (by simp [World.shape?,hg]) (by omega) (by simp [World.frozen?,hv]) (by simp [World.frozen?,hv])]
  rfl
 obtain ⟨o4,B4⟩:∃ o4,o4=(cur.toList.take ((i+1) * 5)++xs.drop (i * 5)++cur.toList.drop ((i+1) * 5+(xs.drop (i * 5)).length)).toArray:=⟨_,rfl⟩
 have Xd:(xs.drop (i * 5)).length=(n - i) * 5:=by simp [vZ]; omega
 have Lm:Hid (∀ ty dc sc,(Builtin.copy_ #[76,76] ty #[.slice (some ⟨g,(i+1) * 5,none⟩) (n - i) dc,.slice (some ⟨g,i * 5,none⟩) (n+1 - i) sc]).run Tryz.prog w.drew=.ok (goInt ((n - i:Nat):Int)) (w.drew.setRow g o4)):=fun ty dc sc=>by
  have vM:Nat.min (n+1 - i) (n - i)=n - i:=by simp only [Nat.min_def]; split <;> omega
  have:=jC (P:=Tryz.prog) w.drew 76 76 ty 179 5 g ((i+1) * 5) (n - i) dc ⟨g,i * 5,none⟩ (n+1 - i) sc cur 179 (xs.drop (i * 5)) Tryz.underlying76 Tryz.sizeOf179 hg (by rw [vM]; exact Xd)
   (fun j v hj=>by
    rw [Addr.add_lit]
    rw [List.getElem?_drop,← Bm,List.getElem?_take] at hj
    split at hj
    ·show w.cell? _=_
     simp [World.cell?,hg]; simpa using hj
    ·cases hj) (by omega) (fun v hv=>h1 v (List.mem_of_mem_drop hv))
  rw [this,vM,B4]
 have Sv:o4.size=cur.size:=by rw [B4]; simp [vZ]; omega
 have Vb:(w.drew.setRow g o4).heap[g]?=some (.cells o4 179 (0,0)):=setRow_heap w.drew g cur o4 179 _ hg
 obtain ⟨IN,Hv⟩:∃ IN,IN=(o4.toList.take (i * 5)++vs++o4.toList.drop (i * 5+vs.length)).toArray:=⟨_,rfl⟩
 have I3:Hid (∀ ty dc,(Builtin.copy_ #[76,76] ty #[.slice (some ⟨g,i * 5,none⟩) (n+1 - i) dc,.slice (some ⟨vb,0,none⟩) 1 vc]).run Tryz.prog (w.drew.setRow g o4)=.ok (goInt ((1:Nat):Int)) (w.drew.setRow g IN)):=fun ty dc=>by
  have vM:Nat.min 1 (n+1 - i)=1:=by simp only [Nat.min_def]; split <;> omega
  have:=jC (P:=Tryz.prog) (w.drew.setRow g o4) 76 76 ty 179 5 g (i * 5) (n+1 - i) dc ⟨vb,0,none⟩ 1 vc o4 179 vs Tryz.underlying76 Tryz.sizeOf179 Vb (by rw [vM]; exact pg)
   (fun j v hj=>by
    rw [Addr.add_lit]
    rw [← Kb,List.getElem?_take] at hj
    split at hj
    ·have hb:(w.drew.setRow g o4).heap[vb]?=some (.cells qZ 179 (0,0)):=(setRow_other w.drew g vb o4 eO).trans hv
     simp [World.cell?,hb]; simpa using hj
    ·cases hj) (by omega) IZ
  rw [this,vM,Hv,setRow_setRow]
 obtain ⟨W1,J4⟩:∃ W1,W1=w.drew.setRow g o4:=⟨_,rfl⟩
 obtain ⟨W2,Ap⟩:∃ W2,W2=w.drew.setRow g IN:=⟨_,rfl⟩
 have F:Aside (mJ w W2 179 5 (.slice (some ⟨g,0,none⟩) n cap) (.slice (some ⟨g,0,none⟩) (n+1) cap) (n+1) (xs.take (i * 5)++vs++xs.drop (i * 5))):=by
  refine ⟨⟨by simp [vZ,pg]; omega,.inr ⟨g,cap,IN,rfl,Nat.zero_le _,by rw [Ap]; exact setRow_heap w.drew g cur IN 179 _ hg,vX,hcm,by rw [Hv]; simp [pg]; omega,?_⟩⟩,⟨by rw [Ap]; rfl,by rw [Ap]; rfl,by rw [Ap]; rfl,by rw [Ap]; simp,fun k _ hk=>by rw [Ap]; exact setRow_other w.drew g k _ (fun e=>hk (by simp [Value.ownBlock,e]))⟩,fun b hb=>.inl (by simpa [Value.ownBlock] using hb),by rw [Ap]; show w.drawn≤w.drew.drawn; simp⟩
  have e1:o4.toList.take (i * 5)=xs.take (i * 5):=by
   rw [B4,List.append_assoc]
   rw [List.take_append_of_le_length (by simp; omega),List.take_take,← Bm,List.take_take]
   congr 1
   omega
  have e2:o4.toList.drop (i * 5+vs.length)=xs.drop (i * 5)++cur.toList.drop ((i+1) * 5+(xs.drop (i * 5)).length):=by
   rw [B4,List.append_assoc]
   exact List.drop_left' (by simp [pg]; omega)
  rw [Hv,e1,e2]
  show List.take ((n+1) * 5) (xs.take (i * 5)++vs++(xs.drop (i * 5)++_))=_
  rw [← List.append_assoc]
  exact List.take_left' (by simp [vZ,pg]; omega)
 rw [← J4] at Lm I3
 rw [← Ap] at I3
 clear B4 Hv Vb Sv J4 Ap Xd h1 IZ pg Kb hv Bm vZ hg hcs
 have mixed:Tryz.prog.follows .mixedOrders=true:=by kernel_rfl
 have Jf:¬ ((i:Int)=(n:Int)):=by omega
 have hw1:IntKind.i64.wrap ((i:Int)+1)=(i:Int)+1:=by rw [IntKind.wrap_i64]; omega
 have OQ:(0:Int)≤(i:Int)+1:=by omega
 have hin:i≤n:=by omega
 have htn:((i:Int)+1).toNat=i+1:=by omega
 have hb2:¬ (cap=i+1):=by omega
 have hb3:(i:Int)≤(n:Int)+1:=by omega
 have bP:¬ (cap=i):=by omega
 go_enter Tryz.func187,Tryz.ntmps187
 go_wp2_with (simp only [hov])
 go_region_law_o (refine lj rfl (.tmp 73) (.tmp 76) 76 76 rfl (.slice (some ⟨g,(i+1) * 5,none⟩) (n - i) (cap - (i+1))) (.slice (some ⟨g,i * 5,none⟩) (n+1 - i) (cap - i)) (by simp [Act.eval,Act.put]) (by simp [Act.eval,Act.put]) (Lm.out _ _ _) ?_)
 go_wp2_with (simp only [I3.out])
 go_ret
 exact ⟨_,rfl,F.out⟩
set_option maxHeartbeats 4000000 in
set_option maxRecDepth 100000 in
theorem Pb (g cap n i vb vc:Nat) (cur qZ:Array Value) (xs vs:List Value) (w:World) (hg:w.heap[g]?=some (.cells cur 179 (0,0))) (mG:n≤cap) (vX:cap<n+1) (hn:n≤549755813887) (hcs:cur.size=cap * 5) (Bm:cur.toList.take (n * 5)=xs) (h1:∀ y ∈ xs,y.oneCell'=true) (hi:i<n)
  (hv:w.heap[vb]?=some (.cells qZ 179 (0,0))) (Kb:qZ.toList.take 5=vs) (pg:vs.length=5) (IZ:∀ v ∈ vs,v.oneCell'=true) :
  Calls Tryz.prog 187 #[.slice (some ⟨g,0,none⟩) n cap,.int .i64 i,.slice (some ⟨vb,0,none⟩) 1 vc] w fun e w'=>∃ u',e=.returned u'∧mJ w w' 179 5 (.slice (some ⟨g,0,none⟩) n cap) u' (n+1) (xs.take (i * 5)++vs++xs.drop (i * 5)):=by
 obtain rfl:cap=n:=by omega
 have vZ:xs.length=cap * 5:=by rw [← Bm]; simp; omega
 have Va:g<w.heap.size:=(Array.getElem?_eq_some_iff.1 hg).1
 have WT:vb<w.heap.size:=(Array.getElem?_eq_some_iff.1 hv).1
 obtain ⟨h,hh⟩:∃ h,h=w.heap.size:=⟨_,rfl⟩
 obtain ⟨NC,ZV⟩:∃ NC,NC=grownCap w (cap+1) cap 179:=⟨_,rfl⟩
 have aaO:cap+1≤NC:=by rw [ZV]; exact grownCap_ge w (cap+1) cap 179
 have Sd:NC≤maxLen:=by rw [ZV]; exact grownCap_le_maxLen w (cap+1) cap 179 (by simp only [maxLen]; omega)
 have afF:NC≤9223372036854775807:=by simp only [maxLen] at Sd; omega
 obtain ⟨nc,OY⟩:∃ nc:Array Value,nc=(xs.take (i * 5)).toArray++Builtin.zeroCells (Value.agg #[.int .i64 0,.slice none 0 0,.slice none 0 0,.slice none 0 0,.bool false]).cells (cap+1 - i)++Builtin.zeroCells (Value.agg #[.int .i64 0,.slice none 0 0,.slice none 0 0,.slice none 0 0,.bool false]).cells (NC - (cap+1)):=⟨_,rfl⟩
 have abK:nc.size=NC * 5:=by rw [OY]; simp [Builtin.zeroCells,Value.cells,vZ]; omega
 have U7:Hid (∀ ty,(Builtin.append_ #[76,3] ty #[.slice (some ⟨g,0,none⟩) i cap,.int .i64 ((cap:Int)+1 - (i:Int))]).run Tryz.prog w=.ok (.slice (some ⟨h,0,none⟩) (cap+1) NC) (w.drew.alloc (.cells nc 179))):=fun ty=>by
  have:=oR (P:=Tryz.prog) w 76 3 ty 179 Tryz.t179 _ .i64 .i64 Tryz.underlying76 Tryz.underlying3 rfl Nx ⟨g,0,none⟩ i cap (xs.take (i * 5)) (by show _=i * 5; simp [vZ]; omega)
   (fun j v hj=>by
    rw [Addr.add_lit]
    rw [List.getElem?_take] at hj
    split at hj
    ·rw [← Bm,List.getElem?_take] at hj
     split at hj
     ·simp [World.cell?,hg]; simpa using hj
     ·cases hj
    ·cases hj) (cap+1 - i) (by omega) (by decide) (by omega) (by omega) (by show (cap+1 - i) * 88≤_; omega) (growslice_fits (by omega) (by show (i+(cap+1 - i)) * 88≤_; omega))
  have e1:((cap+1 - i:Nat):Int)=(cap:Int)+1 - (i:Int):=by omega
  have e2:i+(cap+1 - i)=cap+1:=by omega
  rw [e1,e2,← ZV,← hh,← OY] at this
  exact this
 obtain ⟨W0,OO⟩:∃ W0,W0=w.drew.alloc (.cells nc 179):=⟨_,rfl⟩
 have hh0:W0.heap[h]?=some (.cells nc 179 (0,0)):=by rw [OO,hh]; exact heap_alloc_new w.drew _
 have hold:∀ b,b<w.heap.size→W0.heap[b]?=w.heap[b]?:=fun b hb=>by rw [OO]; exact _root_.Go.heap_alloc_old w.drew _ hb
 obtain ⟨c1,hc1⟩:∃ c1,c1=(nc.toList.take (i * 5)++vs++nc.toList.drop (i * 5+vs.length)).toArray:=⟨_,rfl⟩
 have aa1:c1.size=nc.size:=by rw [hc1]; simp [pg]; omega
 have Lm:Hid (∀ ty dc,(Builtin.copy_ #[76,76] ty #[.slice (some ⟨h,i * 5,none⟩) (cap+1 - i) dc,.slice (some ⟨vb,0,none⟩) 1 vc]).run Tryz.prog W0=.ok (goInt ((1:Nat):Int)) (W0.setRow h c1)):=fun ty dc=>by
  have vM:Nat.min 1 (cap+1 - i)=1:=by simp only [Nat.min_def]; split <;> omega
  have:=jC (P:=Tryz.prog) W0 76 76 ty 179 5 h (i * 5) (cap+1 - i) dc ⟨vb,0,none⟩ 1 vc nc 179 vs Tryz.underlying76 Tryz.sizeOf179 hh0 (by rw [vM]; exact pg)
   (fun j v hj=>by
    rw [Addr.add_lit]
    rw [← Kb,List.getElem?_take] at hj
    split at hj
    ·have hb:=(hold vb WT).trans hv
     simp [World.cell?,hb]; simpa using hj
    ·cases hj) (by omega) IZ
  rw [this,vM,hc1]
 obtain ⟨W1,J4⟩:∃ W1,W1=W0.setRow h c1:=⟨_,rfl⟩
 have Vb:W1.heap[h]?=some (.cells c1 179 (0,0)):=by rw [J4]; exact setRow_heap W0 h nc c1 179 _ hh0
 have LA:∀ b,b<w.heap.size→W1.heap[b]?=w.heap[b]?:=fun b hb=>by rw [J4,setRow_other W0 h b c1 (by omega)]; exact hold b hb
 obtain ⟨c2,gK⟩:∃ c2,c2=(c1.toList.take ((i+1) * 5)++xs.drop (i * 5)++c1.toList.drop ((i+1) * 5+(xs.drop (i * 5)).length)).toArray:=⟨_,rfl⟩
 have Xd:(xs.drop (i * 5)).length=(cap - i) * 5:=by simp [vZ]; omega
 have I3:Hid (∀ ty dc sc,(Builtin.copy_ #[76,76] ty #[.slice (some ⟨h,(i+1) * 5,none⟩) (cap - i) dc,.slice (some ⟨g,i * 5,none⟩) (cap - i) sc]).run Tryz.prog W1.drew=.ok (goInt ((cap - i:Nat):Int)) (W1.drew.setRow h c2)):=fun ty dc sc=>by
  have vM:Nat.min (cap - i) (cap - i)=cap - i:=by simp [Nat.min_def]
  have:=jC (P:=Tryz.prog) W1.drew 76 76 ty 179 5 h ((i+1) * 5) (cap - i) dc ⟨g,i * 5,none⟩ (cap - i) sc c1 179 (xs.drop (i * 5)) Tryz.underlying76 Tryz.sizeOf179 Vb (by rw [vM]; exact Xd)
   (fun j v hj=>by
    rw [Addr.add_lit]
    rw [List.getElem?_drop,← Bm,List.getElem?_take] at hj
    split at hj
    ·show W1.cell? _=_
     have hb:=(LA g Va).trans hg
     simp [World.cell?,hb]; simpa using hj
    ·cases hj) (by omega) (fun v hv=>h1 v (List.mem_of_mem_drop hv))
  rw [this,vM,gK]
 obtain ⟨W2,Ap⟩:∃ W2,W2=W1.drew.setRow h c2:=⟨_,rfl⟩
 have F:Aside (mJ w W2 179 5 (.slice (some ⟨g,0,none⟩) cap cap) (.slice (some ⟨h,0,none⟩) (cap+1) NC) (cap+1) (xs.take (i * 5)++vs++xs.drop (i * 5))):=by
  refine ⟨⟨by simp [vZ,pg]; omega,.inr ⟨h,NC,c2,rfl,Nat.zero_le _,by rw [Ap]; exact setRow_heap W1.drew h c1 c2 179 _ Vb,aaO,Sd,by rw [gK]; simp [vZ]; omega,?_⟩⟩,⟨by rw [Ap,J4,OO]; rfl,by rw [Ap,J4,OO]; rfl,by rw [Ap,J4,OO]; rfl,by rw [Ap,J4,OO]; simp,fun k hk _=>by rw [Ap,setRow_other W1.drew h k _ (by omega)]; exact LA k hk⟩,fun b hb=>.inr (by simp [Value.ownBlock] at hb; omega),by rw [Ap,J4,OO]; show w.drawn≤w.drawn+1+1; omega⟩
  have e0:nc.toList.take (i * 5)=xs.take (i * 5):=by
   rw [OY]
   simp only [Array.toList_append,List.append_assoc]
   exact List.take_left' (by simp [vZ]; omega)
  have e1:c1.toList.take ((i+1) * 5)=xs.take (i * 5)++vs:=by
   rw [hc1,e0]
   exact List.take_left' (by simp [vZ,pg]; omega)
  rw [gK,e1]
  exact List.take_left' (by simp [vZ,pg]; omega)
 rw [← OO] at U7
 rw [← J4] at Lm
 rw [← Ap] at I3
 clear hcs Bm h1 hv Kb pg IZ vZ Va WT hh ZV Sd OY abK OO hh0 hold hc1 aa1 J4 Vb LA gK Xd Ap hg
 have mixed:Tryz.prog.follows .mixedOrders=true:=by kernel_rfl
 have Jf:¬ ((i:Int)=(cap:Int)):=by omega
 have hw1:IntKind.i64.wrap ((i:Int)+1)=(i:Int)+1:=by rw [IntKind.wrap_i64]; omega
 have rL:IntKind.i64.wrap ((cap:Int)+1)=(cap:Int)+1:=by rw [IntKind.wrap_i64]; omega
 have Z3:IntKind.i64.wrap ((cap:Int)+1 - (i:Int))=(cap:Int)+1 - (i:Int):=by rw [IntKind.wrap_i64]; omega
 have OQ:(0:Int)≤(i:Int)+1:=by omega
 have hin:i≤cap:=by omega
 have htn:((i:Int)+1).toNat=i+1:=by omega
 have hb2:¬ (NC=i+1):=by omega
 have hb3:(i:Int)≤(cap:Int)+1:=by omega
 have bP:¬ (NC=i):=by omega
 have fz:¬ (cap=i):=by omega
 have bn:(i:Int)+1≤(cap:Int)+1:=by omega
 have cg:i≤cap+1:=by omega
 go_enter Tryz.func187,Tryz.ntmps187
 go_wp2_with (first | (at_builtin; refine Lib.wpList_append_run _ rfl _ _ _ _ rfl _ _ rfl rfl _ _ (U7.out _) ?_) | (simp only [Lm.out]))
 go_region_law_o (refine lj rfl (.tmp 50) (.tmp 53) 76 76 rfl (.slice (some ⟨h,(i+1) * 5,none⟩) (cap - i) (NC - (i+1))) (.slice (some ⟨g,i * 5,none⟩) (cap - i) (cap - i)) (by simp [Act.eval,Act.put]) (by simp [Act.eval,Act.put]) (I3.out _ _ _) ?_)
 go_wp2
 go_ret
 exact ⟨_,rfl,F.out⟩
theorem Pe:VF Tryz.prog 187 179 5:=by
 intro u n i xs v vs w bt h1 hi hn hv IZ eO
 rcases hv.2 with ⟨_,h0⟩ | ⟨vb,vc,qZ,rfl,_,hvg,hvc,_,Kb,hvt⟩
 ·cases h0
 ·have pg:vs.length=5:=by have:=hv.1; omega
  have S9:qZ.toList.take 5=vs:=by simpa using hvt
  by_cases hin:i=n
  ·subst hin
   have:=Pa u i vb vc xs vs qZ w bt hn hvg S9 pg IZ
   have e1:xs.take (i * 5)=xs:=List.take_of_length_le (by rw [bt.1]; exact Nat.le_refl _)
   have e2:xs.drop (i * 5)=[]:=List.drop_of_length_le (by rw [bt.1]; exact Nat.le_refl _)
   rw [e1,e2,List.append_nil]
   exact this
  ·rcases bt.2 with ⟨_,rfl⟩ | ⟨g,cap,cur,rfl,_,hg,mG,hcm,hcs,uP⟩
   ·omega
   ·by_cases vX:n+1≤cap
    ·exact Pc g cap n i vb vc cur qZ xs vs w hg vX hcm hcs uP h1 (by omega) hvg S9 pg IZ (fun h=>eO vb rfl (by simp [Value.ownBlock,h]))
    ·exact Pb g cap n i vb vc cur qZ xs vs w hg mG (by omega) hn hcs uP h1 (by omega) hvg S9 pg IZ
end Go.Proofs.YtiinmaihgmfniaaGreat
