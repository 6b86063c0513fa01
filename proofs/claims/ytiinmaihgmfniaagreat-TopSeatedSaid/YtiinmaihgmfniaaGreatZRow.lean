import Derived.Test.YtiinmaihgmfniaaGreatProg
import Derived.Shelf.RegionOpenPlain
import Derived.WalkKit
import Derived.Deep.LoopGhost
import Derived.Deep.RegionLaw
import Derived.Lib.Walk
import Derived.Sort.WalkB12
import Derived.Shelf.SlicesE.Kit
import Derived.Laws.Externs
import Derived.Test.YtiinmaihgmfniaaGreatZLb
set_option linter.unusedVariables false
set_option linter.unusedSimpArgs false
namespace Go.Proofs.YtiinmaihgmfniaaGreat
open Go.L Go.Shelf Go.RowKit Go.Lib Go.Sort

theorem row58:Tryz.t58.zero=some (.agg #[.int .i64 0,.int .i64 0,.int .i64 0,.bool false]):=by kernel_rfl
set_option maxHeartbeats 4000000 in
set_option maxRecDepth 100000 in
theorem cloneW96:CloneW Tryz.prog 96 58 4:=by
 intro a n cap news w hl hnil hc h1 hn
 have q47:∀ (w:World) (a:Option Addr) (n c n' c':Nat),(binOp .eql 47 (.slice a n c) (.slice none n' c')).run Tryz.prog w=.ok (.bool a.isNone) w:=fun w a n c n' c'=>Lib.run_eql_slice_nil w _ _ a n c n' c' Tryz.underlying47
 cases a with
 | none =>
  have hn0:=hnil rfl
  subst hn0
  have hnews:news=[]:=List.eq_nil_of_length_eq_zero (by simpa using hl)
  subst hnews
  clear hl hnil hc h1 hn
  go_enter Tryz.func96,Tryz.ntmps96
  go_wp2
  go_ret
  exact ⟨_,rfl,⟨World.ownsRow_nil w 0 58 4,⟨rfl,rfl,rfl,Nat.le_refl _,fun _ _ _=>rfl⟩,fun b hb=>.inl hb,Nat.le_refl _⟩⟩
 | some ad =>
  have hown:(w.alloc (.cells #[] 58)).ownsRow 0 58 4 (.slice (some ⟨w.heap.size,0,none⟩) 0 0) 0 []:=World.ownsRow_made w #[] 0 (Nat.zero_le _) (Nat.zero_le _) (by simp)
  obtain ⟨u',w',hr,h2,h3,h4,_,h6⟩:=run_append_blk (P:=Tryz.prog) (t:=47) (ty:=47) Tryz.underlying47 (i:=Tryz.t58) rfl row58 (by kernel_rfl) (by decide) (by decide) hown (q:=n) (cap:=cap) (a:=ad) (news:=news) hl (fun j u hj=>Lib.cell?_alloc_some _ (hc ad rfl j u hj)) h1 (by omega)
  have hr':Hid (∀ ty,(Builtin.append_ #[47,47] ty #[.slice (some ⟨w.heap.size,0,none⟩) 0 0,.slice (some ad) n cap]).run Tryz.prog (w.alloc (.cells #[] 58))=.ok u' w'):=fun ty=>(append_ty ▸ hr)
  have F:Aside (RowTo w w' 58 4 (.slice none 0 0) u' n news):=by
   have h2':w'.ownsRow 0 58 4 u' (0+n) ([]++news):=h2
   refine ⟨by simpa using h2',⟨h3.os,h3.tape,h3.output,Nat.le_trans (by simp) h3.size,fun k hk _=>(h3.block k (by simp; omega) (by simp [Value.ownBlock]; omega)).trans (_root_.Go.heap_alloc_old w _ hk)⟩,fun b hb=>.inr ?_,Nat.le_trans (Nat.le_refl _) h6⟩
   rcases h4 b hb with h | h
   ·simp [Value.ownBlock] at h; omega
   ·simp at h; omega
  clear hl hnil hc h1 hn hown hr h2 h3 h4 h6
  go_enter Tryz.func96,Tryz.ntmps96
  go_wp2_with (at_builtin; refine Lib.wpList_append_run _ rfl _ _ _ _ rfl _ _ rfl rfl _ _ (hr'.out _) ?_)
  go_ret
  exact ⟨_,rfl,F.out⟩
set_option maxHeartbeats 4000000 in
set_option maxRecDepth 100000 in
theorem ins97a (u:Value) (n vb vc:Nat) (xs vs:List Value) (vcur:Array Value) (w:World) (hown:w.ownsRow 0 58 4 u n xs) (hn:n≤549755813887)
  (hv:w.heap[vb]?=some (.cells vcur 58 (0,0))) (hvs:vcur.toList.take 4=vs) (hvl:vs.length=4) (h1v:∀ v ∈ vs,v.oneCell'=true) :
  Calls Tryz.prog 97 #[u,.int .i64 n,.slice (some ⟨vb,0,none⟩) 1 vc] w fun e w'=>∃ u',e=.returned u'∧RowTo w w' 58 4 u u' (n+1) (xs++vs):=by
 have hsrc:∀ j x,vs[j]?=some x→w.cell? ((⟨vb,0,none⟩:Addr).add j)=some x:=by
  intro j x hx
  rw [Addr.add_lit]
  rw [← hvs,List.getElem?_take] at hx
  split at hx
  ·simp [World.cell?,hv]; simpa using hx
  ·cases hx
 obtain ⟨u',w',hr,h2,h3,h4,_,h6⟩:=run_append_blk (P:=Tryz.prog) (t:=47) (ty:=47) Tryz.underlying47 (i:=Tryz.t58) rfl row58 (by kernel_rfl) (by decide) (by decide) hown (q:=1) (cap:=vc) (news:=vs) hvl hsrc h1v (by omega)
 have hr':Hid (∀ ty,(Builtin.append_ #[47,47] ty #[u,.slice (some ⟨vb,0,none⟩) 1 vc]).run Tryz.prog w=.ok u' w'):=fun ty=>(append_ty ▸ hr)
 have mixed:Tryz.prog.follows .mixedOrders=true:=by kernel_rfl
 have F:Aside (RowTo w w' 58 4 u u' (n+1) (xs++vs)):=⟨h2,h3,h4,h6⟩
 rcases hown.2 with ⟨rfl,rfl⟩ | ⟨g,cap,cur,rfl,_,hg,hnc,hcm,hcs,htk⟩
 ·clear hown h2 h3 h4 h6 hr hsrc h1v hvl hvs hv
  go_enter Tryz.func97,Tryz.ntmps97
  go_wp2_with (at_builtin; refine Lib.wpList_append_run _ rfl _ _ _ _ rfl _ _ rfl rfl _ _ (hr'.out _) ?_)
  go_ret
  exact ⟨_,rfl,F.out⟩
 ·have hcm':cap≤9223372036854775807:=by simp only [maxLen] at hcm; omega
  clear hown h2 h3 h4 h6 hr hsrc h1v hvl hvs hv hg hcs htk
  by_cases hcn:cap=n
  ·subst hcn
   go_enter Tryz.func97,Tryz.ntmps97
   go_wp2_with (at_builtin; refine Lib.wpList_append_run _ rfl _ _ _ _ rfl _ _ rfl rfl _ _ (hr'.out _) ?_)
   all_goals (go_ret; exact ⟨_,rfl,F.out⟩)
  ·go_enter Tryz.func97,Tryz.ntmps97
   go_wp2_with (at_builtin; refine Lib.wpList_append_run _ rfl _ _ _ _ rfl _ _ rfl rfl _ _ (hr'.out _) ?_)
   all_goals (go_ret; exact ⟨_,rfl,F.out⟩)

set_option maxHeartbeats 4000000 in
set_option maxRecDepth 100000 in
theorem ins97c (g cap n i vb vc:Nat) (cur vcur:Array Value) (xs vs:List Value) (w:World) (hg:w.heap[g]?=some (.cells cur 58 (0,0))) (hroom:n+1≤cap) (hcm:cap≤maxLen) (hcs:cur.size=cap * 4) (hxs:cur.toList.take (n * 4)=xs) (h1:∀ y ∈ xs,y.oneCell'=true) (hi:i<n)
  (hv:w.heap[vb]?=some (.cells vcur 58 (0,0))) (hvs:vcur.toList.take 4=vs) (hvl:vs.length=4) (h1v:∀ v ∈ vs,v.oneCell'=true) (hne:vb ≠ g) :
  Calls Tryz.prog 97 #[.slice (some ⟨g,0,none⟩) n cap,.int .i64 i,.slice (some ⟨vb,0,none⟩) 1 vc] w fun e w'=>∃ u',e=.returned u'∧RowTo w w' 58 4 (.slice (some ⟨g,0,none⟩) n cap) u' (n+1) (xs.take (i * 4)++vs++xs.drop (i * 4)):=by
 have hxl:xs.length=n * 4:=by rw [← hxs]; simp; omega
 have hc63:cap≤9223372036854775807:=by simp only [maxLen] at hcm; omega
 have hov:∀ lb cb,(callFunc 161 #[.slice (some ⟨vb,0,none⟩) 1 vc,.slice (some ⟨g,(i+1) * 4,none⟩) lb cb]).run Tryz.prog w=.ok (.value (.bool false)) w:=fun lb cb=>by
  rw [run_callFunc_extern Tryz.func161 (by kernel_rfl) (by kernel_rfl) (by kernel_rfl) (e:=Extern.SlicesOverlaps.overlaps #[47,47] #[4]) (by kernel_rfl),
   Lib.run_overlaps_apart w 47 4 58 Tryz.underlying47 4 Tryz.sizeOf58 ⟨vb,0,none⟩ ⟨g,(i+1) * 4,none⟩ 1 vc lb cb hne 58 58 vcur.size cur.size (by simp [World.shape?,hv]) (by simp [World.shape?,hg]) (by omega) (by simp [World.frozen?,hv]) (by simp [World.frozen?,hv])]
  rfl
 obtain ⟨cur1,hcur1⟩:∃ cur1,cur1=(cur.toList.take ((i+1) * 4)++xs.drop (i * 4)++cur.toList.drop ((i+1) * 4+(xs.drop (i * 4)).length)).toArray:=⟨_,rfl⟩
 have hxd:(xs.drop (i * 4)).length=(n - i) * 4:=by simp [hxl]; omega
 have hcp1:Hid (∀ ty dc sc,(Builtin.copy_ #[47,47] ty #[.slice (some ⟨g,(i+1) * 4,none⟩) (n - i) dc,.slice (some ⟨g,i * 4,none⟩) (n+1 - i) sc]).run Tryz.prog w.drew=.ok (goInt ((n - i:Nat):Int)) (w.drew.setRow g cur1)):=fun ty dc sc=>by
  have hmin:Nat.min (n+1 - i) (n - i)=n - i:=by simp only [Nat.min_def]; split <;> omega
  have:=run_copy_rowK (P:=Tryz.prog) w.drew 47 47 ty 58 4 g ((i+1) * 4) (n - i) dc ⟨g,i * 4,none⟩ (n+1 - i) sc cur 58 (xs.drop (i * 4)) Tryz.underlying47 Tryz.sizeOf58 hg (by rw [hmin]; exact hxd)
   (fun j v hj=>by
    rw [Addr.add_lit]
    rw [List.getElem?_drop,← hxs,List.getElem?_take] at hj
    split at hj
    ·show w.cell? _=_
     simp [World.cell?,hg]; simpa using hj
    ·cases hj) (by omega) (fun v hv=>h1 v (List.mem_of_mem_drop hv))
  rw [this,hmin,hcur1]
 have hcur1s:cur1.size=cur.size:=by rw [hcur1]; simp [hxl]; omega
 have hh1:(w.drew.setRow g cur1).heap[g]?=some (.cells cur1 58 (0,0)):=setRow_heap w.drew g cur cur1 58 _ hg
 obtain ⟨cur2,hcur2⟩:∃ cur2,cur2=(cur1.toList.take (i * 4)++vs++cur1.toList.drop (i * 4+vs.length)).toArray:=⟨_,rfl⟩
 have hcp2:Hid (∀ ty dc,(Builtin.copy_ #[47,47] ty #[.slice (some ⟨g,i * 4,none⟩) (n+1 - i) dc,.slice (some ⟨vb,0,none⟩) 1 vc]).run Tryz.prog (w.drew.setRow g cur1)=.ok (goInt ((1:Nat):Int)) (w.drew.setRow g cur2)):=fun ty dc=>by
  have hmin:Nat.min 1 (n+1 - i)=1:=by simp only [Nat.min_def]; split <;> omega
  have:=run_copy_rowK (P:=Tryz.prog) (w.drew.setRow g cur1) 47 47 ty 58 4 g (i * 4) (n+1 - i) dc ⟨vb,0,none⟩ 1 vc cur1 58 vs Tryz.underlying47 Tryz.sizeOf58 hh1 (by rw [hmin]; exact hvl)
   (fun j v hj=>by
    rw [Addr.add_lit]
    rw [← hvs,List.getElem?_take] at hj
    split at hj
    ·have hb:(w.drew.setRow g cur1).heap[vb]?=some (.cells vcur 58 (0,0)):=(setRow_other w.drew g vb cur1 hne).trans hv
     simp [World.cell?,hb]; simpa using hj
    ·cases hj) (by omega) h1v
  rw [this,hmin,hcur2,setRow_setRow]
 obtain ⟨W1,hW1⟩:∃ W1,W1=w.drew.setRow g cur1:=⟨_,rfl⟩
 obtain ⟨W2,hW2⟩:∃ W2,W2=w.drew.setRow g cur2:=⟨_,rfl⟩
 have F:Aside (RowTo w W2 58 4 (.slice (some ⟨g,0,none⟩) n cap) (.slice (some ⟨g,0,none⟩) (n+1) cap) (n+1) (xs.take (i * 4)++vs++xs.drop (i * 4))):=by
  refine ⟨⟨by simp [hxl,hvl]; omega,.inr ⟨g,cap,cur2,rfl,Nat.zero_le _,by rw [hW2]; exact setRow_heap w.drew g cur cur2 58 _ hg,hroom,hcm,by rw [hcur2]; simp [hvl]; omega,?_⟩⟩,⟨by rw [hW2]; rfl,by rw [hW2]; rfl,by rw [hW2]; rfl,by rw [hW2]; simp,fun k _ hk=>by rw [hW2]; exact setRow_other w.drew g k _ (fun e=>hk (by simp [Value.ownBlock,e]))⟩,fun b hb=>.inl (by simpa [Value.ownBlock] using hb),by rw [hW2]; show w.drawn≤w.drew.drawn; simp⟩
  have e1:cur1.toList.take (i * 4)=xs.take (i * 4):=by
   rw [hcur1,List.append_assoc]
   rw [List.take_append_of_le_length (by simp; omega),List.take_take,← hxs,List.take_take]
   congr 1
   omega
  have e2:cur1.toList.drop (i * 4+vs.length)=xs.drop (i * 4)++cur.toList.drop ((i+1) * 4+(xs.drop (i * 4)).length):=by
   rw [hcur1,List.append_assoc]
   exact List.drop_left' (by simp [hvl]; omega)
  rw [hcur2,e1,e2]
  show List.take ((n+1) * 4) (xs.take (i * 4)++vs++(xs.drop (i * 4)++_))=_
  rw [← List.append_assoc]
  exact List.take_left' (by simp [hxl,hvl]; omega)
 rw [← hW1] at hcp1 hcp2
 rw [← hW2] at hcp2
 clear hcur1 hcur2 hh1 hcur1s hW1 hW2 hxd h1 h1v hvl hvs hv hxs hxl hg hcs
 have mixed:Tryz.prog.follows .mixedOrders=true:=by kernel_rfl
 have hz2:¬ ((i:Int)=(n:Int)):=by omega
 have hw1:IntKind.i64.wrap ((i:Int)+1)=(i:Int)+1:=by rw [IntKind.wrap_i64]; omega
 have hb1:(0:Int)≤(i:Int)+1:=by omega
 have hin:i≤n:=by omega
 have htn:((i:Int)+1).toNat=i+1:=by omega
 have hb2:¬ (cap=i+1):=by omega
 have hb3:(i:Int)≤(n:Int)+1:=by omega
 have hb4:¬ (cap=i):=by omega
 go_enter Tryz.func97,Tryz.ntmps97
 go_wp2_with (simp only [hov])
 go_region_law_o (refine step_copy_runL rfl (.tmp 73) (.tmp 76) 47 47 rfl (.slice (some ⟨g,(i+1) * 4,none⟩) (n - i) (cap - (i+1))) (.slice (some ⟨g,i * 4,none⟩) (n+1 - i) (cap - i)) (by simp [Act.eval,Act.put]) (by simp [Act.eval,Act.put]) (hcp1.out _ _ _) ?_)
 go_wp2_with (simp only [hcp2.out])
 go_ret
 exact ⟨_,rfl,F.out⟩

set_option maxHeartbeats 4000000 in
set_option maxRecDepth 100000 in
theorem ins97b (g cap n i vb vc:Nat) (cur vcur:Array Value) (xs vs:List Value) (w:World) (hg:w.heap[g]?=some (.cells cur 58 (0,0))) (hnc:n≤cap) (hroom:cap<n+1) (hn:n≤549755813887) (hcs:cur.size=cap * 4) (hxs:cur.toList.take (n * 4)=xs) (h1:∀ y ∈ xs,y.oneCell'=true) (hi:i<n)
  (hv:w.heap[vb]?=some (.cells vcur 58 (0,0))) (hvs:vcur.toList.take 4=vs) (hvl:vs.length=4) (h1v:∀ v ∈ vs,v.oneCell'=true) :
  Calls Tryz.prog 97 #[.slice (some ⟨g,0,none⟩) n cap,.int .i64 i,.slice (some ⟨vb,0,none⟩) 1 vc] w fun e w'=>∃ u',e=.returned u'∧RowTo w w' 58 4 (.slice (some ⟨g,0,none⟩) n cap) u' (n+1) (xs.take (i * 4)++vs++xs.drop (i * 4)):=by
 obtain rfl:cap=n:=by omega
 have hxl:xs.length=cap * 4:=by rw [← hxs]; simp; omega
 have hgl:g<w.heap.size:=(Array.getElem?_eq_some_iff.1 hg).1
 have hvl':vb<w.heap.size:=(Array.getElem?_eq_some_iff.1 hv).1
 obtain ⟨h,hh⟩:∃ h,h=w.heap.size:=⟨_,rfl⟩
 obtain ⟨NC,hNC⟩:∃ NC,NC=grownCap w (cap+1) cap 58:=⟨_,rfl⟩
 have hNge:cap+1≤NC:=by rw [hNC]; exact grownCap_ge w (cap+1) cap 58
 have hNle:NC≤maxLen:=by rw [hNC]; exact grownCap_le_maxLen w (cap+1) cap 58 (by simp only [maxLen]; omega)
 have hN63:NC≤9223372036854775807:=by simp only [maxLen] at hNle; omega
 obtain ⟨nc,hnc0⟩:∃ nc:Array Value,nc=(xs.take (i * 4)).toArray++Builtin.zeroCells (Value.agg #[.int .i64 0,.int .i64 0,.int .i64 0,.bool false]).cells (cap+1 - i)++Builtin.zeroCells (Value.agg #[.int .i64 0,.int .i64 0,.int .i64 0,.bool false]).cells (NC - (cap+1)):=⟨_,rfl⟩
 have hncs:nc.size=NC * 4:=by rw [hnc0]; simp [Builtin.zeroCells,Value.cells,hxl]; omega
 have hap:Hid (∀ ty,(Builtin.append_ #[47,3] ty #[.slice (some ⟨g,0,none⟩) i cap,.int .i64 ((cap:Int)+1 - (i:Int))]).run Tryz.prog w=.ok (.slice (some ⟨h,0,none⟩) (cap+1) NC) (w.drew.alloc (.cells nc 58))):=fun ty=>by
  have:=run_append_zeros_grow (P:=Tryz.prog) w 47 3 ty 58 Tryz.t58 _ .i64 .i64 Tryz.underlying47 Tryz.underlying3 rfl row58 ⟨g,0,none⟩ i cap (xs.take (i * 4)) (by show _=i * 4; simp [hxl]; omega)
   (fun j v hj=>by
    rw [Addr.add_lit]
    rw [List.getElem?_take] at hj
    split at hj
    ·rw [← hxs,List.getElem?_take] at hj
     split at hj
     ·simp [World.cell?,hg]; simpa using hj
     ·cases hj
    ·cases hj) (cap+1 - i) (by omega) (by decide) (by omega) (by omega) (by show (cap+1 - i) * 32≤_; omega) (growslice_fits (by omega) (by show (i+(cap+1 - i)) * 32≤_; omega))
  have e1:((cap+1 - i:Nat):Int)=(cap:Int)+1 - (i:Int):=by omega
  have e2:i+(cap+1 - i)=cap+1:=by omega
  rw [e1,e2,← hNC,← hh,← hnc0] at this
  exact this
 obtain ⟨W0,hW0⟩:∃ W0,W0=w.drew.alloc (.cells nc 58):=⟨_,rfl⟩
 have hh0:W0.heap[h]?=some (.cells nc 58 (0,0)):=by rw [hW0,hh]; exact heap_alloc_new w.drew _
 have hold:∀ b,b<w.heap.size→W0.heap[b]?=w.heap[b]?:=fun b hb=>by rw [hW0]; exact _root_.Go.heap_alloc_old w.drew _ hb
 obtain ⟨c1,hc1⟩:∃ c1,c1=(nc.toList.take (i * 4)++vs++nc.toList.drop (i * 4+vs.length)).toArray:=⟨_,rfl⟩
 have hc1s:c1.size=nc.size:=by rw [hc1]; simp [hvl]; omega
 have hcp1:Hid (∀ ty dc,(Builtin.copy_ #[47,47] ty #[.slice (some ⟨h,i * 4,none⟩) (cap+1 - i) dc,.slice (some ⟨vb,0,none⟩) 1 vc]).run Tryz.prog W0=.ok (goInt ((1:Nat):Int)) (W0.setRow h c1)):=fun ty dc=>by
  have hmin:Nat.min 1 (cap+1 - i)=1:=by simp only [Nat.min_def]; split <;> omega
  have:=run_copy_rowK (P:=Tryz.prog) W0 47 47 ty 58 4 h (i * 4) (cap+1 - i) dc ⟨vb,0,none⟩ 1 vc nc 58 vs Tryz.underlying47 Tryz.sizeOf58 hh0 (by rw [hmin]; exact hvl)
   (fun j v hj=>by
    rw [Addr.add_lit]
    rw [← hvs,List.getElem?_take] at hj
    split at hj
    ·have hb:=(hold vb hvl').trans hv
     simp [World.cell?,hb]; simpa using hj
    ·cases hj) (by omega) h1v
  rw [this,hmin,hc1]
 obtain ⟨W1,hW1⟩:∃ W1,W1=W0.setRow h c1:=⟨_,rfl⟩
 have hh1:W1.heap[h]?=some (.cells c1 58 (0,0)):=by rw [hW1]; exact setRow_heap W0 h nc c1 58 _ hh0
 have hold1:∀ b,b<w.heap.size→W1.heap[b]?=w.heap[b]?:=fun b hb=>by rw [hW1,setRow_other W0 h b c1 (by omega)]; exact hold b hb
 obtain ⟨c2,hc2⟩:∃ c2,c2=(c1.toList.take ((i+1) * 4)++xs.drop (i * 4)++c1.toList.drop ((i+1) * 4+(xs.drop (i * 4)).length)).toArray:=⟨_,rfl⟩
 have hxd:(xs.drop (i * 4)).length=(cap - i) * 4:=by simp [hxl]; omega
 have hcp2:Hid (∀ ty dc sc,(Builtin.copy_ #[47,47] ty #[.slice (some ⟨h,(i+1) * 4,none⟩) (cap - i) dc,.slice (some ⟨g,i * 4,none⟩) (cap - i) sc]).run Tryz.prog W1.drew=.ok (goInt ((cap - i:Nat):Int)) (W1.drew.setRow h c2)):=fun ty dc sc=>by
  have hmin:Nat.min (cap - i) (cap - i)=cap - i:=by simp [Nat.min_def]
  have:=run_copy_rowK (P:=Tryz.prog) W1.drew 47 47 ty 58 4 h ((i+1) * 4) (cap - i) dc ⟨g,i * 4,none⟩ (cap - i) sc c1 58 (xs.drop (i * 4)) Tryz.underlying47 Tryz.sizeOf58 hh1 (by rw [hmin]; exact hxd)
   (fun j v hj=>by
    rw [Addr.add_lit]
    rw [List.getElem?_drop,← hxs,List.getElem?_take] at hj
    split at hj
    ·show W1.cell? _=_
     have hb:=(hold1 g hgl).trans hg
     simp [World.cell?,hb]; simpa using hj
    ·cases hj) (by omega) (fun v hv=>h1 v (List.mem_of_mem_drop hv))
  rw [this,hmin,hc2]
 obtain ⟨W2,hW2⟩:∃ W2,W2=W1.drew.setRow h c2:=⟨_,rfl⟩
 have F:Aside (RowTo w W2 58 4 (.slice (some ⟨g,0,none⟩) cap cap) (.slice (some ⟨h,0,none⟩) (cap+1) NC) (cap+1) (xs.take (i * 4)++vs++xs.drop (i * 4))):=by
  refine ⟨⟨by simp [hxl,hvl]; omega,.inr ⟨h,NC,c2,rfl,Nat.zero_le _,by rw [hW2]; exact setRow_heap W1.drew h c1 c2 58 _ hh1,hNge,hNle,by rw [hc2]; simp [hxl]; omega,?_⟩⟩,⟨by rw [hW2,hW1,hW0]; rfl,by rw [hW2,hW1,hW0]; rfl,by rw [hW2,hW1,hW0]; rfl,by rw [hW2,hW1,hW0]; simp,fun k hk _=>by rw [hW2,setRow_other W1.drew h k _ (by omega)]; exact hold1 k hk⟩,fun b hb=>.inr (by simp [Value.ownBlock] at hb; omega),by rw [hW2,hW1,hW0]; show w.drawn≤w.drawn+1+1; omega⟩
  have e0:nc.toList.take (i * 4)=xs.take (i * 4):=by
   rw [hnc0]
   simp only [Array.toList_append,List.append_assoc]
   exact List.take_left' (by simp [hxl]; omega)
  have e1:c1.toList.take ((i+1) * 4)=xs.take (i * 4)++vs:=by
   rw [hc1,e0]
   exact List.take_left' (by simp [hxl,hvl]; omega)
  rw [hc2,e1]
  exact List.take_left' (by simp [hxl,hvl]; omega)
 rw [← hW0] at hap
 rw [← hW1] at hcp1
 rw [← hW2] at hcp2
 clear hcs hxs h1 hv hvs hvl h1v hxl hgl hvl' hh hNC hNle hnc0 hncs hW0 hh0 hold hc1 hc1s hW1 hh1 hold1 hc2 hxd hW2 hg
 have mixed:Tryz.prog.follows .mixedOrders=true:=by kernel_rfl
 have hz2:¬ ((i:Int)=(cap:Int)):=by omega
 have hw1:IntKind.i64.wrap ((i:Int)+1)=(i:Int)+1:=by rw [IntKind.wrap_i64]; omega
 have hw2:IntKind.i64.wrap ((cap:Int)+1)=(cap:Int)+1:=by rw [IntKind.wrap_i64]; omega
 have hw3:IntKind.i64.wrap ((cap:Int)+1 - (i:Int))=(cap:Int)+1 - (i:Int):=by rw [IntKind.wrap_i64]; omega
 have hb1:(0:Int)≤(i:Int)+1:=by omega
 have hin:i≤cap:=by omega
 have htn:((i:Int)+1).toNat=i+1:=by omega
 have hb2:¬ (NC=i+1):=by omega
 have hb3:(i:Int)≤(cap:Int)+1:=by omega
 have hb4:¬ (NC=i):=by omega
 have hb5:¬ (cap=i):=by omega
 have hb6:(i:Int)+1≤(cap:Int)+1:=by omega
 have hb7:i≤cap+1:=by omega
 go_enter Tryz.func97,Tryz.ntmps97
 go_wp2_with (first | (at_builtin; refine Lib.wpList_append_run _ rfl _ _ _ _ rfl _ _ rfl rfl _ _ (hap.out _) ?_) | (simp only [hcp1.out]))
 go_region_law_o (refine step_copy_runL rfl (.tmp 50) (.tmp 53) 47 47 rfl (.slice (some ⟨h,(i+1) * 4,none⟩) (cap - i) (NC - (i+1))) (.slice (some ⟨g,i * 4,none⟩) (cap - i) (cap - i)) (by simp [Act.eval,Act.put]) (by simp [Act.eval,Act.put]) (hcp2.out _ _ _) ?_)
 go_wp2
 go_ret
 exact ⟨_,rfl,F.out⟩
theorem insW97:InsW Tryz.prog 97 58 4:=by
 intro u n i xs v vs w hown h1 hi hn hv h1v hne
 rcases hv.2 with ⟨_,h0⟩ | ⟨vb,vc,vcur,rfl,_,hvg,hvc,_,hvs,hvt⟩
 ·cases h0
 ·have hvl:vs.length=4:=by have:=hv.1; omega
  have hvt':vcur.toList.take 4=vs:=by simpa using hvt
  by_cases hin:i=n
  ·subst hin
   have:=ins97a u i vb vc xs vs vcur w hown hn hvg hvt' hvl h1v
   have e1:xs.take (i * 4)=xs:=List.take_of_length_le (by rw [hown.1]; exact Nat.le_refl _)
   have e2:xs.drop (i * 4)=[]:=List.drop_of_length_le (by rw [hown.1]; exact Nat.le_refl _)
   rw [e1,e2,List.append_nil]
   exact this
  ·rcases hown.2 with ⟨_,rfl⟩ | ⟨g,cap,cur,rfl,_,hg,hnc,hcm,hcs,htk⟩
   ·omega
   ·by_cases hroom:n+1≤cap
    ·exact ins97c g cap n i vb vc cur vcur xs vs w hg hroom hcm hcs htk h1 (by omega) hvg hvt' hvl h1v (fun h=>hne vb rfl (by simp [Value.ownBlock,h]))
    ·exact ins97b g cap n i vb vc cur vcur xs vs w hg hnc (by omega) hn hcs htk h1 (by omega) hvg hvt' hvl h1v
set_option maxHeartbeats 4000000 in
set_option maxRecDepth 100000 in
theorem del98 (g cap n i j:Nat) (cur:Array Value) (w:World) (hg:w.heap[g]?=some (.cells cur 58 (0,0))) (hnc:n≤cap) (hm:cap≤9223372036854775807) (hcs:cur.size=cap * 4) (h1:∀ y ∈ cur.toList.take (n * 4),y.oneCell'=true) (hij:i<j) (hj:j≤n) :
  Calls Tryz.prog 98 #[.slice (some ⟨g,0,none⟩) n cap,.int .i64 i,.int .i64 j] w fun e w'=>e=.returned (.slice (some ⟨g,0,none⟩) (i+(n - j)) cap)∧∃ cur',cur'.size=cur.size∧cur'.toList.take ((i+(n - j)) * 4)=cur.toList.take (i * 4)++(cur.toList.take (n * 4)).drop (j * 4)∧w'=w.drew.setRow g cur':=by
 obtain ⟨news,hnews⟩:∃ news,news=(cur.toList.take (n * 4)).drop (j * 4):=⟨_,rfl⟩
 have hlen:news.length=(n - j) * 4:=by rw [hnews]; simp; omega
 have hget:∀ t u,news[t]?=some u→w.cell? ⟨g,j * 4+t,none⟩=some u:=by
  intro t u hu
  rw [hnews,List.getElem?_drop,List.getElem?_take] at hu
  split at hu
  ·simp [World.cell?,hg]; simpa using hu
  ·cases hu
 obtain ⟨A,hA,hsrc⟩:∃ A:Addr,(if cap=j then some (⟨g,0,none⟩:Addr) else some ⟨g,j * 4,none⟩)=some A∧Hid (∀ t u,news[t]?=some u→w.drew.cell? (A.add t)=some u):=by
  by_cases h:cap=j
  ·refine ⟨⟨g,0,none⟩,by simp [h],fun t u hu=>?_⟩
   have h0:news.length=0:=by rw [hlen]; omega
   rw [List.length_eq_zero_iff.1 h0] at hu
   simp at hu
  ·refine ⟨⟨g,j * 4,none⟩,by simp [h],fun t u hu=>?_⟩
   rw [Addr.add_lit]
   exact hget t u hu
 have s2:∀ u ∈ news,u.oneCell'=true:=by
  intro u hu
  rw [hnews] at hu
  exact h1 u (List.mem_of_mem_drop hu)
 obtain ⟨cur1,hcur1⟩:∃ cur1,cur1=(cur.toList.take (i * 4)++news++cur.toList.drop (i * 4+news.length)).toArray:=⟨_,rfl⟩
 have hap:Hid (∀ ty,(Builtin.append_ #[47,47] ty #[.slice (some ⟨g,0,none⟩) i cap,.slice (some A) (n - j) (cap - j)]).run Tryz.prog w.drew=.ok (.slice (some ⟨g,0,none⟩) (i+(n - j)) cap) (w.drew.setRow g cur1)):=fun ty=>by
  rw [hcur1]
  exact run_append_room (P:=Tryz.prog) w.drew 47 ty 58 Tryz.t58 Tryz.underlying47 rfl g i cap cur hg A (n - j) (cap - j) news hlen hsrc.out s2 (by omega) (by show i * 4+news.length≤cur.size; omega)
 have hcur1s:cur1.size=cur.size:=by rw [hcur1]; simp; omega
 have hh1:(w.drew.setRow g cur1).heap[g]?=some (.cells cur1 58 (0,0)):=setRow_heap w.drew g cur cur1 58 _ hg
 obtain ⟨cur2,hcur2⟩:∃ cur2,cur2=(cur1.toList.take ((i+(n - j)) * 4)++(Builtin.zeroCells (Value.agg #[Value.int .i64 0,Value.int .i64 0,Value.int .i64 0,Value.bool false]).cells (j - i)).toList++cur1.toList.drop ((i+(n - j)) * 4+(j - i) * 4)).toArray:=⟨_,rfl⟩
 have hcl:Hid (∀ ty c,(Builtin.clear_ #[47] ty #[.slice (some ⟨g,(i+(n - j)) * 4,none⟩) (n - (i+(n - j))) c]).run Tryz.prog (w.drew.setRow g cur1)=.ok (.tuple #[]) (w.drew.setRow g cur2)):=fun ty c=>by
  have e:n - (i+(n - j))=j - i:=by omega
  rw [e,hcur2]
  have:=run_clear_rowK (P:=Tryz.prog) (w.drew.setRow g cur1) 47 58 ty _ Tryz.underlying47 Tryz.zeroValue58 (by simp [Value.cells]) (by simp [Value.cells,Value.oneCell']) g ((i+(n - j)) * 4) (j - i) c (by omega) cur1 58 hh1 (by simp [Value.cells]; omega)
  rw [this,setRow_setRow]
  rfl
 obtain ⟨W1,hW1⟩:∃ W1,W1=w.drew.setRow g cur1:=⟨_,rfl⟩
 obtain ⟨W2,hW2⟩:∃ W2,W2=w.drew.setRow g cur2:=⟨_,rfl⟩
 have F:Aside (∃ cur',cur'.size=cur.size∧cur'.toList.take ((i+(n - j)) * 4)=cur.toList.take (i * 4)++(cur.toList.take (n * 4)).drop (j * 4)∧W2=w.drew.setRow g cur'):=by
  refine ⟨cur2,?_,?_,hW2⟩
  ·rw [hcur2]; simp [Builtin.zeroCells,Value.cells]; omega
  ·rw [← hnews,hcur2]
   simp only [List.append_assoc]
   rw [List.take_append_of_le_length (by simp; omega),List.take_take,Nat.min_self,hcur1]
   exact List.take_left' (by simp; omega)
 rw [← hW1] at hap hcl
 rw [← hW2] at hcl
 clear hcur1 hcur2 hh1 hcur1s hW1 hW2 hsrc s2 hget hnews hlen
 have hic:i≤cap:=by omega
 have hjc:j≤cap:=by omega
 have hjn:i≤j:=by omega
 have mixed:Tryz.prog.follows .mixedOrders=true:=by kernel_rfl
 go_enter Tryz.func98,Tryz.ntmps98
 go_wp2_with fail
 go_region_law_o (refine step_append_runL rfl (.tmp 22) (.tmp 25) 47 47 rfl _ _ (by simp [Act.eval,Act.put]) (by simp [Act.eval,Act.put,hA]) (hap.out _) ?_)
 go_wp2_with (simp only [hcl.out])
 go_ret
 exact ⟨rfl,F.out⟩

theorem delW98:DelW Tryz.prog 98 58 4:=by
 intro u n i j xs w hown h1 hij hj
 rcases hown.2 with ⟨_,rfl⟩ | ⟨g,cap,cur,rfl,_,hg,hnc,hcm,hcs,htk⟩
 ·omega
 ·subst htk
  refine (del98 g cap n i j cur w hg hnc (by simp only [maxLen] at hcm; omega) hcs h1 hij hj).mono ?_
  rintro en w' ⟨rfl,cur',h2,h3,rfl⟩
  have e1:(cur.toList.take (n * 4)).take (i * 4)=cur.toList.take (i * 4):=by rw [List.take_take]; congr 1; omega
  refine ⟨_,rfl,⟨⟨?_,.inr ⟨g,cap,cur',rfl,Nat.zero_le _,setRow_heap w.drew g cur cur' 58 _ hg,by omega,hcm,by omega,?_⟩⟩,⟨rfl,rfl,rfl,by simp,fun k _ hk=>setRow_other w.drew g k _ (fun e=>hk (by simp [Value.ownBlock,e]))⟩,fun b hb=>.inl (by simpa [Value.ownBlock] using hb),by show w.drawn≤w.drawn+1; omega⟩⟩
  ·simp; omega
  ·rw [h3,e1]
end Go.Proofs.YtiinmaihgmfniaaGreat
