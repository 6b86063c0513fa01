import Derived.Test.YtmollikhdbaikaaGreatProg
import Derived.Shelf.RegionOpenPlain
import Derived.WalkKit
import Derived.Deep.LoopGhost
import Derived.Deep.RegionLaw
import Derived.Lib.Walk
import Derived.Sort.WalkB12
import Derived.Shelf.SlicesE.Kit
import Derived.Laws.Externs
import Derived.Test.YtmollikhdbaikaaGreatZLb
set_option linter.unusedVariables false
set_option linter.unusedSimpArgs false
namespace Go.Proofs.YtmollikhdbaikaaGreat
open Go.L Go.Shelf Go.RowKit Go.Lib Go.Sort
theorem P1:Tryz.t86.zero=some (.agg #[.int .i64 0,.int .i64 0,.int .i64 0,.int .i64 0,.int .i64 0,.int .i64 0]):=by kernel_rfl
set_option maxHeartbeats 4000000 in
set_option maxRecDepth 100000 in
theorem Em:zA Tryz.prog 69 86 6:=by
 intro a n cap news w hl xm hc h1 hn
 have Wy:∀ (w:World) (a:Option Addr) (n c n' c':Nat),(binOp .eql 52 (.slice a n c) (.slice none n' c')).run Tryz.prog w=.ok (.bool a.isNone) w:=fun w a n c n' c'=>Lib.run_eql_slice_nil w _ _ a n c n' c' Tryz.underlying52
 cases a with
 | none =>
  have Md:=xm rfl
  subst Md
  have lJ:news=[]:=List.eq_nil_of_length_eq_zero (by simpa using hl)
  subst lJ
  clear hl xm hc h1 hn
  go_enter Tryz.func69,Tryz.ntmps69
  go_wp2
  go_ret
  exact ⟨_,rfl,⟨World.ownsRow_nil w 0 86 6,⟨rfl,rfl,rfl,Nat.le_refl _,fun _ _ _=>rfl⟩,fun b hb=>.inl hb,Nat.le_refl _⟩⟩
 | some ad =>
  have bd:(w.alloc (.cells #[] 86)).ownsRow 0 86 6 (.slice (some ⟨w.heap.size,0,none⟩) 0 0) 0 []:=World.ownsRow_made w #[] 0 (Nat.zero_le _) (Nat.zero_le _) (by simp)
  obtain ⟨u',w',hr,h2,h3,h4,_,h6⟩:=fV (P:=Tryz.prog) (t:=52) (ty:=52) Tryz.underlying52 (i:=Tryz.t86) rfl P1 (by kernel_rfl) (by decide) (by decide) bd (q:=n) (cap:=cap) (a:=ad) (news:=news) hl (fun j u hj=>Lib.cell?_alloc_some _ (hc ad rfl j u hj)) h1 (by omega)
  have tZ:Hid (∀ ty,(Builtin.append_ #[52,52] ty #[.slice (some ⟨w.heap.size,0,none⟩) 0 0,.slice (some ad) n cap]).run Tryz.prog (w.alloc (.cells #[] 86))=.ok u' w'):=fun ty=>(pW ▸ hr)
  have F:Aside (nM w w' 86 6 (.slice none 0 0) u' n news):=by
   have MF:w'.ownsRow 0 86 6 u' (0+n) ([]++news):=h2
   refine ⟨by simpa using MF,⟨h3.os,h3.tape,h3.output,Nat.le_trans (by simp) h3.size,fun k hk _=>(h3.block k (by simp; omega) (by simp [Value.ownBlock]; omega)).trans (_root_.Go.heap_alloc_old w _ hk)⟩,fun b hb=>.inr ?_,Nat.le_trans (Nat.le_refl _) h6⟩
   rcases h4 b hb with h | h
   ·simp [Value.ownBlock] at h; omega
   ·simp at h; omega
  clear hl xm hc h1 hn bd hr h2 h3 h4 h6
  go_enter Tryz.func69,Tryz.ntmps69
  go_wp2_with (at_builtin; refine Lib.wpList_append_run _ rfl _ _ _ _ rfl _ _ rfl rfl _ _ (tZ.out _) ?_)
  go_ret
  exact ⟨_,rfl,F.out⟩
theorem Tl:Tryz.t3.zero=some (.int .i64 0):=by kernel_rfl
set_option maxHeartbeats 4000000 in
set_option maxRecDepth 100000 in
theorem En:zA Tryz.prog 70 3 1:=by
 intro a n cap news w hl xm hc h1 hn
 have Wx:∀ (w:World) (a:Option Addr) (n c n' c':Nat),(binOp .eql 22 (.slice a n c) (.slice none n' c')).run Tryz.prog w=.ok (.bool a.isNone) w:=fun w a n c n' c'=>Lib.run_eql_slice_nil w _ _ a n c n' c' Tryz.underlying22
 cases a with
 | none =>
  have Md:=xm rfl
  subst Md
  have lJ:news=[]:=List.eq_nil_of_length_eq_zero (by simpa using hl)
  subst lJ
  clear hl xm hc h1 hn
  go_enter Tryz.func70,Tryz.ntmps70
  go_wp2
  go_ret
  exact ⟨_,rfl,⟨World.ownsRow_nil w 0 3 1,⟨rfl,rfl,rfl,Nat.le_refl _,fun _ _ _=>rfl⟩,fun b hb=>.inl hb,Nat.le_refl _⟩⟩
 | some ad =>
  have bd:(w.alloc (.cells #[] 3)).ownsRow 0 3 1 (.slice (some ⟨w.heap.size,0,none⟩) 0 0) 0 []:=World.ownsRow_made w #[] 0 (Nat.zero_le _) (Nat.zero_le _) (by simp)
  obtain ⟨u',w',hr,h2,h3,h4,_,h6⟩:=fV (P:=Tryz.prog) (t:=22) (ty:=22) Tryz.underlying22 (i:=Tryz.t3) rfl Tl (by kernel_rfl) (by decide) (by decide) bd (q:=n) (cap:=cap) (a:=ad) (news:=news) hl (fun j u hj=>Lib.cell?_alloc_some _ (hc ad rfl j u hj)) h1 (by omega)
  have tZ:Hid (∀ ty,(Builtin.append_ #[22,22] ty #[.slice (some ⟨w.heap.size,0,none⟩) 0 0,.slice (some ad) n cap]).run Tryz.prog (w.alloc (.cells #[] 3))=.ok u' w'):=fun ty=>(pW ▸ hr)
  have F:Aside (nM w w' 3 1 (.slice none 0 0) u' n news):=by
   have MF:w'.ownsRow 0 3 1 u' (0+n) ([]++news):=h2
   refine ⟨by simpa using MF,⟨h3.os,h3.tape,h3.output,Nat.le_trans (by simp) h3.size,fun k hk _=>(h3.block k (by simp; omega) (by simp [Value.ownBlock]; omega)).trans (_root_.Go.heap_alloc_old w _ hk)⟩,fun b hb=>.inr ?_,Nat.le_trans (Nat.le_refl _) h6⟩
   rcases h4 b hb with h | h
   ·simp [Value.ownBlock] at h; omega
   ·simp at h; omega
  clear hl xm hc h1 hn bd hr h2 h3 h4 h6
  go_enter Tryz.func70,Tryz.ntmps70
  go_wp2_with (at_builtin; refine Lib.wpList_append_run _ rfl _ _ _ _ rfl _ _ rfl rfl _ _ (tZ.out _) ?_)
  go_ret
  exact ⟨_,rfl,F.out⟩
theorem Jy:Tryz.t49.zero=some (.agg #[.int .i64 0,.slice none 0 0,.slice none 0 0,.slice none 0 0,.bool false]):=by kernel_rfl
set_option maxHeartbeats 4000000 in
set_option maxRecDepth 100000 in
theorem K7 (u:Value) (n vb vc:Nat) (xs vs:List Value) (oU:Array Value) (w:World) (bd:w.ownsRow 0 49 5 u n xs) (hn:n≤549755813887)
  (hv:w.heap[vb]?=some (.cells oU 49 (0,0))) (DP:oU.toList.take 5=vs) (nh:vs.length=5) (Cq:∀ v ∈ vs,v.oneCell'=true) :
  Calls Tryz.prog 77 #[u,.int .i64 n,.slice (some ⟨vb,0,none⟩) 1 vc] w fun e w'=>∃ u',e=.returned u'∧nM w w' 49 5 u u' (n+1) (xs++vs):=by
 have E7:∀ j x,vs[j]?=some x→w.cell? ((⟨vb,0,none⟩:Addr).add j)=some x:=by
  intro j x hx
  rw [Addr.add_lit]
  rw [← DP,List.getElem?_take] at hx
  split at hx
  ·simp [World.cell?,hv]; simpa using hx
  ·cases hx
 obtain ⟨u',w',hr,h2,h3,h4,_,h6⟩:=fV (P:=Tryz.prog) (t:=28) (ty:=28) Tryz.underlying28 (i:=Tryz.t49) rfl Jy (by kernel_rfl) (by decide) (by decide) bd (q:=1) (cap:=vc) (news:=vs) nh E7 Cq (by omega)
 have tZ:Hid (∀ ty,(Builtin.append_ #[28,28] ty #[u,.slice (some ⟨vb,0,none⟩) 1 vc]).run Tryz.prog w=.ok u' w'):=fun ty=>(pW ▸ hr)
 have mixed:Tryz.prog.follows .mixedOrders=true:=by kernel_rfl
 have F:Aside (nM w w' 49 5 u u' (n+1) (xs++vs)):=⟨h2,h3,h4,h6⟩
 rcases bd.2 with ⟨rfl,rfl⟩ | ⟨g,cap,cur,rfl,_,hg,kf,zi,hcs,wD⟩
 ·clear bd h2 h3 h4 h6 hr E7 Cq nh DP hv
  go_enter Tryz.func77,Tryz.ntmps77
  go_wp2_with (at_builtin; refine Lib.wpList_append_run _ rfl _ _ _ _ rfl _ _ rfl rfl _ _ (tZ.out _) ?_)
  go_ret
  exact ⟨_,rfl,F.out⟩
 ·have U7:cap≤9223372036854775807:=by simp only [maxLen] at zi; omega
  clear bd h2 h3 h4 h6 hr E7 Cq nh DP hv hg hcs wD
  by_cases U8:cap=n
  ·subst U8
   go_enter Tryz.func77,Tryz.ntmps77
   go_wp2_with (at_builtin; refine Lib.wpList_append_run _ rfl _ _ _ _ rfl _ _ rfl rfl _ _ (tZ.out _) ?_)
   all_goals (go_ret; exact ⟨_,rfl,F.out⟩)
  ·go_enter Tryz.func77,Tryz.ntmps77
   go_wp2_with (at_builtin; refine Lib.wpList_append_run _ rfl _ _ _ _ rfl _ _ rfl rfl _ _ (tZ.out _) ?_)
   all_goals (go_ret; exact ⟨_,rfl,F.out⟩)
set_option maxHeartbeats 4000000 in
set_option maxRecDepth 100000 in
theorem K9 (g cap n i vb vc:Nat) (cur oU:Array Value) (xs vs:List Value) (w:World) (hg:w.heap[g]?=some (.cells cur 49 (0,0))) (nR:n+1≤cap) (zi:cap≤maxLen) (hcs:cur.size=cap * 5) (DR:cur.toList.take (n * 5)=xs) (h1:∀ y ∈ xs,y.oneCell'=true) (hi:i<n)
  (hv:w.heap[vb]?=some (.cells oU 49 (0,0))) (DP:oU.toList.take 5=vs) (nh:vs.length=5) (Cq:∀ v ∈ vs,v.oneCell'=true) (ep:vb ≠ g) :
  Calls Tryz.prog 77 #[.slice (some ⟨g,0,none⟩) n cap,.int .i64 i,.slice (some ⟨vb,0,none⟩) 1 vc] w fun e w'=>∃ u',e=.returned u'∧nM w w' 49 5 (.slice (some ⟨g,0,none⟩) n cap) u' (n+1) (xs.take (i * 5)++vs++xs.drop (i * 5)):=by
 have uH:xs.length=n * 5:=by rw [← DR]; simp; omega
 have HA:cap≤9223372036854775807:=by simp only [maxLen] at zi; omega
 have Vy:∀ lb cb,(callFunc 98 #[.slice (some ⟨vb,0,none⟩) 1 vc,.slice (some ⟨g,(i+1) * 5,none⟩) lb cb]).run Tryz.prog w=.ok (.value (.bool false)) w:=fun lb cb=>by
  rw [run_callFunc_extern Tryz.func98 (by kernel_rfl) (by kernel_rfl) (by kernel_rfl) (e:=Extern.SlicesOverlaps.overlaps #[28,28] #[4]) (by kernel_rfl),
   Lib.run_overlaps_apart w 28 4 49 Tryz.underlying28 5 Tryz.sizeOf49 ⟨vb,0,none⟩ ⟨g,(i+1) * 5,none⟩ 1 vc lb cb ep 49 49 oU.size cur.size (by simp [World.shape?,hv]) (by simp [World.shape?,hg]) (by omega) (by simp [World.frozen?,hv]) (by simp [World.frozen?,hv])]
  rfl
 obtain ⟨mq,xc⟩:∃ mq,mq=(cur.toList.take ((i+1) * 5)++xs.drop (i * 5)++cur.toList.drop ((i+1) * 5+(xs.drop (i * 5)).length)).toArray:=⟨_,rfl⟩
 have NS:(xs.drop (i * 5)).length=(n - i) * 5:=by simp [uH]; omega
 have EG:Hid (∀ ty dc sc,(Builtin.copy_ #[28,28] ty #[.slice (some ⟨g,(i+1) * 5,none⟩) (n - i) dc,.slice (some ⟨g,i * 5,none⟩) (n+1 - i) sc]).run Tryz.prog w.drew=.ok (goInt ((n - i:Nat):Int)) (w.drew.setRow g mq)):=fun ty dc sc=>by
  have sG:Nat.min (n+1 - i) (n - i)=n - i:=by simp only [Nat.min_def]; split <;> omega
  have:=iQ (P:=Tryz.prog) w.drew 28 28 ty 49 5 g ((i+1) * 5) (n - i) dc ⟨g,i * 5,none⟩ (n+1 - i) sc cur 49 (xs.drop (i * 5)) Tryz.underlying28 Tryz.sizeOf49 hg (by rw [sG]; exact NS)
   (fun j v hj=>by
    rw [Addr.add_lit]
    rw [List.getElem?_drop,← DR,List.getElem?_take] at hj
    split at hj
    ·show w.cell? _=_
     simp [World.cell?,hg]; simpa using hj
    ·cases hj) (by omega) (fun v hv=>h1 v (List.mem_of_mem_drop hv))
  rw [this,sG,xc]
 have Kd:mq.size=cur.size:=by rw [xc]; simp [uH]; omega
 have Ma:(w.drew.setRow g mq).heap[g]?=some (.cells mq 49 (0,0)):=setRow_heap w.drew g cur mq 49 _ hg
 obtain ⟨Cg,Bt⟩:∃ Cg,Cg=(mq.toList.take (i * 5)++vs++mq.toList.drop (i * 5+vs.length)).toArray:=⟨_,rfl⟩
 have Cv:Hid (∀ ty dc,(Builtin.copy_ #[28,28] ty #[.slice (some ⟨g,i * 5,none⟩) (n+1 - i) dc,.slice (some ⟨vb,0,none⟩) 1 vc]).run Tryz.prog (w.drew.setRow g mq)=.ok (goInt ((1:Nat):Int)) (w.drew.setRow g Cg)):=fun ty dc=>by
  have sG:Nat.min 1 (n+1 - i)=1:=by simp only [Nat.min_def]; split <;> omega
  have:=iQ (P:=Tryz.prog) (w.drew.setRow g mq) 28 28 ty 49 5 g (i * 5) (n+1 - i) dc ⟨vb,0,none⟩ 1 vc mq 49 vs Tryz.underlying28 Tryz.sizeOf49 Ma (by rw [sG]; exact nh)
   (fun j v hj=>by
    rw [Addr.add_lit]
    rw [← DP,List.getElem?_take] at hj
    split at hj
    ·have hb:(w.drew.setRow g mq).heap[vb]?=some (.cells oU 49 (0,0)):=(setRow_other w.drew g vb mq ep).trans hv
     simp [World.cell?,hb]; simpa using hj
    ·cases hj) (by omega) Cq
  rw [this,sG,Bt,setRow_setRow]
 obtain ⟨W1,DH⟩:∃ W1,W1=w.drew.setRow g mq:=⟨_,rfl⟩
 obtain ⟨W2,vC⟩:∃ W2,W2=w.drew.setRow g Cg:=⟨_,rfl⟩
 have F:Aside (nM w W2 49 5 (.slice (some ⟨g,0,none⟩) n cap) (.slice (some ⟨g,0,none⟩) (n+1) cap) (n+1) (xs.take (i * 5)++vs++xs.drop (i * 5))):=by
  refine ⟨⟨by simp [uH,nh]; omega,.inr ⟨g,cap,Cg,rfl,Nat.zero_le _,by rw [vC]; exact setRow_heap w.drew g cur Cg 49 _ hg,nR,zi,by rw [Bt]; simp [nh]; omega,?_⟩⟩,⟨by rw [vC]; rfl,by rw [vC]; rfl,by rw [vC]; rfl,by rw [vC]; simp,fun k _ hk=>by rw [vC]; exact setRow_other w.drew g k _ (fun e=>hk (by simp [Value.ownBlock,e]))⟩,fun b hb=>.inl (by simpa [Value.ownBlock] using hb),by rw [vC]; show w.drawn≤w.drew.drawn; simp⟩
  have e1:mq.toList.take (i * 5)=xs.take (i * 5):=by
   rw [xc,List.append_assoc]
   rw [List.take_append_of_le_length (by simp; omega),List.take_take,← DR,List.take_take]
   congr 1
   omega
  have e2:mq.toList.drop (i * 5+vs.length)=xs.drop (i * 5)++cur.toList.drop ((i+1) * 5+(xs.drop (i * 5)).length):=by
   rw [xc,List.append_assoc]
   exact List.drop_left' (by simp [nh]; omega)
  rw [Bt,e1,e2]
  show List.take ((n+1) * 5) (xs.take (i * 5)++vs++(xs.drop (i * 5)++_))=_
  rw [← List.append_assoc]
  exact List.take_left' (by simp [uH,nh]; omega)
 rw [← DH] at EG Cv
 rw [← vC] at Cv
 clear xc Bt Ma Kd DH vC NS h1 Cq nh DP hv DR uH hg hcs
 have mixed:Tryz.prog.follows .mixedOrders=true:=by kernel_rfl
 have K5:¬ ((i:Int)=(n:Int)):=by omega
 have Bz:IntKind.i64.wrap ((i:Int)+1)=(i:Int)+1:=by rw [IntKind.wrap_i64]; omega
 have JX:(0:Int)≤(i:Int)+1:=by omega
 have DK:i≤n:=by omega
 have Sp:((i:Int)+1).toNat=i+1:=by omega
 have cL:¬ (cap=i+1):=by omega
 have bZ:(i:Int)≤(n:Int)+1:=by omega
 have bJ:¬ (cap=i):=by omega
 go_enter Tryz.func77,Tryz.ntmps77
 go_wp2_with (simp only [Vy])
 go_region_law_o (refine mB rfl (.tmp 73) (.tmp 76) 28 28 rfl (.slice (some ⟨g,(i+1) * 5,none⟩) (n - i) (cap - (i+1))) (.slice (some ⟨g,i * 5,none⟩) (n+1 - i) (cap - i)) (by simp [Act.eval,Act.put]) (by simp [Act.eval,Act.put]) (EG.out _ _ _) ?_)
 go_wp2_with (simp only [Cv.out])
 go_ret
 exact ⟨_,rfl,F.out⟩
set_option maxHeartbeats 4000000 in
set_option maxRecDepth 100000 in
theorem K8 (g cap n i vb vc:Nat) (cur oU:Array Value) (xs vs:List Value) (w:World) (hg:w.heap[g]?=some (.cells cur 49 (0,0))) (kf:n≤cap) (nR:cap<n+1) (hn:n≤549755813887) (hcs:cur.size=cap * 5) (DR:cur.toList.take (n * 5)=xs) (h1:∀ y ∈ xs,y.oneCell'=true) (hi:i<n)
  (hv:w.heap[vb]?=some (.cells oU 49 (0,0))) (DP:oU.toList.take 5=vs) (nh:vs.length=5) (Cq:∀ v ∈ vs,v.oneCell'=true) :
  Calls Tryz.prog 77 #[.slice (some ⟨g,0,none⟩) n cap,.int .i64 i,.slice (some ⟨vb,0,none⟩) 1 vc] w fun e w'=>∃ u',e=.returned u'∧nM w w' 49 5 (.slice (some ⟨g,0,none⟩) n cap) u' (n+1) (xs.take (i * 5)++vs++xs.drop (i * 5)):=by
 obtain rfl:cap=n:=by omega
 have uH:xs.length=cap * 5:=by rw [← DR]; simp; omega
 have MW:g<w.heap.size:=(Array.getElem?_eq_some_iff.1 hg).1
 have NA:vb<w.heap.size:=(Array.getElem?_eq_some_iff.1 hv).1
 obtain ⟨h,hh⟩:∃ h,h=w.heap.size:=⟨_,rfl⟩
 obtain ⟨NC,Qt⟩:∃ NC,NC=grownCap w (cap+1) cap 49:=⟨_,rfl⟩
 have Rm:cap+1≤NC:=by rw [Qt]; exact grownCap_ge w (cap+1) cap 49
 have JT:NC≤maxLen:=by rw [Qt]; exact grownCap_le_maxLen w (cap+1) cap 49 (by simp only [maxLen]; omega)
 have UY:NC≤9223372036854775807:=by simp only [maxLen] at JT; omega
 obtain ⟨nc,HD⟩:∃ nc:Array Value,nc=(xs.take (i * 5)).toArray++Builtin.zeroCells (Value.agg #[.int .i64 0,.slice none 0 0,.slice none 0 0,.slice none 0 0,.bool false]).cells (cap+1 - i)++Builtin.zeroCells (Value.agg #[.int .i64 0,.slice none 0 0,.slice none 0 0,.slice none 0 0,.bool false]).cells (NC - (cap+1)):=⟨_,rfl⟩
 have RS:nc.size=NC * 5:=by rw [HD]; simp [Builtin.zeroCells,Value.cells,uH]; omega
 have JV:Hid (∀ ty,(Builtin.append_ #[28,3] ty #[.slice (some ⟨g,0,none⟩) i cap,.int .i64 ((cap:Int)+1 - (i:Int))]).run Tryz.prog w=.ok (.slice (some ⟨h,0,none⟩) (cap+1) NC) (w.drew.alloc (.cells nc 49))):=fun ty=>by
  have:=l0 (P:=Tryz.prog) w 28 3 ty 49 Tryz.t49 _ .i64 .i64 Tryz.underlying28 Tryz.underlying3 rfl Jy ⟨g,0,none⟩ i cap (xs.take (i * 5)) (by show _=i * 5; simp [uH]; omega)
   (fun j v hj=>by
    rw [Addr.add_lit]
    rw [List.getElem?_take] at hj
    split at hj
    ·rw [← DR,List.getElem?_take] at hj
     split at hj
     ·simp [World.cell?,hg]; simpa using hj
     ·cases hj
    ·cases hj) (cap+1 - i) (by omega) (by decide) (by omega) (by omega) (by show (cap+1 - i) * 88≤_; omega) (growslice_fits (by omega) (by show (i+(cap+1 - i)) * 88≤_; omega))
  have e1:((cap+1 - i:Nat):Int)=(cap:Int)+1 - (i:Int):=by omega
  have e2:i+(cap+1 - i)=cap+1:=by omega
  rw [e1,e2,← Qt,← hh,← HD] at this
  exact this
 obtain ⟨W0,Hv⟩:∃ W0,W0=w.drew.alloc (.cells nc 49):=⟨_,rfl⟩
 have RJ:W0.heap[h]?=some (.cells nc 49 (0,0)):=by rw [Hv,hh]; exact heap_alloc_new w.drew _
 have hold:∀ b,b<w.heap.size→W0.heap[b]?=w.heap[b]?:=fun b hb=>by rw [Hv]; exact _root_.Go.heap_alloc_old w.drew _ hb
 obtain ⟨c1,jw⟩:∃ c1,c1=(nc.toList.take (i * 5)++vs++nc.toList.drop (i * 5+vs.length)).toArray:=⟨_,rfl⟩
 have Ry:c1.size=nc.size:=by rw [jw]; simp [nh]; omega
 have EG:Hid (∀ ty dc,(Builtin.copy_ #[28,28] ty #[.slice (some ⟨h,i * 5,none⟩) (cap+1 - i) dc,.slice (some ⟨vb,0,none⟩) 1 vc]).run Tryz.prog W0=.ok (goInt ((1:Nat):Int)) (W0.setRow h c1)):=fun ty dc=>by
  have sG:Nat.min 1 (cap+1 - i)=1:=by simp only [Nat.min_def]; split <;> omega
  have:=iQ (P:=Tryz.prog) W0 28 28 ty 49 5 h (i * 5) (cap+1 - i) dc ⟨vb,0,none⟩ 1 vc nc 49 vs Tryz.underlying28 Tryz.sizeOf49 RJ (by rw [sG]; exact nh)
   (fun j v hj=>by
    rw [Addr.add_lit]
    rw [← DP,List.getElem?_take] at hj
    split at hj
    ·have hb:=(hold vb NA).trans hv
     simp [World.cell?,hb]; simpa using hj
    ·cases hj) (by omega) Cq
  rw [this,sG,jw]
 obtain ⟨W1,DH⟩:∃ W1,W1=W0.setRow h c1:=⟨_,rfl⟩
 have Ma:W1.heap[h]?=some (.cells c1 49 (0,0)):=by rw [DH]; exact setRow_heap W0 h nc c1 49 _ RJ
 have EX:∀ b,b<w.heap.size→W1.heap[b]?=w.heap[b]?:=fun b hb=>by rw [DH,setRow_other W0 h b c1 (by omega)]; exact hold b hb
 obtain ⟨c2,fJ⟩:∃ c2,c2=(c1.toList.take ((i+1) * 5)++xs.drop (i * 5)++c1.toList.drop ((i+1) * 5+(xs.drop (i * 5)).length)).toArray:=⟨_,rfl⟩
 have NS:(xs.drop (i * 5)).length=(cap - i) * 5:=by simp [uH]; omega
 have Cv:Hid (∀ ty dc sc,(Builtin.copy_ #[28,28] ty #[.slice (some ⟨h,(i+1) * 5,none⟩) (cap - i) dc,.slice (some ⟨g,i * 5,none⟩) (cap - i) sc]).run Tryz.prog W1.drew=.ok (goInt ((cap - i:Nat):Int)) (W1.drew.setRow h c2)):=fun ty dc sc=>by
  have sG:Nat.min (cap - i) (cap - i)=cap - i:=by simp [Nat.min_def]
  have:=iQ (P:=Tryz.prog) W1.drew 28 28 ty 49 5 h ((i+1) * 5) (cap - i) dc ⟨g,i * 5,none⟩ (cap - i) sc c1 49 (xs.drop (i * 5)) Tryz.underlying28 Tryz.sizeOf49 Ma (by rw [sG]; exact NS)
   (fun j v hj=>by
    rw [Addr.add_lit]
    rw [List.getElem?_drop,← DR,List.getElem?_take] at hj
    split at hj
    ·show W1.cell? _=_
     have hb:=(EX g MW).trans hg
     simp [World.cell?,hb]; simpa using hj
    ·cases hj) (by omega) (fun v hv=>h1 v (List.mem_of_mem_drop hv))
  rw [this,sG,fJ]
 obtain ⟨W2,vC⟩:∃ W2,W2=W1.drew.setRow h c2:=⟨_,rfl⟩
 have F:Aside (nM w W2 49 5 (.slice (some ⟨g,0,none⟩) cap cap) (.slice (some ⟨h,0,none⟩) (cap+1) NC) (cap+1) (xs.take (i * 5)++vs++xs.drop (i * 5))):=by
  refine ⟨⟨by simp [uH,nh]; omega,.inr ⟨h,NC,c2,rfl,Nat.zero_le _,by rw [vC]; exact setRow_heap W1.drew h c1 c2 49 _ Ma,Rm,JT,by rw [fJ]; simp [uH]; omega,?_⟩⟩,⟨by rw [vC,DH,Hv]; rfl,by rw [vC,DH,Hv]; rfl,by rw [vC,DH,Hv]; rfl,by rw [vC,DH,Hv]; simp,fun k hk _=>by rw [vC,setRow_other W1.drew h k _ (by omega)]; exact EX k hk⟩,fun b hb=>.inr (by simp [Value.ownBlock] at hb; omega),by rw [vC,DH,Hv]; show w.drawn≤w.drawn+1+1; omega⟩
  have e0:nc.toList.take (i * 5)=xs.take (i * 5):=by
   rw [HD]
   simp only [Array.toList_append,List.append_assoc]
   exact List.take_left' (by simp [uH]; omega)
  have e1:c1.toList.take ((i+1) * 5)=xs.take (i * 5)++vs:=by
   rw [jw,e0]
   exact List.take_left' (by simp [uH,nh]; omega)
  rw [fJ,e1]
  exact List.take_left' (by simp [uH,nh]; omega)
 rw [← Hv] at JV
 rw [← DH] at EG
 rw [← vC] at Cv
 clear hcs DR h1 hv DP nh Cq uH MW NA hh Qt JT HD RS Hv RJ hold jw Ry DH Ma EX fJ NS vC hg
 have mixed:Tryz.prog.follows .mixedOrders=true:=by kernel_rfl
 have K5:¬ ((i:Int)=(cap:Int)):=by omega
 have Bz:IntKind.i64.wrap ((i:Int)+1)=(i:Int)+1:=by rw [IntKind.wrap_i64]; omega
 have qC:IntKind.i64.wrap ((cap:Int)+1)=(cap:Int)+1:=by rw [IntKind.wrap_i64]; omega
 have QG:IntKind.i64.wrap ((cap:Int)+1 - (i:Int))=(cap:Int)+1 - (i:Int):=by rw [IntKind.wrap_i64]; omega
 have JX:(0:Int)≤(i:Int)+1:=by omega
 have DK:i≤cap:=by omega
 have Sp:((i:Int)+1).toNat=i+1:=by omega
 have cL:¬ (NC=i+1):=by omega
 have bZ:(i:Int)≤(cap:Int)+1:=by omega
 have bJ:¬ (NC=i):=by omega
 have bK:¬ (cap=i):=by omega
 have b3:(i:Int)+1≤(cap:Int)+1:=by omega
 have bT:i≤cap+1:=by omega
 go_enter Tryz.func77,Tryz.ntmps77
 go_wp2_with (first | (at_builtin; refine Lib.wpList_append_run _ rfl _ _ _ _ rfl _ _ rfl rfl _ _ (JV.out _) ?_) | (simp only [EG.out]))
 go_region_law_o (refine mB rfl (.tmp 50) (.tmp 53) 28 28 rfl (.slice (some ⟨h,(i+1) * 5,none⟩) (cap - i) (NC - (i+1))) (.slice (some ⟨g,i * 5,none⟩) (cap - i) (cap - i)) (by simp [Act.eval,Act.put]) (by simp [Act.eval,Act.put]) (Cv.out _ _ _) ?_)
 go_wp2
 go_ret
 exact ⟨_,rfl,F.out⟩
theorem La:Mr Tryz.prog 77 49 5:=by
 intro u n i xs v vs w bd h1 hi hn hv Cq ep
 rcases hv.2 with ⟨_,h0⟩ | ⟨vb,vc,oU,rfl,_,SH,Wu,_,DP,VO⟩
 ·cases h0
 ·have nh:vs.length=5:=by have:=hv.1; omega
  have KY:oU.toList.take 5=vs:=by simpa using VO
  by_cases DK:i=n
  ·subst DK
   have:=K7 u i vb vc xs vs oU w bd hn SH KY nh Cq
   have e1:xs.take (i * 5)=xs:=List.take_of_length_le (by rw [bd.1]; exact Nat.le_refl _)
   have e2:xs.drop (i * 5)=[]:=List.drop_of_length_le (by rw [bd.1]; exact Nat.le_refl _)
   rw [e1,e2,List.append_nil]
   exact this
  ·rcases bd.2 with ⟨_,rfl⟩ | ⟨g,cap,cur,rfl,_,hg,kf,zi,hcs,wD⟩
   ·omega
   ·by_cases nR:n+1≤cap
    ·exact K9 g cap n i vb vc cur oU xs vs w hg nR zi hcs wD h1 (by omega) SH KY nh Cq (fun h=>ep vb rfl (by simp [Value.ownBlock,h]))
    ·exact K8 g cap n i vb vc cur oU xs vs w hg kf (by omega) hn hcs wD h1 (by omega) SH KY nh Cq
end Go.Proofs.YtmollikhdbaikaaGreat
