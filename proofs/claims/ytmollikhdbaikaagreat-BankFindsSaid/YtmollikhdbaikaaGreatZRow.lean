import Derived.Test.YtmollikhdbaikaaGreatProg
import Derived.Shelf.RegionOpenPlain
import Derived.WalkKit
import Derived.Deep.LoopGhost
import Derived.Deep.RegionLaw
import Derived.Lib.Walk
import Derived.Sort.WalkB12
import Derived.Shelf.SlicesE.Kit
import Derived.Laws.Externs
import Derived.Test.YtmollikhdbaikaaGreatZLb
set_option linter.unusedVariables false
set_option linter.unusedSimpArgs false
namespace Go.Proofs.YtmollikhdbaikaaGreat
open Go.L Go.Shelf Go.RowKit Go.Lib Go.Sort
theorem TK:Tryz.t4.zero=some (.bool false):=by kernel_rfl
set_option maxHeartbeats 4000000 in
set_option maxRecDepth 100000 in
theorem Ex:rV Tryz.prog 67 4 1:=by
 intro a n cap news w hl nH hc h1 hn
 have WW:∀ (w:World) (a:Option Addr) (n c n' c':Nat),(binOp .eql 46 (.slice a n c) (.slice none n' c')).run Tryz.prog w=.ok (.bool a.isNone) w:=fun w a n c n' c'=>Lib.run_eql_slice_nil w _ _ a n c n' c' Tryz.underlying46
 cases a with
 | none =>
  have Hp:=nH rfl
  subst Hp
  have jI:news=[]:=List.eq_nil_of_length_eq_zero (by simpa using hl)
  subst jI
  clear hl nH hc h1 hn
  go_enter Tryz.func67,Tryz.ntmps67
  go_wp2
  go_ret
  exact ⟨_,rfl,⟨World.ownsRow_nil w 0 4 1,⟨rfl,rfl,rfl,Nat.le_refl _,fun _ _ _=>rfl⟩,fun b hb=>.inl hb,Nat.le_refl _⟩⟩
 | some ad =>
  have bf:(w.alloc (.cells #[] 4)).ownsRow 0 4 1 (.slice (some ⟨w.heap.size,0,none⟩) 0 0) 0 []:=World.ownsRow_made w #[] 0 (Nat.zero_le _) (Nat.zero_le _) (by simp)
  obtain ⟨u',w',hr,h2,h3,h4,_,h6⟩:=et (P:=Tryz.prog) (t:=46) (ty:=46) Tryz.underlying46 (i:=Tryz.t4) rfl TK (by kernel_rfl) (by decide) (by decide) bf (q:=n) (cap:=cap) (a:=ad) (news:=news) hl (fun j u hj=>Lib.cell?_alloc_some _ (hc ad rfl j u hj)) h1 (by omega)
  have rr:Hid (∀ ty,(Builtin.append_ #[46,46] ty #[.slice (some ⟨w.heap.size,0,none⟩) 0 0,.slice (some ad) n cap]).run Tryz.prog (w.alloc (.cells #[] 4))=.ok u' w'):=fun ty=>(k5 ▸ hr)
  have F:Aside (lP w w' 4 1 (.slice none 0 0) u' n news):=by
   have HH:w'.ownsRow 0 4 1 u' (0+n) ([]++news):=h2
   refine ⟨by simpa using HH,⟨h3.os,h3.tape,h3.output,Nat.le_trans (by simp) h3.size,fun k hk _=>(h3.block k (by simp; omega) (by simp [Value.ownBlock]; omega)).trans (_root_.Go.heap_alloc_old w _ hk)⟩,fun b hb=>.inr ?_,Nat.le_trans (Nat.le_refl _) h6⟩
   rcases h4 b hb with h | h
   ·simp [Value.ownBlock] at h; omega
   ·simp at h; omega
  clear hl nH hc h1 hn bf hr h2 h3 h4 h6
  go_enter Tryz.func67,Tryz.ntmps67
  go_wp2_with (at_builtin; refine Lib.wpList_append_run _ rfl _ _ _ _ rfl _ _ rfl rfl _ _ (rr.out _) ?_)
  go_ret
  exact ⟨_,rfl,F.out⟩
theorem Qr:Tryz.t88.zero=some (.agg #[.int .i64 0,.int .i64 0,.int .i64 0]):=by kernel_rfl
set_option maxHeartbeats 4000000 in
set_option maxRecDepth 100000 in
theorem Ey:rV Tryz.prog 68 88 3:=by
 intro a n cap news w hl nH hc h1 hn
 have WX:∀ (w:World) (a:Option Addr) (n c n' c':Nat),(binOp .eql 47 (.slice a n c) (.slice none n' c')).run Tryz.prog w=.ok (.bool a.isNone) w:=fun w a n c n' c'=>Lib.run_eql_slice_nil w _ _ a n c n' c' Tryz.underlying47
 cases a with
 | none =>
  have Hp:=nH rfl
  subst Hp
  have jI:news=[]:=List.eq_nil_of_length_eq_zero (by simpa using hl)
  subst jI
  clear hl nH hc h1 hn
  go_enter Tryz.func68,Tryz.ntmps68
  go_wp2
  go_ret
  exact ⟨_,rfl,⟨World.ownsRow_nil w 0 88 3,⟨rfl,rfl,rfl,Nat.le_refl _,fun _ _ _=>rfl⟩,fun b hb=>.inl hb,Nat.le_refl _⟩⟩
 | some ad =>
  have bf:(w.alloc (.cells #[] 88)).ownsRow 0 88 3 (.slice (some ⟨w.heap.size,0,none⟩) 0 0) 0 []:=World.ownsRow_made w #[] 0 (Nat.zero_le _) (Nat.zero_le _) (by simp)
  obtain ⟨u',w',hr,h2,h3,h4,_,h6⟩:=et (P:=Tryz.prog) (t:=47) (ty:=47) Tryz.underlying47 (i:=Tryz.t88) rfl Qr (by kernel_rfl) (by decide) (by decide) bf (q:=n) (cap:=cap) (a:=ad) (news:=news) hl (fun j u hj=>Lib.cell?_alloc_some _ (hc ad rfl j u hj)) h1 (by omega)
  have rr:Hid (∀ ty,(Builtin.append_ #[47,47] ty #[.slice (some ⟨w.heap.size,0,none⟩) 0 0,.slice (some ad) n cap]).run Tryz.prog (w.alloc (.cells #[] 88))=.ok u' w'):=fun ty=>(k5 ▸ hr)
  have F:Aside (lP w w' 88 3 (.slice none 0 0) u' n news):=by
   have HH:w'.ownsRow 0 88 3 u' (0+n) ([]++news):=h2
   refine ⟨by simpa using HH,⟨h3.os,h3.tape,h3.output,Nat.le_trans (by simp) h3.size,fun k hk _=>(h3.block k (by simp; omega) (by simp [Value.ownBlock]; omega)).trans (_root_.Go.heap_alloc_old w _ hk)⟩,fun b hb=>.inr ?_,Nat.le_trans (Nat.le_refl _) h6⟩
   rcases h4 b hb with h | h
   ·simp [Value.ownBlock] at h; omega
   ·simp at h; omega
  clear hl nH hc h1 hn bf hr h2 h3 h4 h6
  go_enter Tryz.func68,Tryz.ntmps68
  go_wp2_with (at_builtin; refine Lib.wpList_append_run _ rfl _ _ _ _ rfl _ _ rfl rfl _ _ (rr.out _) ?_)
  go_ret
  exact ⟨_,rfl,F.out⟩
theorem Qq:Tryz.t86.zero=some (.agg #[.int .i64 0,.int .i64 0,.int .i64 0,.int .i64 0,.int .i64 0,.int .i64 0]):=by kernel_rfl
set_option maxHeartbeats 4000000 in
set_option maxRecDepth 100000 in
theorem Ez:rV Tryz.prog 69 86 6:=by
 intro a n cap news w hl nH hc h1 hn
 have WY:∀ (w:World) (a:Option Addr) (n c n' c':Nat),(binOp .eql 52 (.slice a n c) (.slice none n' c')).run Tryz.prog w=.ok (.bool a.isNone) w:=fun w a n c n' c'=>Lib.run_eql_slice_nil w _ _ a n c n' c' Tryz.underlying52
 cases a with
 | none =>
  have Hp:=nH rfl
  subst Hp
  have jI:news=[]:=List.eq_nil_of_length_eq_zero (by simpa using hl)
  subst jI
  clear hl nH hc h1 hn
  go_enter Tryz.func69,Tryz.ntmps69
  go_wp2
  go_ret
  exact ⟨_,rfl,⟨World.ownsRow_nil w 0 86 6,⟨rfl,rfl,rfl,Nat.le_refl _,fun _ _ _=>rfl⟩,fun b hb=>.inl hb,Nat.le_refl _⟩⟩
 | some ad =>
  have bf:(w.alloc (.cells #[] 86)).ownsRow 0 86 6 (.slice (some ⟨w.heap.size,0,none⟩) 0 0) 0 []:=World.ownsRow_made w #[] 0 (Nat.zero_le _) (Nat.zero_le _) (by simp)
  obtain ⟨u',w',hr,h2,h3,h4,_,h6⟩:=et (P:=Tryz.prog) (t:=52) (ty:=52) Tryz.underlying52 (i:=Tryz.t86) rfl Qq (by kernel_rfl) (by decide) (by decide) bf (q:=n) (cap:=cap) (a:=ad) (news:=news) hl (fun j u hj=>Lib.cell?_alloc_some _ (hc ad rfl j u hj)) h1 (by omega)
  have rr:Hid (∀ ty,(Builtin.append_ #[52,52] ty #[.slice (some ⟨w.heap.size,0,none⟩) 0 0,.slice (some ad) n cap]).run Tryz.prog (w.alloc (.cells #[] 86))=.ok u' w'):=fun ty=>(k5 ▸ hr)
  have F:Aside (lP w w' 86 6 (.slice none 0 0) u' n news):=by
   have HH:w'.ownsRow 0 86 6 u' (0+n) ([]++news):=h2
   refine ⟨by simpa using HH,⟨h3.os,h3.tape,h3.output,Nat.le_trans (by simp) h3.size,fun k hk _=>(h3.block k (by simp; omega) (by simp [Value.ownBlock]; omega)).trans (_root_.Go.heap_alloc_old w _ hk)⟩,fun b hb=>.inr ?_,Nat.le_trans (Nat.le_refl _) h6⟩
   rcases h4 b hb with h | h
   ·simp [Value.ownBlock] at h; omega
   ·simp at h; omega
  clear hl nH hc h1 hn bf hr h2 h3 h4 h6
  go_enter Tryz.func69,Tryz.ntmps69
  go_wp2_with (at_builtin; refine Lib.wpList_append_run _ rfl _ _ _ _ rfl _ _ rfl rfl _ _ (rr.out _) ?_)
  go_ret
  exact ⟨_,rfl,F.out⟩
theorem TJ:Tryz.t3.zero=some (.int .i64 0):=by kernel_rfl
set_option maxHeartbeats 4000000 in
set_option maxRecDepth 100000 in
theorem EA:rV Tryz.prog 70 3 1:=by
 intro a n cap news w hl nH hc h1 hn
 have WV:∀ (w:World) (a:Option Addr) (n c n' c':Nat),(binOp .eql 22 (.slice a n c) (.slice none n' c')).run Tryz.prog w=.ok (.bool a.isNone) w:=fun w a n c n' c'=>Lib.run_eql_slice_nil w _ _ a n c n' c' Tryz.underlying22
 cases a with
 | none =>
  have Hp:=nH rfl
  subst Hp
  have jI:news=[]:=List.eq_nil_of_length_eq_zero (by simpa using hl)
  subst jI
  clear hl nH hc h1 hn
  go_enter Tryz.func70,Tryz.ntmps70
  go_wp2
  go_ret
  exact ⟨_,rfl,⟨World.ownsRow_nil w 0 3 1,⟨rfl,rfl,rfl,Nat.le_refl _,fun _ _ _=>rfl⟩,fun b hb=>.inl hb,Nat.le_refl _⟩⟩
 | some ad =>
  have bf:(w.alloc (.cells #[] 3)).ownsRow 0 3 1 (.slice (some ⟨w.heap.size,0,none⟩) 0 0) 0 []:=World.ownsRow_made w #[] 0 (Nat.zero_le _) (Nat.zero_le _) (by simp)
  obtain ⟨u',w',hr,h2,h3,h4,_,h6⟩:=et (P:=Tryz.prog) (t:=22) (ty:=22) Tryz.underlying22 (i:=Tryz.t3) rfl TJ (by kernel_rfl) (by decide) (by decide) bf (q:=n) (cap:=cap) (a:=ad) (news:=news) hl (fun j u hj=>Lib.cell?_alloc_some _ (hc ad rfl j u hj)) h1 (by omega)
  have rr:Hid (∀ ty,(Builtin.append_ #[22,22] ty #[.slice (some ⟨w.heap.size,0,none⟩) 0 0,.slice (some ad) n cap]).run Tryz.prog (w.alloc (.cells #[] 3))=.ok u' w'):=fun ty=>(k5 ▸ hr)
  have F:Aside (lP w w' 3 1 (.slice none 0 0) u' n news):=by
   have HH:w'.ownsRow 0 3 1 u' (0+n) ([]++news):=h2
   refine ⟨by simpa using HH,⟨h3.os,h3.tape,h3.output,Nat.le_trans (by simp) h3.size,fun k hk _=>(h3.block k (by simp; omega) (by simp [Value.ownBlock]; omega)).trans (_root_.Go.heap_alloc_old w _ hk)⟩,fun b hb=>.inr ?_,Nat.le_trans (Nat.le_refl _) h6⟩
   rcases h4 b hb with h | h
   ·simp [Value.ownBlock] at h; omega
   ·simp at h; omega
  clear hl nH hc h1 hn bf hr h2 h3 h4 h6
  go_enter Tryz.func70,Tryz.ntmps70
  go_wp2_with (at_builtin; refine Lib.wpList_append_run _ rfl _ _ _ _ rfl _ _ rfl rfl _ _ (rr.out _) ?_)
  go_ret
  exact ⟨_,rfl,F.out⟩
theorem JR:Tryz.t49.zero=some (.agg #[.int .i64 0,.slice none 0 0,.slice none 0 0,.slice none 0 0,.bool false]):=by kernel_rfl
set_option maxHeartbeats 4000000 in
set_option maxRecDepth 100000 in
theorem Lt (u:Value) (n vb vc:Nat) (xs vs:List Value) (o3:Array Value) (w:World) (bf:w.ownsRow 0 49 5 u n xs) (hn:n≤549755813887)
  (hv:w.heap[vb]?=some (.cells o3 49 (0,0))) (D4:o3.toList.take 5=vs) (nk:vs.length=5) (CK:∀ v ∈ vs,v.oneCell'=true) :
  Calls Tryz.prog 77 #[u,.int .i64 n,.slice (some ⟨vb,0,none⟩) 1 vc] w fun e w'=>∃ u',e=.returned u'∧lP w w' 49 5 u u' (n+1) (xs++vs):=by
 have Fl:∀ j x,vs[j]?=some x→w.cell? ((⟨vb,0,none⟩:Addr).add j)=some x:=by
  intro j x hx
  rw [Addr.add_lit]
  rw [← D4,List.getElem?_take] at hx
  split at hx
  ·simp [World.cell?,hv]; simpa using hx
  ·cases hx
 obtain ⟨u',w',hr,h2,h3,h4,_,h6⟩:=et (P:=Tryz.prog) (t:=28) (ty:=28) Tryz.underlying28 (i:=Tryz.t49) rfl JR (by kernel_rfl) (by decide) (by decide) bf (q:=1) (cap:=vc) (news:=vs) nk Fl CK (by omega)
 have rr:Hid (∀ ty,(Builtin.append_ #[28,28] ty #[u,.slice (some ⟨vb,0,none⟩) 1 vc]).run Tryz.prog w=.ok u' w'):=fun ty=>(k5 ▸ hr)
 have mixed:Tryz.prog.follows .mixedOrders=true:=by kernel_rfl
 have F:Aside (lP w w' 49 5 u u' (n+1) (xs++vs)):=⟨h2,h3,h4,h6⟩
 rcases bf.2 with ⟨rfl,rfl⟩ | ⟨g,cap,cur,rfl,_,hg,kq,zA,hcs,wX⟩
 ·clear bf h2 h3 h4 h6 hr Fl CK nk D4 hv
  go_enter Tryz.func77,Tryz.ntmps77
  go_wp2_with (at_builtin; refine Lib.wpList_append_run _ rfl _ _ _ _ rfl _ _ rfl rfl _ _ (rr.out _) ?_)
  go_ret
  exact ⟨_,rfl,F.out⟩
 ·have Vv:cap≤9223372036854775807:=by simp only [maxLen] at zA; omega
  clear bf h2 h3 h4 h6 hr Fl CK nk D4 hv hg hcs wX
  by_cases Vw:cap=n
  ·subst Vw
   go_enter Tryz.func77,Tryz.ntmps77
   go_wp2_with (at_builtin; refine Lib.wpList_append_run _ rfl _ _ _ _ rfl _ _ rfl rfl _ _ (rr.out _) ?_)
   all_goals (go_ret; exact ⟨_,rfl,F.out⟩)
  ·go_enter Tryz.func77,Tryz.ntmps77
   go_wp2_with (at_builtin; refine Lib.wpList_append_run _ rfl _ _ _ _ rfl _ _ rfl rfl _ _ (rr.out _) ?_)
   all_goals (go_ret; exact ⟨_,rfl,F.out⟩)
set_option maxHeartbeats 4000000 in
set_option maxRecDepth 100000 in
theorem Lv (g cap n i vb vc:Nat) (cur o3:Array Value) (xs vs:List Value) (w:World) (hg:w.heap[g]?=some (.cells cur 49 (0,0))) (nX:n+1≤cap) (zA:cap≤maxLen) (hcs:cur.size=cap * 5) (D5:cur.toList.take (n * 5)=xs) (h1:∀ y ∈ xs,y.oneCell'=true) (hi:i<n)
  (hv:w.heap[vb]?=some (.cells o3 49 (0,0))) (D4:o3.toList.take 5=vs) (nk:vs.length=5) (CK:∀ v ∈ vs,v.oneCell'=true) (ew:vb ≠ g) :
  Calls Tryz.prog 77 #[.slice (some ⟨g,0,none⟩) n cap,.int .i64 i,.slice (some ⟨vb,0,none⟩) 1 vc] w fun e w'=>∃ u',e=.returned u'∧lP w w' 49 5 (.slice (some ⟨g,0,none⟩) n cap) u' (n+1) (xs.take (i * 5)++vs++xs.drop (i * 5)):=by
 have uV:xs.length=n * 5:=by rw [← D5]; simp; omega
 have HP:cap≤9223372036854775807:=by simp only [maxLen] at zA; omega
 have VW:∀ lb cb,(callFunc 98 #[.slice (some ⟨vb,0,none⟩) 1 vc,.slice (some ⟨g,(i+1) * 5,none⟩) lb cb]).run Tryz.prog w=.ok (.value (.bool false)) w:=fun lb cb=>by
  rw [run_callFunc_extern Tryz.func98 (by kernel_rfl) (by kernel_rfl) (by kernel_rfl) (e:=Extern.SlicesOverlaps.overlaps #[28,28] #[4]) (by kernel_rfl),
   Lib.run_overlaps_apart w 28 4 49 Tryz.underlying28 5 Tryz.sizeOf49 ⟨vb,0,none⟩ ⟨g,(i+1) * 5,none⟩ 1 vc lb cb ew 49 49 o3.size cur.size (by simp [World.shape?,hv]) (by simp [World.shape?,hg]) (by omega) (by simp [World.frozen?,hv]) (by simp [World.frozen?,hv])]
  rfl
 obtain ⟨mz,xv⟩:∃ mz,mz=(cur.toList.take ((i+1) * 5)++xs.drop (i * 5)++cur.toList.drop ((i+1) * 5+(xs.drop (i * 5)).length)).toArray:=⟨_,rfl⟩
 have Oa:(xs.drop (i * 5)).length=(n - i) * 5:=by simp [uV]; omega
 have ER:Hid (∀ ty dc sc,(Builtin.copy_ #[28,28] ty #[.slice (some ⟨g,(i+1) * 5,none⟩) (n - i) dc,.slice (some ⟨g,i * 5,none⟩) (n+1 - i) sc]).run Tryz.prog w.drew=.ok (goInt ((n - i:Nat):Int)) (w.drew.setRow g mz)):=fun ty dc sc=>by
  have sR:Nat.min (n+1 - i) (n - i)=n - i:=by simp only [Nat.min_def]; split <;> omega
  have:=iY (P:=Tryz.prog) w.drew 28 28 ty 49 5 g ((i+1) * 5) (n - i) dc ⟨g,i * 5,none⟩ (n+1 - i) sc cur 49 (xs.drop (i * 5)) Tryz.underlying28 Tryz.sizeOf49 hg (by rw [sR]; exact Oa)
   (fun j v hj=>by
    rw [Addr.add_lit]
    rw [List.getElem?_drop,← D5,List.getElem?_take] at hj
    split at hj
    ·show w.cell? _=_
     simp [World.cell?,hg]; simpa using hj
    ·cases hj) (by omega) (fun v hv=>h1 v (List.mem_of_mem_drop hv))
  rw [this,sR,xv]
 have Kz:mz.size=cur.size:=by rw [xv]; simp [uV]; omega
 have Ms:(w.drew.setRow g mz).heap[g]?=some (.cells mz 49 (0,0)):=setRow_heap w.drew g cur mz 49 _ hg
 obtain ⟨CA,BK⟩:∃ CA,CA=(mz.toList.take (i * 5)++vs++mz.toList.drop (i * 5+vs.length)).toArray:=⟨_,rfl⟩
 have CO:Hid (∀ ty dc,(Builtin.copy_ #[28,28] ty #[.slice (some ⟨g,i * 5,none⟩) (n+1 - i) dc,.slice (some ⟨vb,0,none⟩) 1 vc]).run Tryz.prog (w.drew.setRow g mz)=.ok (goInt ((1:Nat):Int)) (w.drew.setRow g CA)):=fun ty dc=>by
  have sR:Nat.min 1 (n+1 - i)=1:=by simp only [Nat.min_def]; split <;> omega
  have:=iY (P:=Tryz.prog) (w.drew.setRow g mz) 28 28 ty 49 5 g (i * 5) (n+1 - i) dc ⟨vb,0,none⟩ 1 vc mz 49 vs Tryz.underlying28 Tryz.sizeOf49 Ms (by rw [sR]; exact nk)
   (fun j v hj=>by
    rw [Addr.add_lit]
    rw [← D4,List.getElem?_take] at hj
    split at hj
    ·have hb:(w.drew.setRow g mz).heap[vb]?=some (.cells o3 49 (0,0)):=(setRow_other w.drew g vb mz ew).trans hv
     simp [World.cell?,hb]; simpa using hj
    ·cases hj) (by omega) CK
  rw [this,sR,BK,setRow_setRow]
 obtain ⟨W1,DX⟩:∃ W1,W1=w.drew.setRow g mz:=⟨_,rfl⟩
 obtain ⟨W2,vS⟩:∃ W2,W2=w.drew.setRow g CA:=⟨_,rfl⟩
 have F:Aside (lP w W2 49 5 (.slice (some ⟨g,0,none⟩) n cap) (.slice (some ⟨g,0,none⟩) (n+1) cap) (n+1) (xs.take (i * 5)++vs++xs.drop (i * 5))):=by
  refine ⟨⟨by simp [uV,nk]; omega,.inr ⟨g,cap,CA,rfl,Nat.zero_le _,by rw [vS]; exact setRow_heap w.drew g cur CA 49 _ hg,nX,zA,by rw [BK]; simp [nk]; omega,?_⟩⟩,⟨by rw [vS]; rfl,by rw [vS]; rfl,by rw [vS]; rfl,by rw [vS]; simp,fun k _ hk=>by rw [vS]; exact setRow_other w.drew g k _ (fun e=>hk (by simp [Value.ownBlock,e]))⟩,fun b hb=>.inl (by simpa [Value.ownBlock] using hb),by rw [vS]; show w.drawn≤w.drew.drawn; simp⟩
  have e1:mz.toList.take (i * 5)=xs.take (i * 5):=by
   rw [xv,List.append_assoc]
   rw [List.take_append_of_le_length (by simp; omega),List.take_take,← D5,List.take_take]
   congr 1
   omega
  have e2:mz.toList.drop (i * 5+vs.length)=xs.drop (i * 5)++cur.toList.drop ((i+1) * 5+(xs.drop (i * 5)).length):=by
   rw [xv,List.append_assoc]
   exact List.drop_left' (by simp [nk]; omega)
  rw [BK,e1,e2]
  show List.take ((n+1) * 5) (xs.take (i * 5)++vs++(xs.drop (i * 5)++_))=_
  rw [← List.append_assoc]
  exact List.take_left' (by simp [uV,nk]; omega)
 rw [← DX] at ER CO
 rw [← vS] at CO
 clear xv BK Ms Kz DX vS Oa h1 CK nk D4 hv D5 uV hg hcs
 have mixed:Tryz.prog.follows .mixedOrders=true:=by kernel_rfl
 have Lr:¬ ((i:Int)=(n:Int)):=by omega
 have Fy:IntKind.i64.wrap ((i:Int)+1)=(i:Int)+1:=by rw [IntKind.wrap_i64]; omega
 have Ki:(0:Int)≤(i:Int)+1:=by omega
 have D0:i≤n:=by omega
 have SO:((i:Int)+1).toNat=i+1:=by omega
 have cA:¬ (cap=i+1):=by omega
 have bP:(i:Int)≤(n:Int)+1:=by omega
 have bu:¬ (cap=i):=by omega
 go_enter Tryz.func77,Tryz.ntmps77
 go_wp2_with (simp only [VW])
 go_region_law_o (refine mJ rfl (.tmp 73) (.tmp 76) 28 28 rfl (.slice (some ⟨g,(i+1) * 5,none⟩) (n - i) (cap - (i+1))) (.slice (some ⟨g,i * 5,none⟩) (n+1 - i) (cap - i)) (by simp [Act.eval,Act.put]) (by simp [Act.eval,Act.put]) (ER.out _ _ _) ?_)
 go_wp2_with (simp only [CO.out])
 go_ret
 exact ⟨_,rfl,F.out⟩
set_option maxHeartbeats 4000000 in
set_option maxRecDepth 100000 in
theorem Lu (g cap n i vb vc:Nat) (cur o3:Array Value) (xs vs:List Value) (w:World) (hg:w.heap[g]?=some (.cells cur 49 (0,0))) (kq:n≤cap) (nX:cap<n+1) (hn:n≤549755813887) (hcs:cur.size=cap * 5) (D5:cur.toList.take (n * 5)=xs) (h1:∀ y ∈ xs,y.oneCell'=true) (hi:i<n)
  (hv:w.heap[vb]?=some (.cells o3 49 (0,0))) (D4:o3.toList.take 5=vs) (nk:vs.length=5) (CK:∀ v ∈ vs,v.oneCell'=true) :
  Calls Tryz.prog 77 #[.slice (some ⟨g,0,none⟩) n cap,.int .i64 i,.slice (some ⟨vb,0,none⟩) 1 vc] w fun e w'=>∃ u',e=.returned u'∧lP w w' 49 5 (.slice (some ⟨g,0,none⟩) n cap) u' (n+1) (xs.take (i * 5)++vs++xs.drop (i * 5)):=by
 obtain rfl:cap=n:=by omega
 have uV:xs.length=cap * 5:=by rw [← D5]; simp; omega
 have Ng:g<w.heap.size:=(Array.getElem?_eq_some_iff.1 hg).1
 have NV:vb<w.heap.size:=(Array.getElem?_eq_some_iff.1 hv).1
 obtain ⟨h,hh⟩:∃ h,h=w.heap.size:=⟨_,rfl⟩
 obtain ⟨NC,QS⟩:∃ NC,NC=grownCap w (cap+1) cap 49:=⟨_,rfl⟩
 have RK:cap+1≤NC:=by rw [QS]; exact grownCap_ge w (cap+1) cap 49
 have Ke:NC≤maxLen:=by rw [QS]; exact grownCap_le_maxLen w (cap+1) cap 49 (by simp only [maxLen]; omega)
 have Vm:NC≤9223372036854775807:=by simp only [maxLen] at Ke; omega
 obtain ⟨nc,HS⟩:∃ nc:Array Value,nc=(xs.take (i * 5)).toArray++Builtin.zeroCells (Value.agg #[.int .i64 0,.slice none 0 0,.slice none 0 0,.slice none 0 0,.bool false]).cells (cap+1 - i)++Builtin.zeroCells (Value.agg #[.int .i64 0,.slice none 0 0,.slice none 0 0,.slice none 0 0,.bool false]).cells (NC - (cap+1)):=⟨_,rfl⟩
 have Sg:nc.size=NC * 5:=by rw [HS]; simp [Builtin.zeroCells,Value.cells,uV]; omega
 have Kg:Hid (∀ ty,(Builtin.append_ #[28,3] ty #[.slice (some ⟨g,0,none⟩) i cap,.int .i64 ((cap:Int)+1 - (i:Int))]).run Tryz.prog w=.ok (.slice (some ⟨h,0,none⟩) (cap+1) NC) (w.drew.alloc (.cells nc 49))):=fun ty=>by
  have:=mn (P:=Tryz.prog) w 28 3 ty 49 Tryz.t49 _ .i64 .i64 Tryz.underlying28 Tryz.underlying3 rfl JR ⟨g,0,none⟩ i cap (xs.take (i * 5)) (by show _=i * 5; simp [uV]; omega)
   (fun j v hj=>by
    rw [Addr.add_lit]
    rw [List.getElem?_take] at hj
    split at hj
    ·rw [← D5,List.getElem?_take] at hj
     split at hj
     ·simp [World.cell?,hg]; simpa using hj
     ·cases hj
    ·cases hj) (cap+1 - i) (by omega) (by decide) (by omega) (by omega) (by show (cap+1 - i) * 88≤_; omega) (growslice_fits (by omega) (by show (i+(cap+1 - i)) * 88≤_; omega))
  have e1:((cap+1 - i:Nat):Int)=(cap:Int)+1 - (i:Int):=by omega
  have e2:i+(cap+1 - i)=cap+1:=by omega
  rw [e1,e2,← QS,← hh,← HS] at this
  exact this
 obtain ⟨W0,HK⟩:∃ W0,W0=w.drew.alloc (.cells nc 49):=⟨_,rfl⟩
 have R7:W0.heap[h]?=some (.cells nc 49 (0,0)):=by rw [HK,hh]; exact heap_alloc_new w.drew _
 have hold:∀ b,b<w.heap.size→W0.heap[b]?=w.heap[b]?:=fun b hb=>by rw [HK]; exact _root_.Go.heap_alloc_old w.drew _ hb
 obtain ⟨c1,jF⟩:∃ c1,c1=(nc.toList.take (i * 5)++vs++nc.toList.drop (i * 5+vs.length)).toArray:=⟨_,rfl⟩
 have RW:c1.size=nc.size:=by rw [jF]; simp [nk]; omega
 have ER:Hid (∀ ty dc,(Builtin.copy_ #[28,28] ty #[.slice (some ⟨h,i * 5,none⟩) (cap+1 - i) dc,.slice (some ⟨vb,0,none⟩) 1 vc]).run Tryz.prog W0=.ok (goInt ((1:Nat):Int)) (W0.setRow h c1)):=fun ty dc=>by
  have sR:Nat.min 1 (cap+1 - i)=1:=by simp only [Nat.min_def]; split <;> omega
  have:=iY (P:=Tryz.prog) W0 28 28 ty 49 5 h (i * 5) (cap+1 - i) dc ⟨vb,0,none⟩ 1 vc nc 49 vs Tryz.underlying28 Tryz.sizeOf49 R7 (by rw [sR]; exact nk)
   (fun j v hj=>by
    rw [Addr.add_lit]
    rw [← D4,List.getElem?_take] at hj
    split at hj
    ·have hb:=(hold vb NV).trans hv
     simp [World.cell?,hb]; simpa using hj
    ·cases hj) (by omega) CK
  rw [this,sR,jF]
 obtain ⟨W1,DX⟩:∃ W1,W1=W0.setRow h c1:=⟨_,rfl⟩
 have Ms:W1.heap[h]?=some (.cells c1 49 (0,0)):=by rw [DX]; exact setRow_heap W0 h nc c1 49 _ R7
 have E7:∀ b,b<w.heap.size→W1.heap[b]?=w.heap[b]?:=fun b hb=>by rw [DX,setRow_other W0 h b c1 (by omega)]; exact hold b hb
 obtain ⟨c2,eZ⟩:∃ c2,c2=(c1.toList.take ((i+1) * 5)++xs.drop (i * 5)++c1.toList.drop ((i+1) * 5+(xs.drop (i * 5)).length)).toArray:=⟨_,rfl⟩
 have Oa:(xs.drop (i * 5)).length=(cap - i) * 5:=by simp [uV]; omega
 have CO:Hid (∀ ty dc sc,(Builtin.copy_ #[28,28] ty #[.slice (some ⟨h,(i+1) * 5,none⟩) (cap - i) dc,.slice (some ⟨g,i * 5,none⟩) (cap - i) sc]).run Tryz.prog W1.drew=.ok (goInt ((cap - i:Nat):Int)) (W1.drew.setRow h c2)):=fun ty dc sc=>by
  have sR:Nat.min (cap - i) (cap - i)=cap - i:=by simp [Nat.min_def]
  have:=iY (P:=Tryz.prog) W1.drew 28 28 ty 49 5 h ((i+1) * 5) (cap - i) dc ⟨g,i * 5,none⟩ (cap - i) sc c1 49 (xs.drop (i * 5)) Tryz.underlying28 Tryz.sizeOf49 Ms (by rw [sR]; exact Oa)
   (fun j v hj=>by
    rw [Addr.add_lit]
    rw [List.getElem?_drop,← D5,List.getElem?_take] at hj
    split at hj
    ·show W1.cell? _=_
     have hb:=(E7 g Ng).trans hg
     simp [World.cell?,hb]; simpa using hj
    ·cases hj) (by omega) (fun v hv=>h1 v (List.mem_of_mem_drop hv))
  rw [this,sR,eZ]
 obtain ⟨W2,vS⟩:∃ W2,W2=W1.drew.setRow h c2:=⟨_,rfl⟩
 have F:Aside (lP w W2 49 5 (.slice (some ⟨g,0,none⟩) cap cap) (.slice (some ⟨h,0,none⟩) (cap+1) NC) (cap+1) (xs.take (i * 5)++vs++xs.drop (i * 5))):=by
  refine ⟨⟨by simp [uV,nk]; omega,.inr ⟨h,NC,c2,rfl,Nat.zero_le _,by rw [vS]; exact setRow_heap W1.drew h c1 c2 49 _ Ms,RK,Ke,by rw [eZ]; simp [uV]; omega,?_⟩⟩,⟨by rw [vS,DX,HK]; rfl,by rw [vS,DX,HK]; rfl,by rw [vS,DX,HK]; rfl,by rw [vS,DX,HK]; simp,fun k hk _=>by rw [vS,setRow_other W1.drew h k _ (by omega)]; exact E7 k hk⟩,fun b hb=>.inr (by simp [Value.ownBlock] at hb; omega),by rw [vS,DX,HK]; show w.drawn≤w.drawn+1+1; omega⟩
  have e0:nc.toList.take (i * 5)=xs.take (i * 5):=by
   rw [HS]
   simp only [Array.toList_append,List.append_assoc]
   exact List.take_left' (by simp [uV]; omega)
  have e1:c1.toList.take ((i+1) * 5)=xs.take (i * 5)++vs:=by
   rw [jF,e0]
   exact List.take_left' (by simp [uV,nk]; omega)
  rw [eZ,e1]
  exact List.take_left' (by simp [uV,nk]; omega)
 rw [← HK] at Kg
 rw [← DX] at ER
 rw [← vS] at CO
 clear hcs D5 h1 hv D4 nk CK uV Ng NV hh QS Ke HS Sg HK R7 hold jF RW DX Ms E7 eZ Oa vS hg
 have mixed:Tryz.prog.follows .mixedOrders=true:=by kernel_rfl
 have Lr:¬ ((i:Int)=(cap:Int)):=by omega
 have Fy:IntKind.i64.wrap ((i:Int)+1)=(i:Int)+1:=by rw [IntKind.wrap_i64]; omega
 have qJ:IntKind.i64.wrap ((cap:Int)+1)=(cap:Int)+1:=by rw [IntKind.wrap_i64]; omega
 have Q5:IntKind.i64.wrap ((cap:Int)+1 - (i:Int))=(cap:Int)+1 - (i:Int):=by rw [IntKind.wrap_i64]; omega
 have Ki:(0:Int)≤(i:Int)+1:=by omega
 have D0:i≤cap:=by omega
 have SO:((i:Int)+1).toNat=i+1:=by omega
 have cA:¬ (NC=i+1):=by omega
 have bP:(i:Int)≤(cap:Int)+1:=by omega
 have bu:¬ (NC=i):=by omega
 have bH:¬ (cap=i):=by omega
 have b3:(i:Int)+1≤(cap:Int)+1:=by omega
 have cc:i≤cap+1:=by omega
 go_enter Tryz.func77,Tryz.ntmps77
 go_wp2_with (first | (at_builtin; refine Lib.wpList_append_run _ rfl _ _ _ _ rfl _ _ rfl rfl _ _ (Kg.out _) ?_) | (simp only [ER.out]))
 go_region_law_o (refine mJ rfl (.tmp 50) (.tmp 53) 28 28 rfl (.slice (some ⟨h,(i+1) * 5,none⟩) (cap - i) (NC - (i+1))) (.slice (some ⟨g,i * 5,none⟩) (cap - i) (cap - i)) (by simp [Act.eval,Act.put]) (by simp [Act.eval,Act.put]) (CO.out _ _ _) ?_)
 go_wp2
 go_ret
 exact ⟨_,rfl,F.out⟩
theorem Lw:MI Tryz.prog 77 49 5:=by
 intro u n i xs v vs w bf h1 hi hn hv CK ew
 rcases hv.2 with ⟨_,h0⟩ | ⟨vb,vc,o3,rfl,_,S9,WT,_,D4,Wb⟩
 ·cases h0
 ·have nk:vs.length=5:=by have:=hv.1; omega
  have Lg:o3.toList.take 5=vs:=by simpa using Wb
  by_cases D0:i=n
  ·subst D0
   have:=Lt u i vb vc xs vs o3 w bf hn S9 Lg nk CK
   have e1:xs.take (i * 5)=xs:=List.take_of_length_le (by rw [bf.1]; exact Nat.le_refl _)
   have e2:xs.drop (i * 5)=[]:=List.drop_of_length_le (by rw [bf.1]; exact Nat.le_refl _)
   rw [e1,e2,List.append_nil]
   exact this
  ·rcases bf.2 with ⟨_,rfl⟩ | ⟨g,cap,cur,rfl,_,hg,kq,zA,hcs,wX⟩
   ·omega
   ·by_cases nX:n+1≤cap
    ·exact Lv g cap n i vb vc cur o3 xs vs w hg nX zA hcs wX h1 (by omega) S9 Lg nk CK (fun h=>ew vb rfl (by simp [Value.ownBlock,h]))
    ·exact Lu g cap n i vb vc cur o3 xs vs w hg kq (by omega) hn hcs wX h1 (by omega) S9 Lg nk CK
end Go.Proofs.YtmollikhdbaikaaGreat
