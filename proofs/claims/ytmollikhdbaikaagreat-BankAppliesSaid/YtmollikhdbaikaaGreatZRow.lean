import Derived.Test.YtmollikhdbaikaaGreatProg
import Derived.Shelf.RegionOpenPlain
import Derived.WalkKit
import Derived.Deep.LoopGhost
import Derived.Deep.RegionLaw
import Derived.Lib.Walk
import Derived.Sort.WalkB12
import Derived.Shelf.SlicesE.Kit
import Derived.Laws.Externs
import Derived.Test.YtmollikhdbaikaaGreatZLb
set_option linter.unusedVariables false
set_option linter.unusedSimpArgs false
namespace Go.Proofs.YtmollikhdbaikaaGreat
open Go.L Go.Shelf Go.RowKit Go.Lib Go.Sort
theorem T5:Tryz.t4.zero=some (.bool false):=by kernel_rfl
set_option maxHeartbeats 4000000 in
set_option maxRecDepth 100000 in
theorem EL:sf Tryz.prog 67 4 1:=by
 intro a n cap news w hl nZ hc h1 hn
 have Xh:∀ (w:World) (a:Option Addr) (n c n' c':Nat),(binOp .eql 46 (.slice a n c) (.slice none n' c')).run Tryz.prog w=.ok (.bool a.isNone) w:=fun w a n c n' c'=>Lib.run_eql_slice_nil w _ _ a n c n' c' Tryz.underlying46
 cases a with
 | none =>
  have Hy:=nZ rfl
  subst Hy
  have jO:news=[]:=List.eq_nil_of_length_eq_zero (by simpa using hl)
  subst jO
  clear hl nZ hc h1 hn
  go_enter Tryz.func67,Tryz.ntmps67
  go_wp2
  go_ret
  exact ⟨_,rfl,⟨World.ownsRow_nil w 0 4 1,⟨rfl,rfl,rfl,Nat.le_refl _,fun _ _ _=>rfl⟩,fun b hb=>.inl hb,Nat.le_refl _⟩⟩
 | some ad =>
  have bj:(w.alloc (.cells #[] 4)).ownsRow 0 4 1 (.slice (some ⟨w.heap.size,0,none⟩) 0 0) 0 []:=World.ownsRow_made w #[] 0 (Nat.zero_le _) (Nat.zero_le _) (by simp)
  obtain ⟨u',w',hr,h2,h3,h4,_,h6⟩:=ey (P:=Tryz.prog) (t:=46) (ty:=46) Tryz.underlying46 (i:=Tryz.t4) rfl T5 (by kernel_rfl) (by decide) (by decide) bj (q:=n) (cap:=cap) (a:=ad) (news:=news) hl (fun j u hj=>Lib.cell?_alloc_some _ (hc ad rfl j u hj)) h1 (by omega)
  have rD:Hid (∀ ty,(Builtin.append_ #[46,46] ty #[.slice (some ⟨w.heap.size,0,none⟩) 0 0,.slice (some ad) n cap]).run Tryz.prog (w.alloc (.cells #[] 4))=.ok u' w'):=fun ty=>(ln ▸ hr)
  have F:Aside (mf w w' 4 1 (.slice none 0 0) u' n news):=by
   have HP:w'.ownsRow 0 4 1 u' (0+n) ([]++news):=h2
   refine ⟨by simpa using HP,⟨h3.os,h3.tape,h3.output,Nat.le_trans (by simp) h3.size,fun k hk _=>(h3.block k (by simp; omega) (by simp [Value.ownBlock]; omega)).trans (_root_.Go.heap_alloc_old w _ hk)⟩,fun b hb=>.inr ?_,Nat.le_trans (Nat.le_refl _) h6⟩
   rcases h4 b hb with h | h
   ·simp [Value.ownBlock] at h; omega
   ·simp at h; omega
  clear hl nZ hc h1 hn bj hr h2 h3 h4 h6
  go_enter Tryz.func67,Tryz.ntmps67
  go_wp2_with (at_builtin; refine Lib.wpList_append_run _ rfl _ _ _ _ rfl _ _ rfl rfl _ _ (rD.out _) ?_)
  go_ret
  exact ⟨_,rfl,F.out⟩
theorem QQ:Tryz.t88.zero=some (.agg #[.int .i64 0,.int .i64 0,.int .i64 0]):=by kernel_rfl
set_option maxHeartbeats 4000000 in
set_option maxRecDepth 100000 in
theorem EM:sf Tryz.prog 68 88 3:=by
 intro a n cap news w hl nZ hc h1 hn
 have Xi:∀ (w:World) (a:Option Addr) (n c n' c':Nat),(binOp .eql 47 (.slice a n c) (.slice none n' c')).run Tryz.prog w=.ok (.bool a.isNone) w:=fun w a n c n' c'=>Lib.run_eql_slice_nil w _ _ a n c n' c' Tryz.underlying47
 cases a with
 | none =>
  have Hy:=nZ rfl
  subst Hy
  have jO:news=[]:=List.eq_nil_of_length_eq_zero (by simpa using hl)
  subst jO
  clear hl nZ hc h1 hn
  go_enter Tryz.func68,Tryz.ntmps68
  go_wp2
  go_ret
  exact ⟨_,rfl,⟨World.ownsRow_nil w 0 88 3,⟨rfl,rfl,rfl,Nat.le_refl _,fun _ _ _=>rfl⟩,fun b hb=>.inl hb,Nat.le_refl _⟩⟩
 | some ad =>
  have bj:(w.alloc (.cells #[] 88)).ownsRow 0 88 3 (.slice (some ⟨w.heap.size,0,none⟩) 0 0) 0 []:=World.ownsRow_made w #[] 0 (Nat.zero_le _) (Nat.zero_le _) (by simp)
  obtain ⟨u',w',hr,h2,h3,h4,_,h6⟩:=ey (P:=Tryz.prog) (t:=47) (ty:=47) Tryz.underlying47 (i:=Tryz.t88) rfl QQ (by kernel_rfl) (by decide) (by decide) bj (q:=n) (cap:=cap) (a:=ad) (news:=news) hl (fun j u hj=>Lib.cell?_alloc_some _ (hc ad rfl j u hj)) h1 (by omega)
  have rD:Hid (∀ ty,(Builtin.append_ #[47,47] ty #[.slice (some ⟨w.heap.size,0,none⟩) 0 0,.slice (some ad) n cap]).run Tryz.prog (w.alloc (.cells #[] 88))=.ok u' w'):=fun ty=>(ln ▸ hr)
  have F:Aside (mf w w' 88 3 (.slice none 0 0) u' n news):=by
   have HP:w'.ownsRow 0 88 3 u' (0+n) ([]++news):=h2
   refine ⟨by simpa using HP,⟨h3.os,h3.tape,h3.output,Nat.le_trans (by simp) h3.size,fun k hk _=>(h3.block k (by simp; omega) (by simp [Value.ownBlock]; omega)).trans (_root_.Go.heap_alloc_old w _ hk)⟩,fun b hb=>.inr ?_,Nat.le_trans (Nat.le_refl _) h6⟩
   rcases h4 b hb with h | h
   ·simp [Value.ownBlock] at h; omega
   ·simp at h; omega
  clear hl nZ hc h1 hn bj hr h2 h3 h4 h6
  go_enter Tryz.func68,Tryz.ntmps68
  go_wp2_with (at_builtin; refine Lib.wpList_append_run _ rfl _ _ _ _ rfl _ _ rfl rfl _ _ (rD.out _) ?_)
  go_ret
  exact ⟨_,rfl,F.out⟩
theorem QP:Tryz.t86.zero=some (.agg #[.int .i64 0,.int .i64 0,.int .i64 0,.int .i64 0,.int .i64 0,.int .i64 0]):=by kernel_rfl
set_option maxHeartbeats 4000000 in
set_option maxRecDepth 100000 in
theorem EN:sf Tryz.prog 69 86 6:=by
 intro a n cap news w hl nZ hc h1 hn
 have Xj:∀ (w:World) (a:Option Addr) (n c n' c':Nat),(binOp .eql 52 (.slice a n c) (.slice none n' c')).run Tryz.prog w=.ok (.bool a.isNone) w:=fun w a n c n' c'=>Lib.run_eql_slice_nil w _ _ a n c n' c' Tryz.underlying52
 cases a with
 | none =>
  have Hy:=nZ rfl
  subst Hy
  have jO:news=[]:=List.eq_nil_of_length_eq_zero (by simpa using hl)
  subst jO
  clear hl nZ hc h1 hn
  go_enter Tryz.func69,Tryz.ntmps69
  go_wp2
  go_ret
  exact ⟨_,rfl,⟨World.ownsRow_nil w 0 86 6,⟨rfl,rfl,rfl,Nat.le_refl _,fun _ _ _=>rfl⟩,fun b hb=>.inl hb,Nat.le_refl _⟩⟩
 | some ad =>
  have bj:(w.alloc (.cells #[] 86)).ownsRow 0 86 6 (.slice (some ⟨w.heap.size,0,none⟩) 0 0) 0 []:=World.ownsRow_made w #[] 0 (Nat.zero_le _) (Nat.zero_le _) (by simp)
  obtain ⟨u',w',hr,h2,h3,h4,_,h6⟩:=ey (P:=Tryz.prog) (t:=52) (ty:=52) Tryz.underlying52 (i:=Tryz.t86) rfl QP (by kernel_rfl) (by decide) (by decide) bj (q:=n) (cap:=cap) (a:=ad) (news:=news) hl (fun j u hj=>Lib.cell?_alloc_some _ (hc ad rfl j u hj)) h1 (by omega)
  have rD:Hid (∀ ty,(Builtin.append_ #[52,52] ty #[.slice (some ⟨w.heap.size,0,none⟩) 0 0,.slice (some ad) n cap]).run Tryz.prog (w.alloc (.cells #[] 86))=.ok u' w'):=fun ty=>(ln ▸ hr)
  have F:Aside (mf w w' 86 6 (.slice none 0 0) u' n news):=by
   have HP:w'.ownsRow 0 86 6 u' (0+n) ([]++news):=h2
   refine ⟨by simpa using HP,⟨h3.os,h3.tape,h3.output,Nat.le_trans (by simp) h3.size,fun k hk _=>(h3.block k (by simp; omega) (by simp [Value.ownBlock]; omega)).trans (_root_.Go.heap_alloc_old w _ hk)⟩,fun b hb=>.inr ?_,Nat.le_trans (Nat.le_refl _) h6⟩
   rcases h4 b hb with h | h
   ·simp [Value.ownBlock] at h; omega
   ·simp at h; omega
  clear hl nZ hc h1 hn bj hr h2 h3 h4 h6
  go_enter Tryz.func69,Tryz.ntmps69
  go_wp2_with (at_builtin; refine Lib.wpList_append_run _ rfl _ _ _ _ rfl _ _ rfl rfl _ _ (rD.out _) ?_)
  go_ret
  exact ⟨_,rfl,F.out⟩
theorem T4:Tryz.t3.zero=some (.int .i64 0):=by kernel_rfl
set_option maxHeartbeats 4000000 in
set_option maxRecDepth 100000 in
theorem EO:sf Tryz.prog 70 3 1:=by
 intro a n cap news w hl nZ hc h1 hn
 have Xg:∀ (w:World) (a:Option Addr) (n c n' c':Nat),(binOp .eql 22 (.slice a n c) (.slice none n' c')).run Tryz.prog w=.ok (.bool a.isNone) w:=fun w a n c n' c'=>Lib.run_eql_slice_nil w _ _ a n c n' c' Tryz.underlying22
 cases a with
 | none =>
  have Hy:=nZ rfl
  subst Hy
  have jO:news=[]:=List.eq_nil_of_length_eq_zero (by simpa using hl)
  subst jO
  clear hl nZ hc h1 hn
  go_enter Tryz.func70,Tryz.ntmps70
  go_wp2
  go_ret
  exact ⟨_,rfl,⟨World.ownsRow_nil w 0 3 1,⟨rfl,rfl,rfl,Nat.le_refl _,fun _ _ _=>rfl⟩,fun b hb=>.inl hb,Nat.le_refl _⟩⟩
 | some ad =>
  have bj:(w.alloc (.cells #[] 3)).ownsRow 0 3 1 (.slice (some ⟨w.heap.size,0,none⟩) 0 0) 0 []:=World.ownsRow_made w #[] 0 (Nat.zero_le _) (Nat.zero_le _) (by simp)
  obtain ⟨u',w',hr,h2,h3,h4,_,h6⟩:=ey (P:=Tryz.prog) (t:=22) (ty:=22) Tryz.underlying22 (i:=Tryz.t3) rfl T4 (by kernel_rfl) (by decide) (by decide) bj (q:=n) (cap:=cap) (a:=ad) (news:=news) hl (fun j u hj=>Lib.cell?_alloc_some _ (hc ad rfl j u hj)) h1 (by omega)
  have rD:Hid (∀ ty,(Builtin.append_ #[22,22] ty #[.slice (some ⟨w.heap.size,0,none⟩) 0 0,.slice (some ad) n cap]).run Tryz.prog (w.alloc (.cells #[] 3))=.ok u' w'):=fun ty=>(ln ▸ hr)
  have F:Aside (mf w w' 3 1 (.slice none 0 0) u' n news):=by
   have HP:w'.ownsRow 0 3 1 u' (0+n) ([]++news):=h2
   refine ⟨by simpa using HP,⟨h3.os,h3.tape,h3.output,Nat.le_trans (by simp) h3.size,fun k hk _=>(h3.block k (by simp; omega) (by simp [Value.ownBlock]; omega)).trans (_root_.Go.heap_alloc_old w _ hk)⟩,fun b hb=>.inr ?_,Nat.le_trans (Nat.le_refl _) h6⟩
   rcases h4 b hb with h | h
   ·simp [Value.ownBlock] at h; omega
   ·simp at h; omega
  clear hl nZ hc h1 hn bj hr h2 h3 h4 h6
  go_enter Tryz.func70,Tryz.ntmps70
  go_wp2_with (at_builtin; refine Lib.wpList_append_run _ rfl _ _ _ _ rfl _ _ rfl rfl _ _ (rD.out _) ?_)
  go_ret
  exact ⟨_,rfl,F.out⟩
theorem Kc:Tryz.t49.zero=some (.agg #[.int .i64 0,.slice none 0 0,.slice none 0 0,.slice none 0 0,.bool false]):=by kernel_rfl
set_option maxHeartbeats 4000000 in
set_option maxRecDepth 100000 in
theorem LW (u:Value) (n vb vc:Nat) (xs vs:List Value) (ph:Array Value) (w:World) (bj:w.ownsRow 0 49 5 u n xs) (hn:n≤549755813887)
  (hv:w.heap[vb]?=some (.cells ph 49 (0,0))) (Ej:ph.toList.take 5=vs) (nG:vs.length=5) (CZ:∀ v ∈ vs,v.oneCell'=true) :
  Calls Tryz.prog 77 #[u,.int .i64 n,.slice (some ⟨vb,0,none⟩) 1 vc] w fun e w'=>∃ u',e=.returned u'∧mf w w' 49 5 u u' (n+1) (xs++vs):=by
 have Fz:∀ j x,vs[j]?=some x→w.cell? ((⟨vb,0,none⟩:Addr).add j)=some x:=by
  intro j x hx
  rw [Addr.add_lit]
  rw [← Ej,List.getElem?_take] at hx
  split at hx
  ·simp [World.cell?,hv]; simpa using hx
  ·cases hx
 obtain ⟨u',w',hr,h2,h3,h4,_,h6⟩:=ey (P:=Tryz.prog) (t:=28) (ty:=28) Tryz.underlying28 (i:=Tryz.t49) rfl Kc (by kernel_rfl) (by decide) (by decide) bj (q:=1) (cap:=vc) (news:=vs) nG Fz CZ (by omega)
 have rD:Hid (∀ ty,(Builtin.append_ #[28,28] ty #[u,.slice (some ⟨vb,0,none⟩) 1 vc]).run Tryz.prog w=.ok u' w'):=fun ty=>(ln ▸ hr)
 have mixed:Tryz.prog.follows .mixedOrders=true:=by kernel_rfl
 have F:Aside (mf w w' 49 5 u u' (n+1) (xs++vs)):=⟨h2,h3,h4,h6⟩
 rcases bj.2 with ⟨rfl,rfl⟩ | ⟨g,cap,cur,rfl,_,hg,kq,zX,hcs,xk⟩
 ·clear bj h2 h3 h4 h6 hr Fz CZ nG Ej hv
  go_enter Tryz.func77,Tryz.ntmps77
  go_wp2_with (at_builtin; refine Lib.wpList_append_run _ rfl _ _ _ _ rfl _ _ rfl rfl _ _ (rD.out _) ?_)
  go_ret
  exact ⟨_,rfl,F.out⟩
 ·have VN:cap≤9223372036854775807:=by simp only [maxLen] at zX; omega
  clear bj h2 h3 h4 h6 hr Fz CZ nG Ej hv hg hcs xk
  by_cases VO:cap=n
  ·subst VO
   go_enter Tryz.func77,Tryz.ntmps77
   go_wp2_with (at_builtin; refine Lib.wpList_append_run _ rfl _ _ _ _ rfl _ _ rfl rfl _ _ (rD.out _) ?_)
   all_goals (go_ret; exact ⟨_,rfl,F.out⟩)
  ·go_enter Tryz.func77,Tryz.ntmps77
   go_wp2_with (at_builtin; refine Lib.wpList_append_run _ rfl _ _ _ _ rfl _ _ rfl rfl _ _ (rD.out _) ?_)
   all_goals (go_ret; exact ⟨_,rfl,F.out⟩)
set_option maxHeartbeats 4000000 in
set_option maxRecDepth 100000 in
theorem LY (g cap n i vb vc:Nat) (cur ph:Array Value) (xs vs:List Value) (w:World) (hg:w.heap[g]?=some (.cells cur 49 (0,0))) (ou:n+1≤cap) (zX:cap≤maxLen) (hcs:cur.size=cap * 5) (Ek:cur.toList.take (n * 5)=xs) (h1:∀ y ∈ xs,y.oneCell'=true) (hi:i<n)
  (hv:w.heap[vb]?=some (.cells ph 49 (0,0))) (Ej:ph.toList.take 5=vs) (nG:vs.length=5) (CZ:∀ v ∈ vs,v.oneCell'=true) (eA:vb ≠ g) :
  Calls Tryz.prog 77 #[.slice (some ⟨g,0,none⟩) n cap,.int .i64 i,.slice (some ⟨vb,0,none⟩) 1 vc] w fun e w'=>∃ u',e=.returned u'∧mf w w' 49 5 (.slice (some ⟨g,0,none⟩) n cap) u' (n+1) (xs.take (i * 5)++vs++xs.drop (i * 5)):=by
 have u4:xs.length=n * 5:=by rw [← Ek]; simp; omega
 have HX:cap≤9223372036854775807:=by simp only [maxLen] at zX; omega
 have We:∀ lb cb,(callFunc 98 #[.slice (some ⟨vb,0,none⟩) 1 vc,.slice (some ⟨g,(i+1) * 5,none⟩) lb cb]).run Tryz.prog w=.ok (.value (.bool false)) w:=fun lb cb=>by
  rw [run_callFunc_extern Tryz.func98 (by kernel_rfl) (by kernel_rfl) (by kernel_rfl) (e:=Extern.SlicesOverlaps.overlaps #[28,28] #[4]) (by kernel_rfl),
   Lib.run_overlaps_apart w 28 4 49 Tryz.underlying28 5 Tryz.sizeOf49 ⟨vb,0,none⟩ ⟨g,(i+1) * 5,none⟩ 1 vc lb cb eA 49 49 ph.size cur.size (by simp [World.shape?,hv]) (by simp [World.shape?,hg]) (by omega) (by simp [World.frozen?,hv]) (by simp [World.frozen?,hv])]
  rfl
 obtain ⟨mO,xM⟩:∃ mO,mO=(cur.toList.take ((i+1) * 5)++xs.drop (i * 5)++cur.toList.drop ((i+1) * 5+(xs.drop (i * 5)).length)).toArray:=⟨_,rfl⟩
 have OL:(xs.drop (i * 5)).length=(n - i) * 5:=by simp [u4]; omega
 have E3:Hid (∀ ty dc sc,(Builtin.copy_ #[28,28] ty #[.slice (some ⟨g,(i+1) * 5,none⟩) (n - i) dc,.slice (some ⟨g,i * 5,none⟩) (n+1 - i) sc]).run Tryz.prog w.drew=.ok (goInt ((n - i:Nat):Int)) (w.drew.setRow g mO)):=fun ty dc sc=>by
  have s7:Nat.min (n+1 - i) (n - i)=n - i:=by simp only [Nat.min_def]; split <;> omega
  have:=jf (P:=Tryz.prog) w.drew 28 28 ty 49 5 g ((i+1) * 5) (n - i) dc ⟨g,i * 5,none⟩ (n+1 - i) sc cur 49 (xs.drop (i * 5)) Tryz.underlying28 Tryz.sizeOf49 hg (by rw [s7]; exact OL)
   (fun j v hj=>by
    rw [Addr.add_lit]
    rw [List.getElem?_drop,← Ek,List.getElem?_take] at hj
    split at hj
    ·show w.cell? _=_
     simp [World.cell?,hg]; simpa using hj
    ·cases hj) (by omega) (fun v hv=>h1 v (List.mem_of_mem_drop hv))
  rw [this,s7,xM]
 have KV:mO.size=cur.size:=by rw [xM]; simp [u4]; omega
 have MS:(w.drew.setRow g mO).heap[g]?=some (.cells mO 49 (0,0)):=setRow_heap w.drew g cur mO 49 _ hg
 obtain ⟨CP,B1⟩:∃ CP,CP=(mO.toList.take (i * 5)++vs++mO.toList.drop (i * 5+vs.length)).toArray:=⟨_,rfl⟩
 have C4:Hid (∀ ty dc,(Builtin.copy_ #[28,28] ty #[.slice (some ⟨g,i * 5,none⟩) (n+1 - i) dc,.slice (some ⟨vb,0,none⟩) 1 vc]).run Tryz.prog (w.drew.setRow g mO)=.ok (goInt ((1:Nat):Int)) (w.drew.setRow g CP)):=fun ty dc=>by
  have s7:Nat.min 1 (n+1 - i)=1:=by simp only [Nat.min_def]; split <;> omega
  have:=jf (P:=Tryz.prog) (w.drew.setRow g mO) 28 28 ty 49 5 g (i * 5) (n+1 - i) dc ⟨vb,0,none⟩ 1 vc mO 49 vs Tryz.underlying28 Tryz.sizeOf49 MS (by rw [s7]; exact nG)
   (fun j v hj=>by
    rw [Addr.add_lit]
    rw [← Ej,List.getElem?_take] at hj
    split at hj
    ·have hb:(w.drew.setRow g mO).heap[vb]?=some (.cells ph 49 (0,0)):=(setRow_other w.drew g vb mO eA).trans hv
     simp [World.cell?,hb]; simpa using hj
    ·cases hj) (by omega) CZ
  rw [this,s7,B1,setRow_setRow]
 obtain ⟨W1,Ec⟩:∃ W1,W1=w.drew.setRow g mO:=⟨_,rfl⟩
 obtain ⟨W2,wh⟩:∃ W2,W2=w.drew.setRow g CP:=⟨_,rfl⟩
 have F:Aside (mf w W2 49 5 (.slice (some ⟨g,0,none⟩) n cap) (.slice (some ⟨g,0,none⟩) (n+1) cap) (n+1) (xs.take (i * 5)++vs++xs.drop (i * 5))):=by
  refine ⟨⟨by simp [u4,nG]; omega,.inr ⟨g,cap,CP,rfl,Nat.zero_le _,by rw [wh]; exact setRow_heap w.drew g cur CP 49 _ hg,ou,zX,by rw [B1]; simp [nG]; omega,?_⟩⟩,⟨by rw [wh]; rfl,by rw [wh]; rfl,by rw [wh]; rfl,by rw [wh]; simp,fun k _ hk=>by rw [wh]; exact setRow_other w.drew g k _ (fun e=>hk (by simp [Value.ownBlock,e]))⟩,fun b hb=>.inl (by simpa [Value.ownBlock] using hb),by rw [wh]; show w.drawn≤w.drew.drawn; simp⟩
  have e1:mO.toList.take (i * 5)=xs.take (i * 5):=by
   rw [xM,List.append_assoc]
   rw [List.take_append_of_le_length (by simp; omega),List.take_take,← Ek,List.take_take]
   congr 1
   omega
  have e2:mO.toList.drop (i * 5+vs.length)=xs.drop (i * 5)++cur.toList.drop ((i+1) * 5+(xs.drop (i * 5)).length):=by
   rw [xM,List.append_assoc]
   exact List.drop_left' (by simp [nG]; omega)
  rw [B1,e1,e2]
  show List.take ((n+1) * 5) (xs.take (i * 5)++vs++(xs.drop (i * 5)++_))=_
  rw [← List.append_assoc]
  exact List.take_left' (by simp [u4,nG]; omega)
 rw [← Ec] at E3 C4
 rw [← wh] at C4
 clear xM B1 MS KV Ec wh OL h1 CZ nG Ej hv Ek u4 hg hcs
 have mixed:Tryz.prog.follows .mixedOrders=true:=by kernel_rfl
 have LS:¬ ((i:Int)=(n:Int)):=by omega
 have FK:IntKind.i64.wrap ((i:Int)+1)=(i:Int)+1:=by rw [IntKind.wrap_i64]; omega
 have KF:(0:Int)≤(i:Int)+1:=by omega
 have Ee:i≤n:=by omega
 have Tg:((i:Int)+1).toNat=i+1:=by omega
 have cE:¬ (cap=i+1):=by omega
 have bS:(i:Int)≤(n:Int)+1:=by omega
 have bG:¬ (cap=i):=by omega
 go_enter Tryz.func77,Tryz.ntmps77
 go_wp2_with (simp only [We])
 go_region_law_o (refine nh rfl (.tmp 73) (.tmp 76) 28 28 rfl (.slice (some ⟨g,(i+1) * 5,none⟩) (n - i) (cap - (i+1))) (.slice (some ⟨g,i * 5,none⟩) (n+1 - i) (cap - i)) (by simp [Act.eval,Act.put]) (by simp [Act.eval,Act.put]) (E3.out _ _ _) ?_)
 go_wp2_with (simp only [C4.out])
 go_ret
 exact ⟨_,rfl,F.out⟩
set_option maxHeartbeats 4000000 in
set_option maxRecDepth 100000 in
theorem LX (g cap n i vb vc:Nat) (cur ph:Array Value) (xs vs:List Value) (w:World) (hg:w.heap[g]?=some (.cells cur 49 (0,0))) (kq:n≤cap) (ou:cap<n+1) (hn:n≤549755813887) (hcs:cur.size=cap * 5) (Ek:cur.toList.take (n * 5)=xs) (h1:∀ y ∈ xs,y.oneCell'=true) (hi:i<n)
  (hv:w.heap[vb]?=some (.cells ph 49 (0,0))) (Ej:ph.toList.take 5=vs) (nG:vs.length=5) (CZ:∀ v ∈ vs,v.oneCell'=true) :
  Calls Tryz.prog 77 #[.slice (some ⟨g,0,none⟩) n cap,.int .i64 i,.slice (some ⟨vb,0,none⟩) 1 vc] w fun e w'=>∃ u',e=.returned u'∧mf w w' 49 5 (.slice (some ⟨g,0,none⟩) n cap) u' (n+1) (xs.take (i * 5)++vs++xs.drop (i * 5)):=by
 obtain rfl:cap=n:=by omega
 have u4:xs.length=cap * 5:=by rw [← Ek]; simp; omega
 have NR:g<w.heap.size:=(Array.getElem?_eq_some_iff.1 hg).1
 have Ow:vb<w.heap.size:=(Array.getElem?_eq_some_iff.1 hv).1
 obtain ⟨h,hh⟩:∃ h,h=w.heap.size:=⟨_,rfl⟩
 obtain ⟨NC,Rk⟩:∃ NC,NC=grownCap w (cap+1) cap 49:=⟨_,rfl⟩
 have Sb:cap+1≤NC:=by rw [Rk]; exact grownCap_ge w (cap+1) cap 49
 have Kz:NC≤maxLen:=by rw [Rk]; exact grownCap_le_maxLen w (cap+1) cap 49 (by simp only [maxLen]; omega)
 have VF:NC≤9223372036854775807:=by simp only [maxLen] at Kz; omega
 obtain ⟨nc,H2⟩:∃ nc:Array Value,nc=(xs.take (i * 5)).toArray++Builtin.zeroCells (Value.agg #[.int .i64 0,.slice none 0 0,.slice none 0 0,.slice none 0 0,.bool false]).cells (cap+1 - i)++Builtin.zeroCells (Value.agg #[.int .i64 0,.slice none 0 0,.slice none 0 0,.slice none 0 0,.bool false]).cells (NC - (cap+1)):=⟨_,rfl⟩
 have SI:nc.size=NC * 5:=by rw [H2]; simp [Builtin.zeroCells,Value.cells,u4]; omega
 have KC:Hid (∀ ty,(Builtin.append_ #[28,3] ty #[.slice (some ⟨g,0,none⟩) i cap,.int .i64 ((cap:Int)+1 - (i:Int))]).run Tryz.prog w=.ok (.slice (some ⟨h,0,none⟩) (cap+1) NC) (w.drew.alloc (.cells nc 49))):=fun ty=>by
  have:=mH (P:=Tryz.prog) w 28 3 ty 49 Tryz.t49 _ .i64 .i64 Tryz.underlying28 Tryz.underlying3 rfl Kc ⟨g,0,none⟩ i cap (xs.take (i * 5)) (by show _=i * 5; simp [u4]; omega)
   (fun j v hj=>by
    rw [Addr.add_lit]
    rw [List.getElem?_take] at hj
    split at hj
    ·rw [← Ek,List.getElem?_take] at hj
     split at hj
     ·simp [World.cell?,hg]; simpa using hj
     ·cases hj
    ·cases hj) (cap+1 - i) (by omega) (by decide) (by omega) (by omega) (by show (cap+1 - i) * 88≤_; omega) (growslice_fits (by omega) (by show (i+(cap+1 - i)) * 88≤_; omega))
  have e1:((cap+1 - i:Nat):Int)=(cap:Int)+1 - (i:Int):=by omega
  have e2:i+(cap+1 - i)=cap+1:=by omega
  rw [e1,e2,← Rk,← hh,← H2] at this
  exact this
 obtain ⟨W0,HS⟩:∃ W0,W0=w.drew.alloc (.cells nc 49):=⟨_,rfl⟩
 have SA:W0.heap[h]?=some (.cells nc 49 (0,0)):=by rw [HS,hh]; exact heap_alloc_new w.drew _
 have hold:∀ b,b<w.heap.size→W0.heap[b]?=w.heap[b]?:=fun b hb=>by rw [HS]; exact _root_.Go.heap_alloc_old w.drew _ hb
 obtain ⟨c1,jc⟩:∃ c1,c1=(nc.toList.take (i * 5)++vs++nc.toList.drop (i * 5+vs.length)).toArray:=⟨_,rfl⟩
 have Sp:c1.size=nc.size:=by rw [jc]; simp [nG]; omega
 have E3:Hid (∀ ty dc,(Builtin.copy_ #[28,28] ty #[.slice (some ⟨h,i * 5,none⟩) (cap+1 - i) dc,.slice (some ⟨vb,0,none⟩) 1 vc]).run Tryz.prog W0=.ok (goInt ((1:Nat):Int)) (W0.setRow h c1)):=fun ty dc=>by
  have s7:Nat.min 1 (cap+1 - i)=1:=by simp only [Nat.min_def]; split <;> omega
  have:=jf (P:=Tryz.prog) W0 28 28 ty 49 5 h (i * 5) (cap+1 - i) dc ⟨vb,0,none⟩ 1 vc nc 49 vs Tryz.underlying28 Tryz.sizeOf49 SA (by rw [s7]; exact nG)
   (fun j v hj=>by
    rw [Addr.add_lit]
    rw [← Ej,List.getElem?_take] at hj
    split at hj
    ·have hb:=(hold vb Ow).trans hv
     simp [World.cell?,hb]; simpa using hj
    ·cases hj) (by omega) CZ
  rw [this,s7,jc]
 obtain ⟨W1,Ec⟩:∃ W1,W1=W0.setRow h c1:=⟨_,rfl⟩
 have MS:W1.heap[h]?=some (.cells c1 49 (0,0)):=by rw [Ec]; exact setRow_heap W0 h nc c1 49 _ SA
 have Fk:∀ b,b<w.heap.size→W1.heap[b]?=w.heap[b]?:=fun b hb=>by rw [Ec,setRow_other W0 h b c1 (by omega)]; exact hold b hb
 obtain ⟨c2,fG⟩:∃ c2,c2=(c1.toList.take ((i+1) * 5)++xs.drop (i * 5)++c1.toList.drop ((i+1) * 5+(xs.drop (i * 5)).length)).toArray:=⟨_,rfl⟩
 have OL:(xs.drop (i * 5)).length=(cap - i) * 5:=by simp [u4]; omega
 have C4:Hid (∀ ty dc sc,(Builtin.copy_ #[28,28] ty #[.slice (some ⟨h,(i+1) * 5,none⟩) (cap - i) dc,.slice (some ⟨g,i * 5,none⟩) (cap - i) sc]).run Tryz.prog W1.drew=.ok (goInt ((cap - i:Nat):Int)) (W1.drew.setRow h c2)):=fun ty dc sc=>by
  have s7:Nat.min (cap - i) (cap - i)=cap - i:=by simp [Nat.min_def]
  have:=jf (P:=Tryz.prog) W1.drew 28 28 ty 49 5 h ((i+1) * 5) (cap - i) dc ⟨g,i * 5,none⟩ (cap - i) sc c1 49 (xs.drop (i * 5)) Tryz.underlying28 Tryz.sizeOf49 MS (by rw [s7]; exact OL)
   (fun j v hj=>by
    rw [Addr.add_lit]
    rw [List.getElem?_drop,← Ek,List.getElem?_take] at hj
    split at hj
    ·show W1.cell? _=_
     have hb:=(Fk g NR).trans hg
     simp [World.cell?,hb]; simpa using hj
    ·cases hj) (by omega) (fun v hv=>h1 v (List.mem_of_mem_drop hv))
  rw [this,s7,fG]
 obtain ⟨W2,wh⟩:∃ W2,W2=W1.drew.setRow h c2:=⟨_,rfl⟩
 have F:Aside (mf w W2 49 5 (.slice (some ⟨g,0,none⟩) cap cap) (.slice (some ⟨h,0,none⟩) (cap+1) NC) (cap+1) (xs.take (i * 5)++vs++xs.drop (i * 5))):=by
  refine ⟨⟨by simp [u4,nG]; omega,.inr ⟨h,NC,c2,rfl,Nat.zero_le _,by rw [wh]; exact setRow_heap W1.drew h c1 c2 49 _ MS,Sb,Kz,by rw [fG]; simp [u4]; omega,?_⟩⟩,⟨by rw [wh,Ec,HS]; rfl,by rw [wh,Ec,HS]; rfl,by rw [wh,Ec,HS]; rfl,by rw [wh,Ec,HS]; simp,fun k hk _=>by rw [wh,setRow_other W1.drew h k _ (by omega)]; exact Fk k hk⟩,fun b hb=>.inr (by simp [Value.ownBlock] at hb; omega),by rw [wh,Ec,HS]; show w.drawn≤w.drawn+1+1; omega⟩
  have e0:nc.toList.take (i * 5)=xs.take (i * 5):=by
   rw [H2]
   simp only [Array.toList_append,List.append_assoc]
   exact List.take_left' (by simp [u4]; omega)
  have e1:c1.toList.take ((i+1) * 5)=xs.take (i * 5)++vs:=by
   rw [jc,e0]
   exact List.take_left' (by simp [u4,nG]; omega)
  rw [fG,e1]
  exact List.take_left' (by simp [u4,nG]; omega)
 rw [← HS] at KC
 rw [← Ec] at E3
 rw [← wh] at C4
 clear hcs Ek h1 hv Ej nG CZ u4 NR Ow hh Rk Kz H2 SI HS SA hold jc Sp Ec MS Fk fG OL wh hg
 have mixed:Tryz.prog.follows .mixedOrders=true:=by kernel_rfl
 have LS:¬ ((i:Int)=(cap:Int)):=by omega
 have FK:IntKind.i64.wrap ((i:Int)+1)=(i:Int)+1:=by rw [IntKind.wrap_i64]; omega
 have qV:IntKind.i64.wrap ((cap:Int)+1)=(cap:Int)+1:=by rw [IntKind.wrap_i64]; omega
 have Ry:IntKind.i64.wrap ((cap:Int)+1 - (i:Int))=(cap:Int)+1 - (i:Int):=by rw [IntKind.wrap_i64]; omega
 have KF:(0:Int)≤(i:Int)+1:=by omega
 have Ee:i≤cap:=by omega
 have Tg:((i:Int)+1).toNat=i+1:=by omega
 have cE:¬ (NC=i+1):=by omega
 have bS:(i:Int)≤(cap:Int)+1:=by omega
 have bG:¬ (NC=i):=by omega
 have bI:¬ (cap=i):=by omega
 have cn:(i:Int)+1≤(cap:Int)+1:=by omega
 have ca:i≤cap+1:=by omega
 go_enter Tryz.func77,Tryz.ntmps77
 go_wp2_with (first | (at_builtin; refine Lib.wpList_append_run _ rfl _ _ _ _ rfl _ _ rfl rfl _ _ (KC.out _) ?_) | (simp only [E3.out]))
 go_region_law_o (refine nh rfl (.tmp 50) (.tmp 53) 28 28 rfl (.slice (some ⟨h,(i+1) * 5,none⟩) (cap - i) (NC - (i+1))) (.slice (some ⟨g,i * 5,none⟩) (cap - i) (cap - i)) (by simp [Act.eval,Act.put]) (by simp [Act.eval,Act.put]) (C4.out _ _ _) ?_)
 go_wp2
 go_ret
 exact ⟨_,rfl,F.out⟩
theorem LZ:Nd Tryz.prog 77 49 5:=by
 intro u n i xs v vs w bj h1 hi hn hv CZ eA
 rcases hv.2 with ⟨_,h0⟩ | ⟨vb,vc,ph,rfl,_,Ty,Xe,_,Ej,Wu⟩
 ·cases h0
 ·have nG:vs.length=5:=by have:=hv.1; omega
  have LG:ph.toList.take 5=vs:=by simpa using Wu
  by_cases Ee:i=n
  ·subst Ee
   have:=LW u i vb vc xs vs ph w bj hn Ty LG nG CZ
   have e1:xs.take (i * 5)=xs:=List.take_of_length_le (by rw [bj.1]; exact Nat.le_refl _)
   have e2:xs.drop (i * 5)=[]:=List.drop_of_length_le (by rw [bj.1]; exact Nat.le_refl _)
   rw [e1,e2,List.append_nil]
   exact this
  ·rcases bj.2 with ⟨_,rfl⟩ | ⟨g,cap,cur,rfl,_,hg,kq,zX,hcs,xk⟩
   ·omega
   ·by_cases ou:n+1≤cap
    ·exact LY g cap n i vb vc cur ph xs vs w hg ou zX hcs xk h1 (by omega) Ty LG nG CZ (fun h=>eA vb rfl (by simp [Value.ownBlock,h]))
    ·exact LX g cap n i vb vc cur ph xs vs w hg kq (by omega) hn hcs xk h1 (by omega) Ty LG nG CZ
end Go.Proofs.YtmollikhdbaikaaGreat
