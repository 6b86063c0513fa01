import Derived.Test.YtbicmjeldappjaaProg
import Derived.Shelf.RegionOpenPlain
import Derived.WalkKit
import Derived.Deep.LoopGhost
import Derived.Deep.RegionLaw
import Derived.Lib.Walk
import Derived.Sort.WalkB12
import Derived.Shelf.SlicesE.Kit
import Derived.Laws.Externs
import Derived.Test.YtbicmjeldappjaaZLb
set_option linter.unusedVariables false
set_option linter.unusedSimpArgs false
namespace Go.Proofs.Ytbicmjeldappjaa
open Go.L Go.Shelf Go.RowKit Go.Lib Go.Sort

theorem row3 : Try.t3.zero = some (.int .i64 0) := by kernel_rfl
set_option maxHeartbeats 4000000 in
set_option maxRecDepth 100000 in
theorem cloneW65 : CloneW Try.prog 65 3 1 := by
 intro a n cap news w hl hnil hc h1 hn
 have q22 : ∀ (w : World) (a : Option Addr) (n c n' c' : Nat), (binOp .eql 22 (.slice a n c) (.slice none n' c')).run Try.prog w = .ok (.bool a.isNone) w := fun w a n c n' c' => Lib.run_eql_slice_nil w _ _ a n c n' c' Try.underlying22
 cases a with
 | none =>
  have hn0 := hnil rfl
  subst hn0
  have hnews : news = [] := List.eq_nil_of_length_eq_zero (by simpa using hl)
  subst hnews
  clear hl hnil hc h1 hn
  go_enter Try.func65, Try.ntmps65
  go_wp2
  go_ret
  exact ⟨_, rfl, ⟨World.ownsRow_nil w 0 3 1, ⟨rfl, rfl, rfl, Nat.le_refl _, fun _ _ _ => rfl⟩, fun b hb => .inl hb, Nat.le_refl _⟩⟩
 | some ad =>
  have hown : (w.alloc (.cells #[] 3)).ownsRow 0 3 1 (.slice (some ⟨w.heap.size, 0, none⟩) 0 0) 0 [] := World.ownsRow_made w #[] 0 (Nat.zero_le _) (Nat.zero_le _) (by simp)
  obtain ⟨u', w', hr, h2, h3, h4, _, h6⟩ := run_append_blk (P := Try.prog) (t := 22) (ty := 22) Try.underlying22 (i := Try.t3) rfl row3 (by kernel_rfl) (by decide) (by decide) hown (q := n) (cap := cap) (a := ad) (news := news) hl (fun j u hj => Lib.cell?_alloc_some _ (hc ad rfl j u hj)) h1 (by omega)
  have hr' : Hid (∀ ty, (Builtin.append_ #[22, 22] ty #[.slice (some ⟨w.heap.size, 0, none⟩) 0 0, .slice (some ad) n cap]).run Try.prog (w.alloc (.cells #[] 3)) = .ok u' w') := fun ty => (append_ty ▸ hr)
  have F : Aside (RowTo w w' 3 1 (.slice none 0 0) u' n news) := by
   have h2' : w'.ownsRow 0 3 1 u' (0 + n) ([] ++ news) := h2
   refine ⟨by simpa using h2', ⟨h3.os, h3.tape, h3.output, Nat.le_trans (by simp) h3.size, fun k hk _ => (h3.block k (by simp; omega) (by simp [Value.ownBlock]; omega)).trans (_root_.Go.heap_alloc_old w _ hk)⟩, fun b hb => .inr ?_, Nat.le_trans (Nat.le_refl _) h6⟩
   rcases h4 b hb with h | h
   ·simp [Value.ownBlock] at h; omega
   ·simp at h; omega
  clear hl hnil hc h1 hn hown hr h2 h3 h4 h6
  go_enter Try.func65, Try.ntmps65
  go_wp2_with (at_builtin; refine Lib.wpList_append_run _ rfl _ _ _ _ rfl _ _ rfl rfl _ _ (hr'.out _) ?_)
  go_ret
  exact ⟨_, rfl, F.out⟩
end Go.Proofs.Ytbicmjeldappjaa
