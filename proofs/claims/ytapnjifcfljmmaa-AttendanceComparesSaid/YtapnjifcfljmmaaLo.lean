/- A logic over logical memory, part 14: slices.SortFunc over a row of integers, by the shelf's contract. -/
import Derived.Test.YtapnjifcfljmmaaLm
import Derived.Shelf.SlSortCmp.NoneTotal
set_option linter.unusedVariables false
set_option linter.unusedSimpArgs false
namespace Go.L
open Go.Sort Go.Proofs Go.Shelf Go.Lib

theorem sorted_eq {α : Type} {cf : α → α → Int} {ys zs : List α} (hp : zs.Perm ys) (hy : ys.Pairwise fun a b => cf a b < 0) (hz : zs.Pairwise fun a b => ¬ cf b a < 0) : zs = ys := by
  induction ys generalizing zs with
  | nil => exact hp.eq_nil
  | cons y ys ih =>
    obtain ⟨hy1, hy2⟩ := List.pairwise_cons.1 hy
    cases zs with
    | nil => exact absurd hp.symm.eq_nil (by simp)
    | cons z zs =>
      obtain ⟨hz1, hz2⟩ := List.pairwise_cons.1 hz
      have hzy : z = y := by
        rcases List.mem_cons.1 (hp.mem_iff.1 (List.mem_cons_self)) with h | h
        · exact h
        · have h1 := hy1 z h
          rcases List.mem_cons.1 (hp.mem_iff.2 (List.mem_cons_self : y ∈ y :: ys)) with h2 | h2
          · exact h2.symm
          · exact absurd h1 (hz1 y h2)
      subst hzy
      rw [ih (List.Perm.cons_inv hp) hy2 hz2]

theorem grow_of {w w' : World} (hos : w'.os = w.os) (ht : w'.tape = w.tape) (ho : w'.output = w.output) (hd : w.drawn ≤ w'.drawn) (hs : w.heap.size ≤ w'.heap.size) (hk : ∀ b, b < w.heap.size → w'.heap[b]? = w.heap[b]?) :
    w' = grow (w.drewN (w'.drawn - w.drawn)) (w'.heap.extract w.heap.size w'.heap.size) := by
  obtain ⟨h', t', d', o', p'⟩ := w'
  obtain ⟨h, t, d, o, p⟩ := w
  simp only at hos ht ho hd hs hk
  subst hos; subst ht; subst ho
  simp only [grow, World.drewN, World.mk.injEq, true_and, and_true]
  refine ⟨?_, by omega⟩
  apply Array.ext_getElem?
  intro i
  rw [Array.getElem?_append]
  split
  · rename_i hi; exact hk i hi
  · rename_i hi
    rw [Array.getElem?_extract]
    by_cases hi' : i < h'.size
    · rw [if_pos (by omega)]; congr 1; omega
    · rw [if_neg (by omega), Array.getElem?_eq_none (by omega)]

theorem nums_exact {c : Cx} {α : Type} (en : α → Int) : ∀ {xs : List α} {us : List Value}, RepL c (xs.map fun x => LV.int .i64 (en x)) us → us = xs.map fun x => Value.int .i64 (en x)
  | [], us, h => by simpa [RepL] using h
  | x :: xs, us, h => by
    simp only [List.map_cons, RepL] at h
    obtain ⟨v, vs, rfl, h1, h2⟩ := h
    simp only [RepV] at h1
    rw [h1, nums_exact en h2]; rfl
theorem nums_rep {c : Cx} {α : Type} (en : α → Int) : ∀ (xs : List α), RepL c (xs.map fun x => LV.int .i64 (en x)) (xs.map fun x => Value.int .i64 (en x))
  | [] => by simp [RepL]
  | x :: xs => by simp only [List.map_cons, RepL]; exact ⟨_, _, rfl, by simp [RepV], nums_rep en xs⟩
theorem flat_ints {α : Type} (en : α → Int) : ∀ (xs : List α), flat (xs.map fun x => Value.int .i64 (en x)) = xs.map fun x => Value.int .i64 (en x)
  | [] => rfl
  | x :: xs => by rw [List.map_cons, flat_cons, flat_ints en xs]; rfl

theorem pure_ints {α : Type} (en : α → Int) : ∀ (xs : List α), LV.pureL (xs.map fun x => LV.int .i64 (en x)) = true
  | [] => rfl
  | x :: xs => by simp only [List.map_cons, LV.pureL, LV.pure, pure_ints en xs, Bool.and_self]

theorem sw_os {α : Type} [Inhabited α] (enc : α → Value) (w : World) (blk m : Nat) (d : Array α) (os : Array Obj) : (sortWorld enc w blk 0 m d os).os = w.os ∧ (sortWorld enc w blk 0 m d os).tape = w.tape ∧ (sortWorld enc w blk 0 m d os).output = w.output ∧ w.drawn ≤ (sortWorld enc w blk 0 m d os).drawn ∧ w.heap.size ≤ (sortWorld enc w blk 0 m d os).heap.size := by
  refine ⟨rfl, rfl, rfl, Nat.le_add_right _ _, ?_⟩
  simp [sortWorld, grow, putRow, mapBlock, ahead]
theorem sw_keep {α : Type} [Inhabited α] (enc : α → Value) (w : World) (blk m : Nat) (d : Array α) (os : Array Obj) (b : Nat) (hb : b < w.heap.size) (hne : b ≠ blk) : (sortWorld enc w blk 0 m d os).heap[b]? = w.heap[b]? := by
  simp only [sortWorld, grow, putRow, mapBlock, ahead]
  rw [Array.getElem?_append_left (by simpa using hb), Array.getElem?_modify]
  simp [Ne.symm hne]
theorem sw_at {α : Type} [Inhabited α] (enc : α → Value) (w : World) (blk m : Nat) (d : Array α) (os : Array Obj) {cur : Array Value} {e : TypeId} {z : Nat × Nat} (hg : w.heap[blk]? = some (.cells cur e z)) : (sortWorld enc w blk 0 m d os).heap[blk]? = some (.cells (putCells enc 0 d cur) e z) := by
  have hb : blk < w.heap.size := (Array.getElem?_eq_some_iff.1 hg).1
  simp only [sortWorld, grow, putRow, mapBlock, ahead]
  rw [Array.getElem?_append_left (by simpa using hb), Array.getElem?_modify]
  simp [hg, onCells]

theorem sortInts {P : Program} {ρ : Ren} (L : SlLaysF.n6 P ρ) {α : Type} (en : α → Int) (cf : α → α → Int) (hO : SWO (ltOf cf)) (g : Nat) (cap : List LV) (hcap : LV.pureL cap = true)
    (eg : ∀ args w, (callFunc g args).run P w = .ok (.enter g args) w) (hcmp : ∀ x y, PCall P g ([.int .i64 (en x), .int .i64 (en y)] ++ cap) (.int .i64 (cf x y)))
    (xs ys : List α) (hperm : ys.Perm xs) (hsort : ys.Pairwise fun a b => cf a b < 0) (hlen : xs.length < 1000000) (id e : Nat) :
    LCall P (ρ.f 6) [.arr id xs.length, .fn g cap] (Mem.of [(id, .arr e 1 (xs.map fun x => .int .i64 (en x)))]) (.tup []) (Mem.of [(id, .arr e 1 (ys.map fun x => .int .i64 (en x)))]) := by
  intro c vs hm ha
  simp only [RepL] at ha
  obtain ⟨v0, vs1, rfl, hv0, v1, vs2, rfl, hv1, rfl⟩ := ha
  obtain ⟨us, hB, hk, hown, hl, hc, hp⟩ := arr_now (e := e) (k := 1) (xs := xs.map fun x => LV.int .i64 (en x)) hm hv0 (by simp [Mem.of]) (by simp)
  simp only [RepV] at hv1
  obtain ⟨cb, rfl, hcb⟩ := hv1
  have hus := nums_exact en hl
  subst hus
  rw [flat_ints] at hown
  have hlenm : (xs.map fun x => LV.int .i64 (en x)).length = xs.length := by simp
  rw [hlenm] at hown hB
  by_cases hx0 : xs = []
  · subst hx0
    have hy0 : ys = [] := hperm.eq_nil
    subst hy0
    obtain ⟨ad, cp, rfl⟩ := ownsRow_len hown
    refine (AnyF.slices_SortFunc_none { L with } ad cp (.func (.func g) #[] cb.toArray) c.w).mono ?_
    rintro en' w' ⟨rfl, rfl⟩
    exact ⟨_, c, rfl, rfl, hm, by simp only [RepV, RepL]; exact ⟨[], rfl, rfl⟩, Grow.refl _ c⟩
  · haveI : Inhabited α := ⟨xs.head hx0⟩
    have hxl : 0 < xs.length := List.length_pos_iff.2 hx0
    rcases hown.2 with ⟨rfl, h0⟩ | ⟨blk, cp, cur, rfl, _, hg, hnc, hcm, hcs, htk⟩
    · omega
    · have hblk : blk < c.w.heap.size := (Array.getElem?_eq_some_iff.1 hg).1
      have hcur : ∀ j, j < xs.length → cur[j]? = some (.int .i64 (en xs[j]!)) := by
        intro j hj
        have h1 := congrArg (fun l => l[j]?) htk
        simp only [List.getElem?_take, Nat.mul_one, List.getElem?_map] at h1
        rw [if_pos hj] at h1
        rw [← Array.getElem?_toList, h1]
        simp [hj]
      have hH : Holds (fun x => Value.int .i64 (en x)) c.w blk 0 xs.toArray := by
        intro j hj
        have hj' : j < xs.length := by simpa using hj
        constructor
        · simp [World.cell?, hg, hcur j hj']
        · simp [World.frozen?, hg]
      have hcmpL : CmpLays1 P g cb.toArray (fun x => Value.int .i64 (en x)) cf blk 0 xs.toArray.size c.w := by
        intro q os dk hdk x y
        obtain ⟨s1, s2, s3, s4, s5⟩ := sw_os (fun x => Value.int .i64 (en x)) c.w blk q dk os
        have hkp := sw_keep (fun x => Value.int .i64 (en x)) c.w blk q dk os
        have hX : c.X blk := .inr ⟨id, _, hB, by simp [BE.has, Value.ownBlock]⟩
        have hle : c.Le ⟨sortWorld (fun x => Value.int .i64 (en x)) c.w blk 0 q dk os, fun _ => .none, c.X⟩ := by
          refine ⟨s5, fun b hb hx => ⟨hkp b hb (fun h => hx (h ▸ hX)), ?_⟩⟩
          rintro (h | ⟨_, _, h, _⟩)
          · exact hx h
          · cases h
        have hm0 : RepM ⟨sortWorld (fun x => Value.int .i64 (en x)) c.w blk 0 q dk os, fun _ => .none, c.X⟩ Mem.none := by
          refine ⟨fun _ => by simp [RepE, Mem.none], (fun _ _ _ _ _ h => by cases h), (fun b ⟨_, _, h, _⟩ => by cases h), fun b hb => ?_⟩
          rcases hb with hb | hb
          · exact Nat.lt_of_lt_of_le (hm.Olt b hb) s5
          · exact Nat.lt_of_lt_of_le (hm.own_lt hb) s5
        have hargs : RepL ⟨sortWorld (fun x => Value.int .i64 (en x)) c.w blk 0 q dk os, fun _ => .none, c.X⟩ ([.int .i64 (en x), .int .i64 (en y)] ++ cap) ([.int .i64 (en x), .int .i64 (en y)] ++ cb) := by
          simp only [List.cons_append, List.nil_append, RepL]
          refine ⟨_, _, rfl, by simp [RepV], _, _, rfl, by simp [RepV], RepL.mono hle cap cb (fun j hj => ?_) hcb⟩
          rw [norefL_of_pureL cap hcap] at hj; cases hj
        have hcall := hcmp x y _ _ hm0 hargs
        have hargsE : (([.int .i64 (en x), .int .i64 (en y)] ++ cb : List Value)).toArray = #[Value.int .i64 (en x), Value.int .i64 (en y)] ++ cb.toArray := by simp
        rw [hargsE] at hcall
        refine hcall.mono ?_
        rintro en' w' ⟨v, c', rfl, rfl, _, hv, hgr⟩
        simp only [RepV] at hv
        refine ⟨by rw [hv], _, _, grow_of hgr.os hgr.tape hgr.output hgr.drawn hgr.size fun b hb => hgr.keep b hb ?_⟩
        rintro ⟨_, _, h, _⟩
        cases h
      have hS := Any.slices_SortFunc L (fun x => Value.int .i64 (en x)) (fun _ => rfl) cf hO g cb.toArray blk 0 cp xs.toArray c.w eg hcmpL hH hblk (by simp; omega)
      simp only [List.size_toArray] at hS
      refine hS.mono ?_
      rintro en' w' ⟨rfl, d', q, os, hP, hSt, rfl⟩
      have hdsz : d'.size = xs.length := by simpa using hP.1
      have hd' : d'.toList = ys := by
        have hp1 : d'.toList.Perm xs := by
          have := hP.2.2
          simp only [List.size_toArray, Array.toList_extract, List.extract_eq_take_drop, Nat.sub_zero, List.drop_zero, List.take_length] at this
          rwa [List.take_of_length_le (by simp [hdsz])] at this
        refine sorted_eq (cf := cf) (hp1.trans hperm.symm) hsort ?_
        rw [List.pairwise_iff_getElem]
        intro i j hi hj hij
        simp only [Array.length_toList] at hi hj
        have := hSt i j (Nat.zero_le _) hij (by omega)
        simp only [ltOf, decide_eq_false_iff_not] at this
        rw [getElem!_pos d' j hj, getElem!_pos d' i hi] at this
        simpa using this
      obtain ⟨s1, s2, s3, s4, s5⟩ := sw_os (fun x => Value.int .i64 (en x)) c.w blk q d' os
      have hkp := sw_keep (fun x => Value.int .i64 (en x)) c.w blk q d' os
      have hat := sw_at (fun x => Value.int .i64 (en x)) c.w blk q d' os hg
      have hyl : ys.length = xs.length := hperm.length_eq
      obtain ⟨c', hw', hB', hm', hst⟩ := hm.upd (pr := fun i => Mem.of [(id, LE.arr e 1 (xs.map fun x => LV.int .i64 (en x)))] i ≠ .none) id (.arr e 1 (ys.map fun x => LV.int .i64 (en x))) _ (sortWorld (fun x => Value.int .i64 (en x)) c.w blk 0 q d' os) s1 s2 s3 s4 s5 
        (fun b hb hn => hkp b hb fun h => hn _ hB (by rw [h]; simp [BE.has, Value.ownBlock]))
        (fun b hb => .inl ⟨_, hB, hb⟩) (by rw [hB]; exact BLe.refl _) (fun _ be0 h => by rw [hB] at h; cases h; exact .refl _) (by
          intro c1 hc1 hle1 hBl
          simp only [RepE]
          refine ⟨_, ys.map fun x => Value.int .i64 (en x), by simp only [List.length_map, hyl]; rfl, by decide, ?_, nums_rep en ys, ?_, ?_⟩
          · rw [flat_ints, List.length_map, hyl, hc1]
            refine ⟨by simp [hyl], .inr ⟨blk, cp, _, rfl, Nat.zero_le _, hat, hnc, hcm, ?_, ?_⟩⟩
            · simpa [putCells] using hcs
            · apply List.ext_getElem?
              intro j
              have hcur' : cur.size = cp := by simpa using hcs
              by_cases hj : j < xs.length
              · have hj2 : j < d'.size := by omega
                have hj3 : j < ys.length := by omega
                have hyj : d'[j] = ys[j] := by
                  simp only [← hd', Array.getElem_toList]
                rw [List.getElem?_take, if_pos (by omega), Array.getElem?_toList]
                simp only [putCells, Array.getElem?_mapIdx, Nat.zero_le, Nat.zero_add, Nat.sub_zero, true_and]
                rw [Array.getElem?_eq_getElem (by omega)]
                simp [hj2, hyj, hj3]
              · rw [List.getElem?_take, if_neg (by omega), List.getElem?_eq_none (by simp; omega)]
          · intro v hv
            obtain ⟨y, _, rfl⟩ := List.mem_map.1 hv
            exact ⟨rfl, fun z hz => by simp [Value.cells] at hz; subst hz; rfl⟩
          · exact pure_ints en ys)
      refine ⟨_, c', rfl, hw', ?_, by simp only [RepV, RepL]; exact ⟨[], rfl, rfl⟩, hst.grow⟩
      have hme : Mem.put (Mem.of [(id, LE.arr e 1 (xs.map fun x => LV.int .i64 (en x)))]) id (.arr e 1 (ys.map fun x => LV.int .i64 (en x))) = Mem.of [(id, LE.arr e 1 (ys.map fun x => LV.int .i64 (en x)))] := by
        funext i
        by_cases hi : i = id
        · subst hi; simp [Mem.put, Mem.of]
        · simp [Mem.put, Mem.of, hi]
      rwa [hme] at hm' 
end Go.L
