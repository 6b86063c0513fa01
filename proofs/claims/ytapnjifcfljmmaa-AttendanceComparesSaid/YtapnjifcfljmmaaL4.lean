/- A logic over logical memory, part 28: the rules of nested rows in the form in which walks use them. -/
import Derived.Test.YtapnjifcfljmmaaL3
set_option linter.unusedVariables false
set_option linter.unusedSimpArgs false
namespace Go.L
section
variable {P : Program} {N : Nat} {pr : Nat → Prop} {ev : Operand → LV} {m m' : Mem} {d : Option Nat} {x y : Operand} {t ty : TypeId} {pos : String} {af : Array Edge} {gd : Option (Nat × Bool)} {lv : LV} {α β : Type} {f : α → LV} {g : β → LV} {e0 k id n : Nat} {os : List (Nat × Nat × Nat)} {xs : List α} {u : Int} {z0 : α} {cs : List LV} {o0 : Nat} {z : LV}
/-- one element is looked at -/
theorem focN (h : idx xs u = some z0) : some (LE.nest e0 k os (xs.map f)) = some (LE.nest e0 k os ((xs.map f).set u.toNat (f z0))) := by
  obtain ⟨_, h2⟩ := idxOk h
  obtain ⟨h3, h4⟩ := List.getElem?_eq_some_iff.1 h2
  have : (xs.map f).set u.toNat (f z0) = xs.map f := by
    rw [← List.map_set, ← h4, List.set_getElem_self]
  rw [this]
theorem focAt (h : idx xs u = some z0) {w : LV} : ((xs.map f).set u.toNat w)[u.toNat]? = some w := by
  obtain ⟨_, h2⟩ := idxOk h
  have h3 := (List.getElem?_eq_some_iff.1 h2).1
  rw [List.getElem?_set_self (by simpa using h3)]
/-- .. and is an element of the row again -/
theorem unfN {z' : α} {ys : List α} (hz : f z' = .agg cs) (hy : ys = xs.set u.toNat z') : some (LE.nest e0 k os ((xs.map f).set u.toNat (.agg cs))) = some (LE.nest e0 k os (ys.map f)) := by
  rw [hy, List.map_set, hz]
theorem ok_s1F {z' : LV} {ls : List LV} {i : Nat} (hx : ev x = .eptr id n i o0) (hm : m id = some (.nest e0 k os (ls.set i (.agg cs)))) (hn : n = ls.length) (hz : (ls.set i (.agg cs))[i]? = some (.agg cs)) (hc : cs[o0]? = some z) (hl : os.lookup o0 = .none) (hy : ev y = z') (hsc : z'.scalar = true) (hp : z'.pure = true) (ht : tok P t = true) (hs : tsize P t = 1) {cs' : List LV} (hcs : cs.set o0 z' = cs') :
    OpOkR P pr ⟨.none, .store t x y, ty, pos, af, gd⟩ ev m .und (m.put id (.nest e0 k os (ls.set i (.agg cs')))) := by
  subst hcs
  have := ok_s1N (pr := pr) (ty := ty) (pos := pos) (af := af) (gd := gd) hx hm (by simpa using hn) hz hc hl hy hsc hp ht hs
  rwa [List.set_set] at this
theorem ok_lnF {e' k' : Nat} {ys : List β} {ls : List LV} {i : Nat} (hx : ev x = .eptr id n i o0) (hm : m id = some (.nest e0 k os ls)) (hn : n = ls.length) (hz : ls[i]? = some (.agg cs)) (hc : cs[o0]? = some (.lst k' (ys.map g))) (hl : os.lookup o0 = some (e', k')) (ht : tok P t = true) (ha : tagg P t = false) : OpOkR P pr ⟨d, .load t x, ty, pos, af, gd⟩ ev m (.slen ys.length) m := by
  have := ok_lnN (pr := pr) (d := d) (ty := ty) (pos := pos) (af := af) (gd := gd) hx hm hn hz hc hl ht ha
  rwa [List.length_map] at this
theorem ok_takeF {e' k' id2 : Nat} {ys : List β} {ls : List LV} {i : Nat} (hx : ev x = .eptr id n i o0) (hm : m id = some (.nest e0 k os (ls.set i (.agg cs)))) (hn : n = ls.length) (hz : (ls.set i (.agg cs))[i]? = some (.agg cs)) (hc : cs[o0]? = some (.lst k' (ys.map g))) (hl : os.lookup o0 = some (e', k')) (hid : m id2 = .none) (ht : tok P t = true) (ha : tagg P t = false) {cs' : List LV} (hcs : cs.set o0 .und = cs') :
    OpOkR P pr ⟨d, .load t x, ty, pos, af, gd⟩ ev m (.arr id2 ys.length) ((m.put id (.nest e0 k os (ls.set i (.agg cs')))).put id2 (.arr e' k' (ys.map g))) := by
  subst hcs
  have := ok_takeN (pr := pr) (d := d) (ty := ty) (pos := pos) (af := af) (gd := gd) hx hm (by simpa using hn) hz hc hl hid ht ha
  rwa [List.length_map, List.set_set] at this
theorem ok_putF {e' k' id2 n2 : Nat} {ys : List β} {ls : List LV} {i : Nat} (hx : ev x = .eptr id n i o0) (hm : m id = some (.nest e0 k os (ls.set i (.agg cs)))) (hn : n = ls.length) (hz : (ls.set i (.agg cs))[i]? = some (.agg cs)) (hc : cs[o0]? = some .und) (hl : os.lookup o0 = some (e', k')) (hy : ev y = .arr id2 n2) (hm2 : m id2 = some (.arr e' k' (ys.map g))) (hn2 : n2 = ys.length) (hpr2 : ¬ pr id2) (ht : tok P t = true) (hs : tsize P t = 1) {cs' : List LV} (hcs : cs.set o0 (.lst k' (ys.map g)) = cs') :
    OpOkR P pr ⟨.none, .store t x y, ty, pos, af, gd⟩ ev m .und ((m.put id (.nest e0 k os (ls.set i (.agg cs')))).put id2 .dead) := by
  subst hcs
  have := ok_putN (pr := pr) (ty := ty) (pos := pos) (af := af) (gd := gd) hx hm (by simpa using hn) hz hc hl hy hm2 (by simpa using hn2) hpr2 ht hs
  rwa [List.set_set] at this
theorem ok_ixF {el kk : Nat} {kd : IntKind} (he : telem P t = some el) (hk : tok P el = true) (hs : tsize P el = kk) (hx : ev x = .arr id n) (hm : m id = some (.nest el kk os (xs.map f))) (hn : n = xs.length) (hy : ev y = .int kd u) (hz : idx xs u = some z0) :
    OpOkR P pr ⟨d, .indexAddr t x y, ty, pos, af, gd⟩ ev m (.eptr id n u.toNat 0) m := by
  obtain ⟨h0, h2⟩ := idxOk hz
  exact ok_ixN he hk hs hx hm (by simpa using hn) hy h0 (by simpa using (List.getElem?_eq_some_iff.1 h2).1)
/-- a whole element is stored -/
theorem ok_stF {z' : α} {i : Nat} (hx : ev x = .eptr id n u.toNat 0) (hm : m id = some (.nest e0 k os (xs.map f))) (hn : n = xs.length) (hz : idx xs u = some z0) (hy : ev y = .agg cs) (ht : tok P t = true) (hs : tsize P t = k) (hl : cs.length = k) (hsc : cs.all LV.scalar = true) (hok : nOk os 0 cs = true) (hfz : f z' = .agg (zN os 0 cs)) :
    OpOkR P pr ⟨.none, .store t x y, ty, pos, af, gd⟩ ev m .und (m.put id (.nest e0 k os ((xs.set u.toNat z').map f))) := by
  obtain ⟨h0, h2⟩ := idxOk hz
  have := ok_stN (pr := pr) (ty := ty) (pos := pos) (af := af) (g := gd) (z := f z0) hx hm (by simpa using hn) (by simp [h2]) hy ht hs hl hsc hok
  rwa [← hfz, ← List.map_set] at this
theorem ok_mkF {d1 : Nat} {zc : List LV} {z' : α} {v : List α} (hte : telem P t = some e0) (hz : tzero P e0 = some (.agg zc)) (hrow : trow P e0 = true) (hs : tsize P e0 = k) (hx : ev x = .int .i64 u) (hy : ev y = .int .i64 u) (hv : mkl z' u = some v) (hid : m id = .none) (hok : nOk os 0 zc = true) (hfz : f z' = .agg (zN os 0 zc)) :
    OpOkR P pr ⟨some d1, .makeSlice t x y, ty, pos, af, gd⟩ ev m (.arr id v.length) (m.put id (.nest e0 k os (v.map f))) := by
  unfold mkl at hv
  split at hv
  · rename_i hb
    cases hv
    have := ok_mkN (pr := pr) (ty := ty) (pos := pos) (af := af) (g := gd) (d := d1) hte hz hrow hs hx hy hb.1 hb.2 hid hok
    rw [List.length_replicate, List.map_replicate, hfz]; exact this
  · cases hv
/-- an element of an array of functions, at a place that is known -/
theorem ok_ixC {nn el : Nat} {kd : IntKind} (c0 : Nat) (ht : tarr P t = some (nn, el)) (hn : Nat.ble 2 nn = true) (hx : ev x = .ptr id 0) (hy : ev y = .int kd u) (hu : u = (c0 : Int)) (h1 : Nat.blt c0 nn = true) : OpOkR P pr ⟨d, .indexAddr t x y, ty, pos, af, gd⟩ ev m (.ptr id c0) m := by
  subst hu
  have h2 : c0 < nn := by simpa using h1
  have := ok_ixPR (m := m) (pr := pr) (d := d) (ty := ty) (pos := pos) (af := af) (gd := gd) ht hn hx hy (by omega) (by simpa using h2)
  simpa using this
theorem ok_min {kd kd' : IntKind} {u w : Int} {ts : Array TypeId} (hx : ev x = .int kd u) (hy : ev y = .int kd' w) : OpOkR P pr ⟨d, .call ⟨.builtin .min, #[x, y], ts⟩, ty, pos, af, gd⟩ ev m (.int kd (min u w)) m := by
  refine OpOkR.value fun c a hev hM => ?_
  have hv := hev x (by simp [Op.operands, Call.operands])
  have hw := hev y (by simp [Op.operands, Call.operands])
  rw [hx] at hv
  rw [hy] at hw
  simp only [RepV] at hv hw
  have hmn : (if w < u then w else u) = min u w := by omega
  exact ⟨.int kd (min u w), c, by simp [execOp, resolve, invoke, builtin, Builtin.min_, Builtin.min2, hv, hw, hmn], by simp [RepV], hM, Step.refl pr c⟩
theorem ok_max {kd kd' : IntKind} {u w : Int} {ts : Array TypeId} (hx : ev x = .int kd u) (hy : ev y = .int kd' w) : OpOkR P pr ⟨d, .call ⟨.builtin .max, #[x, y], ts⟩, ty, pos, af, gd⟩ ev m (.int kd (max u w)) m := by
  refine OpOkR.value fun c a hev hM => ?_
  have hv := hev x (by simp [Op.operands, Call.operands])
  have hw := hev y (by simp [Op.operands, Call.operands])
  rw [hx] at hv
  rw [hy] at hw
  simp only [RepV] at hv hw
  have hmn : (if w > u then w else u) = max u w := by omega
  exact ⟨.int kd (max u w), c, by simp [execOp, resolve, invoke, builtin, Builtin.max_, Builtin.max2, hv, hw, hmn], by simp [RepV], hM, Step.refl pr c⟩
end
end Go.L
