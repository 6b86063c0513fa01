/- A logic over logical memory, part 29: a row that lies in a box's cell is settled; lengths of nested rows. -/
import Derived.Test.YtapnjifcfljmmaaL4
set_option linter.unusedVariables false
set_option linter.unusedSimpArgs false
namespace Go.L
theorem RepM.re {c : Cx} {m : Mem} (h : RepM c m) {bid : Nat} {cs cs' : List LV} (hm : m bid = some (.box cs)) {vs : List Value} {b : Nat} {e : TypeId} (hB : c.B bid = some (.box b cs.length)) (hh : c.w.heap[b]? = some (.cells vs.toArray e (0, 0))) (hl : RepL c cs' vs) (h1 : ∀ v ∈ vs, v.oneCell' = true) (hn : cs'.length = cs.length) : RepM c (m.put bid (.box cs')) := by
  refine ⟨fun i => ?_, h.inj, h.notO, h.Olt⟩
  by_cases hi : i = bid
  · subst hi
    simp only [Mem.put, if_true, RepE]
    exact ⟨b, vs, e, by rw [hn]; exact hB, hh, hl, h1⟩
  · simp only [Mem.put, hi, if_false]
    exact h.ent i
theorem repL_und {c : Cx} : ∀ (cs : List LV) (vs : List Value), RepL c cs vs → RepL c (cs.map fun _ => LV.und) vs
  | [], vs, h => by simpa only [RepL, List.map_nil] using h
  | x :: xs, vs, h => by
    simp only [RepL, List.map_cons] at h ⊢
    obtain ⟨v, vs', rfl, h1, h2⟩ := h
    exact ⟨v, vs', rfl, by simp [RepV], repL_und xs vs' h2⟩
theorem norefL_und {id : Nat} : ∀ (cs : List LV), LV.norefL id (cs.map fun _ => LV.und) = true
  | [] => by simp [LV.norefL]
  | x :: xs => by simp [LV.norefL, LV.noref, norefL_und xs]
theorem frzAL_length {id k : Nat} {xs : List LV} : ∀ (cs : List LV), (LV.frzAL id k xs cs).length = cs.length
  | [] => by simp [LV.frzAL]
  | x :: cs => by simp [LV.frzAL, frzAL_length cs]
def freeB2 (id bid : Nat) (ml : List (Nat × LE)) : Bool := ml.all fun q => q.1 == id || q.1 == bid || match q.2 with | .box cs => LV.norefL id cs | .arr _ _ _ => true | .map _ _ _ => true | .nest _ _ _ _ => true | .dead => true
/-- a row that lies in one box alone is settled there -/
theorem Wk.frzBx {pr : Nat → Prop} {el : List (Nat × LV)} {ml : List (Nat × LE)} {α : Type} {f : α → LV} (id e k : Nat) (xs : List α) (bid : Nat) {cs cs' : List LV} (hid : Mem.of ml id = some (.arr e k (xs.map f))) (hb : Mem.of ml bid = some (.box cs)) (hne : (bid == id) = false) (hcs : LV.frzAL id k (xs.map f) cs = cs') (hfree : freeB2 id bid ml = true) (henv : (el.all fun p => p.2.noref id) = true) (hpr : ¬ pr id) :
    Wk pr (Env.of el) (Mem.of ml) (Env.of el) (((Mem.of ml).del id).put bid (.box cs')) := by
  intro N c a hrep
  have hne : bid ≠ id := by simpa using hne
  obtain ⟨b, vs, e1, hBb, hh, hl, h1⟩ := cell_box hrep.mem hb
  have hm1 := hrep.mem.re (cs' := cs.map fun _ => LV.und) hb hBb hh (repL_und cs vs hl) h1 (by simp)
  obtain ⟨c', hw, hO, hm', hV, hown, hX, hB⟩ := hm1.del id (by
    intro i ds hi hd
    by_cases hib : i = bid
    · subst hib
      simp only [Mem.put, if_true, Option.some.injEq, LE.box.injEq] at hd
      rw [← hd]; exact norefL_und cs
    · simp only [Mem.put, hib, if_false] at hd
      have := List.all_eq_true.1 hfree _ (memOf_some hd)
      simpa [hi, hib] using this)
  have hle : c.Le c' := ⟨by rw [hw]; exact Nat.le_refl _, fun b _ hx => ⟨by rw [hw], fun hx' => hx (hx'.imp (fun h => by rw [hO] at h; exact h) (hown b))⟩⟩
  have harr : ∀ v, RepV c (.arr id (xs.map f).length) v → RepV c' (.lst k (xs.map f)) v := by
    intro v hv
    obtain ⟨us, hBu, hk, hown', hl, hc, hp⟩ := arr_now hrep.mem hv hid rfl
    simp only [RepV]
    have hl' := RepL.mono hle (xs.map f) us (fun j hj => by rw [norefL_of_pureL _ hp] at hj; cases hj) hl
    rcases hown'.2 with ⟨rfl, h0⟩ | ⟨g, cap, cur, rfl, _, hg, hnc, _⟩
    · exact ⟨.none, 0, by rw [h0], by omega, fun _ => rfl, hp, .inl (List.eq_nil_of_length_eq_zero h0)⟩
    · refine ⟨some ⟨g, 0, .none⟩, cap, rfl, hnc, by simp, hp, .inr ⟨g, 0, us, rfl, by rw [hw]; exact (Array.getElem?_eq_some_iff.1 hg).1, hX g _ hBu (.inl rfl), hl', hc, ?_⟩⟩
      rw [hw]; exact rangeAt_own hown' rfl
  have hl2 : RepL c' cs' vs := by rw [← hcs]; exact frzAL_rep hV harr cs vs hl
  have hlen : cs'.length = cs.length := by rw [← hcs, frzAL_length]
  have hm2 := hm'.re (bid := bid) (cs := cs.map fun _ => LV.und) (cs' := cs') (by simp [Mem.del, Mem.put, hne]) (by rw [hB bid hne]; simpa using hBb) (by rw [hw]; exact hh) hl2 h1 (by simpa using hlen)
  have hmem : (((Mem.of ml).put bid (.box (cs.map fun _ => LV.und))).del id).put bid (.box cs') = ((Mem.of ml).del id).put bid (.box cs') := by
    funext i
    simp only [Mem.put, Mem.del]
    by_cases hib : i = bid <;> simp [hib]
  rw [hmem] at hm2
  refine ⟨c', hw, ⟨fun i => hV _ _ ?_ (hrep.env i), hm2, hrep.size, hrep.defers⟩, ?_⟩
  · clear hrep
    induction el with
    | nil => simp [Env.of, LV.noref]
    | cons p el ih =>
      simp only [List.all_cons, Bool.and_eq_true] at henv
      simp only [Env.of]
      split
      · exact henv.1
      · exact ih henv.2
  · refine ⟨hO, by rw [hw], by rw [hw], by rw [hw], by rw [hw]; exact Nat.le_refl _, by rw [hw]; exact Nat.le_refl _, fun b _ _ => by rw [hw], fun b ho => .inl (hown b ho), fun i be hpi hb => ?_⟩
    exact ⟨be, by rw [hB i (fun h => hpr (h ▸ hpi))]; exact hb, .refl be⟩
theorem frA0 {id k : Nat} {ys : List LV} : LV.frzAL id k ys [] = [] := by simp [LV.frzAL]
theorem frAK {id k : Nat} {ys : List LV} {x : LV} {cs cs' : List LV} (h : x.noref id = true) (hr : LV.frzAL id k ys cs = cs') : LV.frzAL id k ys (x :: cs) = x :: cs' := by
  simp only [LV.frzAL, frzA_noref x h, hr]
theorem frAZ {α : Type} {f : α → LV} {id k : Nat} {ys : List α} {cs cs' : List LV} (hr : LV.frzAL id k (ys.map f) cs = cs') : LV.frzAL id k (ys.map f) (.arr id ys.length :: cs) = .lst k (ys.map f) :: cs' := by
  simp [LV.frzAL, LV.frzA, hr]
theorem OpOk.sub {P : Program} {pr : Nat → Prop} {o : Oper} {ev ev' : Operand → LV} {m m' : Mem} {lv : LV} (h : OpOk P pr o ev' m lv m') (hs : ∀ x, Sub (ev x) (ev' x)) : OpOk P pr o ev m lv m' :=
  fun c a Q hev hm => h c a Q (fun x => hs x c _ (hev x)) hm
/-- a slice of one element, up to what its cells are known to be -/
theorem ok_bs1 {P : Program} {pr : Nat → Prop} {ev : Operand → LV} {m : Mem} {d : Option Nat} {t el kk : Nat} {x : Operand} {ty : TypeId} {pos : String} {af : Array Edge} {g : Option (Nat × Bool)} {α : Type} {f : α → LV} (y : α) (he : telem P t = some el) (hr : trow P el = true) (hk : tsize P el = kk) (hb : Nat.ble (1 * kk) 16777216 = true) (hs : Sub (ev x) (f y)) (hok : OkF kk f) :
    OpOk P pr ⟨d, .buildSlice t 1 #[(0, x)], ty, pos, af, g⟩ ev m (.lst kk ([y].map f)) m := by
  classical
  have hsub : ∀ z, Sub (ev z) ((fun z => if z = x then f y else ev z) z) := by
    intro z
    by_cases hz : z = x
    · subst hz; simpa using hs
    · simp only [hz, if_false]; exact Sub.rfl
  obtain ⟨lv, m', ⟨rfl, rfl⟩, h⟩ := LOp_sound (ro := []) (K := fun lv m' => lv = .lst kk ([y].map f) ∧ m' = m) (oBS (P := P) (pr := pr) (ev := fun z => if z = x then f y else ev z) (m := m) (d := d) (ty := ty) (pos := pos) (af := af) (g := g) (n := 1) (ps := [(0, x)]) (ys := [y]) he hr hk hb rfl (by simp) hok ⟨rfl, rfl⟩)
  exact h.sub hsub
/-- the second part of what is given has a length -/
def LenP {α β : Type} (v : Option (α × List β)) (n : Nat) : Prop := ∀ r, v = some r → n = r.2.length
section
variable {α β γ : Type} {n : Nat} {v w : Option (α × List β)}
theorem lenN : LenP (.none : Option (α × List β)) n := fun r hr => by cases hr
theorem lenR {a : α} {l : List β} (h : n = l.length) : LenP (some (a, l)) n := fun r hr => by cases hr; exact h
theorem lenI {p : Prop} [Decidable p] (h : LenP v n) (h' : LenP w n) : LenP (if p then v else w) n := by split <;> assumption
theorem lenB {o : Option γ} {f : γ → Option (α × List β)} (h : ∀ x, LenP (f x) n) : LenP (o.bind f) n := fun r hr => by
  obtain ⟨x, _, hx⟩ := bindS hr; exact h x r hx
theorem lenBK {o : Option (γ × List β)} {f : γ × List β → Option (α × List β)} (ho : LenP o n) (h : ∀ x, n = x.2.length → LenP (f x) n) : LenP (o.bind f) n := fun r hr => by
  obtain ⟨x, hx, hr⟩ := bindS hr; exact h x (ho x hx) r hr
end
end Go.L
