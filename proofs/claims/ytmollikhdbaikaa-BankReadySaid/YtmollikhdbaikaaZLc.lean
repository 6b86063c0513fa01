import Derived.Test.YtmollikhdbaikaaZLb
import Derived.Maps.RangeRun
import Derived.Below
set_option linter.unusedVariables false
set_option linter.unusedSimpArgs false
namespace Go.L
def optP (id n : Nat) : Option Int → LV
 | .none => .nilp
 | some j => .eptr id n j.toNat 0
def optC {β : Type} (r : Option Int) (a : Option β) (b : Int → Option β) : Option β := match r with | .none => a | some j => b j
theorem optN {β : Type} {a : Option β} {b : Int → Option β} {r : β} (h : optC .none a b = some r) : a = some r := h
theorem optS {β : Type} {j : Int} {a : Option β} {b : Int → Option β} {r : β} (h : optC (some j) a b = some r) : b j = some r := h
def tptr (P : Program) (t : TypeId) : Bool := match P.underlying t with | some (.pointer _) => true | _ => false
section
variable {P : Program} {N : Nat} {pr : Nat → Prop} {ev : Operand → LV} {m m' : Mem} {d : Option Nat} {x y z : Operand} {t t' ty : TypeId} {pos : String} {af : Array Edge} {gd : Option (Nat × Bool)} {lv : LV} {α β : Type} {f : α → LV} {g : β → LV} {e0 k id n i o0 : Nat} {os : List (Nat × Nat × Nat)} {xs cs : List LV}
theorem run_equalIn_ptr (w : World) (dd : Nat) (h : tptr P t = true) (p : Option Addr) : (Op.equalIn (dd + 1) t (.pointer p) (.pointer .none)).run P w = .ok p.isNone w := by
 unfold tptr at h
 split at h
 ·rename_i e hu
  cases p <;> simp [Op.equalIn, run_underlying hu]
 ·cases h
theorem ok_pNN (ht : tptr P t = true) (hx : ev x = .nilp) (hy : ev y = .nilp) : OpOkR P pr ⟨d, .binOp .eql t x y t', ty, pos, af, gd⟩ ev m (.bool true) m := by
 refine OpOkR.value fun c a hev hM => ?_
 have h1 := hev x (by simp [Op.operands])
 have h2 := hev y (by simp [Op.operands])
 rw [hx] at h1; rw [hy] at h2
 simp only [RepV] at h1 h2
 have heq := fun w => run_equalIn_ptr (P := P) (t := t) w 9999 ht .none
 refine ⟨.bool true, c, ?_, by simp [RepV], hM, Step.refl pr c⟩
 simp [execOp, h1, h2, eqGuard, binOp, Op.equal, Op.maxDepth, heq]
theorem ok_pEN {zz : LV} (ht : tptr P t = true) (hx : ev x = .eptr id n i o0) (hy : ev y = .nilp) (hm : m id = some (.nest e0 k os xs)) (hn : n = xs.length) (hz : xs[i]? = some zz) : OpOkR P pr ⟨d, .binOp .eql t x y t', ty, pos, af, gd⟩ ev m (.bool false) m := by
 refine OpOkR.value fun c a hev hM => ?_
 have hv := hev x (by simp [Op.operands])
 have h2 := hev y (by simp [Op.operands])
 rw [hx] at hv; rw [hy] at h2
 simp only [RepV] at h2
 obtain ⟨gg, cap, cur, v, bs, ins, hB, _⟩ := hM.nestAt (pr := pr) hm hz
 have he := eptr_now hv hB hn
 have heq := fun w p => run_equalIn_ptr (P := P) (t := t) w 9999 ht (some p)
 refine ⟨.bool false, c, ?_, by simp [RepV], hM, Step.refl pr c⟩
 simp [execOp, he, h2, eqGuard, binOp, Op.equal, Op.maxDepth, heq]
theorem ok_lenNe {el : Nat} {xs : List α} (he : telem P t = some el) (hx : ev x = .arr id n) (hm : m id = some (.nest e0 k os (xs.map f))) (hn : n = xs.length) : OpOkR P pr ⟨d, .call ⟨.builtin .len, #[x], #[t]⟩, ty, pos, af, gd⟩ ev m (.int .i64 (n : Int)) m := by
 refine OpOkR.value fun c a hev hM => ?_
 have hv := hev x (by simp [Op.operands, Call.operands])
 rw [hx] at hv
 have hent := hM.ent id
 rw [hm] at hent
 simp only [RepE] at hent
 obtain ⟨u, vs, bs, hB, hk, hown, hN, hc, hnd, hno⟩ := hent
 simp only [RepV] at hv
 obtain ⟨_, u', k', len', ins', hB', hle', hv1⟩ := hv
 rw [hB] at hB'; cases hB'
 have hv1 := hv1 (by simp [hn])
 obtain ⟨ad, cpp, hww⟩ := ownsRow_len hown
 have hu := elem_of he
 refine ⟨.int .i64 (n : Int), c, ?_, by simp [RepV], hM, Step.refl pr c⟩
 rw [hww] at hv1
 simp [execOp, resolve, invoke, builtin, Builtin.len_, hv1, hn, run_underlying hu, goInt]
theorem ok_takeLF {e' k' id2 : Nat} {ys : List β} {ls : List LV} (hx : ev x = .eptr id n i o0) (hm : m id = some (.nest e0 k os (ls.set i (.agg cs)))) (hn : n = ls.length) (hz : (ls.set i (.agg cs))[i]? = some (.agg cs)) (hc : cs[o0]? = some (.lst k' (ys.map g))) (hl : os.lookup o0 = some (e', k')) (hid : m id2 = .none) (ht : tok P t = true) (ha : tagg P t = false) {cs' : List LV} (hcs : cs.set o0 .und = cs') :
  OpOkR P pr ⟨d, .load t x, ty, pos, af, gd⟩ ev m (.arr id2 ys.length) ((m.put id (.nesth e0 k os (ls.set i (.agg cs')) i o0 id2 ys.length)).put id2 (.arr e' k' (ys.map g))) := by
 subst hcs
 have := ok_takeL (pr := pr) (d := d) (ty := ty) (pos := pos) (af := af) (gd := gd) hx hm (by simpa using hn) hz hc hl hid ht ha
 rwa [List.length_map, List.set_set] at this
theorem Wk.unlinkF {e : Env} {n2 e' k' id2 : Nat} {ys : List β} {ls : List LV} (hm : m id = some (.nesth e0 k os (ls.set i (.agg cs)) i o0 id2 n2)) (hz : (ls.set i (.agg cs))[i]? = some (.agg cs)) (hc : cs[o0]? = some .und) (hl : os.lookup o0 = some (e', k')) (hm2 : m id2 = some (.arr e' k' (ys.map g))) (hn2 : n2 = ys.length) (hpr2 : ¬ pr id2) {cs' : List LV} (hcs : cs.set o0 (.lst k' (ys.map g)) = cs') :
  Wk pr e m e ((m.put id (.nest e0 k os (ls.set i (.agg cs')))).put id2 .dead) := by
 subst hcs
 have := Wk.unlink (pr := pr) (e := e) hm hz hc hl hm2 (by simpa using hn2) hpr2
 rwa [List.set_set] at this
end
section
variable {P : Program} {pr : Nat → Prop} {ev : Operand → LV} {m : Mem} {α β : Type} [DecidableEq α] {f : α → LV} {g : β → LV}
theorem mgN {β : Type} {a k : Int} {b : β} {r : List (Int × β)} (h : (k == a) = false) (h' : mget r k = .none) : mget ((a, b) :: r) k = .none := by
 have hne : ¬ a = k := fun e => by subst e; simp at h
 simp [mget, hne, h']
theorem ok_alI {i id : Nat} {t ty : TypeId} {pos : String} {af : Array Edge} {gd : Option (Nat × Bool)} {z : LV} {cs : List LV} (d0 : Nat) (hi : 100 + d0 = id) (hz : tzero P t = some z) (hc : z.cells = cs) (hid : m id = .none) : OpOk P pr ⟨some i, .alloc t, ty, pos, af, gd⟩ ev m (.ptr id 0) (m.put id (.box cs)) := by
 subst hi; subst hc
 exact ok_alloc t d0 z rfl hz hid
theorem ok_lookK {id kt vt : Nat} {t : TypeId} {d : Option Nat} {x k : Operand} {ty : TypeId} {pos : String} {af : Array Edge} {gd : Option (Nat × Bool)} {S : Value → Prop} {xs : List (α × β)} {key : α} {z : β} {o : Option β} (ht : tmap P t = some (kt, vt)) (K : KOk P kt S) (hf : KeyF f S) (hx : ev x = .mp id) (hid : m id = some (.map kt vt (mlv f g xs))) (hk : ev k = f key) (hz : tzero P vt = some (g z)) (ho : mget xs key = o) :
  OpOkR P pr ⟨d, .lookup t x k true, ty, pos, af, gd⟩ ev m (.tup [g (o.getD z), .bool o.isSome]) m := by
 subst ho
 exact ok_lookup2 ht K hf hx hid hk hz
end
end Go.L
set_option linter.unusedVariables false
set_option linter.unusedSimpArgs false
namespace Go.L
def pickL {α : Type} (xs : List α) (es : List MapEntry) (seen : Array Nat) : List α := ((xs.zip es).filter fun p => !seen.contains p.2.born).map (·.1)
section
variable {P : Program} {N : Nat} {pr : Nat → Prop} {e : Env} {m : Mem} {α β : Type} {f : α → LV} {g : β → LV}
def LHD (P : Program) (N : Nat) (pr : Nat → Prop) (code : Code) (Q : Exit → Env → Mem → Prop) (e : Env) (m : Mem) : Prop :=
 ∀ (c : Cx) (a : Act), Rep N c e m a → code.wp P (fun x a' w' => ∃ e' m', ∃ c' : Cx, c'.w = w' ∧ Rep N c' e' m' a' ∧ Grow pr c c' ∧ Q x e' m') a c.w
theorem LH.toD {code : Code} {Q : Exit → Env → Mem → Prop} (h : LH P N pr code Q e m) : LHD P N pr code Q e m := by
 obtain ⟨ex, e', m', h1, h2⟩ := h
 intro c a hr
 refine wp_mono (h1 c a hr) ?_
 rintro x a' w' ⟨rfl, c', hw, hr', hg⟩
 exact ⟨e', m', c', hw, hr', hg, h2⟩
theorem LHD.wk {code : Code} {Q : Exit → Env → Mem → Prop} {e' : Env} {m' : Mem} (hw : Wk pr e m e' m') (h : LHD P N pr code Q e' m') : LHD P N pr code Q e m := by
 intro c a hr
 obtain ⟨c1, hw1, hr1, hg1⟩ := hw N c a hr
 rw [← hw1]
 refine wp_mono (h c1 a hr1) ?_
 rintro x a' w' ⟨e2, m2, c2, hw2, hr2, hg2, hq⟩
 exact ⟨e2, m2, c2, hw2, hr2, hg1.trans hg2, hq⟩
theorem LHD.seq {x y : Code} {Q : Exit → Env → Mem → Prop} (h : LHD P N pr x (thenQ (LHD P N pr y Q) Q) e m) : LHD P N pr (.seq x y) Q e m := by
 intro c a hr
 refine wp_seq (wp_mono (h c a hr) ?_)
 rintro x a' w' ⟨e', m', c', rfl, hr', hg, hq⟩
 cases x with
 | normal =>
  refine wp_mono (hq c' a' hr') ?_
  rintro x a2 w2 ⟨e2, m2, c2, hw2, hr2, hg2, hq2⟩
  exact ⟨e2, m2, c2, hw2, hr2, hg.trans hg2, hq2⟩
 | exit id => exact ⟨e', m', c', rfl, hr', hg, hq⟩
 | goto l => exact ⟨e', m', c', rfl, hr', hg, hq⟩
 | ret => exact ⟨e', m', c', rfl, hr', hg, hq⟩
 | panic ch => exact ⟨e', m', c', rfl, hr', hg, hq⟩
 | outgrown => exact ⟨e', m', c', rfl, hr', hg, hq⟩
theorem LHD.seqT {l : List Oper} {rid : Nat} {yc : Code} {Q : Exit → Env → Mem → Prop} (el : List (Nat × LV)) (ml : List (Nat × LE)) (hd : dstsOk N l = true) (h : SOps P N pr l.toArray l (fun e m => Wk pr e m (Env.of el) (Mem.of ml)) e m) (hr : LHD P N pr yc Q (Env.of el) (Mem.of ml)) : LHD P N pr (.seq (.region rid l.toArray false) yc) Q e m :=
 LHD.seq (LH.toD (LH.loneT el ml hd h hr))
def Iter (f : α → LV) (g : β → LV) (xs : List (α × β)) (r : Nat) (left : List (α × β)) (cur : Option (α × β)) (c : Cx) : Prop :=
 ∃ b since seen last es ck, c.O r ∧ (b < c.w.heap.size ∧ ¬ c.own b) ∧ c.w.heap[r]? = some (.mapIter (some b) since seen last) ∧ c.w.heap[b]? = some (.map es ck) ∧ BornOk es ck ∧ (∀ x ∈ es.toList, x.born < since) ∧ since ≤ last ∧ since ≤ ck ∧ es.toList.length = xs.length ∧
  (∀ (j : Nat) z, xs[j]? = some z → ∃ en, es.toList[j]? = some en ∧ RepV c (f z.1) en.key ∧ RepV c (g z.2) en.val) ∧ left = pickL xs es.toList seen ∧
  ∀ z, cur = some z → ∃ (seen0 : Array Nat) (en : MapEntry) (j : Nat), seen = seen0.push en.born ∧ last = ck ∧ xs[j]? = some z ∧ es.toList[j]? = some en
theorem Iter.grow {xs left : List (α × β)} {r : Nat} {cur : Option (α × β)} {c c' : Cx} (hf : ∀ z, (f z).pure = true) (hg : ∀ z, (g z).pure = true) (h : Iter f g xs r left cur c) (hm : RepM c m) (hgr : Grow pr c c') : Iter f g xs r left cur c' := by
 obtain ⟨b, since, seen, last, es, ck, h1, h2, h3, h4, h5, h6, h7, h7', h8, h9, h10, h11⟩ := h
 have k : ∀ q, c.O q → c'.w.heap[q]? = c.w.heap[q]? := fun q hq => hgr.keep q (hm.Olt q hq) fun ho => hm.notO q ho hq
 refine ⟨b, since, seen, last, es, ck, by rw [hgr.O]; exact h1, ⟨Nat.lt_of_lt_of_le h2.1 hgr.size, fun ho => (hgr.own b ho).elim h2.2 fun hl => absurd h2.1 (Nat.not_lt.2 hl)⟩, (k r h1).trans h3, (hgr.keep b h2.1 h2.2).trans h4, h5, h6, h7, h7', h8, fun j z hz => ?_, h10, h11⟩
 obtain ⟨en, e1, e2, e3⟩ := h9 j z hz
 exact ⟨en, e1, RepV.mono hgr.le _ _ (fun id hid => by rw [noref_of_pure _ (hf _)] at hid; cases hid) e2, RepV.mono hgr.le _ _ (fun id hid => by rw [noref_of_pure _ (hg _)] at hid; cases hid) e3⟩
structure GI (pr : Nat → Prop) (S : Nat → Prop) (c0 c : Cx) : Prop where
 O : c.O = fun x => c0.O x ∨ S x
 os : c.w.os = c0.w.os
 tape : c.w.tape = c0.w.tape
 output : c.w.output = c0.w.output
 drawn : c0.w.drawn ≤ c.w.drawn
 size : c0.w.heap.size ≤ c.w.heap.size
 keep : ∀ b, b < c0.w.heap.size → ¬ c0.own b → c.w.heap[b]? = c0.w.heap[b]?
 own : ∀ b, c.own b → c0.own b ∨ c0.w.heap.size ≤ b
 prot : ∀ id be, pr id → c0.B id = some be → ∃ be', c.B id = some be' ∧ be.Same be'
theorem GI.grow {S : Nat → Prop} {c0 c c' : Cx} (h : GI pr S c0 c) (k : Grow pr c c') : GI pr S c0 c' where
 O := by rw [k.O, h.O]
 os := k.os.trans h.os
 tape := k.tape.trans h.tape
 output := k.output.trans h.output
 drawn := Nat.le_trans h.drawn k.drawn
 size := Nat.le_trans h.size k.size
 keep b hb ho := (k.keep b (Nat.lt_of_lt_of_le hb h.size) fun hc => (h.own b hc).elim ho fun hl => absurd hb (Nat.not_lt.2 hl)).trans (h.keep b hb ho)
 own b hb := (k.own b hb).elim (h.own b) fun hl => .inr (Nat.le_trans h.size hl)
 prot id be hp hb := by
  obtain ⟨be1, h1, h2⟩ := h.prot id be hp hb
  obtain ⟨be2, h3, h4⟩ := k.prot id be1 hp h1
  exact ⟨be2, h3, h2.trans h4⟩
theorem GI.done {S : Nat → Prop} {c0 c : Cx} {a : Act} (h : GI pr S c0 c) (hr : Rep N c e m a) : ∃ c' : Cx, c'.w = c.w ∧ Rep N c' e m a ∧ Grow pr c0 c' := by
 let c' : Cx := ⟨c.w, c.B, c0.O⟩
 have hO : ∀ x, c0.O x → c.O x := fun x hx => by rw [h.O]; exact .inl hx
 have hle : c.Le c' := ⟨Nat.le_refl _, fun b _ hX => ⟨rfl, fun hX' => hX (hX'.imp (hO b) (fun q => q))⟩⟩
 refine ⟨c', rfl, ⟨fun i => RepV.mono hle _ _ (fun id _ => BLe.refl _) (hr.env i), ⟨fun id => RepE.mono hle (fun id => BLe.refl _) (fun be b _ _ => rfl) (hr.mem.ent id), hr.mem.inj, fun b ho hO' => hr.mem.notO b ho (hO b hO'), fun b hb => hr.mem.Olt b (hO b hb)⟩, hr.size, hr.defers⟩, ⟨rfl, h.os, h.tape, h.output, h.drawn, h.size, h.keep, h.own, h.prot⟩⟩
end
end Go.L
set_option linter.unusedVariables false
namespace Go.L
open Go.RowKit
abbrev cx0 (w : World) : Cx := ⟨w, fun _ => .none, fun _ => False⟩
theorem rpN {c : Cx} : RepL c [] [] := by simp [RepL]
theorem rpC {c : Cx} {x : LV} {v : Value} {xs : List LV} {vs : List Value} (h : RepV c x v) (hr : RepL c xs vs) : RepL c (x :: xs) (v :: vs) := by simp only [RepL]; exact ⟨v, vs, rfl, h, hr⟩
theorem rpI {c : Cx} {k : IntKind} {n : Int} : RepV c (.int k n) (.int k n) := by simp [RepV]
theorem noX (w : World) (b : Nat) : ¬ (cx0 w).X b := by
 rintro (h | ⟨_, _, h, _⟩)
 ·exact h
 ·cases h
theorem repInts {c : Cx} {k : IntKind} : ∀ (zs : List Int), RepL c (zs.map (LV.int k)) (zs.map (Value.int k))
 | [] => by simp [RepL]
 | z :: zs => rpC rpI (repInts zs)
theorem flatInts {k : IntKind} : ∀ (zs : List Int), flat (zs.map (Value.int k)) = zs.map (Value.int k)
 | [] => rfl
 | z :: zs => by
  have := flatInts (k := k) zs
  simp only [flat, List.map_cons, List.flatMap_cons, Value.cells] at this ⊢
  rw [this]; rfl
theorem rpR {k : IntKind} {w : World} {a : Option Addr} {len cap : Nat} {zs : List Int} (h : (a = .none ∧ len = 0 ∧ cap = 0 ∧ zs = []) ∨ ∃ x, a = some x ∧ len ≤ cap ∧ cap ≤ maxLen ∧ zs.length = cap ∧ (∀ i, i < zs.length → w.cell? (x.add i) = some (.int k (zs.getD i 0))) ∧ ∀ n ∈ zs, (Lit.int k n).wf = true) :
  RepV (cx0 w) (.lst 1 (List.map (LV.int k) (zs.take len))) (.slice a len cap) := by
 rcases h with ⟨rfl, rfl, rfl, rfl⟩ | ⟨x, rfl, hl, hm, hz, hcell, _⟩
 ·simp only [RepV]
  exact ⟨.none, 0, rfl, Nat.le_refl _, fun _ => rfl, rfl, .inl rfl⟩
 ·simp only [RepV]
  have hlen : (List.map (LV.int k) (zs.take len)).length = len := by simp; omega
  refine ⟨some x, cap, by rw [hlen], by omega, (fun h => by cases h), pureL_iff.2 fun y hy => ?_, ?_⟩
  ·obtain ⟨n, _, rfl⟩ := List.mem_map.1 hy; rfl
  ·by_cases h0 : len = 0
   ·left; subst h0; simp
   ·right
    obtain ⟨b, off, spot⟩ := x
    have hc := hcell 0 (by omega)
    have hspot : spot = .none := by simpa [Addr.add] using World.cell?_spot hc
    subst hspot
    refine ⟨b, off, (zs.take len).map (Value.int k), rfl, ?_, noX w b, repInts _, ?_, ?_⟩
    ·by_cases hlt : b < w.heap.size
     ·exact hlt
     ·have : w.heap[b]? = .none := by simp; omega
      simp [World.cell?, Addr.add, this] at hc
    ·intro u hu
     obtain ⟨n, _, rfl⟩ := List.mem_map.1 hu
     exact ⟨rfl, fun y hy => by simp [Value.cells] at hy; subst hy; rfl⟩
    ·rw [flatInts]
     intro j v hv
     simp only [List.getElem?_map, List.getElem?_take] at hv
     split at hv
     ·rename_i hj
      have hj2 : j < zs.length := by omega
      have := hcell j hj2
      simp [hj2] at hv
      have hadd : (Addr.mk b off .none).add j = Addr.mk b (off + j) .none := by
       simp only [Addr.add]; split
       ·rename_i h; subst h; rfl
       ·rfl
      rw [hadd] at this
      rw [this, ← hv]; simp [hj2]
     ·cases hv
theorem lawWalk {P : Program} {f : Nat} {args : List LV} (h : LCall P f args (Mem.of []) (.bool true) (Mem.of [])) (w : World) (vs : List Value) (ha : RepL (cx0 w) args vs) :
  Calls P f vs.toArray w fun e w' => e = .returned (.bool true) ∧ Below w.heap.size w w' := by
 refine (PCall.calls h w vs ha).mono ?_
 rintro en w' ⟨⟨v, c', rfl, rfl, hv⟩, hb⟩
 simp only [RepV] at hv
 subst hv
 exact ⟨rfl, hb⟩
end Go.L
