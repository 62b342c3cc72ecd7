/- The step library: copy between rows of elements of several cells; a row seen further than its length. -/
import Derived.Test.YtahmlcjgcdajbaaBa
import Derived.Test.YtahmlcjgcdajbaaDel
import Derived.Lib.AppendZerosOnto
import Derived.Lib.Overlaps
set_option linter.all false
namespace Go.Hub
open Go.RowKit

section
variable {w : World} {e : TypeId} {size n c g off : Nat} {xs : List Value}
/-- a segment of a row is written -/
theorem Own.seg (h : Own w e size (.slice (some ⟨g, off, none⟩) n c) n xs) {j : Nat} (vs : List Value) (hj : j + vs.length ≤ xs.length) :
    Own (w.setCells g (off + j) vs) e size (.slice (some ⟨g, off, none⟩) n c) n (setSeg xs j vs) ∧ Kept [g] w (w.setCells g (off + j) vs) := by
  have K := setCells_kept w g (off + j) vs
  refine ⟨⟨by rw [setSeg_len]; exact h.1, ?_⟩, K⟩
  rcases h.2 with ⟨hv, _⟩ | ⟨g', off', cap', cur, hv, hg, hnc, hcm, hcs, hc⟩
  · cases hv
  injection hv with e1 e2 e3
  injection e1 with e1
  injection e1 with e4 e5
  subst e4 e5 e3
  obtain ⟨cur', a1, a2, a3, a4⟩ := setCells_block g vs (off + j) w cur e (0, 0) hg
  refine .inr ⟨g, off, c, cur', rfl, a1, hnc, hcm, by omega, fun i u hu => ?_⟩
  have hx := h.1
  have hn : n * size ≤ c * size := Nat.mul_le_mul_right _ hnc
  have hi : i < xs.length := by
    have := (List.getElem?_eq_some_iff.1 hu).1
    rwa [setSeg_len] at this
  rw [setSeg_at _ _ _ _ hj] at hu
  by_cases hin : j ≤ i ∧ i < j + vs.length
  · rw [if_pos hin] at hu
    have := a4 (i - j) u hu (by omega)
    rwa [show off + j + (i - j) = off + i by omega] at this
  · rw [if_neg hin] at hu
    have h1 := World.cell?_setCells_out g vs (off + j) w ⟨g, off + i, none⟩ (fun _ _ => by show off + i < off + j ∨ off + j + vs.length ≤ off + i; omega)
    rw [cell_of_row _ g (off + i) cur' e (0, 0) a1, cell_of_row w g (off + i) cur e (0, 0) hg] at h1
    rw [h1]
    exact hc i u hu
/-- the same slice, longer: what lies behind it in its row -/
theorem Own.more (h : Own w e size (.slice (some ⟨g, off, none⟩) n c) n xs) {k : Nat} (hk : n + k ≤ c) : ∃ ys, ys.length = k * size ∧ Own w e size (.slice (some ⟨g, off, none⟩) (n + k) c) (n + k) (xs ++ ys) := by
  rcases h.2 with ⟨hv, _⟩ | ⟨g', off', cap', cur, hv, hg, hnc, hcm, hcs, hc⟩
  · cases hv
  injection hv with e1 e2 e3
  injection e1 with e1
  injection e1 with e4 e5
  subst e4 e5 e3
  have hx := h.1
  have hn : (n + k) * size ≤ c * size := Nat.mul_le_mul_right _ hk
  rw [Nat.add_mul] at hn
  refine ⟨(cur.toList.drop (off + n * size)).take (k * size), by simp; omega, by rw [List.length_append, hx, Nat.add_mul]; simp; omega, .inr ⟨g, off, c, cur, rfl, hg, hk, hcm, hcs, fun j u hu => ?_⟩⟩
  rcases Nat.lt_or_ge j xs.length with hj | hj
  · rw [List.getElem?_append_left hj] at hu
    exact hc j u hu
  · rw [List.getElem?_append_right hj, List.getElem?_take] at hu
    split at hu
    · rw [List.getElem?_drop] at hu
      rw [show off + n * size + (j - xs.length) = off + j by omega] at hu
      simpa using hu
    · cases hu
/-- .. shorter -/
theorem Own.cutA (h : Own w e size (.slice (some ⟨g, off, none⟩) n c) n xs) {k : Nat} (hk : k ≤ n) (hc : c ≠ k) : Own w e size (.slice (some ⟨g, off + k * size, none⟩) (n - k) (c - k)) (n - k) (xs.drop (k * size)) := by
  have := h.cut hk
  rw [if_neg hc] at this
  simpa only [Option.map_some, add_none] using this
end
section
variable {P : Program} {w : World}
theorem run_copyR (t ty e : TypeId) (size : Nat) (ht : P.underlying t = some (.slice e)) (hs : (P.info? e).map (·.size) = some size) {g o dl dc m c : Nat} {S : Option Addr} {xs vs : List Value} (hsrc : Sl w S m size xs) (hm : 0 < m) (hv : vs = xs.take (Nat.min m dl * size))
    (hc : ∀ j, j < vs.length → (w.cell? ⟨g, o + j, none⟩).isSome = true) (hf : ∀ j, j < vs.length → w.frozen? ⟨g, o + j, none⟩ = false) (h1 : ∀ v ∈ vs, v.oneCell' = true) :
    (Builtin.copy_ #[t, t] ty #[.slice (some ⟨g, o, none⟩) dl dc, .slice S m c]).run P w = .ok (goInt (Nat.min m dl)) (w.setCells g o vs) := by
  obtain ⟨b, off, rfl, _, hcell⟩ := hsrc.2 hm
  have hlen : vs.length = Nat.min m dl * size := by
    rw [hv, List.length_take, hsrc.1]
    exact Nat.min_eq_left (Nat.mul_le_mul_right _ (Nat.min_le_left _ _))
  have hl := run_loadCells_list (P := P) w ⟨b, off, none⟩ vs (fun j v hj => by
    rw [add_none]
    refine hcell j v ?_
    rw [hv, List.getElem?_take] at hj
    split at hj
    · exact hj
    · cases hj)
  have hst := run_storeCells_cells (P := P) g o vs 0 w (by simpa using hc) (by simpa using hf) h1
  rw [hlen] at hl
  cases hq : P.info? e with
  | none => simp [hq] at hs
  | some i =>
    have hi : i.size = size := by simpa [hq] using hs
    simp [Builtin.copy_, run_underlying ht, Builtin.lenOf, Builtin.firstCells, sizeOf, typeInfo, hq, hi, hl, hst]
end
section
variable {P : Program} {ops : Array Oper} {rest : List Oper} {a : Act} {w : World} {Q : Exit → Act → World → Prop} {n d : Nat} {l : FL} {ty : TypeId} {ps : String} {af : Array Edge} {gd : Option (Nat × Bool)} {x y : Operand} {t : TypeId}
/-- copy into a segment of a row of the call's own -/
theorem L.copyR (f : Fr n a l) (hw : Region.wanted ⟨some d, .call { callee := .builtin .copy, args := #[x, y], argTypes := #[t, t] }, ty, ps, af, gd⟩ (yielded ops a.tmps) = true) (hn : d < n) {e size g o off dl dc m c j N C : Nat} {S : Option Addr} {xs vs ys : List Value} (ht : P.underlying t = some (.slice e)) (hs : (P.info? e).map (·.size) = some size)
    (hx : evl l x = some (.slice (some ⟨g, o, none⟩) dl dc)) (hy : evl l y = some (.slice S m c)) (hown : Own w e size (.slice (some ⟨g, off, none⟩) N C) N ys) (ho : o = off + j) (hsrc : Sl w S m size xs) (hm : 0 < m) (hv : vs = xs.take (Nat.min m dl * size)) (hj : j + vs.length ≤ ys.length) (h1 : ∀ v ∈ vs, v.oneCell' = true)
    (hK : ∀ a' w', Own w' e size (.slice (some ⟨g, off, none⟩) N C) N (setSeg ys j vs) → Kept [g] w w' → Fr n a' ((d, goInt (Nat.min m dl)) :: l) → wpList P ops Q rest a' w') : wpList P ops Q (⟨some d, .call { callee := .builtin .copy, args := #[x, y], argTypes := #[t, t] }, ty, ps, af, gd⟩ :: rest) a w := by
  subst ho
  have hr : ∀ i, i < vs.length → (w.cell? ⟨g, off + j + i, none⟩).isSome = true ∧ w.frozen? ⟨g, off + j + i, none⟩ = false := fun i hi => by
    have hx := hown.1
    have hnc : N ≤ C := by
      rcases hown.2 with ⟨hv, _⟩ | ⟨g', off', cap', cur, hv, _, hnc, _⟩
      · cases hv
      · injection hv with _ _ e3; subst e3; exact hnc
    have hn : N * size ≤ C * size := Nat.mul_le_mul_right _ hnc
    have := hown.room (j := j + i) (by omega)
    rwa [← Nat.add_assoc] at this
  have hrun := run_copyR (P := P) t ty e size ht hs hsrc hm hv (dc := dc) (c := c) (g := g) (o := off + j) (fun i hi => (hr i hi).1) (fun i hi => (hr i hi).2) h1
  obtain ⟨h2, h3⟩ := hown.seg vs hj
  refine L.val (v := goInt (Nat.min m dl)) f hw rfl hn ?_ fun a' f' => hK a' _ h2 h3 f'
  simp [execOp, resolve, invoke, builtin, f.ev hx, f.ev hy, hrun]
end
section
variable {P : Program} {ops : Array Oper} {rest : List Oper} {a : Act} {w : World} {Q : Exit → Act → World → Prop} {n d : Nat} {l : FL} {dst : Option Nat} {ty : TypeId} {ps : String} {af : Array Edge} {gd : Option (Nat × Bool)} {x y : Operand} {t tn : TypeId}
theorem E.capL (f : Fr n a l) {e : TypeId} {A : Option Addr} {m c : Nat} (ht : P.underlying t = some (.slice e)) (hx : evl l x = some (.slice A m c)) : (execOp a.eval ⟨dst, .call { callee := .builtin .cap, args := #[x], argTypes := #[t] }, ty, ps, af, gd⟩).run P w = .ok (.value (.int .i64 c)) w := by
  simp [execOp, resolve, invoke, builtin, f.ev hx, Builtin.cap_, run_underlying ht, goInt]
/-- append(s, make([]T, k)...) where s has no room -/
theorem L.appendZ (f : Fr n a l) (hw : Region.wanted ⟨some d, .call { callee := .builtin .append, args := #[x, y], argTypes := #[t, tn] }, ty, ps, af, gd⟩ (yielded ops a.tmps) = true) (hn : d < n) {e size bytes k c m : Nat} {z : Value} {A : Option Addr} {xs : List Value} {kq kn : IntKind} {j : Int} (ht : P.underlying t = some (.slice e)) (htn : P.underlying tn = some (.int kn)) (hi : (P.info? e).map (fun i => (i.zero, i.size, i.bytes)) = some (some z, size, bytes)) (hzs : z.cells.size = size) (hsz : Nat.blt 0 size = true)
    (hx : evl l x = some (.slice A k c)) (hy : evl l y = some (.int kq j)) (hown : Own w e size (.slice A k c) k xs) (hj : j = m) (hm : 0 < m) (hg : c < k + m) (h63 : k + m ≤ 4611686018427387904) (hb : (k + m) * bytes ≤ 70368744177664)
    (hK : ∀ a' w' g c', Own w' e size (.slice (some ⟨g, 0, none⟩) (k + m) c') (k + m) (xs ++ (Builtin.zeroCells z.cells m).toList) → w.heap.size ≤ g → Kept [] w w' → Fr n a' ((d, .slice (some ⟨g, 0, none⟩) (k + m) c') :: l) → wpList P ops Q rest a' w') : wpList P ops Q (⟨some d, .call { callee := .builtin .append, args := #[x, y], argTypes := #[t, tn] }, ty, ps, af, gd⟩ :: rest) a w := by
  subst hj
  cases hq : P.info? e with
  | none => simp [hq] at hi
  | some i =>
    have hi' : i.zero = some z ∧ i.size = size ∧ i.bytes = bytes := by simpa [hq] using hi
    obtain ⟨hz, hs, hby⟩ := hi'
    subst hs hby
    have hs0 : 0 < i.size := Nat.le_of_ble_eq_true hsz
    have hfc : (Builtin.firstCells i.size k (.slice A k c)).run P w.drew = .ok xs.toArray w.drew := by
      rcases A with _ | ad
      · have hk : k = 0 := by
          rcases hown.2 with ⟨_, h0⟩ | ⟨g, off, cap, cur, hv, _⟩
          · exact h0
          · cases hv
        subst hk
        have hx0 : xs = [] := List.eq_nil_of_length_eq_zero (by simpa using hown.1)
        subst hx0
        simp [Builtin.firstCells]
      · rcases hown.2 with ⟨hv, _⟩ | ⟨g, off, cap, cur, hv, hgd, hnc, hcm, hcs, hc⟩
        · cases hv
        injection hv with e1 e2 e3
        injection e1 with e1
        subst e1 e3
        have := run_loadCells_list (P := P) w.drew ⟨g, off, none⟩ xs (fun j v hj => by
          rw [add_none]
          have h1 := cell_of_row w g (off + j) cur e (0, 0) hgd
          show w.cell? _ = _
          rw [h1]
          exact hc j v hj)
        rw [hown.1] at this
        simpa [Builtin.firstCells] using this
    have hgrow : Builtin.nextslicecap (k + m) c * i.bytes ≤ 281474976710656 := growslice_fits hg (by omega)
    have hrun := Lib.run_append_grow_zeros (P := P) w t tn ty e i z kq kn ht htn hq hz A k c xs hfc m hm hs0 hg (by omega) (by
      have : m * i.bytes ≤ (k + m) * i.bytes := Nat.mul_le_mul_right _ (by omega)
      omega) hgrow
    have hcap : k + m ≤ grownCap w (k + m) c e ∧ grownCap w (k + m) c e ≤ maxLen := ⟨grownCap_ge w _ _ _, grownCap_le_maxLen w _ _ _ (by unfold maxLen; omega)⟩
    refine L.val (v := .slice (some ⟨w.heap.size, 0, none⟩) (k + m) (grownCap w (k + m) c e)) (w' := w.drew.alloc (.cells (xs.toArray ++ Builtin.zeroCells z.cells m ++ Builtin.zeroCells z.cells (grownCap w (k + m) c e - (k + m))) e)) f hw rfl hn (by simp [execOp, resolve, invoke, builtin, f.ev hx, f.ev hy, hrun]) fun a' f' => hK a' _ _ _ ?_ (Nat.le_refl _) ((Kept.refl [] w).drew.alloc _) f'
    have hxl := hown.1
    refine ⟨by rw [List.length_append, hxl, Nat.add_mul]; simp [Builtin.zeroCells, hzs], .inr ⟨w.heap.size, 0, _, _, rfl, heap_alloc_new w.drew _, hcap.1, hcap.2, ?_, fun j u hu => ?_⟩⟩
    · simp [Builtin.zeroCells, hzs, hxl]
      rw [← Nat.add_mul, ← Nat.add_mul]
      exact Nat.mul_le_mul_right _ (by omega)
    · rw [Nat.zero_add]
      have hj := (List.getElem?_eq_some_iff.1 hu).1
      rw [List.length_append] at hj
      have h1 : (xs.toArray ++ Builtin.zeroCells z.cells m ++ Builtin.zeroCells z.cells (grownCap w (k + m) c e - (k + m)))[j]? = (xs ++ (Builtin.zeroCells z.cells m).toList)[j]? := by
        rw [Array.getElem?_append_left (by simpa using hj), ← Array.getElem?_toList]
        simp
      rw [h1]
      exact hu
end
section
variable {P : Program} {a : Act} {w : World} {n : Nat} {l : FL} {dst : Option Nat} {ty : TypeId} {ps : String} {af : Array Edge} {gd : Option (Nat × Bool)} {x y : Operand} {t : TypeId}
/-- s[k:], not at the end of its room -/
theorem E.slA (f : Fr n a l) {e : TypeId} {g off m c s k : Nat} {i : Int} {ki : IntKind} (ht : P.underlying t = some (.slice e)) (hs : (P.info? e).map (·.size) = some s) (hx : evl l x = some (.slice (some ⟨g, off, none⟩) m c)) (hy : evl l y = some (.int ki i)) (hk : i = k) (h1 : k ≤ m) (hc : c ≠ k) :
    (execOp a.eval ⟨dst, .slice t x (some y) none none, ty, ps, af, gd⟩).run P w = .ok (.value (.slice (some ⟨g, off + k * s, none⟩) (m - k) (c - k))) w := by
  subst hk
  have h := E.slLlo (P := P) (w := w) (dst := dst) (ty := ty) (ps := ps) (af := af) (g := gd) f ht hs hx hy (by omega) (by omega)
  rw [Int.toNat_natCast, if_neg hc] at h
  simpa only [Option.map_some, add_none] using h
end
section
variable {P : Program} {ops : Array Oper} {a : Act} {w : World} {Q : Exit → Act → World → Prop} {n d q : Nat} {l : FL} {ty : TypeId} {ps : String} {af : Array Edge} {gd : Option (Nat × Bool)} {x y : Operand} {t : TypeId} {Sw : World → Prop} {K : Act → World → Prop}
theorem O.copyR (f : Fr n a l) (hq : ops[q]? = some ⟨some d, .call { callee := .builtin .copy, args := #[x, y], argTypes := #[t, t] }, ty, ps, af, gd⟩) (hw : Region.wanted ⟨some d, .call { callee := .builtin .copy, args := #[x, y], argTypes := #[t, t] }, ty, ps, af, gd⟩ (yielded ops a.tmps) = true) (hn : d < n) {e size g o off dl dc m c j N C : Nat} {S : Option Addr} {xs vs ys : List Value} (ht : P.underlying t = some (.slice e)) (hs : (P.info? e).map (·.size) = some size)
    (hx : evl l x = some (.slice (some ⟨g, o, none⟩) dl dc)) (hy : evl l y = some (.slice S m c)) (hown : Own w e size (.slice (some ⟨g, off, none⟩) N C) N ys) (ho : o = off + j) (hsrc : Sl w S m size xs) (hm : 0 < m) (hv : vs = xs.take (Nat.min m dl * size)) (hj : j + vs.length ≤ ys.length) (h1 : ∀ v ∈ vs, v.oneCell' = true)
    (hSw : ∀ w', Kept [g] w w' → Sw w') (hK : ∀ a' w', Own w' e size (.slice (some ⟨g, off, none⟩) N C) N (setSeg ys j vs) → Kept [g] w w' → Fr n a' ((d, goInt (Nat.min m dl)) :: l) → K a' w') : wpOp P ops Q q (fun a w => Sw w ∧ K a w) a w := by
  subst ho
  have hr : ∀ i, i < vs.length → (w.cell? ⟨g, off + j + i, none⟩).isSome = true ∧ w.frozen? ⟨g, off + j + i, none⟩ = false := fun i hi => by
    have hx := hown.1
    have hnc : N ≤ C := by
      rcases hown.2 with ⟨hv, _⟩ | ⟨g', off', cap', cur, hv, _, hnc, _⟩
      · cases hv
      · injection hv with _ _ e3; subst e3; exact hnc
    have hn : N * size ≤ C * size := Nat.mul_le_mul_right _ hnc
    have := Own.room hown (j := j + i) (by omega)
    rwa [← Nat.add_assoc] at this
  have hrun := run_copyR (P := P) t ty e size ht hs hsrc hm hv (dc := dc) (c := c) (g := g) (o := off + j) (fun i hi => (hr i hi).1) (fun i hi => (hr i hi).2) h1
  obtain ⟨h2, h3⟩ := hown.seg vs hj
  refine O.val (v := goInt (Nat.min m dl)) f hq rfl hn hw ?_ (hSw _ h3) fun a' f' => hK a' _ h2 h3 f'
  simp [execOp, resolve, invoke, builtin, f.ev hx, f.ev hy, hrun]
end
theorem seg_a {W X Y Z : List Value} (hl : W.length = X.length + Y.length + Z.length) (hx : W.take X.length = X) : setSeg (setSeg W X.length Y) (X.length + Y.length) Z = X ++ Y ++ Z := by
  apply List.ext_getElem?
  intro i
  rw [setSeg_at _ _ _ _ (by rw [setSeg_len]; omega), setSeg_at _ _ _ _ (by omega)]
  by_cases h1 : i < X.length
  · have e : (W.take X.length)[i]? = W[i]? := by rw [List.getElem?_take, if_pos h1]
    rw [hx] at e
    rw [if_neg (by omega), if_neg (by omega), List.append_assoc, List.getElem?_append_left h1, e]
  · by_cases h2 : i < X.length + Y.length
    · rw [if_neg (by omega), if_pos (by omega), List.append_assoc, List.getElem?_append_right (by omega), List.getElem?_append_left (by omega)]
    · by_cases h3 : i < X.length + Y.length + Z.length
      · rw [if_pos (by omega), List.getElem?_append_right (by simp; omega)]
        simp
      · rw [if_neg (by omega), if_neg (by omega), List.getElem?_eq_none (by omega), List.getElem?_eq_none (by simp; omega)]
theorem seg_b {W X Y Z : List Value} (hl : W.length = X.length + Y.length + Z.length) (hx : W.take X.length = X) : setSeg (setSeg W (X.length + Y.length) Z) X.length Y = X ++ Y ++ Z := by
  apply List.ext_getElem?
  intro i
  rw [setSeg_at _ _ _ _ (by rw [setSeg_len]; omega), setSeg_at _ _ _ _ (by omega)]
  by_cases h1 : i < X.length
  · have e : (W.take X.length)[i]? = W[i]? := by rw [List.getElem?_take, if_pos h1]
    rw [hx] at e
    rw [if_neg (by omega), if_neg (by omega), List.append_assoc, List.getElem?_append_left h1, e]
  · by_cases h2 : i < X.length + Y.length
    · rw [if_pos (by omega), List.append_assoc, List.getElem?_append_right (by omega), List.getElem?_append_left (by omega)]
    · by_cases h3 : i < X.length + Y.length + Z.length
      · rw [if_neg (by omega), if_pos (by omega), List.getElem?_append_right (by simp; omega)]
        simp
      · rw [if_neg (by omega), if_neg (by omega), List.getElem?_eq_none (by omega), List.getElem?_eq_none (by simp; omega)]
end Go.Hub
