/- The step library: segments of a block; made slices; arrays. -/
import Derived.Test.YtpdacegpjofdeaaDoorAp
set_option linter.all false
namespace Go.Hub
open Go.RowKit

/-! ### a segment that is written -/
def setSeg : List Value → Nat → List Value → List Value
  | xs, _, [] => xs
  | xs, o, v :: r => setSeg (xs.set o v) (o + 1) r
theorem setSeg_len : ∀ (vs xs : List Value) (o : Nat), (setSeg xs o vs).length = xs.length
  | [], _, _ => rfl
  | v :: r, xs, o => by rw [setSeg, setSeg_len r, List.length_set]
theorem setSeg_at : ∀ (vs xs : List Value) (o i : Nat), o + vs.length ≤ xs.length → (setSeg xs o vs)[i]? = if o ≤ i ∧ i < o + vs.length then vs[i - o]? else xs[i]?
  | [], xs, o, i, _ => by
    have : ¬ (o ≤ i ∧ i < o + ([] : List Value).length) := by simp
    rw [if_neg this]
    rfl
  | v :: r, xs, o, i, h => by
    simp only [List.length_cons] at h
    rw [setSeg, setSeg_at r _ (o + 1) i (by rw [List.length_set]; omega)]
    by_cases h1 : o + 1 ≤ i ∧ i < o + 1 + r.length
    · rw [if_pos h1, if_pos (by simp; omega)]
      rw [show i - o = (i - (o + 1)) + 1 by omega]
      rfl
    · rw [if_neg h1, List.getElem?_set]
      by_cases h2 : o = i
      · subst h2
        rw [if_pos rfl, if_pos (by omega), if_pos (by simp)]
        simp
      · rw [if_neg h2, if_neg (by simp; omega)]
section
variable {M : Type} (cell : M → List Value) (size : Nat) (hs : ∀ m, (cell m).length = size)
include hs
theorem flat_get (l : List M) (i : Nat) : (l.flatMap cell)[i]? = (l[i / size]?).bind fun m => (cell m)[i % size]? := by
  induction l generalizing i with
  | nil => simp
  | cons a r ih =>
    simp only [List.flatMap_cons]
    rcases Nat.lt_or_ge i size with h | h
    · rw [List.getElem?_append_left (by rw [hs]; exact h), Nat.div_eq_of_lt h, Nat.mod_eq_of_lt h]
      rfl
    · rw [List.getElem?_append_right (by rw [hs]; exact h), hs, ih]
      rcases Nat.eq_zero_or_pos size with h0 | h0
      · subst h0
        have : ∀ m, cell m = [] := fun m => List.eq_nil_of_length_eq_zero (hs m)
        simp [this]
      · rw [Nat.div_eq_sub_div h0 h, Nat.mod_eq_sub_mod h]
        rfl
theorem flat_seg (h0 : 0 < size) (l : List M) (i : Nat) (m : M) (hi : i < l.length) : setSeg (l.flatMap cell) (i * size) (cell m) = (l.set i m).flatMap cell := by
  have hlen : (l.flatMap cell).length = l.length * size := flat_len cell size hs l
  have hle : i * size + size ≤ l.length * size := by
    calc i * size + size = (i + 1) * size := by rw [Nat.add_mul, Nat.one_mul]
      _ ≤ l.length * size := Nat.mul_le_mul_right _ hi
  apply List.ext_getElem?
  intro j
  rw [setSeg_at _ _ _ _ (by rw [hs, hlen]; exact hle), flat_get cell size hs, flat_get cell size hs, List.getElem?_set]
  by_cases hj : i * size ≤ j ∧ j < i * size + (cell m).length
  · rw [if_pos hj]
    rw [hs] at hj
    have e1 : j / size = i := by
      refine (Nat.div_eq_iff h0).2 ⟨hj.1, ?_⟩
      omega
    have e2 : j % size = j - i * size := by
      have := Nat.div_add_mod j size
      rw [e1, Nat.mul_comm] at this
      omega
    rw [e1, e2, if_pos rfl, if_pos hi]
    rfl
  · rw [if_neg hj]
    rw [hs] at hj
    have e1 : ¬ i = j / size := fun e => hj ⟨by rw [e]; exact Nat.div_mul_le_self j size, by rw [e]; have := Nat.lt_div_mul_add (a := j) h0; omega⟩
    rw [if_neg e1]
end
section
variable {w : World} {g : Nat} {t : TypeId}
theorem Blk.seg : ∀ (vs xs : List Value) (o : Nat) (w : World), Blk w g t xs.toArray → Blk (w.setCells g o vs) g t (setSeg xs o vs).toArray
  | [], _, _, _, h => h
  | v :: r, xs, o, w, h => by
    have := h.set_ o v
    simp only [List.setIfInBounds_toArray] at this
    exact Blk.seg r (xs.set o v) (o + 1) _ this
end
section
variable {P : Program} {ops : Array Oper} {rest : List Oper} {a : Act} {w : World} {Q : Exit → Act → World → Prop} {n d : Nat} {l : FL} {v : Value} {dst : Option Nat} {ty : TypeId} {ps : String} {af : Array Edge} {gd : Option (Nat × Bool)} {x y : Operand} {t : TypeId} {S : World → Prop} {K : Act → World → Prop}
/-- a struct stored into a row of structs -/
theorem E.storeSeg (f : Fr n a l) {g o e s : Nat} {xs : List Value} {cs : Array Value} (hi : (P.info? t).map (·.size) = some s) (hx : evl l x = some (.pointer (some ⟨g, o, none⟩))) (hy : evl l y = some (.agg cs)) (h1 : cs.toList.all (·.oneCell') = true) (B : Blk w g e xs.toArray) (ho : o + cs.size ≤ xs.length) (hl : cs.size = s) :
    (execOp a.eval ⟨dst, .store t x y, ty, ps, af, gd⟩).run P w = .ok .skip (w.setCells g o cs.toList) :=
  E.storeR f (hl ▸ hi) hx hy (by simpa using h1) (B.there (by simpa using ho))
theorem L.storeSeg (f : Fr n a l) (hw : Region.wanted ⟨none, .store t x y, ty, ps, af, gd⟩ (yielded ops a.tmps) = true) {g o e s : Nat} {xs : List Value} {cs : Array Value} (hi : (P.info? t).map (·.size) = some s) (hx : evl l x = some (.pointer (some ⟨g, o, none⟩))) (hy : evl l y = some (.agg cs)) (h1 : cs.toList.all (·.oneCell') = true) (B : Blk w g e xs.toArray) (ho : o + cs.size ≤ xs.length) (hl : cs.size = s)
    (hK : ∀ a' w', Fr n a' l → Blk w' g e (setSeg xs o cs.toList).toArray → Kept [g] w w' → wpList P ops Q rest a' w') : wpList P ops Q (⟨none, .store t x y, ty, ps, af, gd⟩ :: rest) a w :=
  L.act f hw rfl (E.storeSeg f hi hx hy h1 B ho hl) fun a' f' => hK a' _ f' (B.seg cs.toList xs o w) (setCells_kept w g o _)
theorem O.act {i : Nat} {o : Oper} {w' : World} (f : Fr n a l) (hi : ops[i]? = some o) (hd : o.dst = none) (hw : Region.wanted o (yielded ops a.tmps) = true)
    (hv : (execOp a.eval o).run P w = .ok .skip w') (hS : S w') (hK : ∀ a', Fr n a' l → K a' w') : wpOp P ops Q i (fun a w => S w ∧ K a w) a w := by
  unfold wpOp
  simp only [hi, hw, if_true]
  refine .inl ?_
  unfold Oper.wp
  rw [hv]
  show S w' ∧ K (a.put o.dst undef) w'
  rw [hd]
  exact ⟨hS, hK _ f⟩
theorem O.storeSeg {i : Nat} (f : Fr n a l) (hio : ops[i]? = some ⟨none, .store t x y, ty, ps, af, gd⟩) (hw : Region.wanted ⟨none, .store t x y, ty, ps, af, gd⟩ (yielded ops a.tmps) = true) {g o e s : Nat} {xs : List Value} {cs : Array Value} (hi : (P.info? t).map (·.size) = some s) (hx : evl l x = some (.pointer (some ⟨g, o, none⟩))) (hy : evl l y = some (.agg cs)) (h1 : cs.toList.all (·.oneCell') = true) (B : Blk w g e xs.toArray) (ho : o + cs.size ≤ xs.length) (hl : cs.size = s)
    (hS : ∀ w', Kept [g] w w' → S w') (hK : ∀ a' w', Fr n a' l → Blk w' g e (setSeg xs o cs.toList).toArray → Kept [g] w w' → K a' w') : wpOp P ops Q i (fun a w => S w ∧ K a w) a w :=
  O.act f hio rfl hw (E.storeSeg f hi hx hy h1 B ho hl) (hS _ (setCells_kept w g o _)) fun a' f' => hK a' _ f' (B.seg cs.toList xs o w) (setCells_kept w g o _)
theorem O.store {i : Nat} (f : Fr n a l) (hio : ops[i]? = some ⟨none, .store t x y, ty, ps, af, gd⟩) (hw : Region.wanted ⟨none, .store t x y, ty, ps, af, gd⟩ (yielded ops a.tmps) = true) {g o e : Nat} {xs : List Value} (hi : (P.info? t).map (·.size) = some 1) (hx : evl l x = some (.pointer (some ⟨g, o, none⟩))) (hy : evl l y = some v) (h1 : v.oneCell' = true) (B : Blk w g e xs.toArray) (ho : o < xs.length)
    (hS : ∀ w', Kept [g] w w' → S w') (hK : ∀ a' w', Fr n a' l → Blk w' g e (xs.set o v).toArray → Kept [g] w w' → K a' w') : wpOp P ops Q i (fun a w => S w ∧ K a w) a w :=
  O.act f hio rfl hw (E.store f hi hx hy h1 (B.cell_ (v := xs[o]) (by simp [ho])) (B.frozen o)) (hS _ (setCell_kept w g o v)) fun a' f' => hK a' _ f' (by have := B.set_ o v; simpa only [List.setIfInBounds_toArray] using this) (setCell_kept w g o v)
/-! ### arrays -/
theorem E.indexArr (f : Fr n a l) {e : TypeId} {b o m s : Nat} {k : IntKind} {i : Int} (ht : P.underlying t = some (.array m e)) (hs : (P.info? e).map (·.size) = some s) (hx : evl l x = some (.pointer (some ⟨b, o, none⟩))) (hy : evl l y = some (.int k i)) (h0 : 0 ≤ i) (h1 : i < m) :
    (execOp a.eval ⟨dst, .indexAddr t x y, ty, ps, af, gd⟩).run P w = .ok (.value (.pointer (some ⟨b, o + i.toNat * s, none⟩))) w := by
  cases hq : P.info? e with
  | none => simp [hq] at hs
  | some i' =>
    have hs' : i'.size = s := by simpa [hq] using hs
    simp [execOp, f.ev hx, f.ev hy, Instr.indexAt, asIntOf, run_underlying ht, Instr.sureAddr, h0, h1, sizeOf, typeInfo, hq, hs', add_plain]
/-! ### a slice that is made -/
theorem made_flat {M : Type} (cell : M → List Value) (size : Nat) (hs : ∀ m, (cell m).length = size) (h0 : 0 < size) (z : M) (k : Nat) : madeCells (cell z).toArray (k * size) = ((List.replicate k z).flatMap cell).toArray := by
  have hz : (cell z).toArray.size = size := by simp [hs]
  apply Array.ext'
  apply List.ext_getElem?
  intro j
  rw [flat_get cell size hs, List.getElem?_replicate]
  have hd : (j / size < k) ↔ j < k * size := Nat.div_lt_iff_lt_mul h0
  unfold madeCells
  by_cases hj : j < k * size
  · rw [if_pos (hd.2 hj)]
    have hm : j % size < (cell z).length := by rw [hs]; exact Nat.mod_lt _ h0
    simp [hj, hs]
    rw [List.getElem?_eq_getElem hm]
    simp
  · rw [if_neg (fun h => hj (hd.1 h))]
    simp [hj]
theorem L.make (f : Fr n a l) (hw : Region.wanted ⟨some d, .makeSlice t x y, ty, ps, af, gd⟩ (yielded ops a.tmps) = true) (hn : d < n) {e size bytes : Nat} {z : Value} {kl kc : IntKind} {i j : Int} (ht : P.underlying t = some (.slice e)) (hi : (P.info? e).map (fun i => (i.zero, i.size, i.bytes)) = some (some z, size, bytes))
    (hx : evl l x = some (.int kl i)) (hy : evl l y = some (.int kc j)) (h0 : 0 ≤ i) (h1 : i ≤ j) (hb : (bytes : Int) * j ≤ 281474976710656) (h63 : j ≤ 9223372036854775807)
    (hK : ∀ a' w' g, Newb w w' g e (madeCells z.cells (j.toNat * size)) → Fr n a' ((d, .slice (some ⟨g, 0, none⟩) i.toNat j.toNat) :: l) → wpList P ops Q rest a' w') : wpList P ops Q (⟨some d, .makeSlice t x y, ty, ps, af, gd⟩ :: rest) a w := by
  obtain ⟨ie, hie, h2, h3, h4⟩ := info_parts hi
  subst h3 h4
  have hr := run_make (P := P) w t e ie z ht hie h2 kl kc i j h0 h1 hb h63
  refine L.val f hw rfl hn (v := .slice (some ⟨w.heap.size, 0, none⟩) i.toNat j.toNat) (w' := w.alloc (.cells (madeCells z.cells (j.toNat * ie.size)) e)) ?_ fun a' f' => hK a' _ _ (newb w e _) f'
  simp only [execOp, f.ev hx, f.ev hy]
  rw [Sem.run_bind, hr]
  rfl
end
section
variable {P : Program} {fn : Func} {R : Ending → World → Prop} {n : Nat} {a : Act} {l : FL} {w : World}
theorem C.ret3 (f : Fr n a l) {t u s : Tmp} (hr : fn.results = #[.tmp t, .tmp u, .tmp s]) {v v' v'' : Value} (hv : look l t = some v) (hv' : look l u = some v') (hv'' : look l s = some v'') (h : R (.returned (.tuple #[v, v', v''])) w) : bodyPost P fn R .ret a w :=
  bodyPost_ret (by simp [results, hr, ← Array.getD_eq_getD_getElem?, f.get hv, f.get hv', f.get hv'']) f.defers h
end
end Go.Hub
