/- Helps of our own: append onto a row that has room ('append_room'), 'clear' of one element of several cells, and a row cut behind its last element. -/
import Derived.Test.YtahmlcjgcdajbaaMem
set_option linter.all false
namespace Go.Hub
open Go.RowKit

section
variable {P : Program} (w : World)
/-- append where there is room: in place. -/
theorem append_fit (t ty e : TypeId) (i : TypeInfo) (size : Nat) (ht : P.underlying t = some (.slice e)) (hi : P.info? e = some i) (hsize : i.size = size) (g off n cap k : Nat) (xs : List Value) (hown : Own w e size (.slice (some ⟨g, off, none⟩) n cap) n xs)
    (B : Nat) (A : Option Addr) (m c : Nat) (news : List Value) (hr : Rds w B size A m news) (h1 : ∀ u ∈ news, u.oneCell' = true) (hk : n + m = k) (hroom : k ≤ cap) :
    ∃ w', (Builtin.append_ #[t, t] ty #[.slice (some ⟨g, off, none⟩) n cap, .slice A m c]).run P w = .ok (.slice (some ⟨g, off, none⟩) k cap) w' ∧ Own w' e size (.slice (some ⟨g, off, none⟩) k cap) k (xs ++ news) ∧ Kept [g] w w' := by
  subst hk
  have hown0 := hown
  rcases hown.2 with ⟨hv, _⟩ | ⟨g', off', cap', cur, hv, hg, hnc, hcm, hcs, hc⟩
  · cases hv
  injection hv with e1 e2 e3
  injection e1 with e1
  injection e1 with e4 e5
  subst e4 e5 e3
  rcases A with _ | ad
  · have hm : m = 0 := by
      rcases Nat.eq_zero_or_pos m with h0 | h0
      · exact h0
      · obtain ⟨b, off, h, _⟩ := hr.2 h0
        cases h
    subst hm
    have hn : news = [] := List.eq_nil_of_length_eq_zero (by simpa using hr.1)
    subst hn
    refine ⟨w, ?_, by simpa using hown0, Kept.refl _ _⟩
    simp [Builtin.append_, run_underlying ht, sizeOf, typeInfo, hi, Builtin.lenOf, Builtin.firstCells, hnc, storeCells]
  · have hnews : ∀ j u, news[j]? = some u → w.cell? (ad.add j) = some u := by
      intro j u hu
      rcases Nat.eq_zero_or_pos m with h0 | h0
      · subst h0
        have hn : news = [] := List.eq_nil_of_length_eq_zero (by simpa using hr.1)
        subst hn
        simp at hu
      · obtain ⟨b, off, h, _, hcc⟩ := hr.2 h0
        injection h with h
        subst h
        rw [add_none]
        exact hcc j u hu
    have hlen : news.length = m * size := hr.1
    have hmul : n * size + m * size ≤ cap * size := by rw [← Nat.add_mul]; exact Nat.mul_le_mul_right _ hroom
    subst hsize
    have hcell : ∀ j, j < news.length → w.cell? ⟨g, off + n * i.size + j, none⟩ = cur[off + n * i.size + j]? := fun j hj => cell_of_row w g _ cur e (0, 0) hg
    have hrun := run_append_room_cells (P := P) w t ty e i ht hi g off n cap ad m c news hlen hnews h1 hroom
      (fun j hj => by rw [hcell j hj, Array.getElem?_eq_getElem (by omega)]; rfl) (fun j hj => by simp [World.frozen?, hg])
    obtain ⟨cur', a1, a2, a3, a4⟩ := setCells_block g news (off + n * i.size) w cur e (0, 0) hg
    obtain ⟨b1, b2, b3, b4⟩ := setCells_facts g news (off + n * i.size) w
    refine ⟨_, hrun, ⟨by rw [List.length_append, hown.1, hlen, Nat.add_mul], .inr ⟨g, off, cap, cur', rfl, a1, hroom, hcm, by omega, fun j u hu => ?_⟩⟩,
      ⟨b1, b2, b3, by omega, fun k hk hn => setCells_other g _ _ w k (by simpa using hn)⟩⟩
    rcases Nat.lt_or_ge j xs.length with hj | hj
    · rw [List.getElem?_append_left hj] at hu
      rw [a3 _ (by have := hown.1; omega)]
      exact hc j u hu
    · rw [List.getElem?_append_right hj] at hu
      have hj2 : j - xs.length < news.length := by
        rcases Nat.lt_or_ge (j - xs.length) news.length with h | h
        · exact h
        · rw [List.getElem?_eq_none h] at hu; cases hu
      have := a4 (j - xs.length) u hu (by have := hown.1; omega)
      rw [show off + n * i.size + (j - xs.length) = off + j from by have := hown.1; omega] at this
      exact this
theorem wp_append_fit {o : Oper} {a : Act} {K : Act → World → Prop} {Q : Exit → Act → World → Prop} (s x : Operand) (t : TypeId)
    (ho : o.op = .call { callee := .builtin .append, args := #[s, x], argTypes := #[t, t] })
    (e : TypeId) (i : TypeInfo) (size : Nat) (ht : P.underlying t = some (.slice e)) (hi : P.info? e = some i) (hsize : i.size = size) (g off n cap k : Nat) (xs : List Value) (hs : a.eval s = .slice (some ⟨g, off, none⟩) n cap)
    (hown : Own w e size (.slice (some ⟨g, off, none⟩) n cap) n xs)
    (B : Nat) (A : Option Addr) (m c : Nat) (news : List Value) (hx : a.eval x = .slice A m c) (hr : Rds w B size A m news) (h1 : ∀ u ∈ news, u.oneCell' = true) (hk : n + m = k) (hroom : k ≤ cap)
    (h : ∀ w', Own w' e size (.slice (some ⟨g, off, none⟩) k cap) k (xs ++ news) → Kept [g] w w' → K (a.put o.dst (.slice (some ⟨g, off, none⟩) k cap)) w') : o.wp P a w K Q := by
  obtain ⟨w', hrun, h2, h3⟩ := append_fit (P := P) w t o.type e i size ht hi hsize g off n cap k xs hown B A m c news hr h1 hk hroom
  unfold Oper.wp execOp
  simp only [ho, resolve, invoke, builtin, Sem.run_bind, Sem.run_pure, Result.andThen_ok, List.map_toArray, List.map_cons, List.map_nil, hs, hx, hrun]
  exact h w' h2 h3
theorem step_append_fit {ops : Array Oper} {o : Oper} {a : Act} {K : Act → World → Prop} {Q : Exit → Act → World → Prop} {E : Prop} (hgd : o.guard = none) (s x : Operand) (t : TypeId)
    (ho : o.op = .call { callee := .builtin .append, args := #[s, x], argTypes := #[t, t] })
    (e : TypeId) (i : TypeInfo) (size : Nat) (ht : P.underlying t = some (.slice e)) (hi : P.info? e = some i) (hsize : i.size = size) (g off n cap k : Nat) (xs : List Value) (hs : a.eval s = .slice (some ⟨g, off, none⟩) n cap)
    (hown : Own w e size (.slice (some ⟨g, off, none⟩) n cap) n xs)
    (B : Nat) (A : Option Addr) (m c : Nat) (news : List Value) (hx : a.eval x = .slice A m c) (hr : Rds w B size A m news) (h1 : ∀ u ∈ news, u.oneCell' = true) (hk : n + m = k) (hroom : k ≤ cap)
    (h : ∀ w', Own w' e size (.slice (some ⟨g, off, none⟩) k cap) k (xs ++ news) → Kept [g] w w' → K (a.put o.dst (.slice (some ⟨g, off, none⟩) k cap)) w') :
    if Region.wanted o (yielded ops a.tmps) = true then Oper.wp P o a w K Q else E := by
  have hw : Region.wanted o (yielded ops a.tmps) = true := by simp [Region.wanted, hgd]
  rw [if_pos hw]
  exact wp_append_fit w s x t ho e i size ht hi hsize g off n cap k xs hs hown B A m c news hx hr h1 hk hroom h

/-- 'clear' of one element of several cells. -/
theorem run_clear_one (t e ty : TypeId) (z : Value) (ht : P.underlying t = some (.slice e)) (hv : ∀ w, (zeroValue e).run P w = .ok z w) (h1 : ∀ u ∈ z.cells.toList, u.oneCell' = true) (b o c : Nat)
    (hc : ∀ j, j < z.cells.size → (w.cell? ⟨b, o + j, none⟩).isSome = true) (hf : ∀ j, j < z.cells.size → w.frozen? ⟨b, o + j, none⟩ = false) :
    (Builtin.clear_ #[t] ty #[.slice (some ⟨b, o, none⟩) 1 c]).run P w = .ok (.tuple #[]) (w.setCells b o z.cells.toList) := by
  have hzc : (Builtin.zeroCells z.cells 1).toList = z.cells.toList := by
    simp only [Builtin.zeroCells, Nat.one_mul]
    apply List.ext_getElem
    · simp
    · intro i h1 h2
      simp at h2
      simp [Nat.mod_eq_of_lt h2, h2]
  have hst := run_storeCells_cells (P := P) b o z.cells.toList 0 w (by simpa using hc) (by simpa using hf) h1
  simp only [Nat.add_zero] at hst
  simp [Builtin.clear_, run_underlying ht, hv, hzc, hst]
end

section
variable {w : World} {e : TypeId} {size n c g off : Nat} {xs : List Value}
/-- cells behind the last element are written: the row holds what it held. -/
theorem Own.past (h : Own w e size (.slice (some ⟨g, off, none⟩) n c) n xs) {o : Nat} (ho : off + n * size ≤ o) (vs : List Value) :
    Own (w.setCells g o vs) e size (.slice (some ⟨g, off, none⟩) n c) n xs ∧ Kept [g] w (w.setCells g o vs) := by
  obtain ⟨b1, b2, b3, b4⟩ := setCells_facts g vs o w
  have K : Kept [g] w (w.setCells g o vs) := ⟨b1, b2, b3, by omega, fun k hk hn => setCells_other g _ _ w k (by simpa using hn)⟩
  refine ⟨⟨h.1, ?_⟩, K⟩
  rcases h.2 with ⟨hv, _⟩ | ⟨g', off', cap', cur, hv, hg, hnc, hcm, hcs, hc⟩
  · cases hv
  injection hv with e1 e2 e3
  injection e1 with e1
  injection e1 with e4 e5
  subst e4 e5 e3
  obtain ⟨cur', a1, a2, a3, a4⟩ := setCells_block g vs o w cur e (0, 0) hg
  refine .inr ⟨g, off, c, cur', rfl, a1, hnc, hcm, by omega, fun j u hu => ?_⟩
  have hj : j < xs.length := (List.getElem?_eq_some_iff.1 hu).1
  rw [a3 _ (by have := h.1; omega)]
  exact hc j u hu
/-- any cell of its capacity can be read and written -/
theorem Own.room (h : Own w e size (.slice (some ⟨g, off, none⟩) n c) n xs) {j : Nat} (hj : j < c * size) : (w.cell? ⟨g, off + j, none⟩).isSome = true ∧ w.frozen? ⟨g, off + j, none⟩ = false := by
  rcases h.2 with ⟨hv, _⟩ | ⟨g', off', cap', cur, hv, hg, hnc, hcm, hcs, hc⟩
  · cases hv
  injection hv with e1 e2 e3
  injection e1 with e1
  injection e1 with e4 e5
  subst e4 e5 e3
  rw [cell_of_row w g _ cur e (0, 0) hg, Array.getElem?_eq_getElem (by omega)]
  exact ⟨rfl, by simp [World.frozen?, hg]⟩
end
end Go.Hub
