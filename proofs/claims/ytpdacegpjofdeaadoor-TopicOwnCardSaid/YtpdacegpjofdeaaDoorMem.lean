/- Helps of our own on memory: what a slice of the call's own holds wherever it begins in its row ('Own'), append onto it, byte slices that nobody writes ('Bs'), and the relation 'Same' that keeps them. -/
import Derived.Test.YtpdacegpjofdeaaDoorHub2
import Derived.Laws.IdiomCopy
import Derived.ArgAppend
import Derived.Laws.BytesArg
import Derived.Laws.ResultCell
import Derived.Deep.Upon
set_option linter.all false
namespace Go.Hub
open Go.RowKit

/-! ### a row written in several places -/
theorem setCells_block (g : Nat) : ∀ (vs : List Value) (o : Nat) (w : World) (cur : Array Value) (e : TypeId) (f : Nat × Nat), w.heap[g]? = some (.cells cur e f) →
    ∃ cur' : Array Value, (w.setCells g o vs).heap[g]? = some (.cells cur' e f) ∧ cur'.size = cur.size ∧ (∀ j, j < o → cur'[j]? = cur[j]?) ∧ (∀ j u, vs[j]? = some u → o + j < cur.size → cur'[o + j]? = some u)
  | [], o, w, cur, e, f, h => ⟨cur, h, rfl, fun _ _ => rfl, fun j u hu => by simp at hu⟩
  | v :: r, o, w, cur, e, f, h => by
    have h1 : (w.setCell ⟨g, o, none⟩ v).heap[g]? = some (.cells (cur.setIfInBounds o v) e f) := by
      simp [World.setCell, Array.getElem?_modify, h]
    obtain ⟨cur', a1, a2, a3, a4⟩ := setCells_block g r (o + 1) (w.setCell ⟨g, o, none⟩ v) _ e f h1
    refine ⟨cur', a1, by rw [a2]; simp, fun j hj => ?_, fun j u hu hlt => ?_⟩
    · rw [a3 j (by omega), Array.getElem?_setIfInBounds]
      rw [if_neg (by omega)]
    · match j, hu with
      | 0, hu =>
        simp at hu
        subst hu
        rw [Nat.add_zero] at hlt ⊢
        rw [a3 o (by omega), Array.getElem?_setIfInBounds, if_pos rfl, if_pos hlt]
      | j + 1, hu =>
        have := a4 j u (by simpa using hu) (by simp; omega)
        rw [show o + (j + 1) = o + 1 + j from by omega]
        exact this
theorem setCells_other (g : Nat) : ∀ (vs : List Value) (o : Nat) (w : World) (k : Nat), k ≠ g → (w.setCells g o vs).heap[k]? = w.heap[k]?
  | [], _, _, _, _ => rfl
  | v :: r, o, w, k, h => (setCells_other g r (o + 1) (w.setCell ⟨g, o, none⟩ v) k h).trans (Below.heap_setCell _ _ _ _ h)
theorem setCells_facts (g : Nat) : ∀ (vs : List Value) (o : Nat) (w : World), (w.setCells g o vs).os = w.os ∧ (w.setCells g o vs).tape = w.tape ∧ (w.setCells g o vs).output = w.output ∧ (w.setCells g o vs).heap.size = w.heap.size
  | [], _, _ => ⟨rfl, rfl, rfl, rfl⟩
  | v :: r, o, w => by
    obtain ⟨a, b, c, d⟩ := setCells_facts g r (o + 1) (w.setCell ⟨g, o, none⟩ v)
    exact ⟨a, b, c, by rw [World.setCells, d]; simp [World.setCell]⟩

/-! ### a slice of the call's own, wherever it begins in its row -/
def Own (w : World) (e : TypeId) (size : Nat) (v : Value) (n : Nat) (xs : List Value) : Prop :=
  xs.length = n * size ∧ ((v = .slice none 0 0 ∧ n = 0) ∨
    ∃ g off cap cur, v = .slice (some ⟨g, off, none⟩) n cap ∧ w.heap[g]? = some (.cells cur e (0, 0)) ∧ n ≤ cap ∧ cap ≤ maxLen ∧ off + cap * size ≤ cur.size ∧ ∀ j u, xs[j]? = some u → cur[off + j]? = some u)
section
variable {w w' : World} {e : TypeId} {size : Nat} {v : Value} {n : Nat} {xs : List Value}
theorem Own.nil (w : World) (e : TypeId) (size : Nat) : Own w e size (.slice none 0 0) 0 [] := ⟨by simp, .inl ⟨rfl, rfl⟩⟩
theorem Own.of_row {base : Nat} (h : w.ownsRow base e size v n xs) : Own w e size v n xs := by
  refine ⟨h.1, ?_⟩
  rcases h.2 with hn | ⟨g, cap, cur, hv, _, hg, hnc, hcm, hcs, ht⟩
  · exact .inl hn
  · refine .inr ⟨g, 0, cap, cur, hv, hg, hnc, hcm, by omega, fun j u hu => ?_⟩
    rw [← ht] at hu
    rw [Nat.zero_add]
    have hj : j < n * size := by
      rcases Nat.lt_or_ge j (n * size) with hj | hj
      · exact hj
      · rw [List.getElem?_take, if_neg (by omega)] at hu; cases hu
    rw [List.getElem?_take, if_pos hj] at hu
    simpa using hu
theorem Own.form (h : Own w e size v n xs) : ∃ A c, v = .slice A n c ∧ n ≤ c ∧ c ≤ maxLen := by
  rcases h.2 with ⟨rfl, rfl⟩ | ⟨g, off, cap, cur, rfl, _, hn, hc, _⟩
  · exact ⟨none, 0, rfl, Nat.le_refl _, by simp [maxLen]⟩
  · exact ⟨_, _, rfl, hn, hc⟩
theorem Own.blk (h : Own w e size v n xs) : ∀ k, v.ownBlock = some k → k < w.heap.size ∧ ∃ cs, w.heap[k]? = some (.cells cs e (0, 0)) := by
  intro k hk
  rcases h.2 with ⟨rfl, rfl⟩ | ⟨g, off, cap, cur, rfl, hg, _⟩
  · simp [Value.ownBlock] at hk
  · simp [Value.ownBlock] at hk
    subst hk
    exact ⟨(Array.getElem?_eq_some_iff.1 hg).1, cur, hg⟩
theorem Own.of_eq (h : Own w e size v n xs) (hb : ∀ k, v.ownBlock = some k → w'.heap[k]? = w.heap[k]?) : Own w' e size v n xs := by
  refine ⟨h.1, ?_⟩
  rcases h.2 with hn | ⟨g, off, cap, cur, rfl, hg, r⟩
  · exact .inl hn
  · exact .inr ⟨g, off, cap, cur, rfl, (hb g rfl).trans hg, r⟩
theorem Own.kept {L : List Nat} (h : Own w e size v n xs) (hk : Kept L w w') (hn : ∀ k, v.ownBlock = some k → k ∉ L) : Own w' e size v n xs :=
  h.of_eq fun k hb => hk.block k (h.blk k hb).1 (hn k hb)
theorem Own.alloc (h : Own w e size v n xs) (o : Obj) : Own (w.alloc o) e size v n xs := h.of_eq fun k hb => Below.heap_alloc w o k (h.blk k hb).1
theorem Own.drewN (h : Own w e size v n xs) (k : Nat) : Own (w.drewN k) e size v n xs := h
theorem Own.drew (h : Own w e size v n xs) : Own w.drew e size v n xs := h
theorem Own.rds {A : Option Addr} {c : Nat} (h : Own w e size (.slice A n c) n xs) : Rds w w.heap.size size A n xs := by
  refine ⟨h.1, fun hn => ?_⟩
  rcases h.2 with ⟨_, h0⟩ | ⟨g, off, cap, cur, hv, hg, _, _, _, hc⟩
  · omega
  · injection hv with hA
    refine ⟨g, off, hA, (Array.getElem?_eq_some_iff.1 hg).1, fun j u hu => ?_⟩
    rw [cell_of_row w g (off + j) cur e (0, 0) hg]
    exact hc j u hu
theorem Own.cut {A : Option Addr} {c : Nat} (h : Own w e size (.slice A n c) n xs) {k : Nat} (hk : k ≤ n) :
    Own w e size (.slice (if c = k then A else A.map (·.add (k * size))) (n - k) (c - k)) (n - k) (xs.drop (k * size)) := by
  refine ⟨by rw [List.length_drop, h.1, Nat.sub_mul], ?_⟩
  rcases h.2 with ⟨hv, h0⟩ | ⟨g, off, cap, cur, hv, hg, hnc, hcm, hcs, hc⟩
  · injection hv with h1 h2 h3
    subst h1 h2 h3
    exact .inl ⟨by simp, by omega⟩
  · injection hv with h1 h2 h3
    subst h1 h3
    by_cases hck : c = k
    · rw [if_pos hck]
      refine .inr ⟨g, off, c - k, cur, rfl, hg, by omega, by omega, ?_, fun j u hu => ?_⟩
      · rw [Nat.sub_mul]; omega
      · have : xs.drop (k * size) = [] := by
          apply List.drop_eq_nil_of_le
          rw [h.1]
          exact Nat.mul_le_mul_right _ (by omega)
        rw [this] at hu
        simp at hu
    · rw [if_neg hck]
      refine .inr ⟨g, off + k * size, c - k, cur, by simp [add_none], hg, by omega, by omega, ?_, fun j u hu => ?_⟩
      · rw [Nat.sub_mul]
        have : k * size ≤ c * size := Nat.mul_le_mul_right _ (by omega)
        omega
      · rw [Nat.add_assoc]
        exact hc _ u (by rw [← hu, List.getElem?_drop])
theorem Own.head {A : Option Addr} {c : Nat} (h : Own w e size (.slice A n c) n xs) {k : Nat} (hk : k ≤ n) : Own w e size (.slice A k c) k (xs.take (k * size)) := by
  have hkn : k * size ≤ n * size := Nat.mul_le_mul_right _ hk
  refine ⟨by rw [List.length_take, h.1, Nat.min_eq_left hkn], ?_⟩
  rcases h.2 with ⟨hv, h0⟩ | ⟨g, off, cap, cur, hv, hg, hnc, hcm, hcs, hc⟩
  · injection hv with h1 h2 h3
    subst h1 h3
    obtain rfl : k = 0 := by omega
    exact .inl ⟨rfl, rfl⟩
  · injection hv with h1 h2 h3
    subst h1 h3
    refine .inr ⟨g, off, c, cur, rfl, hg, by omega, hcm, hcs, fun j u hu => hc j u ?_⟩
    by_cases hj : j < k * size
    · rwa [List.getElem?_take, if_pos hj] at hu
    · rw [List.getElem?_take, if_neg hj] at hu; cases hu
end

/-! ### append onto it -/
section
variable {P : Program} (w : World)
theorem append_own (t ty e : TypeId) (i : TypeInfo) (z : Value) (size bytes : Nat) (ht : P.underlying t = some (.slice e)) (hi : P.info? e = some i) (hz : i.zero = some z)
    (hsize : i.size = size) (hby : i.bytes = bytes) (hzs : z.cells.size = size) (hsz : 0 < size)
    (v : Value) (n : Nat) (xs : List Value) (hown : Own w e size v n xs)
    (B : Nat) (A : Option Addr) (m c : Nat) (news : List Value) (hr : Rds w B size A m news) (h1 : ∀ u ∈ news, u.oneCell' = true)
    (h63 : n + m ≤ maxLen) (hbytes : (n + m) * bytes ≤ 140737488355328) :
    ∃ v' w', (Builtin.append_ #[t, t] ty #[v, .slice A m c]).run P w = .ok v' w' ∧ Own w' e size v' (n + m) (xs ++ news) ∧ Kept v.ownBlock.toList w w' ∧
      (∀ k, v'.ownBlock = some k → v.ownBlock = some k ∨ w.heap.size ≤ k) := by
  rcases hown.2 with ⟨rfl, rfl⟩ | ⟨g, off, cap, cur, rfl, hg, hnc, hcm, hcs, hc⟩
  · have hx : xs = [] := List.eq_nil_of_length_eq_zero (by simpa using hown.1)
    subst hx
    obtain ⟨v', w', hrun, ho, hgr, hat⟩ := run_append_rds (P := P) w w.heap.size t ty e i z size bytes ht hi hz hsize hby hzs hsz (.slice none 0 0) 0 [] (World.ownsRow_nil _ _ _ _) B A m c news hr (fun _ => by cases A <;> simp) h1 h63 hbytes (Nat.le_refl _)
    exact ⟨v', w', hrun, Own.of_row ho, grown_kept hgr, fun k hk => .inr (ho.lt k hk).1⟩
  · rcases A with _ | ad
    · have hm : m = 0 := by
        rcases Nat.eq_zero_or_pos m with h0 | h0
        · exact h0
        · obtain ⟨b, off, h, _⟩ := hr.2 h0
          cases h
      subst hm
      have hn : news = [] := List.eq_nil_of_length_eq_zero (by simpa using hr.1)
      subst hn
      refine ⟨_, w, ?_, by simpa using hown, Kept.refl _ _, fun k hk => .inl hk⟩
      simp [Builtin.append_, run_underlying ht, sizeOf, typeInfo, hi, Builtin.lenOf, Builtin.firstCells, hnc, storeCells]
    · have hnews : ∀ j u, news[j]? = some u → w.cell? (ad.add j) = some u := by
        intro j u hu
        rcases Nat.eq_zero_or_pos m with h0 | h0
        · subst h0
          have hn : news = [] := List.eq_nil_of_length_eq_zero (by simpa using hr.1)
          subst hn
          simp at hu
        · obtain ⟨b, off, h, _, hcc⟩ := hr.2 h0
          injection h with h
          subst h
          rw [add_none]
          exact hcc j u hu
      have hlen : news.length = m * size := hr.1
      by_cases hroom : n + m ≤ cap
      · have hmul : n * size + m * size ≤ cap * size := by rw [← Nat.add_mul]; exact Nat.mul_le_mul_right _ hroom
        subst hsize
        have hcell : ∀ j, j < news.length → w.cell? ⟨g, off + n * i.size + j, none⟩ = cur[off + n * i.size + j]? := fun j hj => cell_of_row w g _ cur e (0, 0) hg
        have hrun := run_append_room_cells (P := P) w t ty e i ht hi g off n cap ad m c news hlen hnews h1 hroom
          (fun j hj => by rw [hcell j hj, Array.getElem?_eq_getElem (by omega)]; rfl) (fun j hj => by simp [World.frozen?, hg])
        obtain ⟨cur', a1, a2, a3, a4⟩ := setCells_block g news (off + n * i.size) w cur e (0, 0) hg
        obtain ⟨b1, b2, b3, b4⟩ := setCells_facts g news (off + n * i.size) w
        refine ⟨_, _, hrun, ⟨by rw [List.length_append, hown.1, hlen, Nat.add_mul], .inr ⟨g, off, cap, cur', rfl, a1, hroom, hcm, by omega, fun j u hu => ?_⟩⟩,
          ⟨b1, b2, b3, by omega, fun k hk hn => setCells_other g _ _ w k (by simpa [Value.ownBlock] using hn)⟩, fun k hk => .inl hk⟩
        rcases Nat.lt_or_ge j xs.length with hj | hj
        · rw [List.getElem?_append_left hj] at hu
          rw [a3 _ (by have := hown.1; omega)]
          exact hc j u hu
        · rw [List.getElem?_append_right hj] at hu
          have hj2 : j - xs.length < news.length := by
            rcases Nat.lt_or_ge (j - xs.length) news.length with h | h
            · exact h
            · rw [List.getElem?_eq_none h] at hu; cases hu
          have := a4 (j - xs.length) u hu (by have := hown.1; omega)
          rw [show off + n * i.size + (j - xs.length) = off + j from by have := hown.1; omega] at this
          exact this
      · have holds : ∀ j u, xs[j]? = some u → w.cell? ((⟨g, off, none⟩ : Addr).add j) = some u := fun j u hu => by
          rw [add_none, cell_of_row w g (off + j) cur e (0, 0) hg]
          exact hc j u hu
        obtain ⟨v', w', hrun, ho, hgr⟩ := run_append_arg_grows (P := P) w t ty e i z size bytes ht hi hz hsize hby hzs hsz ⟨g, off, none⟩ n cap xs hown.1 holds ad m c news hlen hnews (by omega) h63 hbytes
        exact ⟨v', w', hrun, Own.of_row ho, (grown_kept hgr).mono (by simp), fun k hk => .inr (ho.lt k hk).1⟩

theorem wp_append_own {o : Oper} {a : Act} {K : Act → World → Prop} {Q : Exit → Act → World → Prop} (s x : Operand) (t : TypeId)
    (ho : o.op = .call { callee := .builtin .append, args := #[s, x], argTypes := #[t, t] })
    (e : TypeId) (i : TypeInfo) (z : Value) (size bytes : Nat) (ht : P.underlying t = some (.slice e)) (hi : P.info? e = some i) (hz : i.zero = some z)
    (hsize : i.size = size) (hby : i.bytes = bytes) (hzs : z.cells.size = size) (hsz : 0 < size)
    (v : Value) (n : Nat) (xs : List Value) (hs : a.eval s = v) (hown : Own w e size v n xs)
    (B : Nat) (A : Option Addr) (m c : Nat) (news : List Value) (hx : a.eval x = .slice A m c) (hr : Rds w B size A m news) (h1 : ∀ u ∈ news, u.oneCell' = true)
    (h63 : n + m ≤ maxLen) (hbytes : (n + m) * bytes ≤ 140737488355328)
    (h : ∀ v' w', Own w' e size v' (n + m) (xs ++ news) → Kept v.ownBlock.toList w w' → (∀ k, v'.ownBlock = some k → v.ownBlock = some k ∨ w.heap.size ≤ k) → K (a.put o.dst v') w') : o.wp P a w K Q := by
  obtain ⟨v', w', hrun, h2, h3, h4⟩ := append_own (P := P) w t o.type e i z size bytes ht hi hz hsize hby hzs hsz v n xs hown B A m c news hr h1 h63 hbytes
  unfold Oper.wp execOp
  simp only [ho, resolve, invoke, builtin, Sem.run_bind, Sem.run_pure, Result.andThen_ok, List.map_toArray, List.map_cons, List.map_nil, hs, hx, hrun]
  exact h v' w' h2 h3 h4
theorem wpList_append_own' {ops : Array Oper} {rest : List Oper} {o : Oper} {a : Act} {Q : Exit → Act → World → Prop} (hgd : o.guard = none) (s x : Operand) (t : TypeId)
    (ho : o.op = .call { callee := .builtin .append, args := #[s, x], argTypes := #[t, t] })
    (e : TypeId) (i : TypeInfo) (z : Value) (size bytes : Nat) (ht : P.underlying t = some (.slice e)) (hi : P.info? e = some i) (hz : i.zero = some z)
    (hsize : i.size = size) (hby : i.bytes = bytes) (hzs : z.cells.size = size) (hsz : 0 < size)
    (v : Value) (n : Nat) (xs : List Value) (hs : a.eval s = v) (hown : Own w e size v n xs)
    (B : Nat) (A : Option Addr) (m c : Nat) (news : List Value) (hx : a.eval x = .slice A m c) (hr : Rds w B size A m news) (h1 : ∀ u ∈ news, u.oneCell' = true)
    (h63 : n + m ≤ maxLen) (hbytes : (n + m) * bytes ≤ 140737488355328)
    (h : ∀ v' w', Own w' e size v' (n + m) (xs ++ news) → Kept v.ownBlock.toList w w' → (∀ k, v'.ownBlock = some k → v.ownBlock = some k ∨ w.heap.size ≤ k) → wpList P ops Q rest (a.put o.dst v') w') : wpList P ops Q (o :: rest) a w :=
  wpList_plain hgd fun _ hK => wp_append_own w s x t ho e i z size bytes ht hi hz hsize hby hzs hsz v n xs hs hown B A m c news hx hr h1 h63 hbytes fun v' w' h2 h3 h4 => hK _ _ (h v' w' h2 h3 h4)
theorem step_append_own {ops : Array Oper} {o : Oper} {a : Act} {K : Act → World → Prop} {Q : Exit → Act → World → Prop} {E : Prop} (hgd : o.guard = none) (s x : Operand) (t : TypeId)
    (ho : o.op = .call { callee := .builtin .append, args := #[s, x], argTypes := #[t, t] })
    (e : TypeId) (i : TypeInfo) (z : Value) (size bytes : Nat) (ht : P.underlying t = some (.slice e)) (hi : P.info? e = some i) (hz : i.zero = some z)
    (hsize : i.size = size) (hby : i.bytes = bytes) (hzs : z.cells.size = size) (hsz : 0 < size)
    (v : Value) (n : Nat) (xs : List Value) (hs : a.eval s = v) (hown : Own w e size v n xs)
    (B : Nat) (A : Option Addr) (m c : Nat) (news : List Value) (hx : a.eval x = .slice A m c) (hr : Rds w B size A m news) (h1 : ∀ u ∈ news, u.oneCell' = true)
    (h63 : n + m ≤ maxLen) (hbytes : (n + m) * bytes ≤ 140737488355328)
    (h : ∀ v' w', Own w' e size v' (n + m) (xs ++ news) → Kept v.ownBlock.toList w w' → (∀ k, v'.ownBlock = some k → v.ownBlock = some k ∨ w.heap.size ≤ k) → K (a.put o.dst v') w') :
    if Region.wanted o (yielded ops a.tmps) = true then Oper.wp P o a w K Q else E := by
  have hw : Region.wanted o (yielded ops a.tmps) = true := by simp [Region.wanted, hgd]
  rw [if_pos hw]
  exact wp_append_own w s x t ho e i z size bytes ht hi hz hsize hby hzs hsz v n xs hs hown B A m c news hx hr h1 h63 hbytes h
/-- a value just boxed shows its cells -/
theorem Rds.boxed (w : World) (cs : Array Value) (e : TypeId) (size : Nat) (h : cs.size = size) : Rds (w.alloc (.cells cs e)) (w.heap.size + 1) size (some ⟨w.heap.size, 0, none⟩) 1 cs.toList :=
  ⟨by simp [h], fun _ => ⟨w.heap.size, 0, rfl, by omega, fun j u hu => by rw [Nat.zero_add, World.cell?_alloc_new]; simpa using hu⟩⟩
end

/-! ### blocks that nobody writes: all below B, and those whose cells are of a type in E -/
def Typ (w : World) (k : Nat) (E : List TypeId) : Prop := ∃ cs e f, w.heap[k]? = some (.cells cs e f) ∧ e ∈ E
structure Same (E : List TypeId) (B : Nat) (w w' : World) : Prop where
  os : w'.os = w.os
  tape : w'.tape = w.tape
  output : w'.output = w.output
  size : w.heap.size ≤ w'.heap.size
  block : ∀ k, k < w.heap.size → (k < B ∨ Typ w k E) → w'.heap[k]? = w.heap[k]?
section
variable {E : List TypeId} {B : Nat} {w w' w'' : World}
theorem Typ.lt {k : Nat} (h : Typ w k E) : k < w.heap.size := by obtain ⟨cs, e, f, h, _⟩ := h; exact (Array.getElem?_eq_some_iff.1 h).1
theorem Typ.of_eq {k : Nat} (h : Typ w k E) (hk : w'.heap[k]? = w.heap[k]?) : Typ w' k E := by obtain ⟨cs, e, f, h, he⟩ := h; exact ⟨cs, e, f, hk.trans h, he⟩
theorem Same.refl (E : List TypeId) (B : Nat) (w : World) : Same E B w w := ⟨rfl, rfl, rfl, Nat.le_refl _, fun _ _ _ => rfl⟩
theorem Same.trans (h : Same E B w w') (k : Same E B w' w'') : Same E B w w'' :=
  ⟨k.os.trans h.os, k.tape.trans h.tape, k.output.trans h.output, Nat.le_trans h.size k.size, fun i hi hc => by
    have e1 := h.block i hi hc
    refine (k.block i (Nat.lt_of_lt_of_le hi h.size) ?_).trans e1
    rcases hc with hc | hc
    · exact .inl hc
    · exact .inr (hc.of_eq e1)⟩
theorem Same.of_kept {L : List Nat} (h : Kept L w w') (hL : ∀ x ∈ L, x < w.heap.size → B ≤ x ∧ ¬ Typ w x E) : Same E B w w' :=
  ⟨h.os, h.tape, h.output, h.size, fun k hk hc => h.block k hk fun hx => by
    have := hL k hx hk
    rcases hc with hc | hc
    · omega
    · exact this.2 hc⟩
theorem Same.of_below (h : Below w.heap.size w w') : Same E B w w' := ⟨h.os, h.tape, h.output, h.size, fun k hk _ => h.block k hk⟩
theorem Same.below (h : Same E B w w') (hB : B ≤ w.heap.size) : Below B w w' := ⟨h.os, h.tape, h.output, h.size, fun k hk => h.block k (by omega) (.inl hk)⟩
theorem Same.drewN (h : Same E B w w') (n : Nat) : Same E B w (w'.drewN n) := ⟨h.os, h.tape, h.output, h.size, h.block⟩
theorem Same.drew (h : Same E B w w') : Same E B w w'.drew := ⟨h.os, h.tape, h.output, h.size, h.block⟩
theorem Same.alloc (h : Same E B w w') (o : Obj) : Same E B w (w'.alloc o) := h.trans (.of_kept ((Kept.refl [] _).alloc o) (by simp))
theorem not_typ_of {k : Nat} {cs : Array Value} {e : TypeId} {f : Nat × Nat} (h : w.heap[k]? = some (.cells cs e f)) (he : e ∉ E) : ¬ Typ w k E := by
  rintro ⟨cs', e', f', h', he'⟩
  rw [h] at h'
  injection h' with h'
  injection h' with _ h2 _
  exact he (h2 ▸ he')
theorem not_typ_map {k : Nat} {es : Array MapEntry} {c : Nat} (h : w.heap[k]? = some (.map es c)) : ¬ Typ w k E := by
  rintro ⟨cs', e', f', h', he'⟩
  rw [h] at h'
  cases h'
theorem not_typ_ge {k : Nat} (h : w.heap.size ≤ k) : ¬ Typ w k E := fun ht => by have := ht.lt; omega
end

/-! ### byte slices -/
def u8 (x : UInt8) : Value := .int .u8 (x.toNat : Int)
/-- The slice at A, of n bytes, reads as l, in a block that nobody writes. -/
def Bs (E : List TypeId) (B : Nat) (w : World) (A : Option Addr) (n : Nat) (l : List UInt8) : Prop :=
  l.length = n ∧ (0 < n → ∃ b off, A = some ⟨b, off, none⟩ ∧ b < w.heap.size ∧ (b < B ∨ Typ w b E) ∧ ∀ j x, l[j]? = some x → w.cell? ⟨b, off + j, none⟩ = some (u8 x))
section
variable {E : List TypeId} {B : Nat} {w w' : World} {A : Option Addr} {n : Nat} {l : List UInt8}
theorem Bs.nil (E : List TypeId) (B : Nat) (w : World) (A : Option Addr) : Bs E B w A 0 [] := ⟨rfl, fun h => absurd h (by omega)⟩
theorem Bs.same (h : Bs E B w A n l) (hs : Same E B w w') : Bs E B w' A n l :=
  ⟨h.1, fun hn => by
    obtain ⟨b, off, e, hb, ht, hc⟩ := h.2 hn
    have e1 := hs.block b hb ht
    refine ⟨b, off, e, Nat.lt_of_lt_of_le hb hs.size, ?_, fun j x hx => (World.cell?_of_block (w := w) (a := ⟨b, off + j, none⟩) e1).trans (hc j x hx)⟩
    rcases ht with ht | ht
    · exact .inl ht
    · exact .inr (ht.of_eq e1)⟩
theorem Bs.more {B' : Nat} (h : Bs E B w A n l) (hB : B ≤ B') : Bs E B' w A n l :=
  ⟨h.1, fun hn => by
    obtain ⟨b, off, e, hb, ht, hc⟩ := h.2 hn
    exact ⟨b, off, e, hb, ht.imp (fun h => by omega) id, hc⟩⟩
theorem Bs.drew (h : Bs E B w A n l) : Bs E B w.drew A n l := h
theorem Bs.drewN (h : Bs E B w A n l) (k : Nat) : Bs E B (w.drewN k) A n l := h
theorem Bs.rds (h : Bs E B w A n l) : Rds w w.heap.size 1 A n (l.map u8) := by
  refine ⟨by simp [h.1], fun hn => ?_⟩
  obtain ⟨b, off, e, hb, _, hc⟩ := h.2 hn
  refine ⟨b, off, e, hb, fun j u hu => ?_⟩
  simp only [List.getElem?_map, Option.map_eq_some_iff] at hu
  obtain ⟨x, hx, rfl⟩ := hu
  exact hc j x hx
theorem Bs.of_own {e : TypeId} {c : Nat} (h : Own w e 1 (.slice A n c) n (l.map u8)) (he : e ∈ E) : Bs E B w A n l := by
  refine ⟨by have := h.1; simpa using this, fun hn => ?_⟩
  rcases h.2 with ⟨_, h0⟩ | ⟨g, off, cap, cur, hv, hg, _, _, _, hc⟩
  · omega
  · injection hv with hA
    refine ⟨g, off, hA, (Array.getElem?_eq_some_iff.1 hg).1, .inr ⟨cur, e, _, hg, he⟩, fun j x hx => ?_⟩
    rw [cell_of_row w g (off + j) cur e (0, 0) hg]
    exact hc j _ (by simp [hx])
theorem u8_one : ∀ u ∈ l.map u8, u.oneCell' = true := fun u hu => by
  simp at hu
  obtain ⟨x, _, rfl⟩ := hu
  rfl
/-- 'string(b)' -/
theorem Bs.conv {P : Program} {src dst e : TypeId} {c : Nat} (h : Bs E B w A n l) (hs : P.underlying src = some (.slice e)) (he : P.underlying e = some (.int .u8)) (hd : P.underlying dst = some .string) :
    (convert src dst (.slice A n c)).run P w = .ok (.string ⟨l.toArray⟩) w := by
  have key : ∀ l : List UInt8, strOfNums (l.map fun x => (x.toNat : Int)) = ⟨l.toArray⟩ := fun l => by
    unfold strOfNums
    congr 1
    simp [List.map_map, Function.comp_def]
  rcases Nat.eq_zero_or_pos n with h0 | h0
  · subst h0
    have hl : l = [] := List.eq_nil_of_length_eq_zero h.1
    subst hl
    rw [run_convert_bytes_string w src dst e A 0 c hs he hd]
    cases A with
    | none => simp [Conv.bytesToString]; rfl
    | some a =>
      rw [run_bytesToString w a 0 c [] (by simp [loadCells, loadCellsFrom])]
      rfl
  · obtain ⟨b, off, rfl, _, _, hc⟩ := h.2 h0
    rw [run_convert_bytes_arg (P := P) w src e hs he b off n c (l.map fun x => (x.toNat : Int)) (by simp [h.1]) (fun i hi => ?_) dst hd, key]
    have hl : i < l.length := by have := h.1; omega
    rw [hc i l[i] (by simp [hl])]
    simp [u8, List.getD_eq_getElem?_getD, hl]
end

/-! ### a row of structs, read as a list -/
def Seq {M : Type} (size : Nat) (rel : List Value → M → Prop) (xs : List Value) (ms : List M) : Prop :=
  xs.length = ms.length * size ∧ ∀ i m, ms[i]? = some m → rel ((xs.drop (i * size)).take size) m
section
variable {M : Type} {size : Nat} {rel rel' : List Value → M → Prop} {xs ys : List Value} {ms ns : List M}
theorem Seq.nil (size : Nat) (rel : List Value → M → Prop) : Seq size rel [] [] := ⟨by simp, fun i m h => by simp at h⟩
theorem Seq.imp (h : Seq size rel xs ms) (hr : ∀ cs m, rel cs m → rel' cs m) : Seq size rel' xs ms := ⟨h.1, fun i m hm => hr _ _ (h.2 i m hm)⟩
theorem Seq.append (h : Seq size rel xs ms) (k : Seq size rel ys ns) : Seq size rel (xs ++ ys) (ms ++ ns) := by
  refine ⟨by rw [List.length_append, List.length_append, h.1, k.1, Nat.add_mul], fun i m hm => ?_⟩
  rcases Nat.lt_or_ge i ms.length with hi | hi
  · rw [List.getElem?_append_left hi] at hm
    have := h.2 i m hm
    have hle : i * size + size ≤ xs.length := by
      rw [h.1]
      calc i * size + size = (i + 1) * size := by rw [Nat.add_mul, Nat.one_mul]
        _ ≤ ms.length * size := Nat.mul_le_mul_right _ hi
    rw [List.drop_append_of_le_length (by omega), List.take_append_of_le_length (by rw [List.length_drop]; omega)]
    exact this
  · rw [List.getElem?_append_right hi] at hm
    have := k.2 _ m hm
    have e : (xs ++ ys).drop (i * size) = ys.drop ((i - ms.length) * size) := by
      rw [List.drop_append, List.drop_eq_nil_of_le (by rw [h.1]; exact Nat.mul_le_mul_right _ hi), List.nil_append, h.1, Nat.sub_mul]
    rw [e]
    exact this
theorem Seq.drop (h : Seq size rel xs ms) (k : Nat) : Seq size rel (xs.drop (k * size)) (ms.drop k) := by
  refine ⟨by rw [List.length_drop, List.length_drop, h.1, Nat.sub_mul], fun i m hm => ?_⟩
  rw [List.getElem?_drop] at hm
  have := h.2 _ m hm
  rw [List.drop_drop, ← Nat.add_mul]
  exact this
theorem Seq.take (h : Seq size rel xs ms) {k : Nat} (hk : k ≤ ms.length) : Seq size rel (xs.take (k * size)) (ms.take k) := by
  have hle : k * size ≤ ms.length * size := Nat.mul_le_mul_right _ hk
  refine ⟨by rw [List.length_take, List.length_take, h.1, Nat.min_eq_left hk, Nat.min_eq_left hle], fun i m hm => ?_⟩
  have hi : i < k := by
    rcases Nat.lt_or_ge i k with hi | hi
    · exact hi
    · rw [List.getElem?_take, if_neg (by omega)] at hm; cases hm
  rw [List.getElem?_take, if_pos hi] at hm
  have := h.2 i m hm
  have hle2 : i * size + size ≤ k * size := by
    calc i * size + size = (i + 1) * size := by rw [Nat.add_mul, Nat.one_mul]
      _ ≤ k * size := Nat.mul_le_mul_right _ hi
  rw [List.drop_take, List.take_take, Nat.min_eq_left (by omega)]
  exact this
theorem Seq.one {cs : List Value} {m : M} (hl : cs.length = size) (h : rel cs m) : Seq size rel cs [m] :=
  ⟨by simp [hl], fun i n hn => by
    match i, hn with
    | 0, hn =>
      simp at hn
      subst hn
      simpa [← hl] using h⟩
/-- the j-th cell of the i-th element -/
theorem Seq.at_ (h : Seq size rel xs ms) {i : Nat} {m : M} (hm : ms[i]? = some m) : ∃ cs, rel cs m ∧ ∀ j u, cs[j]? = some u → xs[i * size + j]? = some u :=
  ⟨_, h.2 i m hm, fun j u hu => by
    rw [List.getElem?_take] at hu
    split at hu
    · rw [List.getElem?_drop] at hu; exact hu
    · cases hu⟩
end

/-! ### blocks known whole, behind a callee that makes memory -/
section
variable {w w' : World} {g : Nat} {t : TypeId} {cs : Array Value}
theorem Blk.below {B : Nat} (h : Blk w g t cs) (hb : Below B w w') (hg : g < B) : Blk w' g t cs := (hb.block g hg).trans h
theorem Blk.same {E : List TypeId} {B : Nat} (h : Blk w g t cs) (hs : Same E B w w') (ht : t ∈ E) : Blk w' g t cs := (hs.block g h.lt (.inr ⟨cs, t, _, h, ht⟩)).trans h
theorem Blk.not_typ {E : List TypeId} (h : Blk w g t cs) (ht : t ∉ E) : ¬ Typ w g E := not_typ_of h ht
theorem Blk.c0 (h : Blk w g t cs) (h0 : 0 < cs.size) : w.cell? ⟨g, 0, none⟩ = some cs[0] := h.cell_ (by simp [h0])
theorem Below.keep0 {L : List Nat} (h : Below w.heap.size w w') : Kept L w w' := Kept.of_below h L
theorem Kept.below0 (h : Kept [] w w') : Below w.heap.size w w' := h.below (by simp) (Nat.le_refl _)
end

/-! ### a function whose result lies in a cell of its own -/
section
variable {P : Program} {fn : Func} {R : Ending → World → Prop} {a : Act} {w : World} {p u ty : Nat}
theorem ret_cell (h : fn.results = #[.cell p ty]) {g : Nat} {cs : Array Value} {t : TypeId} (d : TypeDesc) (hp : a.tmps.getD p undef = .pointer (some ⟨g, 0, none⟩)) (hg : Blk w g t cs)
    (hu : P.underlying ty = some d) (hd : (match d with | .struct _ | .array _ _ => true | _ => false) = true) (hi : (P.info? ty).map (·.size) = some cs.size) (hdef : a.defers = [])
    (hR : R (.returned (.agg cs)) w) : bodyPost P fn R .ret a w := by
  refine bodyPost_ret (v := .agg cs) ?_ hdef hR
  have hl := run_loadVar_row (P := P) w g t ty cs (0, 0) d hg hu hd hi
  have hp' : a.tmps[p]?.getD undef = .pointer (some ⟨g, 0, none⟩) := by simpa using hp
  simp [results, h, hp', asAddr, Sem.run_bind, Result.andThen, hl]
theorem ret_cell_tmp (h : fn.results = #[.cell p ty, .tmp u]) {g : Nat} {cs : Array Value} {t : TypeId} {v : Value} (d : TypeDesc) (hp : a.tmps.getD p undef = .pointer (some ⟨g, 0, none⟩)) (hv : a.tmps.getD u undef = v) (hg : Blk w g t cs)
    (hu : P.underlying ty = some d) (hd : (match d with | .struct _ | .array _ _ => true | _ => false) = true) (hi : (P.info? ty).map (·.size) = some cs.size) (hdef : a.defers = [])
    (hR : R (.returned (.tuple #[.agg cs, v])) w) : bodyPost P fn R .ret a w := by
  refine bodyPost_ret (v := .tuple #[.agg cs, v]) ?_ hdef hR
  have hl := run_loadVar_row (P := P) w g t ty cs (0, 0) d hg hu hd hi
  rw [results_cell_tmp h, hp, hv]
  simp [asAddr, Result.andThen, hl]
end
section
variable {w w' : World} {g : Nat} {t : TypeId} {L : List Nat} {a b c d v0 v1 v2 v3 : Value}
theorem Blk.set4 (h : Blk w g t #[a, b, c, d]) : Blk ((((w.setCell ⟨g, 0, none⟩ v0).setCell ⟨g, 1, none⟩ v1).setCell ⟨g, 2, none⟩ v2).setCell ⟨g, 3, none⟩ v3) g t #[v0, v1, v2, v3] := by
  simpa using (((h.set_ 0 v0).set_ 1 v1).set_ 2 v2).set_ 3 v3
theorem Kept.set4 (h : Kept L w w') (hg : g < w.heap.size → g ∈ L) : Kept L w ((((w'.setCell ⟨g, 0, none⟩ v0).setCell ⟨g, 1, none⟩ v1).setCell ⟨g, 2, none⟩ v2).setCell ⟨g, 3, none⟩ v3) :=
  (((h.setCell hg v0).setCell hg v1).setCell hg v2).setCell hg v3
theorem Blk.set3 (h : Blk w g t #[a, b, c]) : Blk (((w.setCell ⟨g, 0, none⟩ v0).setCell ⟨g, 1, none⟩ v1).setCell ⟨g, 2, none⟩ v2) g t #[v0, v1, v2] := by
  simpa using ((h.set_ 0 v0).set_ 1 v1).set_ 2 v2
theorem Kept.set3 (h : Kept L w w') (hg : g < w.heap.size → g ∈ L) : Kept L w (((w'.setCell ⟨g, 0, none⟩ v0).setCell ⟨g, 1, none⟩ v1).setCell ⟨g, 2, none⟩ v2) :=
  ((h.setCell hg v0).setCell hg v1).setCell hg v2
end
end Go.Hub
