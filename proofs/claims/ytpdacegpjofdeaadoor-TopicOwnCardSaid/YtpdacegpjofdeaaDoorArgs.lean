/- Helps of our own: what an argument reads as. A slice of whatever elements, given how one element reads; byte slices; structs field by field. -/
import Derived.Test.YtpdacegpjofdeaaDoorMem
import Derived.Deep.Slices
import Derived.Deep.Fields
import Derived.ProofKit
set_option linter.all false
namespace Go.Hub
open Go.RowKit Go.ChangeShapes Go.WideShapes Go.Deep

section
variable {H : Type} {enc : TypeId × Value → H} {P : Program} {w : World} {spare : Nat → Bool} {held : Bool}
theorem spot0 {b off : Nat} {s : Option Nat} {v : Value} (h : w.cell? ⟨b, off, s⟩ = some v) : s = none := World.cell?_spot h

/-- A slice, each of whose elements reads (by 'hel') as some m. -/
theorem open_seq {M : Type} {t e size : Nat} {v : Value} {d : DataW H} {p : List MemPlace} {rel : List Value → M → Prop} (hsz : P.cellsOf e = size) (hpos : 0 < size) (ht : P.underlying t = some (.slice e))
    (hv : ∃ a len cap, v = .slice a len cap) (h : DataW.Trod enc P w 0 spare held t v d p) (hel : ∀ n cs y, DataW.trod enc P w 0 spare held n e cs = some y → ∃ m, rel cs m) :
    ∃ A len cap xs ms, v = .slice A len cap ∧ len ≤ cap ∧ cap ≤ maxLen ∧ ms.length = len ∧ Rds w w.heap.size size A len xs ∧ Seq size rel xs ms := by
  obtain ⟨a, len, cap, rfl⟩ := hv
  obtain ⟨fuel, hf⟩ := h
  rcases open_slice ht hf with ⟨hcs, _⟩ | ⟨a', len', cap', m, n, D, Pl, hcs, _, hl, hm, hmm, _, hi⟩
  · simp [Value.cells] at hcs
    obtain ⟨rfl, rfl, rfl⟩ := hcs
    exact ⟨none, 0, 0, [], [], rfl, Nat.le_refl _, by simp [maxLen], rfl, Rds.nil _ _ _ _, Seq.nil _ _⟩
  · simp [Value.cells] at hcs
    obtain ⟨rfl, rfl, rfl⟩ := hcs
    obtain ⟨b, off, s⟩ := a'
    have hlm : len ≤ m := by rw [hmm]; split <;> omega
    have key : ∀ k, k ≤ len → ∃ xs ms, ms.length = k ∧ Seq size rel xs ms ∧ (0 < k → s = none ∧ b < w.heap.size ∧ ∀ j u, xs[j]? = some u → w.cell? ⟨b, off + j, none⟩ = some u) := by
      intro k
      induction k with
      | zero => exact fun _ => ⟨[], [], rfl, Seq.nil _ _, fun h => absurd h (by omega)⟩
      | succ k ih =>
        intro hk
        obtain ⟨xs, ms, h1, h2, h3⟩ := ih (by omega)
        obtain ⟨cs', hc, htr⟩ := hi k (by omega)
        rw [hsz] at hc
        obtain ⟨_, hcl, hat⟩ := World.cells?_some hc
        obtain ⟨mm, hmm'⟩ := hel _ _ _ htr
        have hs : s = none ∧ b < w.heap.size := by
          rcases Nat.eq_zero_or_pos k with h0 | h0
          · subst h0
            have h00 := hat 0 hpos
            have e0 : cs'[0]? = some (cs'[0]'(by omega)) := List.getElem?_eq_getElem (by omega)
            rw [e0, Nat.zero_mul] at h00
            have h01 : w.cell? ⟨b, off, s⟩ = some (cs'[0]'(by omega)) := by simpa [Addr.add] using h00
            exact ⟨spot0 h01, World.block_lt_of_cell? w _ h01⟩
          · exact ⟨(h3 h0).1, (h3 h0).2.1⟩
        obtain ⟨rfl, hbw⟩ := hs
        refine ⟨xs ++ cs', ms ++ [mm], by simp [h1], h2.append (Seq.one hcl hmm'), fun _ => ⟨rfl, hbw, fun j u hu => ?_⟩⟩
        rcases Nat.lt_or_ge j xs.length with hj | hj
        · rw [List.getElem?_append_left hj] at hu
          have hk0 : 0 < k := by
            rcases Nat.eq_zero_or_pos k with h0 | h0
            · have := h2.1; rw [h1, h0] at this; omega
            · exact h0
          exact (h3 hk0).2.2 j u hu
        · rw [List.getElem?_append_right hj] at hu
          have hlt : j - xs.length < cs'.length := by
            rcases Nat.lt_or_ge (j - xs.length) cs'.length with h | h
            · exact h
            · rw [List.getElem?_eq_none h] at hu; cases hu
          have := hat (j - xs.length) (by omega)
          rw [hu, add_none, add_none] at this
          have e1 := h2.1
          rw [h1] at e1
          rw [show off + k * size + (j - xs.length) = off + j from by omega] at this
          exact this
    obtain ⟨xs, ms, h1, h2, h3⟩ := key len (Nat.le_refl _)
    refine ⟨_, len, cap, xs, ms, rfl, hl, hm, h1, ⟨by rw [h2.1, h1], fun hp => ?_⟩, h2⟩
    obtain ⟨rfl, hb, hc⟩ := h3 hp
    exact ⟨b, off, rfl, hb, hc⟩

/-- A byte slice. -/
theorem open_bytes {t e n : Nat} {cs : List Value} {y : DataW H × List MemPlace} (E : List TypeId) (ht : P.underlying t = some (.slice e)) (he : P.underlying e = some (.int .u8)) (hsz : P.cellsOf e = 1)
    (h : DataW.trod enc P w 0 spare held n t cs = some y) : ∃ A c l, cs = [.slice A l.length c] ∧ l.length ≤ maxLen ∧ Bs E w.heap.size w A l.length l := by
  rcases open_ints ht he hsz h with ⟨rfl, _⟩ | ⟨a, len, cap, zs, rfl, _, hl, hm, hz, _, hc, hw⟩
  · exact ⟨none, 0, [], rfl, by simp [maxLen], Bs.nil _ _ _ _⟩
  · have hzl : len ≤ zs.length := by rw [hz]; split <;> omega
    have hlen : ((zs.take len).map fun z => UInt8.ofNat z.toNat).length = len := by simp; omega
    refine ⟨some a, cap, (zs.take len).map fun z => UInt8.ofNat z.toNat, by rw [hlen], by rw [hlen]; omega, ?_⟩
    rw [hlen]
    refine ⟨hlen, fun hp => ?_⟩
    obtain ⟨b, off, s⟩ := a
    have h0 := hc 0 (by omega)
    have h01 : w.cell? ⟨b, off, s⟩ = some (.int .u8 (zs.getD 0 0)) := by simpa [Addr.add] using h0
    obtain rfl := spot0 h01
    have hbw := World.block_lt_of_cell? w _ h01
    refine ⟨b, off, rfl, hbw, .inl hbw, fun j x hx => ?_⟩
    simp only [List.getElem?_map, Option.map_eq_some_iff] at hx
    obtain ⟨z, hz2, rfl⟩ := hx
    have hj : j < len := by
      rcases Nat.lt_or_ge j len with h | h
      · exact h
      · rw [List.getElem?_take, if_neg (by omega)] at hz2; cases hz2
    rw [List.getElem?_take, if_pos hj] at hz2
    have := hc j (by omega)
    rw [add_none] at this
    rw [this]
    have hzw := bd_u8 (hw z (List.mem_of_getElem? hz2))
    have e1 : zs.getD j 0 = z := by simp [List.getD_eq_getElem?_getD, hz2]
    rw [e1]
    unfold u8
    rw [UInt8.toNat_ofNat']
    congr 2
    omega
/-- .. an argument that is one. -/
theorem arg_bytes {t e b0 : Nat} {r : Reach} {v : Value} {d : DataW H} {p : List MemPlace} (E : List TypeId) (ht : P.underlying t = some (.slice e)) (he : P.underlying e = some (.int .u8)) (hsz : P.cellsOf e = 1)
    (hv : Value.okWide P w r b0 t v) (h : DataW.Trod enc P w 0 spare held t v d p) : ∃ A c l, v = .slice A (l : List UInt8).length c ∧ l.length ≤ maxLen ∧ Bs E w.heap.size w A l.length l := by
  obtain ⟨a, len, cap, rfl⟩ := okWide_slice ht hv
  obtain ⟨fuel, hf⟩ := h
  obtain ⟨A, c, l, hcs, h1, h2⟩ := open_bytes E ht he hsz hf
  have e1 : [Value.slice a len cap] = [Value.slice A l.length c] := by rw [← hcs]; rfl
  injection e1 with e1
  exact ⟨A, c, l, e1, h1, h2⟩
end
end Go.Hub
