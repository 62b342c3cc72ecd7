/- IdsApart: the walk. -/
import Derived.Test.YtpcnkodkcaapmaaD
import Derived.Test.YtpcnkodkcaapmaaHub2
set_option linter.all false
namespace Go.Proofs.Ytpcnkodkcaapmaa
open Go.RowKit Go.Hub Go.Ids

/-- the list kept by the law holds just the numbers in use -/
def Like (S L : List Int) (k : Int) : Prop := (∀ x, x ∈ S ↔ x ∈ L) ∧ L.Nodup ∧ S.length = L.length ∧ (L.length : Int) ≤ k ∧ ∀ x ∈ L, 1 ≤ x ∧ x ≤ 65535
theorem like_take {S L : List Int} {k x : Int} (h : Like S L k) (hx : x ∉ S) (hb : 1 ≤ x ∧ x ≤ 65535) (hk : (S.length : Int) < k) : Like (x :: S) (L ++ [x]) k := by
  obtain ⟨h1, h2, h3, h4, h5⟩ := h
  refine ⟨fun y => by simp [h1, or_comm], ?_, by simp [h3], by simp; omega, fun y hy => ?_⟩
  · rw [List.nodup_append]
    refine ⟨h2, by simp, fun a ha b hb => ?_⟩
    simp at hb
    subst hb
    intro e
    subst e
    exact hx ((h1 a).2 ha)
  · simp at hy
    rcases hy with hy | rfl
    · exact h5 y hy
    · exact hb
theorem mem_cut {L : List Int} (hn : L.Nodup) {n : Nat} {x : Int} (hx : L[n]? = some x) (y : Int) : y ∈ L.take n ++ L.drop (n + 1) ↔ y ∈ L ∧ y ≠ x := by
  have hl : n < L.length := (List.getElem?_eq_some_iff.1 hx).1
  have e : L = L.take n ++ x :: L.drop (n + 1) := by
    have e1 := (List.take_append_drop n L).symm
    rw [List.drop_eq_getElem_cons hl] at e1
    have : L[n] = x := by simpa [hl] using hx
    rw [this] at e1
    exact e1
  have hn' := hn
  rw [e, List.nodup_append] at hn'
  obtain ⟨n1, n2, n3⟩ := hn'
  have n2' := List.nodup_cons.1 n2
  constructor
  · intro h
    refine ⟨?_, ?_⟩
    · rw [e]; simp at h ⊢; rcases h with h | h
      · exact .inl h
      · exact .inr (.inr h)
    · rintro rfl
      rcases List.mem_append.1 h with h | h
      · exact n3 y h y (by simp) rfl
      · exact n2'.1 h
  · rintro ⟨h, hne⟩
    rw [e] at h
    simp at h ⊢
    rcases h with h | h | h
    · exact .inl h
    · exact absurd h hne
    · exact .inr h
theorem like_free {S L : List Int} {k x : Int} (h : Like S L k) (hS : S.Nodup) {n : Nat} (hx : L[n]? = some x) : Like (S.erase x) (L.take n ++ L.drop (n + 1)) k := by
  obtain ⟨h1, h2, h3, h4, h5⟩ := h
  have hl : n < L.length := (List.getElem?_eq_some_iff.1 hx).1
  have hm : x ∈ L := List.mem_of_getElem? hx
  have hlen : (L.take n ++ L.drop (n + 1)).length = L.length - 1 := by simp; omega
  refine ⟨fun y => ?_, ?_, ?_, ?_, fun y hy => ?_⟩
  · rw [hS.mem_erase_iff, mem_cut h2 hx, h1]; exact And.comm
  · rw [List.nodup_append]
    refine ⟨h2.sublist (List.take_sublist _ _), h2.sublist (List.drop_sublist _ _), fun a ha b hb e => ?_⟩
    subst e
    have hd := h2
    rw [← List.take_append_drop n L, List.nodup_append] at hd
    refine hd.2.2 a ha a ?_ rfl
    rw [List.drop_eq_getElem_cons hl]
    exact List.mem_cons_of_mem _ hb
  · rw [hlen, List.length_erase_of_mem ((h1 x).2 hm), h3]
  · rw [hlen]; omega
  · exact h5 y ((mem_cut h2 hx y).1 hy).1

/-- what holds between two steps of the law -/
def Apart (w wr : World) (B b m : Nat) (k t : Int) (S L : List Int) (v : Value) : Prop :=
  IsIds wr b m k t S ∧ (0 ≤ t ∧ t ≤ 65535) ∧ wr.ownsRow B 3 1 v L.length (L.map (Value.int .i64)) ∧ Like S L k ∧ Below w.heap.size w wr ∧ B ≤ wr.heap.size
theorem Apart.kept {w wr w' : World} {B b m : Nat} {k t t' : Int} {S S' L : List Int} {v : Value} (h : Apart w wr B b m k t S L v) (hk : Kept [b, m] wr w') (hb : b < B ∧ m < B ∧ w.heap.size ≤ b ∧ w.heap.size ≤ m)
    (h' : IsIds w' b m k t' S') (ht : 0 ≤ t' ∧ t' ≤ 65535) (hl : Like S' L k) : Apart w w' B b m k t' S' L v :=
  ⟨h', ht, own_kept h.2.2.1 hk (by simp; omega), hl, h.2.2.2.2.1.trans (hk.below (by simp; omega) h.2.2.2.2.1.size), Nat.le_trans h.2.2.2.2.2 hk.size⟩

theorem intInfo : (Try.prog.info? 3).map (fun i => (i.zero, i.size, i.bytes)) = some (some (.int .i64 0), 1, 8) := by kernel_rfl

theorem own_int_at {w : World} {B n c j : Nat} {A : Option Addr} {L : List Int} {x : Int} (h : w.ownsRow B 3 1 (.slice A n c) L.length (L.map (Value.int .i64))) (hn : n = L.length) (hx : L[j]? = some x) :
    ∃ g, A = some ⟨g, 0, none⟩ ∧ w.cell? ⟨g, j, none⟩ = some (.int .i64 x) := by
  have hl : j < L.length := (List.getElem?_eq_some_iff.1 hx).1
  subst hn
  obtain ⟨g, cap, hv, _, hlt⟩ := h.form (by omega)
  have hA : A = some ⟨g, 0, none⟩ := by injection hv
  subst hA
  refine ⟨g, rfl, ?_⟩
  have := h.cells (g := g) rfl j (.int .i64 x) (by simp [hx])
  rwa [add_none, Nat.zero_add] at this
end Go.Proofs.Ytpcnkodkcaapmaa
