/- The contracts of New, Len, Lost, and of the comparison of two messages that are alike. -/
import Derived.Test.YtdpjkpaolmhliaaA
set_option linter.all false
namespace Go.Proofs.Ytdpjkpaolmhliaa
open Go.RowKit Go.Hub

set_option maxHeartbeats 400000 in
theorem msg_any (B : Nat) (A A' : Option Addr) (c c' : Nat) (m : M) (w : World) (h : Bs [5] B w A m.p.length m.p) (h' : Bs [5] B w A' m.p.length m.p) :
    Calls Try.prog 13 #[.agg #[.string m.t, .slice A m.p.length c, .int .i64 m.q, .bool m.r], .agg #[.string m.t, .slice A' m.p.length c', .int .i64 m.q, .bool m.r]] w fun e w' => e = .returned (.bool true) ∧ Below w.heap.size w w' := by
  have hS : ∀ o o', Same [5] B w ((w.alloc o).alloc o') := fun o o' => ((Same.refl _ _ _).alloc o).alloc o'
  have k1 : ∀ o o', (convert 25 9 (.slice A m.p.length c)).run Try.prog ((w.alloc o).alloc o') = .ok (.string ⟨m.p.toArray⟩) ((w.alloc o).alloc o') := fun o o' => (h.same (hS o o')).conv Try.underlying25 Try.underlying5 Try.underlying9
  have k2 : ∀ o o', (convert 25 9 (.slice A' m.p.length c')).run Try.prog ((w.alloc o).alloc o') = .ok (.string ⟨m.p.toArray⟩) ((w.alloc o).alloc o') := fun o o' => (h'.same (hS o o')).conv Try.underlying25 Try.underlying5 Try.underlying9
  clear h h' hS
  go_enter Try.func13, Try.ntmps13
  go_wp2
  go_ret
  exact ⟨rfl, ((Below.refl _ _).alloc (Nat.le_refl _) _).alloc (by simp) _⟩

def far16 (n : Int) : Int := min (max n 0) 65536
/-- the program's queue: its struct in block b, what waits in the row that the value v leads to -/
def IsQ (B : Nat) (w : World) (b : Nat) (v : Value) (most lost : Int) (ms : List M) : Prop :=
  Blk w b 46 #[v, .int .i64 most, .int .i64 lost] ∧ B ≤ b ∧ (∀ k, v.ownBlock = some k → B ≤ k) ∧ ∃ xs, Own w 27 4 v ms.length xs ∧ Seq 4 (relM [5] B w) xs ms
/-- the reference's -/
def IsR (B : Nat) (w : World) (b : Nat) (v : Value) (most lost : Int) (ms : List M) : Prop :=
  Blk w b 40 #[.int .i64 most, .int .i64 lost, v] ∧ B ≤ b ∧ (∀ k, v.ownBlock = some k → B ≤ k) ∧ ∃ xs, Own w 27 4 v ms.length xs ∧ Seq 4 (relM [5] B w) xs ms

set_option maxHeartbeats 400000 in
theorem newQ (B : Nat) (n : Int) (w : World) (hB : B ≤ w.heap.size) :
    Calls Try.prog 7 #[.int .i64 n] w fun e w' => e = .returned (.pointer (some ⟨w.heap.size,0,none⟩)) ∧ IsQ B w' w.heap.size (.slice none 0 0) (far16 n) 0 [] ∧ Below w.heap.size w w' := by
  have key : ∀ k, k = far16 n → IsQ B (w.alloc (.cells #[.slice none 0 0, .int .i64 k, .int .i64 0] 46)) w.heap.size (.slice none 0 0) (far16 n) 0 [] ∧ Below w.heap.size w (w.alloc (.cells #[.slice none 0 0, .int .i64 k, .int .i64 0] 46)) := by
    rintro k rfl
    exact ⟨⟨Blk.new _ _ _, hB, by simp [Value.ownBlock], [], Own.nil _ _ _, Seq.nil _ _⟩, (Below.refl _ _).alloc (Nat.le_refl _) _⟩
  have K := hid key; clear key
  go_enter Try.func7, Try.ntmps7
  go_wp2
  all_goals (go_ret; exact ⟨rfl, K.out _ (by unfold far16; omega)⟩)
set_option maxHeartbeats 400000 in
theorem newR (B : Nat) (n : Int) (w : World) (hB : B ≤ w.heap.size) :
    Calls Try.prog 8 #[.int .i64 n] w fun e w' => e = .returned (.pointer (some ⟨w.heap.size,0,none⟩)) ∧ IsR B w' w.heap.size (.slice none 0 0) (far16 n) 0 [] ∧ Below w.heap.size w w' := by
  have key : ∀ k, k = far16 n → IsR B (w.alloc (.cells #[.int .i64 k, .int .i64 0, .slice none 0 0] 40)) w.heap.size (.slice none 0 0) (far16 n) 0 [] ∧ Below w.heap.size w (w.alloc (.cells #[.int .i64 k, .int .i64 0, .slice none 0 0] 40)) := by
    rintro k rfl
    exact ⟨⟨Blk.new _ _ _, hB, by simp [Value.ownBlock], [], Own.nil _ _ _, Seq.nil _ _⟩, (Below.refl _ _).alloc (Nat.le_refl _) _⟩
  have K := hid key; clear key
  go_enter Try.func8, Try.ntmps8
  go_wp2
  all_goals (go_ret; exact ⟨rfl, K.out _ (by unfold far16; omega)⟩)

set_option maxHeartbeats 400000 in
theorem len_any (B b : Nat) (v : Value) (most lost : Int) (ms : List M) (w : World) (h : IsQ B w b v most lost ms) :
    Calls Try.prog 14 #[.pointer (some ⟨b, 0, none⟩)] w fun e w' => e = .returned (.int .i64 ms.length) ∧ w = w' := by
  obtain ⟨hb, hb1, hb2, xs, ho, hs⟩ := h
  obtain ⟨A, c, rfl, h1, h2⟩ := ho.form
  have c0 := hb.cell_ (i := 0) rfl
  clear hb hb1 hb2 ho hs
  go_enter Try.func14, Try.ntmps14
  go_wp2
  go_ret
  exact ⟨rfl, rfl⟩
set_option maxHeartbeats 400000 in
theorem lost_any (B b : Nat) (v : Value) (most lost : Int) (ms : List M) (w : World) (h : IsQ B w b v most lost ms) :
    Calls Try.prog 15 #[.pointer (some ⟨b, 0, none⟩)] w fun e w' => e = .returned (.int .i64 lost) ∧ w = w' := by
  obtain ⟨hb, hb1, hb2, xs, ho, hs⟩ := h
  have c0 := hb.cell_ (i := 2) rfl
  clear hb hb1 hb2 ho hs
  go_enter Try.func15, Try.ntmps15
  go_wp2
  go_ret
  exact ⟨rfl, rfl⟩
end Go.Proofs.Ytdpjkpaolmhliaa
