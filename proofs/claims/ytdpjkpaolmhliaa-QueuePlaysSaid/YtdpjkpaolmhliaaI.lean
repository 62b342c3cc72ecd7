/- 'known' and 'Place'. -/
import Derived.Test.YtdpjkpaolmhliaaH
set_option linter.all false
namespace Go.Proofs.Ytdpjkpaolmhliaa
open Go.RowKit Go.Hub

theorem IsQ.kept {B b : Nat} {v : Value} {most lost : Int} {ms : List M} {w w' : World} {L : List Nat} (h : IsQ B w b v most lost ms) (hk : Kept L w w') (hs : Same [5] B w w') (hn : ∀ x ∈ b :: v.ownBlock.toList, x ∉ L) : IsQ B w' b v most lost ms := by
  obtain ⟨hb, hb1, hb2, xs, ho, hq⟩ := h
  exact ⟨hb.kept hk (hn b (by simp)), hb1, hb2, xs, ho.kept hk (fun k hk' => hn k (by simp [hk'])), hq.imp fun cs m h => h.same hs⟩
theorem IsR.kept {B b : Nat} {v : Value} {most lost : Int} {ms : List M} {w w' : World} {L : List Nat} (h : IsR B w b v most lost ms) (hk : Kept L w w') (hs : Same [5] B w w') (hn : ∀ x ∈ b :: v.ownBlock.toList, x ∉ L) : IsR B w' b v most lost ms := by
  obtain ⟨hb, hb1, hb2, xs, ho, hq⟩ := h
  exact ⟨hb.kept hk (hn b (by simp)), hb1, hb2, xs, ho.kept hk (fun k hk' => hn k (by simp [hk'])), hq.imp fun cs m h => h.same hs⟩
theorem IsQ.foot {B b : Nat} {v : Value} {most lost : Int} {ms : List M} {w : World} (h : IsQ B w b v most lost ms) : ∀ x ∈ b :: v.ownBlock.toList, B ≤ x ∧ x < w.heap.size := by
  obtain ⟨hb, hb1, hb2, xs, ho, hq⟩ := h
  intro x hx
  simp at hx
  rcases hx with rfl | hx
  · exact ⟨hb1, hb.lt⟩
  · exact ⟨hb2 x hx, (ho.blk x hx).1⟩
theorem IsR.foot {B b : Nat} {v : Value} {most lost : Int} {ms : List M} {w : World} (h : IsR B w b v most lost ms) : ∀ x ∈ b :: v.ownBlock.toList, B ≤ x ∧ x < w.heap.size := by
  obtain ⟨hb, hb1, hb2, xs, ho, hq⟩ := h
  intro x hx
  simp at hx
  rcases hx with rfl | hx
  · exact ⟨hb1, hb.lt⟩
  · exact ⟨hb2 x hx, (ho.blk x hx).1⟩

def mA : M := ⟨⟨#[97]⟩, [], 0, false⟩
def mB : M := ⟨⟨#[98]⟩, [], 0, false⟩

set_option maxRecDepth 100000 in
set_option maxHeartbeats 2000000 in
theorem known_any (w : World) : Calls Try.prog 5 #[] w fun e w' => e = .returned (.bool true) ∧ Below w.heap.size w w' := by
  go_enter Try.func5, Try.ntmps5
  go_wp2_with fail
  refine (newQ w.heap.size 1 w (Nat.le_refl _)).mono ?_
  rintro e w1 ⟨rfl, q1, b1⟩
  go_wp2_with fail
  have hw1 := b1.size
  refine (newQ w.heap.size 0 w1 hw1).mono ?_
  rintro e w2 ⟨rfl, z2, b2⟩
  have q2 := q1.kept (Kept.of_below b2 []) (.of_below b2) (by simp)
  have nz : w.heap.size ≠ w1.heap.size := by have := q1.1.lt; omega
  have S2 : Same [5] w.heap.size w w2 := (Same.of_below b1).trans (.of_below b2)
  rw [show far16 1 = 1 from by decide] at q2
  rw [show far16 0 = 0 from by decide] at z2
  clear q1 b1
  have hw2 := b2.size
  obtain ⟨bz, hbz⟩ : ∃ bz, bz = w1.heap.size := ⟨_, rfl⟩
  rw [← hbz] at z2 nz ⊢
  clear b2 hbz
  go_wp2_with fail
  refine (push_any w.heap.size w.heap.size (.slice none 0 0) 1 0 [] none 0 mA _ q2 (Bs.nil _ _ _ _) (by decide) (by omega) (by omega) (by omega)).mono ?_
  rintro e w3 ⟨rfl, v3, q3, k3, s3, a3⟩
  rw [show pushN 1 ([] : List M) 0 = 0 from rfl, show pushL 1 [] mA = [mA] from rfl] at q3
  rw [show decide (((List.length ([] : List M) : Nat) : Int) < 1) = true from rfl]
  have z3 := z2.kept k3 s3 (by simp [Value.ownBlock]; exact Ne.symm nz)
  have S3 := S2.trans s3
  have n3 : ∀ k, v3.ownBlock = some k → k ≠ bz := fun k hk => by
    rcases a3 k hk with h | h
    · simp [Value.ownBlock] at h
    · have := z2.1.lt; omega
  clear q2 z2 k3 s3 a3 S2
  go_wp2_with fail
  refine (push_any w.heap.size w.heap.size v3 1 0 [mA] none 0 mB _ q3 (Bs.nil _ _ _ _) (by decide) S3.size (by omega) (by omega)).mono ?_
  rintro e w4 ⟨rfl, v4, q4, k4, s4, a4⟩
  rw [show pushN 1 [mA] 0 = 1 from rfl, show pushL 1 [mA] mB = [mA] from rfl] at q4
  rw [show decide (((List.length [mA] : Nat) : Int) < 1) = false from rfl]
  have z4 := z3.kept k4 s4 (by simp [Value.ownBlock]; exact ⟨Ne.symm nz, fun h => n3 _ h rfl⟩)
  have S4 := S3.trans s4
  have n4 : ∀ k, v4.ownBlock = some k → k ≠ bz := fun k hk => by
    rcases a4 k hk with h | h
    · exact n3 k h
    · have := z3.1.lt; omega
  clear q3 z3 k4 s4 a4 S3
  go_wp2_with fail
  refine (pop_some w.heap.size w.heap.size v4 1 1 mA [] _ q4 S4.size).mono ?_
  rintro e w5 ⟨⟨A5, c5, rfl, hm5⟩, v5, q5, k5, s5, a5⟩
  simp only [Bool.false_eq_true, if_false] at q5
  have z5 := z4.kept k5 s5 (by simp [Value.ownBlock]; exact ⟨Ne.symm nz, fun h => n4 _ h rfl⟩)
  have S5 := S4.trans s5
  have n5 : ∀ k, v5.ownBlock = some k → k ≠ bz := fun k hk => by
    rcases a5 k hk with h | h
    · exact n4 k h
    · have := z4.1.lt; omega
  clear q4 z4 k5 s5 a5 S4
  go_wp2_with fail
  have hloc := Blk.new w5 27 #[Value.string mA.t, Value.slice A5 mA.p.length c5, Value.int IntKind.i64 mA.q, Value.bool mA.r]
  have bel6 : Below w5.heap.size w5 (w5.alloc (Obj.cells #[Value.string mA.t, Value.slice A5 mA.p.length c5, Value.int IntKind.i64 mA.q, Value.bool mA.r] 27)) := (Below.refl _ _).alloc (Nat.le_refl _) _
  have q6 := q5.kept (Kept.of_below bel6 []) (.of_below bel6) (by simp)
  have z6 := z5.kept (Kept.of_below bel6 []) (.of_below bel6) (by simp)
  have S6 := S5.trans (.of_below bel6)
  have m6 := hm5.same (w' := _) (.of_below bel6)
  generalize w5.alloc (Obj.cells #[Value.string mA.t, Value.slice A5 mA.p.length c5, Value.int IntKind.i64 mA.q, Value.bool mA.r] 27) = w6 at *
  clear q5 z5 S5 hm5 bel6
  refine (pop_none w.heap.size w.heap.size v5 1 1 _ q6 S6.size).mono ?_
  rintro e w7 ⟨rfl, q7, b7⟩
  have z7 := z6.kept (Kept.of_below b7 []) (.of_below b7) (by simp)
  have S7 := S6.trans (.of_below b7)
  have m7 := m6.same (.of_below b7)
  have l7 := hloc.below b7 hloc.lt
  have x0 := l7.cell_ (i := 0) rfl
  have x1 := l7.cell_ (i := 1) rfl
  have x2 := l7.cell_ (i := 2) rfl
  have x3 := l7.cell_ (i := 3) rfl
  have l7t := l7.lt
  clear q6 z6 S6 m6 hloc l7
  unfold zeroAgg
  go_wp2_with fail
  have bel8 : Below w7.heap.size w7 (w7.alloc (Obj.cells #[Value.string ⟨#[]⟩, Value.slice none 0 0, Value.int IntKind.i64 0, Value.bool false] 27)) := (Below.refl _ _).alloc (Nat.le_refl _) _
  have q8 := q7.kept (Kept.of_below bel8 []) (.of_below bel8) (by simp)
  have z8 := z7.kept (Kept.of_below bel8 []) (.of_below bel8) (by simp)
  have S8 := S7.trans (.of_below bel8)
  have m8 := m7.same (w' := _) (.of_below bel8)
  have y0 := (bel8.cell (p := ⟨w5.heap.size, 0, none⟩) l7t).trans x0
  have y1 := (bel8.cell (p := ⟨w5.heap.size, 1, none⟩) l7t).trans x1
  have y2 := (bel8.cell (p := ⟨w5.heap.size, 2, none⟩) l7t).trans x2
  have y3 := (bel8.cell (p := ⟨w5.heap.size, 3, none⟩) l7t).trans x3
  generalize w7.alloc (Obj.cells #[Value.string ⟨#[]⟩, Value.slice none 0 0, Value.int IntKind.i64 0, Value.bool false] 27) = w8 at *
  clear x0 x1 x2 x3 q7 z7 S7 m7 bel8
  refine (lost_any _ _ _ _ _ _ _ q8).mono ?_
  rintro e w9 ⟨rfl, rfl⟩
  have hAt : mA.t.toList = [97] := by decide +kernel
  go_wp2_with fail
  refine (push_any w.heap.size bz (.slice none 0 0) 0 0 [] A5 c5 mA _ z8 m8 (by decide) S8.size (by omega) (by omega)).mono ?_
  rintro e w10 ⟨rfl, v10, z10, k10, s10, a10⟩
  rw [show pushN 0 ([] : List M) 0 = 1 from rfl, show pushL 0 [] mA = [] from rfl] at z10
  rw [show decide (((List.length ([] : List M) : Nat) : Int) < 0) = false from rfl]
  have S10 := S8.trans s10
  clear q8 z8 S8 m8 y0 y1 y2 y3 k10 s10 a10
  go_wp2_with fail
  refine (lost_any _ _ _ _ _ _ _ z10).mono ?_
  rintro e w11 ⟨rfl, rfl⟩
  go_wp2
  go_ret
  exact ⟨rfl, S10.below (Nat.le_refl _)⟩

theorem tmod_fix (k n : Int) (hn : 0 < n) : (k.tmod n < 0 → k.tmod n + n = k % n) ∧ (¬ k.tmod n < 0 → k.tmod n = k % n) := by
  have h3 := Int.emod_nonneg k (show n ≠ 0 by omega)
  have h4 := Int.emod_lt_of_pos k hn
  rw [Int.tmod_eq_emod]
  split
  · constructor <;> intro h <;> omega
  · constructor <;> intro h <;> omega
theorem tmod_bd (k n : Int) (hn : 0 < n) : -n < k.tmod n ∧ k.tmod n < n := by
  have h3 := Int.emod_nonneg k (show n ≠ 0 by omega)
  have h4 := Int.emod_lt_of_pos k hn
  rw [Int.tmod_eq_emod]
  split <;> omega
set_option maxHeartbeats 400000 in
theorem place_any (k n : Int) (hn : 0 < n) (hn2 : n ≤ 1000000) (w : World) :
    Calls Try.prog 6 #[.int .i64 k, .int .i64 n] w fun e w' => e = .returned (.int .i64 (k % n)) ∧ w = w' := by
  have hb := tmod_bd k n hn
  have hf := hid (tmod_fix k n hn)
  by_cases hneg : k.tmod n < 0
  · go_enter Try.func6, Try.ntmps6
    go_wp2
    go_ret
    exact ⟨by rw [← hf.out.1 hneg]; rfl, rfl⟩
  · go_enter Try.func6, Try.ntmps6
    go_wp2
    go_ret
    exact ⟨by rw [← hf.out.2 hneg]; rfl, rfl⟩
end Go.Proofs.Ytdpjkpaolmhliaa
