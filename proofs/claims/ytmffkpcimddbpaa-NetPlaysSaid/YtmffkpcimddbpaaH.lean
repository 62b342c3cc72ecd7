/- 'known' and 'Place'. -/
import Derived.Test.YtmffkpcimddbpaaG
import Derived.Lib.SlBytesConst
set_option linter.all false
namespace Go.Proofs.Ytmffkpcimddbpaa
open Go.RowKit Go.Hub

theorem IsN.kept {B b : Nat} {v : Value} {mask : Int} {ms : List F} {w w' : World} {L : List Nat} (h : IsN B w b v mask ms) (hk : Kept L w w') (hs : Same [5] B w w') (hn : ∀ x ∈ b :: v.ownBlock.toList, x ∉ L) : IsN B w' b v mask ms := by
  obtain ⟨hb, hb1, hb2, xs, ho, hq⟩ := h
  exact ⟨hb.kept hk (hn b (by simp)), hb1, hb2, xs, ho.kept hk (fun k hk' => hn k (by simp [hk'])), hq.imp fun cs m h => h.same hs⟩
theorem IsN.foot {B b : Nat} {v : Value} {mask : Int} {ms : List F} {w : World} (h : IsN B w b v mask ms) : ∀ x ∈ b :: v.ownBlock.toList, B ≤ x ∧ x < w.heap.size := by
  obtain ⟨hb, hb1, hb2, xs, ho, hq⟩ := h
  intro x hx
  simp at hx
  rcases hx with rfl | hx
  · exact ⟨hb1, hb.lt⟩
  · exact ⟨hb2 x hx, (ho.blk x hx).1⟩

theorem tmod_fix (k n : Int) (hn : 0 < n) : (k.tmod n < 0 → k.tmod n + n = k % n) ∧ (¬ k.tmod n < 0 → k.tmod n = k % n) := by
  have h3 := Int.emod_nonneg k (show n ≠ 0 by omega)
  have h4 := Int.emod_lt_of_pos k hn
  rw [Int.tmod_eq_emod]
  split
  · constructor <;> intro h <;> omega
  · constructor <;> intro h <;> omega
theorem tmod_bd (k n : Int) (hn : 0 < n) : -n < k.tmod n ∧ k.tmod n < n := by
  have h3 := Int.emod_nonneg k (show n ≠ 0 by omega)
  have h4 := Int.emod_lt_of_pos k hn
  rw [Int.tmod_eq_emod]
  split <;> omega
set_option maxHeartbeats 400000 in
theorem place_any (k n : Int) (hn : 0 < n) (hn2 : n ≤ 1000000) (w : World) :
    Calls Try.prog 7 #[.int .i64 k, .int .i64 n] w fun e w' => e = .returned (.int .i64 (k % n)) ∧ w = w' := by
  have hb := tmod_bd k n hn
  have hf := hid (tmod_fix k n hn)
  by_cases hneg : k.tmod n < 0
  · go_enter Try.func7, Try.ntmps7
    go_wp2
    go_ret
    exact ⟨by rw [← hf.out.1 hneg]; rfl, rfl⟩
  · go_enter Try.func7, Try.ntmps7
    go_wp2
    go_ret
    exact ⟨by rw [← hf.out.2 hneg]; rfl, rfl⟩

def mK : F := ⟨0, 1, [97]⟩
/-- '[]byte("a")' -/
theorem lit_a (B : Nat) (w : World) : Bs [5] B (w.alloc (.cells #[.int .u8 97] 5 (1, 2))) (some ⟨w.heap.size, 0, none⟩) 1 [97] :=
  ⟨rfl, fun _ => ⟨w.heap.size, 0, rfl, by simp, .inr ⟨_, 5, (1, 2), heap_alloc_new w _, by simp⟩, fun j x hx => by
    match j, hx with
    | 0, hx =>
      simp at hx
      subst hx
      exact (cell_of_row _ _ _ _ _ _ (heap_alloc_new w _)).trans rfl⟩⟩

set_option maxRecDepth 100000 in
set_option maxHeartbeats 2000000 in
theorem known_any (w : World) : Calls Try.prog 5 #[] w fun e w' => e = .returned (.bool true) ∧ Below w.heap.size w w' := by
  have kc := fun (w : World) (C : Array Value) (n c : Nat) => Lib.run_convert_bytes_const (P := Try.prog) w 27 5 C n c Try.underlying27 Try.underlying5
  go_enter Try.func5, Try.ntmps5
  go_wp2_with fail
  refine (new_any w.heap.size w (Nat.le_refl _)).mono ?_
  rintro e w1 ⟨rfl, q1, b1⟩
  go_wp2_with fail
  have hw1 := b1.size
  obtain ⟨W, hW⟩ : ∃ W, W = w1.alloc (.cells #[.int .u8 97] 5 (1, 2)) := ⟨_, rfl⟩
  have l1 := lit_a w.heap.size w1
  have b2 : Below w1.heap.size w1 W := by rw [hW]; exact (Below.refl _ _).alloc (Nat.le_refl _) _
  rw [← hW] at l1
  rw [← hW]
  clear hW
  have q2 := q1.old b2
  have bW := b1.trans (b2.mono hw1)
  have hBW := bW.size
  clear b2 q1
  refine (send_any w.heap.size w.heap.size (.slice none 0 0) 0 [] (some ⟨w1.heap.size, 0, none⟩) 1 mK W q2 l1 (by decide) hBW (by simp)).mono ?_
  rintro e w3 ⟨rfl, v3, q3, k3, s3, a3⟩
  have S3 : Same [5] w.heap.size w w3 := (Same.of_below bW).trans s3
  clear q2 k3 s3 a3 bW hBW l1 b1 hw1
  have hB3 := S3.size
  go_wp2_with fail
  refine (split_any _ _ _ _ 2 _ w3 q3 hB3).mono ?_
  rintro e w4 ⟨rfl, q4, k4, s4⟩
  have S4 := S3.trans s4
  clear S3 q3 k4 s4 hB3
  have hB4 := S4.size
  go_wp2_with fail
  refine (twice_in _ _ _ _ _ 0 mK w4 q4 rfl hB4 (by decide)).mono ?_
  rintro e w5 ⟨A5, c5, rfl, h5, b5⟩
  rw [show (sideL 2 mK.f == sideL 2 mK.t) = false from by decide +kernel]
  have q5 := (q4.old b5).old ((Below.refl w5.heap.size w5).alloc (Nat.le_refl _) (.cells #[.int .i64 mK.f, .int .i64 mK.t, .slice A5 mK.b.length c5] 33))
  have S5 : Same [5] w.heap.size w (w5.alloc (.cells #[.int .i64 mK.f, .int .i64 mK.t, .slice A5 mK.b.length c5] 33)) := (S4.trans (.of_below b5)).alloc _
  clear q4 S4 h5 b5
  go_wp2_with fail
  have hB5 := S5.size
  refine (split_any _ _ _ _ 0 _ _ q5 hB5).mono ?_
  rintro e w6 ⟨rfl, q6, k6, s6⟩
  have S6 := S5.trans s6
  clear S5 q5 k6 s6 hB5
  have hB6 := S6.size
  go_wp2_with fail
  refine (arrive_in _ _ _ _ _ 0 mK w6 q6 rfl hB6 (by decide) (by simp)).mono ?_
  rintro e w7 ⟨⟨A7, c7, rfl, h7⟩, v7, q7, k7, s7, a7⟩
  rw [show (sideL 0 mK.f == sideL 0 mK.t) = true from by decide +kernel]
  rw [show delL ([] ++ [mK]) 0 = [] from rfl] at q7
  obtain ⟨W, hW⟩ : ∃ W, W = w7.alloc (.cells #[.int .i64 mK.f, .int .i64 mK.t, .slice A7 mK.b.length c7] 33) := ⟨_, rfl⟩
  have bW : Below w7.heap.size w7 W := by rw [hW]; exact (Below.refl _ _).alloc (Nat.le_refl _) _
  have xW : Blk W w7.heap.size 33 #[.int .i64 mK.f, .int .i64 mK.t, .slice A7 mK.b.length c7] := by rw [hW]; exact Blk.new _ _ _
  go_wp2_with fail
  rw [← hW]
  clear hW
  have q8 := q7.old bW
  have S8 : Same [5] w.heap.size w W := (S6.trans s7).trans (.of_below bW)
  have h8 := h7.same (.of_below bW)
  clear S6 q6 q7 k7 s7 a7 hB6 h7 bW
  refine (arrive_out _ _ _ _ 0 _ W q8 (.inr (by simp))).mono ?_
  rintro e w9 ⟨rfl, b9⟩
  have q9 := (q8.old b9).old ((Below.refl w9.heap.size w9).alloc (Nat.le_refl _) (.cells #[.int .i64 0, .int .i64 0, .slice none 0 0] 33))
  have S9 : Same [5] w.heap.size w (w9.alloc (.cells #[.int .i64 0, .int .i64 0, .slice none 0 0] 33)) := (S8.trans (.of_below b9)).alloc _
  have h9 := (h8.same (.of_below b9)).same ((Same.refl _ _ _).alloc (.cells #[.int .i64 0, .int .i64 0, .slice none 0 0] 33))
  have x9 := (xW.below b9 xW.lt).alloc (.cells #[.int .i64 0, .int .i64 0, .slice none 0 0] 33)
  have y1 := x9.cell_ (i := 1) rfl
  have y2 := x9.cell_ (i := 2) rfl
  have hcv := h9.conv (c := c7) Try.underlying27 Try.underlying5 Try.underlying9
  clear q8 S8 h8 b9 h9 x9 xW
  unfold zeroAgg
  go_wp2_with fail
  refine (all_any _ _ _ _ _ _ q9 S9.size (by simp) (by simp)).mono ?_
  rintro e w10 ⟨A10, c10, rfl, _, _, _, b10, _⟩
  have fin := (S9.trans (.of_below b10)).below (Nat.le_refl _)
  clear q9 S9 hcv y1 y2
  have HF := hid fin
  clear fin b10
  go_wp2
  go_ret
  exact ⟨rfl, HF.out⟩
end Go.Proofs.Ytmffkpcimddbpaa
