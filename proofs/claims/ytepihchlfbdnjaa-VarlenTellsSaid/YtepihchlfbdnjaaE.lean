/- 'known'. -/
import Derived.Test.YtepihchlfbdnjaaD
set_option linter.all false
namespace Go.Proofs.Ytepihchlfbdnjaa
open Go.RowKit Go.Hub Go.Vl

/-- a slice just made of literal bytes -/
theorem lit_bytes (w : World) (l : List UInt8) : Rds (w.alloc (.cells (l.map u8).toArray 5)) (w.heap.size + 1) 1 (some ⟨w.heap.size, 0, none⟩) l.length (l.map u8) :=
  ⟨by simp, fun _ => ⟨w.heap.size, 0, rfl, by omega, fun j u hu => by rw [Nat.zero_add, World.cell?_alloc_new]; simpa using hu⟩⟩

set_option maxRecDepth 100000 in
set_option maxHeartbeats 1000000 in
theorem known_any (w : World) : Calls Try.prog 7 #[] w fun e w' => e = .returned (.bool true) ∧ Below w.heap.size w w' := by
  have hs : szN 128 = 2 := by decide
  have hp : putL 128 = [128, 1] := by decide
  have r1 : readL [128, 1, 9] = (128, 2, 0) := by decide
  have r2 : readL [128, 0] = (0, 0, 21) := by decide
  have hs0 : szN 0 = 1 := by decide
  have HK := hid (And.intro (And.intro hs hp) (And.intro (And.intro r1 r2) hs0))
  clear hs hp r1 r2 hs0
  go_enter Try.func7, Try.ntmps7
  go_wp2_with fail
  refine (put_any 128 w).mono ?_
  rintro e w1 ⟨hb, h⟩
  rcases h with ⟨h, _⟩ | ⟨_, v, rfl, ho, hk⟩
  · rw [HK.out.1.1] at h; cases h
  · rw [HK.out.1.1, HK.out.1.2] at ho
    obtain ⟨A, c, rfl, hc1, hc2⟩ := ho.form
    have HO := hid (And.intro ho hb)
    clear ho hb hk
    go_wp2_with fail
    refine (read_any _ _ _ [128, 1, 9] _ rfl (by decide) ((lit_bytes w1 [128, 1, 9]).more (by simp))).mono ?_
    rintro e w2 ⟨rfl, rfl⟩
    unfold rdTuple
    rw [HK.out.2.1.1]
    go_wp2_with fail
    have e2 : Rds ((w1.alloc (Obj.cells #[u8 128, u8 1, u8 9] 5)).alloc (Obj.cells #[Value.int IntKind.u8 128, Value.int IntKind.u8 0] 5)) (w1.heap.size + 2) 1 (some ⟨w1.heap.size + 1, 0, none⟩) 2 ([128, 0].map u8) := by
      have := lit_bytes (w1.alloc (Obj.cells #[u8 128, u8 1, u8 9] 5)) [128, 0]
      rwa [World.size_alloc] at this
    refine (read_any _ _ _ [128, 0] _ rfl (by decide) (e2.more (by simp))).mono ?_
    rintro e w3 ⟨rfl, rfl⟩
    unfold rdTuple
    rw [HK.out.2.1.2]
    have hS : Same [5] 0 w1 ((w1.alloc (Obj.cells #[u8 128, u8 1, u8 9] 5)).alloc (Obj.cells #[Value.int IntKind.u8 128, Value.int IntKind.u8 0] 5)) := ((Same.refl _ _ _).alloc _).alloc _
    have hcv := ((Bs.of_own (E := [5]) (B := 0) HO.out.1 (by simp)).same hS).conv (c := c) Try.underlying22 Try.underlying5 Try.underlying9
    have hbel : Below w.heap.size w ((w1.alloc (Obj.cells #[u8 128, u8 1, u8 9] 5)).alloc (Obj.cells #[Value.int IntKind.u8 128, Value.int IntKind.u8 0] 5)) := (HO.out.2.alloc HO.out.2.size _).alloc (by have := HO.out.2.size; simp; omega) _
    have HB := hid hbel
    clear e2 hS hbel
    go_wp2_with fail
    refine (size_any 0 _).mono ?_
    rw [HK.out.2.2]
    rintro e w4 ⟨rfl, rfl⟩
    go_wp2
    go_ret
    exact ⟨rfl, HB.out⟩
end Go.Proofs.Ytepihchlfbdnjaa
