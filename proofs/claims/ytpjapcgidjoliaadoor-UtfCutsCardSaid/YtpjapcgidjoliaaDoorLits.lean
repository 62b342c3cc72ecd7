/- Helps of our own: rows of literal bytes and numbers, just made. -/
import Derived.Test.YtpjapcgidjoliaaDoorMem
import Derived.OpenShut
set_option linter.all false
namespace Go.Hub
open Go.RowKit
theorem byte_u8 (z : Int) (h : 0 ≤ z ∧ z ≤ 255) : Value.int .u8 z = u8 (UInt8.ofNat z.toNat) := by
  unfold u8
  rw [UInt8.toNat_ofNat']
  congr 1
  omega
theorem bd_bits (op : BinOp) (x y : Int) : 0 ≤ bits op .u8 x y ∧ bits op .u8 x y ≤ 255 := bd_u8 (wf_bits op .u8 x y)
/-- a row of literal bytes, just made -/
theorem bs_new (B : Nat) (w : World) (zs : List Int) (h : ∀ z ∈ zs, 0 ≤ z ∧ z ≤ 255) (f : Nat × Nat) : Bs [5] B (w.alloc (.cells (zs.map (Value.int .u8)).toArray 5 f)) (some ⟨w.heap.size, 0, none⟩) zs.length (zs.map fun z => UInt8.ofNat z.toNat) :=
  ⟨by simp, fun _ => ⟨w.heap.size, 0, rfl, by simp, .inr ⟨_, 5, f, heap_alloc_new w _, by simp⟩, fun j x hx => by
    rw [Nat.zero_add]
    simp only [List.getElem?_map, Option.map_eq_some_iff] at hx
    obtain ⟨z, hz, rfl⟩ := hx
    refine (cell_of_row _ _ _ _ _ _ (heap_alloc_new w _)).trans ?_
    simp [hz, byte_u8 z (h z (List.mem_of_getElem? hz))]⟩⟩
end Go.Hub
