/- The contracts of Topic and Filter: a short text. (printed by gen_seat.py) -/
import Derived.Test.YtagcfmmbbcnkbaaLight
import Derived.Test.YtagcfmmbbcnkbaaLoad
set_option linter.all false
namespace Go.Proofs.Ytagcfmmbbcnkbaa
open Go.RowKit Go.Hub
def ShortS (w : World) (e : Ending) (w' : World) : Prop := ∃ t : ByteArray, e = .returned (.string t) ∧ t.size ≤ 10 ∧ Below w.heap.size w w'
def topicRow : Array Value := #[.string ⟨#[97]⟩, .string ⟨#[97, 47, 98]⟩, .string ⟨#[98, 47, 99]⟩, .string ⟨#[36, 115, 47, 97]⟩, .string ⟨#[97, 47, 47, 98]⟩, .string ⟨#[195, 169, 47, 97]⟩, .string ⟨#[99]⟩]
theorem topic_at (q : Nat) (h : q < 7) : ∃ s : ByteArray, topicRow[q]? = some (.string s) ∧ s.size ≤ 10 := by
  match q, h with
  | 0, _ => exact ⟨_, rfl, by decide⟩
  | 1, _ => exact ⟨_, rfl, by decide⟩
  | 2, _ => exact ⟨_, rfl, by decide⟩
  | 3, _ => exact ⟨_, rfl, by decide⟩
  | 4, _ => exact ⟨_, rfl, by decide⟩
  | 5, _ => exact ⟨_, rfl, by decide⟩
  | 6, _ => exact ⟨_, rfl, by decide⟩
  | k + 7, h => omega
set_option maxRecDepth 100000 in
set_option maxHeartbeats 1000000 in
theorem topic_any (k : Int) (hk : 0 ≤ k ∧ k ≤ 255) (w : World) : Calls Try.prog 17 #[.int .u8 k] w (ShortS w) := by
  obtain ⟨hk0, hk1⟩ := hk
  obtain ⟨q, hq⟩ : ∃ q : Nat, k % 7 = (q : Int) := ⟨(k % 7).toNat, by omega⟩
  have hq10 : q < 7 := by omega
  obtain ⟨s, hr, hs⟩ := topic_at q hq10
  have hrow : (w.alloc (.cells topicRow 9)).cell? ⟨w.heap.size, q, none⟩ = some (.string s) := by rw [World.cell?_alloc_new]; exact hr
  have HROW := hid (And.intro hrow hs)
  have hq0 : (0 : Int) ≤ (q : Int) := by omega
  have hq1 : (q : Int) < 7 := by omega
  clear hrow hr hs
  go_enter Try.func17, Try.ntmps17
  go_wp2_with (first
    | (refine wpList_load_cell rfl 9 (.tmp 6) rfl ⟨w.heap.size, q, none⟩ rfl (.string s) HROW.out.1 (Try.isAgg9 _) ?_)
    | fail)
  go_ret
  exact ⟨s, rfl, HROW.out.2, (Below.refl _ _).alloc (Nat.le_refl _) _⟩
def filterRow : Array Value := #[.string ⟨#[97]⟩, .string ⟨#[35]⟩, .string ⟨#[97, 47, 43]⟩, .string ⟨#[43, 47, 98]⟩, .string ⟨#[97, 47, 35]⟩, .string ⟨#[98, 47, 99]⟩, .string ⟨#[36, 115, 47, 35]⟩, .string ⟨#[43]⟩, .string ⟨#[43, 47, 43]⟩, .string ⟨#[195, 169, 47, 35]⟩]
theorem filter_at (q : Nat) (h : q < 10) : ∃ s : ByteArray, filterRow[q]? = some (.string s) ∧ s.size ≤ 10 := by
  match q, h with
  | 0, _ => exact ⟨_, rfl, by decide⟩
  | 1, _ => exact ⟨_, rfl, by decide⟩
  | 2, _ => exact ⟨_, rfl, by decide⟩
  | 3, _ => exact ⟨_, rfl, by decide⟩
  | 4, _ => exact ⟨_, rfl, by decide⟩
  | 5, _ => exact ⟨_, rfl, by decide⟩
  | 6, _ => exact ⟨_, rfl, by decide⟩
  | 7, _ => exact ⟨_, rfl, by decide⟩
  | 8, _ => exact ⟨_, rfl, by decide⟩
  | 9, _ => exact ⟨_, rfl, by decide⟩
  | k + 10, h => omega
set_option maxRecDepth 100000 in
set_option maxHeartbeats 1000000 in
theorem filter_any (k : Int) (hk : 0 ≤ k ∧ k ≤ 255) (w : World) : Calls Try.prog 18 #[.int .u8 k] w (ShortS w) := by
  obtain ⟨hk0, hk1⟩ := hk
  obtain ⟨q, hq⟩ : ∃ q : Nat, k % 10 = (q : Int) := ⟨(k % 10).toNat, by omega⟩
  have hq10 : q < 10 := by omega
  obtain ⟨s, hr, hs⟩ := filter_at q hq10
  have hrow : (w.alloc (.cells filterRow 9)).cell? ⟨w.heap.size, q, none⟩ = some (.string s) := by rw [World.cell?_alloc_new]; exact hr
  have HROW := hid (And.intro hrow hs)
  have hq0 : (0 : Int) ≤ (q : Int) := by omega
  have hq1 : (q : Int) < 10 := by omega
  clear hrow hr hs
  go_enter Try.func18, Try.ntmps18
  go_wp2_with (first
    | (refine wpList_load_cell rfl 9 (.tmp 6) rfl ⟨w.heap.size, q, none⟩ rfl (.string s) HROW.out.1 (Try.isAgg9 _) ?_)
    | fail)
  go_ret
  exact ⟨s, rfl, HROW.out.2, (Below.refl _ _).alloc (Nat.le_refl _) _⟩
end Go.Proofs.Ytagcfmmbbcnkbaa
