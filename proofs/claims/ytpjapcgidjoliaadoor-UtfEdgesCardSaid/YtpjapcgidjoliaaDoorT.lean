/- UtfEdges: the walk. -/
import Derived.Test.YtpjapcgidjoliaaDoorP
import Derived.Test.YtpjapcgidjoliaaDoorQ
set_option linter.all false
namespace Go.Proofs.YtpjapcgidjoliaaDoor
open Go.RowKit Go.Hub Go.Lib

def Eight (B : Nat) (w : World) (G : Nat) : Prop := G < w.heap.size ∧ ∀ k, k < 8 → ∃ v l, w.cell? ⟨G, k, none⟩ = some v ∧ Sl B w v l ∧ l.length ≤ 1000
theorem Eight.old {B : Nat} {w w' : World} {G : Nat} (h : Eight B w G) (hb : Below w.heap.size w w') : Eight B w' G :=
  ⟨Nat.lt_of_lt_of_le h.1 hb.size, fun k hk => by
    obtain ⟨v, l, h1, h2, h3⟩ := h.2 k hk
    exact ⟨v, l, (hb.cell (p := ⟨G, k, none⟩) h.1).trans h1, h2.old hb, h3⟩⟩
/-- a row of literal bytes, just made -/
theorem sl_new (B : Nat) (w : World) (zs : List Int) (h : ∀ z ∈ zs, 0 ≤ z ∧ z ≤ 255) (n : Nat) (hn : n = zs.length) (hm : n ≤ 1000) : ∃ l : List UInt8, Sl B (w.alloc (.cells (zs.map (Value.int .u8)).toArray 5)) (.slice (some ⟨w.heap.size, 0, none⟩) n n) l ∧ l.length ≤ 1000 := by
  have hb := bs_new B w zs h (0, 0)
  refine ⟨zs.map fun z => UInt8.ofNat z.toNat, ⟨some ⟨w.heap.size, 0, none⟩, n, by simp [hn], ?_, by simp [hn], by unfold maxLen; omega⟩, by simp; omega⟩
  have e : (zs.map fun z => UInt8.ofNat z.toNat).length = zs.length := by simp
  rw [e]
  exact hb
theorem below_alloc (w : World) (o : Obj) : Below w.heap.size w (w.alloc o) := (Below.refl _ _).alloc (Nat.le_refl _) _
def runes10 : Array Value := #[.int .i32 1, .int .i32 127, .int .i32 128, .int .i32 2047, .int .i32 2048, .int .i32 55295, .int .i32 57344, .int .i32 65535, .int .i32 65536, .int .i32 1114111]
def Whole (r : Int) : Prop := chk (encs [r]) = -1 ∧ (rwl (encs [r])).length = 1 ∧ runesL (encs [r]) = [r] ∧ (encs [r]).length ≤ 4
theorem whole_of (r : Int) (h : okL (encs [r]) = true) (hc : (cleanR r : Int) = r) : Whole r := by
  refine ⟨?_, count_encs [r], ?_, by have := encs_len [r]; simpa using this⟩
  · rcases chk_ok (encs [r]) with ⟨h1, _⟩ | ⟨_, h2⟩
    · exact h1
    · rw [h] at h2; cases h2
  · have := rw_enc [r] []
    rw [List.append_nil, rw_nil, List.append_nil] at this
    unfold runesL
    rw [this]
    simp [rwz, hc]
theorem rune_at (q : Nat) (h : q < 10) : ∃ r : Int, runes10[q]? = some (.int .i32 r) ∧ Whole r ∧ -2147483648 ≤ r ∧ r ≤ 2147483647 := by
  match q, h with
  | 0, _ => exact ⟨1, rfl, whole_of _ (by decide) (by decide), by omega, by omega⟩
  | 1, _ => exact ⟨127, rfl, whole_of _ (by decide) (by decide), by omega, by omega⟩
  | 2, _ => exact ⟨128, rfl, whole_of _ (by decide) (by decide), by omega, by omega⟩
  | 3, _ => exact ⟨2047, rfl, whole_of _ (by decide) (by decide), by omega, by omega⟩
  | 4, _ => exact ⟨2048, rfl, whole_of _ (by decide) (by decide), by omega, by omega⟩
  | 5, _ => exact ⟨55295, rfl, whole_of _ (by decide) (by decide), by omega, by omega⟩
  | 6, _ => exact ⟨57344, rfl, whole_of _ (by decide) (by decide), by omega, by omega⟩
  | 7, _ => exact ⟨65535, rfl, whole_of _ (by decide) (by decide), by omega, by omega⟩
  | 8, _ => exact ⟨65536, rfl, whole_of _ (by decide) (by decide), by omega, by omega⟩
  | 9, _ => exact ⟨1114111, rfl, whole_of _ (by decide) (by decide), by omega, by omega⟩
  | k + 10, h => omega
/-! ### the row of eight (printed by gen_t.py) -/
theorem eight_row (B : Nat) (w : World) (d a b c z1 z2 z3 z4 z5 z6 : Int) (HD : 0 ≤ d ∧ d ≤ 255) (HA : 0 ≤ a ∧ a ≤ 255) (HB : 0 ≤ b ∧ b ≤ 255) (HC : 0 ≤ c ∧ c ≤ 255) (H1 : 0 ≤ z1 ∧ z1 ≤ 255) (H2 : 0 ≤ z2 ∧ z2 ≤ 255) (H3 : 0 ≤ z3 ∧ z3 ≤ 255) (H4 : 0 ≤ z4 ∧ z4 ≤ 255) (H5 : 0 ≤ z5 ∧ z5 ≤ 255) (H6 : 0 ≤ z6 ∧ z6 ≤ 255) :
    Eight B (((((((((w.alloc (.cells #[.int .u8 d] 5)).alloc (.cells #[.int .u8 d, .int .u8 a] 5)).alloc (.cells #[.int .u8 d, .int .u8 a, .int .u8 b] 5)).alloc (.cells #[.int .u8 d, .int .u8 a, .int .u8 b, .int .u8 c] 5)).alloc (.cells #[.int .u8 z1, .int .u8 z2, .int .u8 z3] 5)).alloc (.cells #[.int .u8 z4, .int .u8 z2, .int .u8 z3, .int .u8 z5] 5)).alloc (.cells #[.int .u8 z6, .int .u8 z2] 5)).alloc (.cells #[.int .u8 97, .int .u8 z1, .int .u8 z2] 5)).alloc (.cells #[.slice (some ⟨w.heap.size, 0, none⟩) 1 1, .slice (some ⟨w.heap.size + 1, 0, none⟩) 2 2, .slice (some ⟨w.heap.size + 1 + 1, 0, none⟩) 3 3, .slice (some ⟨w.heap.size + 1 + 1 + 1, 0, none⟩) 4 4, .slice (some ⟨w.heap.size + 1 + 1 + 1 + 1, 0, none⟩) 3 3, .slice (some ⟨w.heap.size + 1 + 1 + 1 + 1 + 1, 0, none⟩) 4 4, .slice (some ⟨w.heap.size + 1 + 1 + 1 + 1 + 1 + 1, 0, none⟩) 2 2, .slice (some ⟨w.heap.size + 1 + 1 + 1 + 1 + 1 + 1 + 1, 0, none⟩) 3 3] 22)) (w.heap.size + 1 + 1 + 1 + 1 + 1 + 1 + 1 + 1) ∧ Below w.heap.size w (((((((((w.alloc (.cells #[.int .u8 d] 5)).alloc (.cells #[.int .u8 d, .int .u8 a] 5)).alloc (.cells #[.int .u8 d, .int .u8 a, .int .u8 b] 5)).alloc (.cells #[.int .u8 d, .int .u8 a, .int .u8 b, .int .u8 c] 5)).alloc (.cells #[.int .u8 z1, .int .u8 z2, .int .u8 z3] 5)).alloc (.cells #[.int .u8 z4, .int .u8 z2, .int .u8 z3, .int .u8 z5] 5)).alloc (.cells #[.int .u8 z6, .int .u8 z2] 5)).alloc (.cells #[.int .u8 97, .int .u8 z1, .int .u8 z2] 5)).alloc (.cells #[.slice (some ⟨w.heap.size, 0, none⟩) 1 1, .slice (some ⟨w.heap.size + 1, 0, none⟩) 2 2, .slice (some ⟨w.heap.size + 1 + 1, 0, none⟩) 3 3, .slice (some ⟨w.heap.size + 1 + 1 + 1, 0, none⟩) 4 4, .slice (some ⟨w.heap.size + 1 + 1 + 1 + 1, 0, none⟩) 3 3, .slice (some ⟨w.heap.size + 1 + 1 + 1 + 1 + 1, 0, none⟩) 4 4, .slice (some ⟨w.heap.size + 1 + 1 + 1 + 1 + 1 + 1, 0, none⟩) 2 2, .slice (some ⟨w.heap.size + 1 + 1 + 1 + 1 + 1 + 1 + 1, 0, none⟩) 3 3] 22)) := by
  obtain ⟨l0, s0, e0⟩ := sl_new B w [d] (by intro z hz; simp at hz; omega) 1 rfl (by omega)
  obtain ⟨W1, hW1⟩ : ∃ W, W = w.alloc (.cells #[.int .u8 d] 5) := ⟨_, rfl⟩
  have n1 : W1.heap.size = w.heap.size + 1 := by rw [hW1, World.size_alloc]
  have b1 : Below w.heap.size w W1 := by rw [hW1]; exact below_alloc _ _
  have s0 : Sl B W1 (.slice (some ⟨w.heap.size, 0, none⟩) 1 1) l0 := by rw [hW1]; exact s0
  rw [← hW1]
  obtain ⟨l1, s1, e1⟩ := sl_new B W1 [d, a] (by intro z hz; simp at hz; omega) 2 rfl (by omega)
  obtain ⟨W2, hW2⟩ : ∃ W, W = W1.alloc (.cells #[.int .u8 d, .int .u8 a] 5) := ⟨_, rfl⟩
  have n2 : W2.heap.size = w.heap.size + 1 + 1 := by rw [hW2, World.size_alloc, n1]
  have b2 : Below W1.heap.size W1 W2 := by rw [hW2]; exact below_alloc _ _
  have s1 : Sl B W2 (.slice (some ⟨w.heap.size + 1, 0, none⟩) 2 2) l1 := by rw [hW2, ← n1]; exact s1
  rw [← hW2]
  obtain ⟨l2, s2, e2⟩ := sl_new B W2 [d, a, b] (by intro z hz; simp at hz; omega) 3 rfl (by omega)
  obtain ⟨W3, hW3⟩ : ∃ W, W = W2.alloc (.cells #[.int .u8 d, .int .u8 a, .int .u8 b] 5) := ⟨_, rfl⟩
  have n3 : W3.heap.size = w.heap.size + 1 + 1 + 1 := by rw [hW3, World.size_alloc, n2]
  have b3 : Below W2.heap.size W2 W3 := by rw [hW3]; exact below_alloc _ _
  have s2 : Sl B W3 (.slice (some ⟨w.heap.size + 1 + 1, 0, none⟩) 3 3) l2 := by rw [hW3, ← n2]; exact s2
  rw [← hW3]
  obtain ⟨l3, s3, e3⟩ := sl_new B W3 [d, a, b, c] (by intro z hz; simp at hz; omega) 4 rfl (by omega)
  obtain ⟨W4, hW4⟩ : ∃ W, W = W3.alloc (.cells #[.int .u8 d, .int .u8 a, .int .u8 b, .int .u8 c] 5) := ⟨_, rfl⟩
  have n4 : W4.heap.size = w.heap.size + 1 + 1 + 1 + 1 := by rw [hW4, World.size_alloc, n3]
  have b4 : Below W3.heap.size W3 W4 := by rw [hW4]; exact below_alloc _ _
  have s3 : Sl B W4 (.slice (some ⟨w.heap.size + 1 + 1 + 1, 0, none⟩) 4 4) l3 := by rw [hW4, ← n3]; exact s3
  rw [← hW4]
  obtain ⟨l4, s4, e4⟩ := sl_new B W4 [z1, z2, z3] (by intro z hz; simp at hz; omega) 3 rfl (by omega)
  obtain ⟨W5, hW5⟩ : ∃ W, W = W4.alloc (.cells #[.int .u8 z1, .int .u8 z2, .int .u8 z3] 5) := ⟨_, rfl⟩
  have n5 : W5.heap.size = w.heap.size + 1 + 1 + 1 + 1 + 1 := by rw [hW5, World.size_alloc, n4]
  have b5 : Below W4.heap.size W4 W5 := by rw [hW5]; exact below_alloc _ _
  have s4 : Sl B W5 (.slice (some ⟨w.heap.size + 1 + 1 + 1 + 1, 0, none⟩) 3 3) l4 := by rw [hW5, ← n4]; exact s4
  rw [← hW5]
  obtain ⟨l5, s5, e5⟩ := sl_new B W5 [z4, z2, z3, z5] (by intro z hz; simp at hz; omega) 4 rfl (by omega)
  obtain ⟨W6, hW6⟩ : ∃ W, W = W5.alloc (.cells #[.int .u8 z4, .int .u8 z2, .int .u8 z3, .int .u8 z5] 5) := ⟨_, rfl⟩
  have n6 : W6.heap.size = w.heap.size + 1 + 1 + 1 + 1 + 1 + 1 := by rw [hW6, World.size_alloc, n5]
  have b6 : Below W5.heap.size W5 W6 := by rw [hW6]; exact below_alloc _ _
  have s5 : Sl B W6 (.slice (some ⟨w.heap.size + 1 + 1 + 1 + 1 + 1, 0, none⟩) 4 4) l5 := by rw [hW6, ← n5]; exact s5
  rw [← hW6]
  obtain ⟨l6, s6, e6⟩ := sl_new B W6 [z6, z2] (by intro z hz; simp at hz; omega) 2 rfl (by omega)
  obtain ⟨W7, hW7⟩ : ∃ W, W = W6.alloc (.cells #[.int .u8 z6, .int .u8 z2] 5) := ⟨_, rfl⟩
  have n7 : W7.heap.size = w.heap.size + 1 + 1 + 1 + 1 + 1 + 1 + 1 := by rw [hW7, World.size_alloc, n6]
  have b7 : Below W6.heap.size W6 W7 := by rw [hW7]; exact below_alloc _ _
  have s6 : Sl B W7 (.slice (some ⟨w.heap.size + 1 + 1 + 1 + 1 + 1 + 1, 0, none⟩) 2 2) l6 := by rw [hW7, ← n6]; exact s6
  rw [← hW7]
  obtain ⟨l7, s7, e7⟩ := sl_new B W7 [97, z1, z2] (by intro z hz; simp at hz; omega) 3 rfl (by omega)
  obtain ⟨W8, hW8⟩ : ∃ W, W = W7.alloc (.cells #[.int .u8 97, .int .u8 z1, .int .u8 z2] 5) := ⟨_, rfl⟩
  have n8 : W8.heap.size = w.heap.size + 1 + 1 + 1 + 1 + 1 + 1 + 1 + 1 := by rw [hW8, World.size_alloc, n7]
  have b8 : Below W7.heap.size W7 W8 := by rw [hW8]; exact below_alloc _ _
  have s7 : Sl B W8 (.slice (some ⟨w.heap.size + 1 + 1 + 1 + 1 + 1 + 1 + 1, 0, none⟩) 3 3) l7 := by rw [hW8, ← n7]; exact s7
  rw [← hW8]
  have s0 := s0.old b2
  have s0 := s0.old b3
  have s0 := s0.old b4
  have s0 := s0.old b5
  have s0 := s0.old b6
  have s0 := s0.old b7
  have s0 := s0.old b8
  have s1 := s1.old b3
  have s1 := s1.old b4
  have s1 := s1.old b5
  have s1 := s1.old b6
  have s1 := s1.old b7
  have s1 := s1.old b8
  have s2 := s2.old b4
  have s2 := s2.old b5
  have s2 := s2.old b6
  have s2 := s2.old b7
  have s2 := s2.old b8
  have s3 := s3.old b5
  have s3 := s3.old b6
  have s3 := s3.old b7
  have s3 := s3.old b8
  have s4 := s4.old b6
  have s4 := s4.old b7
  have s4 := s4.old b8
  have s5 := s5.old b7
  have s5 := s5.old b8
  have s6 := s6.old b8
  have bb := b1
  have bb := bb.trans (b2.mono bb.size)
  have bb := bb.trans (b3.mono bb.size)
  have bb := bb.trans (b4.mono bb.size)
  have bb := bb.trans (b5.mono bb.size)
  have bb := bb.trans (b6.mono bb.size)
  have bb := bb.trans (b7.mono bb.size)
  have bb := bb.trans (b8.mono bb.size)
  have ba := below_alloc W8 (.cells #[.slice (some ⟨w.heap.size, 0, none⟩) 1 1, .slice (some ⟨w.heap.size + 1, 0, none⟩) 2 2, .slice (some ⟨w.heap.size + 1 + 1, 0, none⟩) 3 3, .slice (some ⟨w.heap.size + 1 + 1 + 1, 0, none⟩) 4 4, .slice (some ⟨w.heap.size + 1 + 1 + 1 + 1, 0, none⟩) 3 3, .slice (some ⟨w.heap.size + 1 + 1 + 1 + 1 + 1, 0, none⟩) 4 4, .slice (some ⟨w.heap.size + 1 + 1 + 1 + 1 + 1 + 1, 0, none⟩) 2 2, .slice (some ⟨w.heap.size + 1 + 1 + 1 + 1 + 1 + 1 + 1, 0, none⟩) 3 3] 22)
  refine ⟨⟨by simp [n8], fun k hk => ?_⟩, bb.trans (ba.mono bb.size)⟩
  rw [← n8]
  match k, hk with
  | 0, _ => exact ⟨_, l0, by rw [World.cell?_alloc_new]; rfl, s0.old ba, e0⟩
  | 1, _ => exact ⟨_, l1, by rw [World.cell?_alloc_new]; rfl, s1.old ba, e1⟩
  | 2, _ => exact ⟨_, l2, by rw [World.cell?_alloc_new]; rfl, s2.old ba, e2⟩
  | 3, _ => exact ⟨_, l3, by rw [World.cell?_alloc_new]; rfl, s3.old ba, e3⟩
  | 4, _ => exact ⟨_, l4, by rw [World.cell?_alloc_new]; rfl, s4.old ba, e4⟩
  | 5, _ => exact ⟨_, l5, by rw [World.cell?_alloc_new]; rfl, s5.old ba, e5⟩
  | 6, _ => exact ⟨_, l6, by rw [World.cell?_alloc_new]; rfl, s6.old ba, e6⟩
  | 7, _ => exact ⟨_, l7, by rw [World.cell?_alloc_new]; rfl, s7.old ba, e7⟩
  | k + 8, h => omega
end Go.Proofs.YtpjapcgidjoliaaDoor
