/- UtfEdges: the walk. -/
import Derived.Test.YtpjapcgidjoliaaDoorT
import Derived.Test.YtpjapcgidjoliaaDoorLoad
set_option linter.all false
namespace Go.Proofs.YtpjapcgidjoliaaDoor
open Go.RowKit Go.Hub Go.Lib

set_option maxRecDepth 100000 in
set_option maxHeartbeats 2000000 in
theorem edges_walk (k d a b c : Int) (w : World) (hT : Tabs w) (hk : 0 ≤ k ∧ k ≤ 255) (hd : 0 ≤ d ∧ d ≤ 255) (ha : 0 ≤ a ∧ a ≤ 255) (hb : 0 ≤ b ∧ b ≤ 255) (hc : 0 ≤ c ∧ c ≤ 255) :
    Calls Tryd.prog 7 #[.int .u8 k, .int .u8 d, .int .u8 a, .int .u8 b, .int .u8 c] w fun e w' => e = .returned (.bool true) ∧ Below w.heap.size w w' := by
  have HT := hid hT
  obtain ⟨z1, hz1⟩ : ∃ z, bits .or .u8 224 (bits .and .u8 d 15) = z := ⟨_, rfl⟩
  obtain ⟨z2, hz2⟩ : ∃ z, bits .or .u8 128 (bits .and .u8 a 63) = z := ⟨_, rfl⟩
  obtain ⟨z3, hz3⟩ : ∃ z, bits .or .u8 128 (bits .and .u8 b 63) = z := ⟨_, rfl⟩
  obtain ⟨z4, hz4⟩ : ∃ z, bits .or .u8 240 (bits .and .u8 d 7) = z := ⟨_, rfl⟩
  obtain ⟨z5, hz5⟩ : ∃ z, bits .or .u8 128 (bits .and .u8 c 63) = z := ⟨_, rfl⟩
  obtain ⟨z6, hz6⟩ : ∃ z, bits .or .u8 192 (bits .and .u8 d 31) = z := ⟨_, rfl⟩
  have y1 : 0 ≤ z1 ∧ z1 ≤ 255 := by rw [← hz1]; exact bd_bits _ _ _
  have y2 : 0 ≤ z2 ∧ z2 ≤ 255 := by rw [← hz2]; exact bd_bits _ _ _
  have y3 : 0 ≤ z3 ∧ z3 ≤ 255 := by rw [← hz3]; exact bd_bits _ _ _
  have y4 : 0 ≤ z4 ∧ z4 ≤ 255 := by rw [← hz4]; exact bd_bits _ _ _
  have y5 : 0 ≤ z5 ∧ z5 ≤ 255 := by rw [← hz5]; exact bd_bits _ _ _
  have y6 : 0 ≤ z6 ∧ z6 ≤ 255 := by rw [← hz6]; exact bd_bits _ _ _
  have HY := hid (And.intro (And.intro hd (And.intro ha (And.intro hb hc))) (And.intro y1 (And.intro y2 (And.intro y3 (And.intro y4 (And.intro y5 y6))))))
  obtain ⟨hk0, hk1⟩ := hk
  clear hT y1 y2 y3 y4 y5 y6 hd ha hb hc
  go_enter Tryd.func7, Tryd.ntmps7
  go_wp2_with fail
  refine (known_any w HT.out).mono ?_
  rintro e w1 ⟨rfl, b1⟩
  have B1 := hid b1
  clear b1
  have HE := eight_row w.heap.size w1 d a b c z1 z2 z3 z4 z5 z6 HY.out.1.1 HY.out.1.2.1 HY.out.1.2.2.1 HY.out.1.2.2.2 HY.out.2.1 HY.out.2.2.1 HY.out.2.2.2.1 HY.out.2.2.2.2.1 HY.out.2.2.2.2.2.1 HY.out.2.2.2.2.2.2
  obtain ⟨W, hW⟩ : ∃ W, W = ((((((((w1.alloc (.cells #[.int .u8 d] 5)).alloc (.cells #[.int .u8 d, .int .u8 a] 5)).alloc (.cells #[.int .u8 d, .int .u8 a, .int .u8 b] 5)).alloc (.cells #[.int .u8 d, .int .u8 a, .int .u8 b, .int .u8 c] 5)).alloc (.cells #[.int .u8 z1, .int .u8 z2, .int .u8 z3] 5)).alloc (.cells #[.int .u8 z4, .int .u8 z2, .int .u8 z3, .int .u8 z5] 5)).alloc (.cells #[.int .u8 z6, .int .u8 z2] 5)).alloc (.cells #[.int .u8 97, .int .u8 z1, .int .u8 z2] 5)).alloc (.cells #[.slice (some ⟨w1.heap.size, 0, none⟩) 1 1, .slice (some ⟨w1.heap.size + 1, 0, none⟩) 2 2, .slice (some ⟨w1.heap.size + 1 + 1, 0, none⟩) 3 3, .slice (some ⟨w1.heap.size + 1 + 1 + 1, 0, none⟩) 4 4, .slice (some ⟨w1.heap.size + 1 + 1 + 1 + 1, 0, none⟩) 3 3, .slice (some ⟨w1.heap.size + 1 + 1 + 1 + 1 + 1, 0, none⟩) 4 4, .slice (some ⟨w1.heap.size + 1 + 1 + 1 + 1 + 1 + 1, 0, none⟩) 2 2, .slice (some ⟨w1.heap.size + 1 + 1 + 1 + 1 + 1 + 1 + 1, 0, none⟩) 3 3] 22) := ⟨_, rfl⟩
  obtain ⟨G, hG⟩ : ∃ G, G = w1.heap.size + 1 + 1 + 1 + 1 + 1 + 1 + 1 + 1 := ⟨_, rfl⟩
  rw [← hW, ← hG] at HE
  have HG := hid (And.intro HE.1 (B1.out.trans (HE.2.mono B1.out.size)))
  clear HE
  go_wp2_with fail
  rw [← hW, ← hG]
  clear hW hG
  go_loopg [71] 8 (fun g v wr => ∃ j : Nat, j + g = 8 ∧ v = .int .i64 j ∧ Hid (Eight w.heap.size wr G ∧ Below w.heap.size w wr))
  case atStart => exact ⟨0, rfl, rfl, HG⟩
  case round =>
    obtain ⟨j, hj, rfl, hR⟩ := hrel
    obtain ⟨wo, rfl⟩ : ∃ wo : World, wo = wr := ⟨_, rfl⟩
    by_cases hlt : j < 8
    · obtain ⟨v, l, hcell, ⟨A, c', rfl, hbs, hc1, hc2⟩, hl⟩ := hR.out.1.2 j hlt
      have hj2 : (j : Int) < 8 := by omega
      have hcv := hbs.conv (P := Tryd.prog) (c := c') Tryd.underlying22 Tryd.underlying5 Tryd.underlying9
      have HI := hid hj
      have hbb := hR.out.2
      have tt := HT.out.old hbb
      clear hj hlt
      go_wp2_with fail
      refine (chk_any [5] w.heap.size A c' l wo tt hbs hc1 hc2).mono ?_
      rintro e w3 ⟨rfl, b3⟩
      have bs3 := hbs.same (.of_below b3)
      clear hcv hcell hbs tt
      go_wp2_with fail
      refine (chkR_any [5] w.heap.size A c' l w3 bs3 hc1 hc2).mono ?_
      rintro e w4 ⟨rfl, rfl⟩
      clear bs3
      go_wp2_with fail
      refine (count_any ⟨l.toArray⟩ w4 (by rw [ext_size]; unfold maxLen; omega)).mono ?_
      rintro e w5 ⟨rfl, b5⟩
      have q5 := b3.trans (b5.mono b3.size)
      clear b3 b5
      go_wp2_with fail
      refine (runesR_any ⟨l.toArray⟩ w5 (by rw [ext_size]; omega)).mono ?_
      rintro e w6 ⟨b6, v6, rfl, o6, _⟩
      obtain ⟨A6, c6, rfl, _, _⟩ := o6.form
      have q6 := q5.trans (b6.mono q5.size)
      have HF := hid (show Eight w.heap.size w6 G ∧ Below w.heap.size w w6 from ⟨hR.out.1.old q6, hbb.trans (q6.mono hbb.size)⟩)
      clear q5 b6 q6 o6 hbb
      go_wp2
      go_roundg (gk - 1)
      case measure => have := HI.out; omega
      case rel => exact ⟨j + 1, by have := HI.out; omega, by go_num, HF⟩
    · have hj2 : ¬ (j : Int) < 8 := by omega
      have HB := hid hR.out.2
      clear hj hlt
      obtain ⟨q, hq⟩ : ∃ q : Nat, k % 10 = (q : Int) := ⟨(k % 10).toNat, by omega⟩
      have hq10 : q < 10 := by omega
      obtain ⟨r, hr, hw, hr32⟩ := rune_at q hq10
      have hrow : (wo.alloc (.cells runes10 21)).cell? ⟨wo.heap.size, q, none⟩ = some (.int .i32 r) := by rw [World.cell?_alloc_new]; exact hr
      have HROW := hid hrow
      have HWH := hid hw
      have hq0 : (0 : Int) ≤ (q : Int) := by omega
      have hq1 : (q : Int) < 10 := by omega
      have hrd := (rds_new (wo.alloc (.cells runes10 21)) 21 #[.int .i32 r])
      rw [World.size_alloc] at hrd
      have p1 := HB.out.trans (((below_alloc wo (.cells runes10 21)).trans ((below_alloc (wo.alloc (.cells runes10 21)) (.cells #[.int .i32 r] 21)).mono (by simp))).mono HB.out.size)
      have HP := hid (And.intro hrd p1)
      clear hrow hr hw hr32 hrd p1
      go_wp2_with (first
        | (refine wpList_load_cell rfl 21 (.tmp 94) rfl ⟨wo.heap.size, q, none⟩ rfl (.int .i32 r) HROW.out (Tryd.isAgg21 _) ?_)
        | fail)
      refine (back_any (some ⟨wo.heap.size + 1, 0, none⟩) 1 [r] _ (HP.out.1.more (by simp))).mono ?_
      rintro e w7 ⟨rfl, hw7⟩
      have p7 : Below w.heap.size w w7 := by rw [hw7]; exact HP.out.2
      obtain ⟨x, hx⟩ : ∃ x, x = encs [r] := ⟨_, rfl⟩
      have f1 := HWH.out.1
      have f2 := HWH.out.2.1
      have f3 := HWH.out.2.2.1
      have f4 := HWH.out.2.2.2
      rw [← hx] at f1 f2 f3 f4 ⊢
      have HX := hid (And.intro f1 (And.intro f2 f3))
      clear hw7 hx f1 f2 f3 HP HROW HWH
      obtain ⟨W8, cap, kconv, hbs, hg1, hg2, b8⟩ := conv_bytes w.heap.size x w7 (by unfold maxLen; omega)
      have p8 := p7.trans (b8.mono p7.size)
      have t8 := HT.out.old p8
      clear p7 b8
      go_wp2_with fail
      refine (chk_any [5] w.heap.size _ cap x W8 t8 hbs hg1 hg2).mono ?_
      rintro e w9 ⟨rfl, b9⟩
      rw [HX.out.1]
      have p9 := p8.trans (b9.mono p8.size)
      clear b9 p8 t8 hbs kconv
      go_wp2_with fail
      refine (count_any ⟨x.toArray⟩ w9 (by rw [ext_size]; unfold maxLen; omega)).mono ?_
      rintro e w10 ⟨rfl, b10⟩
      rw [show ((rwl (⟨x.toArray⟩ : ByteArray).data.toList).length : Nat) = 1 from HX.out.2.1]
      have p10 := p9.trans (b10.mono p9.size)
      clear b10 p9
      go_wp2_with fail
      refine (runes_any ⟨x.toArray⟩ w10 (by rw [ext_size]; omega)).mono ?_
      rintro e w11 ⟨b11, v11, rfl, o11, _⟩
      rw [show (rwl (⟨x.toArray⟩ : ByteArray).data.toList).length = 1 from HX.out.2.1, show runesL (⟨x.toArray⟩ : ByteArray).data.toList = [r] from HX.out.2.2] at o11
      obtain ⟨A11, c11, rfl, _, _⟩ := o11.form
      obtain ⟨g, off, rfl, _, hcl⟩ := o11.rds.2 (by omega)
      have hcell := hcl 0 (.int .i32 r) rfl
      rw [Nat.add_zero] at hcell
      have HQ := hid (p10.trans (b11.mono p10.size))
      clear b11 p10 o11 hcl
      go_wp2
      go_ret
      exact ⟨rfl, HQ.out⟩
end Go.Proofs.YtpjapcgidjoliaaDoor
