/- UtfParts: the walk. -/
import Derived.Test.YtpjapcgidjoliaaDoorN
import Derived.Deep.DrawnRows
import Derived.IntWalk
set_option linter.all false
attribute [local go_sem ↓] Go.wp_at_zero Go.wp_at_succ
namespace Go.Proofs.YtpjapcgidjoliaaDoor
open Go.RowKit Go.Hub Go.Lib

theorem ext_size (l : List UInt8) : (⟨l.toArray⟩ : ByteArray).size = l.length := by show l.toArray.size = _; simp
theorem ext_head (l : List UInt8) (q : Nat) : ((⟨l.toArray⟩ : ByteArray).extract 0 q).data.toList = l.take q := by rw [extract_take]
theorem ext_tail (l : List UInt8) (q : Nat) : ((⟨l.toArray⟩ : ByteArray).extract q (⟨l.toArray⟩ : ByteArray).size).data.toList = l.drop q := by
  rw [ByteArray.data_extract, Array.toList_extract]
  show List.take (l.toArray.size - q) (l.drop q) = l.drop q
  rw [List.take_of_length_le (by simp)]
set_option maxRecDepth 100000 in
set_option maxHeartbeats 2000000 in
theorem parts_walk (v0 v1 : Value) (a p : List UInt8) (k : Int) (w : World) (hT : Tabs w) (h0 : Sl w.heap.size w v0 a) (h1 : Sl w.heap.size w v1 p) (hk : 0 ≤ k ∧ k ≤ 255) :
    Calls Tryd.prog 5 #[v0, v1, .int .u8 k] w fun e w' => e = .returned (.bool true) ∧ Below w.heap.size w w' := by
  have h0' := h0
  have h1' := h1
  obtain ⟨A0, c0, rfl, hb0, hc0, hm0⟩ := h0
  obtain ⟨A1, c1, rfl, hb1, hc1, hm1⟩ := h1
  have HS := hid (And.intro h0' h1')
  have HT := hid hT
  obtain ⟨hk0, hk1⟩ := hk
  clear hb0 hb1 h0' h1' hT
  go_enter Tryd.func5, Tryd.ntmps5
  go_wp2_with fail
  refine (known_any w HT.out).mono ?_
  rintro e w1 ⟨rfl, b1⟩
  have B1 := hid b1
  by_cases g1 : (200 : Int) < (a.length : Int)
  · have g1b : decide ((200 : Int) < (a.length : Int)) = true := by simpa using g1
    clear b1
    go_wp2
    go_ret
    exact ⟨rfl, B1.out⟩
  have g1b : decide ((200 : Int) < (a.length : Int)) = false := by simpa using g1
  by_cases g2 : (60 : Int) < (p.length : Int)
  · have g2b : decide ((60 : Int) < (p.length : Int)) = true := by simpa using g2
    clear b1
    go_wp2
    go_ret
    exact ⟨rfl, B1.out⟩
  have g2b : decide ((60 : Int) < (p.length : Int)) = false := by simpa using g2
  have hpl : p.length ≤ 60 := by omega
  have hal : a.length ≤ 200 := by omega
  clear b1
  go_wp2_with fail
  have HP := HS.out.2.old B1.out
  obtain ⟨A1', c1', e1, hbs, _, _⟩ := HP
  cases e1
  refine (mixed_any [5] w.heap.size A1 c1 p w1 hbs (by omega)).mono ?_
  rintro e w2 ⟨b2, v2, m, rfl, hml, o2, _⟩
  obtain ⟨A2, c2, rfl, _, _⟩ := o2.form
  have p2 := B1.out.trans (b2.mono B1.out.size)
  have t2 := two_new (B := w.heap.size) (HS.out.1.old p2) (Sl.of_own o2) (by omega) (by omega)
  have p3 := p2.trans (((Below.refl w2.heap.size w2).alloc (Nat.le_refl _) (.cells #[.slice A0 a.length c0, .slice A2 m.length c2] 22)).mono p2.size)
  obtain ⟨G, hG⟩ : ∃ G, G = w2.heap.size := ⟨_, rfl⟩
  obtain ⟨W, hW⟩ : ∃ W, W = w2.alloc (.cells #[.slice A0 a.length c0, .slice A2 m.length c2] 22) := ⟨_, rfl⟩
  rw [← hG, ← hW] at t2
  rw [← hW] at p3
  have HG := hid (And.intro t2 p3)
  clear t2 p3 o2 hml p2 b2 hbs
  go_wp2_with fail
  rw [← hG, ← hW]
  clear hG hW
  go_loopg [27] 2 (fun g v wr => ∃ j : Nat, j + g = 2 ∧ v = .int .i64 j ∧ Hid (Two w.heap.size wr G ∧ Below w.heap.size w wr))
  case atStart => exact ⟨0, rfl, rfl, HG⟩
  case round =>
    obtain ⟨j, hj, rfl, hR⟩ := hrel
    obtain ⟨wo, rfl⟩ : ∃ wo : World, wo = wr := ⟨_, rfl⟩
    by_cases hlt : j < 2
    · obtain ⟨v, l, hcell, ⟨A, c, rfl, hbs, hc1, hc2⟩, hl⟩ := hR.out.1.2 j hlt
      have hj2 : (j : Int) < 2 := by omega
      have hcv := hbs.conv (P := Tryd.prog) (c := c) Tryd.underlying22 Tryd.underlying5 Tryd.underlying9
      have HI := hid hj
      have HBS := hid hbs
      have HL := hid (rw_len_le l)
      clear hj hlt hbs
      go_wp2_with fail
      refine (count_any ⟨l.toArray⟩ wo (by rw [ext_size]; unfold maxLen; omega)).mono ?_
      rintro e w3 ⟨rfl, b3⟩
      rw [show ((rwl (⟨l.toArray⟩ : ByteArray).data.toList).length : Nat) = (rwl l).length from rfl]
      obtain ⟨R, hRR⟩ : ∃ R, R = (rwl l).length := ⟨_, rfl⟩
      have hrl : R ≤ 1000 := by rw [hRR]; have := HL.out; omega
      obtain ⟨n, hn⟩ : ∃ n : Nat, k % ((R : Int) + 1) = (n : Int) := ⟨(k % ((R : Int) + 1)).toNat, by have := Int.emod_nonneg k (show ((R : Int) + 1) ≠ 0 by omega); omega⟩
      have hnR : n ≤ R := by have := Int.emod_lt_of_pos k (show (0 : Int) < (R : Int) + 1 by omega); omega
      rw [← hRR]
      have HB3 := hid b3
      have HR0 := hid hRR
      clear hcv hcell b3 hRR
      go_wp2_with fail
      rw [hn]
      with_reducible refine (place_any ⟨l.toArray⟩ n w3 (by rw [ext_size]; unfold maxLen; omega)).mono ?_
      rintro e w4 ⟨rfl, b4⟩
      have hRR := HR0.out
      rw [show placeL (⟨l.toArray⟩ : ByteArray).data.toList (n : Int) = (wsum n l : Int) from placeL_at (by rw [hRR] at hnR; exact hnR)]
      have b34 := HB3.out.trans (b4.mono HB3.out.size)
      have hq := wsum_le l n
      have hsz := ext_size l
      have e1 : (⟨(cutI (⟨l.toArray⟩ : ByteArray).data.toList (n : Int)).toArray⟩ : ByteArray) = (⟨l.toArray⟩ : ByteArray).extract 0 (wsum n l) := by
        rw [extract_take]
        have : cutI l (n : Int) = l.take (wsum n l) := by
          unfold cutI cutL
          rw [if_neg (by omega), Int.toNat_natCast]
        rw [← this]
      have e2 : (rwl ((⟨l.toArray⟩ : ByteArray).extract 0 (wsum n l)).data.toList).length = n := by
        rw [ext_head, rw_take, List.length_take]; rw [← hRR]; omega
      have e3 : ((rwl ((⟨l.toArray⟩ : ByteArray).extract (wsum n l) (⟨l.toArray⟩ : ByteArray).size).data.toList).length : Int) = (R : Int) - (n : Int) := by
        rw [ext_tail, rw_drop, List.length_drop]; rw [← hRR]; omega
      obtain ⟨q, hqq⟩ : ∃ q, q = wsum n l := ⟨_, rfl⟩
      obtain ⟨s, hss⟩ : ∃ s : ByteArray, s = ⟨l.toArray⟩ := ⟨_, rfl⟩
      have hcnt : (rwl s.data.toList).length = R := by rw [hss, hRR]
      rw [← hqq] at e1 e2 e3 hq ⊢
      rw [← hss] at e1 e2 e3 hsz
      have HE := hid (And.intro (And.intro e1 hcnt) (And.intro e2 (And.intro e3 hss)))
      have HZ := hid hsz
      have hq2 : (q : Int) ≤ (s.size : Int) := by omega
      have hs1 : s.size ≤ 1000 := by omega
      have hn2 : k % ((R : Int) + 1) = (n : Int) := hn
      have HRR := hid (And.intro hRR hqq)
      have HB4 := hid b34
      rw [← hss]
      clear e1 e2 e3 hcnt hsz hqq hRR hss b4 b34 hq hn hn2
      have C0 := hid (fun (w : World) => show Calls Tryd.prog 19 #[.string s, .int .i64 (n : Int)] w fun e w' => e = .returned (.string (s.extract 0 q)) ∧ Below w.heap.size w w' from by
        have := cut_any s n w (by unfold maxLen; omega)
        rwa [HE.out.1.1] at this)
      have C1 := hid (fun (w : World) => show Calls Tryd.prog 14 #[.string (s.extract 0 q)] w fun e w' => e = .returned (.int .i64 (n : Int)) ∧ Below w.heap.size w w' from by
        have := count_any (s.extract 0 q) w (by rw [ByteArray.size_extract]; unfold maxLen; omega)
        rwa [HE.out.2.1] at this)
      have C2 := hid (fun (w : World) => show Calls Tryd.prog 14 #[.string (s.extract q s.size)] w fun e w' => e = .returned (.int .i64 ((R : Int) - (n : Int))) ∧ Below w.heap.size w w' from by
        have := count_any (s.extract q s.size) w (by rw [ByteArray.size_extract]; unfold maxLen; omega)
        rwa [HE.out.2.2.1] at this)
      have C3 := hid (fun (w : World) => show Calls Tryd.prog 14 #[.string s] w fun e w' => e = .returned (.int .i64 (R : Int)) ∧ Below w.heap.size w w' from by
        have := count_any s w (by unfold maxLen; omega)
        rwa [HE.out.1.2] at this)
      have m1 : IntKind.i64.wrap ((R : Int) - (n : Int)) = (R : Int) - (n : Int) := IntWalk.i64_in _ (by omega)
      have m2 : (0 : Int) ≤ (q : Int) := by omega
      have m3 : decide ((q : Int) < 0) = false := by simp
      have m4 : decide (s.size < q) = false := by simp; omega
      go_wp2_with fail
      go_region_held3 (fun w' => True) (trivial)
        (first
          | (go_at_call_of 19 (s); refine (C0.out _).mono ?_; rintro e w5 ⟨rfl, b5⟩)
          | (go_at_call_of 14 (s.extract 0 q); refine (C1.out _).mono ?_; rintro e w6 ⟨rfl, b6⟩)
          | (go_at_call_of 14 (s.extract q s.size); refine (C2.out _).mono ?_; rintro e w7 ⟨rfl, b7⟩)
          | (go_at_call_of 14 (s); refine (C3.out _).mono ?_; rintro e w8 ⟨rfl, b8⟩))
      have q5 := (HB4.out.drew).trans (b5.mono HB4.out.drew.size)
      have q6 := q5.trans (b6.mono q5.size)
      have q7 := q6.trans (b7.mono q6.size)
      have q8 := q7.trans (b8.mono q7.size)
      have p8 := hR.out.2.trans (q8.mono hR.out.2.size)
      have hbs8 := HBS.out.same (.of_below q8)
      have ht8 := HT.out.old p8
      clear b5 b6 b7 b8 q5 q6 q7 m1 m2 m3 m4
      go_wp2_with fail
      refine (chk_any [5] w.heap.size A c l w8 ht8 hbs8 hc1 hc2).mono ?_
      rintro e w9 ⟨rfl, b9⟩
      have q9 := q8.trans (b9.mono q8.size)
      clear b9 q8 p8 hbs8 ht8
      by_cases hz : chk l < 0
      · have hzb : decide (chk l < 0) = true := by simpa using hz
        have hei := enc_runes l (chk_neg l hz)
        have HX := hid hei
        clear hei
        go_wp2_with fail
        refine (runes_any s w9 (by omega)).mono ?_
        rintro e w10 ⟨b10, v10, rfl, o10, _⟩
        rw [show (rwl s.data.toList).length = R from HE.out.1.2, show runesL s.data.toList = runesL l by rw [HE.out.2.2.2]] at o10
        obtain ⟨A10, c10, rfl, _, _⟩ := o10.form
        have q10 := q9.trans (b10.mono q9.size)
        have r10 := o10.rds
        have hrn : R = (runesL l).length := by rw [runes_len]; exact HR0.out
        rw [hrn] at r10
        have HRN := hid hrn
        clear b10 q9 o10 hrn
        go_wp2_with fail
        rw [HRN.out]
        refine (back_any A10 c10 (runesL l) w10 r10).mono ?_
        rintro e w11 ⟨rfl, rfl⟩
        rw [HX.out, ← HE.out.2.2.2]
        have HF2 := hid (show Two w.heap.size w11 G ∧ Below w.heap.size w w11 from ⟨hR.out.1.old q10, hR.out.2.trans (q10.mono hR.out.2.size)⟩)
        clear q10 r10
        go_wp2
        go_roundg (gk - 1)
        case measure => have := HI.out; omega
        case rel => exact ⟨j + 1, by have := HI.out; omega, by go_num, HF2⟩
      · have hzb : decide (chk l < 0) = false := by simpa using hz
        have HF2 := hid (show Two w.heap.size w9 G ∧ Below w.heap.size w w9 from ⟨hR.out.1.old q9, hR.out.2.trans (q9.mono hR.out.2.size)⟩)
        clear q9
        go_wp2
        go_roundg (gk - 1)
        case measure => have := HI.out; omega
        case rel => exact ⟨j + 1, by have := HI.out; omega, by go_num, HF2⟩
    · have hj2 : ¬ (j : Int) < 2 := by omega
      clear hj hlt
      go_wp2
      go_ret
      exact ⟨rfl, hR.out.2⟩
end Go.Proofs.YtpjapcgidjoliaaDoor
