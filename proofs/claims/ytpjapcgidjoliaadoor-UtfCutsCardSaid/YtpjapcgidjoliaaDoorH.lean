/- The contracts of the document's Place, Cut. -/
import Derived.Test.YtpjapcgidjoliaaDoorG
set_option linter.all false
namespace Go.Proofs.YtpjapcgidjoliaaDoor
open Go.RowKit Go.Hub Go.Lib

set_option maxRecDepth 100000 in
set_option maxHeartbeats 1000000 in
theorem placeR_any (s : ByteArray) (n : Int) (w : World) (hs : s.size ≤ 1000000) (hn : -9223372036854775808 ≤ n ∧ n ≤ 9223372036854775807) :
    Calls Tryd.prog 18 #[.string s, .int .i64 n] w fun e w' => e = .returned (.int .i64 (placeL s.data.toList n)) ∧ Below w.heap.size w w' := by
  obtain ⟨l, hl⟩ : ∃ l, l = s.data.toList := ⟨_, rfl⟩
  have hsz : s.size = l.length := by rw [hl]; exact Lib.size_eq s
  have kconv := run_bytes_of_string w 9 22 5 s Tryd.underlying9 Tryd.underlying22 Tryd.underlying5
  have hge := grownCap_ge w s.size 0 5
  have hle := grownCap_le_maxLen w s.size 0 5 (by unfold maxLen; omega)
  have hbs := fun cap fr => bs_conv [5] 0 w s 5 (by simp) cap fr
  obtain ⟨cap, hcap⟩ : ∃ cap, cap = grownCap w s.size 0 5 := ⟨_, rfl⟩
  rw [← hcap] at kconv hge hle
  rw [← hl] at hbs ⊢
  rw [hsz] at kconv hge
  obtain ⟨row, hrow⟩ : ∃ row, row = bytesRow s cap := ⟨_, rfl⟩
  have hbs1 := hbs cap (row.size, row.size + 1)
  rw [← hrow] at kconv hbs1
  have hbw : Below w.heap.size w (w.drew.alloc (.cells row 5 (row.size, row.size + 1))) := ((Below.refl _ _).drew).alloc (Nat.le_refl _) _
  obtain ⟨W0, hW0⟩ : ∃ W, W = w.drew.alloc (.cells row 5 (row.size, row.size + 1)) := ⟨_, rfl⟩
  rw [← hW0] at kconv hbs1 hbw
  have HR := hid (rw_len_le l)
  have HB0 := hid (And.intro hbs1 hbw)
  have hll : l.length ≤ 1000000 := by omega
  unfold maxLen at hle
  clear hl hsz hcap hrow hW0 hbs hbs1 hbw hs
  go_enter Tryd.func18, Tryd.ntmps18
  go_wp2
  go_loopg [1, 6] l.length (fun g v iv wr => ∃ k : Nat, iv = .int .i64 (wsum k l) ∧ v = .int .i64 (n - k) ∧ k ≤ (rwl l).length ∧ (k = 0 ∨ (k : Int) ≤ n) ∧ wr = W0 ∧ wsum k l + g = l.length)
  case atStart => exact ⟨0, by rw [wsum_zero]; rfl, by simp, by omega, .inl rfl, rfl, by rw [wsum_zero]; omega⟩
  case round =>
    obtain ⟨k, rfl, rfl, hk, hkn, hwe, hg⟩ := hrel
    subst hwe
    by_cases hp : wsum k l < l.length
    · have hi2 : (wsum k l : Int) < (l.length : Int) := by omega
      by_cases hnk : (k : Int) < n
      · have hn1 : (0 : Int) < n - k := by omega
        have hnw := wsum_next hp
        have hwd := decodeL_width (l.drop (wsum k l))
        have hstp := step_at (cap := cap - wsum k l) HB0.out.1 hp (by unfold maxLen; omega)
        rw [Nat.zero_add] at hstp
        have hi3 : (wsum k l : Int) ≤ (cap : Int) := by omega
        have hci : ¬ cap = wsum k l := by omega
        have hwl := wsum_le l (k + 1)
        obtain ⟨i, hi⟩ : ∃ i, i = wsum k l := ⟨_, rfl⟩
        obtain ⟨i', hi'⟩ : ∃ i, i = wsum (k + 1) l := ⟨_, rfl⟩
        obtain ⟨r, hr⟩ : ∃ r, r = decodeL (l.drop (wsum k l)) := ⟨_, rfl⟩
        have hsv : stepV (l.drop (wsum k l)) = .tuple #[.int .i32 ((if badL (l.drop (wsum k l)) then 0 else r.1 : Nat) : Int), .int .i64 (r.2 : Int), .bool (!badL (l.drop (wsum k l)))] := by rw [hr]; rfl
        rw [hsv] at hstp
        have hn2 := hnw.1
        rw [← hr] at hn2 hwd
        obtain ⟨x, hx⟩ : ∃ x : Nat, x = if badL (l.drop (wsum k l)) then 0 else r.1 := ⟨_, rfl⟩
        obtain ⟨y, hy⟩ : ∃ y, y = !badL (l.drop (wsum k l)) := ⟨_, rfl⟩
        rw [← hx, ← hy] at hstp
        rw [← hi] at hstp hi2 hi3 hci hn2 hg ⊢
        rw [← hi'] at hn2 hwl
        have HN := hid (And.intro hnw.2 (And.intro hn2 hwd))
        have HG := hid hg
        have HI' := hid (And.intro hi' hwl)
        have HK := hid hkn
        have hi5 : i + r.2 ≤ 1000000 := by omega
        clear hr hn2 hi hi' hsv hwd hwl hp hnw hk hx hy hg hkn
        go_wp2_with fail
        with_reducible refine hstp.mono ?_
        rintro e w1 ⟨rfl, rfl⟩
        clear hstp
        go_wp2
        go_roundg (l.length - i')
        case measure => have h1 := HG.out; have h2 := HN.out; have h3 := HI'.out; omega
        case rel =>
          refine ⟨k + 1, by rw [← HI'.out.1, HN.out.2.1]; go_num, by go_num, by have := HN.out.1; omega, .inr (by omega), rfl, ?_⟩
          rw [← HI'.out.1]
          have := HI'.out.2
          omega
      · have hn1 : ¬ (0 : Int) < n - k := by omega
        by_cases hz : n = k
        · have hzb : (n - (k : Int) != 0) = false := by simp; omega
          have HE := hid (show placeL l n = (wsum k l : Int) by rw [hz]; exact placeL_at hk)
          clear hz hk hkn hg hp hnk
          go_wp2
          go_ret
          exact ⟨by rw [HE.out]; rfl, HB0.out.2⟩
        · have hzb : (n - (k : Int) != 0) = true := by simp; omega
          have HE := hid (show placeL l n = -1 from placeL_no (by omega))
          clear hz hk hkn hg hp hnk
          go_wp2
          go_ret
          exact ⟨by rw [HE.out]; rfl, HB0.out.2⟩
    · have hi2 : ¬ (wsum k l : Int) < (l.length : Int) := by omega
      have hkc : k = (rwl l).length := by have := wsum_end hp; omega
      by_cases hz : n = k
      · have hzb : (n - (k : Int) != 0) = false := by simp; omega
        have HE := hid (show placeL l n = (wsum k l : Int) by rw [hz]; exact placeL_at hk)
        clear hz hk hkn hg hp hkc
        go_wp2
        all_goals
          go_ret
          exact ⟨by rw [HE.out]; rfl, HB0.out.2⟩
      · have hzb : (n - (k : Int) != 0) = true := by simp; omega
        have HE := hid (show placeL l n = -1 from placeL_no (by omega))
        clear hz hk hkn hg hp hkc
        go_wp2
        all_goals
          go_ret
          exact ⟨by rw [HE.out]; rfl, HB0.out.2⟩
set_option maxRecDepth 100000 in
set_option maxHeartbeats 1000000 in
theorem cutR_any (s : ByteArray) (n : Int) (w : World) (hs0 : s.size ≤ 1000000) (hnn : -9223372036854775808 ≤ n ∧ n ≤ 9223372036854775807) :
    Calls Tryd.prog 20 #[.string s, .int .i64 n] w fun e w' => e = .returned (.string ⟨(cutI s.data.toList n).toArray⟩) ∧ Below w.heap.size w w' := by
  by_cases hn : n < 0
  · have HE := hid (cutI_neg (l := s.data.toList) hn)
    go_enter Tryd.func20, Tryd.ntmps20
    go_wp2
    go_ret
    exact ⟨by rw [HE.out]; rfl, Below.refl _ _⟩
  · have hp := placeR_any s n w hs0 hnn
    have hsz : s.data.toList.length = s.size := (Lib.size_eq s).symm
    have hle := placeL_le s.data.toList n
    obtain ⟨p, hpe⟩ : ∃ p, p = placeL s.data.toList n := ⟨_, rfl⟩
    rw [← hpe] at hp hle
    rw [hsz] at hle
    have HP := hid hpe
    clear hpe hsz
    by_cases hp0 : 0 ≤ p
    · obtain ⟨q, rfl⟩ := Int.eq_ofNat_of_zero_le hp0
      have hq1 : (q : Int) ≤ (s.size : Int) := hle.1
      have hq2 : q ≤ s.size := by omega
      have HE := hid (show cutI s.data.toList n = s.data.toList.take q by rw [cutI_at (by rw [← HP.out]; exact hp0), ← HP.out, Int.toNat_natCast])
      go_enter Tryd.func20, Tryd.ntmps20
      go_wp2_with fail
      with_reducible refine hp.mono ?_
      rintro e w1 ⟨rfl, hb⟩
      have HB := hid hb
      clear hb hle hp
      go_wp2
      go_ret
      exact ⟨by rw [HE.out, ← extract_take]; rfl, HB.out⟩
    · have HE := hid (show cutI s.data.toList n = s.data.toList from cutI_all (by omega) (by rw [← HP.out]; omega))
      have hp1 : p < 0 := by omega
      go_enter Tryd.func20, Tryd.ntmps20
      go_wp2_with fail
      with_reducible refine hp.mono ?_
      rintro e w1 ⟨rfl, hb⟩
      have HB := hid hb
      clear hb hle hp
      go_wp2
      go_ret
      exact ⟨by rw [HE.out]; rfl, HB.out⟩
end Go.Proofs.YtpjapcgidjoliaaDoor
