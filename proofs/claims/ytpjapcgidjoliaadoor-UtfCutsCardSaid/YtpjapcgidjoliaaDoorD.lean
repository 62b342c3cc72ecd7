/- The contracts of utf's Count, Place. -/
import Derived.Test.YtpjapcgidjoliaaDoorC
import Derived.Test.YtpjapcgidjoliaaDoorRng
set_option linter.all false
namespace Go.Proofs.YtpjapcgidjoliaaDoor
open Go.RowKit Go.Hub Go.Lib

set_option maxRecDepth 100000 in
set_option maxHeartbeats 4000000 in
theorem count_any (s : ByteArray) (w : World) (hs : s.size ≤ maxLen) :
    Calls Tryd.prog 14 #[.string s] w fun e w' => e = .returned (.int .i64 ((rwl s.data.toList).length : Nat)) ∧ Below w.heap.size w w' := by
  unfold maxLen at hs
  obtain ⟨l, hl⟩ : ∃ l, l = s.data.toList := ⟨_, rfl⟩
  have hsz : s.size = l.length := by rw [hl]; exact Lib.size_eq s
  have HL := hid hl
  rw [← hl]
  have HR := hid (rw_len_le l)
  have HZ := hid hsz
  have hmx : (l.length : Int) ≤ 9223372036854775807 := by omega
  clear hl
  go_enter Tryd.func14, Tryd.ntmps14
  go_wp2
  go_loopg [3] s.size (fun g v wr => ∃ k : Nat, wr = w.iter s (wsum k l) ∧ v = .int .i64 k ∧ k ≤ (rwl l).length ∧ wsum k l + g = s.size)
  case atStart => exact ⟨0, by rw [wsum_zero], rfl, by omega, by rw [wsum_zero]; omega⟩
  case round =>
    obtain ⟨k, rfl, rfl, hk, hg⟩ := hrel
    by_cases hp : wsum k l < s.size
    · have hnx : ∀ ty, (Instr.next (.pointer (some ⟨w.heap.size, 0, none⟩)) true ty).run Tryd.prog (w.iter s (wsum k l)) = _ := fun ty => run_next_any w s (wsum k l) ty hp
      have hn := wsum_next (l := l) (k := k) (by rw [← HZ.out]; exact hp)
      have hwd := decodeL_width (l.drop (wsum k l))
      have hle := decodeL_le (l.drop (wsum k l)) (drop_ne (by rw [← HZ.out]; exact hp))
      have hdc : Utf8.decode s (wsum k l) = decodeL (l.drop (wsum k l)) := by rw [HL.out, decodeL_drop]
      rw [hdc, ← hn.1] at hnx
      have hk2 : (k : Int) < (l.length : Int) := by have := HR.out; omega
      have HN := hid hn
      have HG := hid hg
      rw [List.length_drop] at hle
      have hd := hn.1
      have hle2 : wsum (k + 1) l ≤ s.size := by rw [HZ.out]; exact wsum_le l _
      have HQ := hid (And.intro hwd hle2)
      have HQ2 := hid hd
      clear hn hg hdc hd hwd hle hle2
      go_wp2
      go_roundg (s.size - wsum (k + 1) l)
      case measure => have h1 := HG.out; have h2 := HQ.out; have h3 := HQ2.out; omega
      case rel => exact ⟨k + 1, rfl, by go_num, by have := HN.out.2; omega, by have := HQ.out.2; omega⟩
    · have hnx : ∀ ty, (Instr.next (.pointer (some ⟨w.heap.size, 0, none⟩)) true ty).run Tryd.prog (w.iter s (wsum k l)) = _ := fun ty => run_next_end w s (wsum k l) ty hp
      have HE := hid (show k = (rwl l).length by have := wsum_end (l := l) (k := k) (by rw [← HZ.out]; exact hp); omega)
      clear hg hk
      go_wp2
      go_ret
      exact ⟨by rw [← HE.out]; rfl, iter_below _ _ _⟩

set_option maxRecDepth 100000 in
set_option maxHeartbeats 4000000 in
theorem place_any (s : ByteArray) (n : Int) (w : World) (hs : s.size ≤ maxLen) :
    Calls Tryd.prog 17 #[.string s, .int .i64 n] w fun e w' => e = .returned (.int .i64 (placeL s.data.toList n)) ∧ Below w.heap.size w w' := by
  unfold maxLen at hs
  obtain ⟨l, hl⟩ : ∃ l, l = s.data.toList := ⟨_, rfl⟩
  have hsz : s.size = l.length := by rw [hl]; exact Lib.size_eq s
  have HL := hid hl
  rw [← hl]
  have HR := hid (rw_len_le l)
  have HZ := hid hsz
  have hmx : (l.length : Int) ≤ 9223372036854775807 := by omega
  clear hl hsz
  go_enter Tryd.func17, Tryd.ntmps17
  go_wp2
  go_loopg [5] s.size (fun g v wr => ∃ k : Nat, wr = w.iter s (wsum k l) ∧ v = .int .i64 k ∧ k ≤ (rwl l).length ∧ wsum k l + g = s.size ∧ (n < 0 ∨ (k : Int) ≤ n))
  case atStart => exact ⟨0, by rw [wsum_zero], rfl, by omega, by rw [wsum_zero]; omega, by omega⟩
  case round =>
    obtain ⟨k, rfl, rfl, hk, hg, hnk⟩ := hrel
    by_cases hp : wsum k l < s.size
    · have hnx : ∀ ty, (Instr.next (.pointer (some ⟨w.heap.size, 0, none⟩)) true ty).run Tryd.prog (w.iter s (wsum k l)) = _ := fun ty => run_next_any w s (wsum k l) ty hp
      have hn := wsum_next (l := l) (k := k) (by rw [← HZ.out]; exact hp)
      have hwd := decodeL_width (l.drop (wsum k l))
      have hdc : Utf8.decode s (wsum k l) = decodeL (l.drop (wsum k l)) := by rw [HL.out, decodeL_drop]
      rw [hdc, ← hn.1] at hnx
      have hk2 : (k : Int) < (l.length : Int) := by have := HR.out; omega
      have HN := hid hn
      have HG := hid hg
      have hle2 : wsum (k + 1) l ≤ s.size := by rw [HZ.out]; exact wsum_le l _
      have HQ := hid (And.intro hwd hle2)
      have HM := hid hnk
      have HK := hid hk
      clear hn hg hdc hwd hle2 hnk hk
      by_cases hkn : (k : Int) = n
      · have hkb : ((k : Int) == n) = true := by simp; omega
        have HE := hid (show placeL l n = (wsum k l : Int) by rw [← hkn]; exact placeL_at HK.out)
        clear hkn
        go_wp2
        go_ret
        exact ⟨by rw [HE.out]; rfl, iter_below _ _ _⟩
      · have hkb : ((k : Int) == n) = false := by simp; omega
        have HX := hid hkn
        clear hkn
        go_wp2
        go_roundg (s.size - wsum (k + 1) l)
        case measure => have h1 := HG.out; have h2 := HQ.out; have h3 := HN.out.1; omega
        case rel => exact ⟨k + 1, rfl, by go_num, by have := HN.out.2; omega, by have := HQ.out.2; omega, by have := HM.out; have := HX.out; omega⟩
    · have hnx : ∀ ty, (Instr.next (.pointer (some ⟨w.heap.size, 0, none⟩)) true ty).run Tryd.prog (w.iter s (wsum k l)) = _ := fun ty => run_next_end w s (wsum k l) ty hp
      have hkc : k = (rwl l).length := by have := wsum_end (l := l) (k := k) (by rw [← HZ.out]; exact hp); omega
      have hsw : s.size = wsum k l := by have := wsum_le l k; rw [← HZ.out] at this; omega
      have HW := hid hsw
      have HM := hid (And.intro hkc hnk)
      clear hg hk hkc hsw hnk
      by_cases hkn : (k : Int) = n
      · have hkb : ((k : Int) == n) = true := by simp; omega
        have HE := hid (show placeL l n = (s.size : Int) by rw [← hkn, placeL_at (by have := HM.out.1; omega), HW.out])
        clear hkn
        go_wp2
        go_ret
        exact ⟨by rw [HE.out]; rfl, iter_below _ _ _⟩
      · have hkb : ((k : Int) == n) = false := by simp; omega
        have HE := hid (show placeL l n = -1 from placeL_no (by have := HM.out; omega))
        clear hkn
        go_wp2
        go_ret
        exact ⟨by rw [HE.out]; rfl, iter_below _ _ _⟩

theorem extract_take (s : ByteArray) (n : Nat) : (s.extract 0 n) = ⟨(s.data.toList.take n).toArray⟩ := by
  apply ByteArray.ext
  apply Array.ext'
  rw [ByteArray.data_extract, Array.toList_extract]
  simp
set_option maxRecDepth 100000 in
set_option maxHeartbeats 4000000 in
theorem cut_any (s : ByteArray) (n : Int) (w : World) (hs : s.size ≤ maxLen) :
    Calls Tryd.prog 19 #[.string s, .int .i64 n] w fun e w' => e = .returned (.string ⟨(cutI s.data.toList n).toArray⟩) ∧ Below w.heap.size w w' := by
  by_cases hn : n < 0
  · have HE := hid (cutI_neg (l := s.data.toList) hn)
    go_enter Tryd.func19, Tryd.ntmps19
    go_wp2
    go_ret
    exact ⟨by rw [HE.out]; rfl, Below.refl _ _⟩
  · have hp := place_any s n w hs
    have hsz : s.data.toList.length = s.size := (Lib.size_eq s).symm
    have hle := placeL_le s.data.toList n
    obtain ⟨p, hpe⟩ : ∃ p, p = placeL s.data.toList n := ⟨_, rfl⟩
    rw [← hpe] at hp hle
    rw [hsz] at hle
    have HP := hid hpe
    unfold maxLen at hs
    clear hpe hsz
    by_cases hp0 : 0 ≤ p
    · obtain ⟨q, rfl⟩ := Int.eq_ofNat_of_zero_le hp0
      have hq1 : (q : Int) ≤ (s.size : Int) := hle.1
      have hq2 : q ≤ s.size := by omega
      have HE := hid (show cutI s.data.toList n = s.data.toList.take q by rw [cutI_at (by rw [← HP.out]; exact hp0), ← HP.out, Int.toNat_natCast])
      go_enter Tryd.func19, Tryd.ntmps19
      go_wp2_with fail
      refine hp.mono ?_
      rintro e w1 ⟨rfl, hb⟩
      have HB := hid hb
      clear hb hle hp
      go_wp2
      go_ret
      exact ⟨by rw [HE.out, ← extract_take]; rfl, HB.out⟩
    · have HE := hid (show cutI s.data.toList n = s.data.toList from cutI_all (by omega) (by rw [← HP.out]; omega))
      have hp1 : p < 0 := by omega
      go_enter Tryd.func19, Tryd.ntmps19
      go_wp2_with fail
      refine hp.mono ?_
      rintro e w1 ⟨rfl, hb⟩
      have HB := hid hb
      clear hb hle hp
      go_wp2
      go_ret
      exact ⟨by rw [HE.out]; rfl, HB.out⟩
end Go.Proofs.YtpjapcgidjoliaaDoor
