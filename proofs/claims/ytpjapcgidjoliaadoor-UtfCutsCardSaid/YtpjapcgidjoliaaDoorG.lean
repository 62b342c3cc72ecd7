/- The contracts of the document's Runes, Place, Cut. -/
import Derived.Test.YtpjapcgidjoliaaDoorF
set_option linter.all false
namespace Go.Proofs.YtpjapcgidjoliaaDoor
open Go.RowKit Go.Hub Go.Lib

/-- step at a place of a slice -/
theorem step_at {E : List TypeId} {B : Nat} {b off cap : Nat} {l : List UInt8} {w : World} (h : Bs E B w (some ⟨b, off, none⟩) l.length l) {i : Nat} (hi : i < l.length) (hbig : l.length ≤ maxLen) :
    Calls Tryd.prog 23 #[.slice (some ⟨b, off + i, none⟩) (l.length - i) cap] w fun e w' => e = .returned (stepV (l.drop i)) ∧ w' = w := by
  obtain ⟨b', off', he, hc⟩ := Bs_cells h (by omega)
  cases he
  have := step_any b (off + i) cap (l.drop i) w (by rw [List.length_drop]; omega) (by rw [List.length_drop]; omega) (drop_cells hc i)
  rwa [List.length_drop] at this

set_option maxRecDepth 100000 in
set_option maxHeartbeats 1000000 in
theorem runesR_any (s : ByteArray) (w : World) (hs : s.size ≤ 1000000) : Calls Tryd.prog 11 #[.string s] w (RunesPost s.data.toList w) := by
  obtain ⟨i0, hi0, hz0, hz1, hz2⟩ := info_parts info21
  obtain ⟨l, hl⟩ : ∃ l, l = s.data.toList := ⟨_, rfl⟩
  have hsz : s.size = l.length := by rw [hl]; exact Lib.size_eq s
  have kconv := run_bytes_of_string w 9 22 5 s Tryd.underlying9 Tryd.underlying22 Tryd.underlying5
  have hge := grownCap_ge w s.size 0 5
  have hle := grownCap_le_maxLen w s.size 0 5 (by unfold maxLen; omega)
  have hbs := fun cap fr => bs_conv [5] 0 w s 5 (by simp) cap fr
  obtain ⟨cap, hcap⟩ : ∃ cap, cap = grownCap w s.size 0 5 := ⟨_, rfl⟩
  rw [← hcap] at kconv hge hle
  rw [← hl] at hbs ⊢
  rw [hsz] at kconv hge
  obtain ⟨row, hrow⟩ : ∃ row, row = bytesRow s cap := ⟨_, rfl⟩
  have hbs1 := hbs cap (row.size, row.size + 1)
  rw [← hrow] at kconv hbs1
  have hbw : Below w.heap.size w (w.drew.alloc (.cells row 5 (row.size, row.size + 1))) := ((Below.refl _ _).drew).alloc (Nat.le_refl _) _
  obtain ⟨W0, hW0⟩ : ∃ W, W = w.drew.alloc (.cells row 5 (row.size, row.size + 1)) := ⟨_, rfl⟩
  rw [← hW0] at kconv hbs1 hbw
  have HR := hid (rw_len_le l)
  have HB0 := hid (And.intro hbs1 hbw)
  have hll : l.length ≤ 1000000 := by omega
  unfold maxLen at hle
  clear hl hsz hcap hrow hW0 hbs hbs1 hbw hs
  go_enter Tryd.func11, Tryd.ntmps11
  go_wp2
  go_loopg [3, 5] l.length (fun g v iv wr => ∃ k : Nat, iv = .int .i64 (wsum k l) ∧ k ≤ (rwl l).length ∧ Own wr 21 1 v k (i32s ((runesL l).take k)) ∧ Bs [5] 0 wr (some ⟨w.heap.size, 0, none⟩) l.length l ∧ Below w.heap.size w wr ∧ (∀ b, v.ownBlock = some b → w.heap.size ≤ b) ∧ wsum k l + g = l.length)
  case atStart => exact ⟨0, by rw [wsum_zero]; rfl, by omega, by simpa [i32s] using Own.nil _ _ _, HB0.out.1, HB0.out.2, by simp [Value.ownBlock], by rw [wsum_zero]; omega⟩
  case round =>
    obtain ⟨k, rfl, hk, ho, hbs, hB, hown, hg⟩ := hrel
    obtain ⟨A1, c1, rfl, hc1, hc2⟩ := ho.form
    by_cases hp : wsum k l < l.length
    · have hn := wsum_next hp
      have hwd := decodeL_width (l.drop (wsum k l))
      have hra := runes_at hp
      have hstp := step_at (cap := cap - wsum k l) hbs hp (by unfold maxLen; omega)
      rw [Nat.zero_add] at hstp
      have hi2 : (wsum k l : Int) < (l.length : Int) := by omega
      have hi3 : (wsum k l : Int) ≤ (cap : Int) := by omega
      have hci : ¬ cap = wsum k l := by omega
      have hn1 := hn.1
      have hwl := wsum_le l (k + 1)
      obtain ⟨i, hi⟩ : ∃ i, i = wsum k l := ⟨_, rfl⟩
      obtain ⟨i', hi'⟩ : ∃ i, i = wsum (k + 1) l := ⟨_, rfl⟩
      obtain ⟨r, hr⟩ : ∃ r, r = decodeL (l.drop (wsum k l)) := ⟨_, rfl⟩
      have hbad : badL (l.drop (wsum k l)) = (r.1 == 65533 && r.2 == 1) := by rw [hr]; rfl
      have hsv : stepV (l.drop (wsum k l)) = .tuple #[.int .i32 ((if badL (l.drop (wsum k l)) then 0 else r.1 : Nat) : Int), .int .i64 (r.2 : Int), .bool (!badL (l.drop (wsum k l)))] := by rw [hr]; rfl
      rw [hsv] at hstp
      rw [← hr] at hra hn1 hwd
      rw [← hi] at hstp hbad hi2 hi3 hci hn1 hg hp ⊢
      rw [← hi'] at hn1 hwl
      have HN := hid (And.intro hn.2 (And.intro hn1 hwd))
      have HG := hid hg
      have HI' := hid hi'
      have hk2 : (rwl l).length ≤ 1000000 := by have := HR.out; omega
      have hk3 : k < (rwl l).length := hn.2
      have hi5 : i + r.2 ≤ 1000000 := by omega
      have HX := hid hra
      have HO := hid (And.intro ho (And.intro hbs (And.intro hB hown)))
      have hown1 := ho.alloc (.cells #[.int .i32 (r.1 : Int)] 21)
      have hrd := Rds.boxed wr #[.int .i32 (r.1 : Int)] 21 1 rfl
      obtain ⟨bd, hbd⟩ : ∃ bd, bd = badL (l.drop i) := ⟨_, rfl⟩
      rw [← hbd] at hstp hbad
      have hbad' : bd = true → (r.1 : Int) = 65533 := by
        intro h
        rw [h] at hbad
        have := hbad.symm
        simp at this
        omega
      clear hr hn hra hi hi' hbd hsv hn1 hwd hwl hp ho hbs hB hown hk hbad hg
      cases bd
      · clear hbad'
        go_wp2_with fail
        with_reducible refine hstp.mono ?_
        rintro e w1 ⟨rfl, rfl⟩
        simp only [Bool.false_eq_true, if_false, Bool.not_false]
        clear hstp
        go_wp2_with (first
          | (at_builtin
             refine wpList_append_own' _ rfl (.tmp 25) (.tmp 27) _ rfl 21 i0 _ 1 4 Tryd.underlying26 hi0 hz0 hz1 hz2 rfl (by omega) (.slice A1 k c1) k _ rfl hown1 _ _ _ _ _ rfl hrd (by simp [Value.oneCell']) (by unfold maxLen; omega) (by omega) ?_
             intro v2 w2 o2 k2 at2))
        have HF := hid (runes_end HO.out.2.2.1 HO.out.2.2.1.size HO.out.2.2.2 HX.out o2 k2 at2)
        have HS := hid (HO.out.2.1.same (((Same.refl [5] 0 _).alloc (.cells #[.int .i32 (r.1 : Int)] 21)).trans (.of_kept k2 (fun x hx _ => by
          obtain ⟨_, cs, hcs⟩ := hown1.blk x (by simpa using hx)
          exact ⟨Nat.zero_le _, not_typ_of hcs (by decide)⟩))))
        clear o2 k2 at2 hown1 hrd
        go_wp2
        go_roundg (l.length - i')
        case measure => have h1 := HG.out; have h2 := HN.out; omega
        case rel => exact ⟨k + 1, by rw [← HI'.out, HN.out.2.1]; go_num, by omega, HF.out.1, HS.out, HF.out.2.1, HF.out.2.2, by rw [← HI'.out]; have := HN.out.2.1; have h3 := wsum_le l (k + 1); rw [← HI'.out] at h3; omega⟩
      · have hr1 := hbad' rfl
        rw [hr1] at hown1 hrd HX
        clear hbad'
        go_wp2_with fail
        with_reducible refine hstp.mono ?_
        rintro e w1 ⟨rfl, rfl⟩
        simp only [if_true, Bool.not_true]
        clear hstp hr1
        go_wp2_with (first
          | (at_builtin
             refine wpList_append_own' _ rfl (.tmp 25) (.tmp 27) _ rfl 21 i0 _ 1 4 Tryd.underlying26 hi0 hz0 hz1 hz2 rfl (by omega) (.slice A1 k c1) k _ rfl hown1 _ _ _ _ _ rfl hrd (by simp [Value.oneCell']) (by unfold maxLen; omega) (by omega) ?_
             intro v2 w2 o2 k2 at2))
        have HF := hid (runes_end HO.out.2.2.1 HO.out.2.2.1.size HO.out.2.2.2 HX.out o2 k2 at2)
        have HS := hid (HO.out.2.1.same (((Same.refl [5] 0 _).alloc (.cells #[.int .i32 65533] 21)).trans (.of_kept k2 (fun x hx _ => by
          obtain ⟨_, cs, hcs⟩ := hown1.blk x (by simpa using hx)
          exact ⟨Nat.zero_le _, not_typ_of hcs (by decide)⟩))))
        clear o2 k2 at2 hown1 hrd
        go_wp2
        go_roundg (l.length - i')
        case measure => have h1 := HG.out; have h2 := HN.out; omega
        case rel => exact ⟨k + 1, by rw [← HI'.out, HN.out.2.1]; go_num, by omega, HF.out.1, HS.out, HF.out.2.1, HF.out.2.2, by rw [← HI'.out]; have := HN.out.2.1; have h3 := wsum_le l (k + 1); rw [← HI'.out] at h3; omega⟩
    · have hi2 : ¬ (wsum k l : Int) < (l.length : Int) := by omega
      have hkc : k = (rwl l).length := by have := wsum_end hp; omega
      have HO := hid (And.intro ho (And.intro hB hown))
      have HK := hid hkc
      clear ho hB hown hg hk hkc hp hbs
      go_wp2
      go_ret
      refine ⟨HO.out.2.1, _, rfl, ?_, HO.out.2.2⟩
      have := HO.out.1
      rw [List.take_of_length_le (by rw [runes_len, HK.out]; exact Nat.le_refl _)] at this
      rw [← HK.out]
      exact this
end Go.Proofs.YtpjapcgidjoliaaDoor
