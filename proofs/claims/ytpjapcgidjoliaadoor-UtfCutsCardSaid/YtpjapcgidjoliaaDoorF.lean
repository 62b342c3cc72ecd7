/- The contracts of both Runes. -/
import Derived.Test.YtpjapcgidjoliaaDoorE
set_option linter.all false
namespace Go.Proofs.YtpjapcgidjoliaaDoor
open Go.RowKit Go.Hub Go.Lib

def RunesPost (l : List UInt8) (w : World) (e : Ending) (w' : World) : Prop :=
  Below w.heap.size w w' ∧ ∃ v, e = .returned v ∧ Own w' 21 1 v (rwl l).length (i32s (runesL l)) ∧ ∀ k, v.ownBlock = some k → w.heap.size ≤ k
theorem runes_len (l : List UInt8) : (runesL l).length = (rwl l).length := by simp [runesL]
theorem runes_at {l : List UInt8} {k : Nat} (h : wsum k l < l.length) : (runesL l)[k]? = some ((decodeL (l.drop (wsum k l))).1 : Int) := by
  unfold runesL
  rw [List.getElem?_map, rw_at h]
  rfl
theorem runes_end {w wr w2 : World} {A1 : Option Addr} {n c1 : Nat} {v2 : Value} {ns : List Int} {x : Int} {B : Nat} {o : Obj} (hb : Below B w wr) (hB : B ≤ wr.heap.size) (hk : ∀ k, (Value.slice A1 n c1).ownBlock = some k → B ≤ k)
    (hx : ns[n]? = some x) (o2 : Own w2 21 1 v2 (n + 1) (i32s (ns.take n) ++ [.int .i32 x])) (k2 : Kept (Value.slice A1 n c1).ownBlock.toList (wr.alloc o) w2)
    (at2 : ∀ k, v2.ownBlock = some k → (Value.slice A1 n c1).ownBlock = some k ∨ (wr.alloc o).heap.size ≤ k) :
    Own w2 21 1 v2 (n + 1) (i32s (ns.take (n + 1))) ∧ Below B w w2 ∧ ∀ k, v2.ownBlock = some k → B ≤ k := by
  have k1 : Kept [] wr (wr.alloc o) := (Kept.refl _ _).alloc _
  refine ⟨?_, (hb.trans (k1.below (by simp) hB)).trans (k2.below (fun x hx => hk x (by simpa using hx)) (by simp; omega)), fun k hkk => ?_⟩
  · rw [List.take_succ, hx]
    have e : i32s (List.take n ns ++ (some x).toList) = i32s (ns.take n) ++ [.int .i32 x] := by simp [i32s]
    rw [e]
    exact o2
  · rcases at2 k hkk with h | h
    · exact hk k h
    · simp at h; omega
set_option maxRecDepth 100000 in
set_option maxHeartbeats 8000000 in
theorem runes_any (s : ByteArray) (w : World) (hs : s.size ≤ 1000000) : Calls Tryd.prog 16 #[.string s] w (RunesPost s.data.toList w) := by
  obtain ⟨i0, hi0, hz0, hz1, hz2⟩ := info_parts info21
  obtain ⟨l, hl⟩ : ∃ l, l = s.data.toList := ⟨_, rfl⟩
  have hsz : s.size = l.length := by rw [hl]; exact Lib.size_eq s
  have HL := hid hl
  rw [← hl]
  have HR := hid (rw_len_le l)
  have HZ := hid hsz
  clear hl hsz
  go_enter Tryd.func16, Tryd.ntmps16
  go_wp2
  go_loopg [3] s.size (fun g v wr => ∃ k : Nat, wr.heap[w.heap.size]? = some (.stringIter s (wsum k l)) ∧ k ≤ (rwl l).length ∧ Own wr 21 1 v k (i32s ((runesL l).take k)) ∧ Below w.heap.size w wr ∧ (∀ b, v.ownBlock = some b → w.heap.size ≤ b) ∧ wsum k l + g = s.size)
  case atStart => exact ⟨0, by rw [wsum_zero]; exact iter_new w s, by omega, by simpa [i32s] using Own.nil _ _ _, iter_below _ _ _, by simp [Value.ownBlock], by rw [wsum_zero]; omega⟩
  case round =>
    obtain ⟨k, hit, hk, ho, hB, hown, hg⟩ := hrel
    obtain ⟨A1, c1, rfl, hc1, hc2⟩ := ho.form
    by_cases hp : wsum k l < s.size
    · have hnx : ∀ ty, (Instr.next (.pointer (some ⟨w.heap.size, 0, none⟩)) true ty).run Tryd.prog wr = _ := fun ty => run_next_any_at wr w.heap.size s (wsum k l) ty hit hp
      have hp' : wsum k l < l.length := by rw [← HZ.out]; exact hp
      have hn := wsum_next hp'
      have hwd := decodeL_width (l.drop (wsum k l))
      have hdc : Utf8.decode s (wsum k l) = decodeL (l.drop (wsum k l)) := by rw [HL.out, decodeL_drop]
      rw [hdc, ← hn.1] at hnx
      have hra := runes_at hp'
      obtain ⟨r, hr⟩ : ∃ r, r = (decodeL (l.drop (wsum k l))).1 := ⟨_, rfl⟩
      rw [← hr] at hnx hra
      have HN := hid hn
      have HQ := hid (And.intro hwd (show wsum (k + 1) l ≤ s.size by rw [HZ.out]; exact wsum_le l _))
      have HG := hid hg
      have HI := hid (iterAt_heap wr w.heap.size s _ (wsum (k + 1) l) hit)
      have ho2 := ho.iterAt hit (wsum (k + 1) l)
      have HB := hid (below_iterAt hB (Nat.le_refl _) s (wsum (k + 1) l))
      have HS := hid (show w.heap.size ≤ (wr.iterAt w.heap.size s (wsum (k + 1) l)).heap.size by rw [iterAt_size]; exact hB.size)
      have HW := hid hown
      have HX := hid hra
      have hk2 : (rwl l).length ≤ 1000000 := by have := HR.out; have := HZ.out; omega
      have hk3 : k < (rwl l).length := hn.2
      have hown1 := ho2.alloc (.cells #[.int .i32 r] 21)
      have hrd := Rds.boxed (wr.iterAt w.heap.size s (wsum (k + 1) l)) #[.int .i32 r] 21 1 rfl
      obtain ⟨W, hW⟩ : ∃ W, W = wr.iterAt w.heap.size s (wsum (k + 1) l) := ⟨_, rfl⟩
      rw [← hW] at hnx hown1 hrd HI HB HS
      have HIK := hid (show ∀ b, (Value.slice A1 k c1).ownBlock = some b → b ≠ w.heap.size from fun b hb he => by
        obtain ⟨_, cs, hcs⟩ := ho.blk b hb
        rw [he, hit] at hcs; cases hcs)
      clear hW hra hr hwd hdc hn hp' hg hit ho ho2 hB hown hk
      go_wp2_with (first
        | (at_builtin
           refine wpList_append_own' _ rfl (.tmp 11) (.tmp 13) _ rfl 21 i0 _ 1 4 Tryd.underlying26 hi0 hz0 hz1 hz2 rfl (by omega) (.slice A1 k c1) k _ rfl hown1 _ _ _ _ _ rfl hrd (by simp [Value.oneCell']) (by unfold maxLen; omega) (by omega) ?_
           intro v2 w2 o2 k2 at2))
      have HF := hid (runes_end HB.out HS.out HW.out HX.out o2 k2 at2)
      have HIT := hid (iter_stays (iter_stays HI.out ((Kept.refl [] W).alloc (.cells #[.int .i32 r] 21)) (by simp)) k2 (fun hm => HIK.out _ (by simpa using hm) rfl))
      clear o2 k2 at2 hown1 hrd
      go_wp2
      go_roundg (s.size - wsum (k + 1) l)
      case measure => have h1 := HG.out; have h2 := HQ.out; have h3 := HN.out.1; omega
      case rel => exact ⟨k + 1, HIT.out, by omega, HF.out.1, HF.out.2.1, HF.out.2.2, by have := HQ.out.2; omega⟩
    · have hnx : ∀ ty, (Instr.next (.pointer (some ⟨w.heap.size, 0, none⟩)) true ty).run Tryd.prog wr = _ := fun ty => run_next_end_at wr w.heap.size s (wsum k l) ty hit hp
      have hkc : k = (rwl l).length := by have := wsum_end (l := l) (k := k) (by rw [← HZ.out]; exact hp); omega
      have HO := hid (And.intro ho (And.intro hB hown))
      have HK := hid hkc
      clear ho hB hown hg hk hkc hit
      go_wp2
      go_ret
      refine ⟨HO.out.2.1, _, rfl, ?_, HO.out.2.2⟩
      have := HO.out.1
      rw [List.take_of_length_le (by rw [runes_len, HK.out]; exact Nat.le_refl _)] at this
      rw [← HK.out]
      exact this
end Go.Proofs.YtpjapcgidjoliaaDoor
