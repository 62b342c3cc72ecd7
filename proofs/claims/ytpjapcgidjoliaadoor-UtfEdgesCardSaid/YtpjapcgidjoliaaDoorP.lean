/- UtfBack: the walk. -/
import Derived.Test.YtpjapcgidjoliaaDoorN
import Derived.Test.YtpjapcgidjoliaaDoorLoad
set_option linter.all false
namespace Go.Proofs.YtpjapcgidjoliaaDoor
open Go.RowKit Go.Hub Go.Lib

def edges : Array Value := #[.int .i32 97, .int .i32 0, .int .i32 127, .int .i32 128, .int .i32 2047, .int .i32 2048, .int .i32 55295, .int .i32 55296, .int .i32 57343, .int .i32 57344, .int .i32 65535, .int .i32 65536, .int .i32 1114111, .int .i32 1114112, .int .i32 (-1)]
theorem edge_at (q : Nat) (h : q < 15) : ∃ x : Int, edges[q]? = some (.int .i32 x) ∧ -2147483648 ≤ x ∧ x ≤ 2147483647 := by
  match q, h with
  | 0, _ => exact ⟨_, rfl, by omega, by omega⟩
  | 1, _ => exact ⟨_, rfl, by omega, by omega⟩
  | 2, _ => exact ⟨_, rfl, by omega, by omega⟩
  | 3, _ => exact ⟨_, rfl, by omega, by omega⟩
  | 4, _ => exact ⟨_, rfl, by omega, by omega⟩
  | 5, _ => exact ⟨_, rfl, by omega, by omega⟩
  | 6, _ => exact ⟨_, rfl, by omega, by omega⟩
  | 7, _ => exact ⟨_, rfl, by omega, by omega⟩
  | 8, _ => exact ⟨_, rfl, by omega, by omega⟩
  | 9, _ => exact ⟨_, rfl, by omega, by omega⟩
  | 10, _ => exact ⟨_, rfl, by omega, by omega⟩
  | 11, _ => exact ⟨_, rfl, by omega, by omega⟩
  | 12, _ => exact ⟨_, rfl, by omega, by omega⟩
  | 13, _ => exact ⟨_, rfl, by omega, by omega⟩
  | 14, _ => exact ⟨_, rfl, by omega, by omega⟩
  | k + 15, h => omega
theorem encs_len (ns : List Int) : (encs ns).length ≤ 4 * ns.length := by
  induction ns with
  | nil => simp [encs]
  | cons n ns ih =>
    have h := encodeRune_len n
    have e : encs (n :: ns) = encodeRune n ++ encs ns := by simp [encs]
    rw [e, List.length_append, List.length_cons]
    omega
theorem count_encs (ns : List Int) : (rwl (encs ns)).length = ns.length := by
  have := count_enc ns []
  rw [List.append_nil, rw_nil] at this
  simpa using this

set_option maxRecDepth 100000 in
set_option maxHeartbeats 2000000 in
theorem back_walk (v0 v1 : Value) (ns : List Int) (p : List UInt8) (w : World) (hT : Tabs w) (h0 : Sr w v0 ns) (h1 : Sl w.heap.size w v1 p) :
    Calls Tryd.prog 4 #[v0, v1] w fun e w' => e = .returned (.bool true) ∧ Below w.heap.size w w' := by
  obtain ⟨i0, hi0, hz0, hz1, hz2⟩ := info_parts info21
  have h0' := h0
  have h1' := h1
  obtain ⟨A0, c0, rfl, hb0, hi32⟩ := h0
  obtain ⟨A1, c1, rfl, hb1, hc1, hm1⟩ := h1
  have HS := hid (And.intro h0' h1')
  have HT := hid hT
  clear hb0 hb1 h0' h1' hT hi32
  go_enter Tryd.func4, Tryd.ntmps4
  go_wp2_with fail
  refine (known_any w HT.out).mono ?_
  rintro e w1 ⟨rfl, b1⟩
  have B1 := hid b1
  by_cases g1 : (100 : Int) < (ns.length : Int)
  · have g1b : decide ((100 : Int) < (ns.length : Int)) = true := by simpa using g1
    clear b1
    go_wp2
    go_ret
    exact ⟨rfl, B1.out⟩
  have g1b : decide ((100 : Int) < (ns.length : Int)) = false := by simpa using g1
  by_cases g2 : (60 : Int) < (p.length : Int)
  · have g2b : decide ((60 : Int) < (p.length : Int)) = true := by simpa using g2
    clear b1
    go_wp2
    go_ret
    exact ⟨rfl, B1.out⟩
  have g2b : decide ((60 : Int) < (p.length : Int)) = false := by simpa using g2
  have hpl : p.length ≤ 60 := by omega
  have hnl : ns.length ≤ 100 := by omega
  clear b1
  go_wp2_with fail
  go_loopg [5, 6] p.length (fun g v iv wr => ∃ (i : Nat) (ms : List Int), i + g = p.length ∧ iv = .int .i64 i ∧ ms.length = i ∧ Own wr 21 1 v i (i32s ms) ∧ Below w.heap.size w wr ∧ (∀ k, v.ownBlock = some k → w.heap.size ≤ k) ∧ I32 ms)
  case atStart => exact ⟨0, [], by omega, rfl, rfl, Own.nil _ _ _, B1.out, by simp [Value.ownBlock], fun n hn => by cases hn⟩
  case round =>
    obtain ⟨i, ms, hi, rfl, hml, ho, hb, hk, h32⟩ := hrel
    obtain ⟨A2, c2, rfl, hc2, hm2⟩ := ho.form
    by_cases hlt : i < p.length
    · obtain ⟨A', c', e1, hbs, _, _⟩ := HS.out.2.old hb
      cases e1
      obtain ⟨b, off, rfl, hcl⟩ := Bs_cells hbs (by omega)
      have hcell := hcl i hlt
      obtain ⟨z, hz⟩ : ∃ z, z = (p.getD i 0).toNat := ⟨_, rfl⟩
      have hzb : (p.getD i 0).toNat < 256 := (p.getD i 0).toNat_lt
      rw [← hz] at hcell hzb
      obtain ⟨q, hq⟩ : ∃ q, q = z % 15 := ⟨_, rfl⟩
      have hq17 : q < 15 := by omega
      have hzq : (z : Int) % 15 = (q : Int) := by omega
      obtain ⟨x, hs, hx⟩ := edge_at q hq17
      have hrow : (wr.alloc (.cells edges 21)).cell? ⟨wr.heap.size, q, none⟩ = some (.int .i32 x) := by rw [World.cell?_alloc_new]; exact hs
      have hcell2 := (World.cell?_alloc_lt wr (.cells edges 21) ⟨b, off + i, none⟩ (World.block_lt_of_cell? _ _ hcell)).trans hcell
      have hq0 : (0 : Int) ≤ (q : Int) := by omega
      have hq1 : (q : Int) < 15 := by omega
      have hi2 : (i : Int) < (p.length : Int) := by omega
      have HI := hid (And.intro hi hml)
      have HO := hid (And.intro ho (And.intro hb (And.intro hk (And.intro h32 hx))))
      have hown1 := (ho.alloc (.cells edges 21)).alloc (.cells #[.int .i32 x] 21)
      have hrd := Rds.boxed (wr.alloc (.cells edges 21)) #[.int .i32 x] 21 1 rfl
      unfold edges at hrow hcell2 hown1 hrd
      have HROW := hid hrow
      rw [World.size_alloc] at hrd
      clear hrow hz hq hs hi hcl hb hlt hml ho hk h32 hbs hx hcell
      go_wp2_with (first
        | (refine wpList_load_cell rfl 21 (.tmp 34) rfl ⟨wr.heap.size, q, none⟩ rfl (.int .i32 x) HROW.out (Tryd.isAgg21 _) ?_)
        | (at_builtin
           refine wpList_append_own' _ rfl (.tmp 27) (.tmp 36) _ rfl 21 i0 _ 1 4 Tryd.underlying26 hi0 hz0 hz1 hz2 rfl (by omega) (.slice A2 i c2) i _ rfl hown1 _ _ _ _ _ rfl hrd (by simp [Value.oneCell']) (by unfold maxLen; omega) (by omega) ?_
           intro v2 w2 o2 k2 at2))
      have HF := hid (app_end HO.out.2.1 HO.out.2.1.size HO.out.2.2.1 (((Kept.refl [] wr).alloc _).alloc _) k2 at2)
      have HQ := hid o2
      clear o2 k2 at2 hown1 hrd
      go_wp2
      go_roundg (gk - 1)
      case measure => have := HI.out; omega
      case rel => exact ⟨i + 1, ms ++ [x], by have := HI.out.1; omega, by go_num, by rw [List.length_append, HI.out.2]; rfl, by simpa [i32s] using HQ.out, HF.out.1, HF.out.2, fun n hn => by
        rcases List.mem_append.1 hn with h | h
        · exact HO.out.2.2.2.1 n h
        · simp at h; subst h; exact HO.out.2.2.2.2⟩
    · have hi2 : ¬ (i : Int) < (p.length : Int) := by omega
      have hsr : Sr wr (.slice A2 ms.length c2) ms := Sr.of_own (by rw [hml]; exact ho) h32
      rw [hml] at hsr
      have hbd := rtwo_new (HS.out.1.old hb) hsr (by omega) (by omega)
      have p3 := hb.trans (((Below.refl wr.heap.size wr).alloc (Nat.le_refl _) (.cells #[.slice A0 ns.length c0, .slice A2 i c2] 26)).mono hb.size)
      obtain ⟨G, hG⟩ : ∃ G, G = wr.heap.size := ⟨_, rfl⟩
      obtain ⟨W, hW⟩ : ∃ W, W = wr.alloc (.cells #[.slice A0 ns.length c0, .slice A2 i c2] 26) := ⟨_, rfl⟩
      rw [← hG, ← hW] at hbd
      rw [← hW] at p3
      have HG := hid (And.intro hbd p3)
      clear hbd p3 hsr ho hb hk h32 hi hml hlt
      go_wp2_with fail
      rw [← hG, ← hW]
      clear hG hW
      go_loopg [42] 2 (fun g v wr => ∃ j : Nat, j + g = 2 ∧ v = .int .i64 j ∧ Hid (RTwo wr G ∧ Below w.heap.size w wr))
      case atStart => exact ⟨0, rfl, rfl, HG⟩
      case round =>
        obtain ⟨j, hj, rfl, hR⟩ := hrel
        obtain ⟨wo, rfl⟩ : ∃ wo : World, wo = wr := ⟨_, rfl⟩
        by_cases hlt : j < 2
        · obtain ⟨v, xs, hcell, ⟨A, c, rfl, hrd, hx32⟩, hl⟩ := hR.out.1.2 j hlt
          have hj2 : (j : Int) < 2 := by omega
          have HI := hid hj
          have HX := hid hx32
          have hel := encs_len xs
          have HC := hid (count_encs xs)
          clear hj hlt hx32
          go_wp2_with fail
          refine (back_any A c xs wo hrd).mono ?_
          rintro e w3 ⟨rfl, rfl⟩
          clear hcell
          go_wp2_with fail
          refine (backR_any A c xs w3 hrd (by omega) HX.out).mono ?_
          rintro e w4 ⟨rfl, b4⟩
          have q4 := b4
          clear b4 hrd
          go_wp2_with fail
          refine (count_any ⟨(encs xs).toArray⟩ w4 (by show (encs xs).length ≤ _; unfold maxLen; omega)).mono ?_
          rintro e w5 ⟨rfl, b5⟩
          rw [show ((rwl (⟨(encs xs).toArray⟩ : ByteArray).data.toList).length : Nat) = xs.length from HC.out]
          have q5 := q4.trans (b5.mono q4.size)
          clear b5 q4
          obtain ⟨W6, cap, kconv, hbs, hg1, hg2, b6⟩ := conv_bytes w.heap.size (encs xs) w5 (by unfold maxLen; omega)
          have q6 := q5.trans (b6.mono q5.size)
          have p6 := hR.out.2.trans (q6.mono hR.out.2.size)
          clear b6 q5
          go_wp2_with fail
          refine (chk_any [5] w.heap.size _ cap (encs xs) W6 (HT.out.old p6) hbs hg1 hg2).mono ?_
          rintro e w7 ⟨rfl, b7⟩
          have hbs7 := hbs.same (.of_below b7)
          have q7 := q6.trans (b7.mono q6.size)
          clear b7 q6 p6 hbs kconv
          go_wp2_with fail
          refine (chkR_any [5] w.heap.size _ cap (encs xs) w7 hbs7 hg1 hg2).mono ?_
          rintro e w8 ⟨rfl, rfl⟩
          have HF := hid (show RTwo w8 G ∧ Below w.heap.size w w8 from ⟨hR.out.1.old q7, hR.out.2.trans (q7.mono hR.out.2.size)⟩)
          clear q7 hbs7
          go_wp2
          go_roundg (gk - 1)
          case measure => have := HI.out; omega
          case rel => exact ⟨j + 1, by have := HI.out; omega, by go_num, HF⟩
        · have hj2 : ¬ (j : Int) < 2 := by omega
          clear hj hlt
          go_wp2
          go_ret
          exact ⟨rfl, hR.out.2⟩
end Go.Proofs.YtpjapcgidjoliaaDoor
