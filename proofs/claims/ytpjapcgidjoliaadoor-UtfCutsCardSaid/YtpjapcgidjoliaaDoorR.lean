/- UtfCuts: the walk. -/
import Derived.Test.YtpjapcgidjoliaaDoorQ
import Derived.WalkLawsBesides
set_option linter.all false
attribute [local go_sem ↓] Go.wp_at_zero Go.wp_at_succ
namespace Go.Proofs.YtpjapcgidjoliaaDoor
open Go.RowKit Go.Hub Go.Lib

/-- block G holds two short strings -/
def STwo (w : World) (G : Nat) : Prop := G < w.heap.size ∧ ∀ k, k < 2 → ∃ l : List UInt8, w.cell? ⟨G, k, none⟩ = some (.string ⟨l.toArray⟩) ∧ l.length ≤ 1000
theorem STwo.old {w w' : World} {G : Nat} (h : STwo w G) (hb : Below w.heap.size w w') : STwo w' G :=
  ⟨Nat.lt_of_lt_of_le h.1 hb.size, fun k hk => by
    obtain ⟨l, h1, h3⟩ := h.2 k hk
    exact ⟨l, (hb.cell (p := ⟨G, k, none⟩) h.1).trans h1, h3⟩⟩
theorem stwo_new (w : World) (l l' : List UInt8) (hl : l.length ≤ 1000) (hl' : l'.length ≤ 1000) : STwo (w.alloc (.cells #[.string ⟨l.toArray⟩, .string ⟨l'.toArray⟩] 9)) w.heap.size := by
  refine ⟨by simp, fun k hk => ?_⟩
  match k, hk with
  | 0, _ => exact ⟨l, by rw [World.cell?_alloc_new]; rfl, hl⟩
  | 1, _ => exact ⟨l', by rw [World.cell?_alloc_new]; rfl, hl'⟩
theorem cutI_nat (l : List UInt8) (n : Nat) : cutI l (n : Int) = cutL n l := by unfold cutI; rw [if_neg (by omega), Int.toNat_natCast]

set_option maxRecDepth 100000 in
set_option maxHeartbeats 2000000 in
theorem cuts_walk (v0 v1 : Value) (a p : List UInt8) (k1 k2 : Int) (w : World) (hT : Tabs w) (h0 : Sl w.heap.size w v0 a) (h1 : Sl w.heap.size w v1 p) (hk1 : 0 ≤ k1 ∧ k1 ≤ 255) (hk2 : 0 ≤ k2 ∧ k2 ≤ 255) :
    Calls Tryd.prog 8 #[v0, v1, .int .u8 k1, .int .u8 k2] w fun e w' => e = .returned (.bool true) ∧ Below w.heap.size w w' := by
  have h0' := h0
  have h1' := h1
  obtain ⟨A0, c0, rfl, hb0, hc0, hm0⟩ := h0
  obtain ⟨A1, c1, rfl, hb1, hc1, hm1⟩ := h1
  have HS := hid (And.intro h0' h1')
  have HB0 := hid hb0
  have HT := hid hT
  obtain ⟨u1, u2⟩ := hk1
  obtain ⟨u3, u4⟩ := hk2
  clear hb0 hb1 h0' h1' hT
  go_enter Tryd.func8, Tryd.ntmps8
  go_wp2_with fail
  refine (known_any w HT.out).mono ?_
  rintro e w1 ⟨rfl, b1⟩
  have B1 := hid b1
  by_cases g1 : (100 : Int) < (a.length : Int)
  · have g1b : decide ((100 : Int) < (a.length : Int)) = true := by simpa using g1
    clear b1
    go_wp2
    go_ret
    exact ⟨rfl, B1.out⟩
  have g1b : decide ((100 : Int) < (a.length : Int)) = false := by simpa using g1
  by_cases g2 : (40 : Int) < (p.length : Int)
  · have g2b : decide ((40 : Int) < (p.length : Int)) = true := by simpa using g2
    clear b1
    go_wp2
    go_ret
    exact ⟨rfl, B1.out⟩
  have g2b : decide ((40 : Int) < (p.length : Int)) = false := by simpa using g2
  have hpl : p.length ≤ 40 := by omega
  have hal : a.length ≤ 100 := by omega
  clear b1
  go_wp2_with fail
  have HP := HS.out.2.old B1.out
  obtain ⟨A1', c1', e1, hbs, _, _⟩ := HP
  cases e1
  have hra := ((HB0.out.same (.of_below B1.out)).drew).conv (P := Tryd.prog) (c := c0) Tryd.underlying22 Tryd.underlying5 Tryd.underlying9
  have HBS := hid hbs.drew
  clear hbs
  go_region_with ((go_at_call 10; refine (mixed_any [5] w.heap.size A1 c1 p w1.drew HBS.out (by omega)).mono ?_; rintro e w2 ⟨b2, v2, m, rfl, hml, o2, _⟩; obtain ⟨A2, c2, rfl, _, _⟩ := o2.form; have p2 := (B1.out.drew).trans (b2.mono B1.out.drew.size); have cm := (Bs.of_own (E := [5]) (B := w.heap.size) o2 (by simp)).conv (P := Tryd.prog) (c := c2) Tryd.underlying22 Tryd.underlying5 Tryd.underlying9; have hbs2 := HB0.out.same (.of_below p2); have ca := hbs2.conv (P := Tryd.prog) (c := c0) Tryd.underlying22 Tryd.underlying5 Tryd.underlying9; have caa := fun o => (hbs2.same ((Same.refl [5] w.heap.size w2).alloc o)).conv (P := Tryd.prog) (c := c0) Tryd.underlying22 Tryd.underlying5 Tryd.underlying9; clear o2 b2))
  all_goals
    have t2 := stwo_new w2 m a (by omega) (by omega)
    have p3 := p2.trans (((Below.refl w2.heap.size w2).alloc (Nat.le_refl _) (.cells #[.string ⟨m.toArray⟩, .string ⟨a.toArray⟩] 9)).mono p2.size)
    obtain ⟨G, hG⟩ : ∃ G, G = w2.heap.size := ⟨_, rfl⟩
    obtain ⟨W, hW⟩ : ∃ W, W = w2.alloc (.cells #[.string ⟨m.toArray⟩, .string ⟨a.toArray⟩] 9) := ⟨_, rfl⟩
    rw [← hG, ← hW] at t2
    rw [← hW] at p3
    have HG := hid (And.intro t2 p3)
    clear t2 p3 p2 hml cm ca caa hbs2 hra
    go_simp
    go_wp2_with fail
    rw [← hG, ← hW]
    clear hG hW
    go_loopg [31] 2 (fun g v wr => ∃ j : Nat, j + g = 2 ∧ v = .int .i64 j ∧ Hid (STwo wr G ∧ Below w.heap.size w wr))
    case atStart => exact ⟨0, rfl, rfl, HG⟩
    case round =>
      obtain ⟨j, hj, rfl, hR⟩ := hrel
      obtain ⟨wo, rfl⟩ : ∃ wo : World, wo = wr := ⟨_, rfl⟩
      by_cases hlt : j < 2
      · obtain ⟨l, hcell, hl⟩ := hR.out.1.2 j hlt
        have hj2 : (j : Int) < 2 := by omega
        have HI := hid hj
        have HL := hid (rw_len_le l)
        obtain ⟨n, hn⟩ : ∃ n : Nat, k1 % 40 = (n : Int) := ⟨(k1 % 40).toNat, by omega⟩
        obtain ⟨x, hx⟩ : ∃ x : Nat, k2 % 40 = (x : Int) := ⟨(k2 % 40).toNat, by omega⟩
        have hn40 : n < 40 := by omega
        have hx40 : x < 40 := by omega
        obtain ⟨s, hs⟩ : ∃ s : ByteArray, s = ⟨l.toArray⟩ := ⟨_, rfl⟩
        obtain ⟨cs, hcs⟩ : ∃ cs : ByteArray, cs = ⟨(cutL n l).toArray⟩ := ⟨_, rfl⟩
        obtain ⟨y, hy⟩ : ∃ y : ByteArray, y = ⟨(cutL x (cutL n l)).toArray⟩ := ⟨_, rfl⟩
        obtain ⟨z, hz⟩ : ∃ z : ByteArray, z = ⟨(cutL x l).toArray⟩ := ⟨_, rfl⟩
        obtain ⟨R, hRR⟩ : ∃ R, R = (rwl l).length := ⟨_, rfl⟩
        have hsz : s.size ≤ 1000 := by rw [hs, ext_size]; exact hl
        have hcz0 : cs.size ≤ s.size := by rw [hs, hcs, ext_size, ext_size, cut_len]; exact wsum_le l n
        have hext : s.extract 0 cs.size = cs := by rw [extract_take, hs, hcs, ext_size, cut_len]; rfl
        have C0 := hid (fun (w : World) => show Calls Tryd.prog 19 #[.string s, .int .i64 (n : Int)] w fun e w' => e = .returned (.string cs) ∧ Below w.heap.size w w' from by
          have := cut_any s n w (by unfold maxLen; omega)
          rwa [show (⟨(cutI s.data.toList (n : Int)).toArray⟩ : ByteArray) = cs by rw [hs, hcs, cutI_nat]] at this)
        have C1 := hid (fun (w : World) => show Calls Tryd.prog 14 #[.string cs] w fun e w' => e = .returned (.int .i64 ((min n R : Nat) : Int)) ∧ Below w.heap.size w w' from by
          have := count_any cs w (by unfold maxLen; omega)
          rwa [show ((rwl cs.data.toList).length : Nat) = min n R by rw [hcs, hRR]; exact cut_count n l] at this)
        have C2 := hid (fun (w : World) => show Calls Tryd.prog 14 #[.string s] w fun e w' => e = .returned (.int .i64 (R : Int)) ∧ Below w.heap.size w w' from by
          have := count_any s w (by unfold maxLen; omega)
          rwa [show ((rwl s.data.toList).length : Nat) = R by rw [hs, hRR]] at this)
        have C3 := hid (fun (w : World) => show Calls Tryd.prog 19 #[.string cs, .int .i64 (x : Int)] w fun e w' => e = .returned (.string y) ∧ Below w.heap.size w w' from by
          have := cut_any cs x w (by unfold maxLen; omega)
          rwa [show (⟨(cutI cs.data.toList (x : Int)).toArray⟩ : ByteArray) = y by rw [hcs, hy, cutI_nat]] at this)
        have C4 := hid (fun (w : World) => show Calls Tryd.prog 19 #[.string s, .int .i64 (x : Int)] w fun e w' => e = .returned (.string z) ∧ Below w.heap.size w w' from by
          have := cut_any s x w (by unfold maxLen; omega)
          rwa [show (⟨(cutI s.data.toList (x : Int)).toArray⟩ : ByteArray) = z by rw [hs, hz, cutI_nat]] at this)
        have E1 := hid (show x ≤ n → y = z from fun h => by rw [hy, hz, cut_less n x l h])
        have E2 := hid (show n ≤ x → y = cs from fun h => by rw [hy, hcs, cut_more n x l h])
        have HRl := hid (show R ≤ 1000 by rw [hRR]; have := HL.out; omega)
        rw [← hs] at hcell
        clear hj hlt hs hcs hy hz hRR
        go_wp2_with fail
        simp only [hn, hx]
        clear hcell hn hx
        refine (C0.out _).mono ?_
        rintro e w3 ⟨rfl, b3⟩
        go_wp2_with fail
        refine (C1.out _).mono ?_
        rintro e w4 ⟨rfl, b4⟩
        have q4 := b3.trans (b4.mono b3.size)
        clear b3 b4
        go_wp2_with fail
        refine (C2.out _).mono ?_
        rintro e w5 ⟨rfl, b5⟩
        have q5 := q4.trans (b5.mono q4.size)
        clear q4 b5
        have hczi : decide (s.size < cs.size) = false := by simp; omega
        have hmin : (if (n : Int) ≤ (R : Int) then (n : Int) else (R : Int)) = ((min n R : Nat) : Int) := by omega
        have hc0 : (0 : Int) ≤ (cs.size : Int) := by omega
        have hc1 : (cs.size : Int) ≤ (s.size : Int) := by omega
        have HCZ := hid hext
        clear hcz0
        have hext := HCZ.out
        rcases Nat.lt_trichotomy x n with hxn | hxn | hxn
        · have d1 : decide (x ≤ n) = true := by simp; omega
          have d2 : decide (n ≤ x) = false := by simp; omega
          have HY := hid (E1.out (by omega))
          clear hxn
          go_wp2_with fail
          refine (C3.out _).mono ?_
          rintro e w6 ⟨rfl, b6⟩
          have q6 := q5.trans (b6.mono q5.size)
          clear q5 b6
          go_wp2_with fail
          refine (C4.out _).mono ?_
          rintro e w7 ⟨rfl, b7⟩
          have q7 := q6.trans (b7.mono q6.size)
          clear q6 b7
          rw [← HY.out]
          have HF2 := hid (show STwo w7 G ∧ Below w.heap.size w w7 from ⟨hR.out.1.old q7, hR.out.2.trans (q7.mono hR.out.2.size)⟩)
          clear q7
          go_wp2
          go_roundg (gk - 1)
          case measure => have := HI.out; omega
          case rel => exact ⟨j + 1, by have := HI.out; omega, by go_num, HF2⟩
        · have d1 : decide (x ≤ n) = true := by simp; omega
          have d2 : decide (n ≤ x) = true := by simp; omega
          have HY := hid (E1.out (by omega))
          have HC := hid (E2.out (by omega))
          clear hxn
          go_wp2_with fail
          refine (C3.out _).mono ?_
          rintro e w6 ⟨rfl, b6⟩
          have q6 := q5.trans (b6.mono q5.size)
          clear q5 b6
          go_wp2_with fail
          refine (C4.out _).mono ?_
          rintro e w7 ⟨rfl, b7⟩
          have q7 := q6.trans (b7.mono q6.size)
          clear q6 b7
          rw [← HY.out]
          go_wp2_with fail
          refine (C3.out _).mono ?_
          rintro e w8 ⟨rfl, b8⟩
          have q8 := q7.trans (b8.mono q7.size)
          clear q7 b8
          rw [HC.out]
          have HF2 := hid (show STwo w8 G ∧ Below w.heap.size w w8 from ⟨hR.out.1.old q8, hR.out.2.trans (q8.mono hR.out.2.size)⟩)
          clear q8
          go_wp2
          go_roundg (gk - 1)
          case measure => have := HI.out; omega
          case rel => exact ⟨j + 1, by have := HI.out; omega, by go_num, HF2⟩
        · have d1 : decide (x ≤ n) = false := by simp; omega
          have d2 : decide (n ≤ x) = true := by simp; omega
          have HC := hid (E2.out (by omega))
          clear hxn
          go_wp2_with fail
          refine (C3.out _).mono ?_
          rintro e w6 ⟨rfl, b6⟩
          have q6 := q5.trans (b6.mono q5.size)
          clear q5 b6
          rw [HC.out]
          have HF2 := hid (show STwo w6 G ∧ Below w.heap.size w w6 from ⟨hR.out.1.old q6, hR.out.2.trans (q6.mono hR.out.2.size)⟩)
          clear q6
          go_wp2
          go_roundg (gk - 1)
          case measure => have := HI.out; omega
          case rel => exact ⟨j + 1, by have := HI.out; omega, by go_num, HF2⟩
      · have hj2 : ¬ (j : Int) < 2 := by omega
        clear hj hlt
        go_wp2
        go_ret
        exact ⟨rfl, hR.out.2⟩
end Go.Proofs.YtpjapcgidjoliaaDoor
