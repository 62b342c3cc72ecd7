/- NetPlays: the walk. -/
import Derived.Test.YtmffkpcimddbpaaJ
import Derived.Deep.Cut
import Derived.Deep.CutRange
import Derived.Deep.CutBlock
set_option linter.all false
namespace Go.Proofs.Ytmffkpcimddbpaa
open Go.RowKit Go.Hub

set_option maxRecDepth 100000 in
set_option maxHeartbeats 4000000 in
theorem plays_any (A : Option Addr) (len cap : Nat) (xs : List Value) (qs : List Ac) (w : World) (hm : len ≤ cap) (hc : cap ≤ maxLen) (hl : qs.length = len) (ho : Rds w w.heap.size 5 A len xs) (hs : Seq 5 (relA w) xs qs) :
    Calls Try.prog 3 #[.slice A len cap] w fun e w' => e = .returned (.bool true) ∧ Below w.heap.size w w' := by
  obtain ⟨i0, hi0, hz0, hz1, hz2⟩ := info_parts info33
  have HH := hid (And.intro ho hs)
  clear ho hs
  go_enter Try.func3, Try.ntmps3
  go_wp2_with fail
  refine (known_any w).mono ?_
  rintro e w1 ⟨rfl, hb1⟩
  by_cases hlen : len ≤ 60
  · have hl2 : decide ((60 : Int) < (len : Int)) = false := by simp; omega
    have hl3 : ¬ ((60 : Int) < (len : Int)) := by omega
    go_wp2_with fail
    refine (new_any w.heap.size w1 hb1.size).mono ?_
    rintro e w2 ⟨rfl, q2, b2⟩
    obtain ⟨b, hb⟩ : ∃ b, b = w1.heap.size := ⟨_, rfl⟩
    rw [← hb] at q2 ⊢
    have HS := hid (And.intro q2 ((Same.of_below (E := [5]) (B := w.heap.size) hb1).trans (.of_below b2)))
    clear q2 b2 hb1 hb hl2 hl3
    go_wp2_with fail
    go_loopg [4, 5, 6] len (fun g lv mv iv wr => ∃ (i : Nat) (ms : List F) (v : Value) (mask : Int), i + g = len ∧ iv = .int .i64 i ∧ mv = .int .i64 mask ∧ Hid (ms.length ≤ i ∧ (∀ m ∈ ms, m.b.length ≤ 30) ∧ SP w.heap.size w wr b ms v mask ms lv))
    case atStart => exact ⟨0, [], _, 0, by omega, rfl, rfl, by simp, by simp, HS.out.1, ⟨[], Own.nil _ _ _, Seq.nil _ _⟩, by simp [Value.ownBlock], HS.out.2⟩
    case round =>
      obtain ⟨i, ms, v, mask, hi, rfl, rfl, hRel⟩ := hrel
      obtain ⟨hmi, hb30s, hsp⟩ := hRel.out
      clear hRel
      obtain ⟨ko, rfl⟩ : ∃ ko : Nat, ko = gk := ⟨_, rfl⟩
      obtain ⟨wo, rfl⟩ : ∃ wo : World, wo = wr := ⟨_, rfl⟩
      clear HS
      obtain ⟨lA, lc, rfl, hlc1, hlc2⟩ := hsp.form
      by_cases hlt : i < len
      · have hi2 : (i : Int) < (len : Int) := by omega
        obtain ⟨a, ha⟩ : ∃ a, qs[i]? = some a := ⟨qs[i]'(by omega), by simp⟩
        obtain ⟨ga, offa, A1, c1, rfl, hga, x0, x1, x2, x3, x4, hbs, hak, hal⟩ := act_cells hl HH.out.1 HH.out.2 ha
        have S0 := hsp.s
        have y0 := (S0.block ga hga (.inl hga))
        have cell0 : ∀ j, wo.cell? ⟨ga, j, none⟩ = w.cell? ⟨ga, j, none⟩ := fun j => World.cell?_of_block (w := w) (a := ⟨ga, j, none⟩) y0
        rw [← cell0] at x0 x1 x2 x3 x4
        have hbs0 := hbs.same S0
        have HT := hid (And.intro hi (And.intro hsp (And.intro hbs0 hb30s)))
        clear hi hsp S0 y0 cell0 hbs hbs0 ha hl hb30s
        by_cases hb30 : a.b.length ≤ 30
        · have hd : decide ((30 : Int) < (a.b.length : Int)) = false := by simp; omega
          have hd2 : ¬ (30 : Int) < (a.b.length : Int) := by omega
          go_upto_if 37 with fail
          have t0 := Blk.new wo 29 #[Value.int IntKind.u8 a.k, Value.int IntKind.i64 a.f, Value.int IntKind.i64 a.t, Value.int IntKind.i64 a.n, Value.slice A1 a.b.length c1]
          have bT : Below wo.heap.size wo (wo.alloc (.cells #[Value.int IntKind.u8 a.k, Value.int IntKind.i64 a.f, Value.int IntKind.i64 a.t, Value.int IntKind.i64 a.n, Value.slice A1 a.b.length c1] 29)) := (Below.refl _ _).alloc (Nat.le_refl _) _
          obtain ⟨W, hW⟩ : ∃ W, W = wo.alloc (.cells #[Value.int IntKind.u8 a.k, Value.int IntKind.i64 a.f, Value.int IntKind.i64 a.t, Value.int IntKind.i64 a.n, Value.slice A1 a.b.length c1] 29) := ⟨_, rfl⟩
          rw [← hW] at t0 bT ⊢
          clear hW x0 x1 x2 x3 x4
          go_cut [8] from 19 to 182 (fun s8 wx => ∃ (f t n : Int), s8 = .int .i64 n ∧ Hid (Blk wx wo.heap.size 29 #[.int .u8 a.k, .int .i64 f, .int .i64 t, .int .i64 a.n, .slice A1 a.b.length c1]) ∧ Hid (Below wo.heap.size wo wx))
          case first =>
            have x1 : W.cell? ⟨wo.heap.size, 1, none⟩ = _ := t0.cell_ (i := 1) rfl
            have x2 : W.cell? ⟨wo.heap.size, 2, none⟩ = _ := t0.cell_ (i := 2) rfl
            have x3 : W.cell? ⟨wo.heap.size, 3, none⟩ = _ := t0.cell_ (i := 3) rfl
            have z1 : W.frozen? ⟨wo.heap.size, 1, none⟩ = _ := t0.frozen 1
            have z2 : W.frozen? ⟨wo.heap.size, 2, none⟩ = _ := t0.frozen 2
            have K0 := hid (And.intro t0 bT)
            clear t0 bT
            by_cases h4 : (0 : Int) < (i : Int) % 4
            · have h4b : decide ((0 : Int) < (i : Int) % 4) = true := by simpa using h4
              go_wp2_with fail
              have fin : ∀ f' t' : Int, Hid (Blk ((W.setCell ⟨wo.heap.size, 1, none⟩ (.int .i64 f')).setCell ⟨wo.heap.size, 2, none⟩ (.int .i64 t')).drew wo.heap.size 29 #[.int .u8 a.k, .int .i64 f', .int .i64 t', .int .i64 a.n, .slice A1 a.b.length c1]) ∧ Hid (Below wo.heap.size wo ((W.setCell ⟨wo.heap.size, 1, none⟩ (.int .i64 f')).setCell ⟨wo.heap.size, 2, none⟩ (.int .i64 t')).drew) := fun f' t' => by
                have h1 := (K0.out.1.set_ 1 (.int .i64 f')).set_ 2 (.int .i64 t')
                have K : Kept [wo.heap.size] W ((W.setCell ⟨wo.heap.size, 1, none⟩ (.int .i64 f')).setCell ⟨wo.heap.size, 2, none⟩ (.int .i64 t')).drew := (((Kept.refl _ _).setCell (by simp) _).setCell (by simp) _).drew
                exact ⟨hid h1, hid (K0.out.2.trans (K.below (by simp) K0.out.2.size))⟩
              have FIN := hid fin
              clear fin
              as_aux_lemma =>
                go_region_law (first | (go_simp; go_at_call 7; refine (place_any _ _ (by omega) (by omega) _).mono ?_; rintro e wp ⟨rfl, rfl⟩))
                all_goals go_wp2_with fail
                all_goals go_meet
                all_goals exact ⟨_, _, _, rfl, FIN.out _ _⟩
            · have h4b : decide ((0 : Int) < (i : Int) % 4) = false := by simpa using h4
              go_wp2_with fail
              go_meet
              exact ⟨a.f, a.t, a.n, rfl, hid K0.out.1, hid K0.out.2⟩
          case rest =>
            obtain ⟨f, t, n, rfl, hblk, hbel⟩ := hcut
            have P0 := hid (HT.out.2.1.old hbel.out)
            have bs0 := hid (HT.out.2.2.1.same (Same.of_below hbel.out))
            have hne7 := hid (fun k (hk : k ∈ b :: v.ownBlock.toList) => (HT.out.2.1.q.foot k hk).2)
            have hT := hid (And.intro HT.out.1 HT.out.2.2.2)
            have hblk' := hid (And.intro hblk.out hbel.out.size)
            have hlw : wo.heap.size < wc.heap.size := hblk.out.lt
            clear t0 bT hblk hbel HT
            obtain ⟨inn, hinn⟩ : ∃ inn : Bool, inn = decide (0 ≤ n ∧ n < (ms.length : Int)) := ⟨_, rfl⟩
            have HN := hid hinn
            clear hinn
            go_upto_region 17 with fail
            go_cut [9] from 19 to 182 (fun s9 wx => s9 = .bool inn ∧ wx = wc)
            case first =>
              by_cases hn0 : 0 ≤ n
              · by_cases hn1 : n < (ms.length : Int)
                · have hn2 : decide (0 ≤ n) = true := by simpa using hn0
                  have hn3 : decide (n < (ms.length : Int)) = true := by simpa using hn1
                  go_wp2_with fail
                  go_meet
                  exact ⟨congrArg Value.bool (by rw [HN.out]; simp; omega), rfl⟩
                · have hn2 : decide (0 ≤ n) = true := by simpa using hn0
                  have hn3 : decide (n < (ms.length : Int)) = false := by simpa using hn1
                  go_wp2_with fail
                  go_meet
                  exact ⟨congrArg Value.bool (by rw [HN.out]; simp; omega), rfl⟩
              · have hn2 : decide (0 ≤ n) = false := by simpa using hn0
                go_wp2_with fail
                go_meet
                exact ⟨congrArg Value.bool (by rw [HN.out]; simp; omega), rfl⟩
            case rest =>
              obtain ⟨rfl, rfl⟩ := hcut
              have x0 := hblk'.out.1.cell_ (i := 0) rfl
              have x1 := hblk'.out.1.cell_ (i := 1) rfl
              have x2 := hblk'.out.1.cell_ (i := 2) rfl
              have x3 := hblk'.out.1.cell_ (i := 3) rfl
              have x4 := hblk'.out.1.cell_ (i := 4) rfl
              go_upto_block 2 with fail
              go_cut [4, 5, 10, 11, 12] from 19 to 182 (fun s4 s5 s10 s11 s12 wx => ∃ (ms' : List F) (v' : Value) (mask' : Int), s5 = .int .i64 mask' ∧ Hid (ms'.length ≤ i + 1 ∧ (∀ m ∈ ms', m.b.length ≤ 30) ∧ SP w.heap.size w wx b ms' v' mask' ms' s4))
              case first =>
                have hB : w.heap.size ≤ wc.heap.size := P0.out.s.size
                have hnt : wo.heap.size ∉ b :: v.ownBlock.toList := fun hx => by have := hne7.out _ hx; omega
                have HX := hid (And.intro hnt hak)
                have hq := hid (show a.k % 8 = 0 ∨ a.k % 8 = 1 ∨ a.k % 8 = 2 ∨ a.k % 8 = 3 ∨ a.k % 8 = 4 ∨ a.k % 8 = 5 ∨ a.k % 8 = 6 ∨ a.k % 8 = 7 by omega)
                clear hnt
                have h63 : ms.length + 1 ≤ maxLen := by unfold maxLen; omega
                have hby : (ms.length + 1) * 40 ≤ 140737488355328 := by omega
                rcases hq.out with hq | hq | hq | hq | hq | hq | hq | hq
                ·
                  as_aux_lemma =>
                    go_wp2_with fail
                    refine (send_any w.heap.size b v mask ms A1 c1 ⟨f, t, a.b⟩ wc P0.out.q bs0.out (show a.b.length ≤ 1000000 by omega) hB (by omega)).mono ?_
                    rintro e w4 ⟨rfl, v4, q4, k4, s4, a4⟩
                    have P1 := P0.out.call q4 k4 s4 a4
                    have tb := hblk'.out.1.kept k4 HX.out.1
                    have y1 := tb.cell_ (i := 1) rfl
                    have y2 := tb.cell_ (i := 2) rfl
                    have y4 := tb.cell_ (i := 4) rfl
                    have bs1 := (bs0.out.same s4).same ((Same.refl _ _ _).alloc (.cells #[.int .i64 f, .int .i64 t, .slice A1 a.b.length c1] 33))
                    have P2 := P1.old ((Below.refl w4.heap.size w4).alloc (Nat.le_refl _) (.cells #[.int .i64 f, .int .i64 t, .slice A1 a.b.length c1] 33))
                    obtain ⟨ys, oy, sy⟩ := P2.o
                    have r1 := Rds.boxed w4 #[.int .i64 f, .int .i64 t, .slice A1 a.b.length c1] 33 3 rfl
                    have HP := hid (And.intro P2 (And.intro bs1 sy))
                    clear q4 k4 s4 a4 P1 P2 tb bs1 sy x0 x1 x2 x3 x4
                    go_wp2_with (first
                      | (at_builtin
                         refine wpList_append_own' _ rfl (.tmp 87) (.tmp 95) _ rfl 33 i0 _ 3 40 Try.underlying26 hi0 hz0 hz1 hz2 rfl (by omega) (.slice lA ms.length lc) ms.length ys rfl oy _ _ _ _ _ rfl r1 (by simp [Value.oneCell']) h63 hby ?_
                         intro v5 w5 o5 k5 a5
                         obtain ⟨A5, c5, hv5, _, _⟩ := o5.form
                         subst hv5))
                    have S5 := HP.out.1.row_same k5
                    have F : Hid ((ms ++ [(⟨f, t, a.b⟩ : F)]).length ≤ i + 1 ∧ (∀ m ∈ ms ++ [(⟨f, t, a.b⟩ : F)], m.b.length ≤ 30) ∧ SP w.heap.size w w5 b (ms ++ [⟨f, t, a.b⟩]) v4 mask (ms ++ [⟨f, t, a.b⟩]) (.slice A5 (ms.length + 1) c5)) := by
                      refine hid ⟨by simp; omega, fun m hm => ?_, ?_⟩
                      · simp at hm
                        rcases hm with hm | rfl
                        · exact hT.out.2 m hm
                        · exact hb30
                      · refine HP.out.1.row k5 (ys' := ys ++ [.int .i64 f, .int .i64 t, .slice A1 a.b.length c1]) (by simpa using o5) ?_ a5
                        exact (HP.out.2.2.imp fun cs m h => h.same S5).append (Seq.one rfl ⟨A1, c1, rfl, HP.out.2.1.same S5⟩)
                    clear o5 k5 a5 S5 oy r1 HP
                    go_wp2
                    go_meet
                    exact ⟨_, v4, mask, rfl, F⟩
                ·
                  as_aux_lemma =>
                    go_wp2_with fail
                    refine (send_any w.heap.size b v mask ms A1 c1 ⟨f, t, a.b⟩ wc P0.out.q bs0.out (show a.b.length ≤ 1000000 by omega) hB (by omega)).mono ?_
                    rintro e w4 ⟨rfl, v4, q4, k4, s4, a4⟩
                    have P1 := P0.out.call q4 k4 s4 a4
                    have tb := hblk'.out.1.kept k4 HX.out.1
                    have y1 := tb.cell_ (i := 1) rfl
                    have y2 := tb.cell_ (i := 2) rfl
                    have y4 := tb.cell_ (i := 4) rfl
                    have bs1 := (bs0.out.same s4).same ((Same.refl _ _ _).alloc (.cells #[.int .i64 f, .int .i64 t, .slice A1 a.b.length c1] 33))
                    have P2 := P1.old ((Below.refl w4.heap.size w4).alloc (Nat.le_refl _) (.cells #[.int .i64 f, .int .i64 t, .slice A1 a.b.length c1] 33))
                    obtain ⟨ys, oy, sy⟩ := P2.o
                    have r1 := Rds.boxed w4 #[.int .i64 f, .int .i64 t, .slice A1 a.b.length c1] 33 3 rfl
                    have HP := hid (And.intro P2 (And.intro bs1 sy))
                    clear q4 k4 s4 a4 P1 P2 tb bs1 sy x0 x1 x2 x3 x4
                    go_wp2_with (first
                      | (at_builtin
                         refine wpList_append_own' _ rfl (.tmp 87) (.tmp 95) _ rfl 33 i0 _ 3 40 Try.underlying26 hi0 hz0 hz1 hz2 rfl (by omega) (.slice lA ms.length lc) ms.length ys rfl oy _ _ _ _ _ rfl r1 (by simp [Value.oneCell']) h63 hby ?_
                         intro v5 w5 o5 k5 a5
                         obtain ⟨A5, c5, hv5, _, _⟩ := o5.form
                         subst hv5))
                    have S5 := HP.out.1.row_same k5
                    have F : Hid ((ms ++ [(⟨f, t, a.b⟩ : F)]).length ≤ i + 1 ∧ (∀ m ∈ ms ++ [(⟨f, t, a.b⟩ : F)], m.b.length ≤ 30) ∧ SP w.heap.size w w5 b (ms ++ [⟨f, t, a.b⟩]) v4 mask (ms ++ [⟨f, t, a.b⟩]) (.slice A5 (ms.length + 1) c5)) := by
                      refine hid ⟨by simp; omega, fun m hm => ?_, ?_⟩
                      · simp at hm
                        rcases hm with hm | rfl
                        · exact hT.out.2 m hm
                        · exact hb30
                      · refine HP.out.1.row k5 (ys' := ys ++ [.int .i64 f, .int .i64 t, .slice A1 a.b.length c1]) (by simpa using o5) ?_ a5
                        exact (HP.out.2.2.imp fun cs m h => h.same S5).append (Seq.one rfl ⟨A1, c1, rfl, HP.out.2.1.same S5⟩)
                    clear o5 k5 a5 S5 oy r1 HP
                    go_wp2
                    go_meet
                    exact ⟨_, v4, mask, rfl, F⟩
                ·
                  as_aux_lemma =>
                    go_wp2_with fail
                    refine (send_any w.heap.size b v mask ms A1 c1 ⟨f, t, a.b⟩ wc P0.out.q bs0.out (show a.b.length ≤ 1000000 by omega) hB (by omega)).mono ?_
                    rintro e w4 ⟨rfl, v4, q4, k4, s4, a4⟩
                    have P1 := P0.out.call q4 k4 s4 a4
                    have tb := hblk'.out.1.kept k4 HX.out.1
                    have y1 := tb.cell_ (i := 1) rfl
                    have y2 := tb.cell_ (i := 2) rfl
                    have y4 := tb.cell_ (i := 4) rfl
                    have bs1 := (bs0.out.same s4).same ((Same.refl _ _ _).alloc (.cells #[.int .i64 f, .int .i64 t, .slice A1 a.b.length c1] 33))
                    have P2 := P1.old ((Below.refl w4.heap.size w4).alloc (Nat.le_refl _) (.cells #[.int .i64 f, .int .i64 t, .slice A1 a.b.length c1] 33))
                    obtain ⟨ys, oy, sy⟩ := P2.o
                    have r1 := Rds.boxed w4 #[.int .i64 f, .int .i64 t, .slice A1 a.b.length c1] 33 3 rfl
                    have HP := hid (And.intro P2 (And.intro bs1 sy))
                    clear q4 k4 s4 a4 P1 P2 tb bs1 sy x0 x1 x2 x3 x4
                    go_wp2_with (first
                      | (at_builtin
                         refine wpList_append_own' _ rfl (.tmp 87) (.tmp 95) _ rfl 33 i0 _ 3 40 Try.underlying26 hi0 hz0 hz1 hz2 rfl (by omega) (.slice lA ms.length lc) ms.length ys rfl oy _ _ _ _ _ rfl r1 (by simp [Value.oneCell']) h63 hby ?_
                         intro v5 w5 o5 k5 a5
                         obtain ⟨A5, c5, hv5, _, _⟩ := o5.form
                         subst hv5))
                    have S5 := HP.out.1.row_same k5
                    have F : Hid ((ms ++ [(⟨f, t, a.b⟩ : F)]).length ≤ i + 1 ∧ (∀ m ∈ ms ++ [(⟨f, t, a.b⟩ : F)], m.b.length ≤ 30) ∧ SP w.heap.size w w5 b (ms ++ [⟨f, t, a.b⟩]) v4 mask (ms ++ [⟨f, t, a.b⟩]) (.slice A5 (ms.length + 1) c5)) := by
                      refine hid ⟨by simp; omega, fun m hm => ?_, ?_⟩
                      · simp at hm
                        rcases hm with hm | rfl
                        · exact hT.out.2 m hm
                        · exact hb30
                      · refine HP.out.1.row k5 (ys' := ys ++ [.int .i64 f, .int .i64 t, .slice A1 a.b.length c1]) (by simpa using o5) ?_ a5
                        exact (HP.out.2.2.imp fun cs m h => h.same S5).append (Seq.one rfl ⟨A1, c1, rfl, HP.out.2.1.same S5⟩)
                    clear o5 k5 a5 S5 oy r1 HP
                    go_wp2
                    go_meet
                    exact ⟨_, v4, mask, rfl, F⟩
                ·
                  as_aux_lemma =>
                    go_wp2_with fail
                    refine (split_any w.heap.size b v mask a.n ms wc P0.out.q hB).mono ?_
                    rintro e w4 ⟨rfl, q4, k4, s4⟩
                    have F : Hid (ms.length ≤ i + 1 ∧ (∀ m ∈ ms, m.b.length ≤ 30) ∧ SP w.heap.size w w4 b ms v a.n ms (.slice lA ms.length lc)) := hid ⟨by omega, hT.out.2, P0.out.call q4 (k4.mono (by simp)) s4 (fun k hk => .inl hk)⟩
                    clear q4 k4 s4
                    go_wp2
                    go_meet
                    exact ⟨_, v, a.n, rfl, F⟩
                ·
                  by_cases hin : 0 ≤ n ∧ n < (ms.length : Int)
                  ·
                    as_aux_lemma =>
                      obtain ⟨j, rfl⟩ := Int.eq_ofNat_of_zero_le hin.1
                      have hj : j < ms.length := by omega
                      obtain rfl : inn = true := by rw [HN.out]; simp; omega
                      clear hin HN

                      obtain ⟨m, hm⟩ : ∃ m, ms[j]? = some m := ⟨ms[j], by simp [hj]⟩
                      have hml := hT.out.2 m (List.mem_of_getElem? hm)
                      go_wp2_with fail
                      refine (twice_in w.heap.size b v mask ms j m wc P0.out.q hm hB (by omega)).mono ?_
                      rintro e w4 ⟨A4, c4, rfl, h4, b4⟩
                      obtain ⟨W, hW⟩ : ∃ W, W = w4.alloc (.cells #[.int .i64 m.f, .int .i64 m.t, .slice A4 m.b.length c4] 33) := ⟨_, rfl⟩
                      have xW : Blk W w4.heap.size 33 #[.int .i64 m.f, .int .i64 m.t, .slice A4 m.b.length c4] := by rw [hW]; exact Blk.new _ _ _
                      have b4W : Below w4.heap.size w4 W := by rw [hW]; exact (Below.refl _ _).alloc (Nat.le_refl _) _
                      have bW : Below wc.heap.size wc W := b4.trans (b4W.mono b4.size)
                      have tbW := hblk'.out.1.below bW hblk'.out.1.lt
                      have x0' : W.cell? ⟨wo.heap.size, 0, none⟩ = _ := tbW.cell_ (i := 0) rfl
                      have s4 := b4.size
                      have h4W := h4.same (.of_below b4W)
                      clear b4 x0 x1 x2 x3 x4 h4 b4W

                      have hBW : w.heap.size ≤ W.heap.size := Nat.le_trans hB bW.size
                      go_upto_region 35 with fail
                      rw [← hW]
                      clear hW
                      go_wp2_with fail
                      refine (arrive_in w.heap.size b v mask ms j m W (P0.out.old bW).q hm hBW (by omega) (by omega)).mono ?_
                      rintro e w5 ⟨⟨A5, c5, rfl, h5⟩, v5, q5, k5, s5, a5⟩
                      have hfr : ∀ x ∈ b :: v.ownBlock.toList, x < wc.heap.size := fun x hx => (P0.out.q.foot x hx).2
                      have P5 := (P0.out.old bW).call q5 k5 s5 (fun k hk => .inl (a5 k hk))
                      have xV := xW.kept k5 (fun hx => by have := hfr _ hx; omega)
                      have tbV := tbW.kept k5 HX.out.1
                      have r0 := xV.cell_ (i := 0) rfl
                      have r1 := xV.cell_ (i := 1) rfl
                      have r2 := xV.cell_ (i := 2) rfl
                      have z0 := xV.frozen 0
                      have z1 := xV.frozen 1
                      have z2 := xV.frozen 2
                      obtain ⟨X, hX⟩ : ∃ X, X = (((w5.setCell ⟨w4.heap.size, 0, none⟩ (.int .i64 m.f)).setCell ⟨w4.heap.size, 1, none⟩ (.int .i64 m.t)).setCell ⟨w4.heap.size, 2, none⟩ (.slice A5 m.b.length c5)) := ⟨_, rfl⟩
                      have K3 : Kept [w4.heap.size] w5 X := by rw [hX]; exact (Kept.refl _ _).set3 (by simp)
                      have S3 : Same [5] w.heap.size w5 X := .of_kept K3 (fun x hx _ => by
                        simp at hx; subst hx
                        exact ⟨by omega, xV.not_typ (by decide)⟩)
                      have xX : Blk X w4.heap.size 33 #[.int .i64 m.f, .int .i64 m.t, .slice A5 m.b.length c5] := by rw [hX]; exact xV.set3
                      have PX0 := P5.store K3 S3 (fun x hx => by
                        have : x ∈ b :: v.ownBlock.toList := by
                          simp at hx ⊢
                          rcases hx with hx | hx
                          · exact .inl hx
                          · exact .inr (a5 x hx)
                        have := hfr x this; omega) (fun k hk => by have := P0.out.lt k hk; omega)
                      have tbX := tbV.kept K3 (by simp; omega)
                      have h5X := h5.same S3
                      clear q5 k5 s5 a5 P5 xV tbV K3 S3 h5 xW tbW h4W bW
                      go_upto_region 37 with fail
                      rw [← hX]
                      clear hX r0 r1 r2 z0 z1 z2 x0'

                      obtain ⟨ys, oy, sy⟩ := PX0.o
                      obtain ⟨gl, offl, A9, c9, hlA, hgl, w0, w1', _, _⟩ := flight_cells rfl oy.rds sy hm
                      subst hlA
                      have rr := ((oy.rds.cut (k := j) (cap := lc) (by omega) (by omega)).head (k := 1) (by omega))
                      rw [if_neg (by omega)] at rr
                      simp only [Option.map_some, add_none] at rr
                      have sq : Seq 3 (relF [5] w.heap.size X) ((ys.drop (j * 3)).take (1 * 3)) [m] := by
                        have h1 := (sy.drop j).take (k := 1) (by simp; omega)
                        have h2 : (ms.drop j).take 1 = [m] := by
                          rw [List.drop_eq_getElem_cons hj]
                          have := (List.getElem?_eq_some_iff.1 hm).2
                          simp [this]
                        rwa [h2] at h1
                      have sX : Same [5] w.heap.size X (X.drew.alloc (.cells #[.int .i64 m.f, .int .i64 m.t, .slice A5 m.b.length c5] 33)) := (Same.refl _ _ _).drew.alloc _
                      have fl1 := Rds.boxed X.drew #[.int .i64 m.f, .int .i64 m.t, .slice A5 m.b.length c5] 33 3 rfl
                      have fl2 := rr.drew.alloc (Nat.le_refl _) (.cells #[.int .i64 m.f, .int .i64 m.t, .slice A5 m.b.length c5] 33)
                      have sq1 : Seq 3 (relF [5] w.heap.size (X.drew.alloc (.cells #[.int .i64 m.f, .int .i64 m.t, .slice A5 m.b.length c5] 33))) [.int .i64 m.f, .int .i64 m.t, .slice A5 m.b.length c5] [m] := Seq.one rfl ⟨A5, c5, rfl, h5X.same sX⟩
                      have sq2 := sq.imp (fun cs m h => relF.same h sX)
                      have t0 : X.cell? ⟨w4.heap.size, 0, none⟩ = _ := xX.cell_ (i := 0) rfl
                      have t1 : X.cell? ⟨w4.heap.size, 1, none⟩ = _ := xX.cell_ (i := 1) rfl
                      have t2 : X.cell? ⟨w4.heap.size, 2, none⟩ = _ := xX.cell_ (i := 2) rfl
                      have tlt := xX.lt
                      have FL := hid (And.intro (And.intro fl1 sq1) (And.intro (fl2.more (B' := X.heap.size + 1) (by simp)) sq2))
                      have PX := hid (And.intro PX0 tbX)
                      clear oy sy rr sq sX fl1 fl2 sq1 sq2 PX0 tbX
                      have hm1 : (0 : Int) ≤ (j : Int) + 1 := by omega
                      have hm2 : (j : Int) + 1 ≤ (ms.length : Int) := by omega
                      have hm3 : (j : Int) + 1 ≤ (lc : Int) := by omega
                      have hm4 : ((j : Int) + 1).toNat = j + 1 := by omega
                      have hm5 : IntKind.i64.wrap ((j : Int) + 1) = (j : Int) + 1 := IntWalk.i64_in _ (by omega)
                      have hm6 : (j : Int) ≤ (j : Int) + 1 := by omega
                      have hm7 : ¬ lc = j := by omega
                      have hm8 : j + 1 - j = 1 := by omega
                      have hm9 : (j : Int) < (ms.length : Int) := by omega
                      go_wp2_with fail
                      go_region_held3 (fun w' => w'.cell? ⟨w4.heap.size, 0, none⟩ = some (.int .i64 m.f) ∧ w'.cell? ⟨w4.heap.size, 1, none⟩ = some (.int .i64 m.t) ∧ w'.cell? ⟨w4.heap.size, 2, none⟩ = some (.slice A5 m.b.length c5) ∧ w'.cell? ⟨gl, offl + j * 3, none⟩ = some (.int .i64 m.f) ∧ w'.cell? ⟨gl, offl + j * 3 + 1, none⟩ = some (.int .i64 m.t))
                        (first | go_keep | exact ⟨t0, t1, t2, w0, w1'⟩)
                        (first
                          | (go_at_call 12; refine (flights_any w.heap.size 1 1 _ _ _ _ _ _ [m] _ rfl rfl (by simp) (FL.out.1.1.more (by simp)) FL.out.1.2 (FL.out.2.1.more (by simp)) FL.out.2.2).mono ?_; rintro e wf ⟨rfl, kf, rfl⟩)
                          | (go_at_call 13; refine (sideR_any _ _ _).mono ?_; rintro e ws ⟨rfl, rfl⟩))
                      have bX : Below X.heap.size X ((X.alloc (.cells #[.int .i64 m.f, .int .i64 m.t, .slice A5 m.b.length c5] 33)).drewN (1 + kf)) := belowDrewN ((Below.refl _ _).alloc (Nat.le_refl _) _) _
                      obtain ⟨Y, hY⟩ : ∃ Y, Y = (X.alloc (.cells #[.int .i64 m.f, .int .i64 m.t, .slice A5 m.b.length c5] 33)).drewN (1 + kf) := ⟨_, rfl⟩
                      rw [← hY] at bX ⊢
                      clear hY
                      have PY := PX.out.1.old bX
                      have y0 : Y.cell? ⟨wo.heap.size, 0, none⟩ = some (.int .u8 a.k) := (PX.out.2.below bX PX.out.2.lt).cell_ (i := 0) rfl
                      clear hm1 hm2 hm3 hm4 hm5 hm6 hm7 hm8 hm9 bX FL t0 t1 t2 w0 w1'

                      obtain ⟨zs, oy, sy⟩ := PY.o
                      have rW := oy.rds
                      have hr1 : Rds Y.drew Y.heap.size 3 (some ⟨gl, offl, none⟩) j (zs.take (j * 3)) := rW.head (by omega)
                      have hr2 : Rds Y.drew Y.heap.size 3 (if lc = j + 1 then some ⟨gl, offl, none⟩ else some ⟨gl, offl + (j + 1) * 3, none⟩) (ms.length - (j + 1)) (zs.drop ((j + 1) * 3)) := by
                        have := rW.cut (k := j + 1) (cap := lc) (by omega) (by omega)
                        simp only [Option.map_some, add_none] at this
                        exact this
                      have hone := Seq.all (by omega) sy relF_one
                      have n1 : ∀ u ∈ zs.take (j * 3), u.oneCell' = true := fun u hu => hone u (List.mem_of_mem_take hu)
                      have n2 : ∀ u ∈ zs.drop ((j + 1) * 3), u.oneCell' = true := fun u hu => hone u (List.mem_of_mem_drop hu)
                      have hb1 : 0 + j ≤ maxLen := by unfold maxLen; omega
                      have hb2 : (0 + j) * 40 ≤ 140737488355328 := by omega
                      have hb3 : j + (ms.length - (j + 1)) ≤ maxLen := by unfold maxLen; omega
                      have hb4 : (j + (ms.length - (j + 1))) * 40 ≤ 140737488355328 := by omega
                      have HR := hid (And.intro (And.intro hr1 hr2) (And.intro n1 n2))
                      have HP := hid (And.intro PY sy)
                      clear rW hr1 hr2 n1 n2 hone oy sy PY
                      have hm1 : (0 : Int) ≤ (j : Int) + 1 := by omega
                      have hm2 : (j : Int) + 1 ≤ (ms.length : Int) := by omega
                      have hm3 : (j : Int) ≤ (lc : Int) := by omega
                      have hm4 : ((j : Int) + 1).toNat = j + 1 := by omega
                      have hm5 : IntKind.i64.wrap ((j : Int) + 1) = (j : Int) + 1 := IntWalk.i64_in _ (by omega)
                      have hm6 : (ms.length : Int) ≤ (lc : Int) := by omega
                      go_wp2_with fail
                      go_region_held3 (fun w' => True) (trivial) (first
                        | (refine step_append_own _ rfl (.const (.slice none 0 0)) (.tmp 171) _ rfl 33 i0 _ 3 40 Try.underlying26 hi0 hz0 hz1 hz2 rfl (by omega) (.slice none 0 0) 0 [] rfl (Own.nil _ _ _) _ _ _ _ _ rfl HR.out.1.1 HR.out.2.1 hb1 hb2 ?_; intro v11 w11 o11 k11 a11; rw [Nat.zero_add, List.nil_append] at o11; obtain ⟨A11, c11, hv11, _, _⟩ := o11.form; subst hv11)
                        | (refine step_append_own _ rfl (.tmp 172) (.tmp 176) _ rfl 33 i0 _ 3 40 Try.underlying26 hi0 hz0 hz1 hz2 rfl (by omega) (.slice A11 j c11) j _ rfl o11 _ _ _ _ _ rfl (HR.out.1.2.keep (fun p hp => Below.cell (Kept.below0 k11) hp)) HR.out.2.2 hb3 hb4 ?_; intro v12 w12 o12 k12 a12; obtain ⟨A12, c12, hv12, _, _⟩ := o12.form; subst hv12))
                      have F : ∃ lv, lv = (Value.slice A12 (j + (ms.length - (j + 1))) c12) ∧ Hid ((delL ms j).length ≤ i + 1 ∧ (∀ m ∈ delL ms j, m.b.length ≤ 30) ∧ SP w.heap.size w w12 b (delL ms j) v5 mask (delL ms j) lv) := by
                        obtain ⟨kk, ff⟩ := join_fresh k11 k12 a11 a12
                        have kW : Kept [] Y w12 := ⟨kk.os, kk.tape, kk.output, kk.size, kk.block⟩
                        have el : (delL ms j).length = j + (ms.length - (j + 1)) := by rw [delL_len ms j hj]; omega
                        have SS := HP.out.1.row_same (kW.mono (by simp))
                        refine ⟨_, rfl, hid ⟨by omega, fun m hm => hT.out.2 m ?_, ?_⟩⟩
                        · unfold delL at hm
                          simp only [List.mem_append] at hm
                          rcases hm with hm | hm
                          · exact List.mem_of_mem_take hm
                          · exact List.mem_of_mem_drop hm
                        · refine HP.out.1.row (kW.mono (by simp)) (ys' := zs.take (j * 3) ++ zs.drop ((j + 1) * 3)) ?_ ((Seq.del HP.out.2 hj).imp fun cs m h => h.same SS) (fun k hk => .inr (ff k hk))
                          rw [el]
                          exact o12
                      obtain ⟨lv, hlv, F⟩ := F
                      rw [← hlv]
                      clear o11 k11 a11 o12 k12 a12 hm1 hm2 hm3 hm4 hm5 hm6 HR HP hlv
                      go_wp2
                      all_goals
                        go_meet
                        exact ⟨_, v5, mask, rfl, F⟩
                  ·
                    as_aux_lemma =>
                      have hout : n < 0 ∨ (ms.length : Int) ≤ n := by omega
                      obtain rfl : inn = false := by rw [HN.out]; simp; omega
                      have hout2 := hid hout
                      clear hin HN hout

                      go_wp2_with fail
                      refine (twice_out w.heap.size b v mask n ms wc P0.out.q hout2.out).mono ?_
                      rintro e w4 ⟨rfl, b4⟩
                      unfold zeroAgg
                      obtain ⟨W, hW⟩ : ∃ W, W = w4.alloc (.cells #[.int .i64 0, .int .i64 0, .slice none 0 0] 33) := ⟨_, rfl⟩
                      have xW : Blk W w4.heap.size 33 #[.int .i64 0, .int .i64 0, .slice none 0 0] := by rw [hW]; exact Blk.new _ _ _
                      have bW : Below wc.heap.size wc W := by rw [hW]; exact b4.alloc b4.size _
                      have x0' : W.cell? ⟨wo.heap.size, 0, none⟩ = _ := (hblk'.out.1.below bW hblk'.out.1.lt).cell_ (i := 0) rfl
                      have s4 := b4.size
                      clear b4 x0 x1 x2 x3 x4
                      go_upto_region 35 with fail
                      rw [← hW]
                      clear hW
                      go_wp2_with fail
                      refine (arrive_out w.heap.size b v mask n ms W (P0.out.old bW).q hout2.out).mono ?_
                      rintro e w5 ⟨rfl, b5⟩
                      unfold zeroAgg
                      have xV := xW.below b5 xW.lt
                      have r0 := xV.cell_ (i := 0) rfl
                      have r1 := xV.cell_ (i := 1) rfl
                      have r2 := xV.cell_ (i := 2) rfl
                      have z0 := xV.frozen 0
                      have z1 := xV.frozen 1
                      have z2 := xV.frozen 2
                      have K3 : Kept [w4.heap.size] w5 (((w5.setCell ⟨w4.heap.size, 0, none⟩ (.int .i64 0)).setCell ⟨w4.heap.size, 1, none⟩ (.int .i64 0)).setCell ⟨w4.heap.size, 2, none⟩ (.slice none 0 0)) := (Kept.refl _ _).set3 (by simp)
                      have b6 := bW.trans (b5.mono bW.size)
                      have b7 := b6.trans (K3.below (B := wc.heap.size) (by simp; omega) b6.size)
                      have F : Hid (ms.length ≤ i + 1 ∧ (∀ m ∈ ms, m.b.length ≤ 30) ∧ SP w.heap.size w _ b ms v mask ms (.slice lA ms.length lc)) := hid ⟨by omega, hT.out.2, P0.out.old b7⟩
                      clear xV K3 b6 b7 b5 xW bW
                      go_wp2
                      go_meet
                      exact ⟨_, v, mask, rfl, F⟩
                ·
                  by_cases hin : 0 ≤ n ∧ n < (ms.length : Int)
                  ·
                    as_aux_lemma =>
                      obtain ⟨j, rfl⟩ := Int.eq_ofNat_of_zero_le hin.1
                      have hj : j < ms.length := by omega
                      obtain rfl : inn = true := by rw [HN.out]; simp; omega
                      clear hin HN

                      obtain ⟨m, hm⟩ : ∃ m, ms[j]? = some m := ⟨ms[j], by simp [hj]⟩
                      have hml := hT.out.2 m (List.mem_of_getElem? hm)
                      go_wp2_with fail
                      refine (twice_in w.heap.size b v mask ms j m wc P0.out.q hm hB (by omega)).mono ?_
                      rintro e w4 ⟨A4, c4, rfl, h4, b4⟩
                      obtain ⟨W, hW⟩ : ∃ W, W = w4.alloc (.cells #[.int .i64 m.f, .int .i64 m.t, .slice A4 m.b.length c4] 33) := ⟨_, rfl⟩
                      have xW : Blk W w4.heap.size 33 #[.int .i64 m.f, .int .i64 m.t, .slice A4 m.b.length c4] := by rw [hW]; exact Blk.new _ _ _
                      have b4W : Below w4.heap.size w4 W := by rw [hW]; exact (Below.refl _ _).alloc (Nat.le_refl _) _
                      have bW : Below wc.heap.size wc W := b4.trans (b4W.mono b4.size)
                      have tbW := hblk'.out.1.below bW hblk'.out.1.lt
                      have x0' : W.cell? ⟨wo.heap.size, 0, none⟩ = _ := tbW.cell_ (i := 0) rfl
                      have s4 := b4.size
                      have h4W := h4.same (.of_below b4W)
                      clear b4 x0 x1 x2 x3 x4 h4 b4W

                      have hBW : w.heap.size ≤ W.heap.size := Nat.le_trans hB bW.size
                      go_upto_region 35 with fail
                      rw [← hW]
                      clear hW
                      go_wp2_with fail
                      refine (arrive_in w.heap.size b v mask ms j m W (P0.out.old bW).q hm hBW (by omega) (by omega)).mono ?_
                      rintro e w5 ⟨⟨A5, c5, rfl, h5⟩, v5, q5, k5, s5, a5⟩
                      have hfr : ∀ x ∈ b :: v.ownBlock.toList, x < wc.heap.size := fun x hx => (P0.out.q.foot x hx).2
                      have P5 := (P0.out.old bW).call q5 k5 s5 (fun k hk => .inl (a5 k hk))
                      have xV := xW.kept k5 (fun hx => by have := hfr _ hx; omega)
                      have tbV := tbW.kept k5 HX.out.1
                      have r0 := xV.cell_ (i := 0) rfl
                      have r1 := xV.cell_ (i := 1) rfl
                      have r2 := xV.cell_ (i := 2) rfl
                      have z0 := xV.frozen 0
                      have z1 := xV.frozen 1
                      have z2 := xV.frozen 2
                      obtain ⟨X, hX⟩ : ∃ X, X = (((w5.setCell ⟨w4.heap.size, 0, none⟩ (.int .i64 m.f)).setCell ⟨w4.heap.size, 1, none⟩ (.int .i64 m.t)).setCell ⟨w4.heap.size, 2, none⟩ (.slice A5 m.b.length c5)) := ⟨_, rfl⟩
                      have K3 : Kept [w4.heap.size] w5 X := by rw [hX]; exact (Kept.refl _ _).set3 (by simp)
                      have S3 : Same [5] w.heap.size w5 X := .of_kept K3 (fun x hx _ => by
                        simp at hx; subst hx
                        exact ⟨by omega, xV.not_typ (by decide)⟩)
                      have xX : Blk X w4.heap.size 33 #[.int .i64 m.f, .int .i64 m.t, .slice A5 m.b.length c5] := by rw [hX]; exact xV.set3
                      have PX0 := P5.store K3 S3 (fun x hx => by
                        have : x ∈ b :: v.ownBlock.toList := by
                          simp at hx ⊢
                          rcases hx with hx | hx
                          · exact .inl hx
                          · exact .inr (a5 x hx)
                        have := hfr x this; omega) (fun k hk => by have := P0.out.lt k hk; omega)
                      have tbX := tbV.kept K3 (by simp; omega)
                      have h5X := h5.same S3
                      clear q5 k5 s5 a5 P5 xV tbV K3 S3 h5 xW tbW h4W bW
                      go_upto_region 37 with fail
                      rw [← hX]
                      clear hX r0 r1 r2 z0 z1 z2 x0'

                      obtain ⟨ys, oy, sy⟩ := PX0.o
                      obtain ⟨gl, offl, A9, c9, hlA, hgl, w0, w1', _, _⟩ := flight_cells rfl oy.rds sy hm
                      subst hlA
                      have rr := ((oy.rds.cut (k := j) (cap := lc) (by omega) (by omega)).head (k := 1) (by omega))
                      rw [if_neg (by omega)] at rr
                      simp only [Option.map_some, add_none] at rr
                      have sq : Seq 3 (relF [5] w.heap.size X) ((ys.drop (j * 3)).take (1 * 3)) [m] := by
                        have h1 := (sy.drop j).take (k := 1) (by simp; omega)
                        have h2 : (ms.drop j).take 1 = [m] := by
                          rw [List.drop_eq_getElem_cons hj]
                          have := (List.getElem?_eq_some_iff.1 hm).2
                          simp [this]
                        rwa [h2] at h1
                      have sX : Same [5] w.heap.size X (X.drew.alloc (.cells #[.int .i64 m.f, .int .i64 m.t, .slice A5 m.b.length c5] 33)) := (Same.refl _ _ _).drew.alloc _
                      have fl1 := Rds.boxed X.drew #[.int .i64 m.f, .int .i64 m.t, .slice A5 m.b.length c5] 33 3 rfl
                      have fl2 := rr.drew.alloc (Nat.le_refl _) (.cells #[.int .i64 m.f, .int .i64 m.t, .slice A5 m.b.length c5] 33)
                      have sq1 : Seq 3 (relF [5] w.heap.size (X.drew.alloc (.cells #[.int .i64 m.f, .int .i64 m.t, .slice A5 m.b.length c5] 33))) [.int .i64 m.f, .int .i64 m.t, .slice A5 m.b.length c5] [m] := Seq.one rfl ⟨A5, c5, rfl, h5X.same sX⟩
                      have sq2 := sq.imp (fun cs m h => relF.same h sX)
                      have t0 : X.cell? ⟨w4.heap.size, 0, none⟩ = _ := xX.cell_ (i := 0) rfl
                      have t1 : X.cell? ⟨w4.heap.size, 1, none⟩ = _ := xX.cell_ (i := 1) rfl
                      have t2 : X.cell? ⟨w4.heap.size, 2, none⟩ = _ := xX.cell_ (i := 2) rfl
                      have tlt := xX.lt
                      have FL := hid (And.intro (And.intro fl1 sq1) (And.intro (fl2.more (B' := X.heap.size + 1) (by simp)) sq2))
                      have PX := hid (And.intro PX0 tbX)
                      clear oy sy rr sq sX fl1 fl2 sq1 sq2 PX0 tbX
                      have hm1 : (0 : Int) ≤ (j : Int) + 1 := by omega
                      have hm2 : (j : Int) + 1 ≤ (ms.length : Int) := by omega
                      have hm3 : (j : Int) + 1 ≤ (lc : Int) := by omega
                      have hm4 : ((j : Int) + 1).toNat = j + 1 := by omega
                      have hm5 : IntKind.i64.wrap ((j : Int) + 1) = (j : Int) + 1 := IntWalk.i64_in _ (by omega)
                      have hm6 : (j : Int) ≤ (j : Int) + 1 := by omega
                      have hm7 : ¬ lc = j := by omega
                      have hm8 : j + 1 - j = 1 := by omega
                      have hm9 : (j : Int) < (ms.length : Int) := by omega
                      go_wp2_with fail
                      go_region_held3 (fun w' => w'.cell? ⟨w4.heap.size, 0, none⟩ = some (.int .i64 m.f) ∧ w'.cell? ⟨w4.heap.size, 1, none⟩ = some (.int .i64 m.t) ∧ w'.cell? ⟨w4.heap.size, 2, none⟩ = some (.slice A5 m.b.length c5) ∧ w'.cell? ⟨gl, offl + j * 3, none⟩ = some (.int .i64 m.f) ∧ w'.cell? ⟨gl, offl + j * 3 + 1, none⟩ = some (.int .i64 m.t))
                        (first | go_keep | exact ⟨t0, t1, t2, w0, w1'⟩)
                        (first
                          | (go_at_call 12; refine (flights_any w.heap.size 1 1 _ _ _ _ _ _ [m] _ rfl rfl (by simp) (FL.out.1.1.more (by simp)) FL.out.1.2 (FL.out.2.1.more (by simp)) FL.out.2.2).mono ?_; rintro e wf ⟨rfl, kf, rfl⟩)
                          | (go_at_call 13; refine (sideR_any _ _ _).mono ?_; rintro e ws ⟨rfl, rfl⟩))
                      have bX : Below X.heap.size X ((X.alloc (.cells #[.int .i64 m.f, .int .i64 m.t, .slice A5 m.b.length c5] 33)).drewN (1 + kf)) := belowDrewN ((Below.refl _ _).alloc (Nat.le_refl _) _) _
                      obtain ⟨Y, hY⟩ : ∃ Y, Y = (X.alloc (.cells #[.int .i64 m.f, .int .i64 m.t, .slice A5 m.b.length c5] 33)).drewN (1 + kf) := ⟨_, rfl⟩
                      rw [← hY] at bX ⊢
                      clear hY
                      have PY := PX.out.1.old bX
                      have y0 : Y.cell? ⟨wo.heap.size, 0, none⟩ = some (.int .u8 a.k) := (PX.out.2.below bX PX.out.2.lt).cell_ (i := 0) rfl
                      clear hm1 hm2 hm3 hm4 hm5 hm6 hm7 hm8 hm9 bX FL t0 t1 t2 w0 w1'

                      obtain ⟨zs, oy, sy⟩ := PY.o
                      have rW := oy.rds
                      have hr1 : Rds Y.drew Y.heap.size 3 (some ⟨gl, offl, none⟩) j (zs.take (j * 3)) := rW.head (by omega)
                      have hr2 : Rds Y.drew Y.heap.size 3 (if lc = j + 1 then some ⟨gl, offl, none⟩ else some ⟨gl, offl + (j + 1) * 3, none⟩) (ms.length - (j + 1)) (zs.drop ((j + 1) * 3)) := by
                        have := rW.cut (k := j + 1) (cap := lc) (by omega) (by omega)
                        simp only [Option.map_some, add_none] at this
                        exact this
                      have hone := Seq.all (by omega) sy relF_one
                      have n1 : ∀ u ∈ zs.take (j * 3), u.oneCell' = true := fun u hu => hone u (List.mem_of_mem_take hu)
                      have n2 : ∀ u ∈ zs.drop ((j + 1) * 3), u.oneCell' = true := fun u hu => hone u (List.mem_of_mem_drop hu)
                      have hb1 : 0 + j ≤ maxLen := by unfold maxLen; omega
                      have hb2 : (0 + j) * 40 ≤ 140737488355328 := by omega
                      have hb3 : j + (ms.length - (j + 1)) ≤ maxLen := by unfold maxLen; omega
                      have hb4 : (j + (ms.length - (j + 1))) * 40 ≤ 140737488355328 := by omega
                      have HR := hid (And.intro (And.intro hr1 hr2) (And.intro n1 n2))
                      have HP := hid (And.intro PY sy)
                      clear rW hr1 hr2 n1 n2 hone oy sy PY
                      have hm1 : (0 : Int) ≤ (j : Int) + 1 := by omega
                      have hm2 : (j : Int) + 1 ≤ (ms.length : Int) := by omega
                      have hm3 : (j : Int) ≤ (lc : Int) := by omega
                      have hm4 : ((j : Int) + 1).toNat = j + 1 := by omega
                      have hm5 : IntKind.i64.wrap ((j : Int) + 1) = (j : Int) + 1 := IntWalk.i64_in _ (by omega)
                      have hm6 : (ms.length : Int) ≤ (lc : Int) := by omega
                      go_wp2_with fail
                      go_region_held3 (fun w' => True) (trivial) (first
                        | (refine step_append_own _ rfl (.const (.slice none 0 0)) (.tmp 171) _ rfl 33 i0 _ 3 40 Try.underlying26 hi0 hz0 hz1 hz2 rfl (by omega) (.slice none 0 0) 0 [] rfl (Own.nil _ _ _) _ _ _ _ _ rfl HR.out.1.1 HR.out.2.1 hb1 hb2 ?_; intro v11 w11 o11 k11 a11; rw [Nat.zero_add, List.nil_append] at o11; obtain ⟨A11, c11, hv11, _, _⟩ := o11.form; subst hv11)
                        | (refine step_append_own _ rfl (.tmp 172) (.tmp 176) _ rfl 33 i0 _ 3 40 Try.underlying26 hi0 hz0 hz1 hz2 rfl (by omega) (.slice A11 j c11) j _ rfl o11 _ _ _ _ _ rfl (HR.out.1.2.keep (fun p hp => Below.cell (Kept.below0 k11) hp)) HR.out.2.2 hb3 hb4 ?_; intro v12 w12 o12 k12 a12; obtain ⟨A12, c12, hv12, _, _⟩ := o12.form; subst hv12))
                      have F : ∃ lv, lv = (Value.slice A12 (j + (ms.length - (j + 1))) c12) ∧ Hid ((delL ms j).length ≤ i + 1 ∧ (∀ m ∈ delL ms j, m.b.length ≤ 30) ∧ SP w.heap.size w w12 b (delL ms j) v5 mask (delL ms j) lv) := by
                        obtain ⟨kk, ff⟩ := join_fresh k11 k12 a11 a12
                        have kW : Kept [] Y w12 := ⟨kk.os, kk.tape, kk.output, kk.size, kk.block⟩
                        have el : (delL ms j).length = j + (ms.length - (j + 1)) := by rw [delL_len ms j hj]; omega
                        have SS := HP.out.1.row_same (kW.mono (by simp))
                        refine ⟨_, rfl, hid ⟨by omega, fun m hm => hT.out.2 m ?_, ?_⟩⟩
                        · unfold delL at hm
                          simp only [List.mem_append] at hm
                          rcases hm with hm | hm
                          · exact List.mem_of_mem_take hm
                          · exact List.mem_of_mem_drop hm
                        · refine HP.out.1.row (kW.mono (by simp)) (ys' := zs.take (j * 3) ++ zs.drop ((j + 1) * 3)) ?_ ((Seq.del HP.out.2 hj).imp fun cs m h => h.same SS) (fun k hk => .inr (ff k hk))
                          rw [el]
                          exact o12
                      obtain ⟨lv, hlv, F⟩ := F
                      rw [← hlv]
                      clear o11 k11 a11 o12 k12 a12 hm1 hm2 hm3 hm4 hm5 hm6 HR HP hlv
                      go_wp2
                      all_goals
                        go_meet
                        exact ⟨_, v5, mask, rfl, F⟩
                  ·
                    as_aux_lemma =>
                      have hout : n < 0 ∨ (ms.length : Int) ≤ n := by omega
                      obtain rfl : inn = false := by rw [HN.out]; simp; omega
                      have hout2 := hid hout
                      clear hin HN hout

                      go_wp2_with fail
                      refine (twice_out w.heap.size b v mask n ms wc P0.out.q hout2.out).mono ?_
                      rintro e w4 ⟨rfl, b4⟩
                      unfold zeroAgg
                      obtain ⟨W, hW⟩ : ∃ W, W = w4.alloc (.cells #[.int .i64 0, .int .i64 0, .slice none 0 0] 33) := ⟨_, rfl⟩
                      have xW : Blk W w4.heap.size 33 #[.int .i64 0, .int .i64 0, .slice none 0 0] := by rw [hW]; exact Blk.new _ _ _
                      have bW : Below wc.heap.size wc W := by rw [hW]; exact b4.alloc b4.size _
                      have x0' : W.cell? ⟨wo.heap.size, 0, none⟩ = _ := (hblk'.out.1.below bW hblk'.out.1.lt).cell_ (i := 0) rfl
                      have s4 := b4.size
                      clear b4 x0 x1 x2 x3 x4
                      go_upto_region 35 with fail
                      rw [← hW]
                      clear hW
                      go_wp2_with fail
                      refine (arrive_out w.heap.size b v mask n ms W (P0.out.old bW).q hout2.out).mono ?_
                      rintro e w5 ⟨rfl, b5⟩
                      unfold zeroAgg
                      have xV := xW.below b5 xW.lt
                      have r0 := xV.cell_ (i := 0) rfl
                      have r1 := xV.cell_ (i := 1) rfl
                      have r2 := xV.cell_ (i := 2) rfl
                      have z0 := xV.frozen 0
                      have z1 := xV.frozen 1
                      have z2 := xV.frozen 2
                      have K3 : Kept [w4.heap.size] w5 (((w5.setCell ⟨w4.heap.size, 0, none⟩ (.int .i64 0)).setCell ⟨w4.heap.size, 1, none⟩ (.int .i64 0)).setCell ⟨w4.heap.size, 2, none⟩ (.slice none 0 0)) := (Kept.refl _ _).set3 (by simp)
                      have b6 := bW.trans (b5.mono bW.size)
                      have b7 := b6.trans (K3.below (B := wc.heap.size) (by simp; omega) b6.size)
                      have F : Hid (ms.length ≤ i + 1 ∧ (∀ m ∈ ms, m.b.length ≤ 30) ∧ SP w.heap.size w _ b ms v mask ms (.slice lA ms.length lc)) := hid ⟨by omega, hT.out.2, P0.out.old b7⟩
                      clear xV K3 b6 b7 b5 xW bW
                      go_wp2
                      go_meet
                      exact ⟨_, v, mask, rfl, F⟩
                ·
                  by_cases hin : 0 ≤ n ∧ n < (ms.length : Int)
                  ·
                    as_aux_lemma =>
                      obtain ⟨j, rfl⟩ := Int.eq_ofNat_of_zero_le hin.1
                      have hj : j < ms.length := by omega
                      obtain rfl : inn = true := by rw [HN.out]; simp; omega
                      clear hin HN

                      obtain ⟨m, hm⟩ : ∃ m, ms[j]? = some m := ⟨ms[j], by simp [hj]⟩
                      have hml := hT.out.2 m (List.mem_of_getElem? hm)
                      go_wp2_with fail
                      refine (twice_in w.heap.size b v mask ms j m wc P0.out.q hm hB (by omega)).mono ?_
                      rintro e w4 ⟨A4, c4, rfl, h4, b4⟩
                      obtain ⟨W, hW⟩ : ∃ W, W = w4.alloc (.cells #[.int .i64 m.f, .int .i64 m.t, .slice A4 m.b.length c4] 33) := ⟨_, rfl⟩
                      have xW : Blk W w4.heap.size 33 #[.int .i64 m.f, .int .i64 m.t, .slice A4 m.b.length c4] := by rw [hW]; exact Blk.new _ _ _
                      have b4W : Below w4.heap.size w4 W := by rw [hW]; exact (Below.refl _ _).alloc (Nat.le_refl _) _
                      have bW : Below wc.heap.size wc W := b4.trans (b4W.mono b4.size)
                      have tbW := hblk'.out.1.below bW hblk'.out.1.lt
                      have x0' : W.cell? ⟨wo.heap.size, 0, none⟩ = _ := tbW.cell_ (i := 0) rfl
                      have s4 := b4.size
                      have h4W := h4.same (.of_below b4W)
                      clear b4 x0 x1 x2 x3 x4 h4 b4W

                      have PW := P0.out.old bW
                      clear bW
                      go_upto_region 35 with fail
                      rw [← hW]
                      clear hW

                      obtain ⟨ys, oy, sy⟩ := PW.o
                      obtain ⟨gl, offl, A9, c9, hlA, hgl, w0, w1', _, _⟩ := flight_cells rfl oy.rds sy hm
                      subst hlA
                      have rr := ((oy.rds.cut (k := j) (cap := lc) (by omega) (by omega)).head (k := 1) (by omega))
                      rw [if_neg (by omega)] at rr
                      simp only [Option.map_some, add_none] at rr
                      have sq : Seq 3 (relF [5] w.heap.size W) ((ys.drop (j * 3)).take (1 * 3)) [m] := by
                        have h1 := (sy.drop j).take (k := 1) (by simp; omega)
                        have h2 : (ms.drop j).take 1 = [m] := by
                          rw [List.drop_eq_getElem_cons hj]
                          have := (List.getElem?_eq_some_iff.1 hm).2
                          simp [this]
                        rwa [h2] at h1
                      have sX : Same [5] w.heap.size W (W.drew.alloc (.cells #[.int .i64 m.f, .int .i64 m.t, .slice A4 m.b.length c4] 33)) := (Same.refl _ _ _).drew.alloc _
                      have fl1 := Rds.boxed W.drew #[.int .i64 m.f, .int .i64 m.t, .slice A4 m.b.length c4] 33 3 rfl
                      have fl2 := rr.drew.alloc (Nat.le_refl _) (.cells #[.int .i64 m.f, .int .i64 m.t, .slice A4 m.b.length c4] 33)
                      have sq1 : Seq 3 (relF [5] w.heap.size (W.drew.alloc (.cells #[.int .i64 m.f, .int .i64 m.t, .slice A4 m.b.length c4] 33))) [.int .i64 m.f, .int .i64 m.t, .slice A4 m.b.length c4] [m] := Seq.one rfl ⟨A4, c4, rfl, h4W.same sX⟩
                      have sq2 := sq.imp (fun cs m h => relF.same h sX)
                      have t0 : W.cell? ⟨w4.heap.size, 0, none⟩ = _ := xW.cell_ (i := 0) rfl
                      have t1 : W.cell? ⟨w4.heap.size, 1, none⟩ = _ := xW.cell_ (i := 1) rfl
                      have t2 : W.cell? ⟨w4.heap.size, 2, none⟩ = _ := xW.cell_ (i := 2) rfl
                      have tlt := xW.lt
                      have FL := hid (And.intro (And.intro fl1 sq1) (And.intro (fl2.more (B' := W.heap.size + 1) (by simp)) sq2))
                      have PX := hid (And.intro PW tbW)
                      clear oy sy rr sq sX fl1 fl2 sq1 sq2 PW tbW
                      have hm1 : (0 : Int) ≤ (j : Int) + 1 := by omega
                      have hm2 : (j : Int) + 1 ≤ (ms.length : Int) := by omega
                      have hm3 : (j : Int) + 1 ≤ (lc : Int) := by omega
                      have hm4 : ((j : Int) + 1).toNat = j + 1 := by omega
                      have hm5 : IntKind.i64.wrap ((j : Int) + 1) = (j : Int) + 1 := IntWalk.i64_in _ (by omega)
                      have hm6 : (j : Int) ≤ (j : Int) + 1 := by omega
                      have hm7 : ¬ lc = j := by omega
                      have hm8 : j + 1 - j = 1 := by omega
                      have hm9 : (j : Int) < (ms.length : Int) := by omega
                      go_wp2_with fail
                      go_region_held3 (fun w' => w'.cell? ⟨w4.heap.size, 0, none⟩ = some (.int .i64 m.f) ∧ w'.cell? ⟨w4.heap.size, 1, none⟩ = some (.int .i64 m.t) ∧ w'.cell? ⟨w4.heap.size, 2, none⟩ = some (.slice A4 m.b.length c4) ∧ w'.cell? ⟨gl, offl + j * 3, none⟩ = some (.int .i64 m.f) ∧ w'.cell? ⟨gl, offl + j * 3 + 1, none⟩ = some (.int .i64 m.t))
                        (first | go_keep | exact ⟨t0, t1, t2, w0, w1'⟩)
                        (first
                          | (go_at_call 12; refine (flights_any w.heap.size 1 1 _ _ _ _ _ _ [m] _ rfl rfl (by simp) (FL.out.1.1.more (by simp)) FL.out.1.2 (FL.out.2.1.more (by simp)) FL.out.2.2).mono ?_; rintro e wf ⟨rfl, kf, rfl⟩)
                          | (go_at_call 13; refine (sideR_any _ _ _).mono ?_; rintro e ws ⟨rfl, rfl⟩))
                      have bX : Below W.heap.size W ((W.alloc (.cells #[.int .i64 m.f, .int .i64 m.t, .slice A4 m.b.length c4] 33)).drewN (1 + kf)) := belowDrewN ((Below.refl _ _).alloc (Nat.le_refl _) _) _
                      obtain ⟨Y, hY⟩ : ∃ Y, Y = (W.alloc (.cells #[.int .i64 m.f, .int .i64 m.t, .slice A4 m.b.length c4] 33)).drewN (1 + kf) := ⟨_, rfl⟩
                      rw [← hY] at bX ⊢
                      clear hY
                      have PY := PX.out.1.old bX
                      have y0 : Y.cell? ⟨wo.heap.size, 0, none⟩ = some (.int .u8 a.k) := (PX.out.2.below bX PX.out.2.lt).cell_ (i := 0) rfl
                      clear hm1 hm2 hm3 hm4 hm5 hm6 hm7 hm8 hm9 bX FL t0 t1 t2 w0 w1'

                      have F : Hid (ms.length ≤ i + 1 ∧ (∀ m ∈ ms, m.b.length ≤ 30) ∧ SP w.heap.size w Y b ms v mask ms (.slice (some ⟨gl, offl, none⟩) ms.length lc)) := hid ⟨by omega, hT.out.2, PY⟩
                      clear PY
                      go_wp2
                      go_meet
                      exact ⟨_, v, mask, rfl, F⟩
                  ·
                    as_aux_lemma =>
                      have hout : n < 0 ∨ (ms.length : Int) ≤ n := by omega
                      obtain rfl : inn = false := by rw [HN.out]; simp; omega
                      have hout2 := hid hout
                      clear hin HN hout

                      go_wp2_with fail
                      refine (twice_out w.heap.size b v mask n ms wc P0.out.q hout2.out).mono ?_
                      rintro e w4 ⟨rfl, b4⟩
                      unfold zeroAgg
                      have P1 := (P0.out.old b4).old ((Below.refl w4.heap.size w4).alloc (Nat.le_refl _) (.cells #[.int .i64 0, .int .i64 0, .slice none 0 0] 33))
                      have tb := (hblk'.out.1.below b4 hblk'.out.1.lt).alloc (.cells #[.int .i64 0, .int .i64 0, .slice none 0 0] 33)
                      have x0' := tb.cell_ (i := 0) rfl
                      clear tb

                      have F : Hid (ms.length ≤ i + 1 ∧ (∀ m ∈ ms, m.b.length ≤ 30) ∧ SP w.heap.size w (w4.alloc (.cells #[.int .i64 0, .int .i64 0, .slice none 0 0] 33)) b ms v mask ms (.slice lA ms.length lc)) := hid ⟨by omega, hT.out.2, P1⟩
                      clear P1 b4
                      go_wp2
                      go_meet
                      exact ⟨_, v, mask, rfl, F⟩
                ·
                  by_cases hin : 0 ≤ n ∧ n < (ms.length : Int)
                  ·
                    as_aux_lemma =>
                      obtain ⟨j, rfl⟩ := Int.eq_ofNat_of_zero_le hin.1
                      have hj : j < ms.length := by omega
                      obtain rfl : inn = true := by rw [HN.out]; simp; omega
                      clear hin HN

                      go_wp2_with fail
                      refine (drop_in w.heap.size b v mask ms j wc P0.out.q hj hB (by omega)).mono ?_
                      rintro e w4 ⟨rfl, v4, q4, k4, s4, a4⟩
                      have P1 := P0.out.call q4 k4 s4 (fun k hk => .inl (a4 k hk))
                      clear q4 k4 s4 a4

                      obtain ⟨ys, oy, sy⟩ := P1.o
                      obtain ⟨gl, offl, rfl⟩ := own_addr oy (by omega)
                      have rW := oy.rds
                      have hr1 : Rds w4.drew w4.heap.size 3 (some ⟨gl, offl, none⟩) j (ys.take (j * 3)) := rW.head (by omega)
                      have hr2 : Rds w4.drew w4.heap.size 3 (if lc = j + 1 then some ⟨gl, offl, none⟩ else some ⟨gl, offl + (j + 1) * 3, none⟩) (ms.length - (j + 1)) (ys.drop ((j + 1) * 3)) := by
                        have := rW.cut (k := j + 1) (cap := lc) (by omega) (by omega)
                        simp only [Option.map_some, add_none] at this
                        exact this
                      have hone := Seq.all (by omega) sy relF_one
                      have n1 : ∀ u ∈ ys.take (j * 3), u.oneCell' = true := fun u hu => hone u (List.mem_of_mem_take hu)
                      have n2 : ∀ u ∈ ys.drop ((j + 1) * 3), u.oneCell' = true := fun u hu => hone u (List.mem_of_mem_drop hu)
                      have hb1 : 0 + j ≤ maxLen := by unfold maxLen; omega
                      have hb2 : (0 + j) * 40 ≤ 140737488355328 := by omega
                      have hb3 : j + (ms.length - (j + 1)) ≤ maxLen := by unfold maxLen; omega
                      have hb4 : (j + (ms.length - (j + 1))) * 40 ≤ 140737488355328 := by omega
                      have HR := hid (And.intro (And.intro hr1 hr2) (And.intro n1 n2))
                      have HP := hid (And.intro P1 sy)
                      clear rW hr1 hr2 n1 n2 hone oy sy P1
                      have hm1 : (0 : Int) ≤ (j : Int) + 1 := by omega
                      have hm2 : (j : Int) + 1 ≤ (ms.length : Int) := by omega
                      have hm3 : (j : Int) ≤ (lc : Int) := by omega
                      have hm4 : ((j : Int) + 1).toNat = j + 1 := by omega
                      have hm5 : IntKind.i64.wrap ((j : Int) + 1) = (j : Int) + 1 := IntWalk.i64_in _ (by omega)
                      have hm6 : (ms.length : Int) ≤ (lc : Int) := by omega
                      go_wp2_with fail
                      go_region_held3 (fun w' => True) (trivial) (first
                        | (refine step_append_own _ rfl (.const (.slice none 0 0)) (.tmp 68) _ rfl 33 i0 _ 3 40 Try.underlying26 hi0 hz0 hz1 hz2 rfl (by omega) (.slice none 0 0) 0 [] rfl (Own.nil _ _ _) _ _ _ _ _ rfl HR.out.1.1 HR.out.2.1 hb1 hb2 ?_; intro v11 w11 o11 k11 a11; rw [Nat.zero_add, List.nil_append] at o11; obtain ⟨A11, c11, hv11, _, _⟩ := o11.form; subst hv11)
                        | (refine step_append_own _ rfl (.tmp 69) (.tmp 73) _ rfl 33 i0 _ 3 40 Try.underlying26 hi0 hz0 hz1 hz2 rfl (by omega) (.slice A11 j c11) j _ rfl o11 _ _ _ _ _ rfl (HR.out.1.2.keep (fun p hp => Below.cell (Kept.below0 k11) hp)) HR.out.2.2 hb3 hb4 ?_; intro v12 w12 o12 k12 a12; obtain ⟨A12, c12, hv12, _, _⟩ := o12.form; subst hv12))
                      have F : ∃ lv, lv = (Value.slice A12 (j + (ms.length - (j + 1))) c12) ∧ Hid ((delL ms j).length ≤ i + 1 ∧ (∀ m ∈ delL ms j, m.b.length ≤ 30) ∧ SP w.heap.size w w12 b (delL ms j) v4 mask (delL ms j) lv) := by
                        obtain ⟨kk, ff⟩ := join_fresh k11 k12 a11 a12
                        have kW : Kept [] w4 w12 := ⟨kk.os, kk.tape, kk.output, kk.size, kk.block⟩
                        have el : (delL ms j).length = j + (ms.length - (j + 1)) := by rw [delL_len ms j hj]; omega
                        have SS := HP.out.1.row_same (kW.mono (by simp))
                        refine ⟨_, rfl, hid ⟨by omega, fun m hm => hT.out.2 m ?_, ?_⟩⟩
                        · unfold delL at hm
                          simp only [List.mem_append] at hm
                          rcases hm with hm | hm
                          · exact List.mem_of_mem_take hm
                          · exact List.mem_of_mem_drop hm
                        · refine HP.out.1.row (kW.mono (by simp)) (ys' := ys.take (j * 3) ++ ys.drop ((j + 1) * 3)) ?_ ((Seq.del HP.out.2 hj).imp fun cs m h => h.same SS) (fun k hk => .inr (ff k hk))
                          rw [el]
                          exact o12
                      obtain ⟨lv, hlv, F⟩ := F
                      rw [← hlv]
                      clear o11 k11 a11 o12 k12 a12 hm1 hm2 hm3 hm4 hm5 hm6 HR HP hlv
                      go_wp2
                      all_goals
                        go_meet
                        exact ⟨_, v4, mask, rfl, F⟩
                  ·
                    as_aux_lemma =>
                      have hout : n < 0 ∨ (ms.length : Int) ≤ n := by omega
                      obtain rfl : inn = false := by rw [HN.out]; simp; omega
                      have hout2 := hid hout
                      clear hin HN hout

                      go_wp2_with fail
                      refine (drop_out w.heap.size b v mask n ms wc P0.out.q hout2.out).mono ?_
                      rintro e W ⟨rfl, rfl⟩
                      have P1 := P0.out
                      have F : Hid (ms.length ≤ i + 1 ∧ (∀ m ∈ ms, m.b.length ≤ 30) ∧ SP w.heap.size w wc b ms v mask ms (.slice lA ms.length lc)) := hid ⟨by omega, hT.out.2, P1⟩
                      clear P1
                      go_wp2
                      go_meet
                      exact ⟨_, v, mask, rfl, F⟩
              case rest =>
                as_aux_lemma =>
                  obtain ⟨ms', v', mask', rfl, hF⟩ := hcut
                  obtain ⟨A', c', rfl, hA1, hA2⟩ := hF.out.2.2.form
                  have hms := hF.out.1
                  clear x0 x1 x2 x3 x4 hak
                  go_wp2_with fail
                  refine (all_any w.heap.size b v' mask' ms' _ hF.out.2.2.q hF.out.2.2.s.size (by omega) (fun m hm => by have := hF.out.2.1 m hm; omega)).mono ?_
                  rintro e w5 ⟨A7, c7, rfl, ys7, o7, y7, b7, _⟩
                  have P7 := hF.out.2.2.old b7
                  obtain ⟨zs, oz, sz⟩ := P7.o
                  have HZ := hid (And.intro (And.intro o7.rds y7) (And.intro oz.rds sz))
                  have HP7 := hid P7
                  clear o7 y7 b7 P7 oz sz
                  go_wp2_with fail
                  refine (flights_any w.heap.size _ _ _ _ _ _ _ _ ms' _ rfl rfl (by omega) HZ.out.1.1 HZ.out.1.2 HZ.out.2.1 HZ.out.2.2).mono ?_
                  rintro e wf ⟨rfl, kf, rfl⟩
                  have F : Hid (ms'.length ≤ i + 1 ∧ (∀ m ∈ ms', m.b.length ≤ 30) ∧ SP w.heap.size w (w5.drewN kf) b ms' v' mask' ms' (.slice A' ms'.length c')) := hid ⟨hF.out.1, hF.out.2.1, HP7.out.old (belowDrewN (Below.refl _ _) _)⟩
                  go_wp2
                  go_roundg (ko - 1)
                  case measure => have := hT.out.1; omega
                  case rel => exact ⟨i + 1, ms', v', mask', by have := hT.out.1; omega, by go_num, rfl, F⟩
        · have hd : decide ((30 : Int) < (a.b.length : Int)) = true := by simp; omega
          have hd2 : (30 : Int) < (a.b.length : Int) := by omega
          go_wp2
          go_ret
          exact ⟨rfl, (HT.out.2.1.s.below (Nat.le_refl _)).alloc HT.out.2.1.s.size _⟩
      · have hi2 : ¬ (i : Int) < (len : Int) := by omega
        have HT := hid hsp.s
        clear hi hsp hb30s
        go_wp2
        go_ret
        exact ⟨rfl, HT.out.below (Nat.le_refl _)⟩
  · have hl2 : decide ((60 : Int) < (len : Int)) = true := by simp; omega
    have hl3 : (60 : Int) < (len : Int) := by omega
    clear HH
    go_wp2
    go_ret
    exact ⟨rfl, hb1⟩
end Go.Proofs.Ytmffkpcimddbpaa
