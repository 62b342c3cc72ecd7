/- UtfTells: the walk. -/
import Derived.Test.YtpjapcgidjoliaaDoorK
set_option linter.all false
namespace Go.Proofs.YtpjapcgidjoliaaDoor
open Go.RowKit Go.Hub Go.Lib

/-- a byte slice, known -/
def Sl (B : Nat) (w : World) (v : Value) (l : List UInt8) : Prop := ∃ A c, v = .slice A l.length c ∧ Bs [5] B w A l.length l ∧ l.length ≤ c ∧ c ≤ maxLen
theorem Sl.old {B : Nat} {w w' : World} {v : Value} {l : List UInt8} (h : Sl B w v l) (hb : Below w.heap.size w w') : Sl B w' v l := by
  obtain ⟨A, c, e, h1, h2⟩ := h
  exact ⟨A, c, e, h1.same (.of_below hb), h2⟩
theorem Sl.of_own {B : Nat} {w : World} {v : Value} {l : List UInt8} (h : Own w 5 1 v l.length (l.map Go.Hub.u8)) : Sl B w v l := by
  obtain ⟨A, c, rfl, h1, h2⟩ := h.form
  exact ⟨A, c, rfl, Bs.of_own h (by simp), h1, h2⟩
/-- block G holds two short byte slices -/
def Two (B : Nat) (w : World) (G : Nat) : Prop := G < w.heap.size ∧ ∀ k, k < 2 → ∃ v l, w.cell? ⟨G, k, none⟩ = some v ∧ Sl B w v l ∧ l.length ≤ 1000
theorem Two.old {B : Nat} {w w' : World} {G : Nat} (h : Two B w G) (hb : Below w.heap.size w w') : Two B w' G :=
  ⟨Nat.lt_of_lt_of_le h.1 hb.size, fun k hk => by
    obtain ⟨v, l, h1, h2, h3⟩ := h.2 k hk
    exact ⟨v, l, (hb.cell (p := ⟨G, k, none⟩) h.1).trans h1, h2.old hb, h3⟩⟩
theorem two_new {B : Nat} {w : World} {v v' : Value} {l l' : List UInt8} (h : Sl B w v l) (h' : Sl B w v' l') (hl : l.length ≤ 1000) (hl' : l'.length ≤ 1000) : Two B (w.alloc (.cells #[v, v'] 22)) w.heap.size := by
  have hb : Below w.heap.size w (w.alloc (.cells #[v, v'] 22)) := (Below.refl _ _).alloc (Nat.le_refl _) _
  refine ⟨by simp, fun k hk => ?_⟩
  match k, hk with
  | 0, _ => exact ⟨v, l, by rw [World.cell?_alloc_new]; rfl, h.old hb, hl⟩
  | 1, _ => exact ⟨v', l', by rw [World.cell?_alloc_new]; rfl, h'.old hb, hl'⟩
/-- block G holds five numbers -/
def Five (w : World) (G : Nat) : Prop := G < w.heap.size ∧ ∀ k, k < 5 → ∃ z : Int, w.cell? ⟨G, k, none⟩ = some (.int .i64 z) ∧ -9223372036854775808 ≤ z ∧ z ≤ 9223372036854775807
theorem Five.old {w w' : World} {G : Nat} (h : Five w G) (hb : Below w.heap.size w w') : Five w' G :=
  ⟨Nat.lt_of_lt_of_le h.1 hb.size, fun k hk => by
    obtain ⟨z, h1, h2⟩ := h.2 k hk
    exact ⟨z, (hb.cell (p := ⟨G, k, none⟩) h.1).trans h1, h2⟩⟩
theorem five_new (w : World) (z0 z1 z2 z3 z4 : Int) (h : ∀ z ∈ [z0, z1, z2, z3, z4], -9223372036854775808 ≤ z ∧ z ≤ 9223372036854775807) : Five (w.alloc (.cells #[.int .i64 z0, .int .i64 z1, .int .i64 z2, .int .i64 z3, .int .i64 z4] 3)) w.heap.size := by
  refine ⟨by simp, fun k hk => ?_⟩
  match k, hk with
  | 0, _ => exact ⟨z0, by rw [World.cell?_alloc_new]; rfl, h _ (by simp)⟩
  | 1, _ => exact ⟨z1, by rw [World.cell?_alloc_new]; rfl, h _ (by simp)⟩
  | 2, _ => exact ⟨z2, by rw [World.cell?_alloc_new]; rfl, h _ (by simp)⟩
  | 3, _ => exact ⟨z3, by rw [World.cell?_alloc_new]; rfl, h _ (by simp)⟩
  | 4, _ => exact ⟨z4, by rw [World.cell?_alloc_new]; rfl, h _ (by simp)⟩

set_option maxRecDepth 100000 in
set_option maxHeartbeats 2000000 in
theorem tells_any (v0 v1 : Value) (a p : List UInt8) (n k : Int) (w : World) (hT : Tabs w) (h0 : Sl w.heap.size w v0 a) (h1 : Sl w.heap.size w v1 p) (hn : -9223372036854775808 ≤ n ∧ n ≤ 9223372036854775807) (hk : 0 ≤ k ∧ k ≤ 255) :
    Calls Tryd.prog 3 #[v0, v1, .int .i64 n, .int .u8 k] w fun e w' => e = .returned (.bool true) ∧ Below w.heap.size w w' := by
  have h0' := h0
  have h1' := h1
  obtain ⟨A0, c0, rfl, hb0, hc0, hm0⟩ := h0
  obtain ⟨A1, c1, rfl, hb1, hc1, hm1⟩ := h1
  have HS := hid (And.intro h0' h1')
  have HN := hid (And.intro hn hk)
  have HT := hid hT
  clear hb0 hb1 h0' h1' hn hT
  go_enter Tryd.func3, Tryd.ntmps3
  go_wp2_with fail
  refine (known_any w HT.out).mono ?_
  rintro e w1 ⟨rfl, b1⟩
  have B1 := hid b1
  by_cases g1 : (200 : Int) < (a.length : Int)
  · have g1b : decide ((200 : Int) < (a.length : Int)) = true := by simpa using g1
    clear b1
    go_wp2
    go_ret
    exact ⟨rfl, B1.out⟩
  have g1b : decide ((200 : Int) < (a.length : Int)) = false := by simpa using g1
  by_cases g2 : (60 : Int) < (p.length : Int)
  · have g2b : decide ((60 : Int) < (p.length : Int)) = true := by simpa using g2
    clear b1
    go_wp2
    go_ret
    exact ⟨rfl, B1.out⟩
  have g2b : decide ((60 : Int) < (p.length : Int)) = false := by simpa using g2
  have hpl : p.length ≤ 60 := by omega
  have hal : a.length ≤ 200 := by omega
  clear b1
  go_wp2_with fail
  have HP := HS.out.2.old B1.out
  obtain ⟨A1', c1', e1, hbs, _, _⟩ := HP
  cases e1
  refine (mixed_any [5] w.heap.size A1 c1 p w1 hbs (by omega)).mono ?_
  rintro e w2 ⟨b2, v2, m, rfl, hml, o2, _⟩
  obtain ⟨A2, c2, rfl, _, _⟩ := o2.form
  have p2 := B1.out.trans (b2.mono B1.out.size)
  have t2 := two_new (B := w.heap.size) (HS.out.1.old p2) (Sl.of_own o2) (by omega) (by omega)
  have p3 := p2.trans (((Below.refl w2.heap.size w2).alloc (Nat.le_refl _) (.cells #[.slice A0 a.length c0, .slice A2 m.length c2] 22)).mono p2.size)
  obtain ⟨G, hG⟩ : ∃ G, G = w2.heap.size := ⟨_, rfl⟩
  obtain ⟨W, hW⟩ : ∃ W, W = w2.alloc (.cells #[.slice A0 a.length c0, .slice A2 m.length c2] 22) := ⟨_, rfl⟩
  rw [← hG, ← hW] at t2
  rw [← hW] at p3
  have HG := hid (And.intro t2 p3)
  clear t2 p3 o2 hml p2 b2 hbs
  go_wp2_with fail
  rw [← hG, ← hW]
  clear hG hW
  go_loopg [30] 2 (fun g v wr => ∃ j : Nat, j + g = 2 ∧ v = .int .i64 j ∧ Hid (Two w.heap.size wr G ∧ Below w.heap.size w wr))
  case atStart => exact ⟨0, rfl, rfl, HG⟩
  case round =>
    obtain ⟨j, hj, rfl, hR⟩ := hrel
    obtain ⟨wo, rfl⟩ : ∃ wo : World, wo = wr := ⟨_, rfl⟩
    obtain ⟨gko, rfl⟩ : ∃ g : Nat, g = gk := ⟨_, rfl⟩
    by_cases hlt : j < 2
    · obtain ⟨v, l, hcell, ⟨A, c, rfl, hbs, hc1, hc2⟩, hl⟩ := hR.out.1.2 j hlt
      have hj2 : (j : Int) < 2 := by omega
      have hcv := hbs.conv (P := Tryd.prog) (c := c) Tryd.underlying22 Tryd.underlying5 Tryd.underlying9
      have HI := hid hj
      have hbb := hR.out.2
      have HL := hid (rw_len_le l)
      clear hj hlt
      go_wp2_with fail
      -- the document's runes
      refine (runesR_any ⟨l.toArray⟩ wo (by show l.length ≤ _; omega)).mono ?_
      rintro e w3 ⟨b3, v3, rfl, o3, _⟩
      obtain ⟨A3, c3, rfl, _, _⟩ := o3.form
      have o3 : Own w3 21 1 (.slice A3 (rwl l).length c3) (rwl l).length (i32s (runesL l)) := o3
      have bs3 := hbs.same (.of_below b3)
      have tt3 := HT.out.old (hbb.trans (b3.mono hbb.size))
      have p3 := hbb.trans (b3.mono hbb.size)
      have q3 := b3
      clear b3 hcv hcell
      go_wp2_with fail
      refine (chk_any [5] w.heap.size A c l w3 tt3 bs3 hc1 hc2).mono ?_
      rintro e w4 ⟨rfl, b4⟩
      have bs4 := bs3.same (.of_below b4)
      have r3 := o3.rds
      have r4 := (r3.below b4).more b4.size
      have p4 := p3.trans (b4.mono p3.size)
      have q4 := q3.trans (b4.mono q3.size)
      clear b4 p3 q3 bs3 r3 o3 tt3
      go_wp2_with fail
      refine (chkR_any [5] w.heap.size A c l w4 bs4 hc1 hc2).mono ?_
      rintro e w5 ⟨rfl, rfl⟩
      clear bs4 hbs
      go_wp2_with fail
      refine (count_any ⟨l.toArray⟩ w5 (by show l.length ≤ _; unfold maxLen; omega)).mono ?_
      rintro e w6 ⟨rfl, b6⟩
      have r6 := (r4.below b6).more b6.size
      have p6 := p4.trans (b6.mono p4.size)
      have q6 := q4.trans (b6.mono q4.size)
      clear b6 r4 p4 q4
      go_wp2_with fail
      refine (runes_any ⟨l.toArray⟩ w6 (by show l.length ≤ _; omega)).mono ?_
      rintro e w7 ⟨b7, v7, rfl, o7, _⟩
      obtain ⟨A7, c7, rfl, _, _⟩ := o7.form
      have o7 : Own w7 21 1 (.slice A7 (rwl l).length c7) (rwl l).length (i32s (runesL l)) := o7
      have r7 := (r6.below b7).more b7.size
      have r7' := o7.rds
      have p7 := p6.trans (b7.mono p6.size)
      have q7 := q6.trans (b7.mono q6.size)
      clear b7 r6 p6 q6 o7
      go_wp2_with fail
      refine (same_any A7 A3 c7 c3 _ _ (runesL l) w7 (runes_len l).symm (runes_len l).symm (by rw [runes_len]; have := HL.out; omega) r7' r7).mono ?_
      rintro e w8 ⟨rfl, b8⟩
      have p8 := p7.trans (b8.mono p7.size)
      have q8 := q7.trans (b8.mono q7.size)
      clear b8 r7 r7' p7 q7
      have hrl : (rwl l).length ≤ 1000 := by have := HL.out; omega
      obtain ⟨R, hRR⟩ : ∃ R, R = (rwl l).length := ⟨_, rfl⟩
      rw [← hRR] at hrl ⊢
      have F := five_new w8 n (k % 30) R (R + 1) (-1) (by
        have := HN.out
        simp only [List.forall_mem_cons, List.not_mem_nil, false_imp_iff, implies_true, and_true]
        omega)
      have p9 := p8.trans (((Below.refl w8.heap.size w8).alloc (Nat.le_refl _) (.cells #[.int .i64 n, .int .i64 (k % 30), .int .i64 R, .int .i64 (R + 1), .int .i64 (-1)] 3)).mono p8.size)
      have q9 := q8.trans (((Below.refl w8.heap.size w8).alloc (Nat.le_refl _) (.cells #[.int .i64 n, .int .i64 (k % 30), .int .i64 R, .int .i64 (R + 1), .int .i64 (-1)] 3)).mono q8.size)
      obtain ⟨G2, hG2⟩ : ∃ G, G = w8.heap.size := ⟨_, rfl⟩
      obtain ⟨W2, hW2⟩ : ∃ W, W = w8.alloc (.cells #[.int .i64 n, .int .i64 (k % 30), .int .i64 R, .int .i64 (R + 1), .int .i64 (-1)] 3) := ⟨_, rfl⟩
      rw [← hG2, ← hW2] at F
      rw [← hW2] at p9 q9
      have HF := hid (And.intro F (And.intro p9 q9))
      clear F p9 q9 p8 q8 o3 o7 hRR hbb
      go_wp2_with fail
      rw [← hG2, ← hW2]
      clear hG2 hW2
      go_loopg [68] 5 (fun g v wr => ∃ j : Nat, j + g = 5 ∧ v = .int .i64 j ∧ Hid (Five wr G2 ∧ Below w.heap.size w wr ∧ Below wo.heap.size wo wr))
      case atStart => exact ⟨0, rfl, rfl, HF⟩
      case round =>
        obtain ⟨j2, hj, rfl, hR2⟩ := hrel
        obtain ⟨wi, rfl⟩ : ∃ wi : World, wi = wr := ⟨_, rfl⟩
        by_cases hlt : j2 < 5
        · obtain ⟨z, hcell, hz1, hz2⟩ := hR2.out.1.2 j2 hlt
          have hjj : (j2 : Int) < 5 := by omega
          have HJ := hid hj
          clear hj hlt
          go_wp2_with fail
          refine (place_any ⟨l.toArray⟩ z wi (by show l.length ≤ _; unfold maxLen; omega)).mono ?_
          rintro e w10 ⟨rfl, b10⟩
          clear hcell
          go_wp2_with fail
          refine (placeR_any ⟨l.toArray⟩ z w10 (by show l.length ≤ _; omega) ⟨hz1, hz2⟩).mono ?_
          rintro e w11 ⟨rfl, b11⟩
          have q11 := b10.trans (b11.mono b10.size)
          clear b10 b11
          go_wp2_with fail
          refine (cut_any ⟨l.toArray⟩ z w11 (by show l.length ≤ _; unfold maxLen; omega)).mono ?_
          rintro e w12 ⟨rfl, b12⟩
          have q12 := q11.trans (b12.mono q11.size)
          clear q11 b12
          go_wp2_with fail
          refine (cutR_any ⟨l.toArray⟩ z w12 (by show l.length ≤ _; omega) ⟨hz1, hz2⟩).mono ?_
          rintro e w13 ⟨rfl, b13⟩
          have q13 := q12.trans (b13.mono q12.size)
          have HF2 := hid (show Five w13 G2 ∧ Below w.heap.size w w13 ∧ Below wo.heap.size wo w13 from ⟨hR2.out.1.old q13, hR2.out.2.1.trans (q13.mono hR2.out.2.1.size), hR2.out.2.2.trans (q13.mono hR2.out.2.2.size)⟩)
          clear q12 b13 q13
          go_wp2
          go_roundg (gk - 1)
          case measure => have := HJ.out; omega
          case rel => exact ⟨j2 + 1, by have := HJ.out; omega, by go_num, HF2⟩
        · have hjj : ¬ (j2 : Int) < 5 := by omega
          have HE := hid (show Two w.heap.size wi G ∧ Below w.heap.size w wi from ⟨hR.out.1.old hR2.out.2.2, hR2.out.2.1⟩)
          clear hj hlt
          go_wp2
          go_roundg (gko - 1)
          case measure => have := HI.out; omega
          case rel => exact ⟨j + 1, by have := HI.out; omega, by go_num, HE⟩
    · have hj2 : ¬ (j : Int) < 2 := by omega
      clear hj hlt
      go_wp2
      go_ret
      exact ⟨rfl, hR.out.2⟩
end Go.Proofs.YtpjapcgidjoliaaDoor
