/- The contract of hubbubseat.Packet, a Subscribe. -/
import Derived.Test.YtagcfmmbbcnkbaaPackD
import Derived.IntWalk
set_option linter.all false
namespace Go.Proofs.Ytagcfmmbbcnkbaa
open Go.RowKit Go.Hub

set_option maxRecDepth 100000 in
set_option maxHeartbeats 1000000 in
theorem packet_sub (B : Nat) (k a b c : Int) (v : Value) (w : World) (hq : k % 15 = 4 ∨ k % 15 = 5 ∨ k % 15 = 6) (hk0 : 0 ≤ k) (hk1 : k ≤ 255) (ha : 0 ≤ a ∧ a ≤ 255) (hb : 0 ≤ b ∧ b ≤ 255) (hc : 0 ≤ c ∧ c ≤ 255) (hB : B ≤ w.heap.size) :
    Calls Try.prog 8 #[.int .u8 k, .int .u8 a, .int .u8 b, .int .u8 c, v] w (PkRet B w) := by
  obtain ⟨i0, hi0, hz0, hz1, hz2⟩ := info_parts info58
  have z := Blk.new w 28 zeroPk
  have b0 : Below w.heap.size w (w.alloc (.cells zeroPk 28)) := (Below.refl _ _).alloc (Nat.le_refl _) _
  have HH := hid (And.intro ha (And.intro hc (And.intro z b0)))
  obtain ⟨hb0, hb1⟩ := hb
  obtain ⟨hc0, hc1⟩ := hc
  clear ha z b0
  rcases hq with hq | hq | hq
  all_goals
    go_enter Try.func8, Try.ntmps8
    go_wp2_with fail
    refine (filter_any a HH.out.1 _).mono ?_
    rintro e w1 ⟨t1, rfl, _, b1⟩
    have z1 := HH.out.2.2.1.below b1 HH.out.2.2.1.lt
    have d1 := HH.out.2.2.2.trans (b1.mono HH.out.2.2.2.size)
    have on := own_new w1 (.string t1) (.int .i64 (b % 3))
    have dn : Below w1.heap.size w1 (w1.alloc (.cells #[.string t1, .int .i64 (b % 3)] 58)) := (Below.refl _ _).alloc (Nat.le_refl _) _
    have zn := Blk.new (w1.alloc (.cells #[.string t1, .int .i64 (b % 3)] 58)) 28 zeroPk
    have F := fresh_row (w1.alloc (.cells #[.string t1, .int .i64 (b % 3)] 58)) 28 ((pkS (b % 7 + 1) [(t1, b % 3)]).cells (adS (some ⟨w1.heap.size, 0, none⟩) 1)) rfl
    rw [World.size_alloc] at zn F
    have hbt := builtS 8 (b % 7 + 1) [(t1, b % 3)] (some ⟨w1.heap.size, 0, none⟩) 1
    have hM : Sk w w.heap.size (w1.heap.size + 1) 1 (((w1.alloc (.cells #[.string t1, .int .i64 (b % 3)] 58)).alloc (.cells zeroPk 28)).setRow (w1.heap.size + 1) ((pkS (b % 7 + 1) [(t1, b % 3)]).cells (adS (some ⟨w1.heap.size, 0, none⟩) 1))) := by
      have dd := d1.trans (dn.mono d1.size)
      refine ⟨b % 7 + 1, [(t1, b % 3)], some ⟨w1.heap.size, 0, none⟩, 1, F.1, (z1.below dn z1.lt).below F.2 (by have := (z1.below dn z1.lt).lt; simpa using this), ?_, fun k hk => ?_, by simp, dd.trans (F.2.mono (by have := dd.size; simpa using this))⟩
      · exact on.of_eq (fun k hk => F.2.block k (by simp [Value.ownBlock] at hk; subst hk; simp))
      · simp [Value.ownBlock] at hk; subst hk; have := z1.lt; omega
    have hg : w.heap.size < w1.heap.size + 1 := by have := z1.lt; omega
    have HM := hid (And.intro hM hg)
    clear hM hg F on dn z1 d1 b1
    go_upto_region 15 with (first
      | (refine wpList_build_any rfl 58 _ rfl [(0, .string t1), (1, .int .i64 (b % 3))] rfl _ (built582 t1 (b % 3)) ?_)
      | (refine wpList_build_any rfl 28 _ rfl [(0, .int .i64 8), (4, .int .i64 (b % 7 + 1)), (19, .slice (some ⟨w1.heap.size, 0, none⟩) 1 1)] rfl _ hbt ?_)
      | (refine wpList_store_row rfl 28 (.tmp 13) (.tmp 60) rfl (w1.heap.size + 1) ((pkS (b % 7 + 1) [(t1, b % 3)]).cells (adS (some ⟨w1.heap.size, 0, none⟩) 1)) rfl rfl 28 zeroPk zn sz28 rfl (Pk.cells_one _ _) ?_)
      | fail)
    obtain ⟨W3, hW3⟩ : ∃ W, W = ((w1.alloc (.cells #[.string t1, .int .i64 (b % 3)] 58)).alloc (.cells zeroPk 28)).setRow (w1.heap.size + 1) ((pkS (b % 7 + 1) [(t1, b % 3)]).cells (adS (some ⟨w1.heap.size, 0, none⟩) 1)) := ⟨_, rfl⟩
    obtain ⟨g, hgg⟩ : ∃ g, g = w1.heap.size + 1 := ⟨_, rfl⟩
    rw [← hW3, ← hgg] at HM
    rw [← hW3, ← hgg]
    clear hW3 hgg zn hbt
    go_simp
    go_upto_if 63 with fail
    go_cut [] from 61 to 74 (fun wx => Hid (Sk w w.heap.size g 2 wx))
    case first =>
      obtain ⟨⟨i, l, A, cx, y1, y0, ho, hk, hm, hb⟩, hrg⟩ := HM.out
      by_cases hc3 : (c % 3 == 0) = true
      · have e22 : W3.cell? ⟨g, 22, none⟩ = some (.slice A l.length cx) := y1.cell_ (i := 22) rfl
        have nb : ∀ k, (Value.slice A l.length cx).ownBlock = some k → k ≠ g := fun k hk => by
          obtain ⟨_, cs, hcs⟩ := ho.blk k hk
          exact row_ne_struct hcs y1 (by decide)
        have HX := hid (And.intro y1 (And.intro y0 (And.intro ho (And.intro hk (And.intro hm (And.intro hb nb))))))
        have hb63 : l.length + 1 ≤ maxLen := by unfold maxLen; omega
        have hbytes : (l.length + 1) * 24 ≤ 140737488355328 := by omega
        have m0 : c.tmod 2 = c % 2 := Int.tmod_eq_emod_of_nonneg hc0
        have m1 : IntKind.i64.wrap (c.tmod 2) = c % 2 := by rw [m0]; exact IntWalk.i64_in _ (by omega)
        clear y1 y0 ho hk hb nb m0
        go_wp2_with fail
        go_region_law (first
          | (go_simp; go_at_call 18; refine (filter_any c HH.out.2.1 _).mono ?_; rintro e w5 ⟨t2, rfl, _, b5⟩; have y5 := HX.out.1.drew.below b5 HX.out.1.lt; have o5 := (HX.out.2.2.1.drew.kept (Kept.of_below b5 []) (by simp)).alloc (.cells #[.string t2, .int .i64 (c % 2)] 58); have r5 := Rds.boxed w5 #[.string t2, .int .i64 (c % 2)] 58 2 rfl; have x22 : w5.cell? ⟨g, 22, none⟩ = some (.slice A l.length cx) := y5.cell_ (i := 22) rfl; have x22a : (w5.alloc (.cells #[.string t2, .int .i64 (c % 2)] 58)).cell? ⟨g, 22, none⟩ = some (.slice A l.length cx) := (y5.alloc (.cells #[.string t2, .int .i64 (c % 2)] 58)).cell_ (i := 22) rfl)
          | (refine step_append_own _ rfl (.tmp 65) (.tmp 72) _ rfl 58 i0 _ 2 24 Try.underlying25 hi0 hz0 hz1 hz2 rfl (by omega) (.slice A l.length cx) l.length (subCells l) rfl o5 _ _ _ _ _ rfl r5 (by simp [Value.oneCell']) hb63 hbytes ?_; intro v2 w2 o2 k2 at2; obtain ⟨A2, c2, hv2, hc3', hc4⟩ := o2.form; subst hv2; have y2 := (y5.alloc (.cells #[.string t2, .int .i64 (c % 2)] 58)).kept k2 (fun hx => HX.out.2.2.2.2.2.2 _ (by simpa using hx) rfl); have z22 : w2.cell? ⟨g, 22, none⟩ = some (.slice A l.length cx) := y2.cell_ (i := 22) rfl; have f22 := y2.frozen 22))
        all_goals have kk : Kept [] W3 (w5.alloc (.cells #[.string t2, .int .i64 (c % 2)] 58)) := (((Kept.refl [] W3).drew).trans (Kept.of_below b5 []) (by simp)).alloc _
        all_goals go_wp2
        all_goals go_meet
        all_goals exact hid (sk_push (x := (t2, c % 2)) HX.out.1 HX.out.2.1 HX.out.2.2.1 HX.out.2.2.2.1 hm HX.out.2.2.2.2.2.1 kk o2 k2 at2 (by omega) (by omega))
      · have hc3' : (c % 3 == 0) = false := by simpa using hc3
        have HM2 := hid (show Sk w w.heap.size g 2 W3 from ⟨i, l, A, cx, y1, y0, ho, hk, by omega, hb⟩)
        clear y1 y0 ho hk hm hb
        go_wp2
        go_meet
        exact HM2
    case rest =>
      have hrg := HM.out.2
      clear HM
      go_upto_if 77 with fail
      go_cut [] from 75 to 83 (fun wx => Hid (Sk w w.heap.size g 3 wx))
      case first =>
        obtain ⟨i, l, A, cx, y1, y0, ho, hk, hm, hb⟩ := hcut.out
        have e22 : wc.cell? ⟨g, 22, none⟩ = some (.slice A l.length cx) := y1.cell_ (i := 22) rfl
        have nb : ∀ k, (Value.slice A l.length cx).ownBlock = some k → k ≠ g := fun k hk => by
          obtain ⟨_, cs, hcs⟩ := ho.blk k hk
          exact row_ne_struct hcs y1 (by decide)
        have HX := hid (And.intro y1 (And.intro y0 (And.intro ho (And.intro hk (And.intro hm (And.intro hb nb))))))
        have hb63 : l.length + 1 ≤ maxLen := by unfold maxLen; omega
        have hbytes : (l.length + 1) * 24 ≤ 140737488355328 := by omega
        have kk : Kept [] wc (wc.alloc (.cells #[.string ⟨#[97, 35]⟩, .int .i64 1] 58)) := (Kept.refl [] wc).alloc _
        have o5 := ho.alloc (.cells #[.string ⟨#[97, 35]⟩, .int .i64 1] 58)
        have r5 := Rds.boxed wc #[.string ⟨#[97, 35]⟩, .int .i64 1] 58 2 rfl
        have HR := hid hm
        clear y1 y0 ho hk hm hb nb
        go_wp2_with (first
          | (refine wpList_build_any rfl 58 _ rfl [(0, .string ⟨#[97, 35]⟩), (1, .int .i64 1)] rfl _ (built582 ⟨#[97, 35]⟩ 1) ?_)
          | (refine wpList_append_own' _ rfl (.tmp 79) (.tmp 81) _ rfl 58 i0 _ 2 24 Try.underlying25 hi0 hz0 hz1 hz2 rfl (by omega) (.slice A l.length cx) l.length (subCells l) rfl o5 _ _ _ _ _ rfl r5 (by simp [Value.oneCell']) hb63 hbytes ?_; intro v2 w2 o2 k2 at2; obtain ⟨A2, c2, hv2, hc3', hc4⟩ := o2.form; subst hv2; have y2 := (HX.out.1.alloc (.cells #[.string ⟨#[97, 35]⟩, .int .i64 1] 58)).kept k2 (fun hx => HX.out.2.2.2.2.2.2 _ (by simpa using hx) rfl); have z22 : w2.cell? ⟨g, 22, none⟩ = some (.slice A l.length cx) := y2.cell_ (i := 22) rfl; have f22 := y2.frozen 22)
          | fail)
        all_goals go_meet
        · exact hid (sk_push (x := (⟨#[97, 35]⟩, 1)) HX.out.1 HX.out.2.1 HX.out.2.2.1 HX.out.2.2.2.1 HR.out HX.out.2.2.2.2.2.1 kk o2 k2 at2 (by omega) (by omega))
        · exact hid ⟨i, l, A, cx, HX.out.1, HX.out.2.1, HX.out.2.2.1, HX.out.2.2.2.1, by have := HR.out; omega, HX.out.2.2.2.2.2.1⟩
      case rest =>
        skip
        obtain ⟨i, l, A, cx, y1, y0, ho, hk, hm, hb⟩ := hcut.out
        obtain ⟨p, hp⟩ : ∃ p : Pk, p = pkS i l := ⟨_, rfl⟩
        obtain ⟨s, hs⟩ : ∃ s : Ad, s = adS A cx := ⟨_, rfl⟩
        have hok : p.Ok EP B wc s := by
          rw [hp, hs]
          exact ⟨Bs.nil _ _ _ _, Bs.nil _ _ _ _, Bs.nil _ _ _ _, Cs.of_own ho ep58, Cs.nil _ _ _ _ _⟩
        have hl2 : Light p := by rw [hp]; unfold Light; simp; omega
        rw [← hp, ← hs] at y1
        have K := (Kept.refl [w.heap.size] wc).setRow (g := w.heap.size) (by simp) (p.cells s)
        have S := Same.of_kept (E := EP) (B := B) K (fun x hx _ => by
          simp at hx; subst hx
          exact ⟨hB, y0.not_typ (by decide)⟩)
        have HF := hid (And.intro (y0.setRow (p.cells s)) (And.intro (hok.same S) (And.intro hl2 (hb.trans (K.below (B := w.heap.size) (by simp) hb.size)))))
        clear K S hok hl2 hb ho hk hm hp hs
        go_wp2_with (first
          | (refine wpList_load_row rfl 28 (.tmp 13) rfl g rfl 28 (p.cells s) (0, 0) _ y1 Try.underlying28 rfl sz28 ?_)
          | (refine wpList_store_row rfl 28 (.tmp 10) (.tmp 84) rfl w.heap.size (p.cells s) rfl rfl 28 zeroPk y0 sz28 rfl (p.cells_one s) ?_)
          | fail)
        exact ret_cell (g := w.heap.size) rfl _ rfl HF.out.1 Try.underlying28 rfl sz28 rfl ⟨p, s, rfl, HF.out.2.1, HF.out.2.2.1, HF.out.2.2.2⟩
end Go.Proofs.Ytagcfmmbbcnkbaa
