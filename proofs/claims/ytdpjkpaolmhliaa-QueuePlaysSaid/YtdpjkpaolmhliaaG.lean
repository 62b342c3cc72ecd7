/- The contracts of All and Msgs. -/
import Derived.Test.YtdpjkpaolmhliaaF
set_option linter.all false
namespace Go.Proofs.Ytdpjkpaolmhliaa
open Go.RowKit Go.Hub

theorem msg_cells {B n c i : Nat} {A0 : Option Addr} {m : M} {ms : List M} {w : World} {xs : List Value} {W : Nat} (hn : n = ms.length) (ho : Rds w W 4 A0 n xs) (hs : Seq 4 (relM [5] B w) xs ms) (hm : ms[i]? = some m) :
    ∃ g off A1 c1, A0 = some ⟨g, off, none⟩ ∧ g < W ∧ w.cell? ⟨g, off + i * 4, none⟩ = some (.string m.t) ∧ w.cell? ⟨g, off + i * 4 + 1, none⟩ = some (.slice A1 m.p.length c1) ∧ w.cell? ⟨g, off + i * 4 + 2, none⟩ = some (.int .i64 m.q) ∧ w.cell? ⟨g, off + i * 4 + 3, none⟩ = some (.bool m.r) ∧
      Bs [5] B w A1 m.p.length m.p := by
  have hl : i < ms.length := (List.getElem?_eq_some_iff.1 hm).1
  obtain ⟨cs, ⟨A1, c1, rfl, hb⟩, hc⟩ := hs.at_ hm
  obtain ⟨g, off, rfl, hg, hcell⟩ := ho.2 (by omega)
  refine ⟨g, off, A1, c1, rfl, hg, ?_, ?_, ?_, ?_, hb⟩
  · have := hcell (i * 4 + 0) _ (hc 0 _ rfl); simpa using this
  · have := hcell (i * 4 + 1) _ (hc 1 _ rfl); simpa [Nat.add_assoc] using this
  · have := hcell (i * 4 + 2) _ (hc 2 _ rfl); simpa [Nat.add_assoc] using this
  · have := hcell (i * 4 + 3) _ (hc 3 _ rfl); simpa [Nat.add_assoc] using this

set_option maxHeartbeats 1000000 in
theorem msgs_any (B n n' c c' : Nat) (A A' : Option Addr) (xs ys : List Value) (ms : List M) (w : World) (hn : n = ms.length) (hn' : n' = ms.length) (hlen : ms.length ≤ 1000000) (ho : Rds w w.heap.size 4 A n xs) (hs : Seq 4 (relM [5] B w) xs ms)
    (ho' : Rds w w.heap.size 4 A' n' ys) (hs' : Seq 4 (relM [5] B w) ys ms) (hB : B ≤ w.heap.size) :
    Calls Try.prog 16 #[.slice A n c, .slice A' n' c'] w fun e w' => e = .returned (.bool true) ∧ Below w.heap.size w w' := by
  subst hn hn'
  go_enter Try.func16, Try.ntmps16
  go_wp2
  go_loopg [5] ms.length (fun g v wr => ∃ i : Nat, i + g = ms.length ∧ v = .int .i64 i ∧ Below w.heap.size w wr)
  case atStart => exact ⟨0, by omega, rfl, Below.refl _ _⟩
  case round =>
    obtain ⟨i, hi, rfl, hb⟩ := hrel
    by_cases hlt : i < ms.length
    · obtain ⟨m, hm⟩ : ∃ m, ms[i]? = some m := ⟨ms[i], by simp [hlt]⟩
      have S : Same [5] B w wr := .of_below hb
      obtain ⟨g, off, A1, c1, rfl, hg, x0, x1, x2, x3, hb1⟩ := msg_cells (c := c) rfl (ho.below hb) (hs.imp fun cs m h => h.same S) hm
      obtain ⟨g', off', A1', c1', rfl, hg', y0, y1, y2, y3, hb2⟩ := msg_cells (c := c) rfl (ho'.below hb) (hs'.imp fun cs m h => h.same S) hm
      have hi2 : (i : Int) < (ms.length : Int) := by omega
      have HI := hid (And.intro hi (And.intro hb hm))
      have HB := hid (And.intro hb1 hb2)
      clear hi hb hm S hb1 hb2
      go_wp2_with fail
      go_region_held3 (fun w' => w'.cell? ⟨g, off + i * 4, none⟩ = some (.string m.t) ∧ w'.cell? ⟨g, off + i * 4 + 1, none⟩ = some (.slice A1 m.p.length c1) ∧ w'.cell? ⟨g, off + i * 4 + 2, none⟩ = some (.int .i64 m.q) ∧ w'.cell? ⟨g, off + i * 4 + 3, none⟩ = some (.bool m.r) ∧
          w'.cell? ⟨g', off' + i * 4, none⟩ = some (.string m.t) ∧ w'.cell? ⟨g', off' + i * 4 + 1, none⟩ = some (.slice A1' m.p.length c1') ∧ w'.cell? ⟨g', off' + i * 4 + 2, none⟩ = some (.int .i64 m.q) ∧ w'.cell? ⟨g', off' + i * 4 + 3, none⟩ = some (.bool m.r))
        (first | go_keep | exact ⟨u0, u1, u2, u3, v0, v1, v2, v3⟩)
        (first | (go_at_call 13; refine (msg_any B A1 A1' c1 c1' m _ HB.out.1.drew HB.out.2.drew).mono ?_; rintro e w1 ⟨rfl, hbel⟩; have hs0 := HI.out.2.1.size; have u0 := (hbel.cell (p := ⟨g, off + i * 4, none⟩) (by simp; omega)).trans x0; have u1 := (hbel.cell (p := ⟨g, off + i * 4 + 1, none⟩) (by simp; omega)).trans x1; have u2 := (hbel.cell (p := ⟨g, off + i * 4 + 2, none⟩) (by simp; omega)).trans x2; have u3 := (hbel.cell (p := ⟨g, off + i * 4 + 3, none⟩) (by simp; omega)).trans x3; have v0 := (hbel.cell (p := ⟨g', off' + i * 4, none⟩) (by simp; omega)).trans y0; have v1 := (hbel.cell (p := ⟨g', off' + i * 4 + 1, none⟩) (by simp; omega)).trans y1; have v2 := (hbel.cell (p := ⟨g', off' + i * 4 + 2, none⟩) (by simp; omega)).trans y2; have v3 := (hbel.cell (p := ⟨g', off' + i * 4 + 3, none⟩) (by simp; omega)).trans y3))
      have hend : Below w.heap.size w w1 := HI.out.2.1.trans ((⟨hbel.os, hbel.tape, hbel.output, hbel.size, hbel.block⟩ : Below _ wr w1).mono HI.out.2.1.size)
      have HE := hid hend
      clear hbel hend x0 x1 x2 x3 y0 y1 y2 y3 u0 u1 u2 u3 v0 v1 v2 v3 hs0
      go_wp2
      go_roundg (gk - 1)
      case measure => have := HI.out.1; omega
      case rel => exact ⟨i + 1, by have := HI.out.1; omega, by go_num, HE.out⟩
    · have hi2 : ¬ (i : Int) < (ms.length : Int) := by omega
      have HE := hid hb
      clear hi hb
      go_wp2
      go_ret
      exact ⟨rfl, HE.out⟩
end Go.Proofs.Ytdpjkpaolmhliaa
