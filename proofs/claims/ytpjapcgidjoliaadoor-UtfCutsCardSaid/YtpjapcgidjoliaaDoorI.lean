/- The contract of 'runes': the same runes are the same. -/
import Derived.Test.YtpjapcgidjoliaaDoorH
set_option linter.all false
namespace Go.Proofs.YtpjapcgidjoliaaDoor
open Go.RowKit Go.Hub Go.Lib

set_option maxRecDepth 100000 in
set_option maxHeartbeats 1000000 in
theorem same_any (A A' : Option Addr) (c c' n n' : Nat) (ns : List Int) (w : World) (hn : n = ns.length) (hn' : n' = ns.length) (hl : ns.length ≤ 1000000) (h : Rds w w.heap.size 1 A n (i32s ns)) (h' : Rds w w.heap.size 1 A' n' (i32s ns)) :
    Calls Tryd.prog 15 #[.slice A n c, .slice A' n' c'] w fun e w' => e = .returned (.bool true) ∧ Below w.heap.size w w' := by
  subst hn hn'
  have HH := hid (And.intro h h')
  clear h h'
  go_enter Tryd.func15, Tryd.ntmps15
  go_wp2
  go_loopg [5] ns.length (fun g v wr => ∃ i : Nat, i + g = ns.length ∧ v = .int .i64 i ∧ Below w.heap.size w wr)
  case atStart => exact ⟨0, by omega, rfl, Below.refl _ _⟩
  case round =>
    obtain ⟨i, hi, rfl, hb⟩ := hrel
    by_cases hlt : i < ns.length
    · obtain ⟨x, hx⟩ : ∃ x, ns[i]? = some x := ⟨ns[i], by simp [hlt]⟩
      obtain ⟨b, off, rfl, hbw, hcl⟩ := HH.out.1.2 (by omega)
      obtain ⟨b', off', rfl, hbw', hcl'⟩ := HH.out.2.2 (by omega)
      have hcell := (hb.cell (p := ⟨b, off + i, none⟩) hbw).trans (hcl i (.int .i32 x) (by simp [i32s, hx]))
      have hcell' := (hb.cell (p := ⟨b', off' + i, none⟩) hbw').trans (hcl' i (.int .i32 x) (by simp [i32s, hx]))
      have hi2 : (i : Int) < (ns.length : Int) := by omega
      have HI := hid (And.intro hi hb)
      clear hx hcl hcl' hi hb hbw hbw' hlt
      go_wp2
      go_quiet (fail)
      go_wp2
      go_roundg (gk - 1)
      case measure => have := HI.out.1; omega
      case rel => exact ⟨i + 1, by have := HI.out.1; omega, by go_num, belowDrewN HI.out.2 _⟩
    · have hi2 : ¬ (i : Int) < (ns.length : Int) := by omega
      have HB := hid hb
      clear hi hb hlt
      go_wp2
      go_ret
      exact ⟨rfl, HB.out⟩
end Go.Proofs.YtpjapcgidjoliaaDoor
