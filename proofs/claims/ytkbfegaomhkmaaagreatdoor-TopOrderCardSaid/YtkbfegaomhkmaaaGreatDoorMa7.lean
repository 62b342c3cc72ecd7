/- All regions of the functions that are entered were looked at. -/
import Derived.Test.YtkbfegaomhkmaaaGreatDoorMa3
set_option linter.all false
namespace Go.Ev
open Go Go.Proofs
theorem good_0 : goodA Tryz.prog gdN goodN 0 125 = true := by kernel_rfl
theorem good_125 : goodA Tryz.prog gdN goodN 125 125 = true := by kernel_rfl
theorem good_250 : goodA Tryz.prog gdN goodN 250 125 = true := by kernel_rfl
theorem good_375 : goodA Tryz.prog gdN goodN 375 123 = true := by kernel_rfl
theorem gd_lt : Nat.blt gdN (2 ^ 498) = true := by kernel_rfl
theorem good_s : GoodS Tryz.prog gdN goodN := by
  intro f hf fn c h1 h2
  have hlt : f < 498 := bit_lt gd_lt hf
  rcases Nat.lt_or_ge f 125 with q | q
  · exact goodA_ok 125 good_0 f (by omega) (by omega) hf fn c h1 h2
  rcases Nat.lt_or_ge f 250 with q | q
  · exact goodA_ok 125 good_125 f (by omega) (by omega) hf fn c h1 h2
  rcases Nat.lt_or_ge f 375 with q | q
  · exact goodA_ok 125 good_250 f (by omega) (by omega) hf fn c h1 h2
  exact goodA_ok 123 good_375 f (by omega) (by omega) hf fn c h1 h2
end Go.Ev
