/- What TopOrder comes to: true, whatever its arguments; nothing that was there turns. -/
import Derived.Test.YtkbfegaomhkmaaaGreatDoorMa4
import Derived.Test.YtkbfegaomhkmaaaGreatDoorMa6
import Derived.Test.YtkbfegaomhkmaaaGreatDoorMa7
import Derived.Test.YtkbfegaomhkmaaaGreatDoorMa8
import Derived.Test.YtkbfegaomhkmaaaGreatDoorMa9
import Derived.Test.YtkbfegaomhkmaaaGreatDoorMa10
import Derived.Test.YtkbfegaomhkmaaaGreatDoorMa11
import Derived.Test.YtkbfegaomhkmaaaGreatDoorMa12
import Derived.Test.YtkbfegaomhkmaaaGreatDoorMa13
import Derived.Test.YtkbfegaomhkmaaaGreatDoorMa14
import Derived.Test.YtkbfegaomhkmaaaGreatDoorMa15
import Derived.Test.YtkbfegaomhkmaaaGreatDoorMa16
set_option linter.all false
namespace Go.Ev
open Go Go.Proofs
theorem known_seal : Seal Tryz.prog 4 [] 33 := seal_ok mixed ent_s ext_s good_s extN_ok pool_lt (by kernel_rfl) known_run
theorem ext_x : ExtS Tryz.prog pool (sealX extN 4 33) := sealX_ok extN_ok known_seal
theorem sl_0_0 : Seal Tryz.prog 3 [cC .u8 12 0, cC .u8 3 0] 33 := seal_ok mixed ent_s ext_s good_s ext_x pool_lt (by kernel_rfl) ord_0_0
theorem sl_1_0 : Seal Tryz.prog 3 [cC .u8 12 1, cC .u8 3 0] 33 := seal_ok mixed ent_s ext_s good_s ext_x pool_lt (by kernel_rfl) ord_1_0
theorem sl_2_0 : Seal Tryz.prog 3 [cC .u8 12 2, cC .u8 3 0] 33 := seal_ok mixed ent_s ext_s good_s ext_x pool_lt (by kernel_rfl) ord_2_0
theorem sl_3_0 : Seal Tryz.prog 3 [cC .u8 12 3, cC .u8 3 0] 33 := seal_ok mixed ent_s ext_s good_s ext_x pool_lt (by kernel_rfl) ord_3_0
theorem sl_4_0 : Seal Tryz.prog 3 [cC .u8 12 4, cC .u8 3 0] 33 := seal_ok mixed ent_s ext_s good_s ext_x pool_lt (by kernel_rfl) ord_4_0
theorem sl_5_0 : Seal Tryz.prog 3 [cC .u8 12 5, cC .u8 3 0] 33 := seal_ok mixed ent_s ext_s good_s ext_x pool_lt (by kernel_rfl) ord_5_0
theorem sl_6_0 : Seal Tryz.prog 3 [cC .u8 12 6, cC .u8 3 0] 33 := seal_ok mixed ent_s ext_s good_s ext_x pool_lt (by kernel_rfl) ord_6_0
theorem sl_7_0 : Seal Tryz.prog 3 [cC .u8 12 7, cC .u8 3 0] 33 := seal_ok mixed ent_s ext_s good_s ext_x pool_lt (by kernel_rfl) ord_7_0
theorem sl_8_0 : Seal Tryz.prog 3 [cC .u8 12 8, cC .u8 3 0] 33 := seal_ok mixed ent_s ext_s good_s ext_x pool_lt (by kernel_rfl) ord_8_0
theorem sl_9_0 : Seal Tryz.prog 3 [cC .u8 12 9, cC .u8 3 0] 33 := seal_ok mixed ent_s ext_s good_s ext_x pool_lt (by kernel_rfl) ord_9_0
theorem sl_10_0 : Seal Tryz.prog 3 [cC .u8 12 10, cC .u8 3 0] 33 := seal_ok mixed ent_s ext_s good_s ext_x pool_lt (by kernel_rfl) ord_10_0
theorem sl_11_0 : Seal Tryz.prog 3 [cC .u8 12 11, cC .u8 3 0] 33 := seal_ok mixed ent_s ext_s good_s ext_x pool_lt (by kernel_rfl) ord_11_0
theorem sl_0_1 : Seal Tryz.prog 3 [cC .u8 12 0, cC .u8 3 1] 33 := seal_ok mixed ent_s ext_s good_s ext_x pool_lt (by kernel_rfl) ord_0_1
theorem sl_1_1 : Seal Tryz.prog 3 [cC .u8 12 1, cC .u8 3 1] 33 := seal_ok mixed ent_s ext_s good_s ext_x pool_lt (by kernel_rfl) ord_1_1
theorem sl_2_1 : Seal Tryz.prog 3 [cC .u8 12 2, cC .u8 3 1] 33 := seal_ok mixed ent_s ext_s good_s ext_x pool_lt (by kernel_rfl) ord_2_1
theorem sl_3_1 : Seal Tryz.prog 3 [cC .u8 12 3, cC .u8 3 1] 33 := seal_ok mixed ent_s ext_s good_s ext_x pool_lt (by kernel_rfl) ord_3_1
theorem sl_4_1 : Seal Tryz.prog 3 [cC .u8 12 4, cC .u8 3 1] 33 := seal_ok mixed ent_s ext_s good_s ext_x pool_lt (by kernel_rfl) ord_4_1
theorem sl_5_1 : Seal Tryz.prog 3 [cC .u8 12 5, cC .u8 3 1] 33 := seal_ok mixed ent_s ext_s good_s ext_x pool_lt (by kernel_rfl) ord_5_1
theorem sl_6_1 : Seal Tryz.prog 3 [cC .u8 12 6, cC .u8 3 1] 33 := seal_ok mixed ent_s ext_s good_s ext_x pool_lt (by kernel_rfl) ord_6_1
theorem sl_7_1 : Seal Tryz.prog 3 [cC .u8 12 7, cC .u8 3 1] 33 := seal_ok mixed ent_s ext_s good_s ext_x pool_lt (by kernel_rfl) ord_7_1
theorem sl_8_1 : Seal Tryz.prog 3 [cC .u8 12 8, cC .u8 3 1] 33 := seal_ok mixed ent_s ext_s good_s ext_x pool_lt (by kernel_rfl) ord_8_1
theorem sl_9_1 : Seal Tryz.prog 3 [cC .u8 12 9, cC .u8 3 1] 33 := seal_ok mixed ent_s ext_s good_s ext_x pool_lt (by kernel_rfl) ord_9_1
theorem sl_10_1 : Seal Tryz.prog 3 [cC .u8 12 10, cC .u8 3 1] 33 := seal_ok mixed ent_s ext_s good_s ext_x pool_lt (by kernel_rfl) ord_10_1
theorem sl_11_1 : Seal Tryz.prog 3 [cC .u8 12 11, cC .u8 3 1] 33 := seal_ok mixed ent_s ext_s good_s ext_x pool_lt (by kernel_rfl) ord_11_1
theorem sl_0_2 : Seal Tryz.prog 3 [cC .u8 12 0, cC .u8 3 2] 33 := seal_ok mixed ent_s ext_s good_s ext_x pool_lt (by kernel_rfl) ord_0_2
theorem sl_1_2 : Seal Tryz.prog 3 [cC .u8 12 1, cC .u8 3 2] 33 := seal_ok mixed ent_s ext_s good_s ext_x pool_lt (by kernel_rfl) ord_1_2
theorem sl_2_2 : Seal Tryz.prog 3 [cC .u8 12 2, cC .u8 3 2] 33 := seal_ok mixed ent_s ext_s good_s ext_x pool_lt (by kernel_rfl) ord_2_2
theorem sl_3_2 : Seal Tryz.prog 3 [cC .u8 12 3, cC .u8 3 2] 33 := seal_ok mixed ent_s ext_s good_s ext_x pool_lt (by kernel_rfl) ord_3_2
theorem sl_4_2 : Seal Tryz.prog 3 [cC .u8 12 4, cC .u8 3 2] 33 := seal_ok mixed ent_s ext_s good_s ext_x pool_lt (by kernel_rfl) ord_4_2
theorem sl_5_2 : Seal Tryz.prog 3 [cC .u8 12 5, cC .u8 3 2] 33 := seal_ok mixed ent_s ext_s good_s ext_x pool_lt (by kernel_rfl) ord_5_2
theorem sl_6_2 : Seal Tryz.prog 3 [cC .u8 12 6, cC .u8 3 2] 33 := seal_ok mixed ent_s ext_s good_s ext_x pool_lt (by kernel_rfl) ord_6_2
theorem sl_7_2 : Seal Tryz.prog 3 [cC .u8 12 7, cC .u8 3 2] 33 := seal_ok mixed ent_s ext_s good_s ext_x pool_lt (by kernel_rfl) ord_7_2
theorem sl_8_2 : Seal Tryz.prog 3 [cC .u8 12 8, cC .u8 3 2] 33 := seal_ok mixed ent_s ext_s good_s ext_x pool_lt (by kernel_rfl) ord_8_2
theorem sl_9_2 : Seal Tryz.prog 3 [cC .u8 12 9, cC .u8 3 2] 33 := seal_ok mixed ent_s ext_s good_s ext_x pool_lt (by kernel_rfl) ord_9_2
theorem sl_10_2 : Seal Tryz.prog 3 [cC .u8 12 10, cC .u8 3 2] 33 := seal_ok mixed ent_s ext_s good_s ext_x pool_lt (by kernel_rfl) ord_10_2
theorem sl_11_2 : Seal Tryz.prog 3 [cC .u8 12 11, cC .u8 3 2] 33 := seal_ok mixed ent_s ext_s good_s ext_x pool_lt (by kernel_rfl) ord_11_2
theorem cls_rel {m r : Nat} {d : Int} (h : 0 ≤ d ∧ d ≤ 255) (hm : 0 < m ∧ m < 1024) (e : d % m = (r : Int)) : ∀ G, VRel G (cC .u8 m r) (.int .u8 d) := fun G => .cls .u8 m r d (.inr ⟨by decide, h⟩) hm e
theorem ord_true (d1 d2 : Int) (h1 : 0 ≤ d1 ∧ d1 ≤ 255) (h2 : 0 ≤ d2 ∧ d2 ≤ 255) (w : World) : Calls Tryz.prog 3 #[.int .u8 d1, .int .u8 d2] w fun e w' => e = .returned (.bool true) ∧ Kept w w' := by
  have key : ∀ r s : Nat, d1 % (12 : Nat) = (r : Int) → d2 % (3 : Nat) = (s : Int) → Seal Tryz.prog 3 [cC .u8 12 r, cC .u8 3 s] 33 → Calls Tryz.prog 3 #[.int .u8 d1, .int .u8 d2] w fun e w' => e = .returned (.bool true) ∧ Kept w w' :=
    fun r s e1 e2 S => S.true rfl (two_rel (cls_rel h1 (by decide) e1) (cls_rel h2 (by decide) e2))
  have a1 : d1 % 12 = 0 ∨ d1 % 12 = 1 ∨ d1 % 12 = 2 ∨ d1 % 12 = 3 ∨ d1 % 12 = 4 ∨ d1 % 12 = 5 ∨ d1 % 12 = 6 ∨ d1 % 12 = 7 ∨ d1 % 12 = 8 ∨ d1 % 12 = 9 ∨ d1 % 12 = 10 ∨ d1 % 12 = 11 := by omega
  have a2 : d2 % 3 = 0 ∨ d2 % 3 = 1 ∨ d2 % 3 = 2 := by omega
  rcases a2 with e2 | e2 | e2
  · rcases a1 with e1 | e1 | e1 | e1 | e1 | e1 | e1 | e1 | e1 | e1 | e1 | e1
    · exact key 0 0 e1 e2 sl_0_0
    · exact key 1 0 e1 e2 sl_1_0
    · exact key 2 0 e1 e2 sl_2_0
    · exact key 3 0 e1 e2 sl_3_0
    · exact key 4 0 e1 e2 sl_4_0
    · exact key 5 0 e1 e2 sl_5_0
    · exact key 6 0 e1 e2 sl_6_0
    · exact key 7 0 e1 e2 sl_7_0
    · exact key 8 0 e1 e2 sl_8_0
    · exact key 9 0 e1 e2 sl_9_0
    · exact key 10 0 e1 e2 sl_10_0
    · exact key 11 0 e1 e2 sl_11_0
  · rcases a1 with e1 | e1 | e1 | e1 | e1 | e1 | e1 | e1 | e1 | e1 | e1 | e1
    · exact key 0 1 e1 e2 sl_0_1
    · exact key 1 1 e1 e2 sl_1_1
    · exact key 2 1 e1 e2 sl_2_1
    · exact key 3 1 e1 e2 sl_3_1
    · exact key 4 1 e1 e2 sl_4_1
    · exact key 5 1 e1 e2 sl_5_1
    · exact key 6 1 e1 e2 sl_6_1
    · exact key 7 1 e1 e2 sl_7_1
    · exact key 8 1 e1 e2 sl_8_1
    · exact key 9 1 e1 e2 sl_9_1
    · exact key 10 1 e1 e2 sl_10_1
    · exact key 11 1 e1 e2 sl_11_1
  · rcases a1 with e1 | e1 | e1 | e1 | e1 | e1 | e1 | e1 | e1 | e1 | e1 | e1
    · exact key 0 2 e1 e2 sl_0_2
    · exact key 1 2 e1 e2 sl_1_2
    · exact key 2 2 e1 e2 sl_2_2
    · exact key 3 2 e1 e2 sl_3_2
    · exact key 4 2 e1 e2 sl_4_2
    · exact key 5 2 e1 e2 sl_5_2
    · exact key 6 2 e1 e2 sl_6_2
    · exact key 7 2 e1 e2 sl_7_2
    · exact key 8 2 e1 e2 sl_8_2
    · exact key 9 2 e1 e2 sl_9_2
    · exact key 10 2 e1 e2 sl_10_2
    · exact key 11 2 e1 e2 sl_11_2
end Go.Ev
