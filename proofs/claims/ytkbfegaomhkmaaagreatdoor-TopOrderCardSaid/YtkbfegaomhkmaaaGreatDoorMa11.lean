/- The runs of TopOrder: classes 1 mod 3 of the second argument, the first one's from 0 to 3 mod 12: true. -/
import Derived.Test.YtkbfegaomhkmaaaGreatDoorMa3
set_option linter.all false
namespace Go.Ev
open Go Go.Proofs
theorem ord_0_1 : okT 33 (runT gdN ptN ent_s ext_s pool (sealX extN 4 33) 3 (List.length [cC .u8 12 0, cC .u8 3 1]) (frm 1 (rowL [cC .u8 12 0, cC .u8 3 1]) 3)) = true := by kernel_rfl
theorem ord_1_1 : okT 33 (runT gdN ptN ent_s ext_s pool (sealX extN 4 33) 3 (List.length [cC .u8 12 1, cC .u8 3 1]) (frm 1 (rowL [cC .u8 12 1, cC .u8 3 1]) 3)) = true := by kernel_rfl
theorem ord_2_1 : okT 33 (runT gdN ptN ent_s ext_s pool (sealX extN 4 33) 3 (List.length [cC .u8 12 2, cC .u8 3 1]) (frm 1 (rowL [cC .u8 12 2, cC .u8 3 1]) 3)) = true := by kernel_rfl
theorem ord_3_1 : okT 33 (runT gdN ptN ent_s ext_s pool (sealX extN 4 33) 3 (List.length [cC .u8 12 3, cC .u8 3 1]) (frm 1 (rowL [cC .u8 12 3, cC .u8 3 1]) 3)) = true := by kernel_rfl
end Go.Ev
