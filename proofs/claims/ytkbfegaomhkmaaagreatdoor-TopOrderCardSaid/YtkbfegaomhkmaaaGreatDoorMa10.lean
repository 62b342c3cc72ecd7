/- The runs of TopOrder: classes 0 mod 3 of the second argument, the first one's from 8 to 11 mod 12: true. -/
import Derived.Test.YtkbfegaomhkmaaaGreatDoorMa3
set_option linter.all false
namespace Go.Ev
open Go Go.Proofs
theorem ord_8_0 : okT 33 (runT gdN ptN ent_s ext_s pool (sealX extN 4 33) 3 (List.length [cC .u8 12 8, cC .u8 3 0]) (frm 1 (rowL [cC .u8 12 8, cC .u8 3 0]) 3)) = true := by kernel_rfl
theorem ord_9_0 : okT 33 (runT gdN ptN ent_s ext_s pool (sealX extN 4 33) 3 (List.length [cC .u8 12 9, cC .u8 3 0]) (frm 1 (rowL [cC .u8 12 9, cC .u8 3 0]) 3)) = true := by kernel_rfl
theorem ord_10_0 : okT 33 (runT gdN ptN ent_s ext_s pool (sealX extN 4 33) 3 (List.length [cC .u8 12 10, cC .u8 3 0]) (frm 1 (rowL [cC .u8 12 10, cC .u8 3 0]) 3)) = true := by kernel_rfl
theorem ord_11_0 : okT 33 (runT gdN ptN ent_s ext_s pool (sealX extN 4 33) 3 (List.length [cC .u8 12 11, cC .u8 3 0]) (frm 1 (rowL [cC .u8 12 11, cC .u8 3 0]) 3)) = true := by kernel_rfl
end Go.Ev
