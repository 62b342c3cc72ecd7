/- The runs of TopOrder: classes 2 mod 3 of the second argument, the first one's from 4 to 7 mod 12: true. -/
import Derived.Test.YtkbfegaomhkmaaaGreatDoorMa3
set_option linter.all false
namespace Go.Ev
open Go Go.Proofs
theorem ord_4_2 : okT 33 (runT gdN ptN ent_s ext_s pool (sealX extN 4 33) 3 (List.length [cC .u8 12 4, cC .u8 3 2]) (frm 1 (rowL [cC .u8 12 4, cC .u8 3 2]) 3)) = true := by kernel_rfl
theorem ord_5_2 : okT 33 (runT gdN ptN ent_s ext_s pool (sealX extN 4 33) 3 (List.length [cC .u8 12 5, cC .u8 3 2]) (frm 1 (rowL [cC .u8 12 5, cC .u8 3 2]) 3)) = true := by kernel_rfl
theorem ord_6_2 : okT 33 (runT gdN ptN ent_s ext_s pool (sealX extN 4 33) 3 (List.length [cC .u8 12 6, cC .u8 3 2]) (frm 1 (rowL [cC .u8 12 6, cC .u8 3 2]) 3)) = true := by kernel_rfl
theorem ord_7_2 : okT 33 (runT gdN ptN ent_s ext_s pool (sealX extN 4 33) 3 (List.length [cC .u8 12 7, cC .u8 3 2]) (frm 1 (rowL [cC .u8 12 7, cC .u8 3 2]) 3)) = true := by kernel_rfl
end Go.Ev
