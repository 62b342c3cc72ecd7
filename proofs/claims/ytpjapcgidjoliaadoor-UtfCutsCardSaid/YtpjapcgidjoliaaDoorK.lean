/- 'known'. -/
import Derived.Test.YtpjapcgidjoliaaDoorJ
import Derived.Test.YtpjapcgidjoliaaDoorLits
import Derived.Lib.SlBytesConst
set_option linter.all false
namespace Go.Proofs.YtpjapcgidjoliaaDoor
open Go.RowKit Go.Hub Go.Lib

set_option maxRecDepth 100000 in
set_option maxHeartbeats 1000000 in
theorem known_any (w : World) (hT : Tabs w) : Calls Tryd.prog 9 #[] w fun e w' => e = .returned (.bool true) ∧ Below w.heap.size w w' := by
  have r1 : (rwl [97, 195, 169]).length = 2 := by decide
  have r2 : chk [97, 195, 169] = -1 := by decide
  have r3 : chk [97, 0] = 1 := by decide
  have r4 : cutI [195, 169, 97] 1 = [195, 169] := by decide
  have r5 : placeL [195, 169, 97] 1 = 2 := by decide
  have r6 : (rwl [255]).length = 1 := by decide
  have r7 : encs [233, -1] = [195, 169, 239, 191, 189] := by decide
  have HK := hid (And.intro (And.intro r1 (And.intro r2 r3)) (And.intro (And.intro r4 r5) (And.intro r6 r7)))
  clear r1 r2 r3 r4 r5 r6 r7
  have kc := fun (w : World) (C : Array Value) (n c : Nat) => Lib.run_convert_bytes_const (P := Tryd.prog) w 22 5 C n c Tryd.underlying22 Tryd.underlying5
  go_enter Tryd.func9, Tryd.ntmps9
  go_wp2_with fail
  refine (count_any _ w (by unfold maxLen; decide)).mono ?_
  rintro e w1 ⟨rfl, b1⟩
  rw [show ((rwl (⟨#[97, 195, 169]⟩ : ByteArray).data.toList).length : Nat) = 2 from HK.out.1.1]
  go_wp2_with fail
  have hT1 := hT.old b1
  have p1 := b1.trans ((((Below.refl w1.heap.size w1).alloc (Nat.le_refl _) (.cells #[.int .u8 97, .int .u8 195, .int .u8 169] 5 (3, 4)))).mono b1.size)
  have s1 := bs_new 0 w1 [97, 195, 169] (by simp) (3, 4)
  have hT1' : Tabs (w1.alloc (.cells #[.int .u8 97, .int .u8 195, .int .u8 169] 5 (3, 4))) := hT.old p1
  obtain ⟨W1, hW1⟩ : ∃ W, W = w1.alloc (.cells #[.int .u8 97, .int .u8 195, .int .u8 169] 5 (3, 4)) := ⟨_, rfl⟩
  have s1' : Bs [5] 0 W1 (some ⟨w1.heap.size, 0, none⟩) ([97, 195, 169] : List UInt8).length [97, 195, 169] := by rw [hW1]; exact s1
  rw [← hW1] at p1 hT1' ⊢
  clear hW1 s1
  refine (chk_any [5] 0 (some ⟨w1.heap.size, 0, none⟩) 3 [97, 195, 169] W1 hT1' s1' (by decide) (by unfold maxLen; decide)).mono ?_
  rintro e w2 ⟨rfl, b2⟩
  rw [HK.out.1.2.1]
  have p2 := p1.trans (b2.mono p1.size)
  clear b1 b2 p1 s1' hT1 hT1'
  go_wp2_with fail
  have p3 := p2.trans ((((Below.refl w2.heap.size w2).alloc (Nat.le_refl _) (.cells #[.int .u8 97, .int .u8 0] 5))).mono p2.size)
  have s3 : Bs [5] 0 (w2.alloc (.cells #[.int .u8 97, .int .u8 0] 5)) (some ⟨w2.heap.size, 0, none⟩) ([97, 0] : List UInt8).length [97, 0] := bs_new 0 w2 [97, 0] (by simp) (0, 0)
  refine (chk_any [5] 0 _ 2 [97, 0] _ (hT.old p3) s3 (by decide) (by unfold maxLen; decide)).mono ?_
  rintro e w4 ⟨rfl, b4⟩
  rw [HK.out.1.2.2]
  have p4 := p3.trans (b4.mono p3.size)
  clear p2 b4 p3 s3
  go_wp2_with fail
  refine (cut_any _ 1 w4 (by unfold maxLen; decide)).mono ?_
  rintro e w5 ⟨rfl, b5⟩
  rw [show cutI (⟨#[195, 169, 97]⟩ : ByteArray).data.toList 1 = [195, 169] from HK.out.2.1.1]
  have p5 := p4.trans (b5.mono p4.size)
  clear p4 b5
  go_wp2_with fail
  refine (place_any _ 1 w5 (by unfold maxLen; decide)).mono ?_
  rintro e w6 ⟨rfl, b6⟩
  rw [show placeL (⟨#[195, 169, 97]⟩ : ByteArray).data.toList 1 = 2 from HK.out.2.1.2]
  have p6 := p5.trans (b6.mono p5.size)
  clear p5 b6
  go_wp2_with fail
  refine (runes_any _ w6 (by decide)).mono ?_
  rintro e w7 ⟨b7, v7, rfl, o7, k7⟩
  rw [show (rwl (⟨#[255]⟩ : ByteArray).data.toList).length = 1 from HK.out.2.2.1] at o7
  obtain ⟨A7, c7, rfl, hc7, hm7⟩ := o7.form
  have p7 := p6.trans (b7.mono p6.size)
  clear p6 b7 o7 k7
  go_wp2_with fail
  have p8 := p7.trans ((((Below.refl w7.heap.size w7).alloc (Nat.le_refl _) (.cells #[.int .i32 233, .int .i32 (-1)] 21))).mono p7.size)
  refine (back_any (some ⟨w7.heap.size, 0, none⟩) 2 [233, -1] _ ((rds_new w7 21 #[.int .i32 233, .int .i32 (-1)]).more (by simp))).mono ?_
  rintro e w8 ⟨rfl, rfl⟩
  rw [HK.out.2.2.2]
  have HP := hid p8
  clear p8 p7
  go_wp2
  go_ret
  exact ⟨rfl, HP.out⟩
end Go.Proofs.YtpjapcgidjoliaaDoor
