/- 'known'. -/
import Derived.Test.YtagcfmmbbcnkbaaH
import Derived.Deep.Cut
import Derived.Deep.CutRange
import Derived.Deep.CutBlock
set_option linter.all false
namespace Go.Proofs.Ytagcfmmbbcnkbaa
open Go.RowKit Go.Hub

def s0 : Ad := ⟨none, 0, none, 0, none, 0, none, 0, none, 0⟩
theorem zeroPk_one : (zeroPk).all (·.oneCell') = true := by simp [Value.oneCell']
theorem ok0 (p : Pk) (h1 : p.pay = []) (h2 : p.wp = []) (h3 : p.pass = []) (h4 : p.subs = []) (h5 : p.codes = []) (B : Nat) (w : World) : p.Ok EP B w s0 := by
  refine ⟨?_, ?_, ?_, ?_, ?_⟩
  · rw [h1]; exact Bs.nil _ _ _ _
  · rw [h2]; exact Bs.nil _ _ _ _
  · rw [h3]; exact Bs.nil _ _ _ _
  · rw [h4]; exact Cs.nil _ _ _ _ _
  · rw [h5]; exact Cs.nil _ _ _ _ _
theorem small0 (p : Pk) (h1 : p.pay = []) (h2 : p.wp = []) (h3 : p.pass = []) (h4 : p.subs = []) (h5 : p.codes = []) : p.Small := by
  simp [Pk.Small, h1, h2, h3, h4, h5]
def pA : Pk := { kind := 3, topic := ⟨#[97]⟩ }
def pB : Pk := { kind := 12 }
def pC : Pk := { kind := 4, id := 3 }
def pD : Pk := { id := 4 }
set_option maxRecDepth 100000 in
set_option maxHeartbeats 4000000 in
theorem known_any (w : World) : Calls Try.prog 6 #[] w fun e w' => e = .returned (.bool true) ∧ Below w.heap.size w w' := by
  have b55 : Try.prog.built 55 [(0, .agg (pD.cells s0))] = some (pD.cells s0) := built55 pD s0
  have b56 : Try.prog.built 56 [(0, .agg (pD.cells s0))] = some (pD.cells s0) := built56 pD s0
  go_enter Try.func6, Try.ntmps6
  go_wp2_with fail
  refine (any_any w.heap.size pA s0 w (ok0 pA rfl rfl rfl rfl rfl _ _) (small0 pA rfl rfl rfl rfl rfl) (Nat.le_refl _)).mono ?_
  rw [show kplace pA.kind = 1 from by decide]
  rintro e w1 ⟨s1, rfl, o1, b1⟩
  go_wp2_with fail
  refine (try_msg w.heap.size pA s1 w1 o1 (small0 pA rfl rfl rfl rfl rfl) b1.size).mono ?_
  rintro e w2 ⟨s2, rfl, o2, b2⟩
  have F2 := fresh_row w2 37 (pA.cells s2) rfl
  have c2 := b1.trans (b2.mono b1.size)
  have d2 := c2.trans (F2.2.mono c2.size)
  clear b1 b2 o1 o2 c2
  go_wp2_with (first
    | (refine wpList_store_row rfl 37 (.tmp 1) (.tmp 11) rfl w2.heap.size (pA.cells s2) rfl rfl 37 zeroPk (Blk.new w2 37 zeroPk) sz37 rfl (pA.cells_one s2) ?_)
    | fail)
  obtain ⟨W3, hW3⟩ : ∃ W, W = (w2.alloc (.cells zeroPk 37)).setRow w2.heap.size (pA.cells s2) := ⟨_, rfl⟩
  rw [← hW3] at F2 d2 ⊢
  clear hW3
  refine (any_any w.heap.size pB s0 W3 (ok0 pB rfl rfl rfl rfl rfl _ _) (small0 pB rfl rfl rfl rfl rfl) d2.size).mono ?_
  rw [show kplace pB.kind = 4 from by decide]
  rintro e w4 ⟨s4, rfl, o4, b4⟩
  go_wp2_with fail
  refine (try_other (boxed 4 (pB.cells s4)) (.inr ⟨56, _, rfl, by decide⟩) w4).mono ?_
  rintro e w5 ⟨rfl, b5⟩
  have x5 := (F2.1.below b4 F2.1.lt).below b5 (F2.1.below b4 F2.1.lt).lt
  have d5 := (d2.trans (b4.mono d2.size)).trans (b5.mono (d2.trans (b4.mono d2.size)).size)
  clear o4 b4 b5 d2 F2
  go_wp2_with (first
    | (refine wpList_store_row rfl 37 (.tmp 3) (.tmp 17) rfl w5.heap.size zeroPk rfl rfl 37 zeroPk (Blk.new w5 37 zeroPk) sz37 rfl zeroPk_one ?_)
    | fail)
  have F6 := fresh_row w5 37 zeroPk rfl
  have d6 := d5.trans (F6.2.mono d5.size)
  have x6 := x5.below F6.2 x5.lt
  obtain ⟨W6, hW6⟩ : ∃ W, W = (w5.alloc (.cells zeroPk 37)).setRow w5.heap.size zeroPk := ⟨_, rfl⟩
  rw [← hW6] at d6 x6 ⊢
  clear hW6 F6 d5 x5
  refine (packet_other .nilIface (.inl rfl) W6).mono ?_
  rintro e w7 ⟨rfl, b7⟩
  have x7 := x6.below b7 x6.lt
  have d7 := d6.trans (b7.mono d6.size)
  clear b7 d6 x6
  have F8 := fresh_row w7 28 zeroPk rfl
  have d8 := d7.trans (F8.2.mono d7.size)
  have x8 := x7.below F8.2 x7.lt
  have y5 := x8.cell_ (i := 5) (v := .string ⟨#[97]⟩) rfl
  clear F8 d7 x7 x8
  go_upto_region 4 with (first
    | (refine wpList_store_row rfl 28 (.tmp 5) (.tmp 21) rfl w7.heap.size zeroPk rfl rfl 28 zeroPk (Blk.new w7 28 zeroPk) sz28 rfl zeroPk_one ?_)
    | fail)
  obtain ⟨W8, hW8⟩ : ∃ W, W = (w7.alloc (.cells zeroPk 28)).setRow w7.heap.size zeroPk := ⟨_, rfl⟩
  rw [← hW8] at d8 y5 ⊢
  clear hW8
  go_wp2_with fail
  refine (any_any w.heap.size pC s0 W8 (ok0 pC rfl rfl rfl rfl rfl _ _) (small0 pC rfl rfl rfl rfl rfl) d8.size).mono ?_
  rw [show kplace pC.kind = 2 from by decide]
  rintro e w9 ⟨s9, rfl, o9, b9⟩
  go_wp2_with fail
  refine (name_of 2 (by omega) (pC.cells s9) w9).mono ?_
  rintro e w10 ⟨rfl, b10⟩
  rw [show nameS 2 = ⟨#[97, 99, 107]⟩ from rfl]
  have d9 := d8.trans (b9.mono d8.size)
  have d10 := d9.trans (b10.mono d9.size)
  clear o9 b9 b10 d9 d8 y5
  go_wp2_with (first
    | (refine wpList_build_one rfl 55 (.tmp 45) rfl (pD.cells s0) rfl b55 ?_)
    | fail)
  refine (id_of 3 (by omega) pD s0 w10).mono ?_
  rintro e w11 ⟨rfl, b11⟩
  rw [show idOf 3 pD = 4 from rfl]
  have d11 := d10.trans (b11.mono d10.size)
  clear b11 d10
  go_wp2_with (first
    | (refine wpList_build_one rfl 56 (.tmp 52) rfl (pD.cells s0) rfl b56 ?_)
    | fail)
  refine (id_of 4 (by omega) pD s0 w11).mono ?_
  rintro e w12 ⟨rfl, b12⟩
  rw [show idOf 4 pD = 0 from rfl]
  have d12 := hid (d11.trans (b12.mono d11.size))
  clear b12 d11
  go_wp2
  go_ret
  exact ⟨rfl, d12.out⟩
end Go.Proofs.Ytagcfmmbbcnkbaa
