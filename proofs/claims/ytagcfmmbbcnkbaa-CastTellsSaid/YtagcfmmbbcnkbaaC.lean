/- The contracts of name, place, Name. -/
import Derived.Test.YtagcfmmbbcnkbaaA
import Derived.Test.YtagcfmmbbcnkbaaIface
set_option linter.all false
namespace Go.Proofs.Ytagcfmmbbcnkbaa
open Go.RowKit Go.Hub

/-- which of the five a kind is; 5: none -/
def kplace (k : Int) : Nat :=
  if k = 1 ∨ k = 2 then 0 else if k = 3 then 1 else if k = 4 ∨ k = 5 ∨ k = 6 ∨ k = 7 ∨ k = 9 ∨ k = 11 then 2 else if k = 8 ∨ k = 10 then 3 else if k = 12 ∨ k = 13 ∨ k = 14 then 4 else 5
def nameS : Nat → ByteArray
  | 0 => ⟨#[103, 114, 101, 101, 116, 105, 110, 103]⟩
  | 1 => ⟨#[109, 101, 115, 115, 97, 103, 101]⟩
  | 2 => ⟨#[97, 99, 107]⟩
  | 3 => ⟨#[97, 115, 107]⟩
  | 4 => ⟨#[115, 105, 103, 110, 97, 108]⟩
  | _ => ⟨#[110, 111, 110, 101]⟩
/-- the type of what is the n-th of the five -/
def tyOf : Nat → Nat
  | 0 => 62
  | 1 => 37
  | 2 => 63
  | 3 => 55
  | _ => 56
theorem kinds (k : Int) : k = 1 ∨ k = 2 ∨ k = 3 ∨ k = 4 ∨ k = 5 ∨ k = 6 ∨ k = 7 ∨ k = 8 ∨ k = 9 ∨ k = 10 ∨ k = 11 ∨ k = 12 ∨ k = 13 ∨ k = 14 ∨ ((k < 1 ∨ 14 < k) ∧ kplace k = 5) := by
  by_cases h : k < 1 ∨ 14 < k
  · have : kplace k = 5 := by unfold kplace; rw [if_neg (by omega), if_neg (by omega), if_neg (by omega), if_neg (by omega), if_neg (by omega)]
    simp [h, this]
  · omega

set_option maxHeartbeats 1000000 in
theorem name_any (k : Int) (w : World) : Calls Try.prog 12 #[.int .i64 k] w fun e w' => e = .returned (.string (nameS (kplace k))) ∧ w = w' := by
  rcases kinds k with rfl | rfl | rfl | rfl | rfl | rfl | rfl | rfl | rfl | rfl | rfl | rfl | rfl | rfl | ⟨h, hk⟩
  iterate 14
    · go_enter Try.func12, Try.ntmps12
      go_wp2
      go_ret
      exact ⟨by rfl, rfl⟩
  · rw [hk]
    have e1 : (k == 1) = false := by simp; omega
    have e2 : (k == 2) = false := by simp; omega
    have e3 : (k == 3) = false := by simp; omega
    have e4 : (k == 4) = false := by simp; omega
    have e5 : (k == 5) = false := by simp; omega
    have e6 : (k == 6) = false := by simp; omega
    have e7 : (k == 7) = false := by simp; omega
    have e8 : (k == 8) = false := by simp; omega
    have e9 : (k == 9) = false := by simp; omega
    have e10 : (k == 10) = false := by simp; omega
    have e11 : (k == 11) = false := by simp; omega
    have e12 : (k == 12) = false := by simp; omega
    have e13 : (k == 13) = false := by simp; omega
    have e14 : (k == 14) = false := by simp; omega
    clear h hk
    go_enter Try.func12, Try.ntmps12
    go_wp2
    go_ret
    exact ⟨by rfl, rfl⟩
/-- what is one of the five -/
def boxed : Nat → Array Value → Value
  | 0, cs => .iface 62 (.agg cs)
  | 1, cs => .iface 37 (.agg cs)
  | 2, cs => .iface 63 (.agg cs)
  | 3, cs => .iface 55 (.agg cs)
  | 4, cs => .iface 56 (.agg cs)
  | _, _ => .nilIface
theorem zero62 (w : World) : (zeroValue 62).run Try.prog w = .ok (.agg zeroPk) w := by kernel_rfl
theorem zero37 (w : World) : (zeroValue 37).run Try.prog w = .ok (.agg zeroPk) w := by kernel_rfl
theorem zero63 (w : World) : (zeroValue 63).run Try.prog w = .ok (.agg zeroPk) w := by kernel_rfl
theorem zero55 (w : World) : (zeroValue 55).run Try.prog w = .ok (.agg zeroPk) w := by kernel_rfl
theorem zero56 (w : World) : (zeroValue 56).run Try.prog w = .ok (.agg zeroPk) w := by kernel_rfl
set_option maxHeartbeats 1000000 in
theorem place_any (n : Nat) (hn : n ≤ 5) (cs : Array Value) (w : World) : Calls Try.prog 23 #[boxed n cs] w fun e w' => e = .returned (.int .i64 n) ∧ w = w' := by
  rcases (show n = 0 ∨ n = 1 ∨ n = 2 ∨ n = 3 ∨ n = 4 ∨ n = 5 by omega) with rfl | rfl | rfl | rfl | rfl | rfl
  all_goals
    simp only [boxed]
    have y62 := fun (v : Value) (w : World) => ta_yes (P := Try.prog) Try.underlying62 20 v true w
    have y37 := fun (v : Value) (w : World) => ta_yes (P := Try.prog) Try.underlying37 20 v true w
    have y63 := fun (v : Value) (w : World) => ta_yes (P := Try.prog) Try.underlying63 20 v true w
    have y55 := fun (v : Value) (w : World) => ta_yes (P := Try.prog) Try.underlying55 20 v true w
    have y56 := fun (v : Value) (w : World) => ta_yes (P := Try.prog) Try.underlying56 20 v true w
    have n62 := fun (t : TypeId) (v : Value) (w : World) => ta_no (P := Try.prog) Try.underlying62 zero62 20 t v w
    have n37 := fun (t : TypeId) (v : Value) (w : World) => ta_no (P := Try.prog) Try.underlying37 zero37 20 t v w
    have n63 := fun (t : TypeId) (v : Value) (w : World) => ta_no (P := Try.prog) Try.underlying63 zero63 20 t v w
    have n55 := fun (t : TypeId) (v : Value) (w : World) => ta_no (P := Try.prog) Try.underlying55 zero55 20 t v w
    have n56 := fun (t : TypeId) (v : Value) (w : World) => ta_no (P := Try.prog) Try.underlying56 zero56 20 t v w
    have z62 := fun (w : World) => ta_nil (P := Try.prog) Try.underlying62 zero62 20 w
    have z37 := fun (w : World) => ta_nil (P := Try.prog) Try.underlying37 zero37 20 w
    have z63 := fun (w : World) => ta_nil (P := Try.prog) Try.underlying63 zero63 20 w
    have z55 := fun (w : World) => ta_nil (P := Try.prog) Try.underlying55 zero55 20 w
    have z56 := fun (w : World) => ta_nil (P := Try.prog) Try.underlying56 zero56 20 w
    go_enter Try.func23, Try.ntmps23
    go_wp2
    go_ret
    exact ⟨rfl, rfl⟩
end Go.Proofs.Ytagcfmmbbcnkbaa
