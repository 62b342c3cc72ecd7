/- The contracts of Name, Id, Packet. -/
import Derived.Test.YtagcfmmbbcnkbaaD
set_option linter.all false
namespace Go.Proofs.Ytagcfmmbbcnkbaa
open Go.RowKit Go.Hub

theorem sz62 : (Try.prog.info? 62).map (·.size) = some 24 := by kernel_rfl
theorem sz37 : (Try.prog.info? 37).map (·.size) = some 24 := by kernel_rfl
theorem sz63 : (Try.prog.info? 63).map (·.size) = some 24 := by kernel_rfl
theorem sz55 : (Try.prog.info? 55).map (·.size) = some 24 := by kernel_rfl
theorem sz56 : (Try.prog.info? 56).map (·.size) = some 24 := by kernel_rfl
/-- what is none of the five -/
def Other (x : Value) : Prop := x = .nilIface ∨ ∃ t v, x = .iface t v ∧ t ≠ 62 ∧ t ≠ 37 ∧ t ≠ 63 ∧ t ≠ 55 ∧ t ≠ 56
theorem fresh_row (w : World) (t : TypeId) (cs : Array Value) (h : cs.size = 24) : Blk ((w.alloc (.cells zeroPk t)).setRow w.heap.size cs) w.heap.size t cs ∧ Below w.heap.size w ((w.alloc (.cells zeroPk t)).setRow w.heap.size cs) := by
  have b := Blk.new w t zeroPk
  have bb : Below w.heap.size w (w.alloc (.cells zeroPk t)) := (Below.refl _ _).alloc (Nat.le_refl _) _
  exact ⟨b.setRow cs, bb.trans (((Kept.refl [w.heap.size] _).setRow (g := w.heap.size) (by simp) cs).below (B := w.heap.size) (by simp) bb.size)⟩

set_option maxHeartbeats 1000000 in
theorem place_other (x : Value) (hx : Other x) (w : World) : Calls Try.prog 23 #[x] w fun e w' => e = .returned (.int .i64 5) ∧ w = w' := by
  rcases hx with rfl | ⟨t, v, rfl, h1, h2, h3, h4, h5⟩
  all_goals
    have y62 := fun (v : Value) (w : World) => ta_yes (P := Try.prog) Try.underlying62 20 v true w
    have n62 := fun (t : TypeId) (v : Value) (w : World) => ta_no (P := Try.prog) Try.underlying62 zero62 20 t v w
    have z62 := fun (w : World) => ta_nil (P := Try.prog) Try.underlying62 zero62 20 w
    have y37 := fun (v : Value) (w : World) => ta_yes (P := Try.prog) Try.underlying37 20 v true w
    have n37 := fun (t : TypeId) (v : Value) (w : World) => ta_no (P := Try.prog) Try.underlying37 zero37 20 t v w
    have z37 := fun (w : World) => ta_nil (P := Try.prog) Try.underlying37 zero37 20 w
    have y63 := fun (v : Value) (w : World) => ta_yes (P := Try.prog) Try.underlying63 20 v true w
    have n63 := fun (t : TypeId) (v : Value) (w : World) => ta_no (P := Try.prog) Try.underlying63 zero63 20 t v w
    have z63 := fun (w : World) => ta_nil (P := Try.prog) Try.underlying63 zero63 20 w
    have y55 := fun (v : Value) (w : World) => ta_yes (P := Try.prog) Try.underlying55 20 v true w
    have n55 := fun (t : TypeId) (v : Value) (w : World) => ta_no (P := Try.prog) Try.underlying55 zero55 20 t v w
    have z55 := fun (w : World) => ta_nil (P := Try.prog) Try.underlying55 zero55 20 w
    have y56 := fun (v : Value) (w : World) => ta_yes (P := Try.prog) Try.underlying56 20 v true w
    have n56 := fun (t : TypeId) (v : Value) (w : World) => ta_no (P := Try.prog) Try.underlying56 zero56 20 t v w
    have z56 := fun (w : World) => ta_nil (P := Try.prog) Try.underlying56 zero56 20 w
    go_enter Try.func23, Try.ntmps23
    go_wp2
    go_ret
    exact ⟨rfl, rfl⟩

set_option maxHeartbeats 1000000 in
theorem name_of (n : Nat) (hn : n ≤ 5) (cs : Array Value) (w : World) : Calls Try.prog 13 #[boxed n cs] w fun e w' => e = .returned (.string (nameS n)) ∧ Below w.heap.size w w' := by
  have hbel := fun o => (Below.refl w.heap.size w).alloc (Nat.le_refl _) o
  have HB := hid hbel
  clear hbel
  go_enter Try.func13, Try.ntmps13
  go_wp2_with fail
  refine (place_any n hn cs _).mono ?_
  rintro e w1 ⟨rfl, rfl⟩
  rcases (show n = 0 ∨ n = 1 ∨ n = 2 ∨ n = 3 ∨ n = 4 ∨ n = 5 by omega) with rfl | rfl | rfl | rfl | rfl | rfl
  all_goals
    go_wp2
    go_ret
    exact ⟨rfl, HB.out _⟩
set_option maxHeartbeats 1000000 in
theorem name_other (x : Value) (hx : Other x) (w : World) : Calls Try.prog 13 #[x] w fun e w' => e = .returned (.string (nameS 5)) ∧ Below w.heap.size w w' := by
  have hbel := fun o => (Below.refl w.heap.size w).alloc (Nat.le_refl _) o
  have HB := hid hbel
  clear hbel
  go_enter Try.func13, Try.ntmps13
  go_wp2_with fail
  refine (place_other x hx _).mono ?_
  rintro e w1 ⟨rfl, rfl⟩
  go_wp2
  go_ret
  exact ⟨rfl, HB.out _⟩

def idOf (n : Nat) (p : Pk) : Int := if n = 1 ∨ n = 2 ∨ n = 3 then p.id else 0
set_option maxHeartbeats 1000000 in
theorem id_of (n : Nat) (hn : n ≤ 5) (p : Pk) (s : Ad) (w : World) : Calls Try.prog 15 #[boxed n (p.cells s)] w fun e w' => e = .returned (.int .i64 (idOf n p)) ∧ Below w.heap.size w w' := by
  rcases (show n = 0 ∨ n = 1 ∨ n = 2 ∨ n = 3 ∨ n = 4 ∨ n = 5 by omega) with rfl | rfl | rfl | rfl | rfl | rfl
  · simp only [boxed]
    have y62 := fun (v : Value) (w : World) => ta_yes (P := Try.prog) Try.underlying62 20 v true w
    have n62 := fun (t : TypeId) (v : Value) (w : World) => ta_no (P := Try.prog) Try.underlying62 zero62 20 t v w
    have z62 := fun (w : World) => ta_nil (P := Try.prog) Try.underlying62 zero62 20 w
    have y37 := fun (v : Value) (w : World) => ta_yes (P := Try.prog) Try.underlying37 20 v true w
    have n37 := fun (t : TypeId) (v : Value) (w : World) => ta_no (P := Try.prog) Try.underlying37 zero37 20 t v w
    have z37 := fun (w : World) => ta_nil (P := Try.prog) Try.underlying37 zero37 20 w
    have y63 := fun (v : Value) (w : World) => ta_yes (P := Try.prog) Try.underlying63 20 v true w
    have n63 := fun (t : TypeId) (v : Value) (w : World) => ta_no (P := Try.prog) Try.underlying63 zero63 20 t v w
    have z63 := fun (w : World) => ta_nil (P := Try.prog) Try.underlying63 zero63 20 w
    have y55 := fun (v : Value) (w : World) => ta_yes (P := Try.prog) Try.underlying55 20 v true w
    have n55 := fun (t : TypeId) (v : Value) (w : World) => ta_no (P := Try.prog) Try.underlying55 zero55 20 t v w
    have z55 := fun (w : World) => ta_nil (P := Try.prog) Try.underlying55 zero55 20 w
    have y56 := fun (v : Value) (w : World) => ta_yes (P := Try.prog) Try.underlying56 20 v true w
    have n56 := fun (t : TypeId) (v : Value) (w : World) => ta_no (P := Try.prog) Try.underlying56 zero56 20 t v w
    have z56 := fun (w : World) => ta_nil (P := Try.prog) Try.underlying56 zero56 20 w
    go_enter Try.func15, Try.ntmps15
    go_wp2
    go_ret
    exact ⟨rfl, Below.refl _ _⟩
  · simp only [boxed]
    have y62 := fun (v : Value) (w : World) => ta_yes (P := Try.prog) Try.underlying62 20 v true w
    have n62 := fun (t : TypeId) (v : Value) (w : World) => ta_no (P := Try.prog) Try.underlying62 zero62 20 t v w
    have z62 := fun (w : World) => ta_nil (P := Try.prog) Try.underlying62 zero62 20 w
    have y37 := fun (v : Value) (w : World) => ta_yes (P := Try.prog) Try.underlying37 20 v true w
    have n37 := fun (t : TypeId) (v : Value) (w : World) => ta_no (P := Try.prog) Try.underlying37 zero37 20 t v w
    have z37 := fun (w : World) => ta_nil (P := Try.prog) Try.underlying37 zero37 20 w
    have y63 := fun (v : Value) (w : World) => ta_yes (P := Try.prog) Try.underlying63 20 v true w
    have n63 := fun (t : TypeId) (v : Value) (w : World) => ta_no (P := Try.prog) Try.underlying63 zero63 20 t v w
    have z63 := fun (w : World) => ta_nil (P := Try.prog) Try.underlying63 zero63 20 w
    have y55 := fun (v : Value) (w : World) => ta_yes (P := Try.prog) Try.underlying55 20 v true w
    have n55 := fun (t : TypeId) (v : Value) (w : World) => ta_no (P := Try.prog) Try.underlying55 zero55 20 t v w
    have z55 := fun (w : World) => ta_nil (P := Try.prog) Try.underlying55 zero55 20 w
    have y56 := fun (v : Value) (w : World) => ta_yes (P := Try.prog) Try.underlying56 20 v true w
    have n56 := fun (t : TypeId) (v : Value) (w : World) => ta_no (P := Try.prog) Try.underlying56 zero56 20 t v w
    have z56 := fun (w : World) => ta_nil (P := Try.prog) Try.underlying56 zero56 20 w
    have F := fresh_row w 37 (p.cells s) rfl
    have c4 : ((w.alloc (.cells zeroPk 37)).setRow w.heap.size (p.cells s)).cell? ⟨w.heap.size, 4, none⟩ = some (.int .i64 p.id) := F.1.cell_ (i := 4) rfl
    have HF := hid F.2
    clear F
    go_enter Try.func15, Try.ntmps15
    go_wp2_with (first
      | (refine wpList_store_row rfl 37 (.tmp 3) (.tmp 9) rfl w.heap.size (p.cells s) rfl rfl 37 zeroPk (Blk.new w 37 zeroPk) sz37 rfl (p.cells_one s) ?_)
      | fail)
    go_ret
    exact ⟨rfl, HF.out⟩
  · simp only [boxed]
    have y62 := fun (v : Value) (w : World) => ta_yes (P := Try.prog) Try.underlying62 20 v true w
    have n62 := fun (t : TypeId) (v : Value) (w : World) => ta_no (P := Try.prog) Try.underlying62 zero62 20 t v w
    have z62 := fun (w : World) => ta_nil (P := Try.prog) Try.underlying62 zero62 20 w
    have y37 := fun (v : Value) (w : World) => ta_yes (P := Try.prog) Try.underlying37 20 v true w
    have n37 := fun (t : TypeId) (v : Value) (w : World) => ta_no (P := Try.prog) Try.underlying37 zero37 20 t v w
    have z37 := fun (w : World) => ta_nil (P := Try.prog) Try.underlying37 zero37 20 w
    have y63 := fun (v : Value) (w : World) => ta_yes (P := Try.prog) Try.underlying63 20 v true w
    have n63 := fun (t : TypeId) (v : Value) (w : World) => ta_no (P := Try.prog) Try.underlying63 zero63 20 t v w
    have z63 := fun (w : World) => ta_nil (P := Try.prog) Try.underlying63 zero63 20 w
    have y55 := fun (v : Value) (w : World) => ta_yes (P := Try.prog) Try.underlying55 20 v true w
    have n55 := fun (t : TypeId) (v : Value) (w : World) => ta_no (P := Try.prog) Try.underlying55 zero55 20 t v w
    have z55 := fun (w : World) => ta_nil (P := Try.prog) Try.underlying55 zero55 20 w
    have y56 := fun (v : Value) (w : World) => ta_yes (P := Try.prog) Try.underlying56 20 v true w
    have n56 := fun (t : TypeId) (v : Value) (w : World) => ta_no (P := Try.prog) Try.underlying56 zero56 20 t v w
    have z56 := fun (w : World) => ta_nil (P := Try.prog) Try.underlying56 zero56 20 w
    have F := fresh_row w 63 (p.cells s) rfl
    have c4 : ((w.alloc (.cells zeroPk 63)).setRow w.heap.size (p.cells s)).cell? ⟨w.heap.size, 4, none⟩ = some (.int .i64 p.id) := F.1.cell_ (i := 4) rfl
    have HF := hid F.2
    clear F
    go_enter Try.func15, Try.ntmps15
    go_wp2_with (first
      | (refine wpList_store_row rfl 63 (.tmp 4) (.tmp 15) rfl w.heap.size (p.cells s) rfl rfl 63 zeroPk (Blk.new w 63 zeroPk) sz63 rfl (p.cells_one s) ?_)
      | fail)
    go_ret
    exact ⟨rfl, HF.out⟩
  · simp only [boxed]
    have y62 := fun (v : Value) (w : World) => ta_yes (P := Try.prog) Try.underlying62 20 v true w
    have n62 := fun (t : TypeId) (v : Value) (w : World) => ta_no (P := Try.prog) Try.underlying62 zero62 20 t v w
    have z62 := fun (w : World) => ta_nil (P := Try.prog) Try.underlying62 zero62 20 w
    have y37 := fun (v : Value) (w : World) => ta_yes (P := Try.prog) Try.underlying37 20 v true w
    have n37 := fun (t : TypeId) (v : Value) (w : World) => ta_no (P := Try.prog) Try.underlying37 zero37 20 t v w
    have z37 := fun (w : World) => ta_nil (P := Try.prog) Try.underlying37 zero37 20 w
    have y63 := fun (v : Value) (w : World) => ta_yes (P := Try.prog) Try.underlying63 20 v true w
    have n63 := fun (t : TypeId) (v : Value) (w : World) => ta_no (P := Try.prog) Try.underlying63 zero63 20 t v w
    have z63 := fun (w : World) => ta_nil (P := Try.prog) Try.underlying63 zero63 20 w
    have y55 := fun (v : Value) (w : World) => ta_yes (P := Try.prog) Try.underlying55 20 v true w
    have n55 := fun (t : TypeId) (v : Value) (w : World) => ta_no (P := Try.prog) Try.underlying55 zero55 20 t v w
    have z55 := fun (w : World) => ta_nil (P := Try.prog) Try.underlying55 zero55 20 w
    have y56 := fun (v : Value) (w : World) => ta_yes (P := Try.prog) Try.underlying56 20 v true w
    have n56 := fun (t : TypeId) (v : Value) (w : World) => ta_no (P := Try.prog) Try.underlying56 zero56 20 t v w
    have z56 := fun (w : World) => ta_nil (P := Try.prog) Try.underlying56 zero56 20 w
    have F := fresh_row w 55 (p.cells s) rfl
    have c4 : ((w.alloc (.cells zeroPk 55)).setRow w.heap.size (p.cells s)).cell? ⟨w.heap.size, 4, none⟩ = some (.int .i64 p.id) := F.1.cell_ (i := 4) rfl
    have HF := hid F.2
    clear F
    go_enter Try.func15, Try.ntmps15
    go_wp2_with (first
      | (refine wpList_store_row rfl 55 (.tmp 5) (.tmp 21) rfl w.heap.size (p.cells s) rfl rfl 55 zeroPk (Blk.new w 55 zeroPk) sz55 rfl (p.cells_one s) ?_)
      | fail)
    go_ret
    exact ⟨rfl, HF.out⟩
  · simp only [boxed]
    have y62 := fun (v : Value) (w : World) => ta_yes (P := Try.prog) Try.underlying62 20 v true w
    have n62 := fun (t : TypeId) (v : Value) (w : World) => ta_no (P := Try.prog) Try.underlying62 zero62 20 t v w
    have z62 := fun (w : World) => ta_nil (P := Try.prog) Try.underlying62 zero62 20 w
    have y37 := fun (v : Value) (w : World) => ta_yes (P := Try.prog) Try.underlying37 20 v true w
    have n37 := fun (t : TypeId) (v : Value) (w : World) => ta_no (P := Try.prog) Try.underlying37 zero37 20 t v w
    have z37 := fun (w : World) => ta_nil (P := Try.prog) Try.underlying37 zero37 20 w
    have y63 := fun (v : Value) (w : World) => ta_yes (P := Try.prog) Try.underlying63 20 v true w
    have n63 := fun (t : TypeId) (v : Value) (w : World) => ta_no (P := Try.prog) Try.underlying63 zero63 20 t v w
    have z63 := fun (w : World) => ta_nil (P := Try.prog) Try.underlying63 zero63 20 w
    have y55 := fun (v : Value) (w : World) => ta_yes (P := Try.prog) Try.underlying55 20 v true w
    have n55 := fun (t : TypeId) (v : Value) (w : World) => ta_no (P := Try.prog) Try.underlying55 zero55 20 t v w
    have z55 := fun (w : World) => ta_nil (P := Try.prog) Try.underlying55 zero55 20 w
    have y56 := fun (v : Value) (w : World) => ta_yes (P := Try.prog) Try.underlying56 20 v true w
    have n56 := fun (t : TypeId) (v : Value) (w : World) => ta_no (P := Try.prog) Try.underlying56 zero56 20 t v w
    have z56 := fun (w : World) => ta_nil (P := Try.prog) Try.underlying56 zero56 20 w
    go_enter Try.func15, Try.ntmps15
    go_wp2
    go_ret
    exact ⟨rfl, Below.refl _ _⟩
  · simp only [boxed]
    have y62 := fun (v : Value) (w : World) => ta_yes (P := Try.prog) Try.underlying62 20 v true w
    have n62 := fun (t : TypeId) (v : Value) (w : World) => ta_no (P := Try.prog) Try.underlying62 zero62 20 t v w
    have z62 := fun (w : World) => ta_nil (P := Try.prog) Try.underlying62 zero62 20 w
    have y37 := fun (v : Value) (w : World) => ta_yes (P := Try.prog) Try.underlying37 20 v true w
    have n37 := fun (t : TypeId) (v : Value) (w : World) => ta_no (P := Try.prog) Try.underlying37 zero37 20 t v w
    have z37 := fun (w : World) => ta_nil (P := Try.prog) Try.underlying37 zero37 20 w
    have y63 := fun (v : Value) (w : World) => ta_yes (P := Try.prog) Try.underlying63 20 v true w
    have n63 := fun (t : TypeId) (v : Value) (w : World) => ta_no (P := Try.prog) Try.underlying63 zero63 20 t v w
    have z63 := fun (w : World) => ta_nil (P := Try.prog) Try.underlying63 zero63 20 w
    have y55 := fun (v : Value) (w : World) => ta_yes (P := Try.prog) Try.underlying55 20 v true w
    have n55 := fun (t : TypeId) (v : Value) (w : World) => ta_no (P := Try.prog) Try.underlying55 zero55 20 t v w
    have z55 := fun (w : World) => ta_nil (P := Try.prog) Try.underlying55 zero55 20 w
    have y56 := fun (v : Value) (w : World) => ta_yes (P := Try.prog) Try.underlying56 20 v true w
    have n56 := fun (t : TypeId) (v : Value) (w : World) => ta_no (P := Try.prog) Try.underlying56 zero56 20 t v w
    have z56 := fun (w : World) => ta_nil (P := Try.prog) Try.underlying56 zero56 20 w
    go_enter Try.func15, Try.ntmps15
    go_wp2
    go_ret
    exact ⟨rfl, Below.refl _ _⟩
set_option maxHeartbeats 1000000 in
theorem id_other (x : Value) (hx : Other x) (w : World) : Calls Try.prog 15 #[x] w fun e w' => e = .returned (.int .i64 0) ∧ w = w' := by
  rcases hx with rfl | ⟨t, v, rfl, h1, h2, h3, h4, h5⟩
  all_goals
    have y62 := fun (v : Value) (w : World) => ta_yes (P := Try.prog) Try.underlying62 20 v true w
    have n62 := fun (t : TypeId) (v : Value) (w : World) => ta_no (P := Try.prog) Try.underlying62 zero62 20 t v w
    have z62 := fun (w : World) => ta_nil (P := Try.prog) Try.underlying62 zero62 20 w
    have y37 := fun (v : Value) (w : World) => ta_yes (P := Try.prog) Try.underlying37 20 v true w
    have n37 := fun (t : TypeId) (v : Value) (w : World) => ta_no (P := Try.prog) Try.underlying37 zero37 20 t v w
    have z37 := fun (w : World) => ta_nil (P := Try.prog) Try.underlying37 zero37 20 w
    have y63 := fun (v : Value) (w : World) => ta_yes (P := Try.prog) Try.underlying63 20 v true w
    have n63 := fun (t : TypeId) (v : Value) (w : World) => ta_no (P := Try.prog) Try.underlying63 zero63 20 t v w
    have z63 := fun (w : World) => ta_nil (P := Try.prog) Try.underlying63 zero63 20 w
    have y55 := fun (v : Value) (w : World) => ta_yes (P := Try.prog) Try.underlying55 20 v true w
    have n55 := fun (t : TypeId) (v : Value) (w : World) => ta_no (P := Try.prog) Try.underlying55 zero55 20 t v w
    have z55 := fun (w : World) => ta_nil (P := Try.prog) Try.underlying55 zero55 20 w
    have y56 := fun (v : Value) (w : World) => ta_yes (P := Try.prog) Try.underlying56 20 v true w
    have n56 := fun (t : TypeId) (v : Value) (w : World) => ta_no (P := Try.prog) Try.underlying56 zero56 20 t v w
    have z56 := fun (w : World) => ta_nil (P := Try.prog) Try.underlying56 zero56 20 w
    go_enter Try.func15, Try.ntmps15
    go_wp2
    go_ret
    exact ⟨rfl, rfl⟩

end Go.Proofs.Ytagcfmmbbcnkbaa
