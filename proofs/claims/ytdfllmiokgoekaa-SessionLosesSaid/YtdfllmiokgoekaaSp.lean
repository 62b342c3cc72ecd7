/- Rows as the frame gives them; SessionOnce. -/
import Derived.Test.YtdfllmiokgoekaaSo
import Derived.OpenShut
set_option linter.all false
namespace Go.Proofs.Ytdfllmiokgoekaa
open Go.RowKit Go.Hub
theorem row_sl {k : IntKind} {w : World} {a : Option Addr} {len cap : Nat} {zs : List Int} (h : IsRow k w a len cap zs) : len ≤ maxLen ∧ ∃ l : List Int, l.length = len ∧ Sl w a l.length 1 (l.map (.int k)) ∧ ∀ x ∈ l, (Lit.int k x).wf = true := by
  obtain ⟨h1, h2, h3, h4⟩ := Ints.of_isRow h
  refine ⟨h2, zs.take len, h1, ⟨by simp, fun hn => ?_⟩, h3⟩
  obtain ⟨b, off, e, hb, hc⟩ := h4 (by omega)
  refine ⟨b, off, e, hb, fun j u hu => ?_⟩
  rw [List.getElem?_map, Option.map_eq_some_iff] at hu
  obtain ⟨x, hx, rfl⟩ := hu
  have hj := (List.getElem?_eq_some_iff.1 hx).1
  rw [hc j (by omega), List.getD_eq_getElem?_getD, hx]
  rfl
theorem once_row {w : World} {a1 : Option Addr} {len1 cap1 : Nat} {z1 : List Int} (h1 : IsRow .u8 w a1 len1 cap1 z1) :
    Calls Try.prog 3 #[.slice a1 len1 cap1] w (fun e w' => e = .returned (.bool true) ∧ Below w.heap.size w w') := by
  obtain ⟨m1, l1, rfl, s1, b1⟩ := row_sl h1
  exact once_any l1 a1 cap1 w s1 (fun x hx => bounds_u8 (b1 x hx)) m1
end Go.Proofs.Ytdfllmiokgoekaa
