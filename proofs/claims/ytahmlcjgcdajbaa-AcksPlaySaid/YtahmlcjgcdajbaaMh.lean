/- Rows of words as the frame gives them. -/
import Derived.Test.YtahmlcjgcdajbaaMg
import Derived.OpenShut
set_option linter.all false
namespace Go.Proofs.Ytahmlcjgcdajbaa
open Go.RowKit Go.Hub
theorem row_sl {k : IntKind} {w : World} {a : Option Addr} {len cap : Nat} {zs : List Int} (h : IsRow k w a len cap zs) : len ≤ maxLen ∧ ∃ l : List Int, l.length = len ∧ Sl w a l.length 1 (l.map (.int k)) ∧ ∀ x ∈ l, (Lit.int k x).wf = true := by
  obtain ⟨h1, h2, h3, h4⟩ := Ints.of_isRow h
  refine ⟨h2, zs.take len, h1, ⟨by simp, fun hn => ?_⟩, h3⟩
  obtain ⟨b, off, e, hb, hc⟩ := h4 (by omega)
  refine ⟨b, off, e, hb, fun j u hu => ?_⟩
  rw [List.getElem?_map, Option.map_eq_some_iff] at hu
  obtain ⟨x, hx, rfl⟩ := hu
  have hj := (List.getElem?_eq_some_iff.1 hx).1
  rw [hc j (by omega), List.getD_eq_getElem?_getD, hx]
  rfl
theorem bounds_u16 {n : Int} (h : (Lit.int .u16 n).wf = true) : 0 ≤ n ∧ n ≤ 65535 := by simpa [Lit.wf, IntKind.min, IntKind.max, IntKind.signed, IntKind.bits] using h
theorem acksCut_row {n : Int} {w : World} {a1 a2 : Option Addr} {len1 cap1 len2 cap2 : Nat} {z1 z2 : List Int} (h0 : (Lit.int .u8 n).wf = true) (h1 : IsRow .u8 w a1 len1 cap1 z1) (h2 : IsRow .u16 w a2 len2 cap2 z2) :
    Calls Try.prog 8 #[.int .u8 n, .slice a1 len1 cap1, .slice a2 len2 cap2] w (fun e w' => e = .returned (.bool true) ∧ Below w.heap.size w w') := by
  obtain ⟨m1, l1, rfl, s1, b1⟩ := row_sl h1
  obtain ⟨m2, l2, rfl, s2, b2⟩ := row_sl h2
  exact acksCut_any n l1 l2 a1 a2 cap1 cap2 w (bounds_u8 h0) s1 s2 (fun x hx => bounds_u8 (b1 x hx)) (fun x hx => bounds_u16 (b2 x hx)) m1 m2
end Go.Proofs.Ytahmlcjgcdajbaa
