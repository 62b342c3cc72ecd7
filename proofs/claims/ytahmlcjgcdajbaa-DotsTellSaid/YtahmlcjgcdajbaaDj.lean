/- Rows as the frame gives them: the laws of Dots. -/
import Derived.Test.YtahmlcjgcdajbaaDi
import Derived.Test.YtahmlcjgcdajbaaArgs
import Derived.OpenShut
set_option linter.all false
namespace Go.Proofs.Ytahmlcjgcdajbaa
open Go.RowKit Go.Hub Go.ChangeShapes Go.WideShapes Go.Deep
theorem row_sl {k : IntKind} {w : World} {a : Option Addr} {len cap : Nat} {zs : List Int} (h : IsRow k w a len cap zs) : len ≤ maxLen ∧ ∃ l : List Int, l.length = len ∧ Sl w a l.length 1 (l.map (.int k)) ∧ ∀ x ∈ l, (Lit.int k x).wf = true := by
  obtain ⟨h1, h2, h3, h4⟩ := Ints.of_isRow h
  refine ⟨h2, zs.take len, h1, ⟨by simp, fun hn => ?_⟩, h3⟩
  obtain ⟨b, off, e, hb, hc⟩ := h4 (by omega)
  refine ⟨b, off, e, hb, fun j u hu => ?_⟩
  rw [List.getElem?_map, Option.map_eq_some_iff] at hu
  obtain ⟨x, hx, rfl⟩ := hu
  have hj := (List.getElem?_eq_some_iff.1 hx).1
  rw [hc j (by omega), List.getD_eq_getElem?_getD, hx]
  rfl
theorem bounds_u16 {n : Int} (h : (Lit.int .u16 n).wf = true) : 0 ≤ n ∧ n ≤ 65535 := by simpa [Lit.wf, IntKind.min, IntKind.max, IntKind.signed, IntKind.bits] using h
section
variable {w : World} {a1 a2 a3 : Option Addr} {len1 len2 len3 cap1 cap2 cap3 : Nat} {z1 z2 z3 : List Int} {n k : Int}
theorem join_row (h1 : IsRow .u16 w a1 len1 cap1 z1) (h2 : IsRow .u16 w a2 len2 cap2 z2) (h3 : IsRow .u16 w a3 len3 cap3 z3) :
    Calls Try.prog 3 #[.slice a1 len1 cap1, .slice a2 len2 cap2, .slice a3 len3 cap3] w (fun e w' => e = .returned (.bool true) ∧ Below w.heap.size w w') := by
  obtain ⟨m1, l1, rfl, s1, b1⟩ := row_sl h1
  obtain ⟨m2, l2, rfl, s2, b2⟩ := row_sl h2
  obtain ⟨m3, l3, rfl, s3, b3⟩ := row_sl h3
  exact join3_any l1 l2 l3 a1 a2 a3 cap1 cap2 cap3 w s1 s2 s3 (fun x hx => bounds_u16 (b1 x hx)) (fun x hx => bounds_u16 (b2 x hx)) (fun x hx => bounds_u16 (b3 x hx)) m1 m2 m3
theorem within_row (h1 : IsRow .u16 w a1 len1 cap1 z1) (h2 : IsRow .u16 w a2 len2 cap2 z2) (h3 : IsRow .u16 w a3 len3 cap3 z3) :
    Calls Try.prog 5 #[.slice a1 len1 cap1, .slice a2 len2 cap2, .slice a3 len3 cap3] w (fun e w' => e = .returned (.bool true) ∧ Below w.heap.size w w') := by
  obtain ⟨m1, l1, rfl, s1, b1⟩ := row_sl h1
  obtain ⟨m2, l2, rfl, s2, b2⟩ := row_sl h2
  obtain ⟨m3, l3, rfl, s3, b3⟩ := row_sl h3
  exact within3_any l1 l2 l3 a1 a2 a3 cap1 cap2 cap3 w s1 s2 s3 (fun x hx => bounds_u16 (b1 x hx)) (fun x hx => bounds_u16 (b2 x hx)) (fun x hx => bounds_u16 (b3 x hx)) m1 m2 m3
theorem add_row (h1 : IsRow .u16 w a1 len1 cap1 z1) (hn : (Lit.int .u16 n).wf = true) (hk : (Lit.int .u8 k).wf = true) :
    Calls Try.prog 4 #[.slice a1 len1 cap1, .int .u16 n, .int .u8 k] w (fun e w' => e = .returned (.bool true) ∧ Below w.heap.size w w') := by
  obtain ⟨m1, l1, rfl, s1, b1⟩ := row_sl h1
  exact addl_any l1 n k a1 cap1 w s1 (fun x hx => bounds_u16 (b1 x hx)) m1 (bounds_u16 hn) (bounds_u8 hk)
end
section
variable {H : Type} {enc : TypeId × Value → H} {w : World} {spare : Nat → Bool} {held : Bool}
theorem open_dot (n : Nat) (cs : List Value) (y : DataW H × List MemPlace) (h : DataW.trod enc Try.prog w 0 spare held n 32 cs = some y) : ∃ d : Dt, cs = dcell d ∧ True := by
  obtain ⟨ys, n', _, _, hcl, hyl, hf⟩ := DataW.trod_struct Try.underlying32 h
  have hcells : Try.prog.cellsOf 32 = 3 := by kernel_rfl
  rw [hcells] at hcl
  match cs, hcl with
  | [v0, v1, v2], _ =>
    have c3 : Try.prog.cellsOf 3 = 1 := by kernel_rfl
    have f0 : DataW.trod enc Try.prog w 0 spare held n' 3 [v0] = ys[0]? := by have := hf 0 _ rfl; simpa [c3] using this
    have f1 : DataW.trod enc Try.prog w 0 spare held n' 3 [v1] = ys[1]? := by have := hf 1 _ rfl; simpa [c3] using this
    have f2 : DataW.trod enc Try.prog w 0 spare held n' 3 [v2] = ys[2]? := by have := hf 2 _ rfl; simpa [c3] using this
    have l3 : ys.length = 3 := hyl
    rw [List.getElem?_eq_getElem (by omega)] at f0 f1 f2
    obtain ⟨x0, e0, _, _⟩ := DataW.trod_int Try.underlying3 f0
    obtain ⟨x1, e1, _, _⟩ := DataW.trod_int Try.underlying3 f1
    obtain ⟨x2, e2, _, _⟩ := DataW.trod_int Try.underlying3 f2
    simp at e0 e1 e2
    subst e0 e1 e2
    exact ⟨⟨x0, x1, x2⟩, rfl, trivial⟩
def IsDot (v : Value) : Prop := ∃ d : Dt, v = .agg (dcell d).toArray
theorem open_da {r : Reach} {b0 : Nat} {v : Value} {d : DataW H} {p : List MemPlace} (hv : Value.okWide Try.prog w r b0 32 v) (h : DataW.Trod enc Try.prog w 0 spare held 32 v d p) : IsDot v := by
  obtain ⟨fuel, hf⟩ := h
  obtain ⟨x, hcs, _⟩ := open_dot _ _ _ hf
  have hsz : v.cells = (dcell x).toArray := Array.toList_inj.1 hcs
  cases v with
  | agg cs => exact ⟨x, by rw [← hsz]; rfl⟩
  | _ =>
    have := congrArg Array.size hsz
    simp [Value.cells] at this
theorem order_row {v0 v1 v2 : Value} (h0 : IsDot v0) (h1 : IsDot v1) (h2 : IsDot v2) (w : World) :
    Calls Try.prog 7 #[v0, v1, v2] w (fun e w' => e = .returned (.bool true) ∧ Below w.heap.size w w') := by
  obtain ⟨x, rfl⟩ := h0
  obtain ⟨y, rfl⟩ := h1
  obtain ⟨z, rfl⟩ := h2
  exact order_any x y z w
end
end Go.Proofs.Ytahmlcjgcdajbaa
