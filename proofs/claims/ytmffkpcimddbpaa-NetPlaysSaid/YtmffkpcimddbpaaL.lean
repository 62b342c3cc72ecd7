/- NetPlays on the argument as it comes. -/
import Derived.Test.YtmffkpcimddbpaaK
set_option linter.all false
namespace Go.Proofs.Ytmffkpcimddbpaa
open Go.RowKit Go.Hub
theorem plays_law (v : Value) (w : World) (h : IsActs w v) : Calls Try.prog 3 #[v] w fun e w' => e = .returned (.bool true) ∧ Below w.heap.size w w' := by
  obtain ⟨A, len, cap, xs, ms, rfl, h1, h2, h3, h4, h5⟩ := h
  exact plays_any A len cap xs ms w h1 h2 h3 h4 h5
end Go.Proofs.Ytmffkpcimddbpaa
