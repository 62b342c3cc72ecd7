/- NetOrder on arguments as they come. -/
import Derived.Test.YtmffkpcimddbpaaI
set_option linter.all false
namespace Go.Proofs.Ytmffkpcimddbpaa
open Go.RowKit Go.Hub
def IsBytes (w : World) (v : Value) : Prop := ∃ A c l, v = .slice A (l : List UInt8).length c ∧ l.length ≤ maxLen ∧ Bs [5] w.heap.size w A l.length l
theorem order_law (n : Int) (v : Value) (w : World) (hn : (Lit.int .u8 n).wf = true) (h : IsBytes w v) : Calls Try.prog 4 #[.int .u8 n, v] w fun e w' => e = .returned (.bool true) ∧ Below w.heap.size w w' := by
  obtain ⟨A, c, l, rfl, h1, h2⟩ := h
  exact order_any n A c l w (bd_u8 hn) h1 h2
theorem open_raw {H : Type} {enc : TypeId × Value → H} {w : World} {spare : Nat → Bool} {held : Bool} {r : Reach} {b0 : Nat} {v : Value} {d : DataW H} {p : List MemPlace}
    (hv : Value.okWide Try.prog w r b0 27 v) (h : DataW.Trod enc Try.prog w 0 spare held 27 v d p) : IsBytes w v :=
  arg_bytes [5] Try.underlying27 Try.underlying5 (by kernel_rfl) hv h
end Go.Proofs.Ytmffkpcimddbpaa
