/- Rows as the frame gives them: DotsTell. -/
import Derived.Test.YtahmlcjgcdajbaaDk
set_option linter.all false
namespace Go.Proofs.Ytahmlcjgcdajbaa
open Go.RowKit Go.Hub Go.ChangeShapes Go.WideShapes Go.Deep
theorem seq_flat {M : Type} {size : Nat} {cell : M → List Value} {R : M → Prop} : ∀ (ms : List M) (xs : List Value), Seq size (fun cs m => cs = cell m ∧ R m) xs ms → xs = ms.flatMap cell ∧ ∀ m ∈ ms, R m
  | [], xs, h => by
    have := h.1
    simp at this
    exact ⟨by simp [this], by simp⟩
  | m :: r, xs, h => by
    have h0 := h.2 0 m rfl
    rw [Nat.zero_mul, List.drop_zero] at h0
    have h1 := h.drop 1
    rw [Nat.one_mul] at h1
    obtain ⟨i1, i2⟩ := seq_flat r _ h1
    refine ⟨?_, fun y hy => ?_⟩
    · rw [List.flatMap_cons, ← h0.1, ← i1, List.take_append_drop]
    · rcases List.mem_cons.1 hy with rfl | hy
      · exact h0.2
      · exact i2 y hy
section
variable {H : Type} {enc : TypeId × Value → H} {w : World} {spare : Nat → Bool} {held : Bool}
def IsDots (w : World) (v : Value) : Prop := ∃ l A c, v = .slice A (l : List Dt).length c ∧ l.length ≤ maxLen ∧ Ds w A l
theorem open_das {r : Reach} {b0 : Nat} {v : Value} {d : DataW H} {p : List MemPlace} (hv : Value.okWide Try.prog w r b0 24 v) (h : DataW.Trod enc Try.prog w 0 spare held 24 v d p) : IsDots w v := by
  obtain ⟨A, m, q, xs, l, rfl, hm, hq, hl, rd, s⟩ := open_seq (show Try.prog.cellsOf 32 = 3 by kernel_rfl) (by omega) Try.underlying24 (okWide_slice Try.underlying24 hv) h open_dot
  subst hl
  obtain ⟨e, _⟩ := seq_flat l xs s
  rw [e] at rd
  exact ⟨l, A, q, rfl, by omega, Sl.of_rds rd⟩
theorem tell_row {v0 v1 v4 : Value} {a1 a2 : Option Addr} {len1 len2 cap1 cap2 : Nat} {z1 z2 : List Int} {n : Int} (h0 : IsDots w v0) (h1 : IsDots w v1) (h2 : IsRow .u16 w a1 len1 cap1 z1) (h3 : IsRow .u16 w a2 len2 cap2 z2) (h4 : IsDot v4) (hn : (Lit.int .u16 n).wf = true) :
    Calls Try.prog 6 #[v0, v1, .slice a1 len1 cap1, .slice a2 len2 cap2, v4, .int .u16 n] w (fun e w' => e = .returned (.bool true) ∧ Below w.heap.size w w') := by
  obtain ⟨la, Aa, ca, rfl, q1, D1⟩ := h0
  obtain ⟨lb, Ab, cb, rfl, q2, D2⟩ := h1
  obtain ⟨d, rfl⟩ := h4
  obtain ⟨m1, l1, rfl, s1, b1⟩ := row_sl h2
  obtain ⟨m2, l2, rfl, s2, b2⟩ := row_sl h3
  exact tell_any la lb l1 l2 d n Aa Ab a1 a2 ca cb cap1 cap2 w D1 D2 s1 s2 (fun x hx => bounds_u16 (b1 x hx)) (fun x hx => bounds_u16 (b2 x hx)) q1 q2 m1 m2 (bounds_u16 hn)
end
end Go.Proofs.Ytahmlcjgcdajbaa
