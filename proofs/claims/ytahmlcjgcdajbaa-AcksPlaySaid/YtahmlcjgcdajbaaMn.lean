/- AcksPlay: what its acts read as. -/
import Derived.Test.YtahmlcjgcdajbaaMk
import Derived.Test.YtahmlcjgcdajbaaArgs
set_option linter.all false
namespace Go.Proofs.Ytahmlcjgcdajbaa
open Go.RowKit Go.Hub Go.ChangeShapes Go.WideShapes Go.Deep
theorem seq_flat {M : Type} {size : Nat} {cell : M → List Value} {R : M → Prop} : ∀ (ms : List M) (xs : List Value), Seq size (fun cs m => cs = cell m ∧ R m) xs ms → xs = ms.flatMap cell ∧ ∀ m ∈ ms, R m
  | [], xs, h => by
    have := h.1
    simp at this
    exact ⟨by simp [this], by simp⟩
  | m :: r, xs, h => by
    have h0 := h.2 0 m rfl
    rw [Nat.zero_mul, List.drop_zero] at h0
    have h1 := h.drop 1
    rw [Nat.one_mul] at h1
    obtain ⟨i1, i2⟩ := seq_flat r _ h1
    refine ⟨?_, fun y hy => ?_⟩
    · rw [List.flatMap_cons, ← h0.1, ← i1, List.take_append_drop]
    · rcases List.mem_cons.1 hy with rfl | hy
      · exact h0.2
      · exact i2 y hy
section
variable {H : Type} {enc : TypeId × Value → H} {w : World} {spare : Nat → Bool} {held : Bool}
theorem slice1 {t e n : Nat} {v : Value} {y : DataW H × List MemPlace} (ht : Try.prog.underlying t = some (.slice e)) (h : DataW.trod enc Try.prog w 0 spare held n t [v] = some y) : ∃ a l c, v = .slice a l c := by
  rcases open_slice ht h with ⟨hcs, _⟩ | ⟨a', len', cap', _, _, _, _, hcs, _⟩
  · simp at hcs
    exact ⟨_, _, _, hcs⟩
  · simp at hcs
    exact ⟨_, _, _, hcs⟩
theorem open_word (n : Nat) (cs : List Value) (y : DataW H × List MemPlace) (h : DataW.trod enc Try.prog w 0 spare held n 30 cs = some y) : ∃ x : Int, cs = [.int .u16 x] ∧ (0 ≤ x ∧ x ≤ 65535) := by
  obtain ⟨x, e, _, hw⟩ := DataW.trod_int Try.underlying30 h
  exact ⟨x, e, bounds_u16 hw⟩
theorem open_dot (n : Nat) (cs : List Value) (y : DataW H × List MemPlace) (h : DataW.trod enc Try.prog w 0 spare held n 32 cs = some y) : ∃ d : Dt, cs = dcell d ∧ True := by
  obtain ⟨ys, n', _, _, hcl, hyl, hf⟩ := DataW.trod_struct Try.underlying32 h
  have hcells : Try.prog.cellsOf 32 = 3 := by kernel_rfl
  rw [hcells] at hcl
  match cs, hcl with
  | [v0, v1, v2], _ =>
    have c3 : Try.prog.cellsOf 3 = 1 := by kernel_rfl
    have f0 : DataW.trod enc Try.prog w 0 spare held n' 3 [v0] = ys[0]? := by have := hf 0 _ rfl; simpa [c3] using this
    have f1 : DataW.trod enc Try.prog w 0 spare held n' 3 [v1] = ys[1]? := by have := hf 1 _ rfl; simpa [c3] using this
    have f2 : DataW.trod enc Try.prog w 0 spare held n' 3 [v2] = ys[2]? := by have := hf 2 _ rfl; simpa [c3] using this
    have l3 : ys.length = 3 := hyl
    rw [List.getElem?_eq_getElem (by omega)] at f0 f1 f2
    obtain ⟨x0, e0, _, _⟩ := DataW.trod_int Try.underlying3 f0
    obtain ⟨x1, e1, _, _⟩ := DataW.trod_int Try.underlying3 f1
    obtain ⟨x2, e2, _, _⟩ := DataW.trod_int Try.underlying3 f2
    simp at e0 e1 e2
    subst e0 e1 e2
    exact ⟨⟨x0, x1, x2⟩, rfl, trivial⟩
theorem words_us {A : Option Addr} {l : List Int} {xs : List Value} (r : Rds w w.heap.size 1 A l.length xs) (s : Seq 1 (fun cs (x : Int) => cs = [.int .u16 x] ∧ (0 ≤ x ∧ x ≤ 65535)) xs l) : Us w A l ∧ ∀ x ∈ l, 0 ≤ x ∧ x ≤ 65535 := by
  obtain ⟨e, h⟩ := seq_flat l xs s
  refine ⟨?_, h⟩
  have e2 : xs = l.map (.int .u16) := by rw [e]; clear e s r h; induction l with
    | nil => rfl
    | cons a l ih => simp [ih]
  rw [e2] at r
  exact Sl.of_rds r
theorem open_act (n : Nat) (cs : List Value) (y : DataW H × List MemPlace) (h : DataW.trod enc Try.prog w 0 spare held n 57 cs = some y) : ∃ x : A15, cs = acell x ∧ (Us w x.A x.l ∧ Ds w x.B x.raw ∧ ∀ y ∈ x.l, 0 ≤ y ∧ y ≤ 65535) := by
  obtain ⟨ys, n', _, _, hcl, hyl, hf⟩ := DataW.trod_struct Try.underlying57 h
  have hcells : Try.prog.cellsOf 57 = 6 := by kernel_rfl
  rw [hcells] at hcl
  match cs, hcl with
  | [v0, v1, v2, v3, v4, v5], _ =>
    have c3 : Try.prog.cellsOf 3 = 1 := by kernel_rfl
    have c22 : Try.prog.cellsOf 22 = 1 := by kernel_rfl
    have c24 : Try.prog.cellsOf 24 = 1 := by kernel_rfl
    have c4 : Try.prog.cellsOf 4 = 1 := by kernel_rfl
    have f0 : DataW.trod enc Try.prog w 0 spare held n' 3 [v0] = ys[0]? := by have := hf 0 _ rfl; simpa [c3] using this
    have f1 : DataW.trod enc Try.prog w 0 spare held n' 3 [v1] = ys[1]? := by have := hf 1 _ rfl; simpa [c3] using this
    have f2 : DataW.trod enc Try.prog w 0 spare held n' 3 [v2] = ys[2]? := by have := hf 2 _ rfl; simpa [c3] using this
    have f3 : DataW.trod enc Try.prog w 0 spare held n' 22 [v3] = ys[3]? := by have := hf 3 _ rfl; simpa [c22] using this
    have f4 : DataW.trod enc Try.prog w 0 spare held n' 24 [v4] = ys[4]? := by have := hf 4 _ rfl; simpa [c24] using this
    have f5 : DataW.trod enc Try.prog w 0 spare held n' 4 [v5] = ys[5]? := by have := hf 5 _ rfl; simpa [c4] using this
    have l6 : ys.length = 6 := hyl
    rw [List.getElem?_eq_getElem (by omega)] at f0 f1 f2 f3 f4 f5
    obtain ⟨x0, e0, _, _⟩ := DataW.trod_int Try.underlying3 f0
    obtain ⟨x1, e1, _, _⟩ := DataW.trod_int Try.underlying3 f1
    obtain ⟨x2, e2, _, _⟩ := DataW.trod_int Try.underlying3 f2
    obtain ⟨x5, e5, _⟩ := DataW.trod_bool Try.underlying4 f5
    obtain ⟨a3, n3, k3, e3⟩ := slice1 Try.underlying22 f3
    obtain ⟨a4, n4, k4, e4⟩ := slice1 Try.underlying24 f4
    subst e3 e4
    obtain ⟨A3, m3, q3, xs3, l3, g3, _, _, hl3, rd3, s3⟩ := open_seq (show Try.prog.cellsOf 30 = 1 by kernel_rfl) (by omega) Try.underlying22 ⟨_, _, _, rfl⟩ ⟨_, f3⟩ open_word
    obtain ⟨A4, m4, q4, xs4, l4, g4, _, _, hl4, rd4, s4⟩ := open_seq (show Try.prog.cellsOf 32 = 3 by kernel_rfl) (by omega) Try.underlying24 ⟨_, _, _, rfl⟩ ⟨_, f4⟩ open_dot
    subst hl3 hl4
    obtain ⟨us, ub⟩ := words_us rd3 s3
    obtain ⟨ed, _⟩ := seq_flat l4 xs4 s4
    rw [ed] at rd4
    simp at e0 e1 e2 e5
    subst e0 e1 e2 e5
    rw [g3, g4]
    exact ⟨⟨x0, x1, x2, l3, A3, q3, l4, A4, q4, x5⟩, rfl, us, Sl.of_rds rd4, ub⟩
def IsActs (w : World) (v : Value) : Prop := ∃ acts Aa ca, v = .slice Aa (acts : List A15).length ca ∧ acts.length ≤ maxLen ∧ Sl w Aa acts.length 6 (acts.flatMap acell) ∧ ∀ x ∈ acts, Us w x.A x.l ∧ Ds w x.B x.raw ∧ ∀ y ∈ x.l, 0 ≤ y ∧ y ≤ 65535
theorem open_acts {r : Reach} {b0 : Nat} {v : Value} {d : DataW H} {p : List MemPlace} (hv : Value.okWide Try.prog w r b0 50 v) (h : DataW.Trod enc Try.prog w 0 spare held 50 v d p) : IsActs w v := by
  obtain ⟨A, m, q, xs, acts, rfl, hm, hq, hl, rd, s⟩ := open_seq (show Try.prog.cellsOf 57 = 6 by kernel_rfl) (by omega) Try.underlying50 (okWide_slice Try.underlying50 hv) h open_act
  subst hl
  obtain ⟨e, ha⟩ := seq_flat acts xs s
  rw [e] at rd
  exact ⟨acts, A, q, rfl, by omega, Sl.of_rds rd, ha⟩
end
theorem acksPlay_row {n sf : Int} {v : Value} {w : World} {a1 : Option Addr} {len1 cap1 : Nat} {z1 : List Int} (hv : IsActs w v) (h1 : IsRow .u16 w a1 len1 cap1 z1) :
    Calls Try.prog 9 #[.int .i64 n, .int .i64 sf, v, .slice a1 len1 cap1] w (fun e w' => e = .returned (.bool true) ∧ Below w.heap.size w w') := by
  obtain ⟨acts, Aa, ca, rfl, hla, hAC, hact⟩ := hv
  obtain ⟨m1, l1, rfl, s1, b1⟩ := row_sl h1
  exact acksPlay_any n sf acts l1 Aa a1 ca cap1 w hAC hact s1 (fun x hx => bounds_u16 (b1 x hx)) hla m1
end Go.Proofs.Ytahmlcjgcdajbaa
