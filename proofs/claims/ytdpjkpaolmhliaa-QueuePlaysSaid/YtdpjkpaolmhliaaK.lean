/- What the arguments of QueuePlays read as, and small laws for its walk. -/
import Derived.Test.YtdpjkpaolmhliaaI
import Derived.Test.YtdpjkpaolmhliaaArgs
set_option linter.all false
namespace Go.Proofs.Ytdpjkpaolmhliaa
open Go.RowKit Go.Hub Go.ChangeShapes Go.WideShapes Go.Deep

/-- a message among the arguments -/
def relA (w : World) (cs : List Value) (m : M) : Prop := relM [5] w.heap.size w cs m ∧ m.t.size ≤ maxLen ∧ m.p.length ≤ maxLen
def relB (cs : List Value) (b : Bool) : Prop := cs = [.bool b]

section
variable {H : Type} {enc : TypeId × Value → H} {w : World} {spare : Nat → Bool} {held : Bool}
theorem open_msg (n : Nat) (cs : List Value) (y : DataW H × List MemPlace) (h : DataW.trod enc Try.prog w 0 spare held n 27 cs = some y) : ∃ m, relA w cs m := by
  obtain ⟨ys, n', _, _, hcl, hyl, hf⟩ := DataW.trod_struct Try.underlying27 h
  have hcells : Try.prog.cellsOf 27 = 4 := by kernel_rfl
  rw [hcells] at hcl
  match cs, hcl with
  | [v0, v1, v2, v3], _ =>
    have c9 : Try.prog.cellsOf 9 = 1 := by kernel_rfl
    have c25 : Try.prog.cellsOf 25 = 1 := by kernel_rfl
    have c3 : Try.prog.cellsOf 3 = 1 := by kernel_rfl
    have c4 : Try.prog.cellsOf 4 = 1 := by kernel_rfl
    have f0 : DataW.trod enc Try.prog w 0 spare held n' 9 [v0] = ys[0]? := by have := hf 0 _ rfl; simpa [c9] using this
    have f1 : DataW.trod enc Try.prog w 0 spare held n' 25 [v1] = ys[1]? := by have := hf 1 _ rfl; simpa [c25] using this
    have f2 : DataW.trod enc Try.prog w 0 spare held n' 3 [v2] = ys[2]? := by have := hf 2 _ rfl; simpa [c3] using this
    have f3 : DataW.trod enc Try.prog w 0 spare held n' 4 [v3] = ys[3]? := by have := hf 3 _ rfl; simpa [c4] using this
    have l4 : ys.length = 4 := hyl
    rw [List.getElem?_eq_getElem (by omega)] at f0 f1 f2 f3
    obtain ⟨s, e0, _, hs⟩ := DataW.trod_string Try.underlying9 f0
    obtain ⟨A, c, l, e1, hl, hb⟩ := open_bytes [5] Try.underlying25 Try.underlying5 (by kernel_rfl) f1
    obtain ⟨q, e2, _, hq⟩ := DataW.trod_int Try.underlying3 f2
    obtain ⟨r, e3, _⟩ := DataW.trod_bool Try.underlying4 f3
    simp at e0 e1 e2 e3
    subst e0 e1 e2 e3
    exact ⟨⟨s, l, q, r⟩, ⟨A, c, rfl, hb⟩, hs, hl⟩
theorem open_flag (n : Nat) (cs : List Value) (y : DataW H × List MemPlace) (h : DataW.trod enc Try.prog w 0 spare held n 4 cs = some y) : ∃ b, relB cs b := by
  obtain ⟨b, e, _⟩ := DataW.trod_bool Try.underlying4 h
  exact ⟨b, e⟩
theorem open_msgs {r : Reach} {b0 : Nat} {v : Value} {d : DataW H} {p : List MemPlace} (hv : Value.okWide Try.prog w r b0 22 v) (h : DataW.Trod enc Try.prog w 0 spare held 22 v d p) :
    ∃ A len cap xs ms, v = .slice A len cap ∧ len ≤ cap ∧ cap ≤ maxLen ∧ ms.length = len ∧ Rds w w.heap.size 4 A len xs ∧ Seq 4 (relA w) xs ms :=
  open_seq (by kernel_rfl) (by omega) Try.underlying22 (okWide_slice Try.underlying22 hv) h open_msg
theorem open_flags {r : Reach} {b0 : Nat} {v : Value} {d : DataW H} {p : List MemPlace} (hv : Value.okWide Try.prog w r b0 23 v) (h : DataW.Trod enc Try.prog w 0 spare held 23 v d p) :
    ∃ A len cap xs ms, v = .slice A len cap ∧ len ≤ cap ∧ cap ≤ maxLen ∧ ms.length = len ∧ Rds w w.heap.size 1 A len xs ∧ Seq 1 relB xs ms :=
  open_seq (by kernel_rfl) (by omega) Try.underlying23 (okWide_slice Try.underlying23 hv) h open_flag
end

theorem IsQ.drew {B b : Nat} {v : Value} {most lost : Int} {ms : List M} {w : World} (h : IsQ B w b v most lost ms) : IsQ B w.drew b v most lost ms := h
theorem IsR.drew {B b : Nat} {v : Value} {most lost : Int} {ms : List M} {w : World} (h : IsR B w b v most lost ms) : IsR B w.drew b v most lost ms := h
/-- two footprints have no block in common -/
def Apt (F G : List Nat) : Prop := ∀ x ∈ F, x ∉ G
theorem Apt.symm {F G : List Nat} (h : Apt F G) : Apt G F := fun x hx hy => h x hy hx
theorem apt_turn {b : Nat} {v v' : Value} {G : List Nat} {n : Nat} (h : Apt (b :: v.ownBlock.toList) G) (hG : ∀ x ∈ G, x < n) (hv : ∀ k, v'.ownBlock = some k → v.ownBlock = some k ∨ n ≤ k) : Apt (b :: v'.ownBlock.toList) G := by
  intro x hx hy
  simp at hx
  rcases hx with rfl | hx
  · exact h x (by simp) hy
  · rcases hv x hx with h1 | h1
    · exact h x (by simp [h1]) hy
    · have := hG x hy; omega
/-- what stands at the head of a round -/
structure Two (w wr : World) (b b2 : Nat) (v v2 : Value) (k lost : Int) (ms : List M) (n : Nat) : Prop where
  q : IsQ w.heap.size wr b v k lost ms
  r : IsR w.heap.size wr b2 v2 k lost ms
  a : Apt (b :: v.ownBlock.toList) (b2 :: v2.ownBlock.toList)
  s : Same [5] w.heap.size w wr
  p : ∀ m ∈ ms, m.p.length ≤ 30
  l : ms.length ≤ n
  g : 0 ≤ lost ∧ lost ≤ n
theorem pushL_mem {k : Int} {ms : List M} {m : M} (h : ∀ x ∈ ms, x.p.length ≤ 30) (hm : m.p.length ≤ 30) : ∀ x ∈ pushL k ms m, x.p.length ≤ 30 := by
  unfold pushL
  split
  · intro x hx
    simp at hx
    rcases hx with hx | rfl
    · exact h x hx
    · exact hm
  · exact h
theorem pushL_len {k : Int} {ms : List M} {m : M} {n : Nat} (h : ms.length ≤ n) : (pushL k ms m).length ≤ n + 1 := by
  unfold pushL
  split
  · simp; omega
  · omega
theorem pushN_bd {k lost : Int} {ms : List M} {n : Nat} (h : 0 ≤ lost ∧ lost ≤ n) : 0 ≤ pushN k ms lost ∧ pushN k ms lost ≤ (n + 1 : Nat) := by
  unfold pushN
  split <;> omega
theorem far16_bd (n : Int) : 0 ≤ far16 n ∧ far16 n ≤ 65536 := by unfold far16; omega
end Go.Proofs.Ytdpjkpaolmhliaa
