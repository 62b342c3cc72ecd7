/- CastTells: what an argument that is a packet weighs: its texts and slices are of no more bytes than the reach. -/
import Derived.Test.YtagcfmmbbcnkbaaR
import Derived.SizedLaws
set_option linter.all false
namespace Go.Proofs.Ytagcfmmbbcnkbaa
open Go.RowKit Go.Hub Go.ChangeShapes Go.WideShapes Go.Deep

section
variable {H : Type} {enc : TypeId × Value → H} {w : World} {spare : Nat → Bool} {held : Bool}
theorem size_str {n : Nat} {s : ByteArray} {y : DataW H × List MemPlace} (h : DataW.trod enc Try.prog w 0 spare held n 9 [.string s] = some y) (hz : ∀ k ∈ y.1.weights Try.prog 9, k ≤ reachBytes) : s.size ≤ 140737488355328 := by
  obtain ⟨r, e1, rfl, _⟩ := DataW.trod_string Try.underlying9 h
  simp at e1
  subst e1
  have := hz s.data.toList.length (by simp [DataW.weights])
  have h2 := reachBytes_lt
  have e : s.data.toList.length = s.size := by simp
  omega
theorem size_bytes {n : Nat} {A : Option Addr} {m c : Nat} {y : DataW H × List MemPlace} (h : DataW.trod enc Try.prog w 0 spare held n 22 [.slice A m c] = some y) (hz : ∀ k ∈ y.1.weights Try.prog 22, k ≤ reachBytes) : m ≤ 140737488355328 := by
  rcases open_slice Try.underlying22 h with ⟨hcs, _⟩ | ⟨a, len, cap, q, n2, D, Pl, hcs, _, _, _, _, rfl, _⟩
  · simp at hcs; omega
  · simp at hcs
    obtain ⟨_, rfl, _⟩ := hcs
    have hb : Try.prog.bytesOf 5 = 1 := by kernel_rfl
    have := hz ((m + (q - m)) * 1) (by simp [DataW.weights, hb])
    have h2 := reachBytes_lt
    omega
theorem each {t : TypeId} {fs : Array Field} {n : Nat} {cs : List Value} {y : DataW H × List MemPlace} (ht : Try.prog.underlying t = some (.struct fs)) (h : DataW.trod enc Try.prog w 0 spare held n t cs = some y) (hz : ∀ k ∈ y.1.weights Try.prog t, k ≤ reachBytes)
    (i : Nat) (f : Field) (hf : fs[i]? = some f) : ∃ n' z, DataW.trod enc Try.prog w 0 spare held n' f.type ((cs.drop f.offset).take (Try.prog.cellsOf f.type)) = some z ∧ ∀ k ∈ z.1.weights Try.prog f.type, k ≤ reachBytes := by
  obtain ⟨ys, n', _, rfl, _, hyl, hg⟩ := DataW.trod_struct ht h
  have hi : i < ys.length := by rw [hyl]; exact (Array.getElem?_eq_some_iff.1 hf).1
  have hy : ys[i]? = some ys[i] := List.getElem?_eq_getElem hi
  refine ⟨n', ys[i], by rw [hg i f hf, hy], fun k hk => hz k ?_⟩
  simp only [DataW.weights, ht]
  exact DataW.weights_mem_each (j := i) (t := f.type) (d := ys[i].1) (by simp [← Array.getElem?_toList] at hf ⊢; exact ⟨f, hf, rfl⟩) (by simp [hy]) k hk
theorem reach_of {n : Nat} {p : Pk} {s : Ad} {y : DataW H × List MemPlace} (h : DataW.trod enc Try.prog w 0 spare held n 28 (Pk.cells p s).toList = some y) (hz : ∀ k ∈ y.1.weights Try.prog 28, k ≤ reachBytes) : p.Reach := by
  have k9 : Try.prog.cellsOf 9 = 1 := by kernel_rfl
  have k22 : Try.prog.cellsOf 22 = 1 := by kernel_rfl
  have k24 : Try.prog.cellsOf 24 = 4 := by kernel_rfl
  obtain ⟨_, _, a5, b5⟩ := each Try.underlying28 h hz 5 _ rfl
  obtain ⟨_, _, a6, b6⟩ := each Try.underlying28 h hz 6 _ rfl
  obtain ⟨_, _, a8, b8⟩ := each Try.underlying28 h hz 8 _ rfl
  obtain ⟨n12, z12, a12, b12⟩ := each Try.underlying28 h hz 12 _ rfl
  obtain ⟨_, _, a15, b15⟩ := each Try.underlying28 h hz 15 _ rfl
  obtain ⟨_, _, a16, b16⟩ := each Try.underlying28 h hz 16 _ rfl
  have a12' : DataW.trod enc Try.prog w 0 spare held n12 24 [.string p.wt, .slice s.wa p.wp.length s.wc, .int .i64 p.wq, .bool p.wr] = some z12 := by simpa [k24, Pk.cells] using a12
  obtain ⟨_, _, c0, d0⟩ := each (y := z12) Try.underlying24 a12' b12 0 _ rfl
  obtain ⟨_, _, c1, d1⟩ := each (y := z12) Try.underlying24 a12' b12 1 _ rfl
  exact ⟨size_str (s := p.topic) (by simpa [k9, Pk.cells] using a5) b5, size_bytes (A := s.pa) (c := s.pc) (by simpa [k22, Pk.cells] using a6) b6, size_str (s := p.client) (by simpa [k9, Pk.cells] using a8) b8, size_str (s := p.user) (by simpa [k9, Pk.cells] using a15) b15, size_bytes (A := s.sa) (c := s.sc) (by simpa [k22, Pk.cells] using a16) b16, size_str (s := p.wt) (by simpa [k9] using c0) d0, size_bytes (A := s.wa) (c := s.wc) (by simpa [k22] using c1) d1⟩
end
/-- the law, on the arguments as they come -/
theorem tells_law (k a b c : Int) (v vx : Value) (w : World) (hk : 0 ≤ k ∧ k ≤ 255) (ha : 0 ≤ a ∧ a ≤ 255) (hb : 0 ≤ b ∧ b ≤ 255) (hc : 0 ≤ c ∧ c ≤ 255) (h : ∃ p s, v = .agg (Pk.cells p s) ∧ p.Ok EP w.heap.size w s ∧ p.Fits ∧ p.Reach)
    (hx : ∃ A cx x, vx = .slice A (x : List UInt8).length cx ∧ x.length ≤ maxLen ∧ Bs EP w.heap.size w A x.length x) : Calls Try.prog 3 #[v, .int .u8 k, .int .u8 a, .int .u8 b, .int .u8 c, vx] w fun e w' => e = .returned (.bool true) ∧ Below w.heap.size w w' := by
  obtain ⟨p, s, rfl, ho, hf, hr⟩ := h
  obtain ⟨A, cx, x, rfl, hm, hx⟩ := hx
  exact (tells_any p s k a b c x A cx w ho hf.2.2.2.1 hr hk ha hb hc hx hm).mono fun e w' hh => ⟨hh.1, hh.2.below0⟩
end Go.Proofs.Ytagcfmmbbcnkbaa
