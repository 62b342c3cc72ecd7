/- A packet among the arguments. -/
import Derived.Test.YtagcfmmbbcnkbaaI
import Derived.Test.YtagcfmmbbcnkbaaArgs
set_option linter.all false
namespace Go.Proofs.Ytagcfmmbbcnkbaa
open Go.RowKit Go.Hub Go.ChangeShapes Go.WideShapes Go.Deep

/-- as long as slices may be -/
def _root_.Go.Hub.Pk.Fits (p : Pk) : Prop := p.pay.length ≤ maxLen ∧ p.wp.length ≤ maxLen ∧ p.pass.length ≤ maxLen ∧ p.subs.length ≤ maxLen ∧ p.codes.length ≤ maxLen
section
variable {H : Type} {enc : TypeId × Value → H} {w : World} {spare : Nat → Bool} {held : Bool}
theorem open_sub (n : Nat) (cs : List Value) (y : DataW H × List MemPlace) (h : DataW.trod enc Try.prog w 0 spare held n 58 cs = some y) : ∃ s : ByteArray × Int, cs = [.string s.1, .int .i64 s.2] := by
  obtain ⟨ys, n', _, _, hcl, hyl, hf⟩ := DataW.trod_struct Try.underlying58 h
  have hcells : Try.prog.cellsOf 58 = 2 := by kernel_rfl
  rw [hcells] at hcl
  match cs, hcl with
  | [v0, v1], _ =>
    have c9 : Try.prog.cellsOf 9 = 1 := by kernel_rfl
    have c3 : Try.prog.cellsOf 3 = 1 := by kernel_rfl
    have f0 : DataW.trod enc Try.prog w 0 spare held n' 9 [v0] = ys[0]? := by have := hf 0 _ rfl; simpa [c9] using this
    have f1 : DataW.trod enc Try.prog w 0 spare held n' 3 [v1] = ys[1]? := by have := hf 1 _ rfl; simpa [c3] using this
    have l2 : ys.length = 2 := hyl
    rw [List.getElem?_eq_getElem (by omega)] at f0 f1
    obtain ⟨s, e0, _, _⟩ := DataW.trod_string Try.underlying9 f0
    obtain ⟨q, e1, _, _⟩ := DataW.trod_int Try.underlying3 f1
    simp at e0 e1
    subst e0 e1
    exact ⟨(s, q), rfl⟩
theorem open_int1 (n : Nat) (cs : List Value) (y : DataW H × List MemPlace) (h : DataW.trod enc Try.prog w 0 spare held n 3 cs = some y) : ∃ q : Int, cs = [.int .i64 q] := by
  obtain ⟨q, e1, _, _⟩ := DataW.trod_int Try.underlying3 h
  exact ⟨q, e1⟩
theorem seq_subs {xs : List Value} {ms : List (ByteArray × Int)} (h : Seq 2 (fun cs s => cs = [.string s.1, .int .i64 s.2]) xs ms) : xs = subCells ms := by
  induction ms generalizing xs with
  | nil => have := h.1; simp at this; subst this; rfl
  | cons m r ih =>
    have h0 := h.2 0 m rfl
    have hd := ih (h.drop 1)
    simp at h0
    have e : xs = xs.take 2 ++ xs.drop 2 := (List.take_append_drop 2 xs).symm
    rw [e, h0]
    simp at hd
    rw [hd]
    simp [subCells]
theorem seq_codes {xs : List Value} {ms : List Int} (h : Seq 1 (fun cs q => cs = [.int .i64 q]) xs ms) : xs = codeCells ms := by
  induction ms generalizing xs with
  | nil => have := h.1; simp at this; subst this; rfl
  | cons m r ih =>
    have h0 := h.2 0 m rfl
    have hd := ih (h.drop 1)
    simp at h0
    have e : xs = xs.take 1 ++ xs.drop 1 := (List.take_append_drop 1 xs).symm
    rw [e, h0]
    simp at hd
    rw [List.drop_one, hd]
    simp [codeCells]
theorem cs_of_rds {E : List TypeId} {A : Option Addr} {n size : Nat} {xs : List Value} (h : Rds w w.heap.size size A n xs) : Cs E w.heap.size w A n size xs :=
  ⟨h.1, fun hn => by
    obtain ⟨b, off, e, hb, hc⟩ := h.2 hn
    exact ⟨b, off, e, hb, .inl hb, hc⟩⟩
theorem trod_slice1 {t e n : Nat} {v : Value} {y : DataW H × List MemPlace} (hu : Try.prog.underlying t = some (.slice e)) (h : DataW.trod enc Try.prog w 0 spare held n t [v] = some y) : ∃ a len cap, v = .slice a len cap := by
  rcases open_slice hu h with ⟨hcs, _⟩ | ⟨a', len', cap', m, n, D, Pl, hcs, _⟩
  · simp at hcs; exact ⟨_, _, _, hcs⟩
  · simp at hcs; exact ⟨_, _, _, hcs⟩
theorem open_packet (n : Nat) (cs : List Value) (y : DataW H × List MemPlace) (h : DataW.trod enc Try.prog w 0 spare held n 28 cs = some y) : ∃ p s, cs = (Pk.cells p s).toList ∧ p.Ok EP w.heap.size w s ∧ p.Fits := by
  obtain ⟨ys, n', _, _, hcl, hyl, hf⟩ := DataW.trod_struct Try.underlying28 h
  have hcells : Try.prog.cellsOf 28 = 24 := by kernel_rfl
  rw [hcells] at hcl
  match cs, hcl with
  | [v0, v1, v2, v3, v4, v5, v6, v7, v8, v9, v10, v11, v12, v13, v14, v15, v16, v17, v18, v19, v20, v21, v22, v23], _ =>
    have k3 : Try.prog.cellsOf 3 = 1 := by kernel_rfl
    have k4 : Try.prog.cellsOf 4 = 1 := by kernel_rfl
    have k9 : Try.prog.cellsOf 9 = 1 := by kernel_rfl
    have k22 : Try.prog.cellsOf 22 = 1 := by kernel_rfl
    have k24 : Try.prog.cellsOf 24 = 4 := by kernel_rfl
    have k25 : Try.prog.cellsOf 25 = 1 := by kernel_rfl
    have k26 : Try.prog.cellsOf 26 = 1 := by kernel_rfl
    have l21 : ys.length = 21 := hyl
    have f0 : DataW.trod enc Try.prog w 0 spare held n' 3 [v0] = ys[0]? := by have := hf 0 _ rfl; simpa [k3] using this
    rw [List.getElem?_eq_getElem (by omega)] at f0
    have f1 : DataW.trod enc Try.prog w 0 spare held n' 4 [v1] = ys[1]? := by have := hf 1 _ rfl; simpa [k4] using this
    rw [List.getElem?_eq_getElem (by omega)] at f1
    have f2 : DataW.trod enc Try.prog w 0 spare held n' 4 [v2] = ys[2]? := by have := hf 2 _ rfl; simpa [k4] using this
    rw [List.getElem?_eq_getElem (by omega)] at f2
    have f3 : DataW.trod enc Try.prog w 0 spare held n' 3 [v3] = ys[3]? := by have := hf 3 _ rfl; simpa [k3] using this
    rw [List.getElem?_eq_getElem (by omega)] at f3
    have f4 : DataW.trod enc Try.prog w 0 spare held n' 3 [v4] = ys[4]? := by have := hf 4 _ rfl; simpa [k3] using this
    rw [List.getElem?_eq_getElem (by omega)] at f4
    have f5 : DataW.trod enc Try.prog w 0 spare held n' 9 [v5] = ys[5]? := by have := hf 5 _ rfl; simpa [k9] using this
    rw [List.getElem?_eq_getElem (by omega)] at f5
    have f6 : DataW.trod enc Try.prog w 0 spare held n' 22 [v6] = ys[6]? := by have := hf 6 _ rfl; simpa [k22] using this
    rw [List.getElem?_eq_getElem (by omega)] at f6
    have f7 : DataW.trod enc Try.prog w 0 spare held n' 3 [v7] = ys[7]? := by have := hf 7 _ rfl; simpa [k3] using this
    rw [List.getElem?_eq_getElem (by omega)] at f7
    have f8 : DataW.trod enc Try.prog w 0 spare held n' 9 [v8] = ys[8]? := by have := hf 8 _ rfl; simpa [k9] using this
    rw [List.getElem?_eq_getElem (by omega)] at f8
    have f9 : DataW.trod enc Try.prog w 0 spare held n' 4 [v9] = ys[9]? := by have := hf 9 _ rfl; simpa [k4] using this
    rw [List.getElem?_eq_getElem (by omega)] at f9
    have f10 : DataW.trod enc Try.prog w 0 spare held n' 3 [v10] = ys[10]? := by have := hf 10 _ rfl; simpa [k3] using this
    rw [List.getElem?_eq_getElem (by omega)] at f10
    have f11 : DataW.trod enc Try.prog w 0 spare held n' 4 [v11] = ys[11]? := by have := hf 11 _ rfl; simpa [k4] using this
    rw [List.getElem?_eq_getElem (by omega)] at f11
    have f12 : DataW.trod enc Try.prog w 0 spare held n' 24 [v12, v13, v14, v15] = ys[12]? := by have := hf 12 _ rfl; simpa [k24] using this
    rw [List.getElem?_eq_getElem (by omega)] at f12
    have f13 : DataW.trod enc Try.prog w 0 spare held n' 4 [v16] = ys[13]? := by have := hf 13 _ rfl; simpa [k4] using this
    rw [List.getElem?_eq_getElem (by omega)] at f13
    have f14 : DataW.trod enc Try.prog w 0 spare held n' 4 [v17] = ys[14]? := by have := hf 14 _ rfl; simpa [k4] using this
    rw [List.getElem?_eq_getElem (by omega)] at f14
    have f15 : DataW.trod enc Try.prog w 0 spare held n' 9 [v18] = ys[15]? := by have := hf 15 _ rfl; simpa [k9] using this
    rw [List.getElem?_eq_getElem (by omega)] at f15
    have f16 : DataW.trod enc Try.prog w 0 spare held n' 22 [v19] = ys[16]? := by have := hf 16 _ rfl; simpa [k22] using this
    rw [List.getElem?_eq_getElem (by omega)] at f16
    have f17 : DataW.trod enc Try.prog w 0 spare held n' 4 [v20] = ys[17]? := by have := hf 17 _ rfl; simpa [k4] using this
    rw [List.getElem?_eq_getElem (by omega)] at f17
    have f18 : DataW.trod enc Try.prog w 0 spare held n' 3 [v21] = ys[18]? := by have := hf 18 _ rfl; simpa [k3] using this
    rw [List.getElem?_eq_getElem (by omega)] at f18
    have f19 : DataW.trod enc Try.prog w 0 spare held n' 25 [v22] = ys[19]? := by have := hf 19 _ rfl; simpa [k25] using this
    rw [List.getElem?_eq_getElem (by omega)] at f19
    have f20 : DataW.trod enc Try.prog w 0 spare held n' 26 [v23] = ys[20]? := by have := hf 20 _ rfl; simpa [k26] using this
    rw [List.getElem?_eq_getElem (by omega)] at f20
    obtain ⟨zs, n2, _, _, _, hzl, hg⟩ := DataW.trod_struct Try.underlying24 f12
    have l4 : zs.length = 4 := hzl
    have g0 : DataW.trod enc Try.prog w 0 spare held n2 9 [v12] = zs[0]? := by have := hg 0 _ rfl; simpa [k9] using this
    have g1 : DataW.trod enc Try.prog w 0 spare held n2 22 [v13] = zs[1]? := by have := hg 1 _ rfl; simpa [k22] using this
    have g2 : DataW.trod enc Try.prog w 0 spare held n2 3 [v14] = zs[2]? := by have := hg 2 _ rfl; simpa [k3] using this
    have g3 : DataW.trod enc Try.prog w 0 spare held n2 4 [v15] = zs[3]? := by have := hg 3 _ rfl; simpa [k4] using this
    rw [List.getElem?_eq_getElem (by omega)] at g0 g1 g2 g3
    obtain ⟨x0, e0, _, _⟩ := DataW.trod_int Try.underlying3 f0
    obtain ⟨x1, e1, _⟩ := DataW.trod_bool Try.underlying4 f1
    obtain ⟨x2, e2, _⟩ := DataW.trod_bool Try.underlying4 f2
    obtain ⟨x3, e3, _, _⟩ := DataW.trod_int Try.underlying3 f3
    obtain ⟨x4, e4, _, _⟩ := DataW.trod_int Try.underlying3 f4
    obtain ⟨x5, e5, _, _⟩ := DataW.trod_string Try.underlying9 f5
    obtain ⟨A6, c6, x6, e6, l6, o6⟩ := open_bytes EP Try.underlying22 Try.underlying5 (by kernel_rfl) f6
    obtain ⟨x7, e7, _, _⟩ := DataW.trod_int Try.underlying3 f7
    obtain ⟨x8, e8, _, _⟩ := DataW.trod_string Try.underlying9 f8
    obtain ⟨x9, e9, _⟩ := DataW.trod_bool Try.underlying4 f9
    obtain ⟨x10, e10, _, _⟩ := DataW.trod_int Try.underlying3 f10
    obtain ⟨x11, e11, _⟩ := DataW.trod_bool Try.underlying4 f11
    obtain ⟨x16, e16, _⟩ := DataW.trod_bool Try.underlying4 f13
    obtain ⟨x17, e17, _⟩ := DataW.trod_bool Try.underlying4 f14
    obtain ⟨x18, e18, _, _⟩ := DataW.trod_string Try.underlying9 f15
    obtain ⟨A19, c19, x19, e19, l19, o19⟩ := open_bytes EP Try.underlying22 Try.underlying5 (by kernel_rfl) f16
    obtain ⟨x20, e20, _⟩ := DataW.trod_bool Try.underlying4 f17
    obtain ⟨x21, e21, _, _⟩ := DataW.trod_int Try.underlying3 f18
    obtain ⟨a22, l22_, d22, e22⟩ := trod_slice1 Try.underlying25 f19
    obtain ⟨a23, l23_, d23, e23⟩ := trod_slice1 Try.underlying26 f20
    obtain ⟨x12, e12, _, _⟩ := DataW.trod_string Try.underlying9 g0
    obtain ⟨A13, c13, x13, e13, l13, o13⟩ := open_bytes EP Try.underlying22 Try.underlying5 (by kernel_rfl) g1
    obtain ⟨x14, e14, _, _⟩ := DataW.trod_int Try.underlying3 g2
    obtain ⟨x15, e15, _⟩ := DataW.trod_bool Try.underlying4 g3
    subst e22 e23
    obtain ⟨A22, m22, c22, xs22, x22, q22, ha22, hb22, hl22, r22, s22⟩ := open_seq (rel := fun cs (s : ByteArray × Int) => cs = [.string s.1, .int .i64 s.2]) (show Try.prog.cellsOf 58 = 2 by kernel_rfl) (by omega) Try.underlying25 ⟨_, _, _, rfl⟩ ⟨_, f19⟩ open_sub
    obtain ⟨A23, m23, c23, xs23, x23, q23, ha23, hb23, hl23, r23, s23⟩ := open_seq (rel := fun cs (q : Int) => cs = [.int .i64 q]) (show Try.prog.cellsOf 3 = 1 by kernel_rfl) (by omega) Try.underlying26 ⟨_, _, _, rfl⟩ ⟨_, f20⟩ open_int1
    rw [q22, q23]
    rw [seq_subs s22] at r22
    rw [seq_codes s23] at r23
    subst hl22 hl23
    simp at e0 e1 e2 e3 e4 e5 e6 e7 e8 e9 e10 e11 e12 e13 e14 e15 e16 e17 e18 e19 e20 e21
    subst e0 e1 e2 e3 e4 e5 e6 e7 e8 e9 e10 e11 e12 e13 e14 e15 e16 e17 e18 e19 e20 e21
    exact ⟨⟨x0, x1, x2, x3, x4, x5, x6, x7, x8, x9, x10, x11, x12, x13, x14, x15, x16, x17, x18, x19, x20, x21, x22, x23⟩, ⟨A6, c6, A13, c13, A19, c19, A22, c22, A23, c23⟩, rfl, ⟨o6, o13, o19, cs_of_rds r22, cs_of_rds r23⟩, l6, l13, l19, Nat.le_trans ha22 hb22, Nat.le_trans ha23 hb23⟩
def IsPacket (w : World) (v : Value) : Prop := ∃ p s, v = .agg (Pk.cells p s) ∧ p.Ok EP w.heap.size w s ∧ p.Fits
theorem open_pk {r : Reach} {b0 : Nat} {v : Value} {d : DataW H} {p : List MemPlace} (hv : Value.okWide Try.prog w r b0 28 v) (h : DataW.Trod enc Try.prog w 0 spare held 28 v d p) : IsPacket w v := by
  obtain ⟨fuel, hf⟩ := h
  obtain ⟨p, s, hcs, ho⟩ := open_packet _ _ _ hf
  have hsz : v.cells = Pk.cells p s := by
    apply Array.toList_inj.1
    exact hcs
  cases v with
  | agg cs => exact ⟨p, s, by rw [← hsz]; rfl, ho⟩
  | _ =>
    have := congrArg Array.size hsz
    simp [Value.cells, Pk.cells] at this
end
end Go.Proofs.Ytagcfmmbbcnkbaa
