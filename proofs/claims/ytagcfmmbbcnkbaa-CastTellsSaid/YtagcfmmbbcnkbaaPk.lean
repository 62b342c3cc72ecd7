/- Helps of our own: a packet as a Lean structure, and what its 24 cells are. -/
import Derived.Test.YtagcfmmbbcnkbaaMem
set_option linter.all false
namespace Go.Hub
open Go.RowKit

/-! ### a slice that nobody writes, of whatever cells -/
def Cs (E : List TypeId) (B : Nat) (w : World) (A : Option Addr) (n size : Nat) (xs : List Value) : Prop :=
  xs.length = n * size ∧ (0 < n → ∃ b off, A = some ⟨b, off, none⟩ ∧ b < w.heap.size ∧ (b < B ∨ Typ w b E) ∧ ∀ j u, xs[j]? = some u → w.cell? ⟨b, off + j, none⟩ = some u)
section
variable {E : List TypeId} {B : Nat} {w w' : World} {A : Option Addr} {n size : Nat} {xs : List Value}
theorem Cs.nil (E : List TypeId) (B : Nat) (w : World) (A : Option Addr) (size : Nat) : Cs E B w A 0 size [] := ⟨by simp, fun h => absurd h (by omega)⟩
theorem Cs.same (h : Cs E B w A n size xs) (hs : Same E B w w') : Cs E B w' A n size xs :=
  ⟨h.1, fun hn => by
    obtain ⟨b, off, e, hb, ht, hc⟩ := h.2 hn
    have e1 := hs.block b hb ht
    refine ⟨b, off, e, Nat.lt_of_lt_of_le hb hs.size, ?_, fun j x hx => (World.cell?_of_block (w := w) (a := ⟨b, off + j, none⟩) e1).trans (hc j x hx)⟩
    rcases ht with ht | ht
    · exact .inl ht
    · exact .inr (ht.of_eq e1)⟩
theorem Cs.rds (h : Cs E B w A n size xs) : Rds w w.heap.size size A n xs := by
  refine ⟨h.1, fun hn => ?_⟩
  obtain ⟨b, off, e, hb, _, hc⟩ := h.2 hn
  exact ⟨b, off, e, hb, hc⟩
theorem Cs.of_own {e : TypeId} {c : Nat} (h : Own w e size (.slice A n c) n xs) (he : e ∈ E) : Cs E B w A n size xs := by
  refine ⟨h.1, fun hn => ?_⟩
  rcases h.2 with ⟨_, h0⟩ | ⟨g, off, cap, cur, hv, hg, _, _, _, hc⟩
  · omega
  · injection hv with hA
    refine ⟨g, off, hA, (Array.getElem?_eq_some_iff.1 hg).1, .inr ⟨cur, e, _, hg, he⟩, fun j x hx => ?_⟩
    rw [cell_of_row w g _ cur e (0, 0) hg]
    exact hc j _ hx
theorem Cs.drew (h : Cs E B w A n size xs) : Cs E B w.drew A n size xs := h
end

/-! ### packets -/
structure Pk where
  kind : Int := 0
  dup : Bool := false
  retain : Bool := false
  qos : Int := 0
  id : Int := 0
  topic : ByteArray := ⟨#[]⟩
  pay : List UInt8 := []
  level : Int := 0
  client : ByteArray := ⟨#[]⟩
  clean : Bool := false
  keep : Int := 0
  hasWill : Bool := false
  wt : ByteArray := ⟨#[]⟩
  wp : List UInt8 := []
  wq : Int := 0
  wr : Bool := false
  hasUser : Bool := false
  hasPass : Bool := false
  user : ByteArray := ⟨#[]⟩
  pass : List UInt8 := []
  present : Bool := false
  code : Int := 0
  subs : List (ByteArray × Int) := []
  codes : List Int := []
def subCells (l : List (ByteArray × Int)) : List Value := l.flatMap fun s => [.string s.1, .int .i64 s.2]
def codeCells (l : List Int) : List Value := l.map (Value.int .i64)
theorem subCells_len (l : List (ByteArray × Int)) : (subCells l).length = l.length * 2 := by
  unfold subCells
  induction l with
  | nil => rfl
  | cons a r ih => simp [ih]; omega
theorem subCells_one (l : List (ByteArray × Int)) : ∀ u ∈ subCells l, u.oneCell' = true := fun u hu => by
  unfold subCells at hu
  simp at hu
  obtain ⟨a, b, _, rfl | rfl⟩ := hu <;> rfl
theorem codeCells_one (l : List Int) : ∀ u ∈ codeCells l, u.oneCell' = true := fun u hu => by
  unfold codeCells at hu
  simp at hu
  obtain ⟨a, _, rfl⟩ := hu
  rfl
/-- where the five slices lie -/
structure Ad where
  pa : Option Addr
  pc : Nat
  wa : Option Addr
  wc : Nat
  sa : Option Addr
  sc : Nat
  ua : Option Addr
  uc : Nat
  ca : Option Addr
  cc : Nat
def Pk.cells (p : Pk) (s : Ad) : Array Value :=
  #[.int .i64 p.kind, .bool p.dup, .bool p.retain, .int .i64 p.qos, .int .i64 p.id, .string p.topic, .slice s.pa p.pay.length s.pc, .int .i64 p.level, .string p.client, .bool p.clean, .int .i64 p.keep, .bool p.hasWill,
    .string p.wt, .slice s.wa p.wp.length s.wc, .int .i64 p.wq, .bool p.wr, .bool p.hasUser, .bool p.hasPass, .string p.user, .slice s.sa p.pass.length s.sc, .bool p.present, .int .i64 p.code, .slice s.ua p.subs.length s.uc, .slice s.ca p.codes.length s.cc]
/-- what the slices hold -/
structure Pk.Ok (E : List TypeId) (B : Nat) (w : World) (p : Pk) (s : Ad) : Prop where
  pay : Bs E B w s.pa p.pay.length p.pay
  wp : Bs E B w s.wa p.wp.length p.wp
  pass : Bs E B w s.sa p.pass.length p.pass
  subs : Cs E B w s.ua p.subs.length 2 (subCells p.subs)
  codes : Cs E B w s.ca p.codes.length 1 (codeCells p.codes)
def Pk.Small (p : Pk) : Prop := p.pay.length ≤ 1000000 ∧ p.wp.length ≤ 1000000 ∧ p.pass.length ≤ 1000000 ∧ p.subs.length ≤ 1000000 ∧ p.codes.length ≤ 1000000
/-- these 24 cells are a packet's -/
def IsPk (E : List TypeId) (B : Nat) (w : World) (cs : Array Value) (p : Pk) : Prop := ∃ s, cs = p.cells s ∧ p.Ok E B w s
section
variable {E : List TypeId} {B : Nat} {w w' : World} {p : Pk} {s : Ad} {cs : Array Value}
theorem Pk.Ok.same (h : p.Ok E B w s) (hs : Same E B w w') : p.Ok E B w' s := ⟨h.pay.same hs, h.wp.same hs, h.pass.same hs, h.subs.same hs, h.codes.same hs⟩
theorem IsPk.same (h : IsPk E B w cs p) (hs : Same E B w w') : IsPk E B w' cs p := by
  obtain ⟨s, e, h⟩ := h
  exact ⟨s, e, h.same hs⟩
theorem IsPk.old (h : IsPk E B w cs p) (hs : Below w.heap.size w w') : IsPk E B w' cs p := h.same (.of_below hs)
theorem Pk.cells_one (p : Pk) (s : Ad) : (p.cells s).all (·.oneCell') = true := by simp [Pk.cells, Value.oneCell']
theorem IsPk.size (h : IsPk E B w cs p) : cs.size = 24 := by obtain ⟨s, rfl, _⟩ := h; rfl
theorem IsPk.one (h : IsPk E B w cs p) : cs.all (·.oneCell') = true := by obtain ⟨s, rfl, _⟩ := h; exact p.cells_one s
abbrev zeroPk : Array Value :=
  #[.int .i64 0, .bool false, .bool false, .int .i64 0, .int .i64 0, .string ⟨#[]⟩, .slice none 0 0, .int .i64 0, .string ⟨#[]⟩, .bool false, .int .i64 0, .bool false,
    .string ⟨#[]⟩, .slice none 0 0, .int .i64 0, .bool false, .bool false, .bool false, .string ⟨#[]⟩, .slice none 0 0, .bool false, .int .i64 0, .slice none 0 0, .slice none 0 0]
theorem isZero (E : List TypeId) (B : Nat) (w : World) : IsPk E B w zeroPk {} := ⟨⟨none, 0, none, 0, none, 0, none, 0, none, 0⟩, rfl, Bs.nil _ _ _ _, Bs.nil _ _ _ _, Bs.nil _ _ _ _, Cs.nil _ _ _ _ _, Cs.nil _ _ _ _ _⟩
end

/-! ### a struct of many cells, loaded and stored whole -/
section
variable {P : Program} {w w' : World} {g : Nat} {t : TypeId} {cs cs' : Array Value} {L : List Nat}
theorem Blk.loadCells (h : Blk w g t cs) {n : Nat} (hn : cs.size = n) : (loadCellsFrom ⟨g, 0, none⟩ 0 n #[]).run P w = .ok cs w := by
  subst hn
  have := run_loadCells_list (P := P) w ⟨g, 0, none⟩ cs.toList (fun j v hv => by
    rw [add_none, Nat.zero_add, cell_of_row w g j cs t (0, 0) h]
    simpa using hv)
  simpa [Go.loadCells] using this
theorem Blk.storeCells (h : Blk w g t cs) (hn : cs.size = cs'.size) (h1 : cs'.all (·.oneCell') = true) : (storeCells ⟨g, 0, none⟩ cs'.toList 0).run P w = .ok () (w.setRow g cs') := by
  have := run_storeCells_from (P := P) g t cs'.toList 0 cs w h (by simp; omega) (fun v hv => (Array.all_eq_true_iff_forall_mem.1 h1) v (by simpa using hv))
  simpa using this
theorem Blk.setRow (h : Blk w g t cs) (cs' : Array Value) : Blk (w.setRow g cs') g t cs' := by
  unfold Blk at h ⊢
  exact setRow_heap w g cs cs' t (0, 0) h
theorem Kept.setRow (h : Kept L w w') (hg : g < w.heap.size → g ∈ L) (cs : Array Value) : Kept L w (w'.setRow g cs) :=
  h.trans (L' := [g]) ⟨rfl, rfl, rfl, by simp [World.setRow], fun k _ hn => by
    have hne : ¬ g = k := fun e => hn (by simp [e])
    simp [World.setRow, Array.getElem?_modify, hne]⟩ (by simpa using hg)
end
section
variable (p : Pk) (s : Ad) (A : Option Addr) (c : Nat)
theorem Pk.set6 : (p.cells s).setIfInBounds 6 (.slice A p.pay.length c) = p.cells { s with pa := A, pc := c } := by simp [Pk.cells]
theorem Pk.set13 : (p.cells s).setIfInBounds 13 (.slice A p.wp.length c) = p.cells { s with wa := A, wc := c } := by simp [Pk.cells]
theorem Pk.set19 : (p.cells s).setIfInBounds 19 (.slice A p.pass.length c) = p.cells { s with sa := A, sc := c } := by simp [Pk.cells]
theorem Pk.set22 : (p.cells s).setIfInBounds 22 (.slice A p.subs.length c) = p.cells { s with ua := A, uc := c } := by simp [Pk.cells]
theorem Pk.set23 : (p.cells s).setIfInBounds 23 (.slice A p.codes.length c) = p.cells { s with ca := A, cc := c } := by simp [Pk.cells]
end
end Go.Hub
