/- The step library: a text ranged over. -/
import Derived.Test.YtpdacegpjofdeaaDoorBa
import Derived.Lib.OthersKept
import Derived.Laws.RangeAny
set_option linter.all false
namespace Go.Hub
open Go.RowKit Go.Lib

/-- block g is an iterator on text s, at byte pos -/
def Iter (w : World) (g : Nat) (s : ByteArray) (pos : Nat) : Prop := w.heap[g]? = some (.stringIter s pos)
def nextV (s : ByteArray) (pos : Nat) : Array Value := if pos < s.size then #[.bool true, .int .i64 pos, .int .i32 (Utf8.decode s pos).1] else #[.bool false]
def nextP (s : ByteArray) (pos : Nat) : Nat := if pos < s.size then pos + (Utf8.decode s pos).2 else pos
section
variable {w w' : World} {g : Nat} {s : ByteArray} {pos : Nat} {L : List Nat}
theorem Iter.lt (h : Iter w g s pos) : g < w.heap.size := (Array.getElem?_eq_some_iff.1 h).1
theorem Iter.kept (h : Iter w g s pos) (hk : Kept L w w') (hg : g ∉ L) : Iter w' g s pos := (hk.block g h.lt hg).trans h
theorem Iter.mod {T : List TypeId} {M : List Nat} {B : Nat} (h : Iter w g s pos) (hm : Mod T M B w w') : Iter w' g s pos :=
  (hm.block g h.lt (.inr ⟨fun ⟨cs, e, f, hc, _⟩ => (by unfold Iter at h; rw [h] at hc; cases hc), fun hx => by obtain ⟨es, c, hc⟩ := hx.1; unfold Iter at h; rw [h] at hc; cases hc⟩)).trans h
theorem nextV_ok : (nextV s pos)[0]? = some (.bool (decide (pos < s.size))) := by
  unfold nextV
  split
  · rename_i h; simp [h]
  · rename_i h; simp [h]
theorem nextV_pos (h : pos < s.size) : (nextV s pos)[1]? = some (.int .i64 pos) := by unfold nextV; rw [if_pos h]; rfl
theorem nextV_rune (h : pos < s.size) : (nextV s pos)[2]? = some (.int .i32 (Utf8.decode s pos).1) := by unfold nextV; rw [if_pos h]; rfl
theorem nextP_at (h : pos < s.size) : nextP s pos = pos + (Utf8.decode s pos).2 := by unfold nextP; rw [if_pos h]
end
section
variable {P : Program} {ops : Array Oper} {rest : List Oper} {a : Act} {w : World} {Q : Exit → Act → World → Prop} {n d : Nat} {l : FL} {ty : TypeId} {ps : String} {af : Array Edge} {gd : Option (Nat × Bool)} {x : Operand} {t : TypeId}
theorem L.range (f : Fr n a l) (hw : Region.wanted ⟨some d, .range t x, ty, ps, af, gd⟩ (yielded ops a.tmps) = true) (hn : d < n) {s : ByteArray} (ht : P.underlying t = some .string) (hx : evl l x = some (.string s))
    (hK : ∀ a' w' g, Iter w' g s 0 → Kept [] w w' → w.heap.size ≤ g → Fr n a' ((d, .pointer (some ⟨g, 0, none⟩)) :: l) → wpList P ops Q rest a' w') : wpList P ops Q (⟨some d, .range t x, ty, ps, af, gd⟩ :: rest) a w :=
  L.val (v := .pointer (some ⟨w.heap.size, 0, none⟩)) (w' := w.iter s 0) f hw rfl hn (by simp [execOp, f.ev hx, run_range_string w t s ht]) fun a' f' => hK a' _ _ (World.iter_heap w s 0) ((Kept.refl [] w).alloc _) (Nat.le_refl _) f'
theorem L.next (f : Fr n a l) (hw : Region.wanted ⟨some d, .next x true, ty, ps, af, gd⟩ (yielded ops a.tmps) = true) (hn : d < n) {g : Nat} {s : ByteArray} {pos : Nat} (hx : evl l x = some (.pointer (some ⟨g, 0, none⟩))) (h : Iter w g s pos)
    (hK : ∀ a' w', Iter w' g s (nextP s pos) → Kept [g] w w' → Fr n a' ((d, .tuple (nextV s pos)) :: l) → wpList P ops Q rest a' w') : wpList P ops Q (⟨some d, .next x true, ty, ps, af, gd⟩ :: rest) a w := by
  by_cases hp : pos < s.size
  · have hr := run_next_any_at (P := P) w g s pos ty h hp
    refine L.val (v := .tuple (nextV s pos)) (w' := w.iterAt g s (pos + (Utf8.decode s pos).2)) f hw rfl hn (by simp [execOp, f.ev hx, hr, nextV, hp]) fun a' f' => hK a' _ (by rw [nextP_at hp]; exact iterAt_heap w g s pos _ h) ⟨rfl, rfl, rfl, by rw [iterAt_size]; exact Nat.le_refl _, fun j _ hj => iterAt_other w g j s _ (by simpa using hj)⟩ f'
  · have hr := run_next_end_at (P := P) w g s pos ty h hp
    refine L.val (v := .tuple (nextV s pos)) (w' := w) f hw rfl hn (by simp [execOp, f.ev hx, hr, nextV, hp]) fun a' f' => hK a' _ (by unfold nextP; rw [if_neg hp]; exact h) (Kept.refl _ _) f'
end
end Go.Hub
