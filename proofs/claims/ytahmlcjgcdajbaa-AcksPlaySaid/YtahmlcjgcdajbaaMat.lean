/- The matrices of layer 15 in memory: the program's ('MatI') and the document's ('MatR'); the plain words on them. -/
import Derived.Test.YtahmlcjgcdajbaaSeg
import Derived.Test.YtahmlcjgcdajbaaDot2
set_option linter.all false
namespace Go.Hub
open Go.RowKit

structure Ent where
  epoch : Int
  at_ : Int
  seen : List Dt
  A : Option Addr
  c : Nat
abbrev ecell (e : Ent) : List Value := [.int .i64 e.epoch, .int .i64 e.at_, .slice e.A e.seen.length e.c]
def Ent.abs (e : Ent) : Int × Int × List Dt := (e.epoch, e.at_, e.seen)
structure EntOk (w : World) (fp excl : List Nat) (e : Ent) : Prop where
  ds : Ds w e.A e.seen
  fp : ∀ a, e.A = some a → a.block ∈ fp ∧ a.block ∉ excl
  len : e.seen.length ≤ 1000000
theorem EntOk.kept {w w' : World} {fp excl L : List Nat} {e : Ent} (h : EntOk w fp excl e) (hk : Kept L w w') (hd : ∀ x ∈ L, x ∉ fp) : EntOk w' fp excl e :=
  ⟨h.ds.keptF hk fun a ha hx => hd _ hx (h.fp a ha).1, h.fp, h.len⟩
theorem EntOk.kept2 {w w' : World} {fp excl : List Nat} {e : Ent} (h : EntOk w fp excl e) (hk : Kept excl w w') : EntOk w' fp excl e :=
  ⟨h.ds.keptF hk fun a ha hx => (h.fp a ha).2 hx, h.fp, h.len⟩
theorem EntOk.more {w : World} {fp fp' excl : List Nat} {e : Ent} (h : EntOk w fp excl e) (hs : ∀ x ∈ fp, x ∈ fp') : EntOk w fp' excl e :=
  ⟨h.ds, fun a ha => ⟨hs _ (h.fp a ha).1, (h.fp a ha).2⟩, h.len⟩
/-- the program's matrix at block m, rows at block r -/
structure MatA (T : Nat × Nat) (w : World) (m r : Nat) (fp : List Nat) (ents : List Ent) (me : Int) : Prop where
  top : Blk w m T.1 #[.slice (some ⟨r, 0, none⟩) ents.length ents.length, .int .i64 me]
  rows : Blk w r T.2 (ents.flatMap ecell).toArray
  one : 1 ≤ ents.length
  most : ents.length ≤ 16
  s0 : 0 ≤ me
  s1 : me < ents.length
  mfp : m ∈ fp
  rfp : r ∈ fp
  mr : m ≠ r
  ok : ∀ e ∈ ents, EntOk w fp [r] e
  lt : ∀ x ∈ fp, x < w.heap.size
abbrev Rows15 := List (Int × Int × List Dt)
def MatI (T : Nat × Nat) (w : World) (m : Nat) (fp : List Nat) (rows : Rows15) (me : Int) : Prop := ∃ r ents, ents.map Ent.abs = rows ∧ MatA T w m r fp ents me
section
variable {T : Nat × Nat} {w w' : World} {m r : Nat} {fp L : List Nat} {ents : List Ent} {rows : Rows15} {me : Int}
theorem MatA.kept (h : MatA T w m r fp ents me) (hk : Kept L w w') (hd : ∀ x ∈ L, x ∉ fp) : MatA T w' m r fp ents me :=
  ⟨h.top.kept hk fun hx => hd _ hx h.mfp, h.rows.kept hk fun hx => hd _ hx h.rfp, h.one, h.most, h.s0, h.s1, h.mfp, h.rfp, h.mr, fun e he => (h.ok e he).kept hk hd, fun x hx => Nat.lt_of_lt_of_le (h.lt x hx) hk.size⟩
theorem MatI.kept (h : MatI T w m fp rows me) (hk : Kept L w w') (hd : ∀ x ∈ L, x ∉ fp) : MatI T w' m fp rows me := by
  obtain ⟨r, ents, e, h⟩ := h
  exact ⟨r, ents, e, h.kept hk hd⟩
theorem ent_len (ents : List Ent) : (ents.flatMap ecell).length = ents.length * 3 := flat_len ecell 3 (fun _ => rfl) ents
theorem MatA.cell (h : MatA T w m r fp ents me) {i : Nat} {e : Ent} (he : ents[i]? = some e) (j : Nat) (v : Value) (hv : (ecell e)[j]? = some v) : w.cell? ⟨r, 0 + i * 3 + j, none⟩ = some v := by
  rw [Nat.zero_add]
  exact h.rows.cell_ (by simpa using flat_at ecell 3 (fun _ => rfl) ents i e he j v hv)
theorem MatA.row (h : MatA T w m r fp ents me) {i : Nat} {e : Ent} (he : ents[i]? = some e) : w.rangeAt r (0 + i * 3) (ecell e) := fun j v hv => h.cell he j v hv
end
/-! ### the plain words -/
def newRows (n : Int) : Rows15 := List.replicate (Min.min (Max.max n 1) 16).toNat (0, 0, [])
def newSelf (n me : Int) : Int := Min.min (Max.max me 0) (Min.min (Max.max n 1) 16 - 1)
def later (r : Int × Int × List Dt) (epoch at_ : Int) : Bool := decide (epoch < r.1) || (decide (epoch = r.1) && decide (at_ < r.2.1))
def hearB (rows : Rows15) (me fr epoch at_ : Int) (l : List Dt) : Bool :=
  decide (0 ≤ fr) && decide (fr < rows.length) && !decide (fr = me) && decide (1 ≤ epoch) && decide (0 ≤ at_) && rightB l && (match rows[fr.toNat]? with | some r => !later r epoch at_ | none => false)
def hearR (rows : Rows15) (me fr epoch at_ : Int) (l : List Dt) : Rows15 := if hearB rows me fr epoch at_ l then rows.set fr.toNat (epoch, at_, l) else rows
def rowOf (rows : Rows15) (i : Int) : Int × Int × List Dt := if 0 ≤ i ∧ i < rows.length then (rows[i.toNat]?).getD (0, 0, []) else (0, 0, [])
def bad (own : List Dt) (at_ : Int) (r : Int × Int × List Dt) : Bool := decide (r.1 = 0) || !decide (r.2.1 = at_) || !withinB r.2.2 own
/-- the others' rows from the k-th on, if they all are as they must be -/
def cutFrom (me : Int) (own : List Dt) (at_ : Int) : Int → Rows15 → Option (List (List Dt))
  | _, [] => some []
  | k, r :: rest => if k = me then cutFrom me own at_ (k + 1) rest else if bad own at_ r then none else (cutFrom me own at_ (k + 1) rest).map (r.2.2 :: ·)
def cutL (rows : Rows15) (me : Int) (own : List Dt) (at_ : Int) : Option (List (List Dt)) := cutFrom me own at_ 0 rows
end Go.Hub
namespace Go.Hub
open Go.RowKit
/-! ### the document's matrix -/
def rcells (n me : Int) (ents : List Ent) : List Value := [.int .i64 n, .int .i64 me] ++ ents.map (fun e => .int .i64 e.epoch) ++ ents.map (fun e => .int .i64 e.at_) ++ ents.map fun e => .slice e.A e.seen.length e.c
structure MatB (T : Nat) (w : World) (m : Nat) (fp : List Nat) (n : Nat) (ents : List Ent) (me : Int) : Prop where
  top : Blk w m T (rcells n me ents).toArray
  len : ents.length = 16
  one : 1 ≤ n
  most : n ≤ 16
  s0 : 0 ≤ me
  s1 : me < n
  mfp : m ∈ fp
  ok : ∀ e ∈ ents, EntOk w fp [m] e
  lt : ∀ x ∈ fp, x < w.heap.size
def MatR (T : Nat) (w : World) (m : Nat) (fp : List Nat) (rows : Rows15) (me : Int) : Prop := ∃ ents, (ents.take rows.length).map Ent.abs = rows ∧ MatB T w m fp rows.length ents me
section
variable {T : Nat} {w w' : World} {m n : Nat} {fp L : List Nat} {ents : List Ent} {rows : Rows15} {me : Int}
theorem MatB.kept (h : MatB T w m fp n ents me) (hk : Kept L w w') (hd : ∀ x ∈ L, x ∉ fp) : MatB T w' m fp n ents me :=
  ⟨h.top.kept hk fun hx => hd _ hx h.mfp, h.len, h.one, h.most, h.s0, h.s1, h.mfp, fun e he => (h.ok e he).kept hk hd, fun x hx => Nat.lt_of_lt_of_le (h.lt x hx) hk.size⟩
theorem MatR.kept (h : MatR T w m fp rows me) (hk : Kept L w w') (hd : ∀ x ∈ L, x ∉ fp) : MatR T w' m fp rows me := by
  obtain ⟨ents, e, h⟩ := h
  exact ⟨ents, e, h.kept hk hd⟩
theorem rcells_len (n me : Int) (ents : List Ent) : (rcells n me ents).length = 2 + 3 * ents.length := by simp [rcells]; omega
theorem rcells_at (n me : Int) {ents : List Ent} (hl : ents.length = 16) {i : Nat} {e : Ent} (he : ents[i]? = some e) :
    (rcells n me ents)[2 + i]? = some (.int .i64 e.epoch) ∧ (rcells n me ents)[18 + i]? = some (.int .i64 e.at_) ∧ (rcells n me ents)[34 + i]? = some (.slice e.A e.seen.length e.c) := by
  have hi : i < 16 := by rw [← hl]; exact (List.getElem?_eq_some_iff.1 he).1
  unfold rcells
  refine ⟨?_, ?_, ?_⟩
  · rw [List.append_assoc, List.append_assoc, List.getElem?_append_right (by simp), List.getElem?_append_left (by simp; omega)]
    simp [he]
  · rw [List.append_assoc, List.getElem?_append_right (by simp; omega), List.getElem?_append_left (by simp; omega)]
    simp only [List.length_append, List.length_map, hl, List.length_cons, List.length_nil]
    rw [show 18 + i - (0 + 1 + 1 + 16) = i by omega]
    simp [he]
  · rw [List.getElem?_append_right (by simp; omega)]
    simp only [List.length_append, List.length_map, hl, List.length_cons, List.length_nil]
    rw [show 34 + i - (0 + 1 + 1 + 16 + 16) = i by omega]
    simp [he]
theorem rcells_set (n me : Int) {ents : List Ent} (hl : ents.length = 16) {i : Nat} (hi : i < 16) (e : Ent) :
    (((rcells n me ents).set (2 + i) (.int .i64 e.epoch)).set (18 + i) (.int .i64 e.at_)).set (34 + i) (.slice e.A e.seen.length e.c) = rcells n me (ents.set i e) := by
  apply List.ext_getElem?
  intro j
  have hl2 : (ents.set i e).length = 16 := by simp [hl]
  have key : ∀ (xs : List Ent), xs.length = 16 → (rcells n me xs)[j]? = if j < 2 then [Value.int .i64 n, .int .i64 me][j]? else if j < 18 then (xs[j - 2]?).map (fun e => .int .i64 e.epoch) else if j < 34 then (xs[j - 18]?).map (fun e => .int .i64 e.at_) else (xs[j - 34]?).map fun e => .slice e.A e.seen.length e.c := by
    intro xs hx
    unfold rcells
    split
    · rw [List.append_assoc, List.append_assoc, List.getElem?_append_left (by simp; omega)]
    · split
      · rw [List.append_assoc, List.append_assoc, List.getElem?_append_right (by simp; omega), List.getElem?_append_left (by simp; omega)]
        simp
      · split
        · rw [List.append_assoc, List.getElem?_append_right (by simp; omega), List.getElem?_append_left (by simp; omega)]
          simp [hx]
        · rw [List.getElem?_append_right (by simp; omega)]
          simp [hx]
  have hlen : (rcells n me ents).length = 50 := by rw [rcells_len, hl]
  rw [key _ hl2]
  simp only [List.getElem?_set, List.length_set, hlen, key _ hl, hl]
  repeat' split
  all_goals first
    | omega
    | rfl
    | (subst_vars; simp_all; done)
    | (rw [if_pos (by omega)]; simp; done)
    | (rw [if_neg (by omega)]; done)
theorem MatB.ce (h : MatB T w m fp n ents me) {i : Nat} {e : Ent} (he : ents[i]? = some e) : w.cell? ⟨m, 0 + 2 + i * 1, none⟩ = some (.int .i64 e.epoch) := by
  rw [show 0 + 2 + i * 1 = 2 + i by omega]
  exact h.top.cell_ (by simpa using (rcells_at n me h.len he).1)
theorem MatB.ca (h : MatB T w m fp n ents me) {i : Nat} {e : Ent} (he : ents[i]? = some e) : w.cell? ⟨m, 0 + 18 + i * 1, none⟩ = some (.int .i64 e.at_) := by
  rw [show 0 + 18 + i * 1 = 18 + i by omega]
  exact h.top.cell_ (by simpa using (rcells_at n me h.len he).2.1)
theorem MatB.cs (h : MatB T w m fp n ents me) {i : Nat} {e : Ent} (he : ents[i]? = some e) : w.cell? ⟨m, 0 + 34 + i * 1, none⟩ = some (.slice e.A e.seen.length e.c) := by
  rw [show 0 + 34 + i * 1 = 34 + i by omega]
  exact h.top.cell_ (by simpa using (rcells_at n me h.len he).2.2)
end
end Go.Hub
