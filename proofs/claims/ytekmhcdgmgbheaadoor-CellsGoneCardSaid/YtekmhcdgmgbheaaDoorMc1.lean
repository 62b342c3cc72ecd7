/- Merged by program (shrink.py): contracts and plain laws that the claim's statement uses, part 1. -/
import Derived.ArgAppend
import Derived.BigQuiet
import Derived.Deep.AppendLies
import Derived.Deep.Draws
import Derived.Deep.Fields
import Derived.Deep.LoopGhost
import Derived.Deep.MidRow
import Derived.Deep.QuietTactic
import Derived.Deep.RegionHeld
import Derived.Deep.RegionHeld3
import Derived.Deep.RegionLaw
import Derived.Deep.Slices
import Derived.Deep.Upon
import Derived.Great.BuildSlice
import Derived.IntWalk
import Derived.Laws.BytesArg
import Derived.Laws.Cover4
import Derived.Laws.IdiomCopy
import Derived.Laws.IdiomStrings
import Derived.Laws.RangeAny
import Derived.Laws.ResultCell
import Derived.Lib.AppendStr
import Derived.Lib.AppendZerosOnto
import Derived.Lib.LaidU8T
import Derived.Lib.MapLaws
import Derived.Lib.OthersKept
import Derived.Lib.Overlaps
import Derived.Maps.AppendAt
import Derived.Maps.OwnSet
import Derived.OpenShut
import Derived.OwnWalk
import Derived.ProofKit
import Derived.Shelf.Spec.DecodeRune
import Derived.Shelf.Spec.NilArms
import Derived.Shelf.Strings.Split
import Derived.Shelf.Vars
import Derived.StillTailTactics
import Derived.Test.YtekmhcdgmgbheaaDoorProg
import Derived.Test.YtekmhcdgmgbheaaDoorRows
import Derived.WalkKit
import Derived.WalkLawsBesides
import Derived.WalkSpells
set_option linter.all false

namespace Go.Hub
open Go.RowKit Go.Maps Go.ChangeMaps Go.MapKept
theorem hid {p : Prop} (h : p) : Hid p := h
structure Kept (L : List Nat) (w w' : World) : Prop where
  os : w'.os = w.os
  tape : w'.tape = w.tape
  output : w'.output = w.output
  size : w.heap.size ≤ w'.heap.size
  block : ∀ k, k < w.heap.size → k ∉ L → w'.heap[k]? = w.heap[k]?
section
variable {L L' : List Nat} {w w' w'' : World}
theorem Kept.refl (L : List Nat) (w : World) : Kept L w w := ⟨rfl, rfl, rfl, Nat.le_refl _, fun _ _ _ => rfl⟩
theorem Kept.trans (h : Kept L w w') (k : Kept L' w' w'') (hs : ∀ x ∈ L', x < w.heap.size → x ∈ L) : Kept L w w'' :=
  ⟨k.os.trans h.os, k.tape.trans h.tape, k.output.trans h.output, Nat.le_trans h.size k.size,
   fun i hi hn => (k.block i (Nat.lt_of_lt_of_le hi h.size) (fun hx => hn (hs i hx hi))).trans (h.block i hi hn)⟩
theorem Kept.mono (h : Kept L w w') (hs : ∀ x ∈ L, x < w.heap.size → x ∈ L') : Kept L' w w' :=
  ⟨h.os, h.tape, h.output, h.size, fun i hi hn => h.block i hi (fun hx => hn (hs i hx hi))⟩
theorem Kept.drew (h : Kept L w w') : Kept L w w'.drew := ⟨h.os, h.tape, h.output, h.size, h.block⟩
theorem Kept.drewN (h : Kept L w w') (n : Nat) : Kept L w (w'.drewN n) := ⟨h.os, h.tape, h.output, h.size, h.block⟩
theorem Kept.alloc (h : Kept L w w') (o : Obj) : Kept L w (w'.alloc o) :=
  h.trans (L' := []) ⟨rfl, rfl, rfl, by simp, fun k hk _ => Below.heap_alloc _ _ _ hk⟩ (by simp)
theorem Kept.setCell (h : Kept L w w') {p : Addr} (hp : p.block < w.heap.size → p.block ∈ L) (u : Value) : Kept L w (w'.setCell p u) :=
  h.trans (L' := [p.block]) ⟨rfl, rfl, rfl, by simp [World.setCell], fun k _ hn => Below.heap_setCell _ _ _ _ (by simpa using hn)⟩ (by simpa using hp)
theorem Kept.below (h : Kept L w w') {B : Nat} (hB : ∀ x ∈ L, B ≤ x) (hs : B ≤ w.heap.size) : Below B w w' :=
  ⟨h.os, h.tape, h.output, h.size, fun k hk => h.block k (by omega) (fun hx => by have := hB k hx; omega)⟩
theorem Kept.of_below (h : Below w.heap.size w w') (L : List Nat) : Kept L w w' := ⟨h.os, h.tape, h.output, h.size, fun k hk _ => h.block k hk⟩
theorem Kept.cell (h : Kept L w w') {p : Addr} (hp : p.block < w.heap.size) (hn : p.block ∉ L) : w'.cell? p = w.cell? p := World.cell?_of_block (w := w) (h.block p.block hp hn)
end
def Blk (w : World) (g : Nat) (t : TypeId) (cs : Array Value) : Prop := w.heap[g]? = some (.cells cs t (0, 0))
section
variable {w w' : World} {g : Nat} {t : TypeId} {cs : Array Value}
theorem Blk.lt (h : Blk w g t cs) : g < w.heap.size := by
  rcases Nat.lt_or_ge g w.heap.size with hlt | hge
  · exact hlt
  · unfold Blk at h; rw [Array.getElem?_eq_none hge] at h; cases h
theorem Blk.cell (h : Blk w g t cs) (i : Nat) : w.cell? ⟨g, i, none⟩ = cs[i]? := cell_of_row w g i cs t (0, 0) h
theorem Blk.cell_ (h : Blk w g t cs) {i : Nat} {v : Value} (hv : cs[i]? = some v) : w.cell? ⟨g, i, none⟩ = some v := (h.cell i).trans hv
theorem Blk.frozen (h : Blk w g t cs) (i : Nat) : w.frozen? ⟨g, i, none⟩ = false := by
  unfold Blk at h
  simp [World.frozen?, h]
theorem Blk.new (w : World) (t : TypeId) (cs : Array Value) : Blk (w.alloc (.cells cs t)) w.heap.size t cs := heap_alloc_new w _
theorem Blk.set_ (h : Blk w g t cs) (i : Nat) (u : Value) : Blk (w.setCell ⟨g, i, none⟩ u) g t (cs.setIfInBounds i u) := by
  unfold Blk at h ⊢
  simp [World.setCell, Array.getElem?_modify, h]
theorem Blk.kept {L : List Nat} (h : Blk w g t cs) (hk : Kept L w w') (hg : g ∉ L) : Blk w' g t cs := (hk.block g h.lt hg).trans h
end
theorem add_none (b off i : Nat) : (Addr.mk b off none).add i = ⟨b, off + i, none⟩ := by
  unfold Addr.add
  split
  · rename_i h; simp_all
  · rfl
theorem bd_u8 {n : Int} (h : (Lit.int .u8 n).wf = true) : 0 ≤ n ∧ n ≤ 255 := by simpa [Lit.wf, IntKind.min, IntKind.max, IntKind.signed, IntKind.bits] using h
end Go.Hub
namespace Go.Hub
open Go.RowKit
def Rds (w : World) (B size : Nat) (A : Option Addr) (n : Nat) (xs : List Value) : Prop :=
  xs.length = n * size ∧ (0 < n → ∃ b off, A = some ⟨b, off, none⟩ ∧ b < B ∧ ∀ j u, xs[j]? = some u → w.cell? ⟨b, off + j, none⟩ = some u)
section
variable {w w' : World} {B B' size n : Nat} {A : Option Addr} {xs : List Value}
theorem grown_kept {row : Option Nat} (h : w.grownBy w' row) : Kept row.toList w w' :=
  ⟨h.os, h.tape, h.output, h.size, fun k hk hn => h.block k hk (fun e => hn (by rw [← e]; simp))⟩
end
section
variable {P : Program} (w : World)
theorem run_append_none (base : Nat) (t ty e : TypeId) (i : TypeInfo) (size : Nat) (ht : P.underlying t = some (.slice e)) (hi : P.info? e = some i)
    (v : Value) (n : Nat) (xs : List Value) (hown : w.ownsRow base e size v n xs) (c : Nat) : (Builtin.append_ #[t, t] ty #[v, .slice none 0 c]).run P w = .ok v w := by
  rcases hown.2 with ⟨rfl, rfl⟩ | ⟨g, cap, cur, rfl, _, _, hnc, _⟩
  · simp [Builtin.append_, run_underlying ht, sizeOf, typeInfo, hi, Builtin.lenOf, Builtin.firstCells]
  · simp [Builtin.append_, run_underlying ht, sizeOf, typeInfo, hi, Builtin.lenOf, Builtin.firstCells, hnc, storeCells]
theorem run_append_rds (base : Nat) (t ty e : TypeId) (i : TypeInfo) (z : Value) (size bytes : Nat) (ht : P.underlying t = some (.slice e)) (hi : P.info? e = some i) (hz : i.zero = some z)
    (hsize : i.size = size) (hby : i.bytes = bytes) (hzs : z.cells.size = size) (hsz : 0 < size)
    (v : Value) (n : Nat) (xs : List Value) (hown : w.ownsRow base e size v n xs)
    (B : Nat) (A : Option Addr) (m c : Nat) (news : List Value) (hr : Rds w B size A m news) (hA : m = 0 → A = none ∨ ∃ a, A = some a) (h1 : ∀ u ∈ news, u.oneCell' = true)
    (h63 : n + m ≤ maxLen) (hbytes : (n + m) * bytes ≤ 140737488355328) (hbase : base ≤ w.heap.size) :
    ∃ v' w', (Builtin.append_ #[t, t] ty #[v, .slice A m c]).run P w = .ok v' w' ∧ w'.ownsRow base e size v' (n + m) (xs ++ news) ∧ w.grownBy w' v.ownBlock ∧
      (v'.ownBlock = v.ownBlock ∨ v'.ownBlock = some w.heap.size) := by
  rcases A with _ | ad
  · have hm : m = 0 := by
      rcases Nat.eq_zero_or_pos m with h0 | h0
      · exact h0
      · obtain ⟨b, off, h, _⟩ := hr.2 h0
        cases h
    subst hm
    have hn : news = [] := List.eq_nil_of_length_eq_zero (by simpa using hr.1)
    subst hn
    exact ⟨v, w, run_append_none w base t ty e i size ht hi v n xs hown c, by simpa using hown, World.grownBy.refl w _, .inl rfl⟩
  · have hcells : ∀ j u, news[j]? = some u → w.cell? (ad.add j) = some u := by
      intro j u hu
      rcases Nat.eq_zero_or_pos m with h0 | h0
      · subst h0
        have hn : news = [] := List.eq_nil_of_length_eq_zero (by simpa using hr.1)
        subst hn
        simp at hu
      · obtain ⟨b, off, h, _, hc⟩ := hr.2 h0
        injection h with h
        subst h
        rw [add_none]
        exact hc j u hu
    obtain ⟨v', w', hrun, h2, h3, _, h5⟩ := run_append_own_at (P := P) w base t ty e i z size bytes ht hi hz hsize hby hzs hsz v n xs hown ad m c news hr.1 hcells h1 h63 hbytes hbase
    exact ⟨v', w', hrun, h2, h3, h5⟩
end
end Go.Hub
namespace Go.Hub
open Go.RowKit
theorem setCells_block (g : Nat) : ∀ (vs : List Value) (o : Nat) (w : World) (cur : Array Value) (e : TypeId) (f : Nat × Nat), w.heap[g]? = some (.cells cur e f) →
    ∃ cur' : Array Value, (w.setCells g o vs).heap[g]? = some (.cells cur' e f) ∧ cur'.size = cur.size ∧ (∀ j, j < o → cur'[j]? = cur[j]?) ∧ (∀ j u, vs[j]? = some u → o + j < cur.size → cur'[o + j]? = some u)
  | [], o, w, cur, e, f, h => ⟨cur, h, rfl, fun _ _ => rfl, fun j u hu => by simp at hu⟩
  | v :: r, o, w, cur, e, f, h => by
    have h1 : (w.setCell ⟨g, o, none⟩ v).heap[g]? = some (.cells (cur.setIfInBounds o v) e f) := by
      simp [World.setCell, Array.getElem?_modify, h]
    obtain ⟨cur', a1, a2, a3, a4⟩ := setCells_block g r (o + 1) (w.setCell ⟨g, o, none⟩ v) _ e f h1
    refine ⟨cur', a1, by rw [a2]; simp, fun j hj => ?_, fun j u hu hlt => ?_⟩
    · rw [a3 j (by omega), Array.getElem?_setIfInBounds]
      rw [if_neg (by omega)]
    · match j, hu with
      | 0, hu =>
        simp at hu
        subst hu
        rw [Nat.add_zero] at hlt ⊢
        rw [a3 o (by omega), Array.getElem?_setIfInBounds, if_pos rfl, if_pos hlt]
      | j + 1, hu =>
        have := a4 j u (by simpa using hu) (by simp; omega)
        rw [show o + (j + 1) = o + 1 + j from by omega]
        exact this
theorem setCells_other (g : Nat) : ∀ (vs : List Value) (o : Nat) (w : World) (k : Nat), k ≠ g → (w.setCells g o vs).heap[k]? = w.heap[k]?
  | [], _, _, _, _ => rfl
  | v :: r, o, w, k, h => (setCells_other g r (o + 1) (w.setCell ⟨g, o, none⟩ v) k h).trans (Below.heap_setCell _ _ _ _ h)
theorem setCells_facts (g : Nat) : ∀ (vs : List Value) (o : Nat) (w : World), (w.setCells g o vs).os = w.os ∧ (w.setCells g o vs).tape = w.tape ∧ (w.setCells g o vs).output = w.output ∧ (w.setCells g o vs).heap.size = w.heap.size
  | [], _, _ => ⟨rfl, rfl, rfl, rfl⟩
  | v :: r, o, w => by
    obtain ⟨a, b, c, d⟩ := setCells_facts g r (o + 1) (w.setCell ⟨g, o, none⟩ v)
    exact ⟨a, b, c, by rw [World.setCells, d]; simp [World.setCell]⟩
def Own (w : World) (e : TypeId) (size : Nat) (v : Value) (n : Nat) (xs : List Value) : Prop :=
  xs.length = n * size ∧ ((v = .slice none 0 0 ∧ n = 0) ∨
    ∃ g off cap cur, v = .slice (some ⟨g, off, none⟩) n cap ∧ w.heap[g]? = some (.cells cur e (0, 0)) ∧ n ≤ cap ∧ cap ≤ maxLen ∧ off + cap * size ≤ cur.size ∧ ∀ j u, xs[j]? = some u → cur[off + j]? = some u)
section
variable {w w' : World} {e : TypeId} {size : Nat} {v : Value} {n : Nat} {xs : List Value}
theorem Own.nil (w : World) (e : TypeId) (size : Nat) : Own w e size (.slice none 0 0) 0 [] := ⟨by simp, .inl ⟨rfl, rfl⟩⟩
theorem Own.of_row {base : Nat} (h : w.ownsRow base e size v n xs) : Own w e size v n xs := by
  refine ⟨h.1, ?_⟩
  rcases h.2 with hn | ⟨g, cap, cur, hv, _, hg, hnc, hcm, hcs, ht⟩
  · exact .inl hn
  · refine .inr ⟨g, 0, cap, cur, hv, hg, hnc, hcm, by omega, fun j u hu => ?_⟩
    rw [← ht] at hu
    rw [Nat.zero_add]
    have hj : j < n * size := by
      rcases Nat.lt_or_ge j (n * size) with hj | hj
      · exact hj
      · rw [List.getElem?_take, if_neg (by omega)] at hu; cases hu
    rw [List.getElem?_take, if_pos hj] at hu
    simpa using hu
theorem Own.form (h : Own w e size v n xs) : ∃ A c, v = .slice A n c ∧ n ≤ c ∧ c ≤ maxLen := by
  rcases h.2 with ⟨rfl, rfl⟩ | ⟨g, off, cap, cur, rfl, _, hn, hc, _⟩
  · exact ⟨none, 0, rfl, Nat.le_refl _, by simp [maxLen]⟩
  · exact ⟨_, _, rfl, hn, hc⟩
theorem Own.blk (h : Own w e size v n xs) : ∀ k, v.ownBlock = some k → k < w.heap.size ∧ ∃ cs, w.heap[k]? = some (.cells cs e (0, 0)) := by
  intro k hk
  rcases h.2 with ⟨rfl, rfl⟩ | ⟨g, off, cap, cur, rfl, hg, _⟩
  · simp [Value.ownBlock] at hk
  · simp [Value.ownBlock] at hk
    subst hk
    exact ⟨(Array.getElem?_eq_some_iff.1 hg).1, cur, hg⟩
theorem Own.of_eq (h : Own w e size v n xs) (hb : ∀ k, v.ownBlock = some k → w'.heap[k]? = w.heap[k]?) : Own w' e size v n xs := by
  refine ⟨h.1, ?_⟩
  rcases h.2 with hn | ⟨g, off, cap, cur, rfl, hg, r⟩
  · exact .inl hn
  · exact .inr ⟨g, off, cap, cur, rfl, (hb g rfl).trans hg, r⟩
theorem Own.kept {L : List Nat} (h : Own w e size v n xs) (hk : Kept L w w') (hn : ∀ k, v.ownBlock = some k → k ∉ L) : Own w' e size v n xs :=
  h.of_eq fun k hb => hk.block k (h.blk k hb).1 (hn k hb)
theorem Own.cut {A : Option Addr} {c : Nat} (h : Own w e size (.slice A n c) n xs) {k : Nat} (hk : k ≤ n) :
    Own w e size (.slice (if c = k then A else A.map (·.add (k * size))) (n - k) (c - k)) (n - k) (xs.drop (k * size)) := by
  refine ⟨by rw [List.length_drop, h.1, Nat.sub_mul], ?_⟩
  rcases h.2 with ⟨hv, h0⟩ | ⟨g, off, cap, cur, hv, hg, hnc, hcm, hcs, hc⟩
  · injection hv with h1 h2 h3
    subst h1 h2 h3
    exact .inl ⟨by simp, by omega⟩
  · injection hv with h1 h2 h3
    subst h1 h3
    by_cases hck : c = k
    · rw [if_pos hck]
      refine .inr ⟨g, off, c - k, cur, rfl, hg, by omega, by omega, ?_, fun j u hu => ?_⟩
      · rw [Nat.sub_mul]; omega
      · have : xs.drop (k * size) = [] := by
          apply List.drop_eq_nil_of_le
          rw [h.1]
          exact Nat.mul_le_mul_right _ (by omega)
        rw [this] at hu
        simp at hu
    · rw [if_neg hck]
      refine .inr ⟨g, off + k * size, c - k, cur, by simp [add_none], hg, by omega, by omega, ?_, fun j u hu => ?_⟩
      · rw [Nat.sub_mul]
        have : k * size ≤ c * size := Nat.mul_le_mul_right _ (by omega)
        omega
      · rw [Nat.add_assoc]
        exact hc _ u (by rw [← hu, List.getElem?_drop])
theorem Own.head {A : Option Addr} {c : Nat} (h : Own w e size (.slice A n c) n xs) {k : Nat} (hk : k ≤ n) : Own w e size (.slice A k c) k (xs.take (k * size)) := by
  have hkn : k * size ≤ n * size := Nat.mul_le_mul_right _ hk
  refine ⟨by rw [List.length_take, h.1, Nat.min_eq_left hkn], ?_⟩
  rcases h.2 with ⟨hv, h0⟩ | ⟨g, off, cap, cur, hv, hg, hnc, hcm, hcs, hc⟩
  · injection hv with h1 h2 h3
    subst h1 h3
    obtain rfl : k = 0 := by omega
    exact .inl ⟨rfl, rfl⟩
  · injection hv with h1 h2 h3
    subst h1 h3
    refine .inr ⟨g, off, c, cur, rfl, hg, by omega, hcm, hcs, fun j u hu => hc j u ?_⟩
    by_cases hj : j < k * size
    · rwa [List.getElem?_take, if_pos hj] at hu
    · rw [List.getElem?_take, if_neg hj] at hu; cases hu
end
section
variable {P : Program} (w : World)
theorem append_own (t ty e : TypeId) (i : TypeInfo) (z : Value) (size bytes : Nat) (ht : P.underlying t = some (.slice e)) (hi : P.info? e = some i) (hz : i.zero = some z)
    (hsize : i.size = size) (hby : i.bytes = bytes) (hzs : z.cells.size = size) (hsz : 0 < size)
    (v : Value) (n : Nat) (xs : List Value) (hown : Own w e size v n xs)
    (B : Nat) (A : Option Addr) (m c : Nat) (news : List Value) (hr : Rds w B size A m news) (h1 : ∀ u ∈ news, u.oneCell' = true)
    (h63 : n + m ≤ maxLen) (hbytes : (n + m) * bytes ≤ 140737488355328) :
    ∃ v' w', (Builtin.append_ #[t, t] ty #[v, .slice A m c]).run P w = .ok v' w' ∧ Own w' e size v' (n + m) (xs ++ news) ∧ Kept v.ownBlock.toList w w' ∧
      (∀ k, v'.ownBlock = some k → v.ownBlock = some k ∨ w.heap.size ≤ k) := by
  rcases hown.2 with ⟨rfl, rfl⟩ | ⟨g, off, cap, cur, rfl, hg, hnc, hcm, hcs, hc⟩
  · have hx : xs = [] := List.eq_nil_of_length_eq_zero (by simpa using hown.1)
    subst hx
    obtain ⟨v', w', hrun, ho, hgr, hat⟩ := run_append_rds (P := P) w w.heap.size t ty e i z size bytes ht hi hz hsize hby hzs hsz (.slice none 0 0) 0 [] (World.ownsRow_nil _ _ _ _) B A m c news hr (fun _ => by cases A <;> simp) h1 h63 hbytes (Nat.le_refl _)
    exact ⟨v', w', hrun, Own.of_row ho, grown_kept hgr, fun k hk => .inr (ho.lt k hk).1⟩
  · rcases A with _ | ad
    · have hm : m = 0 := by
        rcases Nat.eq_zero_or_pos m with h0 | h0
        · exact h0
        · obtain ⟨b, off, h, _⟩ := hr.2 h0
          cases h
      subst hm
      have hn : news = [] := List.eq_nil_of_length_eq_zero (by simpa using hr.1)
      subst hn
      refine ⟨_, w, ?_, by simpa using hown, Kept.refl _ _, fun k hk => .inl hk⟩
      simp [Builtin.append_, run_underlying ht, sizeOf, typeInfo, hi, Builtin.lenOf, Builtin.firstCells, hnc, storeCells]
    · have hnews : ∀ j u, news[j]? = some u → w.cell? (ad.add j) = some u := by
        intro j u hu
        rcases Nat.eq_zero_or_pos m with h0 | h0
        · subst h0
          have hn : news = [] := List.eq_nil_of_length_eq_zero (by simpa using hr.1)
          subst hn
          simp at hu
        · obtain ⟨b, off, h, _, hcc⟩ := hr.2 h0
          injection h with h
          subst h
          rw [add_none]
          exact hcc j u hu
      have hlen : news.length = m * size := hr.1
      by_cases hroom : n + m ≤ cap
      · have hmul : n * size + m * size ≤ cap * size := by rw [← Nat.add_mul]; exact Nat.mul_le_mul_right _ hroom
        subst hsize
        have hcell : ∀ j, j < news.length → w.cell? ⟨g, off + n * i.size + j, none⟩ = cur[off + n * i.size + j]? := fun j hj => cell_of_row w g _ cur e (0, 0) hg
        have hrun := run_append_room_cells (P := P) w t ty e i ht hi g off n cap ad m c news hlen hnews h1 hroom
          (fun j hj => by rw [hcell j hj, Array.getElem?_eq_getElem (by omega)]; rfl) (fun j hj => by simp [World.frozen?, hg])
        obtain ⟨cur', a1, a2, a3, a4⟩ := setCells_block g news (off + n * i.size) w cur e (0, 0) hg
        obtain ⟨b1, b2, b3, b4⟩ := setCells_facts g news (off + n * i.size) w
        refine ⟨_, _, hrun, ⟨by rw [List.length_append, hown.1, hlen, Nat.add_mul], .inr ⟨g, off, cap, cur', rfl, a1, hroom, hcm, by omega, fun j u hu => ?_⟩⟩,
          ⟨b1, b2, b3, by omega, fun k hk hn => setCells_other g _ _ w k (by simpa [Value.ownBlock] using hn)⟩, fun k hk => .inl hk⟩
        rcases Nat.lt_or_ge j xs.length with hj | hj
        · rw [List.getElem?_append_left hj] at hu
          rw [a3 _ (by have := hown.1; omega)]
          exact hc j u hu
        · rw [List.getElem?_append_right hj] at hu
          have hj2 : j - xs.length < news.length := by
            rcases Nat.lt_or_ge (j - xs.length) news.length with h | h
            · exact h
            · rw [List.getElem?_eq_none h] at hu; cases hu
          have := a4 (j - xs.length) u hu (by have := hown.1; omega)
          rw [show off + n * i.size + (j - xs.length) = off + j from by have := hown.1; omega] at this
          exact this
      · have holds : ∀ j u, xs[j]? = some u → w.cell? ((⟨g, off, none⟩ : Addr).add j) = some u := fun j u hu => by
          rw [add_none, cell_of_row w g (off + j) cur e (0, 0) hg]
          exact hc j u hu
        obtain ⟨v', w', hrun, ho, hgr⟩ := run_append_arg_grows (P := P) w t ty e i z size bytes ht hi hz hsize hby hzs hsz ⟨g, off, none⟩ n cap xs hown.1 holds ad m c news hlen hnews (by omega) h63 hbytes
        exact ⟨v', w', hrun, Own.of_row ho, (grown_kept hgr).mono (by simp), fun k hk => .inr (ho.lt k hk).1⟩
end
def Typ (w : World) (k : Nat) (E : List TypeId) : Prop := ∃ cs e f, w.heap[k]? = some (.cells cs e f) ∧ e ∈ E
structure Same (E : List TypeId) (B : Nat) (w w' : World) : Prop where
  os : w'.os = w.os
  tape : w'.tape = w.tape
  output : w'.output = w.output
  size : w.heap.size ≤ w'.heap.size
  block : ∀ k, k < w.heap.size → (k < B ∨ Typ w k E) → w'.heap[k]? = w.heap[k]?
section
variable {E : List TypeId} {B : Nat} {w w' w'' : World}
theorem Typ.lt {k : Nat} (h : Typ w k E) : k < w.heap.size := by obtain ⟨cs, e, f, h, _⟩ := h; exact (Array.getElem?_eq_some_iff.1 h).1
theorem Typ.of_eq {k : Nat} (h : Typ w k E) (hk : w'.heap[k]? = w.heap[k]?) : Typ w' k E := by obtain ⟨cs, e, f, h, he⟩ := h; exact ⟨cs, e, f, hk.trans h, he⟩
theorem Same.of_below (h : Below w.heap.size w w') : Same E B w w' := ⟨h.os, h.tape, h.output, h.size, fun k hk _ => h.block k hk⟩
end
def u8 (x : UInt8) : Value := .int .u8 (x.toNat : Int)
def Bs (E : List TypeId) (B : Nat) (w : World) (A : Option Addr) (n : Nat) (l : List UInt8) : Prop :=
  l.length = n ∧ (0 < n → ∃ b off, A = some ⟨b, off, none⟩ ∧ b < w.heap.size ∧ (b < B ∨ Typ w b E) ∧ ∀ j x, l[j]? = some x → w.cell? ⟨b, off + j, none⟩ = some (u8 x))
section
variable {E : List TypeId} {B : Nat} {w w' : World} {A : Option Addr} {n : Nat} {l : List UInt8}
theorem Bs.nil (E : List TypeId) (B : Nat) (w : World) (A : Option Addr) : Bs E B w A 0 [] := ⟨rfl, fun h => absurd h (by omega)⟩
theorem Bs.same (h : Bs E B w A n l) (hs : Same E B w w') : Bs E B w' A n l :=
  ⟨h.1, fun hn => by
    obtain ⟨b, off, e, hb, ht, hc⟩ := h.2 hn
    have e1 := hs.block b hb ht
    refine ⟨b, off, e, Nat.lt_of_lt_of_le hb hs.size, ?_, fun j x hx => (World.cell?_of_block (w := w) (a := ⟨b, off + j, none⟩) e1).trans (hc j x hx)⟩
    rcases ht with ht | ht
    · exact .inl ht
    · exact .inr (ht.of_eq e1)⟩
theorem Bs.rds (h : Bs E B w A n l) : Rds w w.heap.size 1 A n (l.map u8) := by
  refine ⟨by simp [h.1], fun hn => ?_⟩
  obtain ⟨b, off, e, hb, _, hc⟩ := h.2 hn
  refine ⟨b, off, e, hb, fun j u hu => ?_⟩
  simp only [List.getElem?_map, Option.map_eq_some_iff] at hu
  obtain ⟨x, hx, rfl⟩ := hu
  exact hc j x hx
theorem Bs.conv {P : Program} {src dst e : TypeId} {c : Nat} (h : Bs E B w A n l) (hs : P.underlying src = some (.slice e)) (he : P.underlying e = some (.int .u8)) (hd : P.underlying dst = some .string) :
    (convert src dst (.slice A n c)).run P w = .ok (.string ⟨l.toArray⟩) w := by
  have key : ∀ l : List UInt8, strOfNums (l.map fun x => (x.toNat : Int)) = ⟨l.toArray⟩ := fun l => by
    unfold strOfNums
    congr 1
    simp [List.map_map, Function.comp_def]
  rcases Nat.eq_zero_or_pos n with h0 | h0
  · subst h0
    have hl : l = [] := List.eq_nil_of_length_eq_zero h.1
    subst hl
    rw [run_convert_bytes_string w src dst e A 0 c hs he hd]
    cases A with
    | none => simp [Conv.bytesToString]; rfl
    | some a =>
      rw [run_bytesToString w a 0 c [] (by simp [loadCells, loadCellsFrom])]
      rfl
  · obtain ⟨b, off, rfl, _, _, hc⟩ := h.2 h0
    rw [run_convert_bytes_arg (P := P) w src e hs he b off n c (l.map fun x => (x.toNat : Int)) (by simp [h.1]) (fun i hi => ?_) dst hd, key]
    have hl : i < l.length := by have := h.1; omega
    rw [hc i l[i] (by simp [hl])]
    simp [u8, List.getD_eq_getElem?_getD, hl]
end
section
variable {w w' : World} {g : Nat} {t : TypeId} {cs : Array Value}
theorem Kept.below0 (h : Kept [] w w') : Below w.heap.size w w' := h.below (by simp) (Nat.le_refl _)
end
section
variable {P : Program} {fn : Func} {R : Ending → World → Prop} {a : Act} {w : World} {p u ty : Nat}
theorem ret_cell (h : fn.results = #[.cell p ty]) {g : Nat} {cs : Array Value} {t : TypeId} (d : TypeDesc) (hp : a.tmps.getD p undef = .pointer (some ⟨g, 0, none⟩)) (hg : Blk w g t cs)
    (hu : P.underlying ty = some d) (hd : (match d with | .struct _ | .array _ _ => true | _ => false) = true) (hi : (P.info? ty).map (·.size) = some cs.size) (hdef : a.defers = [])
    (hR : R (.returned (.agg cs)) w) : bodyPost P fn R .ret a w := by
  refine bodyPost_ret (v := .agg cs) ?_ hdef hR
  have hl := run_loadVar_row (P := P) w g t ty cs (0, 0) d hg hu hd hi
  have hp' : a.tmps[p]?.getD undef = .pointer (some ⟨g, 0, none⟩) := by simpa using hp
  simp [results, h, hp', asAddr, Sem.run_bind, Result.andThen, hl]
theorem ret_cell_tmp (h : fn.results = #[.cell p ty, .tmp u]) {g : Nat} {cs : Array Value} {t : TypeId} {v : Value} (d : TypeDesc) (hp : a.tmps.getD p undef = .pointer (some ⟨g, 0, none⟩)) (hv : a.tmps.getD u undef = v) (hg : Blk w g t cs)
    (hu : P.underlying ty = some d) (hd : (match d with | .struct _ | .array _ _ => true | _ => false) = true) (hi : (P.info? ty).map (·.size) = some cs.size) (hdef : a.defers = [])
    (hR : R (.returned (.tuple #[.agg cs, v])) w) : bodyPost P fn R .ret a w := by
  refine bodyPost_ret (v := .tuple #[.agg cs, v]) ?_ hdef hR
  have hl := run_loadVar_row (P := P) w g t ty cs (0, 0) d hg hu hd hi
  rw [results_cell_tmp h, hp, hv]
  simp [asAddr, Result.andThen, hl]
end
end Go.Hub
namespace Go.Hub
open Go.RowKit
abbrev FL := List (Nat × Value)
def look : FL → Nat → Option Value
  | [], _ => none
  | (i, v) :: r, j => bif i == j then some v else look r j
def evl (l : FL) : Operand → Option Value
  | .tmp t => look l t
  | .const v => some v
  | .global g => some (.pointer (some ⟨g, 0, none⟩))
  | .func f => some (.func (.func f) #[] #[])
structure Fr (n : Nat) (a : Act) (l : FL) : Prop where
  defers : a.defers = []
  size : a.tmps.size = n
  slot : ∀ i v, look l i = some v → a.tmps[i]? = some v
section
variable {n : Nat} {a : Act} {l : FL}
theorem Fr.ev (f : Fr n a l) {x : Operand} {v : Value} (h : evl l x = some v) : a.eval x = v := by
  cases x with
  | tmp t => simp only [Act.eval, Array.getD_eq_getD_getElem?, f.slot t v h, Option.getD_some]
  | const c => simpa [evl, Act.eval] using h
  | global g => simpa [evl, Act.eval] using h
  | func g => simpa [evl, Act.eval] using h
theorem Fr.get (f : Fr n a l) {i : Nat} {v : Value} (h : look l i = some v) : a.tmps.getD i undef = v := by
  rw [Array.getD_eq_getD_getElem?, f.slot i v h, Option.getD_some]
theorem Fr.put (f : Fr n a l) (d : Nat) (v : Value) (hd : d < n) : Fr n (a.put (some d) v) ((d, v) :: l) := by
  refine ⟨f.defers, by simp [Act.put, f.size], fun i u h => ?_⟩
  unfold look at h
  simp only [Act.put, Array.getElem?_setIfInBounds]
  by_cases hi : d = i
  · subst hi
    simp at h
    subst h
    rw [if_pos rfl, if_pos (by rw [f.size]; exact hd)]
  · have hb : (d == i) = false := by simp [hi]
    simp [hb] at h
    rw [if_neg hi]
    exact f.slot i u h
def sub (l : FL) : FL → Prop
  | [] => True
  | p :: r => look l p.1 = some p.2 ∧ sub l r
theorem sub_look {l l' : FL} (h : sub l l') : ∀ i v, look l' i = some v → look l i = some v := by
  induction l' with
  | nil => intro i v h; simp [look] at h
  | cons p r ih =>
    obtain ⟨h1, h2⟩ := h
    intro i v hv
    unfold look at hv
    by_cases hi : p.1 = i
    · subst hi
      simp at hv
      rw [← hv]; exact h1
    · have hb : (p.1 == i) = false := by simp [hi]
      simp [hb] at hv
      exact ih h2 i v hv
theorem sub_nil {l : FL} : sub l [] := trivial
theorem sub_cons {l : FL} {i : Nat} {v : Value} {r : FL} (h : look l i = some v) (h' : sub l r) : sub l ((i, v) :: r) := ⟨h, h'⟩
theorem Fr.sub {l' : FL} (f : Fr n a l) (h : sub l l') : Fr n a l' := ⟨f.defers, f.size, fun i v hv => f.slot i v (sub_look h i v hv)⟩
theorem Fr.as (f : Fr n a l) {i : Nat} {v v' : Value} (h : look l i = some v) (e : v = v') : Fr n a ((i, v') :: l) := by
  subst e
  refine ⟨f.defers, f.size, fun j u hu => ?_⟩
  unfold look at hu
  by_cases hi : i = j
  · subst hi
    simp at hu
    subst hu
    exact f.slot i v h
  · have hb : (i == j) = false := by simp [hi]
    simp [hb] at hu
    exact f.slot j u hu
theorem Fr.start (args : Array Value) (n : Nat) (h : args.size ≤ n) : Fr n { tmps := args ++ Array.replicate (n - args.size) undef, defers := [] } (args.toList.zipIdx.map fun p => (p.2, p.1)) := by
  refine ⟨rfl, by simp; omega, fun i v hv => ?_⟩
  have key : ∀ (xs : List Value) (k i : Nat) (v : Value), look ((xs.zipIdx k).map fun p => (p.2, p.1)) i = some v → k ≤ i ∧ xs[i - k]? = some v := by
    intro xs
    induction xs with
    | nil => intro k i v h; simp [look] at h
    | cons x r ih =>
      intro k i v h
      simp only [List.zipIdx_cons, List.map_cons, look] at h
      by_cases hi : k = i
      · subst hi
        simp at h
        subst h
        simp
      · have hb : (k == i) = false := by simp [hi]
        simp [hb] at h
        obtain ⟨h1, h2⟩ := ih (k + 1) i v h
        refine ⟨by omega, ?_⟩
        rw [show i - k = (i - (k + 1)) + 1 from by omega]
        simpa using h2
  obtain ⟨_, h2⟩ := key args.toList 0 i v hv
  have hlt : i < args.size := by
    rcases Nat.lt_or_ge i args.size with h | h
    · exact h
    · simp [h] at h2
  simp only [Array.getElem?_append_left hlt]
  simpa using h2
end
section
variable {P : Program} {ops : Array Oper} {rest : List Oper} {o : Oper} {a : Act} {w w' : World} {Q : Exit → Act → World → Prop} {n d : Nat} {l : FL} {v : Value}
theorem Fr.yield (f : Fr n a l) {j dj : Nat} {b : Bool} (hj : (ops[j]?).bind (·.dst) = some dj) (hb : look l dj = some (.bool b)) : yielded ops a.tmps j = some b := by
  unfold yielded
  rw [hj]
  simp [f.slot dj _ hb]
theorem L.val (f : Fr n a l) (hw : Region.wanted o (yielded ops a.tmps) = true) (hd : o.dst = some d) (hn : d < n) (h : (execOp a.eval o).run P w = .ok (.value v) w')
    (hK : ∀ a', Fr n a' ((d, v) :: l) → wpList P ops Q rest a' w') : wpList P ops Q (o :: rest) a w :=
  wpList_step fun K hK' => by
    rw [if_pos hw]
    unfold Oper.wp
    rw [h]
    show K (a.put o.dst v) w'
    rw [hd]
    exact hK' _ _ (hK _ (f.put d v hn))
theorem L.act (f : Fr n a l) (hw : Region.wanted o (yielded ops a.tmps) = true) (hd : o.dst = none) (h : (execOp a.eval o).run P w = .ok .skip w')
    (hK : ∀ a', Fr n a' l → wpList P ops Q rest a' w') : wpList P ops Q (o :: rest) a w :=
  wpList_step fun K hK' => by
    rw [if_pos hw]
    unfold Oper.wp
    rw [h]
    show K (a.put o.dst undef) w'
    rw [hd]
    exact hK' _ _ (hK _ f)
theorem L.drop (f : Fr n a l) (hw : Region.wanted o (yielded ops a.tmps) = true) (hd : o.dst = none) (h : (execOp a.eval o).run P w = .ok (.value v) w')
    (hK : ∀ a', Fr n a' l → wpList P ops Q rest a' w') : wpList P ops Q (o :: rest) a w :=
  wpList_step fun K hK' => by
    rw [if_pos hw]
    unfold Oper.wp
    rw [h]
    show K (a.put o.dst v) w'
    rw [hd]
    exact hK' _ _ (hK _ f)
theorem L.skip (f : Fr n a l) (hw : Region.wanted o (yielded ops a.tmps) = false) (hd : o.dst = some d) (hn : d < n)
    (hK : ∀ a', Fr n a' ((d, undef) :: l) → wpList P ops Q rest a' w) : wpList P ops Q (o :: rest) a w :=
  wpList_step fun K hK' => by
    rw [if_neg (by rw [hw]; simp), hd]
    exact hK' _ _ (hK _ (f.put d undef hn))
theorem L.skipN (f : Fr n a l) (hw : Region.wanted o (yielded ops a.tmps) = false) (hd : o.dst = none)
    (hK : ∀ a', Fr n a' l → wpList P ops Q rest a' w) : wpList P ops Q (o :: rest) a w :=
  wpList_step fun K hK' => by
    rw [if_neg (by rw [hw]; simp), hd]
    exact hK' _ _ (hK _ f)
theorem run_call {fn : Nat} {xs : Array Operand} {ats : Array TypeId} {dst : Option Nat} {ty : TypeId} {ps : String} {af : Array Edge} {g : Option (Nat × Bool)} {args : Array Value}
    (hc : ∀ args w, (callFunc fn args).run P w = .ok (.enter fn args) w) (hx : xs.map a.eval = args) :
    (execOp a.eval ⟨dst, .call { callee := .value (.func fn), args := xs, argTypes := ats }, ty, ps, af, g⟩).run P w = .ok (.enter fn args) w := by
  have e : execOp a.eval ⟨dst, .call { callee := .value (.func fn), args := xs, argTypes := ats }, ty, ps, af, g⟩ = callFunc fn (#[] ++ xs.map a.eval ++ #[]) := rfl
  rw [e, hx, hc]
  simp
theorem L.call (f : Fr n a l) (hw : Region.wanted o (yielded ops a.tmps) = true) (hd : o.dst = some d) (hn : d < n) {fn : Nat} {args : Array Value} (h : (execOp a.eval o).run P w = .ok (.enter fn args) w)
    {R : Ending → World → Prop} (hc : Calls P fn args w R) (hR : ∀ e w', R e w' → ∃ v, e = .returned v ∧ ∀ a', Fr n a' ((d, v) :: l) → wpList P ops Q rest a' w') : wpList P ops Q (o :: rest) a w :=
  wpList_step fun K hK' => by
    rw [if_pos hw]
    unfold Oper.wp
    rw [h]
    refine Calls.mono hc ?_
    intro e w' hr
    obtain ⟨v, rfl, hK⟩ := hR e w' hr
    show K (a.put o.dst v) w'
    rw [hd]
    exact hK' _ _ (hK _ (f.put d v hn))
theorem Fr.split {G : Prop} (f : Fr n a l) (i : Nat) {b : Bool} (h : look l i = some (.bool b)) (ht : b = true → Fr n a ((i, .bool true) :: l) → G) (hf : b = false → Fr n a ((i, .bool false) :: l) → G) : G := by
  cases hb : b
  · exact hf hb (f.as h (by rw [hb]))
  · exact ht hb (f.as h (by rw [hb]))
theorem Fr.splitD {G : Prop} (f : Fr n a l) (i : Nat) {p : Prop} {inst : Decidable p} (h : look l i = some (.bool (@decide p inst))) (ht : p → Fr n a ((i, .bool true) :: l) → G) (hf : ¬ p → Fr n a ((i, .bool false) :: l) → G) : G :=
  f.split i h (fun e => ht (of_decide_eq_true e)) (fun e => hf (of_decide_eq_false e))
theorem Fr.splitNB {G : Prop} (f : Fr n a l) (i : Nat) {b : Bool} (h : look l i = some (.bool (!b))) (ht : b = false → Fr n a ((i, .bool true) :: l) → G) (hf : b = true → Fr n a ((i, .bool false) :: l) → G) : G :=
  f.split i h (fun e => ht (by simpa using e)) (fun e => hf (by simpa using e))
theorem Fr.splitN {G : Prop} (f : Fr n a l) (i : Nat) {p : Prop} {inst : Decidable p} (h : look l i = some (.bool (!@decide p inst))) (ht : ¬ p → Fr n a ((i, .bool true) :: l) → G) (hf : p → Fr n a ((i, .bool false) :: l) → G) : G :=
  f.split i h (fun e => ht (by simpa using e)) (fun e => hf (by simpa using e))
end
section
variable {P : Program} {ops : Array Oper} {Q : Exit → Act → World → Prop} {md : Region.Mode} {S : World → Prop} {a : Act} {w w' : World} {n d : Nat} {l : FL} {v : Value} {o : Oper}
theorem R.begin {id : Nat} (hm : P.follows .mixedOrders = true) (hS : S (w.drewN 1))
    (h : wpAnyH P .any ops Q S ops.size (Array.replicate ops.size false) a (w.drewN 1)) : (Code.region id ops true).wp P Q a w := wp_region_held hm h
theorem R.take (i : Nat) {fuel : Nat} {listed : Array Bool} (f : Fr n a l) (hi : ops[i]? = some o) (hd : o.dst = some d) (hn : d < n) (hs : Region.noSelect ops = true) (hf : Region.free md ops listed i = true)
    (hr : (Region.ready md ops listed).contains i = true) (hQ : ∀ c (a : Act) (u : Value) w, Q (.panic c) (a.put (some d) u) w → Q (.panic c) a w) (hw : Region.wanted o (yielded ops a.tmps) = true) (hS : S w)
    (hv : ∀ w, S w → (execOp a.eval o).run P w = .ok (.value v) w)
    (hK : ∀ a', Fr n a' ((d, v) :: l) → wpAnyH P md ops Q S fuel (listed.setIfInBounds i true) a' w) : wpAnyH P md ops Q S (fuel + 1) listed a w := by
  refine wpAnyH_take hi hs hf hr (v := v) (fun c a w h => hQ c a v w (by rwa [hd] at h)) (.inl ⟨hw, hv⟩) hS ?_
  rw [hd]
  exact hK _ (f.put d v hn)
theorem R.takeSkip (i : Nat) {fuel : Nat} {listed : Array Bool} (f : Fr n a l) (hi : ops[i]? = some o) (hd : o.dst = some d) (hn : d < n) (hs : Region.noSelect ops = true) (hf : Region.free md ops listed i = true)
    (hr : (Region.ready md ops listed).contains i = true) (hQ : ∀ c (a : Act) (u : Value) w, Q (.panic c) (a.put (some d) u) w → Q (.panic c) a w) (hw : Region.wanted o (yielded ops a.tmps) = false) (hS : S w)
    (hK : ∀ a', Fr n a' ((d, undef) :: l) → wpAnyH P md ops Q S fuel (listed.setIfInBounds i true) a' w) : wpAnyH P md ops Q S (fuel + 1) listed a w := by
  refine wpAnyH_take hi hs hf hr (v := undef) (fun c a w h => hQ c a undef w (by rwa [hd] at h)) (.inr ⟨hw, rfl⟩) hS ?_
  rw [hd]
  exact hK _ (f.put d undef hn)
theorem R.act (i : Nat) {fuel : Nat} {listed : Array Bool} (f : Fr n a l) (hi : ops[i]? = some o) (hd : o.dst = none) (hr : Region.ready md ops listed = [i]) (hw : Region.wanted o (yielded ops a.tmps) = true)
    (hv : (execOp a.eval o).run P w = .ok .skip w') (hS : S w') (hK : ∀ a', Fr n a' l → wpAnyH P md ops Q S fuel (listed.setIfInBounds i true) a' w') : wpAnyH P md ops Q S (fuel + 1) listed a w := by
  refine wpAnyH_all hr (by simp) ?_
  intro j hj
  simp only [List.mem_singleton] at hj
  subst hj
  unfold wpOp
  simp only [hi, hw, if_true]
  refine .inl ?_
  unfold Oper.wp
  rw [hv]
  show S w' ∧ wpAnyH P md ops Q S fuel (listed.setIfInBounds j true) (a.put o.dst undef) w'
  rw [hd]
  exact ⟨hS, hK _ f⟩
theorem R.call (i : Nat) {fuel : Nat} {listed : Array Bool} (f : Fr n a l) (hi : ops[i]? = some o) (hd : o.dst = some d) (hn : d < n) (hr : Region.ready md ops listed = [i]) (hw : Region.wanted o (yielded ops a.tmps) = true)
    {fn : Nat} {args : Array Value} (h : (execOp a.eval o).run P w = .ok (.enter fn args) w) {R : Ending → World → Prop} (hc : Calls P fn args w R)
    (hR : ∀ e w', R e w' → ∃ v, e = .returned v ∧ S w' ∧ ∀ a', Fr n a' ((d, v) :: l) → wpAnyH P md ops Q S fuel (listed.setIfInBounds i true) a' w') : wpAnyH P md ops Q S (fuel + 1) listed a w := by
  refine wpAnyH_all hr (by simp) ?_
  intro j hj
  simp only [List.mem_singleton] at hj
  subst hj
  unfold wpOp
  simp only [hi, hw, if_true]
  refine .inl ?_
  unfold Oper.wp
  rw [h]
  refine Calls.mono hc ?_
  intro e w' hr
  obtain ⟨v, rfl, hS, hK⟩ := hR e w' hr
  show S w' ∧ wpAnyH P md ops Q S fuel (listed.setIfInBounds j true) (a.put o.dst v) w'
  rw [hd]
  exact ⟨hS, hK _ (f.put d v hn)⟩
theorem R.done {fuel : Nat} {listed : Array Bool} (hr : Region.ready md ops listed = []) (h : Q .normal a w) : wpAnyH P md ops Q S fuel listed a w := wpAnyH_done hr h fuel
end
section
variable {P : Program} {Q : Exit → Act → World → Prop} {a : Act} {w : World} {n : Nat} {l : FL}
theorem C.region {id : Nat} {ops : List Oper} (h : wpList P ops.toArray Q ops a w) : (Code.region id ops.toArray false).wp P Q a w := wp_region_lit h
theorem C.condT (f : Fr n a l) {c : Operand} {x y : Code} (hc : evl l c = some (.bool true)) (h : x.wp P Q a w) : (Code.cond c x y).wp P Q a w := wp_cond_true (f.ev hc) h
theorem C.condF (f : Fr n a l) {c : Operand} {x y : Code} (hc : evl l c = some (.bool false)) (h : y.wp P Q a w) : (Code.cond c x y).wp P Q a w := wp_cond_false (f.ev hc) h
theorem C.cut {x y : Code} (J : Act → World → Prop) (h : x.wp P (Exit.then J Q) a w) (hr : ∀ a w, J a w → y.wp P Q a w) : (Code.seq x y).wp P Q a w :=
  wp_seq (Code.wp_mono (fun e a w q => by cases e <;> first | exact hr _ _ q | exact q) h)
theorem C.loop (I : Nat → Act → World → Prop) (n₀ : Nat) {c : Code} (h₀ : I n₀ a w)
    (round : ∀ n a w, I n a w → ∀ K : Act → World → Prop, (∀ a w k, k < n → I k a w → K a w) → c.wp P (Exit.then K Q) a w) : (Code.loop c).wp P Q a w :=
  wp_loop_ghost I n₀ h₀ fun n a w h => round n a w h _ fun a w k hk hI => ⟨k, hk, hI⟩
theorem C.enter {f : Nat} {fn : Func} {c : Code} {args : Array Value} {R : Ending → World → Prop} {n : Nat} (hf : P.funcs[f]? = some fn) (hb : fn.body = some c) (hn : fn.ntmps = n) (hs : Nat.ble args.size n = true)
    (h : ∀ a, Fr n a (args.toList.zipIdx.map fun p => (p.2, p.1)) → c.wp P (bodyPost P fn R) a w) : Calls P f args w R := by
  refine calls_of_wp hf hb (h _ ?_)
  rw [hn]
  exact Fr.start args n (Nat.le_of_ble_eq_true hs)
theorem C.ret {fn : Func} {R : Ending → World → Prop} (f : Fr n a l) {t : Tmp} (hr : fn.results = #[.tmp t]) {v : Value} (hv : look l t = some v) (h : R (.returned v) w) : bodyPost P fn R .ret a w :=
  bodyPost_ret (by rw [results_tmp hr, f.get hv]) f.defers h
theorem C.ret2 {fn : Func} {R : Ending → World → Prop} (f : Fr n a l) {t u : Tmp} (hr : fn.results = #[.tmp t, .tmp u]) {v v' : Value} (hv : look l t = some v) (hv' : look l u = some v') (h : R (.returned (.tuple #[v, v'])) w) : bodyPost P fn R .ret a w :=
  bodyPost_ret (by rw [results_tmp2 hr, f.get hv, f.get hv']) f.defers h
end
end Go.Hub
namespace Go.Hub
open Go.RowKit
theorem beqD {α : Type} [BEq α] [LawfulBEq α] [DecidableEq α] (a b : α) : (a == b) = decide (a = b) := by by_cases h : a = b <;> simp [h]
section
variable {P : Program} {a : Act} {w : World} {n : Nat} {l : FL} {dst : Option Nat} {ty : TypeId} {ps : String} {af : Array Edge} {g : Option (Nat × Bool)} {x y z : Operand} {t u : TypeId}
theorem E.move (f : Fr n a l) {v : Value} (hx : evl l x = some v) : (execOp a.eval ⟨dst, .move x, ty, ps, af, g⟩).run P w = .ok (.value v) w := by simp [execOp, f.ev hx]
theorem E.assign (f : Fr n a l) {v : Value} (hx : evl l x = some v) : (execOp a.eval ⟨dst, .assign x, ty, ps, af, g⟩).run P w = .ok (.value v) w := by simp [execOp, f.ev hx]
theorem E.pickT (f : Fr n a l) {v : Value} (hc : evl l x = some (.bool true)) (hv : evl l y = some v) : (execOp a.eval ⟨dst, .pick x y z, ty, ps, af, g⟩).run P w = .ok (.value v) w := by simp [execOp, f.ev hc, f.ev hv, asBool]
theorem E.pickF (f : Fr n a l) {v : Value} (hc : evl l x = some (.bool false)) (hv : evl l z = some v) : (execOp a.eval ⟨dst, .pick x y z, ty, ps, af, g⟩).run P w = .ok (.value v) w := by simp [execOp, f.ev hc, f.ev hv, asBool]
theorem E.add (f : Fr n a l) {k : IntKind} {i j r : Int} (hx : evl l x = some (.int k i)) (hy : evl l y = some (.int k j)) (hr : k.wrap (i + j) = r) : (execOp a.eval ⟨dst, .binOp .add t x y u, ty, ps, af, g⟩).run P w = .ok (.value (.int k r)) w := by
  simp [execOp, f.ev hx, f.ev hy, eqGuard, binOp, Op.intArith, hr]
theorem E.sub (f : Fr n a l) {k : IntKind} {i j r : Int} (hx : evl l x = some (.int k i)) (hy : evl l y = some (.int k j)) (hr : k.wrap (i - j) = r) : (execOp a.eval ⟨dst, .binOp .sub t x y u, ty, ps, af, g⟩).run P w = .ok (.value (.int k r)) w := by
  simp [execOp, f.ev hx, f.ev hy, eqGuard, binOp, Op.intArith, hr]
theorem E.rem (f : Fr n a l) {k : IntKind} {i j r : Int} (hx : evl l x = some (.int k i)) (hy : evl l y = some (.int k j)) (h0 : j ≠ 0) (hr : i.tmod j = r) : (execOp a.eval ⟨dst, .binOp .rem t x y u, ty, ps, af, g⟩).run P w = .ok (.value (.int k r)) w := by
  simp [execOp, f.ev hx, f.ev hy, eqGuard, binOp, Op.intDiv, h0, hr]
theorem E.shr (f : Fr n a l) {k k' : IntKind} {i j r : Int} (hx : evl l x = some (.int k i)) (hy : evl l y = some (.int k' j)) (h0 : 0 ≤ j) (hr : i.fdiv (2 ^ (Min.min j.toNat k.bits)) = r) : (execOp a.eval ⟨dst, .binOp .shr t x y u, ty, ps, af, g⟩).run P w = .ok (.value (.int k r)) w := by
  have h1 : ¬ j < 0 := by omega
  simp [execOp, f.ev hx, f.ev hy, eqGuard, binOp, Op.shift, h1, hr]
theorem shr1 (i : Int) : i.fdiv (2 ^ (Min.min (1 : Int).toNat IntKind.u64.bits)) = i / 2 := by
  have : (2 : Int) ^ (Min.min (1 : Int).toNat IntKind.u64.bits) = 2 := by decide
  rw [this]
  exact Int.fdiv_eq_ediv_of_nonneg _ (by decide)
theorem E.eql (f : Fr n a l) {k : IntKind} {i j : Int} (hx : evl l x = some (.int k i)) (hy : evl l y = some (.int k j)) : (execOp a.eval ⟨dst, .binOp .eql t x y u, ty, ps, af, g⟩).run P w = .ok (.value (.bool (decide (i = j)))) w := by
  simp [execOp, f.ev hx, f.ev hy, eqGuard, binOp, Op.intCmp, beqD]
theorem E.neq (f : Fr n a l) {k : IntKind} {i j : Int} (hx : evl l x = some (.int k i)) (hy : evl l y = some (.int k j)) : (execOp a.eval ⟨dst, .binOp .neq t x y u, ty, ps, af, g⟩).run P w = .ok (.value (.bool (!decide (i = j)))) w := by
  simp [execOp, f.ev hx, f.ev hy, eqGuard, binOp, Op.intCmp, bne, beqD]
theorem E.lss (f : Fr n a l) {k : IntKind} {i j : Int} (hx : evl l x = some (.int k i)) (hy : evl l y = some (.int k j)) : (execOp a.eval ⟨dst, .binOp .lss t x y u, ty, ps, af, g⟩).run P w = .ok (.value (.bool (decide (i < j)))) w := by
  simp [execOp, f.ev hx, f.ev hy, eqGuard, binOp, Op.intCmp]
theorem E.leq (f : Fr n a l) {k : IntKind} {i j : Int} (hx : evl l x = some (.int k i)) (hy : evl l y = some (.int k j)) : (execOp a.eval ⟨dst, .binOp .leq t x y u, ty, ps, af, g⟩).run P w = .ok (.value (.bool (decide (i ≤ j)))) w := by
  simp [execOp, f.ev hx, f.ev hy, eqGuard, binOp, Op.intCmp]
theorem E.gtr (f : Fr n a l) {k : IntKind} {i j : Int} (hx : evl l x = some (.int k i)) (hy : evl l y = some (.int k j)) : (execOp a.eval ⟨dst, .binOp .gtr t x y u, ty, ps, af, g⟩).run P w = .ok (.value (.bool (decide (j < i)))) w := by
  simp [execOp, f.ev hx, f.ev hy, eqGuard, binOp, Op.intCmp]
theorem E.geq (f : Fr n a l) {k : IntKind} {i j : Int} (hx : evl l x = some (.int k i)) (hy : evl l y = some (.int k j)) : (execOp a.eval ⟨dst, .binOp .geq t x y u, ty, ps, af, g⟩).run P w = .ok (.value (.bool (decide (j ≤ i)))) w := by
  simp [execOp, f.ev hx, f.ev hy, eqGuard, binOp, Op.intCmp]
theorem toList_eq_iff {s r : ByteArray} : s.toList = r.toList ↔ s = r := by
  rw [ByteArray.toList_eq, ByteArray.toList_eq]
  constructor
  · intro h
    exact ByteArray.ext (Array.toList_inj.mp h)
  · intro h; rw [h]
theorem E.eqlS (f : Fr n a l) {s r : ByteArray} (hx : evl l x = some (.string s)) (hy : evl l y = some (.string r)) : (execOp a.eval ⟨dst, .binOp .eql t x y u, ty, ps, af, g⟩).run P w = .ok (.value (.bool (decide (s = r)))) w := by
  simp [execOp, f.ev hx, f.ev hy, eqGuard, binOp, Op.stringOp, beqD, toList_eq_iff]
theorem E.neqS (f : Fr n a l) {s r : ByteArray} (hx : evl l x = some (.string s)) (hy : evl l y = some (.string r)) : (execOp a.eval ⟨dst, .binOp .neq t x y u, ty, ps, af, g⟩).run P w = .ok (.value (.bool (!decide (s = r)))) w := by
  simp [execOp, f.ev hx, f.ev hy, eqGuard, binOp, Op.stringOp, beqD, toList_eq_iff]
theorem E.lssS (f : Fr n a l) {s r : ByteArray} (hx : evl l x = some (.string s)) (hy : evl l y = some (.string r)) : (execOp a.eval ⟨dst, .binOp .lss t x y u, ty, ps, af, g⟩).run P w = .ok (.value (.bool (Op.bytesLess s.toList r.toList))) w := by
  simp [execOp, f.ev hx, f.ev hy, eqGuard, binOp, Op.stringOp]
theorem E.eqlB (f : Fr n a l) {b c : Bool} (ht : P.underlying t = some .bool) (hx : evl l x = some (.bool b)) (hy : evl l y = some (.bool c)) : (execOp a.eval ⟨dst, .binOp .eql t x y u, ty, ps, af, g⟩).run P w = .ok (.value (.bool (b == c))) w := by
  simp [execOp, f.ev hx, f.ev hy, eqGuard, binOp, Op.equal, Op.maxDepth, run_equalIn_bool' w _ t b c ht]
theorem E.eqlV (f : Fr n a l) {v v' : Value} {b : Bool} (hx : evl l x = some v) (hy : evl l y = some v') (h : ∀ w, (do eqGuard .eql t x y v v'; binOp .eql t v v' : Sem Value).run P w = .ok (.bool b) w) : (execOp a.eval ⟨dst, .binOp .eql t x y u, ty, ps, af, g⟩).run P w = .ok (.value (.bool b)) w := by
  have := h w
  simp only [execOp, f.ev hx, f.ev hy]
  rw [Sem.run_bind, this]
  rfl
theorem E.not (f : Fr n a l) {b : Bool} (hx : evl l x = some (.bool b)) : (execOp a.eval ⟨dst, .unOp .not t x, ty, ps, af, g⟩).run P w = .ok (.value (.bool (!b))) w := by simp [execOp, f.ev hx, Op.unary]
theorem E.conv (f : Fr n a l) {k k' : IntKind} {i r : Int} (ht : P.underlying t = some (.int k)) (hu : P.underlying u = some (.int k')) (hx : evl l x = some (.int k i)) (hr : k'.wrap i = r) : (execOp a.eval ⟨dst, .convert t u x, ty, ps, af, g⟩).run P w = .ok (.value (.int k' r)) w := by
  simp [execOp, f.ev hx, convert, run_underlying ht, run_underlying hu, Conv.intToInt, hr]
theorem E.convV (f : Fr n a l) {v v' : Value} {w' : World} (hx : evl l x = some v) (h : (convert t u v).run P w = .ok v' w') : (execOp a.eval ⟨dst, .convert t u x, ty, ps, af, g⟩).run P w = .ok (.value v') w' := by
  simp [execOp, f.ev hx, h]
theorem E.field (f : Fr n a l) {cs : Array Value} {fs : Array Field} {i : Nat} {fld : Field} {d : TypeDesc} {v : Value} (ht : P.underlying t = some (.struct fs)) (hx : evl l x = some (.agg cs)) (hi : fs[i]? = some fld)
    (hd : P.underlying fld.type = some d) (hd' : d.isRow = false) (hv : cs[fld.offset]? = some v) : (execOp a.eval ⟨dst, .field t x i, ty, ps, af, g⟩).run P w = .ok (.value v) w := by
  have hagg : (isAgg fld.type).run P w = .ok false w := by
    unfold isAgg
    rw [Sem.run_bind, run_underlying hd w]
    cases d <;> simp_all [TypeDesc.isRow]
  simp [execOp, f.ev hx, Instr.field, run_underlying ht, hi, part, asAgg, hagg, hv]
theorem E.extract (f : Fr n a l) {vs : Array Value} {i : Nat} {v : Value} (hx : evl l x = some (.tuple vs)) (hi : vs[i]? = some v) : (execOp a.eval ⟨dst, .extract x i, ty, ps, af, g⟩).run P w = .ok (.value v) w := by
  simp [execOp, f.ev hx, Instr.extract, hi]
theorem E.build (f : Fr n a l) {parts : Array (Nat × Operand)} {vs : List (Nat × Value)} {cs : Array Value} (hx : (parts.map fun p => (p.1, a.eval p.2)).toList = vs) (hb : P.built t vs = some cs) : (execOp a.eval ⟨dst, .build t parts, ty, ps, af, g⟩).run P w = .ok (.value (.agg cs)) w := by
  have hx' : (parts.map fun (i, x) => (i, a.eval x)).toList = vs := hx
  have hr := run_build (P := P) w t (parts.map fun (i, x) => (i, a.eval x)) cs (by rw [hx']; exact hb)
  simp only [execOp]
  rw [Sem.run_bind, hr]
  rfl
theorem E.lenS (f : Fr n a l) {s : ByteArray} (ht : P.underlying t = some .string) (hx : evl l x = some (.string s)) : (execOp a.eval ⟨dst, .call { callee := .builtin .len, args := #[x], argTypes := #[t] }, ty, ps, af, g⟩).run P w = .ok (.value (.int .i64 s.size)) w := by
  simp [execOp, resolve, invoke, builtin, f.ev hx, Builtin.len_, run_underlying ht, goInt]
theorem E.lenL (f : Fr n a l) {e : TypeId} {A : Option Addr} {m c : Nat} (ht : P.underlying t = some (.slice e)) (hx : evl l x = some (.slice A m c)) : (execOp a.eval ⟨dst, .call { callee := .builtin .len, args := #[x], argTypes := #[t] }, ty, ps, af, g⟩).run P w = .ok (.value (.int .i64 m)) w := by
  simp [execOp, resolve, invoke, builtin, f.ev hx, Builtin.len_, run_underlying ht, goInt]
theorem E.min (f : Fr n a l) {k : IntKind} {i j : Int} (hx : evl l x = some (.int k i)) (hy : evl l y = some (.int k j)) : (execOp a.eval ⟨dst, .call { callee := .builtin .min, args := #[x, y], argTypes := #[t, u] }, ty, ps, af, g⟩).run P w = .ok (.value (.int k (Min.min i j))) w := by
  have e : Min.min i j = if j < i then j else i := by rw [Int.min_def]; split <;> split <;> omega
  simp [execOp, resolve, invoke, builtin, f.ev hx, f.ev hy, Builtin.min_, Builtin.min2, e]
theorem E.max (f : Fr n a l) {k : IntKind} {i j : Int} (hx : evl l x = some (.int k i)) (hy : evl l y = some (.int k j)) : (execOp a.eval ⟨dst, .call { callee := .builtin .max, args := #[x, y], argTypes := #[t, u] }, ty, ps, af, g⟩).run P w = .ok (.value (.int k (Max.max i j))) w := by
  have e : Max.max i j = if i < j then j else i := by rw [Int.max_def]; split <;> split <;> omega
  simp [execOp, resolve, invoke, builtin, f.ev hx, f.ev hy, Builtin.max_, Builtin.max2, e]
theorem add_plain (b o k : Nat) : (⟨b, o, none⟩ : Addr).add k = ⟨b, o + k, none⟩ := Addr.add_mid b o k
theorem E.fieldAddr (f : Fr n a l) {fs : Array Field} {i : Nat} {fld : Field} {b o s : Nat} (ht : P.underlying t = some (.struct fs)) (hx : evl l x = some (.pointer (some ⟨b, o, none⟩))) (hi : fs[i]? = some fld)
    (hs : (P.info? fld.type).map (·.size) = some (s + 1)) : (execOp a.eval ⟨dst, .fieldAddr t x i, ty, ps, af, g⟩).run P w = .ok (.value (.pointer (some ⟨b, o + fld.offset, none⟩))) w := by
  cases hq : P.info? fld.type with
  | none => simp [hq] at hs
  | some i' =>
    have hs' : i'.size = s + 1 := by simpa [hq] using hs
    simp [execOp, f.ev hx, Instr.fieldAt, run_underlying ht, hi, Instr.sureAddr, fieldPlace, sizeOf, typeInfo, hq, hs', add_plain]
theorem E.indexAddr (f : Fr n a l) {e : TypeId} {b o m c s : Nat} {k : IntKind} {i : Int} (ht : P.underlying t = some (.slice e)) (hs : (P.info? e).map (·.size) = some s) (hx : evl l x = some (.slice (some ⟨b, o, none⟩) m c)) (hy : evl l y = some (.int k i))
    (h0 : 0 ≤ i) (h1 : i < m) : (execOp a.eval ⟨dst, .indexAddr t x y, ty, ps, af, g⟩).run P w = .ok (.value (.pointer (some ⟨b, o + i.toNat * s, none⟩))) w := by
  cases hq : P.info? e with
  | none => simp [hq] at hs
  | some i' =>
    have hs' : i'.size = s := by simpa [hq] using hs
    simp [execOp, f.ev hx, f.ev hy, Instr.indexAt, asIntOf, run_underlying ht, h0, h1, sizeOf, typeInfo, hq, hs', add_plain]
theorem E.load (f : Fr n a l) {ad : Addr} {v : Value} {d : TypeDesc} (ht : P.underlying t = some d) (hd : d.isRow = false) (hx : evl l x = some (.pointer (some ad))) (hc : w.cell? ad = some v) : (execOp a.eval ⟨dst, .load t x, ty, ps, af, g⟩).run P w = .ok (.value v) w := by
  have hagg : (isAgg t).run P w = .ok false w := by
    unfold isAgg
    rw [Sem.run_bind, run_underlying ht w]
    cases d <;> simp_all [TypeDesc.isRow]
  simp [execOp, f.ev hx, Instr.loadAt, Instr.sureAddr, loadVar, hagg, load, Sem.run, hc]
theorem E.loadR (f : Fr n a l) {b o s : Nat} {cs : List Value} {d : TypeDesc} (ht : P.underlying t = some d) (hd : d.isRow = true) (hi : (P.info? t).map (·.size) = some s) (hx : evl l x = some (.pointer (some ⟨b, o, none⟩))) (hc : w.rangeAt b o cs) (hl : cs.length = s) :
    (execOp a.eval ⟨dst, .load t x, ty, ps, af, g⟩).run P w = .ok (.value (.agg cs.toArray)) w := by
  subst hl
  simp only [execOp, f.ev hx]
  rw [Sem.run_bind, run_loadAt_mid w b o t cs d hc ht hd hi]
  rfl
theorem E.store (f : Fr n a l) {b o : Nat} {v old : Value} (hi : (P.info? t).map (·.size) = some 1) (hx : evl l x = some (.pointer (some ⟨b, o, none⟩))) (hy : evl l y = some v) (h1 : v.oneCell' = true) (hc : w.cell? ⟨b, o, none⟩ = some old) (hf : w.frozen? ⟨b, o, none⟩ = false) :
    (execOp a.eval ⟨dst, .store t x y, ty, ps, af, g⟩).run P w = .ok .skip (w.setCell ⟨b, o, none⟩ v) := by
  have hcs : v.cells = #[v] := by cases v <;> first | rfl | cases h1
  have := run_storeCells_cells (P := P) b o [v] 0 w (fun j hj => by simp at hj; subst hj; simp [hc]) (fun j hj => by simp at hj; subst hj; simpa using hf) (fun u hu => by simp at hu; subst hu; exact h1)
  cases hq : P.info? t with
  | none => simp [hq] at hi
  | some i =>
    have hs : i.size = 1 := by simpa [hq] using hi
    simp only [execOp, f.ev hx, f.ev hy]
    simp only [Nat.add_zero, World.setCells] at this
    simp [Instr.storeAt, Instr.sureAddr, storeVar, sizeOf, typeInfo, hq, hcs, hs, this]
theorem E.storeR (f : Fr n a l) {b o : Nat} {cs : Array Value} (hi : (P.info? t).map (·.size) = some cs.size) (hx : evl l x = some (.pointer (some ⟨b, o, none⟩))) (hy : evl l y = some (.agg cs)) (h1 : cs.all (·.oneCell') = true) (ht : w.there b o cs.size) :
    (execOp a.eval ⟨dst, .store t x y, ty, ps, af, g⟩).run P w = .ok .skip (w.setCells b o cs.toList) := by
  simp only [execOp, f.ev hx, f.ev hy]
  rw [Sem.run_bind, run_storeAt_mid w b o t cs ht hi h1]
  rfl
theorem E.alloc (f : Fr n a l) {z : Value} (hz : ∀ w, (zeroValue t).run P w = .ok z w) : (execOp a.eval ⟨dst, .alloc t, ty, ps, af, g⟩).run P w = .ok (.value (.pointer (some ⟨w.heap.size, 0, none⟩))) (w.alloc (.cells z.cells t)) := by
  simp only [execOp, Instr.alloc]
  rw [Sem.run_bind, Sem.run_bind, hz w]
  rfl
theorem E.box (f : Fr n a l) {v : Value} (hx : evl l x = some v) : (execOp a.eval ⟨dst, .box t x, ty, ps, af, g⟩).run P w = .ok (.value (.pointer (some ⟨w.heap.size, 0, none⟩))) (w.alloc (.cells v.cells t)) := by
  simp only [execOp, f.ev hx]
  rfl
theorem E.slShi (f : Fr n a l) {s : ByteArray} {i : Int} {ki : IntKind} (ht : P.underlying t = some .string) (hx : evl l x = some (.string s)) (hy : evl l y = some (.int ki i)) (h0 : 0 ≤ i) (h1 : i ≤ s.size) :
    (execOp a.eval ⟨dst, .slice t x none (some y) none, ty, ps, af, g⟩).run P w = .ok (.value (.string (s.extract 0 i.toNat))) w := by
  simp [execOp, f.ev hx, f.ev hy, Instr.sliceAt, Instr.slice, Instr.sliceBounds, Instr.sliceBound, asIntOf, run_underlying ht, h0, h1]
theorem E.slLlo (f : Fr n a l) {e : TypeId} {A : Option Addr} {m c s : Nat} {i : Int} {ki : IntKind} (ht : P.underlying t = some (.slice e)) (hs : (P.info? e).map (·.size) = some s) (hx : evl l x = some (.slice A m c)) (hy : evl l y = some (.int ki i)) (h0 : 0 ≤ i) (h1 : i ≤ m) :
    (execOp a.eval ⟨dst, .slice t x (some y) none none, ty, ps, af, g⟩).run P w = .ok (.value (.slice (if c = i.toNat then A else A.map (·.add (i.toNat * s))) (m - i.toNat) (c - i.toNat))) w := by
  cases hq : P.info? e with
  | none => simp [hq] at hs
  | some i' =>
    have hs' : i'.size = s := by simpa [hq] using hs
    simp [execOp, f.ev hx, f.ev hy, Instr.sliceAt, Instr.slice, Instr.sliceBounds, Instr.sliceBound, asIntOf, run_underlying ht, h0, h1, sizeOf, typeInfo, hq, hs']
theorem E.slLhi (f : Fr n a l) {e : TypeId} {A : Option Addr} {m c s : Nat} {i : Int} {ki : IntKind} (ht : P.underlying t = some (.slice e)) (hs : (P.info? e).map (·.size) = some s) (hx : evl l x = some (.slice A m c)) (hy : evl l y = some (.int ki i)) (h0 : 0 ≤ i) (h1 : i ≤ c) :
    (execOp a.eval ⟨dst, .slice t x none (some y) none, ty, ps, af, g⟩).run P w = .ok (.value (.slice A i.toNat c)) w := by
  cases hq : P.info? e with
  | none => simp [hq] at hs
  | some i' =>
    have hs' : i'.size = s := by simpa [hq] using hs
    have e0 : (A.map fun a => a.add 0) = A := by cases A with
      | none => rfl
      | some b => cases b with | mk b o s => simp [Addr.add]
    simp [execOp, f.ev hx, f.ev hy, Instr.sliceAt, Instr.slice, Instr.sliceBounds, Instr.sliceBound, asIntOf, run_underlying ht, h0, h1, sizeOf, typeInfo, hq, hs', e0]
end
section
variable {a : Act} {n : Nat} {l : FL}
theorem args0 (f : Fr n a l) : (#[] : Array Operand).map a.eval = #[] := by simp
theorem args1 (f : Fr n a l) {x0 : Operand} {v0 : Value} (h0 : evl l x0 = some v0) : #[x0].map a.eval = #[v0] := by simp [f.ev h0]
theorem args2 (f : Fr n a l) {x0 x1 : Operand} {v0 v1 : Value} (h0 : evl l x0 = some v0) (h1 : evl l x1 = some v1) : #[x0, x1].map a.eval = #[v0, v1] := by simp [f.ev h0, f.ev h1]
theorem args3 (f : Fr n a l) {x0 x1 x2 : Operand} {v0 v1 v2 : Value} (h0 : evl l x0 = some v0) (h1 : evl l x1 = some v1) (h2 : evl l x2 = some v2) : #[x0, x1, x2].map a.eval = #[v0, v1, v2] := by simp [f.ev h0, f.ev h1, f.ev h2]
theorem args5 (f : Fr n a l) {x0 x1 x2 x3 x4 : Operand} {v0 v1 v2 v3 v4 : Value} (h0 : evl l x0 = some v0) (h1 : evl l x1 = some v1) (h2 : evl l x2 = some v2) (h3 : evl l x3 = some v3) (h4 : evl l x4 = some v4) : #[x0, x1, x2, x3, x4].map a.eval = #[v0, v1, v2, v3, v4] := by simp [f.ev h0, f.ev h1, f.ev h2, f.ev h3, f.ev h4]
theorem parts0 (f : Fr n a l) : ((#[] : Array (Nat × Operand)).map fun p => (p.1, a.eval p.2)).toList = [] := by simp
theorem parts1 (f : Fr n a l) {i0 : Nat} {x0 : Operand} {v0 : Value} (h0 : evl l x0 = some v0) : (#[(i0, x0)].map fun (p : Nat × Operand) => (p.1, a.eval p.2)).toList = [(i0, v0)] := by simp [f.ev h0]
theorem parts2 (f : Fr n a l) {i0 i1 : Nat} {x0 x1 : Operand} {v0 v1 : Value} (h0 : evl l x0 = some v0) (h1 : evl l x1 = some v1) : (#[(i0, x0), (i1, x1)].map fun (p : Nat × Operand) => (p.1, a.eval p.2)).toList = [(i0, v0), (i1, v1)] := by simp [f.ev h0, f.ev h1]
theorem parts3 (f : Fr n a l) {i0 i1 i2 : Nat} {x0 x1 x2 : Operand} {v0 v1 v2 : Value} (h0 : evl l x0 = some v0) (h1 : evl l x1 = some v1) (h2 : evl l x2 = some v2) : (#[(i0, x0), (i1, x1), (i2, x2)].map fun (p : Nat × Operand) => (p.1, a.eval p.2)).toList = [(i0, v0), (i1, v1), (i2, v2)] := by simp [f.ev h0, f.ev h1, f.ev h2]
theorem parts5 (f : Fr n a l) {i0 i1 i2 i3 i4 : Nat} {x0 x1 x2 x3 x4 : Operand} {v0 v1 v2 v3 v4 : Value} (h0 : evl l x0 = some v0) (h1 : evl l x1 = some v1) (h2 : evl l x2 = some v2) (h3 : evl l x3 = some v3) (h4 : evl l x4 = some v4) : (#[(i0, x0), (i1, x1), (i2, x2), (i3, x3), (i4, x4)].map fun (p : Nat × Operand) => (p.1, a.eval p.2)).toList = [(i0, v0), (i1, v1), (i2, v2), (i3, v3), (i4, v4)] := by simp [f.ev h0, f.ev h1, f.ev h2, f.ev h3, f.ev h4]
end
end Go.Hub
namespace Go.Hub
open Go.RowKit
theorem wantedN {ops : Array Oper} {a : Act} {dst : Option Nat} {op : Op} {ty : TypeId} {ps : String} {af : Array Edge} : Region.wanted ⟨dst, op, ty, ps, af, none⟩ (yielded ops a.tmps) = true := rfl
theorem Fr.yes {n : Nat} {a : Act} {l : FL} {ops : Array Oper} (f : Fr n a l) {j dj : Nat} {b : Bool} {dst : Option Nat} {op : Op} {ty : TypeId} {ps : String} {af : Array Edge} (hj : (ops[j]?).bind (·.dst) = some dj) (hb : look l dj = some (.bool b)) :
    Region.wanted ⟨dst, op, ty, ps, af, some (j, b)⟩ (yielded ops a.tmps) = true := by simp [Region.wanted, f.yield hj hb]
theorem Fr.noT {n : Nat} {a : Act} {l : FL} {ops : Array Oper} (f : Fr n a l) {j dj : Nat} {dst : Option Nat} {op : Op} {ty : TypeId} {ps : String} {af : Array Edge} (hj : (ops[j]?).bind (·.dst) = some dj) (hb : look l dj = some (.bool false)) :
    Region.wanted ⟨dst, op, ty, ps, af, some (j, true)⟩ (yielded ops a.tmps) = false := by simp [Region.wanted, f.yield hj hb]
theorem Fr.noU {n : Nat} {a : Act} {l : FL} {ops : Array Oper} (f : Fr n a l) {j dj : Nat} {b : Bool} {dst : Option Nat} {op : Op} {ty : TypeId} {ps : String} {af : Array Edge} (hj : (ops[j]?).bind (·.dst) = some dj) (hb : look l dj = some undef) :
    Region.wanted ⟨dst, op, ty, ps, af, some (j, b)⟩ (yielded ops a.tmps) = false := by
  have hy : yielded ops a.tmps j = none := by
    unfold yielded
    rw [hj]
    simp [f.slot dj _ hb, undef]
  simp [Region.wanted, hy]
theorem Fr.noF {n : Nat} {a : Act} {l : FL} {ops : Array Oper} (f : Fr n a l) {j dj : Nat} {dst : Option Nat} {op : Op} {ty : TypeId} {ps : String} {af : Array Edge} (hj : (ops[j]?).bind (·.dst) = some dj) (hb : look l dj = some (.bool true)) :
    Region.wanted ⟨dst, op, ty, ps, af, some (j, false)⟩ (yielded ops a.tmps) = false := by simp [Region.wanted, f.yield hj hb]
theorem run_callV {P : Program} {a : Act} {w : World} {n : Nat} {l : FL} {fn : Nat} {x : Operand} {xs : Array Operand} {ats : Array TypeId} {dst : Option Nat} {ty : TypeId} {ps : String} {af : Array Edge} {g : Option (Nat × Bool)} {args cap : Array Value}
    (f : Fr n a l) (hf : evl l x = some (.func (.func fn) #[] cap)) (hc : ∀ args w, (callFunc fn args).run P w = .ok (.enter fn args) w) (hx : xs.map a.eval = args) :
    (execOp a.eval ⟨dst, .call { callee := .value x, args := xs, argTypes := ats }, ty, ps, af, g⟩).run P w = .ok (.enter fn (args ++ cap)) w := by
  simp [execOp, resolve, f.ev hf, Deferred.ofValue, invoke, hx, hc]
theorem cv1_0 {P : Program} {a : Act} {w : World} {n : Nat} {l : FL} {fn : Nat} {x : Operand} {ats : Array TypeId} {dst : Option Nat} {ty : TypeId} {ps : String} {af : Array Edge} {g : Option (Nat × Bool)} {x0 : Operand} {v0 : Value} (f : Fr n a l) (hf : evl l x = some (.func (.func fn) #[] #[])) (hc : ∀ args w, (callFunc fn args).run P w = .ok (.enter fn args) w) (h0 : evl l x0 = some v0) :
    (execOp a.eval ⟨dst, .call { callee := .value x, args := #[x0], argTypes := ats }, ty, ps, af, g⟩).run P w = .ok (.enter fn #[v0]) w := by
  have := run_callV (dst := dst) (ats := ats) (ty := ty) (ps := ps) (af := af) (g := g) (w := w) (xs := #[x0]) f hf hc rfl
  simpa [f.ev h0] using this
theorem cv1_1 {P : Program} {a : Act} {w : World} {n : Nat} {l : FL} {fn : Nat} {x : Operand} {ats : Array TypeId} {dst : Option Nat} {ty : TypeId} {ps : String} {af : Array Edge} {g : Option (Nat × Bool)} {x0 : Operand} {v0 : Value} {c0 : Value} (f : Fr n a l) (hf : evl l x = some (.func (.func fn) #[] #[c0])) (hc : ∀ args w, (callFunc fn args).run P w = .ok (.enter fn args) w) (h0 : evl l x0 = some v0) :
    (execOp a.eval ⟨dst, .call { callee := .value x, args := #[x0], argTypes := ats }, ty, ps, af, g⟩).run P w = .ok (.enter fn #[v0, c0]) w := by
  have := run_callV (dst := dst) (ats := ats) (ty := ty) (ps := ps) (af := af) (g := g) (w := w) (xs := #[x0]) f hf hc rfl
  simpa [f.ev h0] using this
theorem cv2_0 {P : Program} {a : Act} {w : World} {n : Nat} {l : FL} {fn : Nat} {x : Operand} {ats : Array TypeId} {dst : Option Nat} {ty : TypeId} {ps : String} {af : Array Edge} {g : Option (Nat × Bool)} {x0 x1 : Operand} {v0 v1 : Value} (f : Fr n a l) (hf : evl l x = some (.func (.func fn) #[] #[])) (hc : ∀ args w, (callFunc fn args).run P w = .ok (.enter fn args) w) (h0 : evl l x0 = some v0) (h1 : evl l x1 = some v1) :
    (execOp a.eval ⟨dst, .call { callee := .value x, args := #[x0, x1], argTypes := ats }, ty, ps, af, g⟩).run P w = .ok (.enter fn #[v0, v1]) w := by
  have := run_callV (dst := dst) (ats := ats) (ty := ty) (ps := ps) (af := af) (g := g) (w := w) (xs := #[x0, x1]) f hf hc rfl
  simpa [f.ev h0, f.ev h1] using this
section
variable {w w' : World} {g : Nat} {t : TypeId} {cs : Array Value} {L : List Nat}
theorem Blk.cl (h : Blk w g t cs) {i : Nat} {v : Value} (hv : cs.toList[i]? = some v) : w.cell? ⟨g, i, none⟩ = some v := h.cell_ (by simpa using hv)
theorem Blk.range (h : Blk w g t cs) : w.rangeAt g 0 cs.toList := fun j v hv => by
  rw [Nat.zero_add]
  exact h.cell_ (by simpa using hv)
theorem Blk.there (h : Blk w g t cs) {o n : Nat} (hn : o + n ≤ cs.size) : w.there g o n := fun j hj => by
  refine ⟨?_, h.frozen _⟩
  rw [h.cell]
  simp
  omega
structure Newb (w w' : World) (g : Nat) (t : TypeId) (cs : Array Value) : Prop where
  blk : Blk w' g t cs
  kept : Kept [] w w'
  lo : w.heap.size ≤ g
theorem newb (w : World) (t : TypeId) (cs : Array Value) : Newb w (w.alloc (.cells cs t)) w.heap.size t cs := ⟨Blk.new w t cs, (Kept.refl [] w).alloc _, Nat.le_refl _⟩
theorem setCells_blk (h : Blk w g t cs) (cs' : Array Value) (hs : cs'.size = cs.size) : Blk (w.setCells g 0 cs'.toList) g t cs' := by
  obtain ⟨cur, h1, h2, h3, h4⟩ := setCells_block g cs'.toList 0 w cs t (0, 0) h
  have : cur = cs' := by
    apply Array.ext (by omega)
    intro i hi hi'
    have := h4 i cs'[i] (by simp [hi']) (by omega)
    rw [Nat.zero_add] at this
    rw [Array.getElem?_eq_getElem hi] at this
    simpa using this
  rw [this] at h1
  exact h1
theorem setCells_kept (w : World) (g o : Nat) (vs : List Value) : Kept [g] w (w.setCells g o vs) := by
  obtain ⟨b1, b2, b3, b4⟩ := setCells_facts g vs o w
  exact ⟨b1, b2, b3, by omega, fun k hk hn => setCells_other g _ _ w k (by simpa using hn)⟩
theorem setCell_kept (w : World) (g o : Nat) (v : Value) : Kept [g] w (w.setCell ⟨g, o, none⟩ v) := (Kept.refl [g] w).setCell (p := ⟨g, o, none⟩) (by simp) v
end
section
variable {P : Program} {ops : Array Oper} {rest : List Oper} {a : Act} {w : World} {Q : Exit → Act → World → Prop} {n d : Nat} {l : FL} {v : Value} {dst : Option Nat} {ty : TypeId} {ps : String} {af : Array Edge} {gd : Option (Nat × Bool)} {x y : Operand} {t : TypeId}
theorem L.alloc (f : Fr n a l) (hw : Region.wanted ⟨some d, .alloc t, ty, ps, af, gd⟩ (yielded ops a.tmps) = true) (hn : d < n) {z : Value} (hz : ∀ w, (zeroValue t).run P w = .ok z w) {cs : Array Value} (hcs : z.cells = cs)
    (hK : ∀ a' w' g, Newb w w' g t cs → Fr n a' ((d, .pointer (some ⟨g, 0, none⟩)) :: l) → wpList P ops Q rest a' w') : wpList P ops Q (⟨some d, .alloc t, ty, ps, af, gd⟩ :: rest) a w :=
  L.val f hw rfl hn (E.alloc f hz) fun a' f' => hK a' _ _ (hcs ▸ newb w t _) f'
theorem L.box (f : Fr n a l) (hw : Region.wanted ⟨some d, .box t x, ty, ps, af, gd⟩ (yielded ops a.tmps) = true) (hn : d < n) (hx : evl l x = some v) {cs : Array Value} (hcs : v.cells = cs)
    (hK : ∀ a' w' g, Newb w w' g t cs → Fr n a' ((d, .pointer (some ⟨g, 0, none⟩)) :: l) → wpList P ops Q rest a' w') : wpList P ops Q (⟨some d, .box t x, ty, ps, af, gd⟩ :: rest) a w :=
  L.val f hw rfl hn (E.box f hx) fun a' f' => hK a' _ _ (hcs ▸ newb w t _) f'
theorem L.store (f : Fr n a l) (hw : Region.wanted ⟨none, .store t x y, ty, ps, af, gd⟩ (yielded ops a.tmps) = true) (hi : (P.info? t).map (·.size) = some 1) {g o : Nat} {e : TypeId} {cs : Array Value} (hx : evl l x = some (.pointer (some ⟨g, o, none⟩))) (hy : evl l y = some v) (h1 : v.oneCell' = true)
    (B : Blk w g e cs) (ho : o < cs.size) (hK : ∀ a' w', Fr n a' l → Blk w' g e (cs.setIfInBounds o v) → Kept [g] w w' → wpList P ops Q rest a' w') : wpList P ops Q (⟨none, .store t x y, ty, ps, af, gd⟩ :: rest) a w :=
  L.act f hw rfl (E.store f hi hx hy h1 (B.cell_ (Array.getElem?_eq_getElem ho)) (B.frozen o)) fun a' f' => hK a' _ f' (B.set_ o v) (setCell_kept w g o v)
theorem L.storeR (f : Fr n a l) (hw : Region.wanted ⟨none, .store t x y, ty, ps, af, gd⟩ (yielded ops a.tmps) = true) {g : Nat} {e : TypeId} {cs cs' : Array Value} {s : Nat} (hi : (P.info? t).map (·.size) = some s) (hx : evl l x = some (.pointer (some ⟨g, 0, none⟩))) (hy : evl l y = some (.agg cs')) (h1 : cs'.toList.all (·.oneCell') = true)
    (B : Blk w g e cs) (hs : cs'.size = cs.size) (hl : cs'.size = s) (hK : ∀ a' w', Fr n a' l → Blk w' g e cs' → Kept [g] w w' → wpList P ops Q rest a' w') : wpList P ops Q (⟨none, .store t x y, ty, ps, af, gd⟩ :: rest) a w :=
  L.act f hw rfl (E.storeR f (hl ▸ hi) hx hy (by simpa using h1) (B.there (by omega))) fun a' f' => hK a' _ f' (setCells_blk B cs' hs) (setCells_kept w g 0 _)
theorem E.loadB (f : Fr n a l) {g : Nat} {e : TypeId} {cs : Array Value} {d : TypeDesc} {s : Nat} (ht : P.underlying t = some d) (hd : d.isRow = true) (hi : (P.info? t).map (·.size) = some s) (hx : evl l x = some (.pointer (some ⟨g, 0, none⟩))) (B : Blk w g e cs) (hl : cs.size = s) :
    (execOp a.eval ⟨dst, .load t x, ty, ps, af, gd⟩).run P w = .ok (.value (.agg cs)) w := by
  have := E.loadR (P := P) (w := w) (dst := dst) (ty := ty) (ps := ps) (af := af) (g := gd) (t := t) f ht hd (cs := cs.toList) hi hx B.range (by simpa using hl)
  simpa using this
end
end Go.Hub
namespace Go.Hub
open Go.RowKit
def Sl (w : World) (A : Option Addr) (n size : Nat) (xs : List Value) : Prop :=
  xs.length = n * size ∧ (0 < n → ∃ b off, A = some ⟨b, off, none⟩ ∧ b < w.heap.size ∧ ∀ j u, xs[j]? = some u → w.cell? ⟨b, off + j, none⟩ = some u)
def Far (A : Option Addr) (L : List Nat) : Prop := ∀ a, A = some a → a.block ∉ L
section
variable {w w' : World} {A : Option Addr} {n size : Nat} {xs : List Value} {L : List Nat}
theorem Sl.nil (w : World) (A : Option Addr) (size : Nat) : Sl w A 0 size [] := ⟨by simp, fun h => absurd h (by omega)⟩
theorem Sl.keptF (h : Sl w A n size xs) (hk : Kept L w w') (hf : Far A L) : Sl w' A n size xs :=
  ⟨h.1, fun hn => by
    obtain ⟨b, off, e, hb, hc⟩ := h.2 hn
    refine ⟨b, off, e, Nat.lt_of_lt_of_le hb hk.size, fun j u hu => ?_⟩
    rw [hk.cell (p := ⟨b, off + j, none⟩) hb (hf ⟨b, off, none⟩ e)]
    exact hc j u hu⟩
theorem Far.nil (A : Option Addr) : Far A [] := fun _ _ => by simp
theorem Sl.kept (h : Sl w A n size xs) (hk : Kept [] w w') : Sl w' A n size xs := h.keptF hk (Far.nil A)
theorem Sl.of_own {e : TypeId} {c : Nat} (h : Own w e size (.slice A n c) n xs) : Sl w A n size xs := by
  refine ⟨h.1, fun hn => ?_⟩
  rcases h.2 with ⟨_, h0⟩ | ⟨g, off, cap, cur, hv, hg, _, _, _, hc⟩
  · omega
  · injection hv with hA
    refine ⟨g, off, hA, (Array.getElem?_eq_some_iff.1 hg).1, fun j x hx => ?_⟩
    rw [cell_of_row w g _ cur e (0, 0) hg]
    exact hc j _ hx
theorem Sl.rds (h : Sl w A n size xs) : Rds w w.heap.size size A n xs := ⟨h.1, h.2⟩
theorem Sl.of_rds (h : Rds w w.heap.size size A n xs) : Sl w A n size xs := ⟨h.1, h.2⟩
theorem Sl.addr (h : Sl w A n size xs) (hn : 0 < n) : ∃ b off, A = some ⟨b, off, none⟩ := by
  obtain ⟨b, off, e, _⟩ := h.2 hn
  exact ⟨b, off, e⟩
theorem Sl.cell (h : Sl w A n size xs) {b off j : Nat} {u : Value} (hn : 0 < n) (hA : A = some ⟨b, off, none⟩) (hu : xs[j]? = some u) : w.cell? ⟨b, off + j, none⟩ = some u := by
  obtain ⟨b', off', e, _, hc⟩ := h.2 hn
  rw [hA] at e
  injection e with e
  injection e with e1 e2
  subst e1 e2
  exact hc j u hu
theorem Sl.row (h : Sl w A n size xs) {b off i : Nat} {cs : List Value} (hn : 0 < n) (hA : A = some ⟨b, off, none⟩) (hu : ∀ j u, cs[j]? = some u → xs[i * size + j]? = some u) : w.rangeAt b (off + i * size) cs := fun j u hj => by
  rw [Nat.add_assoc]
  exact h.cell hn hA (hu j u hj)
end
section
variable {P : Program} {a : Act} {w : World} {n : Nat} {l : FL} {dst : Option Nat} {ty : TypeId} {ps : String} {af : Array Edge} {g : Option (Nat × Bool)} {x y : Operand} {t : TypeId}
theorem E.indexA (f : Fr n a l) {e : TypeId} {A : Option Addr} {b o m c s : Nat} {k : IntKind} {i : Int} (hA : A = some ⟨b, o, none⟩) (ht : P.underlying t = some (.slice e)) (hs : (P.info? e).map (·.size) = some s) (hx : evl l x = some (.slice A m c)) (hy : evl l y = some (.int k i))
    (h0 : 0 ≤ i) (h1 : i < m) : (execOp a.eval ⟨dst, .indexAddr t x y, ty, ps, af, g⟩).run P w = .ok (.value (.pointer (some ⟨b, o + i.toNat * s, none⟩))) w := by
  subst hA
  exact E.indexAddr f ht hs hx hy h0 h1
theorem E.makeFunc1 (f : Fr n a l) {fn : Fn} {v : Value} (hx : evl l x = some v) : (execOp a.eval ⟨dst, .makeFunc fn #[] #[x], ty, ps, af, g⟩).run P w = .ok (.value (.func fn #[] #[v])) w := by simp [execOp, Instr.makeFunc, f.ev hx]
end
section
variable {M : Type} (cell : M → List Value) (size : Nat) (hs : ∀ m, (cell m).length = size)
include hs
theorem flat_len (l : List M) : (l.flatMap cell).length = l.length * size := by
  induction l with
  | nil => simp
  | cons a r ih => simp [ih, hs, Nat.add_mul]; omega
theorem flat_at (l : List M) (i : Nat) (m : M) (h : l[i]? = some m) (j : Nat) (u : Value) (hu : (cell m)[j]? = some u) : (l.flatMap cell)[i * size + j]? = some u := by
  induction l generalizing i with
  | nil => simp at h
  | cons a r ih =>
    have hj : j < size := by
      have := (List.getElem?_eq_some_iff.1 hu).1
      rwa [hs] at this
    match i with
    | 0 =>
      simp at h
      subst h
      simp only [List.flatMap_cons, Nat.zero_mul, Nat.zero_add]
      rw [List.getElem?_append_left (by rw [hs]; exact hj)]
      exact hu
    | i + 1 =>
      have := ih i (by simpa using h)
      simp only [List.flatMap_cons]
      rw [List.getElem?_append_right (by rw [hs, Nat.add_mul]; omega), hs, Nat.add_mul, Nat.one_mul]
      rw [show i * size + size + j - size = i * size + j from by omega]
      exact this
end
end Go.Hub
namespace Go.Hub
open Go.RowKit
structure Dt where
  node : Int
  epoch : Int
  n : Int
deriving DecidableEq
abbrev dcell (d : Dt) : List Value := [.int .i64 d.node, .int .i64 d.epoch, .int .i64 d.n]
def dcells (l : List Dt) : List Value := l.flatMap dcell
theorem dcells_len (l : List Dt) : (dcells l).length = l.length * 3 := flat_len dcell 3 (fun _ => rfl) l
theorem dcells_at (l : List Dt) (i : Nat) (d : Dt) (h : l[i]? = some d) : ∀ j u, (dcell d)[j]? = some u → (dcells l)[i * 3 + j]? = some u := fun j u hu => flat_at dcell 3 (fun _ => rfl) l i d h j u hu
theorem dcells_one (l : List Dt) : ∀ u ∈ dcells l, u.oneCell' = true := fun u hu => by
  unfold dcells at hu
  simp at hu
  obtain ⟨d, _, rfl | rfl | rfl⟩ := hu <;> rfl
def Ds (w : World) (A : Option Addr) (l : List Dt) : Prop := Sl w A l.length 3 (dcells l)
section
variable {w w' : World} {A : Option Addr} {l : List Dt} {L : List Nat}
theorem Ds.kept (h : Ds w A l) (hk : Kept [] w w') : Ds w' A l := Sl.kept h hk
theorem Ds.row (h : Ds w A l) {b off i : Nat} {d : Dt} (hA : A = some ⟨b, off, none⟩) (hd : l[i]? = some d) : w.rangeAt b (off + i * 3) (dcell d) :=
  Sl.row h (by have := (List.getElem?_eq_some_iff.1 hd).1; omega) hA (dcells_at l i d hd)
theorem Ds.addr (h : Ds w A l) {i : Nat} (hi : i < l.length) : ∃ b off, A = some ⟨b, off, none⟩ := Sl.addr h (by omega)
theorem Ds.nil (w : World) (A : Option Addr) : Ds w A [] := Sl.nil w A 3
end
def cmpI (x y : Int) : Int := if x < y then -1 else if y < x then 1 else 0
def livesI (a b : Dt) : Int := if cmpI a.node b.node = 0 then cmpI a.epoch b.epoch else cmpI a.node b.node
def mayB (d : Dt) : Bool := decide (0 ≤ d.node) && decide (d.node < 16) && decide (1 ≤ d.epoch) && decide (1 ≤ d.n)
def nextOk (p : Option Dt) (d : Dt) : Bool := match p with | none => true | some q => decide (livesI q d < 0)
def rightFrom : Option Dt → List Dt → Bool
  | _, [] => true
  | p, d :: r => mayB d && nextOk p d && rightFrom (some d) r
def rightB (l : List Dt) : Bool := rightFrom none l
def topI (l : List Dt) (node epoch : Int) : Int := match l.find? fun x => decide (x.node = node) && decide (x.epoch = epoch) with | some x => x.n | none => 0
def prevD (l : List Dt) (k : Nat) : Option Dt := if k = 0 then none else l[k - 1]?
theorem right_step (l : List Dt) (k : Nat) (d : Dt) (h : l[k]? = some d) : rightFrom (prevD l k) (l.drop k) = (mayB d && nextOk (prevD l k) d && rightFrom (prevD l (k + 1)) (l.drop (k + 1))) := by
  have hk := (List.getElem?_eq_some_iff.1 h).1
  rw [List.drop_eq_getElem_cons hk]
  have e : l[k] = d := by rw [List.getElem?_eq_getElem hk] at h; simpa using h
  rw [e]
  have e2 : prevD l (k + 1) = some d := by simp [prevD, h]
  rw [e2]
  rfl
theorem prev_none {l : List Dt} {k : Nat} (d : Dt) (h : k = 0) : nextOk (prevD l k) d = true := by subst h; rfl
theorem prev_some {l : List Dt} {k : Nat} {q : Dt} (d : Dt) (h : 0 < k) (hq : l[Int.toNat ((k : Int) - 1)]? = some q) : nextOk (prevD l k) d = decide (livesI q d < 0) := by
  have e : Int.toNat ((k : Int) - 1) = k - 1 := by omega
  rw [e] at hq
  unfold prevD
  rw [if_neg (by omega), hq]
  rfl
end Go.Hub
namespace Go.Hub
def lt2 (a b : Dt) : Prop := a.node < b.node ∨ (a.node = b.node ∧ a.epoch < b.epoch)
instance (a b : Dt) : Decidable (lt2 a b) := by unfold lt2; exact inferInstance
theorem lives_lt (a b : Dt) : livesI a b < 0 ↔ lt2 a b := by
  unfold livesI cmpI lt2
  repeat' split
  all_goals omega
theorem lives_ge (a b : Dt) : 0 ≤ livesI a b ↔ ¬ lt2 a b := by
  rw [← lives_lt]; omega
theorem lives_eq (a b : Dt) : livesI a b = 0 ↔ a.node = b.node ∧ a.epoch = b.epoch := by
  unfold livesI cmpI
  repeat' split
  all_goals omega
theorem lt2_trans {a b c : Dt} (h : lt2 a b) (k : lt2 b c) : lt2 a c := by unfold lt2 at *; omega
def Rises (l : List Dt) : Prop := (∀ (i j : Nat) (a b : Dt), i < j → l[i]? = some a → l[j]? = some b → lt2 a b) ∧ ∀ a ∈ l, mayB a = true
theorem rises_from : ∀ (l : List Dt) (p : Option Dt), rightFrom p l = true → Rises l ∧ ∀ q, p = some q → ∀ a ∈ l, lt2 q a := by
  intro l
  induction l with
  | nil => intro p _; exact ⟨⟨fun i j a b _ h => by simp at h, fun a h => by simp at h⟩, fun q _ a h => by simp at h⟩
  | cons d r ih =>
    intro p h
    simp only [rightFrom, Bool.and_eq_true] at h
    obtain ⟨⟨h1, h2⟩, h3⟩ := h
    obtain ⟨⟨i1, i2⟩, i3⟩ := ih _ h3
    have hd := i3 d rfl
    refine ⟨⟨fun i j a b hij ha hb => ?_, fun a ha => ?_⟩, fun q hq a ha => ?_⟩
    · match i, j, hij with
      | 0, j + 1, _ =>
        simp at ha hb
        subst ha
        exact hd b (List.mem_of_getElem? hb)
      | i + 1, j + 1, hij => exact i1 i j a b (by omega) (by simpa using ha) (by simpa using hb)
    · rcases List.mem_cons.1 ha with rfl | ha
      · exact h1
      exact i2 a ha
    subst hq
    have hq : lt2 q d := by
      simp only [nextOk, decide_eq_true_eq] at h2
      exact (lives_lt _ _).1 h2
    rcases List.mem_cons.1 ha with rfl | ha
    · exact hq
    exact lt2_trans hq (hd a ha)
theorem rises {l : List Dt} (h : rightB l = true) : Rises l := (rises_from l none h).1
theorem topI_some {l : List Dt} (h : rightB l = true) {i : Nat} {x : Dt} (hx : l[i]? = some x) : topI l x.node x.epoch = x.n := by
  have hr := rises h
  unfold topI
  have hf : l.find? (fun y => decide (y.node = x.node) && decide (y.epoch = x.epoch)) = some x := by
    rw [List.find?_eq_some_iff_getElem]
    refine ⟨by simp, i, (List.getElem?_eq_some_iff.1 hx).1, (List.getElem?_eq_some_iff.1 hx).2, fun j hj => ?_⟩
    have hjl : j < l.length := by have := (List.getElem?_eq_some_iff.1 hx).1; omega
    have := hr.1 j i l[j] x hj (List.getElem?_eq_getElem hjl) hx
    unfold lt2 at this
    simp
    omega
  rw [hf]
theorem topI_none {l : List Dt} {node epoch : Int} (h : ∀ x ∈ l, ¬ (x.node = node ∧ x.epoch = epoch)) : topI l node epoch = 0 := by
  unfold topI
  have hf : l.find? (fun y => decide (y.node = node) && decide (y.epoch = epoch)) = none := by
    rw [List.find?_eq_none]
    intro x hx
    have := h x hx
    simpa using this
  rw [hf]
structure Srch (l : List Dt) (d : Dt) (i : Nat) (b : Bool) : Prop where
  le : i ≤ l.length
  lo : ∀ (j : Nat) a, j < i → l[j]? = some a → lt2 a d
  hi : ∀ (j : Nat) a, i ≤ j → l[j]? = some a → ¬ lt2 a d
  is : b = true ↔ ∃ a, l[i]? = some a ∧ a.node = d.node ∧ a.epoch = d.epoch
theorem Srch.top {l : List Dt} {d : Dt} {i : Nat} (hr : Rises l) (h : Srch l d i false) : topI l d.node d.epoch = 0 := by
  refine topI_none fun x hx hh => ?_
  obtain ⟨j, hj, he⟩ := List.getElem_of_mem hx
  have hj' : l[j]? = some x := by rw [List.getElem?_eq_getElem hj, he]
  have hle : i ≤ j := by
    rcases Nat.lt_or_ge j i with h1 | h1
    · have := h.lo j x h1 hj'
      unfold lt2 at this
      omega
    exact h1
  rcases Nat.lt_or_ge i j with h2 | h2
  · have hi' : i < l.length := by omega
    have h3 := h.hi i l[i] (Nat.le_refl _) (List.getElem?_eq_getElem hi')
    have h4 := hr.1 i j l[i] x h2 (List.getElem?_eq_getElem hi') hj'
    exfalso
    unfold lt2 at h3 h4
    omega
  obtain rfl : i = j := by omega
  have := h.is.2 ⟨x, hj', hh⟩
  cases this
theorem Srch.is_top {l : List Dt} {d : Dt} {i : Nat} (hr : rightB l = true) (h : Srch l d i true) : ∃ a, l[i]? = some a ∧ a.n = topI l d.node d.epoch := by
  obtain ⟨a, h1, h2, h3⟩ := h.is.1 rfl
  exact ⟨a, h1, by rw [← h2, ← h3, topI_some hr h1]⟩
structure Half (l : List Dt) (d : Dt) (i j : Nat) : Prop where
  ij : i ≤ j
  jn : j ≤ l.length
  lo : ∀ (k : Nat) a, k < i → l[k]? = some a → lt2 a d
  hi : ∀ (k : Nat) a, j ≤ k → l[k]? = some a → ¬ lt2 a d
theorem Half.start (l : List Dt) (d : Dt) : Half l d 0 l.length := ⟨Nat.zero_le _, Nat.le_refl _, fun k a h => by omega, fun k a h hk => by have := (List.getElem?_eq_some_iff.1 hk).1; omega⟩
theorem Half.right {l : List Dt} {d a : Dt} {i j h : Nat} (H : Half l d i j) (hr : Rises l) (h1 : i ≤ h) (h2 : h < j) (ha : l[h]? = some a) (hl : lt2 a d) : Half l d (h + 1) j :=
  ⟨by omega, H.jn, fun k b hk hb => by
    rcases Nat.lt_or_ge k h with h3 | h3
    · exact lt2_trans (hr.1 k h b a h3 hb ha) hl
    obtain rfl : k = h := by omega
    rw [ha] at hb
    cases hb
    exact hl, H.hi⟩
theorem Half.left {l : List Dt} {d a : Dt} {i j h : Nat} (H : Half l d i j) (hr : Rises l) (h1 : i ≤ h) (h2 : h < j) (ha : l[h]? = some a) (hl : ¬ lt2 a d) : Half l d i h :=
  ⟨h1, by have := H.jn; omega, H.lo, fun k b hk hb hlt => by
    rcases Nat.lt_or_ge h k with h3 | h3
    · exact hl (lt2_trans (hr.1 h k a b h3 ha hb) hlt)
    obtain rfl : k = h := by omega
    rw [ha] at hb
    cases hb
    exact hl hlt⟩
theorem Half.found {l : List Dt} {d : Dt} {i : Nat} {b : Bool} (H : Half l d i i) (hb : b = true ↔ ∃ a, l[i]? = some a ∧ a.node = d.node ∧ a.epoch = d.epoch) : Srch l d i b := ⟨H.jn, H.lo, H.hi, hb⟩
theorem Half.found1 {l : List Dt} {d m : Dt} {i : Nat} (H : Half l d i i) (hd : l[i]? = some m) : Srch l d i (decide (livesI m d = 0)) := H.found (by
  rw [decide_eq_true_iff, lives_eq]
  constructor
  · intro h; exact ⟨m, hd, h⟩
  rintro ⟨a, ha, h⟩
  rw [hd] at ha
  cases ha
  exact h)
theorem Half.found0 {l : List Dt} {d : Dt} {i : Nat} (H : Half l d i i) (hd : l[i]? = none) : Srch l d i false := H.found (by simp [hd])
def topR (l : List Dt) (x y : Int) : Int := if rightB l then topI l x y else 0
def hasB (l : List Dt) (d : Dt) : Bool := decide (1 ≤ d.n) && decide (d.n ≤ topR l d.node d.epoch)
def insD : List Dt → Dt → List Dt
  | [], d => [d]
  | x :: r, d => if lt2 x d then x :: insD r d else if lt2 d x then d :: x :: r else { x with n := d.n } :: r
def addD (l : List Dt) (d : Dt) : List Dt := if rightB l = false then [] else if mayB d = false ∨ hasB l d = true then l else insD l d
theorem insD_at : ∀ (l : List Dt) (d : Dt) (k : Nat), (∀ x ∈ l.take k, lt2 x d) → (∀ x, l[k]? = some x → ¬ lt2 x d) → k ≤ l.length →
    insD l d = (match l[k]? with | some x => if lt2 d x then l.take k ++ d :: l.drop k else l.set k { x with n := d.n } | none => l ++ [d]) := by
  intro l
  induction l with
  | nil => intro d k _ _ hk; simp at hk; subst hk; simp [insD]
  | cons x r ih =>
    intro d k h1 h2 hk
    match k with
    | 0 =>
      have := h2 x (by simp)
      simp only [insD, if_neg this]
      simp
    | k + 1 =>
      have hx : lt2 x d := h1 x (by simp)
      have := ih d k (fun y hy => h1 y (by simp [hy])) (fun y hy => h2 y (by simpa using hy)) (by simpa using hk)
      simp only [insD, if_pos hx, this]
      simp only [List.getElem?_cons_succ]
      split
      · split <;> simp
      simp
theorem dcells_append (a b : List Dt) : dcells (a ++ b) = dcells a ++ dcells b := by simp [dcells]
theorem dcells_take (l : List Dt) (k : Nat) : (dcells l).take (k * 3) = dcells (l.take k) := by
  induction l generalizing k with
  | nil => simp [dcells]
  | cons x r ih =>
    match k with
    | 0 => simp [dcells]
    | k + 1 =>
      have := ih k
      simp only [dcells, List.flatMap_cons, List.take_succ_cons] at this ⊢
      rw [show (k + 1) * 3 = k * 3 + 1 + 1 + 1 by omega, ← this]
      rfl
theorem dcells_drop (l : List Dt) (k : Nat) : (dcells l).drop (k * 3) = dcells (l.drop k) := by
  induction l generalizing k with
  | nil => simp [dcells]
  | cons x r ih =>
    match k with
    | 0 => simp [dcells]
    | k + 1 =>
      have := ih k
      simp only [dcells, List.flatMap_cons, List.drop_succ_cons] at this ⊢
      rw [show (k + 1) * 3 = k * 3 + 1 + 1 + 1 by omega, ← this]
      rfl
theorem dcells_set : ∀ (l : List Dt) (k : Nat) (x : Dt) (m : Int), l[k]? = some x → (dcells l).set (k * 3 + 2) (.int .i64 m) = dcells (l.set k { x with n := m })
  | [], _, _, _, h => by simp at h
  | y :: r, 0, x, m, h => by
    simp at h
    subst h
    rfl
  | y :: r, k + 1, x, m, h => by
    have := dcells_set r k x m (by simpa using h)
    simp only [dcells, List.flatMap_cons, List.set_cons_succ] at this ⊢
    rw [← this, show (k + 1) * 3 + 2 = (k * 3 + 2) + 3 by omega]
    rfl
end Go.Hub
namespace Go.Hub
def key (d : Dt) (x y : Int) : Bool := decide (d.node = x) && decide (d.epoch = y)
theorem may_of {d : Dt} (h : mayB d = true) : 0 ≤ d.node ∧ d.node < 16 ∧ 1 ≤ d.epoch ∧ 1 ≤ d.n := by
  simp only [mayB, Bool.and_eq_true, decide_eq_true_eq] at h
  omega
def lt3 (a b : Dt) : Prop := a.node < b.node ∨ (a.node = b.node ∧ (a.epoch < b.epoch ∨ (a.epoch = b.epoch ∧ a.n < b.n)))
instance (a b : Dt) : Decidable (lt3 a b) := by unfold lt3; exact inferInstance
end Go.Hub
namespace Go.Hub
open Go.RowKit
section
variable {P : Program} {ops : Array Oper} {Q : Exit → Act → World → Prop} {md : Region.Mode} {S : World → Prop} {a : Act} {w w' : World} {n d : Nat} {l : FL} {v : Value} {o : Oper} {K : Act → World → Prop}
theorem O.val {i : Nat} (f : Fr n a l) (hi : ops[i]? = some o) (hd : o.dst = some d) (hn : d < n) (hw : Region.wanted o (yielded ops a.tmps) = true)
    (hv : (execOp a.eval o).run P w = .ok (.value v) w') (hS : S w') (hK : ∀ a', Fr n a' ((d, v) :: l) → K a' w') : wpOp P ops Q i (fun a w => S w ∧ K a w) a w := by
  unfold wpOp
  simp only [hi, hw, if_true]
  refine .inl ?_
  unfold Oper.wp
  rw [hv]
  show S w' ∧ K (a.put o.dst v) w'
  rw [hd]
  exact ⟨hS, hK _ (f.put d v hn)⟩
theorem R.one (i : Nat) {fuel : Nat} {listed : Array Bool} (hr : Region.ready md ops listed = [i]) (h : wpOp P ops Q i (fun a w => S w ∧ wpAnyH P md ops Q S fuel (listed.setIfInBounds i true) a w) a w) : wpAnyH P md ops Q S (fuel + 1) listed a w :=
  wpAnyH_all hr (by simp) fun j hj => by
    simp only [List.mem_singleton] at hj
    subst hj
    exact h
theorem R.two (i j : Nat) {fuel : Nat} {listed : Array Bool} (hr : Region.ready md ops listed = [i, j]) (h : wpOp P ops Q i (fun a w => S w ∧ wpAnyH P md ops Q S fuel (listed.setIfInBounds i true) a w) a w)
    (h' : wpOp P ops Q j (fun a w => S w ∧ wpAnyH P md ops Q S fuel (listed.setIfInBounds j true) a w) a w) : wpAnyH P md ops Q S (fuel + 1) listed a w :=
  wpAnyH_all hr (by simp) fun k hk => by
    simp only [List.mem_cons, List.not_mem_nil, or_false] at hk
    rcases hk with rfl | rfl
    · exact h
    · exact h'
end
section
variable {P : Program} {ops : Array Oper} {rest : List Oper} {a : Act} {w : World} {Q : Exit → Act → World → Prop} {n d : Nat} {l : FL} {v : Value} {ty : TypeId} {ps : String} {af : Array Edge} {gd : Option (Nat × Bool)} {x y : Operand} {t : TypeId}
theorem E.eqlNil {dst : Option Nat} (f : Fr n a l) {e : TypeId} {A : Option Addr} {m c : Nat} {u : TypeId} (ht : P.underlying t = some (.slice e)) (hx : evl l x = some (.slice A m c)) (hy : evl l y = some (.slice none 0 0)) : (execOp a.eval ⟨dst, .binOp .eql t x y u, ty, ps, af, gd⟩).run P w = .ok (.value (.bool A.isNone)) w :=
  E.eqlV f hx hy fun w => by
    rw [Sem.run_bind]
    have := Lib.run_eql_slice_nil (P := P) w t e A m c 0 0 ht
    simp only [eqGuard]
    exact this
theorem E.buildSlice {dst : Option Nat} (f : Fr n a l) {parts : Array (Nat × Operand)} {vs : List (Nat × Value)} {e len sz : Nat} {cells : Array Value} {z : Value} (hx : (parts.map fun p => (p.1, a.eval p.2)).toList = vs) (hu : P.underlying t = some (.slice e))
    (hi : (P.info? e).map (fun i => (i.zero, i.size)) = some (some z, sz)) (hs : Nat.ble (len * sz) 16777216 = true) (hp : Nat.beq (len * sz) 0 = false) (hf : Instr.fill (fun i => some (i * sz, sz)) ((Array.range (len * sz)).map fun j => z.cells[j % z.cells.size]!) vs = some cells) :
    (execOp a.eval ⟨dst, .buildSlice t len parts, ty, ps, af, gd⟩).run P w = .ok (.value (.slice (some ⟨w.heap.size, 0, none⟩) len len)) (w.alloc (.cells cells e)) := by
  cases hq : P.info? e with
  | none => simp [hq] at hi
  | some ie =>
    simp [hq] at hi
    obtain ⟨h1, h2⟩ := hi
    subst h2
    have hx' : (parts.map fun (i, x) => (i, a.eval x)).toList = vs := hx
    have hle := Nat.le_of_ble_eq_true hs
    have hr := run_buildSlice (P := P) w t e len (parts.map fun (i, x) => (i, a.eval x)) cells ie z hu hq h1 (by omega) (fun h0 => by rw [h0] at hp; simp at hp) (by rw [hx']; exact hf)
    simp only [execOp]
    rw [Sem.run_bind, hr]
    rfl
theorem E.buildNone {dst : Option Nat} (f : Fr n a l) {e : TypeId} {sz : Nat} (hu : P.underlying t = some (.slice e)) (hi : (P.info? e).map (·.size) = some sz) :
    (execOp a.eval ⟨dst, .buildSlice t 0 #[], ty, ps, af, gd⟩).run P w = .ok (.value (.slice (some ⟨w.heap.size, 0, none⟩) 0 0)) (w.alloc (.cells #[] e)) := by
  cases hq : P.info? e with
  | none => simp [hq] at hi
  | some ie =>
    have e0 : ∀ z : Array Value, (Array.range 0).map (fun x => z[x % z.size]!) = #[] := fun z => by simp
    have e1 : (Array.range 0).map (fun _ => (default : Value)) = #[] := by simp [Array.range]
    simp [execOp, Instr.buildSlice, run_underlying hu, sizeOf, typeInfo, hq, Instr.fill, newRow]
    rw [e1]
theorem L.buildSlice (f : Fr n a l) {parts : Array (Nat × Operand)} {len : Nat} (hw : Region.wanted ⟨some d, .buildSlice t len parts, ty, ps, af, gd⟩ (yielded ops a.tmps) = true) (hn : d < n) {vs : List (Nat × Value)} {e sz : Nat} {cells : Array Value} {z : Value} (hx : (parts.map fun p => (p.1, a.eval p.2)).toList = vs) (hu : P.underlying t = some (.slice e))
    (hi : (P.info? e).map (fun i => (i.zero, i.size)) = some (some z, sz)) (hs : Nat.ble (len * sz) 16777216 = true) (hp : Nat.beq (len * sz) 0 = false) (hf : Instr.fill (fun i => some (i * sz, sz)) ((Array.range (len * sz)).map fun j => z.cells[j % z.cells.size]!) vs = some cells)
    (hK : ∀ a' w' g, Newb w w' g e cells → Fr n a' ((d, .slice (some ⟨g, 0, none⟩) len len) :: l) → wpList P ops Q rest a' w') : wpList P ops Q (⟨some d, .buildSlice t len parts, ty, ps, af, gd⟩ :: rest) a w :=
  L.val f hw rfl hn (E.buildSlice f hx hu hi hs hp hf) fun a' f' => hK a' _ _ (newb w e _) f'
theorem L.buildNone (f : Fr n a l) (hw : Region.wanted ⟨some d, .buildSlice t 0 #[], ty, ps, af, gd⟩ (yielded ops a.tmps) = true) (hn : d < n) {e : TypeId} {sz : Nat} (hu : P.underlying t = some (.slice e)) (hi : (P.info? e).map (·.size) = some sz)
    (hK : ∀ a' w' g, Newb w w' g e #[] → Fr n a' ((d, .slice (some ⟨g, 0, none⟩) 0 0) :: l) → wpList P ops Q rest a' w') : wpList P ops Q (⟨some d, .buildSlice t 0 #[], ty, ps, af, gd⟩ :: rest) a w :=
  L.val f hw rfl hn (E.buildNone f hu hi) fun a' f' => hK a' _ _ (newb w e _) f'
theorem Newb.own {w w' : World} {g : Nat} {e : TypeId} {cs : Array Value} (h : Newb w w' g e cs) {k size : Nat} (hs : cs.size = k * size) (hk : k ≤ maxLen) : Own w' e size (.slice (some ⟨g, 0, none⟩) k k) k cs.toList :=
  ⟨by simpa using hs, .inr ⟨g, 0, k, cs, rfl, h.blk, Nat.le_refl _, hk, by omega, fun j u hu => by rw [Nat.zero_add]; simpa using hu⟩⟩
structure App (w w' : World) (e : TypeId) (size : Nat) (A : Option Addr) (k c : Nat) (xs news : List Value) (m : Nat) (A' : Option Addr) (c' : Nat) : Prop where
  own : Own w' e size (.slice A' (k + m) c') (k + m) (xs ++ news)
  kept : Kept (Value.slice A k c).ownBlock.toList w w'
  where_ : ∀ b, A'.map (·.block) = some b → A.map (·.block) = some b ∨ w.heap.size ≤ b
theorem E.append {dst : Option Nat} (f : Fr n a l) {e size bytes k c m c2 : Nat} {z : Value} {A A2 : Option Addr} {xs news : List Value} (ht : P.underlying t = some (.slice e)) (hi : (P.info? e).map (fun i => (i.zero, i.size, i.bytes)) = some (some z, size, bytes)) (hzs : z.cells.size = size) (hsz : Nat.blt 0 size = true)
    (hx : evl l x = some (.slice A k c)) (hy : evl l y = some (.slice A2 m c2)) (hown : Own w e size (.slice A k c) k xs) (hr : Sl w A2 m size news) (h1 : ∀ u ∈ news, u.oneCell' = true) (h63 : k + m ≤ maxLen) (hb : (k + m) * bytes ≤ 140737488355328) :
    ∃ A' c' w', (execOp a.eval ⟨dst, .call { callee := .builtin .append, args := #[x, y], argTypes := #[t, t] }, ty, ps, af, gd⟩).run P w = .ok (.value (.slice A' (k + m) c')) w' ∧ App w w' e size A k c xs news m A' c' := by
  obtain ⟨ie, hie, h2, h3, h4⟩ := info_parts hi
  obtain ⟨v', w', hrun, ho, hk, hwh⟩ := append_own (P := P) w t ty e ie z size bytes ht hie h2 h3 h4 hzs (by simpa using hsz) (.slice A k c) k xs hown w.heap.size A2 m c2 news hr.rds h1 h63 hb
  obtain ⟨A', c', rfl, _⟩ := ho.form
  refine ⟨A', c', w', ?_, ho, hk, fun b hb => ?_⟩
  · simp only [execOp, resolve, invoke, builtin, Sem.run_bind, Sem.run_pure, Result.andThen_ok, List.map_toArray, List.map_cons, List.map_nil, f.ev hx, f.ev hy, hrun]
  · have := hwh b (by cases A' <;> simp_all [Value.ownBlock])
    rcases this with h | h
    · exact .inl (by cases A <;> simp_all [Value.ownBlock])
    · exact .inr h
theorem L.append (f : Fr n a l) (hw : Region.wanted ⟨some d, .call { callee := .builtin .append, args := #[x, y], argTypes := #[t, t] }, ty, ps, af, gd⟩ (yielded ops a.tmps) = true) (hn : d < n) {e size bytes k c m c2 : Nat} {z : Value} {A A2 : Option Addr} {xs news : List Value} (ht : P.underlying t = some (.slice e)) (hi : (P.info? e).map (fun i => (i.zero, i.size, i.bytes)) = some (some z, size, bytes)) (hzs : z.cells.size = size) (hsz : Nat.blt 0 size = true)
    (hx : evl l x = some (.slice A k c)) (hy : evl l y = some (.slice A2 m c2)) (hown : Own w e size (.slice A k c) k xs) (hr : Sl w A2 m size news) (h1 : ∀ u ∈ news, u.oneCell' = true) (h63 : k + m ≤ maxLen) (hb : (k + m) * bytes ≤ 140737488355328)
    (hK : ∀ a' w' A' c', App w w' e size A k c xs news m A' c' → Fr n a' ((d, .slice A' (k + m) c') :: l) → wpList P ops Q rest a' w') : wpList P ops Q (⟨some d, .call { callee := .builtin .append, args := #[x, y], argTypes := #[t, t] }, ty, ps, af, gd⟩ :: rest) a w := by
  obtain ⟨A', c', w', hrun, happ⟩ := E.append (dst := some d) (ty := ty) (ps := ps) (af := af) (gd := gd) f ht hi hzs hsz hx hy hown hr h1 h63 hb
  exact L.val f hw rfl hn hrun fun a' f' => hK a' w' A' c' happ f'
end
structure Fresh (w w' : World) (e size : Nat) (A : Option Addr) (n c : Nat) (xs : List Value) : Prop where
  own : Own w' e size (.slice A n c) n xs
  lo : ∀ b, A.map (·.block) = some b → w.heap.size ≤ b
section
variable {w w' w'' : World} {e size k c m c' n : Nat} {A A' : Option Addr} {xs news : List Value}
theorem Fresh.nil (w w' : World) (e size : Nat) : Fresh w w' e size none 0 0 [] := ⟨Own.nil _ _ _, fun b h => by simp at h⟩
theorem Fresh.sl (h : Fresh w w' e size A n c xs) : Sl w' A n size xs := Sl.of_own h.own
theorem own_block (A : Option Addr) (n c : Nat) (b : Nat) : (Value.slice A n c).ownBlock = some b ↔ A.map (·.block) = some b := by cases A <;> simp [Value.ownBlock]
theorem Fresh.kept {L : List Nat} (h : Fresh w w' e size A n c xs) (hk : Kept L w' w'') (hf : ∀ b, A.map (·.block) = some b → b ∉ L) : Fresh w w'' e size A n c xs :=
  ⟨h.own.kept hk fun b hb => hf b ((own_block A n c b).1 hb), h.lo⟩
theorem Fresh.kept0 (h : Fresh w w' e size A n c xs) (hk : Kept [] w' w'') : Fresh w w'' e size A n c xs := h.kept hk (by simp)
theorem Fresh.lower {w0 : World} (h : Fresh w w' e size A n c xs) (hs : w0.heap.size ≤ w.heap.size) : Fresh w0 w' e size A n c xs := ⟨h.own, fun b hb => Nat.le_trans hs (h.lo b hb)⟩
theorem App.next {w0 : World} (h : App w w' e size A k c xs news m A' c') (hf : Fresh w0 w e size A k c xs) (hs : w0.heap.size ≤ w.heap.size) : Fresh w0 w' e size A' (k + m) c' (xs ++ news) :=
  ⟨h.own, fun b hb => by
    rcases h.where_ b hb with h1 | h1
    · exact hf.lo b h1
    · omega⟩
theorem App.grow {w0 : World} {L : List Nat} (h : App w w' e size A k c xs news m A' c') (hf : Fresh w0 w e size A k c xs) (hk : Kept L w0 w) : Kept L w0 w' :=
  hk.trans h.kept fun x hx hlt => by
    have := hf.lo x ((own_block A k c x).1 (by simpa using hx))
    omega
end
section
variable {w w' : World} {e size n c : Nat} {A : Option Addr} {xs : List Value}
theorem Own.set_ (h : Own w e size (.slice A n c) n xs) {b off j : Nat} (hA : A = some ⟨b, off, none⟩) (hj : j < xs.length) (u : Value) :
    (∃ old, w.cell? ⟨b, off + j, none⟩ = some old) ∧ w.frozen? ⟨b, off + j, none⟩ = false ∧ Own (w.setCell ⟨b, off + j, none⟩ u) e size (.slice A n c) n (xs.set j u) := by
  obtain ⟨h1, h2⟩ := h
  rcases h2 with ⟨hv, h0⟩ | ⟨g, o, cap, cur, hv, hg, hnc, hcm, hcs, hc⟩
  · subst h0
    rw [h1, Nat.zero_mul] at hj
    omega
  · injection hv with e1 e2 e3
    subst e3
    rw [hA] at e1
    injection e1 with e1
    injection e1 with e4 e5
    subst e4 e5
    have hB : Blk w b e cur := hg
    have hlt : off + j < cur.size := by
      have : n * size ≤ c * size := Nat.mul_le_mul_right _ hnc
      omega
    refine ⟨⟨cur[off + j], hB.cell_ (Array.getElem?_eq_getElem hlt)⟩, hB.frozen _, by rw [List.length_set]; exact h1, .inr ⟨b, off, c, cur.setIfInBounds (off + j) u, by rw [hA], hB.set_ _ _, hnc, hcm, by simpa using hcs, fun i v hv => ?_⟩⟩
    rw [Array.getElem?_setIfInBounds]
    rw [List.getElem?_set] at hv
    by_cases hij : j = i
    · subst hij
      rw [if_pos rfl, if_pos hj] at hv
      rw [if_pos rfl, if_pos hlt]
      exact hv
    · rw [if_neg hij] at hv
      rw [if_neg (by omega)]
      exact hc i v hv
end
section
variable {P : Program} {ops : Array Oper} {Q : Exit → Act → World → Prop} {S : World → Prop} {a : Act} {w : World} {n d : Nat} {l : FL} {K : Act → World → Prop} {ty : TypeId} {ps : String} {af : Array Edge} {gd : Option (Nat × Bool)} {x y : Operand} {t : TypeId}
theorem O.buildSlice {i : Nat} (f : Fr n a l) {parts : Array (Nat × Operand)} {len : Nat} (ho : ops[i]? = some ⟨some d, .buildSlice t len parts, ty, ps, af, gd⟩) (hw : Region.wanted ⟨some d, .buildSlice t len parts, ty, ps, af, gd⟩ (yielded ops a.tmps) = true) (hn : d < n) {vs : List (Nat × Value)} {e sz : Nat} {cells : Array Value} {z : Value} (hx : (parts.map fun p => (p.1, a.eval p.2)).toList = vs) (hu : P.underlying t = some (.slice e))
    (hi : (P.info? e).map (fun i => (i.zero, i.size)) = some (some z, sz)) (hs : Nat.ble (len * sz) 16777216 = true) (hp : Nat.beq (len * sz) 0 = false) (hf : Instr.fill (fun i => some (i * sz, sz)) ((Array.range (len * sz)).map fun j => z.cells[j % z.cells.size]!) vs = some cells)
    (hS : ∀ w', Kept [] w w' → S w') (hK : ∀ a' w' g, Newb w w' g e cells → S w' → Fr n a' ((d, .slice (some ⟨g, 0, none⟩) len len) :: l) → K a' w') : wpOp P ops Q i (fun a w => S w ∧ K a w) a w :=
  O.val f ho rfl hn hw (E.buildSlice f hx hu hi hs hp hf) (hS _ (newb w e _).kept) fun a' f' => hK a' _ _ (newb w e _) (hS _ (newb w e _).kept) f'
theorem O.alloc {i : Nat} (f : Fr n a l) (ho : ops[i]? = some ⟨some d, .alloc t, ty, ps, af, gd⟩) (hw : Region.wanted ⟨some d, .alloc t, ty, ps, af, gd⟩ (yielded ops a.tmps) = true) (hn : d < n) {z : Value} (hz : ∀ w, (zeroValue t).run P w = .ok z w) {cs : Array Value} (hcs : z.cells = cs)
    (hS : ∀ w', Kept [] w w' → S w') (hK : ∀ a' w' g, Newb w w' g t cs → S w' → Fr n a' ((d, .pointer (some ⟨g, 0, none⟩)) :: l) → K a' w') : wpOp P ops Q i (fun a w => S w ∧ K a w) a w :=
  O.val f ho rfl hn hw (E.alloc f hz) (hS _ (newb w t _).kept) fun a' f' => hK a' _ _ (hcs ▸ newb w t _) (hS _ (newb w t _).kept) f'
end
end Go.Hub
namespace Go.Hub
open Go.RowKit
def setSeg : List Value → Nat → List Value → List Value
  | xs, _, [] => xs
  | xs, o, v :: r => setSeg (xs.set o v) (o + 1) r
theorem setSeg_len : ∀ (vs xs : List Value) (o : Nat), (setSeg xs o vs).length = xs.length
  | [], _, _ => rfl
  | v :: r, xs, o => by rw [setSeg, setSeg_len r, List.length_set]
theorem setSeg_at : ∀ (vs xs : List Value) (o i : Nat), o + vs.length ≤ xs.length → (setSeg xs o vs)[i]? = if o ≤ i ∧ i < o + vs.length then vs[i - o]? else xs[i]?
  | [], xs, o, i, _ => by
    have : ¬ (o ≤ i ∧ i < o + ([] : List Value).length) := by simp
    rw [if_neg this]
    rfl
  | v :: r, xs, o, i, h => by
    simp only [List.length_cons] at h
    rw [setSeg, setSeg_at r _ (o + 1) i (by rw [List.length_set]; omega)]
    by_cases h1 : o + 1 ≤ i ∧ i < o + 1 + r.length
    · rw [if_pos h1, if_pos (by simp; omega)]
      rw [show i - o = (i - (o + 1)) + 1 by omega]
      rfl
    · rw [if_neg h1, List.getElem?_set]
      by_cases h2 : o = i
      · subst h2
        rw [if_pos rfl, if_pos (by omega), if_pos (by simp)]
        simp
      · rw [if_neg h2, if_neg (by simp; omega)]
section
variable {M : Type} (cell : M → List Value) (size : Nat) (hs : ∀ m, (cell m).length = size)
include hs
theorem flat_get (l : List M) (i : Nat) : (l.flatMap cell)[i]? = (l[i / size]?).bind fun m => (cell m)[i % size]? := by
  induction l generalizing i with
  | nil => simp
  | cons a r ih =>
    simp only [List.flatMap_cons]
    rcases Nat.lt_or_ge i size with h | h
    · rw [List.getElem?_append_left (by rw [hs]; exact h), Nat.div_eq_of_lt h, Nat.mod_eq_of_lt h]
      rfl
    · rw [List.getElem?_append_right (by rw [hs]; exact h), hs, ih]
      rcases Nat.eq_zero_or_pos size with h0 | h0
      · subst h0
        have : ∀ m, cell m = [] := fun m => List.eq_nil_of_length_eq_zero (hs m)
        simp [this]
      · rw [Nat.div_eq_sub_div h0 h, Nat.mod_eq_sub_mod h]
        rfl
theorem flat_seg (h0 : 0 < size) (l : List M) (i : Nat) (m : M) (hi : i < l.length) : setSeg (l.flatMap cell) (i * size) (cell m) = (l.set i m).flatMap cell := by
  have hlen : (l.flatMap cell).length = l.length * size := flat_len cell size hs l
  have hle : i * size + size ≤ l.length * size := by
    calc i * size + size = (i + 1) * size := by rw [Nat.add_mul, Nat.one_mul]
      _ ≤ l.length * size := Nat.mul_le_mul_right _ hi
  apply List.ext_getElem?
  intro j
  rw [setSeg_at _ _ _ _ (by rw [hs, hlen]; exact hle), flat_get cell size hs, flat_get cell size hs, List.getElem?_set]
  by_cases hj : i * size ≤ j ∧ j < i * size + (cell m).length
  · rw [if_pos hj]
    rw [hs] at hj
    have e1 : j / size = i := by
      refine (Nat.div_eq_iff h0).2 ⟨hj.1, ?_⟩
      omega
    have e2 : j % size = j - i * size := by
      have := Nat.div_add_mod j size
      rw [e1, Nat.mul_comm] at this
      omega
    rw [e1, e2, if_pos rfl, if_pos hi]
    rfl
  · rw [if_neg hj]
    rw [hs] at hj
    have e1 : ¬ i = j / size := fun e => hj ⟨by rw [e]; exact Nat.div_mul_le_self j size, by rw [e]; have := Nat.lt_div_mul_add (a := j) h0; omega⟩
    rw [if_neg e1]
end
section
variable {P : Program} {ops : Array Oper} {rest : List Oper} {a : Act} {w : World} {Q : Exit → Act → World → Prop} {n d : Nat} {l : FL} {v : Value} {dst : Option Nat} {ty : TypeId} {ps : String} {af : Array Edge} {gd : Option (Nat × Bool)} {x y : Operand} {t : TypeId} {S : World → Prop} {K : Act → World → Prop}
theorem O.act {i : Nat} {o : Oper} {w' : World} (f : Fr n a l) (hi : ops[i]? = some o) (hd : o.dst = none) (hw : Region.wanted o (yielded ops a.tmps) = true)
    (hv : (execOp a.eval o).run P w = .ok .skip w') (hS : S w') (hK : ∀ a', Fr n a' l → K a' w') : wpOp P ops Q i (fun a w => S w ∧ K a w) a w := by
  unfold wpOp
  simp only [hi, hw, if_true]
  refine .inl ?_
  unfold Oper.wp
  rw [hv]
  show S w' ∧ K (a.put o.dst undef) w'
  rw [hd]
  exact ⟨hS, hK _ f⟩
end
end Go.Hub
namespace Go.Hub
open Go.RowKit
section
variable {P : Program} {a : Act} {w : World} {n : Nat} {l : FL} {fn : Func} {R : Ending → World → Prop}
theorem C.retC (f : Fr n a l) {p : Tmp} {ty : TypeId} (hr : fn.results = #[.cell p ty]) {g : Nat} {cs : Array Value} {t : TypeId} {d : TypeDesc} (hp : look l p = some (.pointer (some ⟨g, 0, none⟩))) (B : Blk w g t cs)
    (hu : P.underlying ty = some d) (hd : (match d with | .struct _ | .array _ _ => true | _ => false) = true) (hi : (P.info? ty).map (·.size) = some cs.size) (h : R (.returned (.agg cs)) w) : bodyPost P fn R .ret a w :=
  ret_cell hr d (f.get hp) B hu hd hi f.defers h
theorem C.retCT (f : Fr n a l) {p u : Tmp} {ty : TypeId} (hr : fn.results = #[.cell p ty, .tmp u]) {g : Nat} {cs : Array Value} {t : TypeId} {d : TypeDesc} {v : Value} (hp : look l p = some (.pointer (some ⟨g, 0, none⟩))) (hv : look l u = some v) (B : Blk w g t cs)
    (hu : P.underlying ty = some d) (hd : (match d with | .struct _ | .array _ _ => true | _ => false) = true) (hi : (P.info? ty).map (·.size) = some cs.size) (h : R (.returned (.tuple #[.agg cs, v])) w) : bodyPost P fn R .ret a w :=
  ret_cell_tmp hr d (f.get hp) (f.get hv) B hu hd hi f.defers h
end
end Go.Hub
namespace Go.Hub
open Go.RowKit
def upto (m : Nat) (l : Array Bool) : Bool := (List.range m).all fun i => l.getD i true
def barrier (md : Region.Mode) (ops : Array Oper) (m : Nat) : Bool := (List.range ops.size).all fun j => Nat.blt j m || (List.range m).all fun i => match ops[j]? with | some o => o.after.any fun e => Region.binds md e && Nat.beq e.on i | none => true
def wpAnyB (P : Program) (md : Region.Mode) (ops : Array Oper) (Q : Exit → Act → World → Prop) (S : World → Prop) (m : Nat) : Nat → Array Bool → Act → World → Prop
  | 0, listed, a, w => Region.ready md ops listed = [] ∧ Q .normal a w
  | fuel + 1, listed, a, w => if upto m listed = true then wpAnyH P md ops Q (fun _ => True) (fuel + 1) listed a w else
    (Region.ready md ops listed = [] → Q .normal a w) ∧
    ∀ i ∈ Region.ready md ops listed, wpOp P ops Q i (fun a' w' => S w' ∧ wpAnyB P md ops Q S m fuel (listed.setIfInBounds i true) a' w') a w
section
variable {P : Program} {ops : Array Oper} {Q : Exit → Act → World → Prop} {md : Region.Mode} {S : World → Prop} {m : Nat}
theorem wpAny_of_B : ∀ (fuel : Nat) (listed : Array Bool) (a : Act) (w : World), wpAnyB P md ops Q S m fuel listed a w → wpAny P md ops Q fuel listed a w
  | 0, _, _, _, h => h
  | fuel + 1, listed, a, w, h => by
    unfold wpAnyB at h
    split at h
    · exact wpAny_of_held _ _ _ _ h
    · exact ⟨h.1, fun i hi => wpOp_mono (fun a' w' h' => wpAny_of_B fuel _ a' w' h'.2) (h.2 i hi)⟩
theorem upto_spec {l : Array Bool} (h : upto m l = true) {i : Nat} (hi : i < m) : l.getD i true = true := by
  unfold upto at h
  exact List.all_eq_true.1 h i (List.mem_range.2 hi)
theorem barrier_spec (h : barrier md ops m = true) {i j : Nat} {o : Oper} (hi : i < m) (hj : m ≤ j) (ho : ops[j]? = some o) : ∃ e ∈ o.after, Region.binds md e = true ∧ e.on = i := by
  unfold barrier at h
  have h1 := List.all_eq_true.1 h j (List.mem_range.2 (Array.getElem?_eq_some_iff.1 ho).1)
  have h2 : Nat.blt j m = false := by
    cases hb : Nat.blt j m
    · rfl
    · have := Nat.le_of_ble_eq_true hb
      omega
  rw [h2, Bool.false_or] at h1
  have h3 := List.all_eq_true.1 h1 i (List.mem_range.2 hi)
  rw [ho] at h3
  obtain ⟨e, he, hb⟩ := Array.any_eq_true'.1 h3
  rw [Bool.and_eq_true] at hb
  exact ⟨e, he, hb.1, Nat.eq_of_beq_eq_true hb.2⟩
theorem wpAnyB_first {i : Nat} {oi : Oper} {v : Value} (hi : ops[i]? = some oi) (hsel : ∀ (j : Nat) (o : Oper) cs b, ops[j]? = some o → o.op ≠ .select cs b)
    (hQ : ∀ c a w, Q (.panic c) (a.put oi.dst v) w → Q (.panic c) a w) (him : i < m) (hbar : barrier md ops m = true) :
    ∀ (fuel : Nat) (listed : Array Bool) (a : Act) (w : World),
      (∀ j oj, ops[j]? = some oj → j ≠ i → listed.getD j true = false → (∀ e ∈ oj.after, Region.binds md e = true → e.on ≠ i) → oi.apart ops oj = true) →
      i ∈ Region.ready md ops listed → YieldsIf P ops S oi v a → S w →
      wpAnyB P md ops Q S m fuel (listed.setIfInBounds i true) (a.put oi.dst v) w → wpAnyB P md ops Q S m (fuel + 1) listed a w := by
  intro fuel
  induction fuel with
  | zero =>
    intro listed a w _ hr hy hS H
    have hup : ¬ upto m listed = true := fun hu => by
      have h1 := upto_spec hu him
      rw [(mem_ready.1 hr).1] at h1
      cases h1
    unfold wpAnyB
    rw [if_neg hup]
    refine ⟨fun h => (by rw [h] at hr; cases hr), fun j hj => ?_⟩
    by_cases hji : j = i
    · subst hji; exact hy.wpOp hi hS ⟨hS, H⟩
    · have := ready_mono hj hji
      rw [H.1] at this
      cases this
  | succ fuel ih =>
    intro listed a w hfree hr hy hS H
    have hup : ¬ upto m listed = true := fun hu => by
      have h1 := upto_spec hu him
      rw [(mem_ready.1 hr).1] at h1
      cases h1
    unfold wpAnyB
    rw [if_neg hup]
    refine ⟨fun h => (by rw [h] at hr; cases hr), fun j hj => ?_⟩
    by_cases hji : j = i
    · subst hji; exact hy.wpOp hi hS ⟨hS, H⟩
    · obtain ⟨hjun, oj, hoj, hall⟩ := mem_ready.1 hj
      have hnot : ∀ e ∈ oj.after, Region.binds md e = true → e.on ≠ i := fun e he hb heq => by
        have h1 := hall e he hb
        have h0 := (mem_ready.1 hr).1
        rw [heq] at h1
        rcases Nat.lt_or_ge i listed.size with h' | h'
        · simp [h'] at h0 h1; rw [h0] at h1; cases h1
        · simp [Array.getElem?_eq_none h'] at h1
      have hjm : j < m := by
        rcases Nat.lt_or_ge j m with h | h
        · exact h
        · obtain ⟨e, he, hb, heq⟩ := barrier_spec hbar him h hoj
          exact absurd heq (hnot e he hb)
      have hup' : ¬ upto m (listed.setIfInBounds i true) = true := fun hu => by
        have h1 := upto_spec hu hjm
        rw [getD_set_ne true (Ne.symm hji), hjun] at h1
        cases h1
      unfold wpAnyB at H
      rw [if_neg hup'] at H
      have h1 := H.2 j (ready_mono hj hji)
      have h2 := wpOp_putIf hoj (hfree j oj hoj hji hjun hnot) (fun cs b => hsel i oi cs b hi) (fun cs b => hsel j oj cs b hoj) hQ hy h1
      have hfree' : ∀ k ok, ops[k]? = some ok → k ≠ i → (listed.setIfInBounds j true).getD k true = false →
          (∀ e ∈ ok.after, Region.binds md e = true → e.on ≠ i) → oi.apart ops ok = true := fun k ok hk hki hun hno => by
        refine hfree k ok hk hki ?_ hno
        by_cases hjk : j = k
        · subst hjk; exact hjun
        · rw [getD_set_ne true hjk] at hun; exact hun
      refine wpOp_mono (fun a' w' h3 => ⟨h3.2.1, ih (listed.setIfInBounds j true) a' w' hfree' (ready_mono hr (Ne.symm hji)) h3.1 h3.2.1 ?_⟩) h2
      rw [Array.setIfInBounds_comm _ _ hji]
      exact h3.2.2
theorem wpAnyB_take {i : Nat} {oi : Oper} {v : Value} {fuel : Nat} {listed : Array Bool} {a : Act} {w : World} (hi : ops[i]? = some oi) (hb : (Nat.blt i m && barrier md ops m) = true)
    (hs : Region.noSelect ops = true) (hf : Region.free md ops listed i = true) (hr : (Region.ready md ops listed).contains i = true)
    (hQ : ∀ c a w, Q (.panic c) (a.put oi.dst v) w → Q (.panic c) a w) (hy : YieldsIf P ops S oi v a) (hS : S w)
    (h : wpAnyB P md ops Q S m fuel (listed.setIfInBounds i true) (a.put oi.dst v) w) : wpAnyB P md ops Q S m (fuel + 1) listed a w :=
  wpAnyB_first hi (Region.noSelect_spec hs) hQ (Nat.le_of_ble_eq_true (Bool.and_eq_true _ _ ▸ hb).1) (Bool.and_eq_true _ _ ▸ hb).2 fuel listed a w (Region.free_spec hi hf) (by simpa using hr) hy hS h
theorem wpAnyB_all {rs : List Nat} {fuel : Nat} {listed : Array Bool} {a : Act} {w : World} (hu : upto m listed = false) (hr : Region.ready md ops listed = rs) (hne : rs ≠ [])
    (h : ∀ i ∈ rs, wpOp P ops Q i (fun a' w' => S w' ∧ wpAnyB P md ops Q S m fuel (listed.setIfInBounds i true) a' w') a w) : wpAnyB P md ops Q S m (fuel + 1) listed a w := by
  unfold wpAnyB
  rw [if_neg (by rw [hu]; simp)]
  exact ⟨fun h0 => absurd (hr ▸ h0) hne, hr ▸ h⟩
theorem RB.stop {fuel : Nat} {listed : Array Bool} {a : Act} {w : World} (hu : upto m listed = true) (h : wpAnyH P md ops Q (fun _ => True) (fuel + 1) listed a w) : wpAnyB P md ops Q S m (fuel + 1) listed a w := by
  unfold wpAnyB
  rw [if_pos hu]
  exact h
end
section
variable {P : Program} {ops : Array Oper} {Q : Exit → Act → World → Prop} {md : Region.Mode} {S : World → Prop} {a : Act} {w w' : World} {n d : Nat} {l : FL} {v : Value} {o : Oper} {m : Nat}
theorem RB.begin {id : Nat} (m : Nat) (hm : P.follows .mixedOrders = true) (hS : S (w.drewN 1))
    (h : wpAnyB P .any ops Q S m ops.size (Array.replicate ops.size false) a (w.drewN 1)) : (Code.region id ops true).wp P Q a w := wp_region_any hm (wpAny_of_B _ _ _ _ h)
theorem RB.take (i : Nat) {fuel : Nat} {listed : Array Bool} (f : Fr n a l) (hi : ops[i]? = some o) (hd : o.dst = some d) (hn : d < n) (hb : (Nat.blt i m && barrier md ops m) = true) (hs : Region.noSelect ops = true) (hf : Region.free md ops listed i = true)
    (hr : (Region.ready md ops listed).contains i = true) (hQ : ∀ c (a : Act) (u : Value) w, Q (.panic c) (a.put (some d) u) w → Q (.panic c) a w) (hw : Region.wanted o (yielded ops a.tmps) = true) (hS : S w)
    (hv : ∀ w, S w → (execOp a.eval o).run P w = .ok (.value v) w)
    (hK : ∀ a', Fr n a' ((d, v) :: l) → wpAnyB P md ops Q S m fuel (listed.setIfInBounds i true) a' w) : wpAnyB P md ops Q S m (fuel + 1) listed a w := by
  refine wpAnyB_take hi hb hs hf hr (v := v) (fun c a w h => hQ c a v w (by rwa [hd] at h)) (.inl ⟨hw, hv⟩) hS ?_
  rw [hd]
  exact hK _ (f.put d v hn)
theorem RB.call (i : Nat) {fuel : Nat} {listed : Array Bool} (f : Fr n a l) (hi : ops[i]? = some o) (hd : o.dst = some d) (hn : d < n) (hu : upto m listed = false) (hr : Region.ready md ops listed = [i]) (hw : Region.wanted o (yielded ops a.tmps) = true)
    {fn : Nat} {args : Array Value} (h : (execOp a.eval o).run P w = .ok (.enter fn args) w) {R : Ending → World → Prop} (hc : Calls P fn args w R)
    (hR : ∀ e w', R e w' → ∃ v, e = .returned v ∧ S w' ∧ ∀ a', Fr n a' ((d, v) :: l) → wpAnyB P md ops Q S m fuel (listed.setIfInBounds i true) a' w') : wpAnyB P md ops Q S m (fuel + 1) listed a w := by
  refine wpAnyB_all hu hr (by simp) ?_
  intro j hj
  simp only [List.mem_singleton] at hj
  subst hj
  unfold wpOp
  simp only [hi, hw, if_true]
  refine .inl ?_
  unfold Oper.wp
  rw [h]
  refine Calls.mono hc ?_
  intro e w' hr
  obtain ⟨v, rfl, hS, hK⟩ := hR e w' hr
  show S w' ∧ wpAnyB P md ops Q S m fuel (listed.setIfInBounds j true) (a.put o.dst v) w'
  rw [hd]
  exact ⟨hS, hK _ (f.put d v hn)⟩
end
section
variable {P : Program} {ops : Array Oper} {Q : Exit → Act → World → Prop} {a : Act} {w : World} {n d : Nat} {l : FL} {v : Value} {ty : TypeId} {ps : String} {af : Array Edge} {gd : Option (Nat × Bool)} {x y : Operand} {t : TypeId} {K : Act → World → Prop} {i : Nat}
theorem OT.store (f : Fr n a l) (hio : ops[i]? = some ⟨none, .store t x y, ty, ps, af, gd⟩) (hw : Region.wanted ⟨none, .store t x y, ty, ps, af, gd⟩ (yielded ops a.tmps) = true) (hi : (P.info? t).map (·.size) = some 1) {g o : Nat} {e : TypeId} {cs : Array Value} (hx : evl l x = some (.pointer (some ⟨g, o, none⟩))) (hy : evl l y = some v) (h1 : v.oneCell' = true)
    (B : Blk w g e cs) (ho : o < cs.size) (hK : ∀ a' w', Fr n a' l → Blk w' g e (cs.setIfInBounds o v) → Kept [g] w w' → K a' w') : wpOp P ops Q i (fun a w => True ∧ K a w) a w :=
  O.act (S := fun _ => True) f hio rfl hw (E.store f hi hx hy h1 (B.cell_ (Array.getElem?_eq_getElem ho)) (B.frozen o)) trivial fun a' f' => hK a' _ f' (B.set_ o v) (setCell_kept w g o v)
end
end Go.Hub
namespace Go.Hub
open Go.RowKit
section
variable {P : Program} {ops : Array Oper} {rest : List Oper} {a : Act} {w : World} {Q : Exit → Act → World → Prop} {n d : Nat} {l : FL} {v : Value} {ty : TypeId} {ps : String} {af : Array Edge} {gd : Option (Nat × Bool)} {x y : Operand} {t : TypeId}
theorem L.storeO (f : Fr n a l) (hw : Region.wanted ⟨none, .store t x y, ty, ps, af, gd⟩ (yielded ops a.tmps) = true) (hi : (P.info? t).map (·.size) = some 1) {b off o j : Nat} {e : TypeId} {size k c : Nat} {A : Option Addr} {xs : List Value} (hA : A = some ⟨b, off, none⟩) (O : Own w e size (.slice A k c) k xs) (hx : evl l x = some (.pointer (some ⟨b, o, none⟩))) (ho : o = off + j) (hj : j < xs.length) (hy : evl l y = some v) (h1 : v.oneCell' = true)
    (hK : ∀ a' w', Fr n a' l → Own w' e size (.slice A k c) k (xs.set j v) → Kept [b] w w' → wpList P ops Q rest a' w') : wpList P ops Q (⟨none, .store t x y, ty, ps, af, gd⟩ :: rest) a w := by
  subst ho
  obtain ⟨⟨old, h2⟩, h3, h4⟩ := O.set_ hA hj v
  exact L.act f hw rfl (E.store f hi hx hy h1 h2 h3) fun a' f' => hK a' _ f' h4 (setCell_kept w b _ v)
end
end Go.Hub
namespace Go.Hub
open Go.RowKit
structure Sp where
  l : Int
  c : Int
  node : Int
deriving DecidableEq
abbrev scell (s : Sp) : List Value := [.int .i64 s.l, .int .i64 s.c, .int .i64 s.node]
def nearI (v : Int) : Int := min (max v 0) 4611686018427387904
def or3 (x y z : Int) : Int := if x = 0 then (if y = 0 then z else y) else x
def ltS (a b : Sp) : Prop := nearI a.l < nearI b.l ∨ (nearI a.l = nearI b.l ∧ (nearI a.c < nearI b.c ∨ (nearI a.c = nearI b.c ∧ a.node < b.node)))
instance (a b : Sp) : Decidable (ltS a b) := by unfold ltS; exact inferInstance
theorem less_is (a b : Sp) : decide (or3 (cmpI (nearI a.l) (nearI b.l)) (cmpI (nearI a.c) (nearI b.c)) (cmpI a.node b.node) < 0) = decide (ltS a b) := by
  apply decide_eq_decide.2
  unfold or3 cmpI ltS
  repeat' split
  all_goals omega
structure Ce where
  d : Dt
  s : Sp
  topic : ByteArray
  pay : List UInt8
  qos : Int
  gone : Bool
structure Cp where
  x : Ce
  A : Option Addr
  c : Nat
abbrev pcell (p : Cp) : List Value := [.int .i64 p.x.d.node, .int .i64 p.x.d.epoch, .int .i64 p.x.d.n, .int .i64 p.x.s.l, .int .i64 p.x.s.c, .int .i64 p.x.s.node, .string p.x.topic, .slice p.A p.x.pay.length p.c, .int .i64 p.x.qos, .bool p.x.gone]
def pcells (l : List Cp) : List Value := l.flatMap pcell
theorem pcells_len (l : List Cp) : (pcells l).length = l.length * 10 := flat_len pcell 10 (fun _ => rfl) l
theorem pcells_at (l : List Cp) (i : Nat) (p : Cp) (h : l[i]? = some p) : ∀ j u, (pcell p)[j]? = some u → (pcells l)[i * 10 + j]? = some u := fun j u hu => flat_at pcell 10 (fun _ => rfl) l i p h j u hu
theorem pcells_one (l : List Cp) : ∀ u ∈ pcells l, u.oneCell' = true := fun u hu => by
  unfold pcells at hu
  simp at hu
  obtain ⟨p, _, rfl | rfl | rfl | rfl | rfl | rfl | rfl | rfl | rfl | rfl⟩ := hu <;> rfl
theorem pcells_append (l r : List Cp) : pcells (l ++ r) = pcells l ++ pcells r := by simp [pcells]
theorem pcells_cons (p : Cp) (r : List Cp) : pcells (p :: r) = pcell p ++ pcells r := rfl
theorem pcells_take : ∀ (l : List Cp) (i : Nat), (pcells l).take (i * 10) = pcells (l.take i)
  | [], i => by simp [pcells]
  | p :: l, 0 => by simp [pcells]
  | p :: l, i + 1 => by
    rw [List.take_succ_cons, pcells_cons, pcells_cons, List.take_append, show (pcell p).length = 10 from rfl, show (i + 1) * 10 - 10 = i * 10 by omega, pcells_take l i, List.take_of_length_le (by show 10 ≤ _; omega)]
theorem pcells_drop : ∀ (l : List Cp) (i : Nat), pcells (l.drop i) = (pcells l).drop (i * 10)
  | [], i => by simp [pcells]
  | p :: l, 0 => by simp [pcells]
  | p :: l, i + 1 => by
    rw [List.drop_succ_cons, pcells_cons, List.drop_append, show (pcell p).length = 10 from rfl, show (i + 1) * 10 - 10 = i * 10 by omega, pcells_drop l i, List.drop_eq_nil_of_le (show (pcell p).length ≤ (i + 1) * 10 by show 10 ≤ _; omega), List.nil_append]
def newerB (a b : Ce) : Bool := decide (ltS b.s a.s) || (!decide (ltS a.s b.s) && decide (lt3 b.d a.d))
structure PayOk (w : World) (p : Cp) : Prop where
  sl : Sl w p.A p.x.pay.length 1 (p.x.pay.map u8)
  typ : 0 < p.x.pay.length → ∀ a, p.A = some a → Typ w a.block [5]
  cap : p.x.pay.length ≤ p.c
section
variable {w w' : World} {p : Cp} {A : Option Addr} {l : List Cp} {L : List Nat} {g t : Nat} {cs : Array Value}
theorem Typ.kept {k : Nat} {E : List TypeId} (h : Typ w k E) (hk : Kept L w w') (hn : k ∉ L) : Typ w' k E := h.of_eq (hk.block k h.lt hn)
theorem PayOk.keptF (h : PayOk w p) (hk : Kept L w w') (hL : ∀ k ∈ L, ¬ Typ w k [5]) : PayOk w' p := by
  by_cases hn : 0 < p.x.pay.length
  · have ht := h.typ hn
    have hf : Far p.A L := fun a ha hm => hL _ hm (ht a ha)
    exact ⟨h.sl.keptF hk hf, fun _ a ha => (ht a ha).kept hk (hf a ha), h.cap⟩
  have e : p.x.pay = [] := List.eq_nil_of_length_eq_zero (by omega)
  have hs : Sl w' p.A p.x.pay.length 1 (p.x.pay.map u8) := by rw [e]; exact Sl.nil _ _ _
  exact ⟨hs, fun h' => absurd h' hn, h.cap⟩
theorem PayOk.kept (h : PayOk w p) (hk : Kept [] w w') : PayOk w' p := h.keptF hk (by simp)
theorem not_typ (h : w.heap[g]? = some (.cells cs t (0, 0))) (ht : t ≠ 5) : ¬ Typ w g [5] := by
  rintro ⟨cs', e, f, h', he⟩
  rw [h] at h'
  injection h' with h'
  injection h' with _ h2 _
  subst h2
  simp at he
  exact ht he
theorem PayOk.kept1 (h : PayOk w p) (hk : Kept [g] w w') (hg : w.heap[g]? = some (.cells cs t (0, 0))) (ht : t ≠ 5) : PayOk w' p := h.keptF hk (by intro k hm; obtain rfl := List.mem_singleton.1 hm; exact not_typ hg ht)
theorem Blk.part {ca : Array Value} (h : Blk w g t ca) (o : Nat) (cs' : List Value) (hc : (ca.toList.drop o).take cs'.length = cs') : w.rangeAt g o cs' := fun j v hv => by
  refine h.cl (i := o + j) ?_
  have e : (ca.toList.drop o)[j]? = some v := by
    rw [← hc] at hv
    rw [List.getElem?_take] at hv
    split at hv
    · exact hv
    cases hv
  rw [List.getElem?_drop] at e
  exact e
def Cs (w : World) (A : Option Addr) (l : List Cp) : Prop := Sl w A l.length 10 (pcells l)
theorem Cs.kept (h : Cs w A l) (hk : Kept [] w w') : Cs w' A l := Sl.kept h hk
theorem Cs.row (h : Cs w A l) {b off i : Nat} {p : Cp} (hA : A = some ⟨b, off, none⟩) (hd : l[i]? = some p) : w.rangeAt b (off + i * 10) (pcell p) :=
  Sl.row h (by have := (List.getElem?_eq_some_iff.1 hd).1; omega) hA (pcells_at l i p hd)
theorem Cs.addr (h : Cs w A l) {i : Nat} (hi : i < l.length) : ∃ b off, A = some ⟨b, off, none⟩ := Sl.addr h (by omega)
theorem Cs.nil (w : World) (A : Option Addr) : Cs w A [] := Sl.nil w A 10
theorem Fresh.pay {w0 : World} {n c : Nat} {A : Option Addr} {x : Ce} (h : Fresh w0 w 5 1 A n c (x.pay.map u8)) (hn : x.pay.length = n) : PayOk w ⟨x, A, c⟩ := by
  subst hn
  refine ⟨h.sl, fun _ a ha => ?_, ?_⟩
  · obtain ⟨_, cs, e⟩ := h.own.blk a.block (by show Value.ownBlock (.slice A _ _) = _; rw [show A = some a from ha]; rfl)
    exact ⟨cs, 5, _, e, by simp⟩
  obtain ⟨A', c', e, h1, _⟩ := h.own.form
  injection e with _ _ e3
  subst e3
  exact h1
end
def ltB (a b : ByteArray) : Prop := Op.bytesLess a.toList b.toList = true
instance (a b : ByteArray) : Decidable (ltB a b) := by unfold ltB; exact inferInstance
theorem bytesLess_is : ∀ (x y : List UInt8), Op.bytesLess x y = decide (x < y)
  | [], [] => by simp [Op.bytesLess]
  | _ :: _, [] => by simp [Op.bytesLess]
  | [], _ :: _ => by simp [Op.bytesLess]
  | a :: x, b :: y => by
    rw [Op.bytesLess, bytesLess_is x y]
    simp only [List.cons_lt_cons_iff]
    by_cases h1 : a < b <;> by_cases h2 : a = b <;> by_cases h3 : x < y <;> simp [h1, h2, h3]
theorem ltB_iff (a b : ByteArray) : ltB a b ↔ a.toList < b.toList := by unfold ltB; rw [bytesLess_is]; simp
theorem ltB_trans {a b c : ByteArray} (h : ltB a b) (k : ltB b c) : ltB a c := by rw [ltB_iff] at *; exact List.lt_trans h k
theorem ltB_irrefl (a : ByteArray) : ¬ ltB a a := by rw [ltB_iff]; exact List.lt_irrefl _
theorem ltB_total {a b : ByteArray} (h : ¬ ltB a b) (k : ¬ ltB b a) : a = b := by
  rw [ltB_iff] at *
  have e := List.le_antisymm (show a.toList ≤ b.toList from k) (show b.toList ≤ a.toList from h)
  rw [ByteArray.toList_eq, ByteArray.toList_eq] at e
  exact ByteArray.ext (Array.ext' e)
def cmpS (a b : ByteArray) : Int := if ltB a b then -1 else if ltB b a then 1 else 0
theorem cmpS_lt (a b : ByteArray) : cmpS a b < 0 ↔ ltB a b := by unfold cmpS; repeat' split <;> simp_all
theorem cmpS_eq (a b : ByteArray) : cmpS a b = 0 ↔ a = b := by
  unfold cmpS
  split
  · rename_i h
    exact ⟨fun e => absurd e (by omega), fun e => absurd (e ▸ h) (ltB_irrefl _)⟩
  split
  · rename_i h
    exact ⟨fun e => absurd e (by omega), fun e => absurd (e ▸ h) (ltB_irrefl _)⟩
  rename_i h1 h2
  exact ⟨fun _ => ltB_total h1 h2, fun _ => rfl⟩
def Asc (l : List Cp) : Prop := ∀ (i j : Nat) (a b : Cp), i < j → l[i]? = some a → l[j]? = some b → ltB a.x.topic b.x.topic
structure SrchC (l : List Cp) (n : ByteArray) (i : Nat) (b : Bool) : Prop where
  le : i ≤ l.length
  lo : ∀ (k : Nat) (a : Cp), k < i → l[k]? = some a → ltB a.x.topic n
  hi : ∀ (k : Nat) (a : Cp), i ≤ k → l[k]? = some a → ¬ ltB a.x.topic n
  is : b = true ↔ ∃ a, l[i]? = some a ∧ a.x.topic = n
structure HalfC (l : List Cp) (n : ByteArray) (i j : Nat) : Prop where
  ij : i ≤ j
  jn : j ≤ l.length
  lo : ∀ (k : Nat) (a : Cp), k < i → l[k]? = some a → ltB a.x.topic n
  hi : ∀ (k : Nat) (a : Cp), j ≤ k → l[k]? = some a → ¬ ltB a.x.topic n
section
variable {l : List Cp} {n : ByteArray} {a m : Cp} {i j h : Nat}
theorem HalfC.start (l : List Cp) (n : ByteArray) : HalfC l n 0 l.length := ⟨Nat.zero_le _, Nat.le_refl _, fun k a h => by omega, fun k a h hk => by have := (List.getElem?_eq_some_iff.1 hk).1; omega⟩
theorem HalfC.right (H : HalfC l n i j) (hr : Asc l) (h1 : i ≤ h) (h2 : h < j) (ha : l[h]? = some a) (hl : ltB a.x.topic n) : HalfC l n (h + 1) j :=
  ⟨by omega, H.jn, fun k b hk hb => by
    by_cases e : k = h
    · subst e
      rw [ha] at hb
      injection hb with hb
      exact hb ▸ hl
    exact ltB_trans (hr k h b a (by omega) hb ha) hl, H.hi⟩
theorem HalfC.left (H : HalfC l n i j) (hr : Asc l) (h1 : i ≤ h) (h2 : h < j) (ha : l[h]? = some a) (hl : ¬ ltB a.x.topic n) : HalfC l n i h :=
  ⟨h1, by have := H.jn; omega, H.lo, fun k b hk hb => by
    by_cases e : k = h
    · subst e
      rw [ha] at hb
      injection hb with hb
      exact hb ▸ hl
    exact fun hc => hl (ltB_trans (hr h k a b (by omega) ha hb) hc)⟩
theorem HalfC.found {b : Bool} (H : HalfC l n i i) (hb : b = true ↔ ∃ a, l[i]? = some a ∧ a.x.topic = n) : SrchC l n i b := ⟨H.jn, H.lo, H.hi, hb⟩
theorem HalfC.found1 (H : HalfC l n i i) (hd : l[i]? = some m) : SrchC l n i (decide (cmpS m.x.topic n = 0)) := H.found (by
  rw [decide_eq_true_iff, cmpS_eq]
  exact ⟨fun e => ⟨m, hd, e⟩, fun ⟨a, h1, h2⟩ => by rw [hd] at h1; injection h1 with h1; exact h1 ▸ h2⟩)
theorem HalfC.found0 (H : HalfC l n i i) (hd : l[i]? = none) : SrchC l n i false := H.found (by simp [hd])
end
end Go.Hub
namespace Go.Hub
open Go.RowKit
section
variable {w : World} {e : TypeId} {size n c g off : Nat} {xs : List Value}
theorem Own.room (h : Own w e size (.slice (some ⟨g, off, none⟩) n c) n xs) {j : Nat} (hj : j < c * size) : (w.cell? ⟨g, off + j, none⟩).isSome = true ∧ w.frozen? ⟨g, off + j, none⟩ = false := by
  rcases h.2 with ⟨hv, _⟩ | ⟨g', off', cap', cur, hv, hg, hnc, hcm, hcs, hc⟩
  · cases hv
  injection hv with e1 e2 e3
  injection e1 with e1
  injection e1 with e4 e5
  subst e4 e5 e3
  rw [cell_of_row w g _ cur e (0, 0) hg, Array.getElem?_eq_getElem (by omega)]
  exact ⟨rfl, by simp [World.frozen?, hg]⟩
end
end Go.Hub
namespace Go.Hub
open Go.RowKit
section
variable {w : World} {e : TypeId} {size n c g off : Nat} {xs : List Value}
theorem Own.seg (h : Own w e size (.slice (some ⟨g, off, none⟩) n c) n xs) {j : Nat} (vs : List Value) (hj : j + vs.length ≤ xs.length) :
    Own (w.setCells g (off + j) vs) e size (.slice (some ⟨g, off, none⟩) n c) n (setSeg xs j vs) ∧ Kept [g] w (w.setCells g (off + j) vs) := by
  have K := setCells_kept w g (off + j) vs
  refine ⟨⟨by rw [setSeg_len]; exact h.1, ?_⟩, K⟩
  rcases h.2 with ⟨hv, _⟩ | ⟨g', off', cap', cur, hv, hg, hnc, hcm, hcs, hc⟩
  · cases hv
  injection hv with e1 e2 e3
  injection e1 with e1
  injection e1 with e4 e5
  subst e4 e5 e3
  obtain ⟨cur', a1, a2, a3, a4⟩ := setCells_block g vs (off + j) w cur e (0, 0) hg
  refine .inr ⟨g, off, c, cur', rfl, a1, hnc, hcm, by omega, fun i u hu => ?_⟩
  have hx := h.1
  have hn : n * size ≤ c * size := Nat.mul_le_mul_right _ hnc
  have hi : i < xs.length := by
    have := (List.getElem?_eq_some_iff.1 hu).1
    rwa [setSeg_len] at this
  rw [setSeg_at _ _ _ _ hj] at hu
  by_cases hin : j ≤ i ∧ i < j + vs.length
  · rw [if_pos hin] at hu
    have := a4 (i - j) u hu (by omega)
    rwa [show off + j + (i - j) = off + i by omega] at this
  · rw [if_neg hin] at hu
    have h1 := World.cell?_setCells_out g vs (off + j) w ⟨g, off + i, none⟩ (fun _ _ => by show off + i < off + j ∨ off + j + vs.length ≤ off + i; omega)
    rw [cell_of_row _ g (off + i) cur' e (0, 0) a1, cell_of_row w g (off + i) cur e (0, 0) hg] at h1
    rw [h1]
    exact hc i u hu
theorem Own.more (h : Own w e size (.slice (some ⟨g, off, none⟩) n c) n xs) {k : Nat} (hk : n + k ≤ c) : ∃ ys, ys.length = k * size ∧ Own w e size (.slice (some ⟨g, off, none⟩) (n + k) c) (n + k) (xs ++ ys) := by
  rcases h.2 with ⟨hv, _⟩ | ⟨g', off', cap', cur, hv, hg, hnc, hcm, hcs, hc⟩
  · cases hv
  injection hv with e1 e2 e3
  injection e1 with e1
  injection e1 with e4 e5
  subst e4 e5 e3
  have hx := h.1
  have hn : (n + k) * size ≤ c * size := Nat.mul_le_mul_right _ hk
  rw [Nat.add_mul] at hn
  refine ⟨(cur.toList.drop (off + n * size)).take (k * size), by simp; omega, by rw [List.length_append, hx, Nat.add_mul]; simp; omega, .inr ⟨g, off, c, cur, rfl, hg, hk, hcm, hcs, fun j u hu => ?_⟩⟩
  rcases Nat.lt_or_ge j xs.length with hj | hj
  · rw [List.getElem?_append_left hj] at hu
    exact hc j u hu
  · rw [List.getElem?_append_right hj, List.getElem?_take] at hu
    split at hu
    · rw [List.getElem?_drop] at hu
      rw [show off + n * size + (j - xs.length) = off + j by omega] at hu
      simpa using hu
    · cases hu
theorem Own.cutA (h : Own w e size (.slice (some ⟨g, off, none⟩) n c) n xs) {k : Nat} (hk : k ≤ n) (hc : c ≠ k) : Own w e size (.slice (some ⟨g, off + k * size, none⟩) (n - k) (c - k)) (n - k) (xs.drop (k * size)) := by
  have := h.cut hk
  rw [if_neg hc] at this
  simpa only [Option.map_some, add_none] using this
end
section
variable {P : Program} {w : World}
theorem run_copyR (t ty e : TypeId) (size : Nat) (ht : P.underlying t = some (.slice e)) (hs : (P.info? e).map (·.size) = some size) {g o dl dc m c : Nat} {S : Option Addr} {xs vs : List Value} (hsrc : Sl w S m size xs) (hm : 0 < m) (hv : vs = xs.take (Nat.min m dl * size))
    (hc : ∀ j, j < vs.length → (w.cell? ⟨g, o + j, none⟩).isSome = true) (hf : ∀ j, j < vs.length → w.frozen? ⟨g, o + j, none⟩ = false) (h1 : ∀ v ∈ vs, v.oneCell' = true) :
    (Builtin.copy_ #[t, t] ty #[.slice (some ⟨g, o, none⟩) dl dc, .slice S m c]).run P w = .ok (goInt (Nat.min m dl)) (w.setCells g o vs) := by
  obtain ⟨b, off, rfl, _, hcell⟩ := hsrc.2 hm
  have hlen : vs.length = Nat.min m dl * size := by
    rw [hv, List.length_take, hsrc.1]
    exact Nat.min_eq_left (Nat.mul_le_mul_right _ (Nat.min_le_left _ _))
  have hl := run_loadCells_list (P := P) w ⟨b, off, none⟩ vs (fun j v hj => by
    rw [add_none]
    refine hcell j v ?_
    rw [hv, List.getElem?_take] at hj
    split at hj
    · exact hj
    · cases hj)
  have hst := run_storeCells_cells (P := P) g o vs 0 w (by simpa using hc) (by simpa using hf) h1
  rw [hlen] at hl
  cases hq : P.info? e with
  | none => simp [hq] at hs
  | some i =>
    have hi : i.size = size := by simpa [hq] using hs
    simp [Builtin.copy_, run_underlying ht, Builtin.lenOf, Builtin.firstCells, sizeOf, typeInfo, hq, hi, hl, hst]
end
section
variable {P : Program} {ops : Array Oper} {rest : List Oper} {a : Act} {w : World} {Q : Exit → Act → World → Prop} {n d : Nat} {l : FL} {ty : TypeId} {ps : String} {af : Array Edge} {gd : Option (Nat × Bool)} {x y : Operand} {t : TypeId}
theorem L.copyR (f : Fr n a l) (hw : Region.wanted ⟨some d, .call { callee := .builtin .copy, args := #[x, y], argTypes := #[t, t] }, ty, ps, af, gd⟩ (yielded ops a.tmps) = true) (hn : d < n) {e size g o off dl dc m c j N C : Nat} {S : Option Addr} {xs vs ys : List Value} (ht : P.underlying t = some (.slice e)) (hs : (P.info? e).map (·.size) = some size)
    (hx : evl l x = some (.slice (some ⟨g, o, none⟩) dl dc)) (hy : evl l y = some (.slice S m c)) (hown : Own w e size (.slice (some ⟨g, off, none⟩) N C) N ys) (ho : o = off + j) (hsrc : Sl w S m size xs) (hm : 0 < m) (hv : vs = xs.take (Nat.min m dl * size)) (hj : j + vs.length ≤ ys.length) (h1 : ∀ v ∈ vs, v.oneCell' = true)
    (hK : ∀ a' w', Own w' e size (.slice (some ⟨g, off, none⟩) N C) N (setSeg ys j vs) → Kept [g] w w' → Fr n a' ((d, goInt (Nat.min m dl)) :: l) → wpList P ops Q rest a' w') : wpList P ops Q (⟨some d, .call { callee := .builtin .copy, args := #[x, y], argTypes := #[t, t] }, ty, ps, af, gd⟩ :: rest) a w := by
  subst ho
  have hr : ∀ i, i < vs.length → (w.cell? ⟨g, off + j + i, none⟩).isSome = true ∧ w.frozen? ⟨g, off + j + i, none⟩ = false := fun i hi => by
    have hx := hown.1
    have hnc : N ≤ C := by
      rcases hown.2 with ⟨hv, _⟩ | ⟨g', off', cap', cur, hv, _, hnc, _⟩
      · cases hv
      · injection hv with _ _ e3; subst e3; exact hnc
    have hn : N * size ≤ C * size := Nat.mul_le_mul_right _ hnc
    have := hown.room (j := j + i) (by omega)
    rwa [← Nat.add_assoc] at this
  have hrun := run_copyR (P := P) t ty e size ht hs hsrc hm hv (dc := dc) (c := c) (g := g) (o := off + j) (fun i hi => (hr i hi).1) (fun i hi => (hr i hi).2) h1
  obtain ⟨h2, h3⟩ := hown.seg vs hj
  refine L.val (v := goInt (Nat.min m dl)) f hw rfl hn ?_ fun a' f' => hK a' _ h2 h3 f'
  simp [execOp, resolve, invoke, builtin, f.ev hx, f.ev hy, hrun]
end
section
variable {P : Program} {ops : Array Oper} {rest : List Oper} {a : Act} {w : World} {Q : Exit → Act → World → Prop} {n d : Nat} {l : FL} {dst : Option Nat} {ty : TypeId} {ps : String} {af : Array Edge} {gd : Option (Nat × Bool)} {x y : Operand} {t tn : TypeId}
theorem E.capL (f : Fr n a l) {e : TypeId} {A : Option Addr} {m c : Nat} (ht : P.underlying t = some (.slice e)) (hx : evl l x = some (.slice A m c)) : (execOp a.eval ⟨dst, .call { callee := .builtin .cap, args := #[x], argTypes := #[t] }, ty, ps, af, gd⟩).run P w = .ok (.value (.int .i64 c)) w := by
  simp [execOp, resolve, invoke, builtin, f.ev hx, Builtin.cap_, run_underlying ht, goInt]
theorem L.appendZ (f : Fr n a l) (hw : Region.wanted ⟨some d, .call { callee := .builtin .append, args := #[x, y], argTypes := #[t, tn] }, ty, ps, af, gd⟩ (yielded ops a.tmps) = true) (hn : d < n) {e size bytes k c m : Nat} {z : Value} {A : Option Addr} {xs : List Value} {kq kn : IntKind} {j : Int} (ht : P.underlying t = some (.slice e)) (htn : P.underlying tn = some (.int kn)) (hi : (P.info? e).map (fun i => (i.zero, i.size, i.bytes)) = some (some z, size, bytes)) (hzs : z.cells.size = size) (hsz : Nat.blt 0 size = true)
    (hx : evl l x = some (.slice A k c)) (hy : evl l y = some (.int kq j)) (hown : Own w e size (.slice A k c) k xs) (hj : j = m) (hm : 0 < m) (hg : c < k + m) (h63 : k + m ≤ 4611686018427387904) (hb : (k + m) * bytes ≤ 70368744177664)
    (hK : ∀ a' w' g c', Own w' e size (.slice (some ⟨g, 0, none⟩) (k + m) c') (k + m) (xs ++ (Builtin.zeroCells z.cells m).toList) → w.heap.size ≤ g → Kept [] w w' → Fr n a' ((d, .slice (some ⟨g, 0, none⟩) (k + m) c') :: l) → wpList P ops Q rest a' w') : wpList P ops Q (⟨some d, .call { callee := .builtin .append, args := #[x, y], argTypes := #[t, tn] }, ty, ps, af, gd⟩ :: rest) a w := by
  subst hj
  cases hq : P.info? e with
  | none => simp [hq] at hi
  | some i =>
    have hi' : i.zero = some z ∧ i.size = size ∧ i.bytes = bytes := by simpa [hq] using hi
    obtain ⟨hz, hs, hby⟩ := hi'
    subst hs hby
    have hs0 : 0 < i.size := Nat.le_of_ble_eq_true hsz
    have hfc : (Builtin.firstCells i.size k (.slice A k c)).run P w.drew = .ok xs.toArray w.drew := by
      rcases A with _ | ad
      · have hk : k = 0 := by
          rcases hown.2 with ⟨_, h0⟩ | ⟨g, off, cap, cur, hv, _⟩
          · exact h0
          · cases hv
        subst hk
        have hx0 : xs = [] := List.eq_nil_of_length_eq_zero (by simpa using hown.1)
        subst hx0
        simp [Builtin.firstCells]
      · rcases hown.2 with ⟨hv, _⟩ | ⟨g, off, cap, cur, hv, hgd, hnc, hcm, hcs, hc⟩
        · cases hv
        injection hv with e1 e2 e3
        injection e1 with e1
        subst e1 e3
        have := run_loadCells_list (P := P) w.drew ⟨g, off, none⟩ xs (fun j v hj => by
          rw [add_none]
          have h1 := cell_of_row w g (off + j) cur e (0, 0) hgd
          show w.cell? _ = _
          rw [h1]
          exact hc j v hj)
        rw [hown.1] at this
        simpa [Builtin.firstCells] using this
    have hgrow : Builtin.nextslicecap (k + m) c * i.bytes ≤ 281474976710656 := growslice_fits hg (by omega)
    have hrun := Lib.run_append_grow_zeros (P := P) w t tn ty e i z kq kn ht htn hq hz A k c xs hfc m hm hs0 hg (by omega) (by
      have : m * i.bytes ≤ (k + m) * i.bytes := Nat.mul_le_mul_right _ (by omega)
      omega) hgrow
    have hcap : k + m ≤ grownCap w (k + m) c e ∧ grownCap w (k + m) c e ≤ maxLen := ⟨grownCap_ge w _ _ _, grownCap_le_maxLen w _ _ _ (by unfold maxLen; omega)⟩
    refine L.val (v := .slice (some ⟨w.heap.size, 0, none⟩) (k + m) (grownCap w (k + m) c e)) (w' := w.drew.alloc (.cells (xs.toArray ++ Builtin.zeroCells z.cells m ++ Builtin.zeroCells z.cells (grownCap w (k + m) c e - (k + m))) e)) f hw rfl hn (by simp [execOp, resolve, invoke, builtin, f.ev hx, f.ev hy, hrun]) fun a' f' => hK a' _ _ _ ?_ (Nat.le_refl _) ((Kept.refl [] w).drew.alloc _) f'
    have hxl := hown.1
    refine ⟨by rw [List.length_append, hxl, Nat.add_mul]; simp [Builtin.zeroCells, hzs], .inr ⟨w.heap.size, 0, _, _, rfl, heap_alloc_new w.drew _, hcap.1, hcap.2, ?_, fun j u hu => ?_⟩⟩
    · simp [Builtin.zeroCells, hzs, hxl]
      rw [← Nat.add_mul, ← Nat.add_mul]
      exact Nat.mul_le_mul_right _ (by omega)
    · rw [Nat.zero_add]
      have hj := (List.getElem?_eq_some_iff.1 hu).1
      rw [List.length_append] at hj
      have h1 : (xs.toArray ++ Builtin.zeroCells z.cells m ++ Builtin.zeroCells z.cells (grownCap w (k + m) c e - (k + m)))[j]? = (xs ++ (Builtin.zeroCells z.cells m).toList)[j]? := by
        rw [Array.getElem?_append_left (by simpa using hj), ← Array.getElem?_toList]
        simp
      rw [h1]
      exact hu
end
section
variable {P : Program} {a : Act} {w : World} {n : Nat} {l : FL} {dst : Option Nat} {ty : TypeId} {ps : String} {af : Array Edge} {gd : Option (Nat × Bool)} {x y : Operand} {t : TypeId}
theorem E.slA (f : Fr n a l) {e : TypeId} {g off m c s k : Nat} {i : Int} {ki : IntKind} (ht : P.underlying t = some (.slice e)) (hs : (P.info? e).map (·.size) = some s) (hx : evl l x = some (.slice (some ⟨g, off, none⟩) m c)) (hy : evl l y = some (.int ki i)) (hk : i = k) (h1 : k ≤ m) (hc : c ≠ k) :
    (execOp a.eval ⟨dst, .slice t x (some y) none none, ty, ps, af, gd⟩).run P w = .ok (.value (.slice (some ⟨g, off + k * s, none⟩) (m - k) (c - k))) w := by
  subst hk
  have h := E.slLlo (P := P) (w := w) (dst := dst) (ty := ty) (ps := ps) (af := af) (g := gd) f ht hs hx hy (by omega) (by omega)
  rw [Int.toNat_natCast, if_neg hc] at h
  simpa only [Option.map_some, add_none] using h
end
section
variable {P : Program} {ops : Array Oper} {a : Act} {w : World} {Q : Exit → Act → World → Prop} {n d q : Nat} {l : FL} {ty : TypeId} {ps : String} {af : Array Edge} {gd : Option (Nat × Bool)} {x y : Operand} {t : TypeId} {Sw : World → Prop} {K : Act → World → Prop}
theorem O.copyR (f : Fr n a l) (hq : ops[q]? = some ⟨some d, .call { callee := .builtin .copy, args := #[x, y], argTypes := #[t, t] }, ty, ps, af, gd⟩) (hw : Region.wanted ⟨some d, .call { callee := .builtin .copy, args := #[x, y], argTypes := #[t, t] }, ty, ps, af, gd⟩ (yielded ops a.tmps) = true) (hn : d < n) {e size g o off dl dc m c j N C : Nat} {S : Option Addr} {xs vs ys : List Value} (ht : P.underlying t = some (.slice e)) (hs : (P.info? e).map (·.size) = some size)
    (hx : evl l x = some (.slice (some ⟨g, o, none⟩) dl dc)) (hy : evl l y = some (.slice S m c)) (hown : Own w e size (.slice (some ⟨g, off, none⟩) N C) N ys) (ho : o = off + j) (hsrc : Sl w S m size xs) (hm : 0 < m) (hv : vs = xs.take (Nat.min m dl * size)) (hj : j + vs.length ≤ ys.length) (h1 : ∀ v ∈ vs, v.oneCell' = true)
    (hSw : ∀ w', Kept [g] w w' → Sw w') (hK : ∀ a' w', Own w' e size (.slice (some ⟨g, off, none⟩) N C) N (setSeg ys j vs) → Kept [g] w w' → Fr n a' ((d, goInt (Nat.min m dl)) :: l) → K a' w') : wpOp P ops Q q (fun a w => Sw w ∧ K a w) a w := by
  subst ho
  have hr : ∀ i, i < vs.length → (w.cell? ⟨g, off + j + i, none⟩).isSome = true ∧ w.frozen? ⟨g, off + j + i, none⟩ = false := fun i hi => by
    have hx := hown.1
    have hnc : N ≤ C := by
      rcases hown.2 with ⟨hv, _⟩ | ⟨g', off', cap', cur, hv, _, hnc, _⟩
      · cases hv
      · injection hv with _ _ e3; subst e3; exact hnc
    have hn : N * size ≤ C * size := Nat.mul_le_mul_right _ hnc
    have := Own.room hown (j := j + i) (by omega)
    rwa [← Nat.add_assoc] at this
  have hrun := run_copyR (P := P) t ty e size ht hs hsrc hm hv (dc := dc) (c := c) (g := g) (o := off + j) (fun i hi => (hr i hi).1) (fun i hi => (hr i hi).2) h1
  obtain ⟨h2, h3⟩ := hown.seg vs hj
  refine O.val (v := goInt (Nat.min m dl)) f hq rfl hn hw ?_ (hSw _ h3) fun a' f' => hK a' _ h2 h3 f'
  simp [execOp, resolve, invoke, builtin, f.ev hx, f.ev hy, hrun]
end
theorem seg_a {W X Y Z : List Value} (hl : W.length = X.length + Y.length + Z.length) (hx : W.take X.length = X) : setSeg (setSeg W X.length Y) (X.length + Y.length) Z = X ++ Y ++ Z := by
  apply List.ext_getElem?
  intro i
  rw [setSeg_at _ _ _ _ (by rw [setSeg_len]; omega), setSeg_at _ _ _ _ (by omega)]
  by_cases h1 : i < X.length
  · have e : (W.take X.length)[i]? = W[i]? := by rw [List.getElem?_take, if_pos h1]
    rw [hx] at e
    rw [if_neg (by omega), if_neg (by omega), List.append_assoc, List.getElem?_append_left h1, e]
  · by_cases h2 : i < X.length + Y.length
    · rw [if_neg (by omega), if_pos (by omega), List.append_assoc, List.getElem?_append_right (by omega), List.getElem?_append_left (by omega)]
    · by_cases h3 : i < X.length + Y.length + Z.length
      · rw [if_pos (by omega), List.getElem?_append_right (by simp; omega)]
        simp
      · rw [if_neg (by omega), if_neg (by omega), List.getElem?_eq_none (by omega), List.getElem?_eq_none (by simp; omega)]
theorem seg_b {W X Y Z : List Value} (hl : W.length = X.length + Y.length + Z.length) (hx : W.take X.length = X) : setSeg (setSeg W (X.length + Y.length) Z) X.length Y = X ++ Y ++ Z := by
  apply List.ext_getElem?
  intro i
  rw [setSeg_at _ _ _ _ (by rw [setSeg_len]; omega), setSeg_at _ _ _ _ (by omega)]
  by_cases h1 : i < X.length
  · have e : (W.take X.length)[i]? = W[i]? := by rw [List.getElem?_take, if_pos h1]
    rw [hx] at e
    rw [if_neg (by omega), if_neg (by omega), List.append_assoc, List.getElem?_append_left h1, e]
  · by_cases h2 : i < X.length + Y.length
    · rw [if_pos (by omega), List.append_assoc, List.getElem?_append_right (by omega), List.getElem?_append_left (by omega)]
    · by_cases h3 : i < X.length + Y.length + Z.length
      · rw [if_neg (by omega), if_pos (by omega), List.getElem?_append_right (by simp; omega)]
        simp
      · rw [if_neg (by omega), if_neg (by omega), List.getElem?_eq_none (by omega), List.getElem?_eq_none (by simp; omega)]
end Go.Hub
namespace Go.Hub
open Go.RowKit Go.Lib
section
variable {P : Program} {ops : Array Oper} {rest : List Oper} {a : Act} {w : World} {Q : Exit → Act → World → Prop} {n d : Nat} {l : FL} {ty : TypeId} {ps : String} {af : Array Edge} {gd : Option (Nat × Bool)} {x y : Operand} {t u : TypeId}
theorem Sl.bs {A : Option Addr} {m : Nat} {b : List UInt8} (h : Sl w A m 1 (b.map u8)) : Bs [] w.heap.size w A m b := by
  refine ⟨by have := h.1; simpa using this, fun h0 => ?_⟩
  obtain ⟨g, off, e, hb, hc⟩ := h.2 h0
  exact ⟨g, off, e, hb, .inl hb, fun i x hx => hc i _ (by simp [hx])⟩
theorem E.toStr {dst : Option Nat} (f : Fr n a l) {A : Option Addr} {m c : Nat} {b : List UInt8} {e : TypeId} (hx : evl l x = some (.slice A m c)) (ht : P.underlying t = some (.slice e)) (he : P.underlying e = some (.int .u8)) (hu : P.underlying u = some .string) (h : Sl w A m 1 (b.map u8)) :
    (execOp a.eval ⟨dst, .convert t u x, ty, ps, af, gd⟩).run P w = .ok (.value (.string ⟨b.toArray⟩)) w := E.convV f hx (h.bs.conv ht he hu)
end
end Go.Hub
namespace Go.Hub
open Go.RowKit
section
variable {P : Program} {a : Act} {w : World} {n : Nat} {l : FL} {dst : Option Nat} {ty : TypeId} {ps : String} {af : Array Edge} {g : Option (Nat × Bool)} {x : Operand} {t : TypeId}
theorem E.fieldAddrN (off : Nat) (f : Fr n a l) {fs : Array Field} {i : Nat} {fld : Field} {b o s : Nat} (ht : P.underlying t = some (.struct fs)) (hx : evl l x = some (.pointer (some ⟨b, o, none⟩))) (hi : fs[i]? = some fld) (ho : fld.offset = off)
    (hs : (P.info? fld.type).map (·.size) = some (s + 1)) : (execOp a.eval ⟨dst, .fieldAddr t x i, ty, ps, af, g⟩).run P w = .ok (.value (.pointer (some ⟨b, o + off, none⟩))) w := by
  subst ho
  exact E.fieldAddr f ht hx hi hs
end
def gd (ops : Array Oper) (l : FL) : Option (Nat × Bool) → Option Bool
  | none => some true
  | some (j, b) => match (ops[j]?).bind (·.dst) with
    | none => none
    | some dj => match look l dj with
      | some (.bool c) => some (c == b)
      | some (.tuple _) => some false
      | _ => none
def simpleOp (l : FL) : Op → Option Value
  | .move x => evl l x
  | .assign x => evl l x
  | .pick c x y => match evl l c with
    | some (.bool true) => evl l x
    | some (.bool false) => evl l y
    | _ => none
  | .unOp .not _ x => match evl l x with
    | some (.bool true) => some (.bool false)
    | some (.bool false) => some (.bool true)
    | _ => none
  | _ => none
def stepS (ops : Array Oper) (n : Nat) (l : FL) (o : Oper) : Option FL :=
  match gd ops l o.guard with
  | none => none
  | some false => match o.dst with
    | none => some l
    | some d => bif Nat.blt d n then some ((d, undef) :: l) else none
  | some true => match simpleOp l o.op, o.dst with
    | some v, some d => bif Nat.blt d n then some ((d, v) :: l) else none
    | _, _ => none
def runS (ops : Array Oper) (n : Nat) : FL → List Oper → FL × List Oper
  | l, [] => (l, [])
  | l, o :: r => match stepS ops n l o with
    | some l' => runS ops n l' r
    | none => (l, o :: r)
section
variable {P : Program} {ops : Array Oper} {a : Act} {w : World} {Q : Exit → Act → World → Prop} {n : Nat} {l l' : FL} {o : Oper} {rest : List Oper}
theorem gd_spec (f : Fr n a l) {c : Bool} (h : gd ops l o.guard = some c) : Region.wanted o (yielded ops a.tmps) = c := by
  unfold gd at h
  unfold Region.wanted
  cases hg : o.guard with
  | none => rw [hg] at h; simpa using h
  | some p =>
    obtain ⟨j, b⟩ := p
    rw [hg] at h
    simp only at h ⊢
    cases hj : (ops[j]?).bind (·.dst) with
    | none => rw [hj] at h; cases h
    | some dj =>
      rw [hj] at h
      simp only at h
      split at h
      · rename_i c' hc
        rw [f.yield hj hc]
        simp at h
        rw [← h]
        simp
      · rename_i hc
        have hy : yielded ops a.tmps j = none := by
          unfold yielded
          rw [hj]
          simp [f.slot dj _ hc]
        rw [hy]
        simp at h
        simp [h]
      · cases h
theorem simpleOp_spec (f : Fr n a l) {v : Value} (h : simpleOp l o.op = some v) : (execOp a.eval o).run P w = .ok (.value v) w := by
  obtain ⟨dst, op, ty, ps, af, g⟩ := o
  simp only at h
  unfold simpleOp at h
  split at h
  · exact E.move f h
  · exact E.assign f h
  · rename_i c x y
    split at h
    · rename_i hc
      exact E.pickT f hc h
    · rename_i hc
      exact E.pickF f hc h
    · cases h
  · rename_i t x
    split at h
    · rename_i hc
      simp at h
      subst h
      exact E.not f hc
    · rename_i hc
      simp at h
      subst h
      exact E.not f hc
    · cases h
  · cases h
theorem L.stepRun (f : Fr n a l) (h : Go.Hub.stepS ops n l o = some l') (hK : ∀ a', Fr n a' l' → wpList P ops Q rest a' w) : wpList P ops Q (o :: rest) a w := by
  unfold Go.Hub.stepS at h
  split at h
  · cases h
  · rename_i hg
    have hw := gd_spec f hg
    split at h
    · rename_i hd
      cases h
      exact L.skipN f hw hd fun a' f' => hK a' f'
    · rename_i d hd
      cases hb : Nat.blt d n
      · rw [hb] at h; cases h
      · rw [hb] at h
        cases h
        exact L.skip f hw hd (by simpa [Nat.blt_eq] using hb) fun a' f' => hK a' f'
  · rename_i hg
    have hw := gd_spec f hg
    split at h
    · rename_i v d hv hd
      cases hb : Nat.blt d n
      · rw [hb] at h; cases h
      · rw [hb] at h
        cases h
        exact L.val f hw hd (by simpa [Nat.blt_eq] using hb) (simpleOp_spec f hv) fun a' f' => hK a' f'
    · cases h
theorem L.runAll : ∀ (rest : List Oper) (l : FL) (a : Act), Fr n a l → (∀ a', Fr n a' (runS ops n l rest).1 → wpList P ops Q (runS ops n l rest).2 a' w) → wpList P ops Q rest a w
  | [], l, a, f, hK => hK a f
  | o :: r, l, a, f, hK => by
    unfold runS at hK
    cases hs : Go.Hub.stepS ops n l o with
    | none =>
      rw [hs] at hK
      exact hK a f
    | some l' =>
      rw [hs] at hK
      exact L.stepRun f hs fun a' f' => L.runAll r l' a' f' hK
theorem L.run (f : Fr n a l) {rest' : List Oper} (h : (runS ops n l rest).2 = rest') (hK : ∀ a', Fr n a' (runS ops n l rest).1 → wpList P ops Q rest' a' w) : wpList P ops Q rest a w :=
  L.runAll rest l a f (by rw [h]; exact hK)
def dstIn (i : Nat) : List Oper → Bool
  | [] => false
  | o :: r => (match o.dst with | some d => Nat.beq d i | none => false) || dstIn i r
theorem runS_look (i : Nat) : ∀ (rest : List Oper) (l : FL), dstIn i rest = false → look (runS ops n l rest).1 i = look l i
  | [], l, _ => rfl
  | o :: r, l, h => by
    unfold dstIn at h
    rw [Bool.or_eq_false_iff] at h
    unfold runS
    cases hs : Go.Hub.stepS ops n l o with
    | none => rfl
    | some l' =>
      show look (runS ops n l' r).1 i = look l i
      rw [runS_look i r l' h.2]
      have key : ∀ d v, o.dst = some d → look ((d, v) :: l) i = look l i := fun d v hd => by
        have h1 := h.1
        rw [hd] at h1
        have hne : ¬ d = i := fun e => by
          subst e
          simp at h1
        have hb : (d == i) = false := by simp [hne]
        simp [look, hb]
      unfold Go.Hub.stepS at hs
      split at hs
      · cases hs
      · split at hs
        · cases hs; rfl
        · rename_i d hd
          cases hb : Nat.blt d n
          · rw [hb] at hs; cases hs
          · rw [hb] at hs; cases hs; exact key _ _ hd
      · split at hs
        · rename_i v d hv hd
          cases hb : Nat.blt d n
          · rw [hb] at hs; cases hs
          · rw [hb] at hs; cases hs; exact key _ _ hd
        · cases hs
theorem Fr.kept (f : Fr n a (runS ops n l rest).1) {i : Nat} {v : Value} (hd : dstIn i rest = false) (h : look l i = some v) : look (runS ops n l rest).1 i = some v := (runS_look i rest l hd).trans h
end
end Go.Hub
namespace Go.Hub
open Go.RowKit
def runD (md : Region.Mode) (ops : Array Oper) (n : Nat) : List Nat → FL → Array Bool → FL × Array Bool × Bool
  | [], l, listed => (l, listed, true)
  | i :: r, l, listed => match ops[i]? with
    | none => (l, listed, false)
    | some o => match o.dst, stepS ops n l o with
      | some _, some l' => bif Region.free md ops listed i && (Region.ready md ops listed).contains i then runD md ops n r l' (listed.setIfInBounds i true) else (l, listed, false)
      | _, _ => (l, listed, false)
section
variable {P : Program} {ops : Array Oper} {Q : Exit → Act → World → Prop} {md : Region.Mode} {S : World → Prop} {a : Act} {w : World} {n : Nat} {l : FL}
theorem R.runAll (hs : Region.noSelect ops = true) (hQ : ∀ c (a : Act) (x : Nat × Value) w, Q (.panic c) (a.put (some x.1) x.2) w → Q (.panic c) a w) (hS : S w) {fuel : Nat} : ∀ (is : List Nat) (l : FL) (listed : Array Bool) (a : Act), Fr n a l → (runD md ops n is l listed).2.2 = true →
    (∀ a', Fr n a' (runD md ops n is l listed).1 → wpAnyH P md ops Q S fuel (runD md ops n is l listed).2.1 a' w) → wpAnyH P md ops Q S (fuel + is.length) listed a w
  | [], l, listed, a, f, _, hK => hK a f
  | i :: r, l, listed, a, f, hd, hK => by
    unfold runD at hd hK
    cases ho : ops[i]? with
    | none => simp only [ho] at hd; cases hd
    | some o =>
      simp only [ho] at hd hK
      cases hdst : o.dst with
      | none => simp only [hdst] at hd; cases hd
      | some d =>
        cases hst : stepS ops n l o with
        | none => simp only [hdst, hst] at hd; cases hd
        | some l' =>
          simp only [hdst, hst] at hd hK
          cases hc : Region.free md ops listed i && (Region.ready md ops listed).contains i
          · simp only [hc] at hd; cases hd
          · simp only [hc, cond_true] at hd hK
            have hc' : Region.free md ops listed i = true ∧ (Region.ready md ops listed).contains i = true := by simpa using hc
            rw [List.length_cons, ← Nat.add_assoc]
            unfold stepS at hst
            split at hst
            · cases hst
            · rename_i hg
              rw [hdst] at hst
              simp only at hst
              cases hb : Nat.blt d n
              · rw [hb] at hst; cases hst
              · rw [hb] at hst
                cases hst
                exact R.takeSkip i f ho hdst (by simpa [Nat.blt_eq] using hb) hs hc'.1 hc'.2 (fun c a u w => hQ c a (d, u) w) (gd_spec f hg) hS fun a' f' => R.runAll hs hQ hS r _ _ a' f' hd hK
            · rename_i hg
              rw [hdst] at hst
              cases hv : simpleOp l o.op with
              | none => simp [hv] at hst
              | some v =>
                simp only [hv] at hst
                cases hb : Nat.blt d n
                · rw [hb] at hst; cases hst
                · rw [hb] at hst
                  cases hst
                  exact R.take i f ho hdst (by simpa [Nat.blt_eq] using hb) hs hc'.1 hc'.2 (fun c a u w => hQ c a (d, u) w) (gd_spec f hg) hS (fun w _ => simpleOp_spec f hv) fun a' f' => R.runAll hs hQ hS r _ _ a' f' hd hK
def dstInD (ops : Array Oper) (i : Nat) : List Nat → Bool
  | [] => false
  | j :: r => (match (ops[j]?).bind (·.dst) with | some d => Nat.beq d i | none => false) || dstInD ops i r
theorem stepS_look {o : Oper} {l' : FL} {i d : Nat} (hs : stepS ops n l o = some l') (hd : o.dst = some d) (hi : Nat.beq d i = false) : look l' i = look l i := by
  have key : ∀ v, look ((d, v) :: l) i = look l i := fun v => by
    have hne : ¬ d = i := fun e => by subst e; simp at hi
    have hb : (d == i) = false := by simp [hne]
    simp [look, hb]
  unfold stepS at hs
  split at hs
  · cases hs
  · rw [hd] at hs
    simp only at hs
    cases hb : Nat.blt d n
    · rw [hb] at hs; cases hs
    · rw [hb] at hs; cases hs; exact key _
  · rw [hd] at hs
    cases hv : simpleOp l o.op with
    | none => simp [hv] at hs
    | some v =>
      simp only [hv] at hs
      cases hb : Nat.blt d n
      · rw [hb] at hs; cases hs
      · rw [hb] at hs; cases hs; exact key _
theorem runD_look (i : Nat) : ∀ (is : List Nat) (l : FL) (listed : Array Bool), dstInD ops i is = false → look (runD md ops n is l listed).1 i = look l i
  | [], l, listed, _ => rfl
  | j :: r, l, listed, h => by
    unfold dstInD at h
    rw [Bool.or_eq_false_iff] at h
    unfold runD
    cases ho : ops[j]? with
    | none => rfl
    | some o =>
      simp only
      cases hdst : o.dst with
      | none => rfl
      | some d =>
        cases hst : stepS ops n l o with
        | none => rfl
        | some l' =>
          simp only
          cases hc : Region.free md ops listed j && (Region.ready md ops listed).contains j
          · rfl
          · simp only [cond_true]
            rw [runD_look i r l' _ h.2]
            have h1 := h.1
            rw [ho] at h1
            simp only [Option.bind_some, hdst] at h1
            exact stepS_look hst hdst h1
theorem R.run (is : List Nat) {listed : Array Bool} (listed' : Array Bool) {fuel : Nat} (f : Fr n a l) (hs : Region.noSelect ops = true) (hQ : ∀ c (a : Act) (x : Nat × Value) w, Q (.panic c) (a.put (some x.1) x.2) w → Q (.panic c) a w) (hS : S w)
    (h : ((runD md ops n is l listed).2.2 && ((runD md ops n is l listed).2.1 == listed')) = true) (hK : ∀ a', Fr n a' (runD md ops n is l listed).1 → wpAnyH P md ops Q S fuel listed' a' w) : wpAnyH P md ops Q S (fuel + is.length) listed a w := by
  rw [Bool.and_eq_true] at h
  refine R.runAll hs hQ hS is l listed a f h.1 ?_
  rw [eq_of_beq h.2]
  exact hK
theorem Fr.keptD {is : List Nat} {listed : Array Bool} (f : Fr n a (runD md ops n is l listed).1) {i : Nat} {v : Value} (hd : dstInD ops i is = false) (h : look l i = some v) : look (runD md ops n is l listed).1 i = some v := (runD_look i is l listed hd).trans h
end
end Go.Hub
namespace Go.Hub
open Go.RowKit
section
variable {P : Program} {ops : Array Oper} {Q : Exit → Act → World → Prop} {md : Region.Mode} {S : World → Prop} {a : Act} {w w' : World} {n d : Nat} {l : FL} {v : Value} {o : Oper} {K : Act → World → Prop}
theorem O.call {i : Nat} (f : Fr n a l) (hi : ops[i]? = some o) (hd : o.dst = some d) (hn : d < n) (hw : Region.wanted o (yielded ops a.tmps) = true)
    {fn : Nat} {args : Array Value} (h : (execOp a.eval o).run P w = .ok (.enter fn args) w) {R : Ending → World → Prop} (hc : Calls P fn args w R)
    (hR : ∀ e w', R e w' → ∃ v, e = .returned v ∧ S w' ∧ ∀ a', Fr n a' ((d, v) :: l) → K a' w') : wpOp P ops Q i (fun a w => S w ∧ K a w) a w := by
  unfold wpOp
  simp only [hi, hw, if_true]
  refine .inl ?_
  unfold Oper.wp
  rw [h]
  refine Calls.mono hc ?_
  intro e w' hr
  obtain ⟨v, rfl, hS, hK⟩ := hR e w' hr
  show S w' ∧ K (a.put o.dst v) w'
  rw [hd]
  exact ⟨hS, hK _ (f.put d v hn)⟩
end
section
variable {P : Program} {ops : Array Oper} {Q : Exit → Act → World → Prop} {md : Region.Mode} {S : World → Prop} {a : Act} {w : World} {n d : Nat} {l : FL} {v : Value} {fuel : Nat} {listed : Array Bool} {ty : TypeId} {ps : String} {af : Array Edge} {gd : Option (Nat × Bool)} {x y : Operand} {t : TypeId}
theorem R.storeR (i : Nat) (f : Fr n a l) (hi : ops[i]? = some ⟨none, .store t x y, ty, ps, af, gd⟩) (hr : Region.ready md ops listed = [i]) (hw : Region.wanted ⟨none, .store t x y, ty, ps, af, gd⟩ (yielded ops a.tmps) = true) {g s : Nat} {e : TypeId} {cs cs' : Array Value} (hs : (P.info? t).map (·.size) = some s) (hx : evl l x = some (.pointer (some ⟨g, 0, none⟩))) (hy : evl l y = some (.agg cs')) (h1 : cs'.toList.all (·.oneCell') = true)
    (B : Blk w g e cs) (hz : cs'.size = cs.size) (hl : cs'.size = s) (hS : ∀ w', Kept [g] w w' → S w') (hK : ∀ a' w', Fr n a' l → Blk w' g e cs' → Kept [g] w w' → S w' → wpAnyH P md ops Q S fuel (listed.setIfInBounds i true) a' w') : wpAnyH P md ops Q S (fuel + 1) listed a w :=
  R.act i f hi rfl hr hw (E.storeR f (hl ▸ hs) hx hy (by simpa using h1) (B.there (by omega))) (hS _ (setCells_kept w g 0 _)) fun a' f' => hK a' _ f' (setCells_blk B cs' hz) (setCells_kept w g 0 _) (hS _ (setCells_kept w g 0 _))
end
end Go.Hub
namespace Go.Hub
open Go.RowKit
section
variable {P : Program} {ops : Array Oper} {rest : List Oper} {o : Oper} {a : Act} {w w' w'' : World} {Q : Exit → Act → World → Prop} {n d : Nat} {l : FL} {v : Value}
theorem L.va (f : Fr n a l) (h : (execOp a.eval o).run P w = .ok (.value v) w') (hK : ∀ a', Fr n a' ((d, v) :: l) → wpList P ops Q rest a' w')
    (hw : Region.wanted o (yielded ops a.tmps) = true := by exact wantedN) (hd : o.dst = some d := by rfl) (hn : d < n := by decide) : wpList P ops Q (o :: rest) a w := L.val f hw hd hn h hK
theorem L.sk (f : Fr n a l) (hw : Region.wanted o (yielded ops a.tmps) = false) (hK : ∀ a', Fr n a' ((d, undef) :: l) → wpList P ops Q rest a' w) (hd : o.dst = some d := by rfl) (hn : d < n := by decide) : wpList P ops Q (o :: rest) a w := L.skip f hw hd hn hK
theorem L.cl (f : Fr n a l) {fn : Nat} {args : Array Value} (h : (execOp a.eval o).run P w = .ok (.enter fn args) w) {R : Ending → World → Prop} (hc : Calls P fn args w R)
    (hR : ∀ e w', R e w' → ∃ v, e = .returned v ∧ ∀ a', Fr n a' ((d, v) :: l) → wpList P ops Q rest a' w') (hw : Region.wanted o (yielded ops a.tmps) = true := by exact wantedN) (hd : o.dst = some d := by rfl) (hn : d < n := by decide) : wpList P ops Q (o :: rest) a w := L.call f hw hd hn h hc hR
theorem sn {l : FL} : Go.Hub.sub l [] := trivial
theorem sc (i : Nat) {l : FL} {v : Value} {r : FL} (h' : Go.Hub.sub l r) (h : look l i = some v := by rfl) : Go.Hub.sub l ((i, v) :: r) := ⟨h, h'⟩
theorem then_of {J : Act → World → Prop} (h : J a w) : Exit.then J Q .normal a w := h
theorem Kept.nn {L : List Nat} {g : Nat} (h : Kept L w w') (k : Kept [g] w' w'') (hg : w.heap.size ≤ g) : Kept L w w'' := h.trans k fun x hx hlt => by
  obtain rfl := List.mem_singleton.1 hx
  omega
theorem Kept.z {L : List Nat} (h : Kept L w w') (k : Kept [] w' w'') : Kept L w w'' := h.trans k (by simp)
theorem Blk.z {g : Nat} {t : TypeId} {cs : Array Value} (h : Blk w g t cs) (k : Kept [] w w') : Blk w' g t cs := h.kept k (by simp)
theorem Blk.oo {g x : Nat} {t : TypeId} {cs : Array Value} (h : Blk w g t cs) (k : Kept [x] w w') (hx : g ≠ x := by omega) : Blk w' g t cs := h.kept k (by simpa using hx)
end
section
variable {P : Program} {ops : Array Oper} {Q : Exit → Act → World → Prop} {md : Region.Mode} {S : World → Prop} {a : Act} {w w' : World} {n d : Nat} {l : FL} {v : Value} {o : Oper}
theorem R.t (i : Nat) {fuel : Nat} {listed : Array Bool} (f : Fr n a l) (hi : ops[i]? = some o) (hS : S w) (hv : ∀ w, S w → (execOp a.eval o).run P w = .ok (.value v) w)
    (hK : ∀ a', Fr n a' ((d, v) :: l) → wpAnyH P md ops Q S fuel (listed.setIfInBounds i true) a' w) (hw : Region.wanted o (yielded ops a.tmps) = true := by exact wantedN) (hd : o.dst = some d := by rfl) (hn : d < n := by decide)
    (hs : Region.noSelect ops = true := by kernel_rfl) (hf : Region.free md ops listed i = true := by kernel_rfl) (hr : (Region.ready md ops listed).contains i = true := by kernel_rfl)
    (hQ : ∀ c (a : Act) (u : Value) w, Q (.panic c) (a.put (some d) u) w → Q (.panic c) a w := by exact fun _ _ _ _ h => h) : wpAnyH P md ops Q S (fuel + 1) listed a w := R.take i f hi hd hn hs hf hr hQ hw hS hv hK
theorem R.ts (i : Nat) {fuel : Nat} {listed : Array Bool} (f : Fr n a l) (hi : ops[i]? = some o) (hS : S w) (hw : Region.wanted o (yielded ops a.tmps) = false)
    (hK : ∀ a', Fr n a' ((d, undef) :: l) → wpAnyH P md ops Q S fuel (listed.setIfInBounds i true) a' w) (hd : o.dst = some d := by rfl) (hn : d < n := by decide)
    (hs : Region.noSelect ops = true := by kernel_rfl) (hf : Region.free md ops listed i = true := by kernel_rfl) (hr : (Region.ready md ops listed).contains i = true := by kernel_rfl)
    (hQ : ∀ c (a : Act) (u : Value) w, Q (.panic c) (a.put (some d) u) w → Q (.panic c) a w := by exact fun _ _ _ _ h => h) : wpAnyH P md ops Q S (fuel + 1) listed a w := R.takeSkip i f hi hd hn hs hf hr hQ hw hS hK
end
section
variable {P : Program} {a : Act} {w : World} {n : Nat} {l : FL} {dst : Option Nat} {ty : TypeId} {ps : String} {af : Array Edge} {g : Option (Nat × Bool)} {x y : Operand} {t u : TypeId}
theorem E.fa (off : Nat) (f : Fr n a l) {fs : Array Field} {i : Nat} {fld : Field} {b o s : Nat} (ht : P.underlying t = some (.struct fs)) (hi : fs[i]? = some fld) (hs : (P.info? fld.type).map (·.size) = some (s + 1)) (hx : evl l x = some (.pointer (some ⟨b, o, none⟩)) := by rfl) (ho : fld.offset = off := by rfl) :
    (execOp a.eval ⟨dst, .fieldAddr t x i, ty, ps, af, g⟩).run P w = .ok (.value (.pointer (some ⟨b, o + off, none⟩))) w := E.fieldAddrN off f ht hx hi ho hs
theorem E.ld (f : Fr n a l) {b : Nat} {o : Nat} {v : Value} {d : TypeDesc} {e : TypeId} {cs : Array Value} (ht : P.underlying t = some d) (B : Blk w b e cs) (hx : evl l x = some (.pointer (some ⟨b, o, none⟩)) := by rfl) (hc : cs.toList[o]? = some v := by rfl) (hd : d.isRow = false := by rfl) :
    (execOp a.eval ⟨dst, .load t x, ty, ps, af, g⟩).run P w = .ok (.value v) w := E.load f ht hd hx (B.cl hc)
theorem E.eq (f : Fr n a l) {k : IntKind} {i j : Int} (hx : evl l x = some (.int k i) := by rfl) (hy : evl l y = some (.int k j) := by rfl) : (execOp a.eval ⟨dst, .binOp .eql t x y u, ty, ps, af, g⟩).run P w = .ok (.value (.bool (decide (i = j)))) w := E.eql f hx hy
end
theorem ktr {L : List Nat} {g : Nat} {w : World} (h : w.heap.size ≤ g ∨ g ∈ L) : ∀ x ∈ [g], x < w.heap.size → x ∈ L := fun x hx hlt => by
  obtain rfl := List.mem_singleton.1 hx
  rcases h with h | h
  · omega
  · exact h
theorem z1 {α : Type} {xs : List α} {i : Nat} {a : α} : xs.toArray.setIfInBounds i a = (xs.set i a).toArray := List.setIfInBounds_toArray ..
theorem z2 {α : Type} {a b : α} {xs : List α} : (a :: xs).set 0 b = b :: xs := rfl
theorem z3 {α : Type} {a b : α} {xs : List α} {i : Nat} : (a :: xs).set (i + 1) b = a :: xs.set i b := rfl
end Go.Hub
namespace Go.Hub
open Go.RowKit
def readyAt (md : Region.Mode) (ops : Array Oper) (listed : Array Bool) (i : Nat) : Bool :=
  Nat.blt i ops.size && (!listed.getD i true && ((ops[i]?).map (·.after.all fun e => !Region.binds md e || listed.getD e.on false)).getD false)
def waits (md : Region.Mode) (o : Oper) (i : Nat) : Bool := o.after.any fun e => Region.binds md e && e.on == i
def tame (md : Region.Mode) (ops : Array Oper) : Bool := (List.range ops.size).all fun i => match ops[i]? with
  | none => false
  | some oi => (List.range ops.size).all fun j => j == i || match ops[j]? with
    | some oj => waits md oj i || waits md oi j || oi.apart ops oj
    | none => true
theorem readyAt_spec {md : Region.Mode} {ops : Array Oper} {listed : Array Bool} {i : Nat} (h : readyAt md ops listed i = true) : (Region.ready md ops listed).contains i = true := by
  unfold readyAt at h
  rw [Bool.and_eq_true] at h
  rw [List.contains_iff_mem]
  exact List.mem_filter.2 ⟨List.mem_range.2 (Nat.le_of_ble_eq_true h.1), h.2⟩
theorem free_of_tame {md : Region.Mode} {ops : Array Oper} {listed : Array Bool} {i : Nat} (ht : tame md ops = true) (h : readyAt md ops listed i = true) : Region.free md ops listed i = true := by
  unfold readyAt at h
  rw [Bool.and_eq_true, Bool.and_eq_true] at h
  obtain ⟨h1, h2, h3⟩ := h
  unfold Region.free
  have ht1 := List.all_eq_true.1 ht i (List.mem_range.2 (Nat.le_of_ble_eq_true h1))
  cases hi : ops[i]? with
  | none => rw [hi] at h3; simp at h3
  | some oi =>
    rw [hi] at ht1 h3
    simp only [Option.map_some, Option.getD_some] at h3
    simp only at ht1 ⊢
    refine List.all_eq_true.2 fun j hj => ?_
    have h4 := List.all_eq_true.1 ht1 j hj
    rw [Bool.or_eq_true] at h4
    rcases h4 with h4 | h4
    · simp [h4]
    · cases hoj : ops[j]? with
      | none => simp
      | some oj =>
        rw [hoj] at h4
        simp only [Bool.or_eq_true] at h4 ⊢
        rcases h4 with (h4 | h4) | h4
        · exact .inr (.inl h4)
        · refine .inl (.inr ?_)
          unfold waits at h4
          obtain ⟨e, he, hb⟩ := Array.any_eq_true'.1 h4
          rw [Bool.and_eq_true] at hb
          have h5 := Array.all_eq_true_iff_forall_mem.1 h3 e he
          have hon : e.on = j := by simpa using hb.2
          rw [hb.1, hon] at h5
          simp only [Bool.not_true, Bool.false_or] at h5
          rcases Nat.lt_or_ge j listed.size with hl | hl
          · simp [hl] at h5 ⊢; exact h5
          · simp [Array.getElem?_eq_none hl] at h5
        · exact .inr (.inr h4)
section
variable {P : Program} {ops : Array Oper} {Q : Exit → Act → World → Prop} {md : Region.Mode} {S : World → Prop} {a : Act} {w w' : World} {n d : Nat} {l : FL} {v : Value} {o : Oper}
theorem R.beginT {id : Nat} (hm : P.follows .mixedOrders = true) (hc : (Region.noSelect ops && tame .any ops) = true) (hS : S (w.drewN 1))
    (h : (Region.noSelect ops = true ∧ tame .any ops = true) → wpAnyH P .any ops Q S ops.size (Array.replicate ops.size false) a (w.drewN 1)) : (Code.region id ops true).wp P Q a w := R.begin hm hS (h (by simpa using hc))
theorem R.u (i : Nat) {fuel : Nat} {listed : Array Bool} (f : Fr n a l) (hi : ops[i]? = some o) (ht : Region.noSelect ops = true ∧ tame md ops = true) (hS : S w) (hv : ∀ w, S w → (execOp a.eval o).run P w = .ok (.value v) w)
    (hK : ∀ a', Fr n a' ((d, v) :: l) → wpAnyH P md ops Q S fuel (listed.setIfInBounds i true) a' w) (hw : Region.wanted o (yielded ops a.tmps) = true := by exact wantedN) (hd : o.dst = some d := by rfl) (hn : d < n := by decide)
    (hr : readyAt md ops listed i = true := by kernel_rfl)
    (hQ : ∀ c (a : Act) (u : Value) w, Q (.panic c) (a.put (some d) u) w → Q (.panic c) a w := by exact fun _ _ _ _ h => h) : wpAnyH P md ops Q S (fuel + 1) listed a w := R.take i f hi hd hn ht.1 (free_of_tame ht.2 hr) (readyAt_spec hr) hQ hw hS hv hK
theorem R.us (i : Nat) {fuel : Nat} {listed : Array Bool} (f : Fr n a l) (hi : ops[i]? = some o) (ht : Region.noSelect ops = true ∧ tame md ops = true) (hS : S w) (hw : Region.wanted o (yielded ops a.tmps) = false)
    (hK : ∀ a', Fr n a' ((d, undef) :: l) → wpAnyH P md ops Q S fuel (listed.setIfInBounds i true) a' w) (hd : o.dst = some d := by rfl) (hn : d < n := by decide)
    (hr : readyAt md ops listed i = true := by kernel_rfl)
    (hQ : ∀ c (a : Act) (u : Value) w, Q (.panic c) (a.put (some d) u) w → Q (.panic c) a w := by exact fun _ _ _ _ h => h) : wpAnyH P md ops Q S (fuel + 1) listed a w := R.takeSkip i f hi hd hn ht.1 (free_of_tame ht.2 hr) (readyAt_spec hr) hQ hw hS hK
end
def runT (md : Region.Mode) (ops : Array Oper) (n : Nat) : List Nat → FL → Array Bool → FL × Array Bool × Bool
  | [], l, listed => (l, listed, true)
  | i :: r, l, listed => match ops[i]? with
    | none => (l, listed, false)
    | some o => match o.dst, stepS ops n l o with
      | some _, some l' => bif readyAt md ops listed i then runT md ops n r l' (listed.setIfInBounds i true) else (l, listed, false)
      | _, _ => (l, listed, false)
section
variable {P : Program} {ops : Array Oper} {Q : Exit → Act → World → Prop} {md : Region.Mode} {S : World → Prop} {a : Act} {w : World} {n : Nat} {l : FL}
theorem R.runAllT (ht : Region.noSelect ops = true ∧ tame md ops = true) (hQ : ∀ c (a : Act) (x : Nat × Value) w, Q (.panic c) (a.put (some x.1) x.2) w → Q (.panic c) a w) (hS : S w) {fuel : Nat} : ∀ (is : List Nat) (l : FL) (listed : Array Bool) (a : Act), Fr n a l → (runT md ops n is l listed).2.2 = true →
    (∀ a', Fr n a' (runT md ops n is l listed).1 → wpAnyH P md ops Q S fuel (runT md ops n is l listed).2.1 a' w) → wpAnyH P md ops Q S (fuel + is.length) listed a w
  | [], l, listed, a, f, _, hK => hK a f
  | i :: r, l, listed, a, f, hd, hK => by
    unfold runT at hd hK
    cases ho : ops[i]? with
    | none => simp only [ho] at hd; cases hd
    | some o =>
      simp only [ho] at hd hK
      cases hdst : o.dst with
      | none => simp only [hdst] at hd; cases hd
      | some d =>
        cases hst : stepS ops n l o with
        | none => simp only [hdst, hst] at hd; cases hd
        | some l' =>
          simp only [hdst, hst] at hd hK
          cases hc : readyAt md ops listed i
          · simp only [hc] at hd; cases hd
          · simp only [hc, cond_true] at hd hK
            have hc' : Region.free md ops listed i = true ∧ (Region.ready md ops listed).contains i = true := ⟨free_of_tame ht.2 hc, readyAt_spec hc⟩
            rw [List.length_cons, ← Nat.add_assoc]
            unfold stepS at hst
            split at hst
            · cases hst
            · rename_i hg
              rw [hdst] at hst
              simp only at hst
              cases hb : Nat.blt d n
              · rw [hb] at hst; cases hst
              · rw [hb] at hst
                cases hst
                exact R.takeSkip i f ho hdst (by simpa [Nat.blt_eq] using hb) ht.1 hc'.1 hc'.2 (fun c a u w => hQ c a (d, u) w) (gd_spec f hg) hS fun a' f' => R.runAllT ht hQ hS r _ _ a' f' hd hK
            · rename_i hg
              rw [hdst] at hst
              cases hv : simpleOp l o.op with
              | none => simp [hv] at hst
              | some v =>
                simp only [hv] at hst
                cases hb : Nat.blt d n
                · rw [hb] at hst; cases hst
                · rw [hb] at hst
                  cases hst
                  exact R.take i f ho hdst (by simpa [Nat.blt_eq] using hb) ht.1 hc'.1 hc'.2 (fun c a u w => hQ c a (d, u) w) (gd_spec f hg) hS (fun w _ => simpleOp_spec f hv) fun a' f' => R.runAllT ht hQ hS r _ _ a' f' hd hK
theorem runT_look (i : Nat) : ∀ (is : List Nat) (l : FL) (listed : Array Bool), dstInD ops i is = false → look (runT md ops n is l listed).1 i = look l i
  | [], l, listed, _ => rfl
  | j :: r, l, listed, h => by
    unfold dstInD at h
    rw [Bool.or_eq_false_iff] at h
    unfold runT
    cases ho : ops[j]? with
    | none => rfl
    | some o =>
      simp only
      cases hdst : o.dst with
      | none => rfl
      | some d =>
        cases hst : stepS ops n l o with
        | none => rfl
        | some l' =>
          simp only
          cases hc : readyAt md ops listed j
          · rfl
          · simp only [cond_true]
            rw [runT_look i r l' _ h.2]
            have h1 := h.1
            rw [ho] at h1
            simp only [Option.bind_some, hdst] at h1
            exact stepS_look hst hdst h1
theorem R.runT (is : List Nat) {listed : Array Bool} (listed' : Array Bool) {fuel : Nat} (f : Fr n a l) (ht : Region.noSelect ops = true ∧ tame md ops = true) (hQ : ∀ c (a : Act) (x : Nat × Value) w, Q (.panic c) (a.put (some x.1) x.2) w → Q (.panic c) a w) (hS : S w)
    (h : ((runT md ops n is l listed).2.2 && ((runT md ops n is l listed).2.1 == listed')) = true) (hK : ∀ a', Fr n a' (runT md ops n is l listed).1 → wpAnyH P md ops Q S fuel listed' a' w) : wpAnyH P md ops Q S (fuel + is.length) listed a w := by
  rw [Bool.and_eq_true] at h
  refine R.runAllT ht hQ hS is l listed a f h.1 ?_
  rw [eq_of_beq h.2]
  exact hK
theorem Fr.keptT {is : List Nat} {listed : Array Bool} (f : Fr n a (runT md ops n is l listed).1) {i : Nat} {v : Value} (hd : dstInD ops i is = false) (h : look l i = some v) : look (runT md ops n is l listed).1 i = some v := (runT_look i is l listed hd).trans h
end
end Go.Hub
namespace Go.Hub
open Go.RowKit
def tf (n : Nat) (l : List Nat) : Array Bool := ((List.range n).map fun i => !l.contains i).toArray
section
variable {P : Program} {ops : Array Oper} {rest : List Oper} {a : Act} {w : World} {Q : Exit → Act → World → Prop} {n d : Nat} {l : FL} {v : Value} {ty t : TypeId} {ps : String} {af : Array Edge} {g : Option (Nat × Bool)} {x : Operand}
theorem L.mv (f : Fr n a l) (hK : ∀ a', Fr n a' ((d, v) :: l) → wpList P ops Q rest a' w) (hx : evl l x = some v := by rfl)
    (hw : Region.wanted ⟨some d, .move x, ty, ps, af, g⟩ (yielded ops a.tmps) = true := by exact wantedN) (hn : d < n := by decide) : wpList P ops Q (⟨some d, .move x, ty, ps, af, g⟩ :: rest) a w := L.val f hw rfl hn (E.move f hx) hK
theorem L.ag (f : Fr n a l) (hK : ∀ a', Fr n a' ((d, v) :: l) → wpList P ops Q rest a' w) (hx : evl l x = some v := by rfl)
    (hw : Region.wanted ⟨some d, .assign x, ty, ps, af, g⟩ (yielded ops a.tmps) = true := by exact wantedN) (hn : d < n := by decide) : wpList P ops Q (⟨some d, .assign x, ty, ps, af, g⟩ :: rest) a w := L.val f hw rfl hn (E.assign f hx) hK
theorem L.fa (off : Nat) (f : Fr n a l) {fs : Array Field} {i : Nat} {fld : Field} {b o s : Nat} (ht : P.underlying t = some (.struct fs)) (hi : fs[i]? = some fld) (hs : (P.info? fld.type).map (·.size) = some (s + 1))
    (hK : ∀ a', Fr n a' ((d, .pointer (some ⟨b, o + off, none⟩)) :: l) → wpList P ops Q rest a' w) (hx : evl l x = some (.pointer (some ⟨b, o, none⟩)) := by rfl) (ho : fld.offset = off := by rfl)
    (hw : Region.wanted ⟨some d, .fieldAddr t x i, ty, ps, af, g⟩ (yielded ops a.tmps) = true := by exact wantedN) (hn : d < n := by decide) : wpList P ops Q (⟨some d, .fieldAddr t x i, ty, ps, af, g⟩ :: rest) a w := L.val f hw rfl hn (E.fa off f ht hi hs hx ho) hK
theorem L.ld (f : Fr n a l) {b o : Nat} {td : TypeDesc} {e : TypeId} {cs : Array Value} (ht : P.underlying t = some td) (B : Blk w b e cs) (hK : ∀ a', Fr n a' ((d, v) :: l) → wpList P ops Q rest a' w)
    (hx : evl l x = some (.pointer (some ⟨b, o, none⟩)) := by rfl) (hc : cs.toList[o]? = some v := by rfl) (hd : td.isRow = false := by rfl)
    (hw : Region.wanted ⟨some d, .load t x, ty, ps, af, g⟩ (yielded ops a.tmps) = true := by exact wantedN) (hn : d < n := by decide) : wpList P ops Q (⟨some d, .load t x, ty, ps, af, g⟩ :: rest) a w := L.val f hw rfl hn (E.ld f ht B hx hc hd) hK
theorem scR {r : FL} {rest : List Oper} (f : Fr n a (runS ops n l rest).1) (i : Nat) (h' : Go.Hub.sub (runS ops n l rest).1 r) {v : Value} (hd : dstIn i rest = false := by kernel_rfl) (h : look l i = some v := by rfl) : Go.Hub.sub (runS ops n l rest).1 ((i, v) :: r) := ⟨Fr.kept f hd h, h'⟩
theorem RB.tk {md : Region.Mode} {S : World → Prop} {o : Oper} {m : Nat} (i : Nat) {fuel : Nat} {listed : Array Bool} (f : Fr n a l) (hi : ops[i]? = some o) (hS : S w) (hv : ∀ w, S w → (execOp a.eval o).run P w = .ok (.value v) w)
    (hK : ∀ a', Fr n a' ((d, v) :: l) → wpAnyB P md ops Q S m fuel (listed.setIfInBounds i true) a' w) (hw : Region.wanted o (yielded ops a.tmps) = true := by exact wantedN) (hd : o.dst = some d := by rfl) (hn : d < n := by decide)
    (hb : (Nat.blt i m && barrier md ops m) = true := by kernel_rfl) (hs : Region.noSelect ops = true := by kernel_rfl) (hf : Region.free md ops listed i = true := by kernel_rfl) (hr : (Region.ready md ops listed).contains i = true := by kernel_rfl)
    (hQ : ∀ c (a : Act) (u : Value) w, Q (.panic c) (a.put (some d) u) w → Q (.panic c) a w := by exact fun _ _ _ _ h => h) : wpAnyB P md ops Q S m (fuel + 1) listed a w := RB.take i f hi hd hn hb hs hf hr hQ hw hS hv hK
theorem C.sk {id : Nat} {os : List Oper} {y : Code} (h : ∀ K : Act → World → Prop, (∀ a w, y.wp P Q a w → K a w) → wpList P os.toArray (Exit.then K Q) os a w) : (Code.seq (Code.region id os.toArray false) y).wp P Q a w := wp_seq_k fun K hK => C.region (h K hK)
theorem scT {md : Region.Mode} {r : FL} {is : List Nat} {listed : Array Bool} (f : Fr n a (runT md ops n is l listed).1) (i : Nat) (h' : Go.Hub.sub (runT md ops n is l listed).1 r) {v : Value} (hd : dstInD ops i is = false := by kernel_rfl) (h : look l i = some v := by rfl) : Go.Hub.sub (runT md ops n is l listed).1 ((i, v) :: r) := ⟨Fr.keptT f hd h, h'⟩
theorem sr {l r : FL} {i : Nat} {v : Value} (h : look l i = some v) (h' : Go.Hub.sub l r) : Go.Hub.sub l ((i, v) :: r) := ⟨h, h'⟩
theorem sv {l r : FL} (i : Nat) (v : Value) (h' : Go.Hub.sub l r) (h : look l i = some v := by kernel_rfl) : Go.Hub.sub l ((i, v) :: r) := ⟨h, h'⟩
theorem jn {a : Act} {w : World} (J : Act → World → Prop) (h : J a w) : Exit.then J (fun _ _ _ => True) .normal a w := h
theorem sx {l r : FL} {i : Nat} {v : Value} (h' : Go.Hub.sub l r) (h : look l i = some v := by rfl) : Go.Hub.sub l ((i, v) :: r) := ⟨h, h'⟩
theorem Own.z {w w' : World} {e : TypeId} {size n : Nat} {v : Value} {xs : List Value} (h : Own w e size v n xs) (hk : Kept [] w w') : Own w' e size v n xs := Own.kept h hk (by simp)
theorem xt {K : Act → World → Prop} {Q : Exit → Act → World → Prop} {a : Act} {w : World} : Exit.then K Q .ret a w = Q .ret a w := rfl
theorem xb {i k : Nat} {Q : Exit → Act → World → Prop} {a : Act} {w : World} : Exit.inBlock i Q .ret a w = Q .ret a w := rfl
end
end Go.Hub
namespace Go.Proofs.YtekmhcdgmgbheaaDoor
abbrev U28 := @Tryd.underlying28
abbrev U23 := @Tryd.underlying23
abbrev U25 := @Tryd.underlying25
abbrev U35 := @Tryd.underlying35
abbrev U37 := @Tryd.underlying37
abbrev U3 := @Tryd.underlying3
abbrev U32 := @Tryd.underlying32
abbrev U26 := @Tryd.underlying26
abbrev U9 := @Tryd.underlying9
abbrev U5 := @Tryd.underlying5
abbrev U2 := @Tryd.underlying2
abbrev U4 := @Tryd.underlying4
end Go.Proofs.YtekmhcdgmgbheaaDoor
namespace Go.Proofs.YtekmhcdgmgbheaaDoor
open Go.RowKit Go.Hub
theorem wsz3_a : (Tryd.prog.info? 3).map (·.size) = some 1 := by kernel_rfl
theorem wzi3_a : (Tryd.prog.info? 3).map (fun i => (i.zero, i.size)) = some (some (.int .i64 0), 1) := by kernel_rfl
theorem wbs94_2_a (x0 : Int) (x1 : Int) : Instr.fill (fun i => some (i * 1, 1)) ((Array.range (2 * 1)).map fun j => (Value.cells (.int .i64 0))[j % (Value.cells (.int .i64 0)).size]!) [(0, .int .i64 x0), (1, .int .i64 x1)] = some #[.int .i64 x0, .int .i64 x1] := by kernel_rfl
set_option maxHeartbeats 1000000 in
theorem nan_any (x : Int) (w : World) : Calls Tryd.prog 58 #[.int .i64 x] w (fun e w' => w = w' ∧ e = .returned (.bool false)) := by
  refine C.enter Tryd.func58 rfl Tryd.ntmps58 rfl ?_
  intro a0 f0
  have f1 : Fr 6 a0 [(0, .int .i64 x)] := f0
  refine C.sk fun K0 hK0 => ?_
  refine L.val f1 wantedN rfl (by decide) (E.assign f1 rfl) fun a2 f2 => ?_
  have f3 := f2.sub (sub_cons (i := 0) rfl (sub_cons (i := 2) rfl sn))
  refine wpList_nil (hK0 _ _ (C.sk fun K1 hK1 => ?_))
  refine L.val f3 wantedN rfl (by decide) (E.move f3 rfl) fun a4 f4 => ?_
  refine L.val f4 wantedN rfl (by decide) (E.move f4 rfl) fun a5 f5 => ?_
  refine L.val f5 wantedN rfl (by decide) (E.neq f5 rfl rfl) fun a6 f6 => ?_
  refine L.val f6 wantedN rfl (by decide) (E.assign f6 rfl) fun a7 f7 => ?_
  have f8 := f7.sub (sub_cons (i := 2) rfl sn)
  refine wpList_nil (hK1 _ _ (wp_ret ?_)); (try simp only [xt, xb]); refine C.ret f8 rfl rfl ?_
  exact ⟨rfl, by simp⟩
set_option maxHeartbeats 1000000 in
theorem cmp_any (x y : Int) (w : World) : Calls Tryd.prog 35 #[.int .i64 x, .int .i64 y] w (fun e w' => w = w' ∧ e = .returned (.int .i64 (cmpI x y))) := by
  refine C.enter Tryd.func35 rfl Tryd.ntmps35 rfl ?_
  intro a0 f0
  have f1 : Fr 20 a0 [(0, .int .i64 x), (1, .int .i64 y)] := f0
  refine C.sk fun K0 hK0 => ?_
  refine L.val f1 wantedN rfl (by decide) (E.assign f1 rfl) fun a2 f2 => ?_
  have f3 := f2.sub (sub_cons (i := 0) rfl (sub_cons (i := 1) rfl (sub_cons (i := 4) rfl sn)))
  refine wpList_nil (hK0 _ _ (C.sk fun K1 hK1 => ?_))
  refine L.val f3 wantedN rfl (by decide) (E.move f3 rfl) fun a4 f4 => ?_
  refine L.call f4 wantedN rfl (by decide) (run_call Tryd.call58 (args1 f4 rfl)) (nan_any _ _) ?_
  clear f0 f1 a0 f2 f3 a2
  rintro e wx ⟨rfl, rfl⟩
  refine ⟨_, rfl, fun a5 f5 => ?_⟩
  refine L.val f5 wantedN rfl (by decide) (E.assign f5 rfl) fun a6 f6 => ?_
  have f7 := f6.sub (sub_cons (i := 0) rfl (sub_cons (i := 1) rfl (sub_cons (i := 4) rfl (sub_cons (i := 5) rfl sn))))
  refine wpList_nil (hK1 _ _ (C.sk fun K2 hK2 => ?_))
  refine L.val f7 wantedN rfl (by decide) (E.move f7 rfl) fun a8 f8 => ?_
  refine L.call f8 wantedN rfl (by decide) (run_call Tryd.call58 (args1 f8 rfl)) (nan_any _ _) ?_
  clear f4 a4 f5 a5 f6 f7 a6
  rintro e wx ⟨rfl, rfl⟩
  refine ⟨_, rfl, fun a9 f9 => ?_⟩
  refine L.val f9 wantedN rfl (by decide) (E.assign f9 rfl) fun a10 f10 => ?_
  refine wpList_nil (hK2 _ _ ?_)
  have f11 := f10.sub (sub_cons (i := 0) rfl (sub_cons (i := 1) rfl (sub_cons (i := 4) rfl (sub_cons (i := 5) rfl (sub_cons (i := 6) rfl sn)))))
  refine wp_seq_k fun K3 hK3 => ?_
  refine C.sk fun K4 hK4 => ?_
  refine L.val f11 wantedN rfl (by decide) (E.move f11 rfl) fun a12 f12 => ?_
  refine wpList_nil (hK4 _ _ ?_)
  have f13 := f12.sub (sub_cons (i := 0) rfl (sub_cons (i := 1) rfl (sub_cons (i := 4) rfl (sub_cons (i := 6) rfl (sub_cons (i := 11) rfl sn)))))
  refine C.condF f13 rfl ?_
  refine wp_skip (hK3 _ _ ?_)
  have f14 := f13.sub (sub_cons (i := 0) rfl (sub_cons (i := 1) rfl (sub_cons (i := 4) rfl (sub_cons (i := 6) rfl sn))))
  refine wp_seq_k fun K5 hK5 => ?_
  refine C.sk fun K6 hK6 => ?_
  refine L.val f14 wantedN rfl (by decide) (E.move f14 rfl) fun a15 f15 => ?_
  refine wpList_nil (hK6 _ _ ?_)
  have f16 := f15.sub (sub_cons (i := 0) rfl (sub_cons (i := 1) rfl (sub_cons (i := 4) rfl (sub_cons (i := 13) rfl sn))))
  refine C.condF f16 rfl ?_
  refine wp_skip (hK5 _ _ ?_)
  have f17 := f16.sub (sub_cons (i := 0) rfl (sub_cons (i := 1) rfl (sub_cons (i := 4) rfl sn)))
  refine wp_seq_k fun K7 hK7 => ?_
  refine C.sk fun K8 hK8 => ?_
  refine L.val f17 wantedN rfl (by decide) (E.move f17 rfl) fun a18 f18 => ?_
  clear f8 a8 f9 a9 f10 f11 a10 f12 f13 f14 a12 f15 f16 f17 a15
  refine L.val f18 wantedN rfl (by decide) (E.move f18 rfl) fun a19 f19 => ?_
  refine L.val f19 wantedN rfl (by decide) (E.lss f19 rfl rfl) fun a20 f20 => ?_
  refine wpList_nil (hK8 _ _ ?_)
  have f21 := f20.sub (sub_cons (i := 0) rfl (sub_cons (i := 1) rfl (sub_cons (i := 4) rfl (sub_cons (i := 16) rfl sn))))
  clear f18 a18 f19 a19 f20
  refine f21.splitD 16 rfl (fun h0 f22 => ?_) (fun h0 f22 => ?_)
  · refine C.condT f22 rfl ?_
    refine C.sk fun K9 hK9 => ?_
    refine L.val f22 wantedN rfl (by decide) (E.assign f22 rfl) fun a23 f23 => ?_
    have f24 := f23.sub (sub_cons (i := 0) rfl (sub_cons (i := 1) rfl (sub_cons (i := 4) rfl sn)))
    refine wpList_nil (hK9 _ _ (wp_ret ?_)); (try simp only [xt, xb]); refine C.ret f24 rfl rfl ?_
    exact ⟨rfl, by simp [cmpI, *]⟩
  refine C.condF f22 rfl ?_
  refine wp_skip (hK7 _ _ ?_)
  have f23 := f22.sub (sub_cons (i := 0) rfl (sub_cons (i := 1) rfl (sub_cons (i := 4) rfl sn)))
  refine wp_seq_k fun K10 hK10 => ?_
  refine C.sk fun K11 hK11 => ?_
  refine L.val f23 wantedN rfl (by decide) (E.move f23 rfl) fun a24 f24 => ?_
  refine L.val f24 wantedN rfl (by decide) (E.move f24 rfl) fun a25 f25 => ?_
  refine L.val f25 wantedN rfl (by decide) (E.gtr f25 rfl rfl) fun a26 f26 => ?_
  refine wpList_nil (hK11 _ _ ?_)
  have f27 := f26.sub (sub_cons (i := 4) rfl (sub_cons (i := 19) rfl sn))
  clear f21 f22 f23 a20 f24 a24 f25 a25 f26
  refine f27.splitD 19 rfl (fun h1 f28 => ?_) (fun h1 f28 => ?_)
  · refine C.condT f28 rfl ?_
    refine C.sk fun K12 hK12 => ?_
    refine L.val f28 wantedN rfl (by decide) (E.assign f28 rfl) fun a29 f29 => ?_
    have f30 := f29.sub (sub_cons (i := 4) rfl sn)
    refine wpList_nil (hK12 _ _ (wp_ret ?_)); (try simp only [xt, xb]); refine C.ret f30 rfl rfl ?_
    exact ⟨rfl, by simp [cmpI, *]⟩
  refine C.condF f28 rfl ?_
  refine wp_skip (hK10 _ _ ?_)
  have f29 := f28.sub (sub_cons (i := 4) rfl sn)
  refine C.sk fun K13 hK13 => ?_
  refine L.val f29 wantedN rfl (by decide) (E.assign f29 rfl) fun a30 f30 => ?_
  have f31 := f30.sub (sub_cons (i := 4) rfl sn)
  refine wpList_nil (hK13 _ _ (wp_ret ?_)); (try simp only [xt, xb]); refine C.ret f31 rfl rfl ?_
  exact ⟨rfl, by simp [cmpI, *]⟩
set_option maxHeartbeats 1000000 in
theorem or_any (x y : Int) (b c : Nat) (w : World) (B : Blk w b 3 #[.int .i64 x, .int .i64 y]) : Calls Tryd.prog 32 #[.slice (some ⟨b, 0, none⟩) 2 c] w (fun e w' => w = w' ∧ e = .returned (.int .i64 (if x = 0 then y else x))) := by
  refine C.enter Tryd.func32 rfl Tryd.ntmps32 rfl ?_
  intro a0 f0
  have f1 : Fr 18 a0 [(0, .slice (some ⟨b, 0, none⟩) 2 c)] := f0
  refine C.sk fun K0 hK0 => ?_
  refine L.val f1 wantedN rfl (by decide) (E.assign f1 rfl) fun a2 f2 => ?_
  have f3 := f2.sub (sub_cons (i := 0) rfl (sub_cons (i := 2) rfl sn))
  refine wpList_nil (hK0 _ _ (C.sk fun K1 hK1 => ?_))
  refine L.val f3 wantedN rfl (by decide) (E.assign f3 rfl) fun a4 f4 => ?_
  refine wpList_nil (hK1 _ _ ?_)
  have f5 := f4.sub (sub_cons (i := 0) rfl (sub_cons (i := 2) rfl (sub_cons (i := 3) rfl sn)))
  refine wp_seq_k fun K2 hK2 => ?_
  refine C.sk fun K3 hK3 => ?_
  refine L.val f5 wantedN rfl (by decide) (E.move f5 rfl) fun a6 f6 => ?_
  refine L.val f6 wantedN rfl (by decide) (E.lenL f6 Tryd.underlying94 rfl) fun a7 f7 => ?_
  refine L.val f7 wantedN rfl (by decide) (E.move f7 rfl) fun a8 f8 => ?_
  refine wpList_nil (hK3 _ _ ?_)
  have f9 := f8.sub (sub_cons (i := 2) rfl (sub_cons (i := 3) rfl (sub_cons (i := 6) rfl (sub_cons (i := 7) rfl (sub_cons (i := 8) rfl sn)))))
  clear f0 f1 a0 f2 f3 a2 f4 f5 a4 f6 a6 f7 a7 f8
  refine wp_block ?_
  refine C.loop (fun gk a W => w = W ∧ ∃ k : Nat, k + gk = 2 ∧ (0 < k → x = 0) ∧ (1 < k → y = 0) ∧ Fr 18 a [(3, .int .i64 0), (6, .slice (some ⟨b, 0, none⟩) 2 c), (7, .int .i64 2), (8, .int .i64 k)]) (2) ?_ ?_
  · exact ⟨rfl, 0, rfl, by omega, by omega, f9.sub (sx (sx (sx (sx sn))))⟩
  intro gk5 a10 w1 hI KL4 hKL4
  obtain ⟨hW, k, hk, hx, hy, f10⟩ := hI
  subst hW
  try clear f9
  have hcell : k < 2 → w.cell? ⟨b, 0 + (Int.toNat (k : Int)) * 1, none⟩ = some (.int .i64 (if k = 0 then x else y)) := fun h => by
    rcases (show k = 0 ∨ k = 1 by omega) with rfl | rfl
    · exact B.cell_ rfl
    exact B.cell_ rfl
  refine C.sk fun K5 hK5 => ?_
  refine L.val f10 wantedN rfl (by decide) (E.lss f10 rfl rfl) fun a11 f11 => ?_
  refine wpList_nil (hK5 _ _ ?_)
  have f12 := f11.sub (sub_cons (i := 3) rfl (sub_cons (i := 6) rfl (sub_cons (i := 7) rfl (sub_cons (i := 8) rfl (sub_cons (i := 9) rfl sn)))))
  refine wp_seq_k fun K6 hK6 => ?_
  clear f10 a10 f11
  refine f12.splitD 9 rfl (fun h0 f13 => ?_) (fun h0 f13 => ?_)
  · refine C.condT f13 rfl ?_
    refine wp_skip (hK6 _ _ ?_)
    have f14 := f13.sub (sub_cons (i := 3) rfl (sub_cons (i := 6) rfl (sub_cons (i := 7) rfl (sub_cons (i := 8) rfl (sub_cons (i := 9) rfl sn)))))
    refine wp_seq_k fun K7 hK7 => ?_
    refine wp_block ?_
    refine C.sk fun K8 hK8 => ?_
    refine L.val f14 wantedN rfl (by decide) (E.indexA f14 (by rfl) Tryd.underlying94 wsz3_a rfl rfl (by omega) (by omega)) fun a15 f15 => ?_
    refine L.val f15 wantedN rfl (by decide) (E.load f15 U3 rfl rfl (hcell (by omega))) fun a16 f16 => ?_
    refine L.val f16 wantedN rfl (by decide) (E.assign f16 rfl) fun a17 f17 => ?_
    have f18 := f17.sub (sub_cons (i := 3) rfl (sub_cons (i := 5) rfl (sub_cons (i := 6) rfl (sub_cons (i := 7) rfl (sub_cons (i := 8) rfl (sub_cons (i := 9) rfl (sub_cons (i := 10) rfl (sub_cons (i := 11) rfl sn))))))))
    refine wpList_nil (hK8 _ _ (C.sk fun K9 hK9 => ?_))
    refine L.val f18 wantedN rfl (by decide) (E.move f18 rfl) fun a19 f19 => ?_
    refine L.val f19 wantedN rfl (by decide) (E.move f19 rfl) fun a20 f20 => ?_
    refine L.val f20 wantedN rfl (by decide) (E.neq f20 rfl rfl) fun a21 f21 => ?_
    clear f12 f13 f14 a11 f15 a15 f16 a16 f17 f18 a17 f19 a19 f20 a20
    refine wpList_nil (hK9 _ _ ?_)
    have f22 := f21.sub (sub_cons (i := 3) rfl (sub_cons (i := 5) rfl (sub_cons (i := 6) rfl (sub_cons (i := 7) rfl (sub_cons (i := 8) rfl (sub_cons (i := 9) rfl (sub_cons (i := 10) rfl (sub_cons (i := 11) rfl (sub_cons (i := 12) rfl (sub_cons (i := 13) rfl (sub_cons (i := 14) rfl sn)))))))))))
    clear f21
    refine f22.splitN 14 rfl (fun h1 f23 => ?_) (fun h1 f23 => ?_)
    · refine C.condT f23 rfl ?_
      refine C.sk fun K10 hK10 => ?_
      refine L.val f23 wantedN rfl (by decide) (E.move f23 rfl) fun a24 f24 => ?_
      refine L.val f24 wantedN rfl (by decide) (E.assign f24 rfl) fun a25 f25 => ?_
      have f26 := f25.sub (sub_cons (i := 2) rfl (sub_cons (i := 3) rfl (sub_cons (i := 5) rfl (sub_cons (i := 6) rfl (sub_cons (i := 7) rfl (sub_cons (i := 8) rfl (sub_cons (i := 9) rfl (sub_cons (i := 10) rfl (sub_cons (i := 11) rfl (sub_cons (i := 12) rfl (sub_cons (i := 13) rfl (sub_cons (i := 14) rfl (sub_cons (i := 15) rfl sn)))))))))))))
      refine wpList_nil (hK10 _ _ (wp_ret ?_)); (try simp only [xt, xb]); refine C.ret f26 rfl rfl ?_
      exact ⟨rfl, by rcases (show k = 0 ∨ k = 1 by omega) with rfl | rfl <;> simp_all⟩
    refine C.condF f23 rfl ?_
    refine wp_skip (hK7 _ _ ?_)
    have f24 := f23.sub (sub_cons (i := 3) rfl (sub_cons (i := 5) rfl (sub_cons (i := 6) rfl (sub_cons (i := 7) rfl (sub_cons (i := 8) rfl (sub_cons (i := 9) rfl (sub_cons (i := 10) rfl (sub_cons (i := 11) rfl (sub_cons (i := 12) rfl (sub_cons (i := 13) rfl (sub_cons (i := 14) rfl sn)))))))))))
    refine C.region ?_
    refine L.val f24 wantedN rfl (by decide) (E.add f24 rfl rfl (IntWalk.i64_in _ (by omega))) fun a25 f25 => ?_
    refine L.val f25 wantedN rfl (by decide) (E.move f25 rfl) fun a26 f26 => ?_
    clear f22 f23 f24 a21 f25 a25
    refine wpList_nil (hKL4 _ _ (gk5 - 1) ?_ ?_)
    · omega
    exact ⟨rfl, k + 1, by omega, fun _ => by by_cases hk0 : k = 0 <;> simp [hk0] at h1 <;> first | exact h1 | exact hx (by omega), fun _ => by have hk0 : ¬ k = 0 := (by omega); simpa [hk0] using h1, f26.sub (sx (sx (sx (sx sn))))⟩
  refine C.condF f13 rfl ?_
  refine wp_exit (hK2 _ _ ?_)
  have f14 := f13.sub (sub_cons (i := 3) rfl sn)
  refine C.sk fun K11 hK11 => ?_
  refine L.val f14 wantedN rfl (by decide) (E.move f14 rfl) fun a15 f15 => ?_
  refine L.val f15 wantedN rfl (by decide) (E.assign f15 rfl) fun a16 f16 => ?_
  have f17 := f16.sub (sub_cons (i := 2) rfl sn)
  refine wpList_nil (hK11 _ _ (wp_ret ?_)); (try simp only [xt, xb]); refine C.ret f17 rfl rfl ?_
  exact ⟨rfl, by simp [hx (by omega), hy (by omega)]⟩
set_option maxHeartbeats 1000000 in
theorem lives_any (p q : Dt) (w : World) : Calls Tryd.prog 36 #[.agg (dcell p).toArray, .agg (dcell q).toArray] w (fun e w' => Kept [] w w' ∧ e = .returned (.int .i64 (livesI p q))) := by
  have HK : Kept [] w w := Kept.refl [] w
  refine C.enter Tryd.func36 rfl Tryd.ntmps36 rfl ?_
  intro a0 f0
  have f1 : Fr 17 a0 [(0, .agg (dcell p).toArray), (1, .agg (dcell q).toArray)] := f0
  refine C.sk fun K0 hK0 => ?_
  refine L.box f1 wantedN (by decide) rfl rfl fun a2 w1 g0 N0 f2 => ?_
  have Bg0 := N0.blk
  have kg0 := N0.kept
  have log0 := N0.lo
  have ltg0 := Bg0.lt
  have szw1 := kg0.size
  have frg0 : w.heap.size ≤ g0 := Nat.le_trans HK.size log0
  replace HK := HK.z kg0
  clear f0 N0 kg0
  refine L.box f2 wantedN (by decide) rfl rfl fun a3 w2 g1 N1 f3 => ?_
  have Bg1 := N1.blk
  have kg1 := N1.kept
  have log1 := N1.lo
  have ltg1 := Bg1.lt
  have szw2 := kg1.size
  have frg1 : w.heap.size ≤ g1 := Nat.le_trans HK.size log1
  have neg0_g1 : g0 ≠ g1 := by have := Bg0.lt; omega
  replace HK := HK.z kg1
  replace Bg0 := Bg0.z kg1
  clear f1 a0 N1 kg1
  refine L.val f3 wantedN rfl (by decide) (E.assign f3 rfl) fun a4 f4 => ?_
  refine wpList_nil (hK0 _ _ ?_)
  have f5 := f4.sub (sub_cons (i := 2) rfl (sub_cons (i := 3) rfl (sub_cons (i := 4) rfl sn)))
  refine wp_seq_k fun K1 hK1 => ?_
  refine R.begin (S := fun W => Kept [] w2 W) (by kernel_rfl) (by exact (Kept.refl _ _).drewN 1) ?_
  have hS1 : Kept [] w2 (w2.drewN 1) := (Kept.refl _ _).drewN 1
  have hd1 : Kept [] w2 (w2.drewN 1) := (Kept.refl _ _).drewN 1
  obtain ⟨w3, hww3⟩ : ∃ W, W = w2.drewN 1 := ⟨_, rfl⟩
  rw [← hww3] at hS1 hd1 ⊢
  clear f2 a2 f3 a3 f4 hww3
  have szw3 := hS1.size
  refine R.take 0 f5 rfl rfl (by decide) (by kernel_rfl) (by kernel_rfl) (by kernel_rfl) (fun _ _ _ _ h => h) wantedN hS1 (fun W hW => (E.fieldAddrN 0 f5 U23 rfl rfl rfl wsz3_a)) fun a6 f6 => ?_
  refine R.take 1 f6 rfl rfl (by decide) (by kernel_rfl) (by kernel_rfl) (by kernel_rfl) (fun _ _ _ _ h => h) wantedN hS1 (fun W hW => (E.load f6 U3 rfl rfl ((Bg0.z hW).cl rfl))) fun a7 f7 => ?_
  refine R.take 2 f7 rfl rfl (by decide) (by kernel_rfl) (by kernel_rfl) (by kernel_rfl) (fun _ _ _ _ h => h) wantedN hS1 (fun W hW => (E.fieldAddrN 0 f7 U23 rfl rfl rfl wsz3_a)) fun a8 f8 => ?_
  refine R.take 3 f8 rfl rfl (by decide) (by kernel_rfl) (by kernel_rfl) (by kernel_rfl) (fun _ _ _ _ h => h) wantedN hS1 (fun W hW => (E.load f8 U3 rfl rfl ((Bg1.z hW).cl rfl))) fun a9 f9 => ?_
  refine R.take 5 f9 rfl rfl (by decide) (by kernel_rfl) (by kernel_rfl) (by kernel_rfl) (fun _ _ _ _ h => h) wantedN hS1 (fun W hW => (E.fieldAddrN 1 f9 U23 rfl rfl rfl wsz3_a)) fun a10 f10 => ?_
  refine R.take 6 f10 rfl rfl (by decide) (by kernel_rfl) (by kernel_rfl) (by kernel_rfl) (fun _ _ _ _ h => h) wantedN hS1 (fun W hW => (E.load f10 U3 rfl rfl ((Bg0.z hW).cl rfl))) fun a11 f11 => ?_
  refine R.take 7 f11 rfl rfl (by decide) (by kernel_rfl) (by kernel_rfl) (by kernel_rfl) (fun _ _ _ _ h => h) wantedN hS1 (fun W hW => (E.fieldAddrN 1 f11 U23 rfl rfl rfl wsz3_a)) fun a12 f12 => ?_
  clear f5 a4 f6 a6 f7 a7 f8 a8 f9 a9 f10 a10 f11 a11
  refine R.take 8 f12 rfl rfl (by decide) (by kernel_rfl) (by kernel_rfl) (by kernel_rfl) (fun _ _ _ _ h => h) wantedN hS1 (fun W hW => (E.load f12 U3 rfl rfl ((Bg1.z hW).cl rfl))) fun a13 f13 => ?_
  refine R.call 4 f13 rfl rfl (by decide) (by kernel_rfl) wantedN (run_call Tryd.call35 (args2 f13 rfl rfl)) (cmp_any _ _ _) ?_
  clear f12 a12
  rintro e w3x ⟨rfl, rfl⟩
  refine ⟨_, rfl, hS1, fun a14 f14 => ?_⟩
  refine R.call 9 f14 rfl rfl (by decide) (by kernel_rfl) wantedN (run_call Tryd.call35 (args2 f14 rfl rfl)) (cmp_any _ _ _) ?_
  clear f13 a13
  rintro e w3x ⟨rfl, rfl⟩
  refine ⟨_, rfl, hS1, fun a15 f15 => ?_⟩
  refine R.one 10 (by kernel_rfl) ?_
  refine O.buildSlice f15 rfl wantedN (by decide) (parts2 f15 rfl rfl) Tryd.underlying94 wzi3_a rfl rfl (wbs94_2_a _ _) (fun _ hk => hS1.trans hk (by simp)) fun a16 w4 g3 N3 hSn f16 => ?_
  have Bg3 := N3.blk
  have kg3 := N3.kept
  have log3 := N3.lo
  have ltg3 := Bg3.lt
  have szw4 := kg3.size
  have szSw4 := hS1.size
  clear f14 a14 f15 a15 N3 kg3
  replace hS1 := hSn
  clear hSn
  refine R.call 11 f16 rfl rfl (by decide) (by kernel_rfl) wantedN (run_call Tryd.call32 (args1 f16 rfl)) (or_any _ _ _ _ _ Bg3) ?_
  rintro e w4x ⟨rfl, rfl⟩
  refine ⟨_, rfl, hS1, fun a17 f17 => ?_⟩
  refine R.take 12 f17 rfl rfl (by decide) (by kernel_rfl) (by kernel_rfl) (by kernel_rfl) (fun _ _ _ _ h => h) wantedN hS1 (fun W hW => (E.assign f17 rfl)) fun a18 f18 => ?_
  have szw4r := hS1.size
  replace HK := HK.z hS1
  replace Bg0 := Bg0.z hS1
  replace Bg1 := Bg1.z hS1
  clear f16 a16 f17 a17 hS1
  refine R.done (by kernel_rfl) (hK1 _ _ ?_)
  have f19 := f18.sub (sub_cons (i := 4) rfl sn)
  refine wp_ret ?_; (try simp only [xt, xb]); refine C.ret f19 rfl rfl ?_
  exact ⟨HK, rfl⟩
set_option maxHeartbeats 1000000 in
theorem may_any (d : Dt) (w : World) : Calls Tryd.prog 62 #[.agg (dcell d).toArray] w (fun e w' => Kept [] w w' ∧ e = .returned (.bool (mayB d))) := by
  have HK : Kept [] w w := Kept.refl [] w
  refine C.enter Tryd.func62 rfl Tryd.ntmps62 rfl ?_
  intro a0 f0
  have f1 : Fr 21 a0 [(0, .agg (dcell d).toArray)] := f0
  refine C.sk fun K0 hK0 => ?_
  refine L.box f1 wantedN (by decide) rfl rfl fun a2 w1 g0 N0 f2 => ?_
  have Bg0 := N0.blk
  have kg0 := N0.kept
  have log0 := N0.lo
  have ltg0 := Bg0.lt
  have szw1 := kg0.size
  have frg0 : w.heap.size ≤ g0 := Nat.le_trans HK.size log0
  replace HK := HK.z kg0
  clear f0 N0 kg0
  refine L.val f2 wantedN rfl (by decide) (E.assign f2 rfl) fun a3 f3 => ?_
  have f4 := f3.sub (sub_cons (i := 1) rfl (sub_cons (i := 2) rfl sn))
  refine wpList_nil (hK0 _ _ (C.sk fun K1 hK1 => ?_))
  refine L.val f4 wantedN rfl (by decide) (E.fieldAddrN 0 f4 U23 rfl rfl rfl wsz3_a) fun a5 f5 => ?_
  refine L.val f5 wantedN rfl (by decide) (E.load f5 U3 rfl rfl ((Bg0).cl rfl)) fun a6 f6 => ?_
  refine L.val f6 wantedN rfl (by decide) (E.geq f6 rfl rfl) fun a7 f7 => ?_
  refine L.val f7 wantedN rfl (by decide) (E.move f7 rfl) fun a8 f8 => ?_
  clear f1 a0 f2 a2 f3 f4 a3 f5 a5 f6 a6 f7 a7
  refine f8.splitD 6 rfl (fun h0 f9 => ?_) (fun h0 f9 => ?_)
  · refine L.val f9 (f9.yes rfl rfl) rfl (by decide) (E.fieldAddrN 0 f9 U23 rfl rfl rfl wsz3_a) fun a10 f10 => ?_
    refine L.val f10 (f10.yes rfl rfl) rfl (by decide) (E.load f10 U3 rfl rfl ((Bg0).cl rfl)) fun a11 f11 => ?_
    refine L.val f11 (f11.yes rfl rfl) rfl (by decide) (E.lss f11 rfl rfl) fun a12 f12 => ?_
    refine L.val f12 wantedN rfl (by decide) (E.pickT f12 rfl rfl) fun a13 f13 => ?_
    refine L.val f13 wantedN rfl (by decide) (E.move f13 rfl) fun a14 f14 => ?_
    clear f8 f9 a8 f10 a10 f11 a11 f12 a12 f13 a13
    refine f14.splitD 11 rfl (fun h1 f15 => ?_) (fun h1 f15 => ?_)
    · refine L.val f15 (f15.yes rfl rfl) rfl (by decide) (E.fieldAddrN 1 f15 U23 rfl rfl rfl wsz3_a) fun a16 f16 => ?_
      refine L.val f16 (f16.yes rfl rfl) rfl (by decide) (E.load f16 U3 rfl rfl ((Bg0).cl rfl)) fun a17 f17 => ?_
      refine L.val f17 (f17.yes rfl rfl) rfl (by decide) (E.geq f17 rfl rfl) fun a18 f18 => ?_
      refine L.val f18 wantedN rfl (by decide) (E.pickT f18 rfl rfl) fun a19 f19 => ?_
      refine L.val f19 wantedN rfl (by decide) (E.move f19 rfl) fun a20 f20 => ?_
      clear f14 f15 a14 f16 a16 f17 a17 f18 a18 f19 a19
      refine f20.splitD 16 rfl (fun h2 f21 => ?_) (fun h2 f21 => ?_)
      · refine L.val f21 (f21.yes rfl rfl) rfl (by decide) (E.fieldAddrN 2 f21 U23 rfl rfl rfl wsz3_a) fun a22 f22 => ?_
        refine L.val f22 (f22.yes rfl rfl) rfl (by decide) (E.load f22 U3 rfl rfl ((Bg0).cl rfl)) fun a23 f23 => ?_
        refine L.val f23 (f23.yes rfl rfl) rfl (by decide) (E.geq f23 rfl rfl) fun a24 f24 => ?_
        refine L.val f24 wantedN rfl (by decide) (E.pickT f24 rfl rfl) fun a25 f25 => ?_
        refine L.val f25 wantedN rfl (by decide) (E.assign f25 rfl) fun a26 f26 => ?_
        have f27 := f26.sub (sub_cons (i := 2) rfl sn)
        refine wpList_nil (hK1 _ _ (wp_ret ?_)); (try simp only [xt, xb]); refine C.ret f27 rfl rfl ?_
        exact ⟨HK, by simp [mayB, *]⟩
      refine L.run f21 (rest' := []) (by kernel_rfl) fun a22 f22 => ?_
      clear f20
      have f23 := f22.sub (sv 2 (.bool false) sn)
      refine wpList_nil (hK1 _ _ (wp_ret ?_)); (try simp only [xt, xb]); refine C.ret f23 rfl rfl ?_
      exact ⟨HK, by simp [mayB, *]⟩
    refine L.run f15 (rest' := []) (by kernel_rfl) fun a16 f16 => ?_
    clear f14
    have f17 := f16.sub (sv 2 (.bool false) sn)
    refine wpList_nil (hK1 _ _ (wp_ret ?_)); (try simp only [xt, xb]); refine C.ret f17 rfl rfl ?_
    exact ⟨HK, by simp [mayB, *]⟩
  refine L.run f9 (rest' := []) (by kernel_rfl) fun a10 f10 => ?_
  clear f8
  have f11 := f10.sub (sv 2 (.bool false) sn)
  refine wpList_nil (hK1 _ _ (wp_ret ?_)); (try simp only [xt, xb]); refine C.ret f11 rfl rfl ?_
  exact ⟨HK, by simp [mayB, *]⟩
end Go.Proofs.YtekmhcdgmgbheaaDoor
namespace Go.Proofs.YtekmhcdgmgbheaaDoor
open Go.RowKit Go.Hub
theorem wsz23_b : (Tryd.prog.info? 23).map (·.size) = some 3 := by kernel_rfl
set_option maxHeartbeats 1000000 in
theorem right_any (l : List Dt) (A : Option Addr) (c : Nat) (w : World) (A1 : Ds w A l) (hm : l.length ≤ maxLen) : Calls Tryd.prog 60 #[.slice A l.length c] w (fun e w' => Kept [] w w' ∧ e = .returned (.bool (rightB l))) := by
  have HK : Kept [] w w := Kept.refl [] w
  unfold maxLen at hm
  refine C.enter Tryd.func60 rfl Tryd.ntmps60 rfl ?_
  intro a0 f0
  have f1 : Fr 30 a0 [(0, .slice A l.length c)] := f0
  refine C.sk fun K0 hK0 => ?_
  refine L.val f1 wantedN rfl (by decide) (E.assign f1 rfl) fun a2 f2 => ?_
  refine wpList_nil (hK0 _ _ ?_)
  have f3 := f2.sub (sub_cons (i := 0) rfl (sub_cons (i := 2) rfl sn))
  refine wp_seq_k fun K1 hK1 => ?_
  refine C.sk fun K2 hK2 => ?_
  refine L.val f3 wantedN rfl (by decide) (E.move f3 rfl) fun a4 f4 => ?_
  refine L.val f4 wantedN rfl (by decide) (E.lenL f4 U32 rfl) fun a5 f5 => ?_
  refine L.val f5 wantedN rfl (by decide) (E.move f5 rfl) fun a6 f6 => ?_
  refine wpList_nil (hK2 _ _ ?_)
  have f7 := f6.sub (sub_cons (i := 0) rfl (sub_cons (i := 2) rfl (sub_cons (i := 5) rfl (sub_cons (i := 6) rfl (sub_cons (i := 7) rfl sn)))))
  refine wp_block ?_
  clear f0 f1 a0 f2 f3 a2 f4 a4 f5 a5 f6
  refine C.loop (fun gk a W => ∃ k : Nat, k + gk = l.length ∧ Kept [] w W ∧ rightFrom none l = rightFrom (prevD l k) (l.drop k) ∧ Fr 30 a [(0, .slice A l.length c), (5, .slice A l.length c), (6, .int .i64 l.length), (7, .int .i64 k)]) (l.length) ?_ ?_
  · exact ⟨0, by omega, HK, rfl, f7.sub (sx (sx (sx (sx sn))))⟩
  intro gk4 a8 w1 hI KL3 hKL3
  obtain ⟨k, hk, HK, hr, f8⟩ := hI
  try clear f7
  refine C.sk fun K4 hK4 => ?_
  refine L.val f8 wantedN rfl (by decide) (E.lss f8 rfl rfl) fun a9 f9 => ?_
  refine wpList_nil (hK4 _ _ ?_)
  have f10 := f9.sub (sub_cons (i := 0) rfl (sub_cons (i := 5) rfl (sub_cons (i := 6) rfl (sub_cons (i := 7) rfl (sub_cons (i := 8) rfl sn)))))
  refine wp_seq_k fun K5 hK5 => ?_
  clear f8 a8 f9
  refine f10.splitD 8 rfl (fun h0 f11 => ?_) (fun h0 f11 => ?_)
  · obtain ⟨d, hd⟩ : ∃ d, l[k]? = some d := ⟨l[k]'(by omega), List.getElem?_eq_getElem _⟩
    obtain ⟨b, off, hA⟩ := A1.addr (i := k) (by omega)
    have hst := right_step l k d hd
    refine C.condT f11 rfl ?_
    refine wp_skip (hK5 _ _ ?_)
    have f12 := f11.sub (sub_cons (i := 0) rfl (sub_cons (i := 5) rfl (sub_cons (i := 6) rfl (sub_cons (i := 7) rfl (sub_cons (i := 8) rfl sn)))))
    refine wp_seq_k fun K6 hK6 => ?_
    refine wp_block ?_
    refine C.sk fun K7 hK7 => ?_
    refine L.val f12 wantedN rfl (by decide) (E.move f12 rfl) fun a13 f13 => ?_
    refine L.val f13 wantedN rfl (by decide) (E.indexA f13 (by assumption) U32 wsz23_b rfl rfl (by omega) (by omega)) fun a14 f14 => ?_
    refine L.val f14 wantedN rfl (by decide) (E.loadR f14 U23 rfl wsz23_b rfl ((A1.kept HK).row hA hd) rfl) fun a15 f15 => ?_
    refine L.alloc f15 wantedN (by decide) (z := (.agg #[(.int .i64 0), (.int .i64 0), (.int .i64 0)])) (fun _ => by kernel_rfl) rfl fun a16 w2 g1 N1 f16 => ?_
    have Bg1 := N1.blk
    have kg1 := N1.kept
    have log1 := N1.lo
    have ltg1 := Bg1.lt
    have szw2 := kg1.size
    have frg1 : w.heap.size ≤ g1 := Nat.le_trans HK.size log1
    replace HK := HK.z kg1
    clear f10 f11 f12 a9 f13 a13 f14 a14 N1 kg1
    refine L.val f16 wantedN rfl (by decide) (E.assign f16 rfl) fun a17 f17 => ?_
    refine L.storeR f17 wantedN wsz23_b rfl rfl rfl Bg1 rfl rfl fun a18 w3 f18 NB3 ks3 => ?_
    have szw3 := ks3.size
    replace HK := HK.trans ks3 (by intro x hx hlt; simp at hx; subst hx; (exfalso; omega))
    replace Bg1 := NB3
    clear f15 a15 f16 a16 ks3 f17 a17
    refine wpList_nil (hK7 _ _ ?_)
    have f19 := f18.sub (sub_cons (i := 0) rfl (sub_cons (i := 3) rfl (sub_cons (i := 4) rfl (sub_cons (i := 5) rfl (sub_cons (i := 6) rfl (sub_cons (i := 7) rfl (sub_cons (i := 8) rfl (sub_cons (i := 9) rfl (sub_cons (i := 10) rfl (sub_cons (i := 11) rfl sn))))))))))
    refine wp_seq_k fun K8 hK8 => ?_
    refine R.begin (S := fun W => Kept [] w3 W) (by kernel_rfl) (by exact (Kept.refl _ _).drewN 1) ?_
    have hS4 : Kept [] w3 (w3.drewN 1) := (Kept.refl _ _).drewN 1
    have hd4 : Kept [] w3 (w3.drewN 1) := (Kept.refl _ _).drewN 1
    obtain ⟨w4, hww4⟩ : ∃ W, W = w3.drewN 1 := ⟨_, rfl⟩
    rw [← hww4] at hS4 hd4 ⊢
    clear f18 hww4
    have szw4 := hS4.size
    refine R.take 0 f19 rfl rfl (by decide) (by kernel_rfl) (by kernel_rfl) (by kernel_rfl) (fun _ _ _ _ h => h) wantedN hS4 (fun W hW => (E.loadB f19 U23 rfl wsz23_b rfl (Bg1.z hW) rfl)) fun a20 f20 => ?_
    refine R.call 1 f20 rfl rfl (by decide) (by kernel_rfl) wantedN (run_call Tryd.call62 (args1 f20 rfl)) (may_any _ _) ?_
    clear f19 a18
    rintro e w5 ⟨kc5, rfl⟩
    replace hS4 := hS4.trans kc5 (by simp)
    refine ⟨_, rfl, hS4, fun a21 f21 => ?_⟩
    have szw5 := kc5.size
    clear f20 a20 kc5
    refine R.take 2 f21 rfl rfl (by decide) (by kernel_rfl) (by kernel_rfl) (by kernel_rfl) (fun _ _ _ _ h => h) wantedN hS4 (fun W hW => (E.not f21 rfl)) fun a22 f22 => ?_
    refine R.take 3 f22 rfl rfl (by decide) (by kernel_rfl) (by kernel_rfl) (by kernel_rfl) (fun _ _ _ _ h => h) wantedN hS4 (fun W hW => (E.move f22 rfl)) fun a23 f23 => ?_
    clear f21 a21 f22 a22
    refine f23.splitNB 15 rfl (fun h1 f24 => ?_) (fun h1 f24 => ?_)
    · refine R.takeSkip 4 f24 rfl rfl (by decide) (by kernel_rfl) (by kernel_rfl) (by kernel_rfl) (fun _ _ _ _ h => h) (f24.noF rfl rfl) hS4 fun a25 f25 => ?_
      refine R.takeSkip 5 f25 rfl rfl (by decide) (by kernel_rfl) (by kernel_rfl) (by kernel_rfl) (fun _ _ _ _ h => h) (f25.noF rfl rfl) hS4 fun a26 f26 => ?_
      refine R.takeSkip 6 f26 rfl rfl (by decide) (by kernel_rfl) (by kernel_rfl) (by kernel_rfl) (fun _ _ _ _ h => h) (f26.noF rfl rfl) hS4 fun a27 f27 => ?_
      refine R.takeSkip 7 f27 rfl rfl (by decide) (by kernel_rfl) (by kernel_rfl) (by kernel_rfl) (fun _ _ _ _ h => h) (f27.noU rfl rfl) hS4 fun a28 f28 => ?_
      refine R.takeSkip 8 f28 rfl rfl (by decide) (by kernel_rfl) (by kernel_rfl) (by kernel_rfl) (fun _ _ _ _ h => h) (f28.noU rfl rfl) hS4 fun a29 f29 => ?_
      refine R.takeSkip 9 f29 rfl rfl (by decide) (by kernel_rfl) (by kernel_rfl) (by kernel_rfl) (fun _ _ _ _ h => h) (f29.noU rfl rfl) hS4 fun a30 f30 => ?_
      refine R.takeSkip 10 f30 rfl rfl (by decide) (by kernel_rfl) (by kernel_rfl) (by kernel_rfl) (fun _ _ _ _ h => h) (f30.noU rfl rfl) hS4 fun a31 f31 => ?_
      clear f23 f24 a23 f25 a25 f26 a26 f27 a27 f28 a28 f29 a29 f30 a30
      refine R.takeSkip 11 f31 rfl rfl (by decide) (by kernel_rfl) (by kernel_rfl) (by kernel_rfl) (fun _ _ _ _ h => h) (f31.noU rfl rfl) hS4 fun a32 f32 => ?_
      refine R.takeSkip 12 f32 rfl rfl (by decide) (by kernel_rfl) (by kernel_rfl) (by kernel_rfl) (fun _ _ _ _ h => h) (f32.noU rfl rfl) hS4 fun a33 f33 => ?_
      refine R.takeSkip 13 f33 rfl rfl (by decide) (by kernel_rfl) (by kernel_rfl) (by kernel_rfl) (fun _ _ _ _ h => h) (f33.noU rfl rfl) hS4 fun a34 f34 => ?_
      refine R.takeSkip 14 f34 rfl rfl (by decide) (by kernel_rfl) (by kernel_rfl) (by kernel_rfl) (fun _ _ _ _ h => h) (f34.noU rfl rfl) hS4 fun a35 f35 => ?_
      refine R.takeSkip 15 f35 rfl rfl (by decide) (by kernel_rfl) (by kernel_rfl) (by kernel_rfl) (fun _ _ _ _ h => h) (f35.noF rfl rfl) hS4 fun a36 f36 => ?_
      refine R.take 16 f36 rfl rfl (by decide) (by kernel_rfl) (by kernel_rfl) (by kernel_rfl) (fun _ _ _ _ h => h) wantedN hS4 (fun W hW => (E.pickT f36 rfl rfl)) fun a37 f37 => ?_
      have szw5r := hS4.size
      replace HK := HK.z hS4
      replace Bg1 := Bg1.z hS4
      clear f31 a31 f32 a32 f33 a33 f34 a34 f35 a35 f36 a36 hS4
      refine R.done (by kernel_rfl) (hK8 _ _ ?_)
      have f38 := f37.sub (sub_cons (i := 0) rfl (sub_cons (i := 3) rfl (sub_cons (i := 4) rfl (sub_cons (i := 5) rfl (sub_cons (i := 6) rfl (sub_cons (i := 7) rfl (sub_cons (i := 8) rfl (sub_cons (i := 9) rfl (sub_cons (i := 10) rfl (sub_cons (i := 11) rfl (sub_cons (i := 12) rfl (sub_cons (i := 13) rfl (sub_cons (i := 14) rfl (sub_cons (i := 15) rfl (sub_cons (i := 16) rfl (sub_cons (i := 17) rfl (sub_cons (i := 18) rfl (sub_cons (i := 19) rfl (sub_cons (i := 20) rfl (sub_cons (i := 21) rfl (sub_cons (i := 22) rfl (sub_cons (i := 23) rfl (sub_cons (i := 24) rfl (sub_cons (i := 25) rfl (sub_cons (i := 26) rfl (sub_cons (i := 27) rfl (sub_cons (i := 28) rfl sn)))))))))))))))))))))))))))
      refine C.condT f38 rfl ?_
      refine C.sk fun K9 hK9 => ?_
      refine L.val f38 wantedN rfl (by decide) (E.assign f38 rfl) fun a39 f39 => ?_
      have f40 := f39.sub (sub_cons (i := 0) rfl (sub_cons (i := 2) rfl (sub_cons (i := 3) rfl (sub_cons (i := 4) rfl (sub_cons (i := 5) rfl (sub_cons (i := 6) rfl (sub_cons (i := 7) rfl (sub_cons (i := 8) rfl (sub_cons (i := 9) rfl (sub_cons (i := 10) rfl (sub_cons (i := 11) rfl (sub_cons (i := 12) rfl (sub_cons (i := 13) rfl (sub_cons (i := 14) rfl (sub_cons (i := 15) rfl (sub_cons (i := 16) rfl (sub_cons (i := 17) rfl (sub_cons (i := 18) rfl (sub_cons (i := 19) rfl (sub_cons (i := 20) rfl (sub_cons (i := 21) rfl (sub_cons (i := 22) rfl (sub_cons (i := 23) rfl (sub_cons (i := 24) rfl (sub_cons (i := 25) rfl (sub_cons (i := 26) rfl (sub_cons (i := 27) rfl (sub_cons (i := 28) rfl sn))))))))))))))))))))))))))))
      refine wpList_nil (hK9 _ _ (wp_ret ?_)); (try simp only [xt, xb]); refine C.ret f40 rfl rfl ?_
      exact ⟨HK, by unfold rightB; rw [hr, hst]; simp [*] <;> (intros; omega)⟩
    refine R.take 4 f24 rfl rfl (by decide) (by kernel_rfl) (by kernel_rfl) (by kernel_rfl) (fun _ _ _ _ h => h) (f24.yes rfl rfl) hS4 (fun W hW => (E.move f24 rfl)) fun a25 f25 => ?_
    refine R.take 5 f25 rfl rfl (by decide) (by kernel_rfl) (by kernel_rfl) (by kernel_rfl) (fun _ _ _ _ h => h) (f25.yes rfl rfl) hS4 (fun W hW => (E.gtr f25 rfl rfl)) fun a26 f26 => ?_
    refine R.take 6 f26 rfl rfl (by decide) (by kernel_rfl) (by kernel_rfl) (by kernel_rfl) (fun _ _ _ _ h => h) (f26.yes rfl rfl) hS4 (fun W hW => (E.move f26 rfl)) fun a27 f27 => ?_
    clear f23 f24 a23 f25 a25 f26 a26
    refine f27.splitD 18 rfl (fun h2 f28 => ?_) (fun h2 f28 => ?_)
    · obtain ⟨q, hq⟩ : ∃ q, l[Int.toNat ((k : Int) - 1)]? = some q := ⟨l[Int.toNat ((k : Int) - 1)]'(by omega), List.getElem?_eq_getElem _⟩
      rw [prev_some d (by omega) hq] at hst
      refine R.take 7 f28 rfl rfl (by decide) (by kernel_rfl) (by kernel_rfl) (by kernel_rfl) (fun _ _ _ _ h => h) (f28.yes rfl rfl) hS4 (fun W hW => (E.move f28 rfl)) fun a29 f29 => ?_
      refine R.take 8 f29 rfl rfl (by decide) (by kernel_rfl) (by kernel_rfl) (by kernel_rfl) (fun _ _ _ _ h => h) (f29.yes rfl rfl) hS4 (fun W hW => (E.move f29 rfl)) fun a30 f30 => ?_
      refine R.take 9 f30 rfl rfl (by decide) (by kernel_rfl) (by kernel_rfl) (by kernel_rfl) (fun _ _ _ _ h => h) (f30.yes rfl rfl) hS4 (fun W hW => (E.sub f30 rfl rfl (IntWalk.i64_in _ (by omega)))) fun a31 f31 => ?_
      refine R.take 10 f31 rfl rfl (by decide) (by kernel_rfl) (by kernel_rfl) (by kernel_rfl) (fun _ _ _ _ h => h) (f31.yes rfl rfl) hS4 (fun W hW => (E.indexA f31 (by assumption) U32 wsz23_b rfl rfl (by omega) (by omega))) fun a32 f32 => ?_
      refine R.take 11 f32 rfl rfl (by decide) (by kernel_rfl) (by kernel_rfl) (by kernel_rfl) (fun _ _ _ _ h => h) (f32.yes rfl rfl) hS4 (fun W hW => (E.loadR f32 U23 rfl wsz23_b rfl ((A1.kept (HK.z hW)).row hA hq) rfl)) fun a33 f33 => ?_
      refine R.take 12 f33 rfl rfl (by decide) (by kernel_rfl) (by kernel_rfl) (by kernel_rfl) (fun _ _ _ _ h => h) (f33.yes rfl rfl) hS4 (fun W hW => (E.loadB f33 U23 rfl wsz23_b rfl (Bg1.z hW) rfl)) fun a34 f34 => ?_
      refine R.call 13 f34 rfl rfl (by decide) (by kernel_rfl) (f34.yes rfl rfl) (run_call Tryd.call36 (args2 f34 rfl rfl)) (lives_any _ _ _) ?_
      clear f27 f28 a27 f29 a29 f30 a30 f31 a31 f32 a32 f33 a33
      rintro e w6 ⟨kc6, rfl⟩
      replace hS4 := hS4.trans kc6 (by simp)
      refine ⟨_, rfl, hS4, fun a35 f35 => ?_⟩
      have szw6 := kc6.size
      clear f34 a34 kc6
      refine R.take 14 f35 rfl rfl (by decide) (by kernel_rfl) (by kernel_rfl) (by kernel_rfl) (fun _ _ _ _ h => h) (f35.yes rfl rfl) hS4 (fun W hW => (E.geq f35 rfl rfl)) fun a36 f36 => ?_
      refine R.take 15 f36 rfl rfl (by decide) (by kernel_rfl) (by kernel_rfl) (by kernel_rfl) (fun _ _ _ _ h => h) (f36.yes rfl rfl) hS4 (fun W hW => (E.pickT f36 rfl rfl)) fun a37 f37 => ?_
      refine R.take 16 f37 rfl rfl (by decide) (by kernel_rfl) (by kernel_rfl) (by kernel_rfl) (fun _ _ _ _ h => h) wantedN hS4 (fun W hW => (E.pickF f37 rfl rfl)) fun a38 f38 => ?_
      have szw6r := hS4.size
      replace HK := HK.z hS4
      replace Bg1 := Bg1.z hS4
      clear f35 a35 f36 a36 f37 a37 hS4
      refine R.done (by kernel_rfl) (hK8 _ _ ?_)
      have f39 := f38.sub (sub_cons (i := 0) rfl (sub_cons (i := 3) rfl (sub_cons (i := 4) rfl (sub_cons (i := 5) rfl (sub_cons (i := 6) rfl (sub_cons (i := 7) rfl (sub_cons (i := 8) rfl (sub_cons (i := 9) rfl (sub_cons (i := 10) rfl (sub_cons (i := 11) rfl (sub_cons (i := 12) rfl (sub_cons (i := 13) rfl (sub_cons (i := 14) rfl (sub_cons (i := 15) rfl (sub_cons (i := 16) rfl (sub_cons (i := 17) rfl (sub_cons (i := 18) rfl (sub_cons (i := 19) rfl (sub_cons (i := 20) rfl (sub_cons (i := 21) rfl (sub_cons (i := 22) rfl (sub_cons (i := 23) rfl (sub_cons (i := 24) rfl (sub_cons (i := 25) rfl (sub_cons (i := 26) rfl (sub_cons (i := 27) rfl (sub_cons (i := 28) rfl sn)))))))))))))))))))))))))))
      clear f38
      refine f39.splitD 28 rfl (fun h3 f40 => ?_) (fun h3 f40 => ?_)
      · refine C.condT f40 rfl ?_
        refine C.sk fun K10 hK10 => ?_
        refine L.val f40 wantedN rfl (by decide) (E.assign f40 rfl) fun a41 f41 => ?_
        have f42 := f41.sub (sub_cons (i := 0) rfl (sub_cons (i := 2) rfl (sub_cons (i := 3) rfl (sub_cons (i := 4) rfl (sub_cons (i := 5) rfl (sub_cons (i := 6) rfl (sub_cons (i := 7) rfl (sub_cons (i := 8) rfl (sub_cons (i := 9) rfl (sub_cons (i := 10) rfl (sub_cons (i := 11) rfl (sub_cons (i := 12) rfl (sub_cons (i := 13) rfl (sub_cons (i := 14) rfl (sub_cons (i := 15) rfl (sub_cons (i := 16) rfl (sub_cons (i := 17) rfl (sub_cons (i := 18) rfl (sub_cons (i := 19) rfl (sub_cons (i := 20) rfl (sub_cons (i := 21) rfl (sub_cons (i := 22) rfl (sub_cons (i := 23) rfl (sub_cons (i := 24) rfl (sub_cons (i := 25) rfl (sub_cons (i := 26) rfl (sub_cons (i := 27) rfl (sub_cons (i := 28) rfl sn))))))))))))))))))))))))))))
        refine wpList_nil (hK10 _ _ (wp_ret ?_)); (try simp only [xt, xb]); refine C.ret f42 rfl rfl ?_
        exact ⟨HK, by unfold rightB; rw [hr, hst]; simp [*] <;> (intros; omega)⟩
      refine C.condF f40 rfl ?_
      refine wp_skip (hK6 _ _ ?_)
      have f41 := f40.sub (sub_cons (i := 0) rfl (sub_cons (i := 3) rfl (sub_cons (i := 4) rfl (sub_cons (i := 5) rfl (sub_cons (i := 6) rfl (sub_cons (i := 7) rfl (sub_cons (i := 8) rfl (sub_cons (i := 9) rfl (sub_cons (i := 10) rfl (sub_cons (i := 11) rfl (sub_cons (i := 12) rfl (sub_cons (i := 13) rfl (sub_cons (i := 14) rfl (sub_cons (i := 15) rfl (sub_cons (i := 16) rfl (sub_cons (i := 17) rfl (sub_cons (i := 18) rfl (sub_cons (i := 19) rfl (sub_cons (i := 20) rfl (sub_cons (i := 21) rfl (sub_cons (i := 22) rfl (sub_cons (i := 23) rfl (sub_cons (i := 24) rfl (sub_cons (i := 25) rfl (sub_cons (i := 26) rfl (sub_cons (i := 27) rfl (sub_cons (i := 28) rfl sn)))))))))))))))))))))))))))
      refine C.region ?_
      refine L.val f41 wantedN rfl (by decide) (E.add f41 rfl rfl (IntWalk.i64_in _ (by omega))) fun a42 f42 => ?_
      refine L.val f42 wantedN rfl (by decide) (E.move f42 rfl) fun a43 f43 => ?_
      clear f39 f40 f41 a38 f42 a42
      refine wpList_nil (hKL3 _ _ (gk4 - 1) ?_ ?_)
      · omega
      exact ⟨k + 1, by omega, HK, by rw [hr, hst]; simp [*] <;> (intros; omega), f43.sub (sx (sx (sx (sx sn))))⟩
    rw [prev_none d (by omega)] at hst
    refine R.takeSkip 7 f28 rfl rfl (by decide) (by kernel_rfl) (by kernel_rfl) (by kernel_rfl) (fun _ _ _ _ h => h) (f28.noT rfl rfl) hS4 fun a29 f29 => ?_
    refine R.takeSkip 8 f29 rfl rfl (by decide) (by kernel_rfl) (by kernel_rfl) (by kernel_rfl) (fun _ _ _ _ h => h) (f29.noT rfl rfl) hS4 fun a30 f30 => ?_
    refine R.takeSkip 9 f30 rfl rfl (by decide) (by kernel_rfl) (by kernel_rfl) (by kernel_rfl) (fun _ _ _ _ h => h) (f30.noT rfl rfl) hS4 fun a31 f31 => ?_
    refine R.takeSkip 10 f31 rfl rfl (by decide) (by kernel_rfl) (by kernel_rfl) (by kernel_rfl) (fun _ _ _ _ h => h) (f31.noT rfl rfl) hS4 fun a32 f32 => ?_
    refine R.takeSkip 11 f32 rfl rfl (by decide) (by kernel_rfl) (by kernel_rfl) (by kernel_rfl) (fun _ _ _ _ h => h) (f32.noT rfl rfl) hS4 fun a33 f33 => ?_
    refine R.takeSkip 12 f33 rfl rfl (by decide) (by kernel_rfl) (by kernel_rfl) (by kernel_rfl) (fun _ _ _ _ h => h) (f33.noT rfl rfl) hS4 fun a34 f34 => ?_
    refine R.takeSkip 13 f34 rfl rfl (by decide) (by kernel_rfl) (by kernel_rfl) (by kernel_rfl) (fun _ _ _ _ h => h) (f34.noT rfl rfl) hS4 fun a35 f35 => ?_
    clear f27 f28 a27 f29 a29 f30 a30 f31 a31 f32 a32 f33 a33 f34 a34
    refine R.takeSkip 14 f35 rfl rfl (by decide) (by kernel_rfl) (by kernel_rfl) (by kernel_rfl) (fun _ _ _ _ h => h) (f35.noT rfl rfl) hS4 fun a36 f36 => ?_
    refine R.take 15 f36 rfl rfl (by decide) (by kernel_rfl) (by kernel_rfl) (by kernel_rfl) (fun _ _ _ _ h => h) (f36.yes rfl rfl) hS4 (fun W hW => (E.pickF f36 rfl rfl)) fun a37 f37 => ?_
    refine R.take 16 f37 rfl rfl (by decide) (by kernel_rfl) (by kernel_rfl) (by kernel_rfl) (fun _ _ _ _ h => h) wantedN hS4 (fun W hW => (E.pickF f37 rfl rfl)) fun a38 f38 => ?_
    have szw5r := hS4.size
    replace HK := HK.z hS4
    replace Bg1 := Bg1.z hS4
    clear f35 a35 f36 a36 f37 a37 hS4
    refine R.done (by kernel_rfl) (hK8 _ _ ?_)
    have f39 := f38.sub (sub_cons (i := 0) rfl (sub_cons (i := 3) rfl (sub_cons (i := 4) rfl (sub_cons (i := 5) rfl (sub_cons (i := 6) rfl (sub_cons (i := 7) rfl (sub_cons (i := 8) rfl (sub_cons (i := 9) rfl (sub_cons (i := 10) rfl (sub_cons (i := 11) rfl (sub_cons (i := 12) rfl (sub_cons (i := 13) rfl (sub_cons (i := 14) rfl (sub_cons (i := 15) rfl (sub_cons (i := 16) rfl (sub_cons (i := 17) rfl (sub_cons (i := 18) rfl (sub_cons (i := 19) rfl (sub_cons (i := 20) rfl (sub_cons (i := 21) rfl (sub_cons (i := 22) rfl (sub_cons (i := 23) rfl (sub_cons (i := 24) rfl (sub_cons (i := 25) rfl (sub_cons (i := 26) rfl (sub_cons (i := 27) rfl (sub_cons (i := 28) rfl sn)))))))))))))))))))))))))))
    refine C.condF f39 rfl ?_
    refine wp_skip (hK6 _ _ ?_)
    have f40 := f39.sub (sub_cons (i := 0) rfl (sub_cons (i := 3) rfl (sub_cons (i := 4) rfl (sub_cons (i := 5) rfl (sub_cons (i := 6) rfl (sub_cons (i := 7) rfl (sub_cons (i := 8) rfl (sub_cons (i := 9) rfl (sub_cons (i := 10) rfl (sub_cons (i := 11) rfl (sub_cons (i := 12) rfl (sub_cons (i := 13) rfl (sub_cons (i := 14) rfl (sub_cons (i := 15) rfl (sub_cons (i := 16) rfl (sub_cons (i := 17) rfl (sub_cons (i := 18) rfl (sub_cons (i := 19) rfl (sub_cons (i := 20) rfl (sub_cons (i := 21) rfl (sub_cons (i := 22) rfl (sub_cons (i := 23) rfl (sub_cons (i := 24) rfl (sub_cons (i := 25) rfl (sub_cons (i := 26) rfl (sub_cons (i := 27) rfl (sub_cons (i := 28) rfl sn)))))))))))))))))))))))))))
    refine C.region ?_
    refine L.val f40 wantedN rfl (by decide) (E.add f40 rfl rfl (IntWalk.i64_in _ (by omega))) fun a41 f41 => ?_
    refine L.val f41 wantedN rfl (by decide) (E.move f41 rfl) fun a42 f42 => ?_
    clear f38 f39 f40 a38 f41 a41
    refine wpList_nil (hKL3 _ _ (gk4 - 1) ?_ ?_)
    · omega
    exact ⟨k + 1, by omega, HK, by rw [hr, hst]; simp [*] <;> (intros; omega), f42.sub (sx (sx (sx (sx sn))))⟩
  refine C.condF f11 rfl ?_
  refine wp_exit (hK1 _ _ ?_)
  have f12 := f11.sub sn
  refine C.sk fun K11 hK11 => ?_
  refine L.val f12 wantedN rfl (by decide) (E.assign f12 rfl) fun a13 f13 => ?_
  have f14 := f13.sub (sub_cons (i := 2) rfl sn)
  refine wpList_nil (hK11 _ _ (wp_ret ?_)); (try simp only [xt, xb]); refine C.ret f14 rfl rfl ?_
  exact ⟨HK, by unfold rightB; rw [hr, List.drop_eq_nil_of_le (by omega)]; rfl⟩
end Go.Proofs.YtekmhcdgmgbheaaDoor
namespace Go.Proofs.YtekmhcdgmgbheaaDoor
open Go.RowKit Go.Hub
theorem wsz23_c : (Tryd.prog.info? 23).map (·.size) = some 3 := by kernel_rfl
theorem wsz3_c : (Tryd.prog.info? 3).map (·.size) = some 1 := by kernel_rfl
theorem wbl23_0_1_c (x0 : Int) (x1 : Int) : Tryd.prog.built 23 [(0, .int .i64 x0), (1, .int .i64 x1)] = some #[.int .i64 x0, .int .i64 x1, (.int .i64 0)] := by kernel_rfl
def SearchPost (l : List Dt) (d : Dt) (w : World) (e : Ending) (w' : World) : Prop := Kept [] w w' ∧ ∃ (i : Nat) (b : Bool), e = .returned (.tuple #[.int .i64 i, .bool b]) ∧ Srch l d i b
set_option maxHeartbeats 1000000 in
theorem search_any (l : List Dt) (A : Option Addr) (c : Nat) (d : Dt) (w : World) (A1 : Ds w A l) (hm : l.length ≤ 1000000) (hr : Rises l) : Calls Tryd.prog 70 #[.slice A l.length c, .agg (dcell d).toArray, .func (.func 36) #[] #[]] w (SearchPost l d w) := by
  have HK : Kept [] w w := Kept.refl [] w
  refine C.enter Tryd.func70 rfl Tryd.ntmps70 rfl ?_
  intro a0 f0
  have f1 : Fr 49 a0 [(0, .slice A l.length c), (1, .agg (dcell d).toArray), (2, .func (.func 36) #[] #[])] := f0
  refine C.sk fun K0 hK0 => ?_
  refine L.box f1 wantedN (by decide) rfl rfl fun a2 w1 g0 N0 f2 => ?_
  have Bg0 := N0.blk
  have kg0 := N0.kept
  have log0 := N0.lo
  have ltg0 := Bg0.lt
  have szw1 := kg0.size
  have frg0 : w.heap.size ≤ g0 := Nat.le_trans HK.size log0
  replace HK := HK.z kg0
  clear f0 N0 kg0
  refine L.val f2 wantedN rfl (by decide) (E.assign f2 rfl) fun a3 f3 => ?_
  refine L.val f3 wantedN rfl (by decide) (E.assign f3 rfl) fun a4 f4 => ?_
  have f5 := f4.sub (sub_cons (i := 0) rfl (sub_cons (i := 2) rfl (sub_cons (i := 4) rfl (sub_cons (i := 6) rfl (sub_cons (i := 7) rfl sn)))))
  refine wpList_nil (hK0 _ _ (C.sk fun K1 hK1 => ?_))
  refine L.val f5 wantedN rfl (by decide) (E.move f5 rfl) fun a6 f6 => ?_
  refine L.val f6 wantedN rfl (by decide) (E.lenL f6 U32 rfl) fun a7 f7 => ?_
  refine L.val f7 wantedN rfl (by decide) (E.assign f7 rfl) fun a8 f8 => ?_
  have f9 := f8.sub (sub_cons (i := 0) rfl (sub_cons (i := 2) rfl (sub_cons (i := 4) rfl (sub_cons (i := 6) rfl (sub_cons (i := 7) rfl (sub_cons (i := 8) rfl sn))))))
  clear f1 a0 f2 a2 f3 a3 f4 f5 a4 f6 a6 f7 a7 f8
  refine wpList_nil (hK1 _ _ (C.sk fun K2 hK2 => ?_))
  refine L.val f9 wantedN rfl (by decide) (E.move f9 rfl) fun a10 f10 => ?_
  refine L.val f10 wantedN rfl (by decide) (E.assign f10 rfl) fun a11 f11 => ?_
  refine L.val f11 wantedN rfl (by decide) (E.assign f11 rfl) fun a12 f12 => ?_
  refine wpList_nil (hK2 _ _ ?_)
  have f13 := f12.sub (sub_cons (i := 0) rfl (sub_cons (i := 2) rfl (sub_cons (i := 4) rfl (sub_cons (i := 6) rfl (sub_cons (i := 7) rfl (sub_cons (i := 8) rfl (sub_cons (i := 9) rfl (sub_cons (i := 10) rfl sn))))))))
  refine wp_seq_k fun K3 hK3 => ?_
  refine wp_block ?_
  clear f9 a8 f10 a10 f11 a11 f12
  refine C.loop (fun gk a W => ∃ i j : Nat, j = i + gk ∧ Kept [] w W ∧ Half l d i j ∧ (∃ g, Blk W g 23 (dcell d).toArray ∧ Fr 49 a [(0, .slice A l.length c), (2, .func (.func 36) #[] #[]), (4, .pointer (some ⟨g, 0, none⟩)), (8, .int .i64 l.length), (9, .int .i64 i), (10, .int .i64 j)])) (l.length) ?_ ?_
  · exact ⟨0, l.length, by omega, HK, Half.start l d, _, Bg0, f13.sub (sr rfl (sr rfl (sr rfl (sr rfl (sr rfl (sr rfl sn))))))⟩
  intro gk5 a14 w2 hI KL4 hKL4
  obtain ⟨i, j, hij, HK, H, g, B, f14⟩ := hI
  try clear f13
  have hi := H.ij
  have hj := H.jn
  refine wp_seq_k fun K5 hK5 => ?_
  refine C.sk fun K6 hK6 => ?_
  refine L.val f14 wantedN rfl (by decide) (E.move f14 rfl) fun a15 f15 => ?_
  refine L.val f15 wantedN rfl (by decide) (E.move f15 rfl) fun a16 f16 => ?_
  refine L.val f16 wantedN rfl (by decide) (E.lss f16 rfl rfl) fun a17 f17 => ?_
  refine wpList_nil (hK6 _ _ ?_)
  have f18 := f17.sub (sub_cons (i := 0) rfl (sub_cons (i := 2) rfl (sub_cons (i := 4) rfl (sub_cons (i := 8) rfl (sub_cons (i := 9) rfl (sub_cons (i := 10) rfl (sub_cons (i := 15) rfl (sub_cons (i := 16) rfl (sub_cons (i := 17) rfl sn)))))))))
  clear f14 a14 f15 a15 f16 a16 f17
  refine f18.splitD 17 rfl (fun h0 f19 => ?_) (fun h0 f19 => ?_)
  · obtain ⟨m, hd'⟩ : ∃ m, l[(i + j) / 2]? = some m := ⟨l[(i + j) / 2]'(by omega), List.getElem?_eq_getElem _⟩
    have hd : l[Int.toNat (((i : Int) + j) / 2)]? = some m := by rw [show Int.toNat (((i : Int) + j) / 2) = (i + j) / 2 by omega]; exact hd'
    obtain ⟨b, off, hA⟩ := A1.addr (i := (i + j) / 2) (by omega)
    refine C.condT f19 rfl ?_
    refine wp_skip (hK5 _ _ ?_)
    have f20 := f19.sub (sub_cons (i := 0) rfl (sub_cons (i := 2) rfl (sub_cons (i := 4) rfl (sub_cons (i := 8) rfl (sub_cons (i := 9) rfl (sub_cons (i := 10) rfl (sub_cons (i := 15) rfl (sub_cons (i := 16) rfl (sub_cons (i := 17) rfl sn)))))))))
    refine wp_block ?_
    refine C.sk fun K7 hK7 => ?_
    refine L.val f20 wantedN rfl (by decide) (E.move f20 rfl) fun a21 f21 => ?_
    refine L.val f21 wantedN rfl (by decide) (E.move f21 rfl) fun a22 f22 => ?_
    refine L.val f22 wantedN rfl (by decide) (E.add f22 rfl rfl (IntWalk.i64_in _ (by omega))) fun a23 f23 => ?_
    refine L.val f23 wantedN rfl (by decide) (E.conv f23 U3 Tryd.underlying100 rfl (IntWalk.u64_in _ (by omega))) fun a24 f24 => ?_
    refine L.val f24 wantedN rfl (by decide) (E.shr f24 rfl rfl (by decide) (shr1 _)) fun a25 f25 => ?_
    refine L.val f25 wantedN rfl (by decide) (E.conv f25 Tryd.underlying100 U3 rfl (IntWalk.i64_in _ (by omega))) fun a26 f26 => ?_
    clear f18 f19 f20 a17 f21 a21 f22 a22 f23 a23 f24 a24 f25 a25
    refine L.val f26 wantedN rfl (by decide) (E.assign f26 rfl) fun a27 f27 => ?_
    refine wpList_nil (hK7 _ _ ?_)
    have f28 := f27.sub (sub_cons (i := 0) rfl (sub_cons (i := 2) rfl (sub_cons (i := 4) rfl (sub_cons (i := 8) rfl (sub_cons (i := 9) rfl (sub_cons (i := 10) rfl (sub_cons (i := 11) rfl (sub_cons (i := 15) rfl (sub_cons (i := 16) rfl (sub_cons (i := 17) rfl (sub_cons (i := 18) rfl (sub_cons (i := 19) rfl (sub_cons (i := 20) rfl (sub_cons (i := 21) rfl (sub_cons (i := 22) rfl (sub_cons (i := 23) rfl sn))))))))))))))))
    refine wp_seq_k fun K8 hK8 => ?_
    refine R.begin (S := fun W => Kept [] w2 W) (by kernel_rfl) (by exact (Kept.refl _ _).drewN 1) ?_
    have hS5 : Kept [] w2 (w2.drewN 1) := (Kept.refl _ _).drewN 1
    have hd5 : Kept [] w2 (w2.drewN 1) := (Kept.refl _ _).drewN 1
    obtain ⟨w3, hww3⟩ : ∃ W, W = w2.drewN 1 := ⟨_, rfl⟩
    rw [← hww3] at hS5 hd5 ⊢
    clear f26 a26 f27 hww3
    have szw3 := hS5.size
    refine R.take 0 f28 rfl rfl (by decide) (by kernel_rfl) (by kernel_rfl) (by kernel_rfl) (fun _ _ _ _ h => h) wantedN hS5 (fun W hW => (E.move f28 rfl)) fun a29 f29 => ?_
    refine R.take 1 f29 rfl rfl (by decide) (by kernel_rfl) (by kernel_rfl) (by kernel_rfl) (fun _ _ _ _ h => h) wantedN hS5 (fun W hW => (E.move f29 rfl)) fun a30 f30 => ?_
    refine R.take 2 f30 rfl rfl (by decide) (by kernel_rfl) (by kernel_rfl) (by kernel_rfl) (fun _ _ _ _ h => h) wantedN hS5 (fun W hW => (E.move f30 rfl)) fun a31 f31 => ?_
    refine R.take 3 f31 rfl rfl (by decide) (by kernel_rfl) (by kernel_rfl) (by kernel_rfl) (fun _ _ _ _ h => h) wantedN hS5 (fun W hW => (E.indexA f31 (by assumption) U32 wsz23_c rfl rfl (by omega) (by omega))) fun a32 f32 => ?_
    refine R.take 4 f32 rfl rfl (by decide) (by kernel_rfl) (by kernel_rfl) (by kernel_rfl) (fun _ _ _ _ h => h) wantedN hS5 (fun W hW => (E.loadR f32 U23 rfl wsz23_c rfl ((A1.kept (HK.z hW)).row hA hd) rfl)) fun a33 f33 => ?_
    refine R.take 5 f33 rfl rfl (by decide) (by kernel_rfl) (by kernel_rfl) (by kernel_rfl) (fun _ _ _ _ h => h) wantedN hS5 (fun W hW => (E.loadB f33 U23 rfl wsz23_c rfl (B.z hW) rfl)) fun a34 f34 => ?_
    refine R.call 6 f34 rfl rfl (by decide) (by kernel_rfl) wantedN (cv2_0 f34 rfl Tryd.call36 rfl rfl) (lives_any _ _ _) ?_
    clear f28 a27 f29 a29 f30 a30 f31 a31 f32 a32 f33 a33
    rintro e w4 ⟨kc4, rfl⟩
    replace hS5 := hS5.trans kc4 (by simp)
    refine ⟨_, rfl, hS5, fun a35 f35 => ?_⟩
    have szw4 := kc4.size
    clear f34 a34 kc4
    refine R.take 7 f35 rfl rfl (by decide) (by kernel_rfl) (by kernel_rfl) (by kernel_rfl) (fun _ _ _ _ h => h) wantedN hS5 (fun W hW => (E.lss f35 rfl rfl)) fun a36 f36 => ?_
    have szw4r := hS5.size
    replace HK := HK.z hS5
    replace B := B.z hS5
    clear f35 a35 hS5
    refine R.done (by kernel_rfl) (hK8 _ _ ?_)
    have f37 := f36.sub (sub_cons (i := 0) rfl (sub_cons (i := 2) rfl (sub_cons (i := 4) rfl (sub_cons (i := 8) rfl (sub_cons (i := 9) rfl (sub_cons (i := 10) rfl (sub_cons (i := 11) rfl (sub_cons (i := 15) rfl (sub_cons (i := 16) rfl (sub_cons (i := 17) rfl (sub_cons (i := 18) rfl (sub_cons (i := 19) rfl (sub_cons (i := 20) rfl (sub_cons (i := 21) rfl (sub_cons (i := 22) rfl (sub_cons (i := 23) rfl (sub_cons (i := 24) rfl (sub_cons (i := 25) rfl (sub_cons (i := 26) rfl (sub_cons (i := 27) rfl (sub_cons (i := 28) rfl (sub_cons (i := 29) rfl (sub_cons (i := 30) rfl (sub_cons (i := 31) rfl sn))))))))))))))))))))))))
    clear f36
    refine f37.splitD 31 rfl (fun h1 f38 => ?_) (fun h1 f38 => ?_)
    · refine C.condT f38 rfl ?_
      refine C.region ?_
      refine L.val f38 wantedN rfl (by decide) (E.move f38 rfl) fun a39 f39 => ?_
      refine L.val f39 wantedN rfl (by decide) (E.add f39 rfl rfl (IntWalk.i64_in _ (by omega))) fun a40 f40 => ?_
      refine L.val f40 wantedN rfl (by decide) (E.assign f40 rfl) fun a41 f41 => ?_
      clear f37 f38 a36 f39 a39 f40 a40
      refine wpList_nil (hKL4 _ _ (j - ((i + j) / 2 + 1)) ?_ ?_)
      · omega
      exact ⟨(i + j) / 2 + 1, j, by omega, HK, by have := H.right hr (by omega) (by omega) hd' ((lives_lt _ _).1 h1); exact this, g, B, f41.sub (sx (sx (sx (sx (sx (sx sn))))))⟩
    refine C.condF f38 rfl ?_
    refine C.region ?_
    refine L.val f38 wantedN rfl (by decide) (E.move f38 rfl) fun a39 f39 => ?_
    refine L.val f39 wantedN rfl (by decide) (E.assign f39 rfl) fun a40 f40 => ?_
    clear f37 f38 a36 f39 a39
    refine wpList_nil (hKL4 _ _ ((i + j) / 2 - i) ?_ ?_)
    · omega
    exact ⟨i, (i + j) / 2, by omega, HK, by have := H.left hr (by omega) (by omega) hd' ((lives_ge _ _).1 (by omega)); exact this, g, B, f40.sub (sx (sx (sx (sx (sx (sx sn))))))⟩
  obtain rfl : i = j := by omega
  refine C.condF f19 rfl ?_
  refine wp_exit (hK3 _ _ ?_)
  have f20 := f19.sub (sub_cons (i := 0) rfl (sub_cons (i := 2) rfl (sub_cons (i := 4) rfl (sub_cons (i := 8) rfl (sub_cons (i := 9) rfl sn)))))
  refine wp_seq_k fun K9 hK9 => ?_
  refine R.begin (S := fun W => Kept [] w2 W) (by kernel_rfl) (by exact (Kept.refl _ _).drewN 1) ?_
  have hS8 : Kept [] w2 (w2.drewN 1) := (Kept.refl _ _).drewN 1
  have hd8 : Kept [] w2 (w2.drewN 1) := (Kept.refl _ _).drewN 1
  obtain ⟨w3, hww3⟩ : ∃ W, W = w2.drewN 1 := ⟨_, rfl⟩
  rw [← hww3] at hS8 hd8 ⊢
  clear f18 f19 hww3
  have szw3 := hS8.size
  refine R.take 0 f20 rfl rfl (by decide) (by kernel_rfl) (by kernel_rfl) (by kernel_rfl) (fun _ _ _ _ h => h) wantedN hS8 (fun W hW => (E.move f20 rfl)) fun a21 f21 => ?_
  refine R.take 1 f21 rfl rfl (by decide) (by kernel_rfl) (by kernel_rfl) (by kernel_rfl) (fun _ _ _ _ h => h) wantedN hS8 (fun W hW => (E.move f21 rfl)) fun a22 f22 => ?_
  refine R.take 2 f22 rfl rfl (by decide) (by kernel_rfl) (by kernel_rfl) (by kernel_rfl) (fun _ _ _ _ h => h) wantedN hS8 (fun W hW => (E.move f22 rfl)) fun a23 f23 => ?_
  refine R.take 3 f23 rfl rfl (by decide) (by kernel_rfl) (by kernel_rfl) (by kernel_rfl) (fun _ _ _ _ h => h) wantedN hS8 (fun W hW => (E.lss f23 rfl rfl)) fun a24 f24 => ?_
  refine R.take 4 f24 rfl rfl (by decide) (by kernel_rfl) (by kernel_rfl) (by kernel_rfl) (fun _ _ _ _ h => h) wantedN hS8 (fun W hW => (E.move f24 rfl)) fun a25 f25 => ?_
  clear f20 a17 f21 a21 f22 a22 f23 a23 f24 a24
  refine f25.splitD 39 rfl (fun h2 f26 => ?_) (fun h2 f26 => ?_)
  · obtain ⟨m, hd⟩ : ∃ m, l[i]? = some m := ⟨l[i]'(by omega), List.getElem?_eq_getElem _⟩
    obtain ⟨b, off, hA⟩ := A1.addr (i := i) (by omega)
    refine R.take 5 f26 rfl rfl (by decide) (by kernel_rfl) (by kernel_rfl) (by kernel_rfl) (fun _ _ _ _ h => h) (f26.yes rfl rfl) hS8 (fun W hW => (E.move f26 rfl)) fun a27 f27 => ?_
    refine R.take 6 f27 rfl rfl (by decide) (by kernel_rfl) (by kernel_rfl) (by kernel_rfl) (fun _ _ _ _ h => h) (f27.yes rfl rfl) hS8 (fun W hW => (E.move f27 rfl)) fun a28 f28 => ?_
    refine R.take 7 f28 rfl rfl (by decide) (by kernel_rfl) (by kernel_rfl) (by kernel_rfl) (fun _ _ _ _ h => h) (f28.yes rfl rfl) hS8 (fun W hW => (E.move f28 rfl)) fun a29 f29 => ?_
    refine R.take 8 f29 rfl rfl (by decide) (by kernel_rfl) (by kernel_rfl) (by kernel_rfl) (fun _ _ _ _ h => h) (f29.yes rfl rfl) hS8 (fun W hW => (E.indexA f29 (by assumption) U32 wsz23_c rfl rfl (by omega) (by omega))) fun a30 f30 => ?_
    refine R.take 9 f30 rfl rfl (by decide) (by kernel_rfl) (by kernel_rfl) (by kernel_rfl) (fun _ _ _ _ h => h) (f30.yes rfl rfl) hS8 (fun W hW => (E.loadR f30 U23 rfl wsz23_c rfl ((A1.kept (HK.z hW)).row hA hd) rfl)) fun a31 f31 => ?_
    refine R.take 10 f31 rfl rfl (by decide) (by kernel_rfl) (by kernel_rfl) (by kernel_rfl) (fun _ _ _ _ h => h) (f31.yes rfl rfl) hS8 (fun W hW => (E.loadB f31 U23 rfl wsz23_c rfl (B.z hW) rfl)) fun a32 f32 => ?_
    refine R.call 11 f32 rfl rfl (by decide) (by kernel_rfl) (f32.yes rfl rfl) (cv2_0 f32 rfl Tryd.call36 rfl rfl) (lives_any _ _ _) ?_
    clear f25 f26 a25 f27 a27 f28 a28 f29 a29 f30 a30 f31 a31
    rintro e w4 ⟨kc4, rfl⟩
    replace hS8 := hS8.trans kc4 (by simp)
    refine ⟨_, rfl, hS8, fun a33 f33 => ?_⟩
    have szw4 := kc4.size
    clear f32 a32 kc4
    refine R.take 12 f33 rfl rfl (by decide) (by kernel_rfl) (by kernel_rfl) (by kernel_rfl) (fun _ _ _ _ h => h) (f33.yes rfl rfl) hS8 (fun W hW => (E.eql f33 rfl rfl)) fun a34 f34 => ?_
    refine R.take 13 f34 rfl rfl (by decide) (by kernel_rfl) (by kernel_rfl) (by kernel_rfl) (fun _ _ _ _ h => h) wantedN hS8 (fun W hW => (E.pickT f34 rfl rfl)) fun a35 f35 => ?_
    refine R.take 14 f35 rfl rfl (by decide) (by kernel_rfl) (by kernel_rfl) (by kernel_rfl) (fun _ _ _ _ h => h) wantedN hS8 (fun W hW => (E.assign f35 rfl)) fun a36 f36 => ?_
    refine R.take 15 f36 rfl rfl (by decide) (by kernel_rfl) (by kernel_rfl) (by kernel_rfl) (fun _ _ _ _ h => h) wantedN hS8 (fun W hW => (E.assign f36 rfl)) fun a37 f37 => ?_
    have szw4r := hS8.size
    replace HK := HK.z hS8
    replace B := B.z hS8
    clear f33 a33 f34 a34 f35 a35 f36 a36 hS8
    refine R.done (by kernel_rfl) (hK9 _ _ ?_)
    have f38 := f37.sub (sub_cons (i := 6) rfl (sub_cons (i := 7) rfl sn))
    refine wp_ret ?_; (try simp only [xt, xb]); refine C.ret2 f38 rfl rfl rfl ?_
    exact ⟨HK, _, _, rfl, H.found1 hd⟩
  have hd : l[i]? = none := List.getElem?_eq_none (by omega)
  refine R.takeSkip 5 f26 rfl rfl (by decide) (by kernel_rfl) (by kernel_rfl) (by kernel_rfl) (fun _ _ _ _ h => h) (f26.noT rfl rfl) hS8 fun a27 f27 => ?_
  refine R.takeSkip 6 f27 rfl rfl (by decide) (by kernel_rfl) (by kernel_rfl) (by kernel_rfl) (fun _ _ _ _ h => h) (f27.noT rfl rfl) hS8 fun a28 f28 => ?_
  refine R.takeSkip 7 f28 rfl rfl (by decide) (by kernel_rfl) (by kernel_rfl) (by kernel_rfl) (fun _ _ _ _ h => h) (f28.noT rfl rfl) hS8 fun a29 f29 => ?_
  refine R.takeSkip 8 f29 rfl rfl (by decide) (by kernel_rfl) (by kernel_rfl) (by kernel_rfl) (fun _ _ _ _ h => h) (f29.noT rfl rfl) hS8 fun a30 f30 => ?_
  refine R.takeSkip 9 f30 rfl rfl (by decide) (by kernel_rfl) (by kernel_rfl) (by kernel_rfl) (fun _ _ _ _ h => h) (f30.noT rfl rfl) hS8 fun a31 f31 => ?_
  refine R.takeSkip 10 f31 rfl rfl (by decide) (by kernel_rfl) (by kernel_rfl) (by kernel_rfl) (fun _ _ _ _ h => h) (f31.noT rfl rfl) hS8 fun a32 f32 => ?_
  refine R.takeSkip 11 f32 rfl rfl (by decide) (by kernel_rfl) (by kernel_rfl) (by kernel_rfl) (fun _ _ _ _ h => h) (f32.noT rfl rfl) hS8 fun a33 f33 => ?_
  clear f25 f26 a25 f27 a27 f28 a28 f29 a29 f30 a30 f31 a31 f32 a32
  refine R.takeSkip 12 f33 rfl rfl (by decide) (by kernel_rfl) (by kernel_rfl) (by kernel_rfl) (fun _ _ _ _ h => h) (f33.noT rfl rfl) hS8 fun a34 f34 => ?_
  refine R.take 13 f34 rfl rfl (by decide) (by kernel_rfl) (by kernel_rfl) (by kernel_rfl) (fun _ _ _ _ h => h) wantedN hS8 (fun W hW => (E.pickF f34 rfl rfl)) fun a35 f35 => ?_
  refine R.take 14 f35 rfl rfl (by decide) (by kernel_rfl) (by kernel_rfl) (by kernel_rfl) (fun _ _ _ _ h => h) wantedN hS8 (fun W hW => (E.assign f35 rfl)) fun a36 f36 => ?_
  refine R.take 15 f36 rfl rfl (by decide) (by kernel_rfl) (by kernel_rfl) (by kernel_rfl) (fun _ _ _ _ h => h) wantedN hS8 (fun W hW => (E.assign f36 rfl)) fun a37 f37 => ?_
  have szw3r := hS8.size
  replace HK := HK.z hS8
  replace B := B.z hS8
  clear f33 a33 f34 a34 f35 a35 f36 a36 hS8
  refine R.done (by kernel_rfl) (hK9 _ _ ?_)
  have f38 := f37.sub (sub_cons (i := 6) rfl (sub_cons (i := 7) rfl sn))
  refine wp_ret ?_; (try simp only [xt, xb]); refine C.ret2 f38 rfl rfl rfl ?_
  exact ⟨HK, _, _, rfl, H.found0 hd⟩
set_option maxHeartbeats 1000000 in
theorem topf_any (l : List Dt) (A : Option Addr) (c : Nat) (d : Dt) (w : World) (A1 : Ds w A l) (hm : l.length ≤ 1000000) (hr : rightB l = true) : Calls Tryd.prog 61 #[.slice A l.length c, .agg (dcell d).toArray] w (fun e w' => Kept [] w w' ∧ e = .returned (.int .i64 (topI l d.node d.epoch))) := by
  have HK : Kept [] w w := Kept.refl [] w
  refine C.enter Tryd.func61 rfl Tryd.ntmps61 rfl ?_
  intro a0 f0
  have f1 : Fr 19 a0 [(0, .slice A l.length c), (1, .agg (dcell d).toArray)] := f0
  refine C.sk fun K0 hK0 => ?_
  refine L.box f1 wantedN (by decide) rfl rfl fun a2 w1 g0 N0 f2 => ?_
  have Bg0 := N0.blk
  have kg0 := N0.kept
  have log0 := N0.lo
  have ltg0 := Bg0.lt
  have szw1 := kg0.size
  have frg0 : w.heap.size ≤ g0 := Nat.le_trans HK.size log0
  replace HK := HK.z kg0
  clear f0 N0 kg0
  refine L.val f2 wantedN rfl (by decide) (E.assign f2 rfl) fun a3 f3 => ?_
  refine wpList_nil (hK0 _ _ ?_)
  have f4 := f3.sub (sub_cons (i := 0) rfl (sub_cons (i := 3) rfl (sub_cons (i := 4) rfl sn)))
  refine wp_seq_k fun K1 hK1 => ?_
  refine C.sk fun K2 hK2 => ?_
  refine L.val f4 wantedN rfl (by decide) (E.move f4 rfl) fun a5 f5 => ?_
  refine L.val f5 wantedN rfl (by decide) (E.loadB f5 U23 rfl wsz23_c rfl (Bg0) rfl) fun a6 f6 => ?_
  refine L.call f6 wantedN rfl (by decide) (run_call Tryd.call70 (args3 f6 rfl rfl rfl)) (search_any l _ _ d _ (A1.kept HK) hm (rises hr)) ?_
  clear f1 a0 f2 a2 f3 f4 a3 f5 a5
  rintro e w2 ⟨kc2, i, b, rfl, hfd⟩
  refine ⟨_, rfl, fun a7 f7 => ?_⟩
  have szw2 := kc2.size
  replace HK := HK.z kc2
  replace Bg0 := Bg0.z kc2
  clear f6 a6 kc2
  refine L.val f7 wantedN rfl (by decide) (E.move f7 rfl) fun a8 f8 => ?_
  refine L.val f8 wantedN rfl (by decide) (E.extract f8 rfl rfl) fun a9 f9 => ?_
  refine L.val f9 wantedN rfl (by decide) (E.extract f9 rfl rfl) fun a10 f10 => ?_
  refine L.val f10 wantedN rfl (by decide) (E.assign f10 rfl) fun a11 f11 => ?_
  refine L.val f11 wantedN rfl (by decide) (E.assign f11 rfl) fun a12 f12 => ?_
  have f13 := f12.sub (sub_cons (i := 0) rfl (sub_cons (i := 4) rfl (sub_cons (i := 5) rfl (sub_cons (i := 6) rfl sn))))
  refine wpList_nil (hK2 _ _ (C.sk fun K3 hK3 => ?_))
  refine L.val f13 wantedN rfl (by decide) (E.move f13 rfl) fun a14 f14 => ?_
  refine wpList_nil (hK3 _ _ ?_)
  have f15 := f14.sub (sub_cons (i := 0) rfl (sub_cons (i := 4) rfl (sub_cons (i := 5) rfl (sub_cons (i := 13) rfl sn))))
  clear f7 a7 f8 a8 f9 a9 f10 a10 f11 a11 f12 f13 a12 f14
  refine f15.split 13 rfl (fun h0 f16 => ?_) (fun h0 f16 => ?_)
  · clear f15
    subst h0
    obtain ⟨m, hd, hn⟩ := hfd.is_top hr
    have hlt := (List.getElem?_eq_some_iff.1 hd).1
    obtain ⟨b, off, hA⟩ := A1.addr (i := i) hlt
    refine C.condT f16 rfl ?_
    refine C.sk fun K4 hK4 => ?_
    refine L.val f16 wantedN rfl (by decide) (E.move f16 rfl) fun a17 f17 => ?_
    refine L.val f17 wantedN rfl (by decide) (E.move f17 rfl) fun a18 f18 => ?_
    refine L.val f18 wantedN rfl (by decide) (E.indexA f18 (by assumption) U32 wsz23_c rfl rfl (by omega) (by omega)) fun a19 f19 => ?_
    refine L.val f19 wantedN rfl (by decide) (E.fieldAddrN 2 f19 U23 rfl rfl rfl wsz3_c) fun a20 f20 => ?_
    refine L.val f20 wantedN rfl (by decide) (by (exact E.load f20 U3 rfl rfl (by have := (A1.kept HK).row hA hd 2 _ rfl; simpa [Nat.add_assoc] using this))) fun a21 f21 => ?_
    refine L.val f21 wantedN rfl (by decide) (E.assign f21 rfl) fun a22 f22 => ?_
    have f23 := f22.sub (sub_cons (i := 4) rfl sn)
    refine wpList_nil (hK4 _ _ (wp_ret ?_)); (try simp only [xt, xb]); refine C.ret f23 rfl rfl ?_
    exact ⟨HK, by rw [← hn]⟩
  clear f15
  subst h0
  refine C.condF f16 rfl ?_
  refine wp_skip (hK1 _ _ ?_)
  have f17 := f16.sub (sub_cons (i := 4) rfl sn)
  refine C.sk fun K5 hK5 => ?_
  refine L.val f17 wantedN rfl (by decide) (E.assign f17 rfl) fun a18 f18 => ?_
  have f19 := f18.sub (sub_cons (i := 4) rfl sn)
  refine wpList_nil (hK5 _ _ (wp_ret ?_)); (try simp only [xt, xb]); refine C.ret f19 rfl rfl ?_
  exact ⟨HK, by rw [hfd.top (rises hr)]⟩
set_option maxHeartbeats 1000000 in
theorem Top_any (l : List Dt) (A : Option Addr) (c : Nat) (x y : Int) (w : World) (A1 : Ds w A l) (hm : l.length ≤ 1000000) : Calls Tryd.prog 44 #[.slice A l.length c, .int .i64 x, .int .i64 y] w (fun e w' => Kept [] w w' ∧ e = .returned (.int .i64 (topR l x y))) := by
  have HK : Kept [] w w := Kept.refl [] w
  refine C.enter Tryd.func44 rfl Tryd.ntmps44 rfl ?_
  intro a0 f0
  have f1 : Fr 15 a0 [(0, .slice A l.length c), (1, .int .i64 x), (2, .int .i64 y)] := f0
  refine C.sk fun K0 hK0 => ?_
  refine L.val f1 wantedN rfl (by decide) (E.assign f1 rfl) fun a2 f2 => ?_
  refine wpList_nil (hK0 _ _ ?_)
  have f3 := f2.sub (sub_cons (i := 0) rfl (sub_cons (i := 1) rfl (sub_cons (i := 2) rfl (sub_cons (i := 6) rfl sn))))
  refine wp_seq_k fun K1 hK1 => ?_
  refine C.sk fun K2 hK2 => ?_
  refine L.val f3 wantedN rfl (by decide) (E.move f3 rfl) fun a4 f4 => ?_
  refine L.call f4 wantedN rfl (by decide) (run_call Tryd.call60 (args1 f4 rfl)) (right_any l _ _ _ (A1.kept HK) (by unfold maxLen; omega)) ?_
  clear f0 f1 a0 f2 f3 a2
  rintro e w1 ⟨kc1, rfl⟩
  refine ⟨_, rfl, fun a5 f5 => ?_⟩
  have szw1 := kc1.size
  replace HK := HK.z kc1
  clear f4 a4 kc1
  refine L.val f5 wantedN rfl (by decide) (E.not f5 rfl) fun a6 f6 => ?_
  refine wpList_nil (hK2 _ _ ?_)
  have f7 := f6.sub (sub_cons (i := 0) rfl (sub_cons (i := 1) rfl (sub_cons (i := 2) rfl (sub_cons (i := 6) rfl (sub_cons (i := 9) rfl sn)))))
  clear f5 a5 f6
  refine f7.splitNB 9 rfl (fun h0 f8 => ?_) (fun h0 f8 => ?_)
  · refine C.condT f8 rfl ?_
    refine C.sk fun K3 hK3 => ?_
    refine L.val f8 wantedN rfl (by decide) (E.assign f8 rfl) fun a9 f9 => ?_
    have f10 := f9.sub (sub_cons (i := 0) rfl (sub_cons (i := 1) rfl (sub_cons (i := 2) rfl (sub_cons (i := 6) rfl sn))))
    refine wpList_nil (hK3 _ _ (wp_ret ?_)); (try simp only [xt, xb]); refine C.ret f10 rfl rfl ?_
    exact ⟨HK, by simp [topR, *]⟩
  have hrb := h0
  refine C.condF f8 rfl ?_
  refine wp_skip (hK1 _ _ ?_)
  have f9 := f8.sub (sub_cons (i := 0) rfl (sub_cons (i := 1) rfl (sub_cons (i := 2) rfl (sub_cons (i := 6) rfl sn))))
  refine C.sk fun K4 hK4 => ?_
  refine L.val f9 wantedN rfl (by decide) (E.move f9 rfl) fun a10 f10 => ?_
  refine L.val f10 wantedN rfl (by decide) (E.move f10 rfl) fun a11 f11 => ?_
  refine L.val f11 wantedN rfl (by decide) (E.move f11 rfl) fun a12 f12 => ?_
  refine L.val f12 wantedN rfl (by decide) (E.build f12 (parts2 f12 rfl rfl) (wbl23_0_1_c _ _)) fun a13 f13 => ?_
  refine L.call f13 wantedN rfl (by decide) (run_call Tryd.call61 (args2 f13 rfl rfl)) (topf_any l _ _ ⟨x, y, 0⟩ _ (A1.kept HK) hm hrb) ?_
  clear f7 f8 f9 a6 f10 a10 f11 a11 f12 a12
  rintro e w2 ⟨kc2, rfl⟩
  refine ⟨_, rfl, fun a14 f14 => ?_⟩
  have szw2 := kc2.size
  replace HK := HK.z kc2
  clear f13 a13 kc2
  refine L.val f14 wantedN rfl (by decide) (E.assign f14 rfl) fun a15 f15 => ?_
  have f16 := f15.sub (sub_cons (i := 6) rfl sn)
  refine wpList_nil (hK4 _ _ (wp_ret ?_)); (try simp only [xt, xb]); refine C.ret f16 rfl rfl ?_
  exact ⟨HK, by simp [topR, hrb]⟩
set_option maxHeartbeats 1000000 in
theorem Has_any (l : List Dt) (A : Option Addr) (c : Nat) (d : Dt) (w : World) (A1 : Ds w A l) (hm : l.length ≤ 1000000) : Calls Tryd.prog 30 #[.slice A l.length c, .agg (dcell d).toArray] w (fun e w' => Kept [] w w' ∧ e = .returned (.bool (hasB l d))) := by
  have HK : Kept [] w w := Kept.refl [] w
  refine C.enter Tryd.func30 rfl Tryd.ntmps30 rfl ?_
  intro a0 f0
  have f1 : Fr 19 a0 [(0, .slice A l.length c), (1, .agg (dcell d).toArray)] := f0
  refine C.sk fun K0 hK0 => ?_
  refine L.box f1 wantedN (by decide) rfl rfl fun a2 w1 g0 N0 f2 => ?_
  have Bg0 := N0.blk
  have kg0 := N0.kept
  have log0 := N0.lo
  have ltg0 := Bg0.lt
  have szw1 := kg0.size
  have frg0 : w.heap.size ≤ g0 := Nat.le_trans HK.size log0
  replace HK := HK.z kg0
  clear f0 N0 kg0
  refine L.val f2 wantedN rfl (by decide) (E.assign f2 rfl) fun a3 f3 => ?_
  refine wpList_nil (hK0 _ _ ?_)
  have f4 := f3.sub (sub_cons (i := 0) rfl (sub_cons (i := 3) rfl (sub_cons (i := 4) rfl sn)))
  refine wp_seq_k fun K1 hK1 => ?_
  refine R.begin (S := fun W => Kept [] w1 W) (by kernel_rfl) (by exact (Kept.refl _ _).drewN 1) ?_
  have hS1 : Kept [] w1 (w1.drewN 1) := (Kept.refl _ _).drewN 1
  have hd1 : Kept [] w1 (w1.drewN 1) := (Kept.refl _ _).drewN 1
  obtain ⟨w2, hww2⟩ : ∃ W, W = w1.drewN 1 := ⟨_, rfl⟩
  rw [← hww2] at hS1 hd1 ⊢
  clear f1 a0 f2 a2 f3 hww2
  have szw2 := hS1.size
  refine R.take 0 f4 rfl rfl (by decide) (by kernel_rfl) (by kernel_rfl) (by kernel_rfl) (fun _ _ _ _ h => h) wantedN hS1 (fun W hW => (E.fieldAddrN 2 f4 U23 rfl rfl rfl wsz3_c)) fun a5 f5 => ?_
  refine R.take 1 f5 rfl rfl (by decide) (by kernel_rfl) (by kernel_rfl) (by kernel_rfl) (fun _ _ _ _ h => h) wantedN hS1 (fun W hW => (E.load f5 U3 rfl rfl ((Bg0.z hW).cl rfl))) fun a6 f6 => ?_
  refine R.take 2 f6 rfl rfl (by decide) (by kernel_rfl) (by kernel_rfl) (by kernel_rfl) (fun _ _ _ _ h => h) wantedN hS1 (fun W hW => (E.geq f6 rfl rfl)) fun a7 f7 => ?_
  refine R.take 3 f7 rfl rfl (by decide) (by kernel_rfl) (by kernel_rfl) (by kernel_rfl) (fun _ _ _ _ h => h) wantedN hS1 (fun W hW => (E.move f7 rfl)) fun a8 f8 => ?_
  clear f4 a3 f5 a5 f6 a6 f7 a7
  refine f8.splitD 8 rfl (fun h0 f9 => ?_) (fun h0 f9 => ?_)
  · refine R.take 4 f9 rfl rfl (by decide) (by kernel_rfl) (by kernel_rfl) (by kernel_rfl) (fun _ _ _ _ h => h) (f9.yes rfl rfl) hS1 (fun W hW => (E.fieldAddrN 2 f9 U23 rfl rfl rfl wsz3_c)) fun a10 f10 => ?_
    refine R.take 5 f10 rfl rfl (by decide) (by kernel_rfl) (by kernel_rfl) (by kernel_rfl) (fun _ _ _ _ h => h) (f10.yes rfl rfl) hS1 (fun W hW => (E.load f10 U3 rfl rfl ((Bg0.z hW).cl rfl))) fun a11 f11 => ?_
    refine R.take 6 f11 rfl rfl (by decide) (by kernel_rfl) (by kernel_rfl) (by kernel_rfl) (fun _ _ _ _ h => h) (f11.yes rfl rfl) hS1 (fun W hW => (E.move f11 rfl)) fun a12 f12 => ?_
    refine R.take 7 f12 rfl rfl (by decide) (by kernel_rfl) (by kernel_rfl) (by kernel_rfl) (fun _ _ _ _ h => h) (f12.yes rfl rfl) hS1 (fun W hW => (E.fieldAddrN 0 f12 U23 rfl rfl rfl wsz3_c)) fun a13 f13 => ?_
    refine R.take 8 f13 rfl rfl (by decide) (by kernel_rfl) (by kernel_rfl) (by kernel_rfl) (fun _ _ _ _ h => h) (f13.yes rfl rfl) hS1 (fun W hW => (E.load f13 U3 rfl rfl ((Bg0.z hW).cl rfl))) fun a14 f14 => ?_
    refine R.take 9 f14 rfl rfl (by decide) (by kernel_rfl) (by kernel_rfl) (by kernel_rfl) (fun _ _ _ _ h => h) (f14.yes rfl rfl) hS1 (fun W hW => (E.fieldAddrN 1 f14 U23 rfl rfl rfl wsz3_c)) fun a15 f15 => ?_
    refine R.take 10 f15 rfl rfl (by decide) (by kernel_rfl) (by kernel_rfl) (by kernel_rfl) (fun _ _ _ _ h => h) (f15.yes rfl rfl) hS1 (fun W hW => (E.load f15 U3 rfl rfl ((Bg0.z hW).cl rfl))) fun a16 f16 => ?_
    clear f8 f9 a8 f10 a10 f11 a11 f12 a12 f13 a13 f14 a14 f15 a15
    refine R.call 11 f16 rfl rfl (by decide) (by kernel_rfl) (f16.yes rfl rfl) (run_call Tryd.call44 (args3 f16 rfl rfl rfl)) (Top_any l _ _ _ _ _ ((A1.kept HK).kept hS1) hm) ?_
    rintro e w3 ⟨kc3, rfl⟩
    replace hS1 := hS1.trans kc3 (by simp)
    refine ⟨_, rfl, hS1, fun a17 f17 => ?_⟩
    have szw3 := kc3.size
    clear f16 a16 kc3
    refine R.take 12 f17 rfl rfl (by decide) (by kernel_rfl) (by kernel_rfl) (by kernel_rfl) (fun _ _ _ _ h => h) (f17.yes rfl rfl) hS1 (fun W hW => (E.leq f17 rfl rfl)) fun a18 f18 => ?_
    refine R.take 13 f18 rfl rfl (by decide) (by kernel_rfl) (by kernel_rfl) (by kernel_rfl) (fun _ _ _ _ h => h) wantedN hS1 (fun W hW => (E.pickT f18 rfl rfl)) fun a19 f19 => ?_
    refine R.take 14 f19 rfl rfl (by decide) (by kernel_rfl) (by kernel_rfl) (by kernel_rfl) (fun _ _ _ _ h => h) wantedN hS1 (fun W hW => (E.assign f19 rfl)) fun a20 f20 => ?_
    have szw3r := hS1.size
    replace HK := HK.z hS1
    replace Bg0 := Bg0.z hS1
    clear f17 a17 f18 a18 f19 a19 hS1
    refine R.done (by kernel_rfl) (hK1 _ _ ?_)
    have f21 := f20.sub (sub_cons (i := 4) rfl sn)
    refine wp_ret ?_; (try simp only [xt, xb]); refine C.ret f21 rfl rfl ?_
    exact ⟨HK, by simp [hasB, *]⟩
  refine R.takeSkip 4 f9 rfl rfl (by decide) (by kernel_rfl) (by kernel_rfl) (by kernel_rfl) (fun _ _ _ _ h => h) (f9.noT rfl rfl) hS1 fun a10 f10 => ?_
  refine R.takeSkip 5 f10 rfl rfl (by decide) (by kernel_rfl) (by kernel_rfl) (by kernel_rfl) (fun _ _ _ _ h => h) (f10.noT rfl rfl) hS1 fun a11 f11 => ?_
  refine R.takeSkip 6 f11 rfl rfl (by decide) (by kernel_rfl) (by kernel_rfl) (by kernel_rfl) (fun _ _ _ _ h => h) (f11.noT rfl rfl) hS1 fun a12 f12 => ?_
  refine R.takeSkip 7 f12 rfl rfl (by decide) (by kernel_rfl) (by kernel_rfl) (by kernel_rfl) (fun _ _ _ _ h => h) (f12.noT rfl rfl) hS1 fun a13 f13 => ?_
  refine R.takeSkip 8 f13 rfl rfl (by decide) (by kernel_rfl) (by kernel_rfl) (by kernel_rfl) (fun _ _ _ _ h => h) (f13.noT rfl rfl) hS1 fun a14 f14 => ?_
  refine R.takeSkip 9 f14 rfl rfl (by decide) (by kernel_rfl) (by kernel_rfl) (by kernel_rfl) (fun _ _ _ _ h => h) (f14.noT rfl rfl) hS1 fun a15 f15 => ?_
  refine R.takeSkip 10 f15 rfl rfl (by decide) (by kernel_rfl) (by kernel_rfl) (by kernel_rfl) (fun _ _ _ _ h => h) (f15.noT rfl rfl) hS1 fun a16 f16 => ?_
  clear f8 f9 a8 f10 a10 f11 a11 f12 a12 f13 a13 f14 a14 f15 a15
  refine R.takeSkip 11 f16 rfl rfl (by decide) (by kernel_rfl) (by kernel_rfl) (by kernel_rfl) (fun _ _ _ _ h => h) (f16.noT rfl rfl) hS1 fun a17 f17 => ?_
  refine R.takeSkip 12 f17 rfl rfl (by decide) (by kernel_rfl) (by kernel_rfl) (by kernel_rfl) (fun _ _ _ _ h => h) (f17.noT rfl rfl) hS1 fun a18 f18 => ?_
  refine R.take 13 f18 rfl rfl (by decide) (by kernel_rfl) (by kernel_rfl) (by kernel_rfl) (fun _ _ _ _ h => h) wantedN hS1 (fun W hW => (E.pickF f18 rfl rfl)) fun a19 f19 => ?_
  refine R.take 14 f19 rfl rfl (by decide) (by kernel_rfl) (by kernel_rfl) (by kernel_rfl) (fun _ _ _ _ h => h) wantedN hS1 (fun W hW => (E.assign f19 rfl)) fun a20 f20 => ?_
  have szw2r := hS1.size
  replace HK := HK.z hS1
  replace Bg0 := Bg0.z hS1
  clear f16 a16 f17 a17 f18 a18 f19 a19 hS1
  refine R.done (by kernel_rfl) (hK1 _ _ ?_)
  have f21 := f20.sub (sub_cons (i := 4) rfl sn)
  refine wp_ret ?_; (try simp only [xt, xb]); refine C.ret f21 rfl rfl ?_
  exact ⟨HK, by simp [hasB, *]⟩
end Go.Proofs.YtekmhcdgmgbheaaDoor
namespace Go.Proofs.YtekmhcdgmgbheaaDoor
open Go.RowKit Go.Hub
theorem wzib23_d : (Tryd.prog.info? 23).map (fun i => (i.zero, i.size, i.bytes)) = some (some (.agg #[(.int .i64 0), (.int .i64 0), (.int .i64 0)]), 3, 24) := by kernel_rfl
theorem wsz23_d : (Tryd.prog.info? 23).map (·.size) = some 3 := by kernel_rfl
def DotsPost (l : List Dt) (w : World) (e : Ending) (w' : World) : Prop := Kept [] w w' ∧ ∃ A c, e = .returned (.slice A l.length c) ∧ Fresh w w' 23 3 A l.length c (dcells l)
set_option maxHeartbeats 1000000 in
theorem clone_any (l : List Dt) (A : Option Addr) (c : Nat) (w : World) (A1 : Ds w A l) (hm : l.length ≤ 1000000) : Calls Tryd.prog 40 #[.slice A l.length c] w (DotsPost l w) := by
  have HK : Kept [] w w := Kept.refl [] w
  refine C.enter Tryd.func40 rfl Tryd.ntmps40 rfl ?_
  intro a0 f0
  have f1 : Fr 8 a0 [(0, .slice A l.length c)] := f0
  refine C.sk fun K0 hK0 => ?_
  refine L.val f1 wantedN rfl (by decide) (E.assign f1 rfl) fun a2 f2 => ?_
  refine wpList_nil (hK0 _ _ ?_)
  have f3 := f2.sub (sub_cons (i := 0) rfl (sub_cons (i := 2) rfl sn))
  refine wp_seq_k fun K1 hK1 => ?_
  refine C.sk fun K2 hK2 => ?_
  refine L.val f3 wantedN rfl (by decide) (E.move f3 rfl) fun a4 f4 => ?_
  refine L.val f4 wantedN rfl (by decide) (E.eqlNil f4 U32 rfl rfl) fun a5 f5 => ?_
  refine wpList_nil (hK2 _ _ ?_)
  have f6 := f5.sub (sub_cons (i := 0) rfl (sub_cons (i := 2) rfl (sub_cons (i := 4) rfl sn)))
  clear f0 f1 a0 f2 f3 a2 f4 a4 f5
  refine f6.split 4 rfl (fun h0 f7 => ?_) (fun h0 f7 => ?_)
  · have hA0 : A = none := by simpa using h0
    clear f6
    have hl0 : l = [] := by
      rcases l with _ | ⟨d, r⟩
      · rfl
      obtain ⟨b, off, e⟩ := A1.addr (i := 0) (by simp)
      rw [hA0] at e
      cases e
    refine C.condT f7 rfl ?_
    refine C.sk fun K3 hK3 => ?_
    refine L.val f7 wantedN rfl (by decide) (E.assign f7 rfl) fun a8 f8 => ?_
    have f9 := f8.sub (sub_cons (i := 0) rfl (sub_cons (i := 2) rfl sn))
    refine wpList_nil (hK3 _ _ (wp_ret ?_)); (try simp only [xt, xb]); refine C.ret f9 rfl rfl ?_
    clear f7 a5 f8
    subst hl0
    exact ⟨HK, none, 0, rfl, Fresh.nil _ _ _ _⟩
  refine C.condF f7 rfl ?_
  refine wp_skip (hK1 _ _ ?_)
  have f8 := f7.sub (sub_cons (i := 0) rfl (sub_cons (i := 2) rfl sn))
  refine C.sk fun K4 hK4 => ?_
  refine L.buildNone f8 wantedN (by decide) U32 wsz23_d fun a9 w1 g0 N0 f9 => ?_
  have OW := N0.own (k := 0) (size := 3) rfl (by decide)
  have Bg0 := N0.blk
  have kg0 := N0.kept
  have log0 := N0.lo
  have ltg0 := Bg0.lt
  have szw1 := kg0.size
  have frg0 : w.heap.size ≤ g0 := Nat.le_trans HK.size log0
  replace HK := HK.z kg0
  clear f6 f7 N0 kg0
  refine L.val f9 wantedN rfl (by decide) (E.move f9 rfl) fun a10 f10 => ?_
  refine L.append f10 wantedN (by decide) U32 wzib23_d rfl rfl rfl rfl (OW) (A1.kept HK) (dcells_one l) (by unfold maxLen; omega) (by omega) fun a11 w2 A2 c2 AP2 f11 => ?_
  have kap2 : Kept [g0] w1 w2 := by simpa [Value.ownBlock] using AP2.kept
  have FR := AP2.next (⟨OW, fun b hb => by simp at hb; omega⟩ : Fresh w w1 23 3 (some ⟨g0, 0, none⟩) 0 0 _) HK.size
  have szw2 := kap2.size
  replace HK := HK.trans kap2 (by intro x hx hlt; simp at hx; subst hx; (exfalso; omega))
  clear f8 a5 f9 a9 f10 a10 kap2
  refine L.val f11 wantedN rfl (by decide) (E.assign f11 rfl) fun a12 f12 => ?_
  have f13 := f12.sub (sub_cons (i := 2) rfl sn)
  refine wpList_nil (hK4 _ _ (wp_ret ?_)); (try simp only [xt, xb]); refine C.ret f13 rfl rfl ?_
  simp only [Nat.zero_add] at FR f13 ⊢
  exact ⟨HK, _, _, rfl, by simpa using FR⟩
end Go.Proofs.YtekmhcdgmgbheaaDoor
namespace Go.Proofs.YtekmhcdgmgbheaaDoor
open Go.RowKit Go.Hub
theorem sl_one (w : World) (g : Nat) (d : Dt) (B : Blk w g 23 #[.int .i64 d.node, .int .i64 d.epoch, .int .i64 d.n]) : Ds w (some ⟨g, 0, none⟩) [d] :=
  ⟨rfl, fun _ => ⟨g, 0, rfl, B.lt, fun j u hu => by rw [Nat.zero_add]; exact B.cell_ (by simpa [dcells] using hu)⟩⟩
end Go.Proofs.YtekmhcdgmgbheaaDoor
