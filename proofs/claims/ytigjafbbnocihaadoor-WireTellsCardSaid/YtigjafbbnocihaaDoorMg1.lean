/- Merged by program (shrink.py): contracts and plain laws that the claim's statement uses, part 1. -/
import Derived.ArgAppend
import Derived.BigQuiet
import Derived.Deep.AppendLies
import Derived.Deep.Draws
import Derived.Deep.Fields
import Derived.Deep.LoopGhost
import Derived.Deep.MidRow
import Derived.Deep.QuietTactic
import Derived.Deep.RegionHeld
import Derived.Deep.RegionHeld3
import Derived.Deep.RegionLaw
import Derived.Deep.Slices
import Derived.Deep.Upon
import Derived.Great.BuildSlice
import Derived.IntWalk
import Derived.Laws.BytesArg
import Derived.Laws.Cover4
import Derived.Laws.IdiomCopy
import Derived.Laws.IdiomStrings
import Derived.Laws.ResultCell
import Derived.Lib.AppendStr
import Derived.Lib.AppendZerosOnto
import Derived.Lib.LaidU8T
import Derived.Lib.MapLaws
import Derived.Lib.OthersKept
import Derived.Lib.Overlaps
import Derived.Maps.AppendAt
import Derived.Maps.OwnSet
import Derived.OpenShut
import Derived.OwnWalk
import Derived.ProofKit
import Derived.Shelf.Spec.DecodeRune
import Derived.Shelf.Spec.NilArms
import Derived.Shelf.Vars
import Derived.SizedLaws
import Derived.StillTailTactics
import Derived.Test.YtigjafbbnocihaaDoorProg
import Derived.Test.YtigjafbbnocihaaDoorRows
import Derived.WalkKit
import Derived.WalkLawsBesides
import Derived.WalkSpells
set_option linter.all false

namespace Go.Hub
open Go.RowKit Go.Maps Go.ChangeMaps Go.MapKept
theorem hid {p : Prop} (h : p) : Hid p := h
structure Kept (L : List Nat) (w w' : World) : Prop where
  os : w'.os = w.os
  tape : w'.tape = w.tape
  output : w'.output = w.output
  size : w.heap.size ≤ w'.heap.size
  block : ∀ k, k < w.heap.size → k ∉ L → w'.heap[k]? = w.heap[k]?
section
variable {L L' : List Nat} {w w' w'' : World}
theorem Kept.refl (L : List Nat) (w : World) : Kept L w w := ⟨rfl, rfl, rfl, Nat.le_refl _, fun _ _ _ => rfl⟩
theorem Kept.trans (h : Kept L w w') (k : Kept L' w' w'') (hs : ∀ x ∈ L', x < w.heap.size → x ∈ L) : Kept L w w'' :=
  ⟨k.os.trans h.os, k.tape.trans h.tape, k.output.trans h.output, Nat.le_trans h.size k.size,
   fun i hi hn => (k.block i (Nat.lt_of_lt_of_le hi h.size) (fun hx => hn (hs i hx hi))).trans (h.block i hi hn)⟩
theorem Kept.mono (h : Kept L w w') (hs : ∀ x ∈ L, x < w.heap.size → x ∈ L') : Kept L' w w' :=
  ⟨h.os, h.tape, h.output, h.size, fun i hi hn => h.block i hi (fun hx => hn (hs i hx hi))⟩
theorem Kept.drew (h : Kept L w w') : Kept L w w'.drew := ⟨h.os, h.tape, h.output, h.size, h.block⟩
theorem Kept.drewN (h : Kept L w w') (n : Nat) : Kept L w (w'.drewN n) := ⟨h.os, h.tape, h.output, h.size, h.block⟩
theorem Kept.alloc (h : Kept L w w') (o : Obj) : Kept L w (w'.alloc o) :=
  h.trans (L' := []) ⟨rfl, rfl, rfl, by simp, fun k hk _ => Below.heap_alloc _ _ _ hk⟩ (by simp)
theorem Kept.setCell (h : Kept L w w') {p : Addr} (hp : p.block < w.heap.size → p.block ∈ L) (u : Value) : Kept L w (w'.setCell p u) :=
  h.trans (L' := [p.block]) ⟨rfl, rfl, rfl, by simp [World.setCell], fun k _ hn => Below.heap_setCell _ _ _ _ (by simpa using hn)⟩ (by simpa using hp)
theorem Kept.below (h : Kept L w w') {B : Nat} (hB : ∀ x ∈ L, B ≤ x) (hs : B ≤ w.heap.size) : Below B w w' :=
  ⟨h.os, h.tape, h.output, h.size, fun k hk => h.block k (by omega) (fun hx => by have := hB k hx; omega)⟩
theorem Kept.of_below (h : Below w.heap.size w w') (L : List Nat) : Kept L w w' := ⟨h.os, h.tape, h.output, h.size, fun k hk _ => h.block k hk⟩
theorem Kept.cell (h : Kept L w w') {p : Addr} (hp : p.block < w.heap.size) (hn : p.block ∉ L) : w'.cell? p = w.cell? p := World.cell?_of_block (w := w) (h.block p.block hp hn)
end
def Blk (w : World) (g : Nat) (t : TypeId) (cs : Array Value) : Prop := w.heap[g]? = some (.cells cs t (0, 0))
section
variable {w w' : World} {g : Nat} {t : TypeId} {cs : Array Value}
theorem Blk.lt (h : Blk w g t cs) : g < w.heap.size := by
  rcases Nat.lt_or_ge g w.heap.size with hlt | hge
  · exact hlt
  · unfold Blk at h; rw [Array.getElem?_eq_none hge] at h; cases h
theorem Blk.cell (h : Blk w g t cs) (i : Nat) : w.cell? ⟨g, i, none⟩ = cs[i]? := cell_of_row w g i cs t (0, 0) h
theorem Blk.cell_ (h : Blk w g t cs) {i : Nat} {v : Value} (hv : cs[i]? = some v) : w.cell? ⟨g, i, none⟩ = some v := (h.cell i).trans hv
theorem Blk.frozen (h : Blk w g t cs) (i : Nat) : w.frozen? ⟨g, i, none⟩ = false := by
  unfold Blk at h
  simp [World.frozen?, h]
theorem Blk.new (w : World) (t : TypeId) (cs : Array Value) : Blk (w.alloc (.cells cs t)) w.heap.size t cs := heap_alloc_new w _
theorem Blk.set_ (h : Blk w g t cs) (i : Nat) (u : Value) : Blk (w.setCell ⟨g, i, none⟩ u) g t (cs.setIfInBounds i u) := by
  unfold Blk at h ⊢
  simp [World.setCell, Array.getElem?_modify, h]
theorem Blk.kept {L : List Nat} (h : Blk w g t cs) (hk : Kept L w w') (hg : g ∉ L) : Blk w' g t cs := (hk.block g h.lt hg).trans h
end
theorem add_none (b off i : Nat) : (Addr.mk b off none).add i = ⟨b, off + i, none⟩ := by
  unfold Addr.add
  split
  · rename_i h; simp_all
  · rfl
theorem bd_u8 {n : Int} (h : (Lit.int .u8 n).wf = true) : 0 ≤ n ∧ n ≤ 255 := by simpa [Lit.wf, IntKind.min, IntKind.max, IntKind.signed, IntKind.bits] using h
end Go.Hub
namespace Go.Hub
open Go.RowKit
def Rds (w : World) (B size : Nat) (A : Option Addr) (n : Nat) (xs : List Value) : Prop :=
  xs.length = n * size ∧ (0 < n → ∃ b off, A = some ⟨b, off, none⟩ ∧ b < B ∧ ∀ j u, xs[j]? = some u → w.cell? ⟨b, off + j, none⟩ = some u)
section
variable {w w' : World} {B B' size n : Nat} {A : Option Addr} {xs : List Value}
theorem Rds.nil (w : World) (B size : Nat) (A : Option Addr) : Rds w B size A 0 [] := ⟨by simp, fun h => absurd h (by omega)⟩
theorem grown_kept {row : Option Nat} (h : w.grownBy w' row) : Kept row.toList w w' :=
  ⟨h.os, h.tape, h.output, h.size, fun k hk hn => h.block k hk (fun e => hn (by rw [← e]; simp))⟩
end
section
variable {P : Program} (w : World)
theorem run_append_none (base : Nat) (t ty e : TypeId) (i : TypeInfo) (size : Nat) (ht : P.underlying t = some (.slice e)) (hi : P.info? e = some i)
    (v : Value) (n : Nat) (xs : List Value) (hown : w.ownsRow base e size v n xs) (c : Nat) : (Builtin.append_ #[t, t] ty #[v, .slice none 0 c]).run P w = .ok v w := by
  rcases hown.2 with ⟨rfl, rfl⟩ | ⟨g, cap, cur, rfl, _, _, hnc, _⟩
  · simp [Builtin.append_, run_underlying ht, sizeOf, typeInfo, hi, Builtin.lenOf, Builtin.firstCells]
  · simp [Builtin.append_, run_underlying ht, sizeOf, typeInfo, hi, Builtin.lenOf, Builtin.firstCells, hnc, storeCells]
theorem run_append_rds (base : Nat) (t ty e : TypeId) (i : TypeInfo) (z : Value) (size bytes : Nat) (ht : P.underlying t = some (.slice e)) (hi : P.info? e = some i) (hz : i.zero = some z)
    (hsize : i.size = size) (hby : i.bytes = bytes) (hzs : z.cells.size = size) (hsz : 0 < size)
    (v : Value) (n : Nat) (xs : List Value) (hown : w.ownsRow base e size v n xs)
    (B : Nat) (A : Option Addr) (m c : Nat) (news : List Value) (hr : Rds w B size A m news) (hA : m = 0 → A = none ∨ ∃ a, A = some a) (h1 : ∀ u ∈ news, u.oneCell' = true)
    (h63 : n + m ≤ maxLen) (hbytes : (n + m) * bytes ≤ 140737488355328) (hbase : base ≤ w.heap.size) :
    ∃ v' w', (Builtin.append_ #[t, t] ty #[v, .slice A m c]).run P w = .ok v' w' ∧ w'.ownsRow base e size v' (n + m) (xs ++ news) ∧ w.grownBy w' v.ownBlock ∧
      (v'.ownBlock = v.ownBlock ∨ v'.ownBlock = some w.heap.size) := by
  rcases A with _ | ad
  · have hm : m = 0 := by
      rcases Nat.eq_zero_or_pos m with h0 | h0
      · exact h0
      · obtain ⟨b, off, h, _⟩ := hr.2 h0
        cases h
    subst hm
    have hn : news = [] := List.eq_nil_of_length_eq_zero (by simpa using hr.1)
    subst hn
    exact ⟨v, w, run_append_none w base t ty e i size ht hi v n xs hown c, by simpa using hown, World.grownBy.refl w _, .inl rfl⟩
  · have hcells : ∀ j u, news[j]? = some u → w.cell? (ad.add j) = some u := by
      intro j u hu
      rcases Nat.eq_zero_or_pos m with h0 | h0
      · subst h0
        have hn : news = [] := List.eq_nil_of_length_eq_zero (by simpa using hr.1)
        subst hn
        simp at hu
      · obtain ⟨b, off, h, _, hc⟩ := hr.2 h0
        injection h with h
        subst h
        rw [add_none]
        exact hc j u hu
    obtain ⟨v', w', hrun, h2, h3, _, h5⟩ := run_append_own_at (P := P) w base t ty e i z size bytes ht hi hz hsize hby hzs hsz v n xs hown ad m c news hr.1 hcells h1 h63 hbytes hbase
    exact ⟨v', w', hrun, h2, h3, h5⟩
end
end Go.Hub
namespace Go.Hub
open Go.RowKit
theorem setCells_block (g : Nat) : ∀ (vs : List Value) (o : Nat) (w : World) (cur : Array Value) (e : TypeId) (f : Nat × Nat), w.heap[g]? = some (.cells cur e f) →
    ∃ cur' : Array Value, (w.setCells g o vs).heap[g]? = some (.cells cur' e f) ∧ cur'.size = cur.size ∧ (∀ j, j < o → cur'[j]? = cur[j]?) ∧ (∀ j u, vs[j]? = some u → o + j < cur.size → cur'[o + j]? = some u)
  | [], o, w, cur, e, f, h => ⟨cur, h, rfl, fun _ _ => rfl, fun j u hu => by simp at hu⟩
  | v :: r, o, w, cur, e, f, h => by
    have h1 : (w.setCell ⟨g, o, none⟩ v).heap[g]? = some (.cells (cur.setIfInBounds o v) e f) := by
      simp [World.setCell, Array.getElem?_modify, h]
    obtain ⟨cur', a1, a2, a3, a4⟩ := setCells_block g r (o + 1) (w.setCell ⟨g, o, none⟩ v) _ e f h1
    refine ⟨cur', a1, by rw [a2]; simp, fun j hj => ?_, fun j u hu hlt => ?_⟩
    · rw [a3 j (by omega), Array.getElem?_setIfInBounds]
      rw [if_neg (by omega)]
    · match j, hu with
      | 0, hu =>
        simp at hu
        subst hu
        rw [Nat.add_zero] at hlt ⊢
        rw [a3 o (by omega), Array.getElem?_setIfInBounds, if_pos rfl, if_pos hlt]
      | j + 1, hu =>
        have := a4 j u (by simpa using hu) (by simp; omega)
        rw [show o + (j + 1) = o + 1 + j from by omega]
        exact this
theorem setCells_other (g : Nat) : ∀ (vs : List Value) (o : Nat) (w : World) (k : Nat), k ≠ g → (w.setCells g o vs).heap[k]? = w.heap[k]?
  | [], _, _, _, _ => rfl
  | v :: r, o, w, k, h => (setCells_other g r (o + 1) (w.setCell ⟨g, o, none⟩ v) k h).trans (Below.heap_setCell _ _ _ _ h)
theorem setCells_facts (g : Nat) : ∀ (vs : List Value) (o : Nat) (w : World), (w.setCells g o vs).os = w.os ∧ (w.setCells g o vs).tape = w.tape ∧ (w.setCells g o vs).output = w.output ∧ (w.setCells g o vs).heap.size = w.heap.size
  | [], _, _ => ⟨rfl, rfl, rfl, rfl⟩
  | v :: r, o, w => by
    obtain ⟨a, b, c, d⟩ := setCells_facts g r (o + 1) (w.setCell ⟨g, o, none⟩ v)
    exact ⟨a, b, c, by rw [World.setCells, d]; simp [World.setCell]⟩
def Own (w : World) (e : TypeId) (size : Nat) (v : Value) (n : Nat) (xs : List Value) : Prop :=
  xs.length = n * size ∧ ((v = .slice none 0 0 ∧ n = 0) ∨
    ∃ g off cap cur, v = .slice (some ⟨g, off, none⟩) n cap ∧ w.heap[g]? = some (.cells cur e (0, 0)) ∧ n ≤ cap ∧ cap ≤ maxLen ∧ off + cap * size ≤ cur.size ∧ ∀ j u, xs[j]? = some u → cur[off + j]? = some u)
section
variable {w w' : World} {e : TypeId} {size : Nat} {v : Value} {n : Nat} {xs : List Value}
theorem Own.nil (w : World) (e : TypeId) (size : Nat) : Own w e size (.slice none 0 0) 0 [] := ⟨by simp, .inl ⟨rfl, rfl⟩⟩
theorem Own.of_row {base : Nat} (h : w.ownsRow base e size v n xs) : Own w e size v n xs := by
  refine ⟨h.1, ?_⟩
  rcases h.2 with hn | ⟨g, cap, cur, hv, _, hg, hnc, hcm, hcs, ht⟩
  · exact .inl hn
  · refine .inr ⟨g, 0, cap, cur, hv, hg, hnc, hcm, by omega, fun j u hu => ?_⟩
    rw [← ht] at hu
    rw [Nat.zero_add]
    have hj : j < n * size := by
      rcases Nat.lt_or_ge j (n * size) with hj | hj
      · exact hj
      · rw [List.getElem?_take, if_neg (by omega)] at hu; cases hu
    rw [List.getElem?_take, if_pos hj] at hu
    simpa using hu
theorem Own.form (h : Own w e size v n xs) : ∃ A c, v = .slice A n c ∧ n ≤ c ∧ c ≤ maxLen := by
  rcases h.2 with ⟨rfl, rfl⟩ | ⟨g, off, cap, cur, rfl, _, hn, hc, _⟩
  · exact ⟨none, 0, rfl, Nat.le_refl _, by simp [maxLen]⟩
  · exact ⟨_, _, rfl, hn, hc⟩
theorem Own.blk (h : Own w e size v n xs) : ∀ k, v.ownBlock = some k → k < w.heap.size ∧ ∃ cs, w.heap[k]? = some (.cells cs e (0, 0)) := by
  intro k hk
  rcases h.2 with ⟨rfl, rfl⟩ | ⟨g, off, cap, cur, rfl, hg, _⟩
  · simp [Value.ownBlock] at hk
  · simp [Value.ownBlock] at hk
    subst hk
    exact ⟨(Array.getElem?_eq_some_iff.1 hg).1, cur, hg⟩
theorem Own.of_eq (h : Own w e size v n xs) (hb : ∀ k, v.ownBlock = some k → w'.heap[k]? = w.heap[k]?) : Own w' e size v n xs := by
  refine ⟨h.1, ?_⟩
  rcases h.2 with hn | ⟨g, off, cap, cur, rfl, hg, r⟩
  · exact .inl hn
  · exact .inr ⟨g, off, cap, cur, rfl, (hb g rfl).trans hg, r⟩
theorem Own.kept {L : List Nat} (h : Own w e size v n xs) (hk : Kept L w w') (hn : ∀ k, v.ownBlock = some k → k ∉ L) : Own w' e size v n xs :=
  h.of_eq fun k hb => hk.block k (h.blk k hb).1 (hn k hb)
theorem Own.alloc (h : Own w e size v n xs) (o : Obj) : Own (w.alloc o) e size v n xs := h.of_eq fun k hb => Below.heap_alloc w o k (h.blk k hb).1
theorem Own.head {A : Option Addr} {c : Nat} (h : Own w e size (.slice A n c) n xs) {k : Nat} (hk : k ≤ n) : Own w e size (.slice A k c) k (xs.take (k * size)) := by
  have hkn : k * size ≤ n * size := Nat.mul_le_mul_right _ hk
  refine ⟨by rw [List.length_take, h.1, Nat.min_eq_left hkn], ?_⟩
  rcases h.2 with ⟨hv, h0⟩ | ⟨g, off, cap, cur, hv, hg, hnc, hcm, hcs, hc⟩
  · injection hv with h1 h2 h3
    subst h1 h3
    obtain rfl : k = 0 := by omega
    exact .inl ⟨rfl, rfl⟩
  · injection hv with h1 h2 h3
    subst h1 h3
    refine .inr ⟨g, off, c, cur, rfl, hg, by omega, hcm, hcs, fun j u hu => hc j u ?_⟩
    by_cases hj : j < k * size
    · rwa [List.getElem?_take, if_pos hj] at hu
    · rw [List.getElem?_take, if_neg hj] at hu; cases hu
end
section
variable {P : Program} (w : World)
theorem append_own (t ty e : TypeId) (i : TypeInfo) (z : Value) (size bytes : Nat) (ht : P.underlying t = some (.slice e)) (hi : P.info? e = some i) (hz : i.zero = some z)
    (hsize : i.size = size) (hby : i.bytes = bytes) (hzs : z.cells.size = size) (hsz : 0 < size)
    (v : Value) (n : Nat) (xs : List Value) (hown : Own w e size v n xs)
    (B : Nat) (A : Option Addr) (m c : Nat) (news : List Value) (hr : Rds w B size A m news) (h1 : ∀ u ∈ news, u.oneCell' = true)
    (h63 : n + m ≤ maxLen) (hbytes : (n + m) * bytes ≤ 140737488355328) :
    ∃ v' w', (Builtin.append_ #[t, t] ty #[v, .slice A m c]).run P w = .ok v' w' ∧ Own w' e size v' (n + m) (xs ++ news) ∧ Kept v.ownBlock.toList w w' ∧
      (∀ k, v'.ownBlock = some k → v.ownBlock = some k ∨ w.heap.size ≤ k) := by
  rcases hown.2 with ⟨rfl, rfl⟩ | ⟨g, off, cap, cur, rfl, hg, hnc, hcm, hcs, hc⟩
  · have hx : xs = [] := List.eq_nil_of_length_eq_zero (by simpa using hown.1)
    subst hx
    obtain ⟨v', w', hrun, ho, hgr, hat⟩ := run_append_rds (P := P) w w.heap.size t ty e i z size bytes ht hi hz hsize hby hzs hsz (.slice none 0 0) 0 [] (World.ownsRow_nil _ _ _ _) B A m c news hr (fun _ => by cases A <;> simp) h1 h63 hbytes (Nat.le_refl _)
    exact ⟨v', w', hrun, Own.of_row ho, grown_kept hgr, fun k hk => .inr (ho.lt k hk).1⟩
  · rcases A with _ | ad
    · have hm : m = 0 := by
        rcases Nat.eq_zero_or_pos m with h0 | h0
        · exact h0
        · obtain ⟨b, off, h, _⟩ := hr.2 h0
          cases h
      subst hm
      have hn : news = [] := List.eq_nil_of_length_eq_zero (by simpa using hr.1)
      subst hn
      refine ⟨_, w, ?_, by simpa using hown, Kept.refl _ _, fun k hk => .inl hk⟩
      simp [Builtin.append_, run_underlying ht, sizeOf, typeInfo, hi, Builtin.lenOf, Builtin.firstCells, hnc, storeCells]
    · have hnews : ∀ j u, news[j]? = some u → w.cell? (ad.add j) = some u := by
        intro j u hu
        rcases Nat.eq_zero_or_pos m with h0 | h0
        · subst h0
          have hn : news = [] := List.eq_nil_of_length_eq_zero (by simpa using hr.1)
          subst hn
          simp at hu
        · obtain ⟨b, off, h, _, hcc⟩ := hr.2 h0
          injection h with h
          subst h
          rw [add_none]
          exact hcc j u hu
      have hlen : news.length = m * size := hr.1
      by_cases hroom : n + m ≤ cap
      · have hmul : n * size + m * size ≤ cap * size := by rw [← Nat.add_mul]; exact Nat.mul_le_mul_right _ hroom
        subst hsize
        have hcell : ∀ j, j < news.length → w.cell? ⟨g, off + n * i.size + j, none⟩ = cur[off + n * i.size + j]? := fun j hj => cell_of_row w g _ cur e (0, 0) hg
        have hrun := run_append_room_cells (P := P) w t ty e i ht hi g off n cap ad m c news hlen hnews h1 hroom
          (fun j hj => by rw [hcell j hj, Array.getElem?_eq_getElem (by omega)]; rfl) (fun j hj => by simp [World.frozen?, hg])
        obtain ⟨cur', a1, a2, a3, a4⟩ := setCells_block g news (off + n * i.size) w cur e (0, 0) hg
        obtain ⟨b1, b2, b3, b4⟩ := setCells_facts g news (off + n * i.size) w
        refine ⟨_, _, hrun, ⟨by rw [List.length_append, hown.1, hlen, Nat.add_mul], .inr ⟨g, off, cap, cur', rfl, a1, hroom, hcm, by omega, fun j u hu => ?_⟩⟩,
          ⟨b1, b2, b3, by omega, fun k hk hn => setCells_other g _ _ w k (by simpa [Value.ownBlock] using hn)⟩, fun k hk => .inl hk⟩
        rcases Nat.lt_or_ge j xs.length with hj | hj
        · rw [List.getElem?_append_left hj] at hu
          rw [a3 _ (by have := hown.1; omega)]
          exact hc j u hu
        · rw [List.getElem?_append_right hj] at hu
          have hj2 : j - xs.length < news.length := by
            rcases Nat.lt_or_ge (j - xs.length) news.length with h | h
            · exact h
            · rw [List.getElem?_eq_none h] at hu; cases hu
          have := a4 (j - xs.length) u hu (by have := hown.1; omega)
          rw [show off + n * i.size + (j - xs.length) = off + j from by have := hown.1; omega] at this
          exact this
      · have holds : ∀ j u, xs[j]? = some u → w.cell? ((⟨g, off, none⟩ : Addr).add j) = some u := fun j u hu => by
          rw [add_none, cell_of_row w g (off + j) cur e (0, 0) hg]
          exact hc j u hu
        obtain ⟨v', w', hrun, ho, hgr⟩ := run_append_arg_grows (P := P) w t ty e i z size bytes ht hi hz hsize hby hzs hsz ⟨g, off, none⟩ n cap xs hown.1 holds ad m c news hlen hnews (by omega) h63 hbytes
        exact ⟨v', w', hrun, Own.of_row ho, (grown_kept hgr).mono (by simp), fun k hk => .inr (ho.lt k hk).1⟩
theorem wp_append_own {o : Oper} {a : Act} {K : Act → World → Prop} {Q : Exit → Act → World → Prop} (s x : Operand) (t : TypeId)
    (ho : o.op = .call { callee := .builtin .append, args := #[s, x], argTypes := #[t, t] })
    (e : TypeId) (i : TypeInfo) (z : Value) (size bytes : Nat) (ht : P.underlying t = some (.slice e)) (hi : P.info? e = some i) (hz : i.zero = some z)
    (hsize : i.size = size) (hby : i.bytes = bytes) (hzs : z.cells.size = size) (hsz : 0 < size)
    (v : Value) (n : Nat) (xs : List Value) (hs : a.eval s = v) (hown : Own w e size v n xs)
    (B : Nat) (A : Option Addr) (m c : Nat) (news : List Value) (hx : a.eval x = .slice A m c) (hr : Rds w B size A m news) (h1 : ∀ u ∈ news, u.oneCell' = true)
    (h63 : n + m ≤ maxLen) (hbytes : (n + m) * bytes ≤ 140737488355328)
    (h : ∀ v' w', Own w' e size v' (n + m) (xs ++ news) → Kept v.ownBlock.toList w w' → (∀ k, v'.ownBlock = some k → v.ownBlock = some k ∨ w.heap.size ≤ k) → K (a.put o.dst v') w') : o.wp P a w K Q := by
  obtain ⟨v', w', hrun, h2, h3, h4⟩ := append_own (P := P) w t o.type e i z size bytes ht hi hz hsize hby hzs hsz v n xs hown B A m c news hr h1 h63 hbytes
  unfold Oper.wp execOp
  simp only [ho, resolve, invoke, builtin, Sem.run_bind, Sem.run_pure, Result.andThen_ok, List.map_toArray, List.map_cons, List.map_nil, hs, hx, hrun]
  exact h v' w' h2 h3 h4
theorem wpList_append_own' {ops : Array Oper} {rest : List Oper} {o : Oper} {a : Act} {Q : Exit → Act → World → Prop} (hgd : o.guard = none) (s x : Operand) (t : TypeId)
    (ho : o.op = .call { callee := .builtin .append, args := #[s, x], argTypes := #[t, t] })
    (e : TypeId) (i : TypeInfo) (z : Value) (size bytes : Nat) (ht : P.underlying t = some (.slice e)) (hi : P.info? e = some i) (hz : i.zero = some z)
    (hsize : i.size = size) (hby : i.bytes = bytes) (hzs : z.cells.size = size) (hsz : 0 < size)
    (v : Value) (n : Nat) (xs : List Value) (hs : a.eval s = v) (hown : Own w e size v n xs)
    (B : Nat) (A : Option Addr) (m c : Nat) (news : List Value) (hx : a.eval x = .slice A m c) (hr : Rds w B size A m news) (h1 : ∀ u ∈ news, u.oneCell' = true)
    (h63 : n + m ≤ maxLen) (hbytes : (n + m) * bytes ≤ 140737488355328)
    (h : ∀ v' w', Own w' e size v' (n + m) (xs ++ news) → Kept v.ownBlock.toList w w' → (∀ k, v'.ownBlock = some k → v.ownBlock = some k ∨ w.heap.size ≤ k) → wpList P ops Q rest (a.put o.dst v') w') : wpList P ops Q (o :: rest) a w :=
  wpList_plain hgd fun _ hK => wp_append_own w s x t ho e i z size bytes ht hi hz hsize hby hzs hsz v n xs hs hown B A m c news hx hr h1 h63 hbytes fun v' w' h2 h3 h4 => hK _ _ (h v' w' h2 h3 h4)
theorem Rds.boxed (w : World) (cs : Array Value) (e : TypeId) (size : Nat) (h : cs.size = size) : Rds (w.alloc (.cells cs e)) (w.heap.size + 1) size (some ⟨w.heap.size, 0, none⟩) 1 cs.toList :=
  ⟨by simp [h], fun _ => ⟨w.heap.size, 0, rfl, by omega, fun j u hu => by rw [Nat.zero_add, World.cell?_alloc_new]; simpa using hu⟩⟩
end
def Typ (w : World) (k : Nat) (E : List TypeId) : Prop := ∃ cs e f, w.heap[k]? = some (.cells cs e f) ∧ e ∈ E
structure Same (E : List TypeId) (B : Nat) (w w' : World) : Prop where
  os : w'.os = w.os
  tape : w'.tape = w.tape
  output : w'.output = w.output
  size : w.heap.size ≤ w'.heap.size
  block : ∀ k, k < w.heap.size → (k < B ∨ Typ w k E) → w'.heap[k]? = w.heap[k]?
section
variable {E : List TypeId} {B : Nat} {w w' w'' : World}
theorem Typ.of_eq {k : Nat} (h : Typ w k E) (hk : w'.heap[k]? = w.heap[k]?) : Typ w' k E := by obtain ⟨cs, e, f, h, he⟩ := h; exact ⟨cs, e, f, hk.trans h, he⟩
theorem Same.of_kept {L : List Nat} (h : Kept L w w') (hL : ∀ x ∈ L, x < w.heap.size → B ≤ x ∧ ¬ Typ w x E) : Same E B w w' :=
  ⟨h.os, h.tape, h.output, h.size, fun k hk hc => h.block k hk fun hx => by
    have := hL k hx hk
    rcases hc with hc | hc
    · omega
    · exact this.2 hc⟩
theorem Same.of_below (h : Below w.heap.size w w') : Same E B w w' := ⟨h.os, h.tape, h.output, h.size, fun k hk _ => h.block k hk⟩
theorem not_typ_of {k : Nat} {cs : Array Value} {e : TypeId} {f : Nat × Nat} (h : w.heap[k]? = some (.cells cs e f)) (he : e ∉ E) : ¬ Typ w k E := by
  rintro ⟨cs', e', f', h', he'⟩
  rw [h] at h'
  injection h' with h'
  injection h' with _ h2 _
  exact he (h2 ▸ he')
end
def u8 (x : UInt8) : Value := .int .u8 (x.toNat : Int)
def Bs (E : List TypeId) (B : Nat) (w : World) (A : Option Addr) (n : Nat) (l : List UInt8) : Prop :=
  l.length = n ∧ (0 < n → ∃ b off, A = some ⟨b, off, none⟩ ∧ b < w.heap.size ∧ (b < B ∨ Typ w b E) ∧ ∀ j x, l[j]? = some x → w.cell? ⟨b, off + j, none⟩ = some (u8 x))
section
variable {E : List TypeId} {B : Nat} {w w' : World} {A : Option Addr} {n : Nat} {l : List UInt8}
theorem Bs.nil (E : List TypeId) (B : Nat) (w : World) (A : Option Addr) : Bs E B w A 0 [] := ⟨rfl, fun h => absurd h (by omega)⟩
theorem Bs.same (h : Bs E B w A n l) (hs : Same E B w w') : Bs E B w' A n l :=
  ⟨h.1, fun hn => by
    obtain ⟨b, off, e, hb, ht, hc⟩ := h.2 hn
    have e1 := hs.block b hb ht
    refine ⟨b, off, e, Nat.lt_of_lt_of_le hb hs.size, ?_, fun j x hx => (World.cell?_of_block (w := w) (a := ⟨b, off + j, none⟩) e1).trans (hc j x hx)⟩
    rcases ht with ht | ht
    · exact .inl ht
    · exact .inr (ht.of_eq e1)⟩
theorem Bs.rds (h : Bs E B w A n l) : Rds w w.heap.size 1 A n (l.map u8) := by
  refine ⟨by simp [h.1], fun hn => ?_⟩
  obtain ⟨b, off, e, hb, _, hc⟩ := h.2 hn
  refine ⟨b, off, e, hb, fun j u hu => ?_⟩
  simp only [List.getElem?_map, Option.map_eq_some_iff] at hu
  obtain ⟨x, hx, rfl⟩ := hu
  exact hc j x hx
theorem Bs.of_own {e : TypeId} {c : Nat} (h : Own w e 1 (.slice A n c) n (l.map u8)) (he : e ∈ E) : Bs E B w A n l := by
  refine ⟨by have := h.1; simpa using this, fun hn => ?_⟩
  rcases h.2 with ⟨_, h0⟩ | ⟨g, off, cap, cur, hv, hg, _, _, _, hc⟩
  · omega
  · injection hv with hA
    refine ⟨g, off, hA, (Array.getElem?_eq_some_iff.1 hg).1, .inr ⟨cur, e, _, hg, he⟩, fun j x hx => ?_⟩
    rw [cell_of_row w g (off + j) cur e (0, 0) hg]
    exact hc j _ (by simp [hx])
theorem u8_one : ∀ u ∈ l.map u8, u.oneCell' = true := fun u hu => by
  simp at hu
  obtain ⟨x, _, rfl⟩ := hu
  rfl
theorem Bs.conv {P : Program} {src dst e : TypeId} {c : Nat} (h : Bs E B w A n l) (hs : P.underlying src = some (.slice e)) (he : P.underlying e = some (.int .u8)) (hd : P.underlying dst = some .string) :
    (convert src dst (.slice A n c)).run P w = .ok (.string ⟨l.toArray⟩) w := by
  have key : ∀ l : List UInt8, strOfNums (l.map fun x => (x.toNat : Int)) = ⟨l.toArray⟩ := fun l => by
    unfold strOfNums
    congr 1
    simp [List.map_map, Function.comp_def]
  rcases Nat.eq_zero_or_pos n with h0 | h0
  · subst h0
    have hl : l = [] := List.eq_nil_of_length_eq_zero h.1
    subst hl
    rw [run_convert_bytes_string w src dst e A 0 c hs he hd]
    cases A with
    | none => simp [Conv.bytesToString]; rfl
    | some a =>
      rw [run_bytesToString w a 0 c [] (by simp [loadCells, loadCellsFrom])]
      rfl
  · obtain ⟨b, off, rfl, _, _, hc⟩ := h.2 h0
    rw [run_convert_bytes_arg (P := P) w src e hs he b off n c (l.map fun x => (x.toNat : Int)) (by simp [h.1]) (fun i hi => ?_) dst hd, key]
    have hl : i < l.length := by have := h.1; omega
    rw [hc i l[i] (by simp [hl])]
    simp [u8, List.getD_eq_getElem?_getD, hl]
end
def Seq {M : Type} (size : Nat) (rel : List Value → M → Prop) (xs : List Value) (ms : List M) : Prop :=
  xs.length = ms.length * size ∧ ∀ i m, ms[i]? = some m → rel ((xs.drop (i * size)).take size) m
section
variable {M : Type} {size : Nat} {rel rel' : List Value → M → Prop} {xs ys : List Value} {ms ns : List M}
theorem Seq.nil (size : Nat) (rel : List Value → M → Prop) : Seq size rel [] [] := ⟨by simp, fun i m h => by simp at h⟩
theorem Seq.append (h : Seq size rel xs ms) (k : Seq size rel ys ns) : Seq size rel (xs ++ ys) (ms ++ ns) := by
  refine ⟨by rw [List.length_append, List.length_append, h.1, k.1, Nat.add_mul], fun i m hm => ?_⟩
  rcases Nat.lt_or_ge i ms.length with hi | hi
  · rw [List.getElem?_append_left hi] at hm
    have := h.2 i m hm
    have hle : i * size + size ≤ xs.length := by
      rw [h.1]
      calc i * size + size = (i + 1) * size := by rw [Nat.add_mul, Nat.one_mul]
        _ ≤ ms.length * size := Nat.mul_le_mul_right _ hi
    rw [List.drop_append_of_le_length (by omega), List.take_append_of_le_length (by rw [List.length_drop]; omega)]
    exact this
  · rw [List.getElem?_append_right hi] at hm
    have := k.2 _ m hm
    have e : (xs ++ ys).drop (i * size) = ys.drop ((i - ms.length) * size) := by
      rw [List.drop_append, List.drop_eq_nil_of_le (by rw [h.1]; exact Nat.mul_le_mul_right _ hi), List.nil_append, h.1, Nat.sub_mul]
    rw [e]
    exact this
theorem Seq.drop (h : Seq size rel xs ms) (k : Nat) : Seq size rel (xs.drop (k * size)) (ms.drop k) := by
  refine ⟨by rw [List.length_drop, List.length_drop, h.1, Nat.sub_mul], fun i m hm => ?_⟩
  rw [List.getElem?_drop] at hm
  have := h.2 _ m hm
  rw [List.drop_drop, ← Nat.add_mul]
  exact this
theorem Seq.one {cs : List Value} {m : M} (hl : cs.length = size) (h : rel cs m) : Seq size rel cs [m] :=
  ⟨by simp [hl], fun i n hn => by
    match i, hn with
    | 0, hn =>
      simp at hn
      subst hn
      simpa [← hl] using h⟩
end
section
variable {w w' : World} {g : Nat} {t : TypeId} {cs : Array Value}
theorem Blk.not_typ {E : List TypeId} (h : Blk w g t cs) (ht : t ∉ E) : ¬ Typ w g E := not_typ_of h ht
theorem Kept.below0 (h : Kept [] w w') : Below w.heap.size w w' := h.below (by simp) (Nat.le_refl _)
end
section
variable {P : Program} {fn : Func} {R : Ending → World → Prop} {a : Act} {w : World} {p u ty : Nat}
theorem ret_cell (h : fn.results = #[.cell p ty]) {g : Nat} {cs : Array Value} {t : TypeId} (d : TypeDesc) (hp : a.tmps.getD p undef = .pointer (some ⟨g, 0, none⟩)) (hg : Blk w g t cs)
    (hu : P.underlying ty = some d) (hd : (match d with | .struct _ | .array _ _ => true | _ => false) = true) (hi : (P.info? ty).map (·.size) = some cs.size) (hdef : a.defers = [])
    (hR : R (.returned (.agg cs)) w) : bodyPost P fn R .ret a w := by
  refine bodyPost_ret (v := .agg cs) ?_ hdef hR
  have hl := run_loadVar_row (P := P) w g t ty cs (0, 0) d hg hu hd hi
  have hp' : a.tmps[p]?.getD undef = .pointer (some ⟨g, 0, none⟩) := by simpa using hp
  simp [results, h, hp', asAddr, Sem.run_bind, Result.andThen, hl]
theorem ret_cell_tmp (h : fn.results = #[.cell p ty, .tmp u]) {g : Nat} {cs : Array Value} {t : TypeId} {v : Value} (d : TypeDesc) (hp : a.tmps.getD p undef = .pointer (some ⟨g, 0, none⟩)) (hv : a.tmps.getD u undef = v) (hg : Blk w g t cs)
    (hu : P.underlying ty = some d) (hd : (match d with | .struct _ | .array _ _ => true | _ => false) = true) (hi : (P.info? ty).map (·.size) = some cs.size) (hdef : a.defers = [])
    (hR : R (.returned (.tuple #[.agg cs, v])) w) : bodyPost P fn R .ret a w := by
  refine bodyPost_ret (v := .tuple #[.agg cs, v]) ?_ hdef hR
  have hl := run_loadVar_row (P := P) w g t ty cs (0, 0) d hg hu hd hi
  rw [results_cell_tmp h, hp, hv]
  simp [asAddr, Result.andThen, hl]
end
end Go.Hub
namespace Go.Hub
open Go.RowKit
abbrev FL := List (Nat × Value)
def look : FL → Nat → Option Value
  | [], _ => none
  | (i, v) :: r, j => bif i == j then some v else look r j
def evl (l : FL) : Operand → Option Value
  | .tmp t => look l t
  | .const v => some v
  | .global g => some (.pointer (some ⟨g, 0, none⟩))
  | .func f => some (.func (.func f) #[] #[])
structure Fr (n : Nat) (a : Act) (l : FL) : Prop where
  defers : a.defers = []
  size : a.tmps.size = n
  slot : ∀ i v, look l i = some v → a.tmps[i]? = some v
section
variable {n : Nat} {a : Act} {l : FL}
theorem Fr.ev (f : Fr n a l) {x : Operand} {v : Value} (h : evl l x = some v) : a.eval x = v := by
  cases x with
  | tmp t => simp only [Act.eval, Array.getD_eq_getD_getElem?, f.slot t v h, Option.getD_some]
  | const c => simpa [evl, Act.eval] using h
  | global g => simpa [evl, Act.eval] using h
  | func g => simpa [evl, Act.eval] using h
theorem Fr.get (f : Fr n a l) {i : Nat} {v : Value} (h : look l i = some v) : a.tmps.getD i undef = v := by
  rw [Array.getD_eq_getD_getElem?, f.slot i v h, Option.getD_some]
theorem Fr.put (f : Fr n a l) (d : Nat) (v : Value) (hd : d < n) : Fr n (a.put (some d) v) ((d, v) :: l) := by
  refine ⟨f.defers, by simp [Act.put, f.size], fun i u h => ?_⟩
  unfold look at h
  simp only [Act.put, Array.getElem?_setIfInBounds]
  by_cases hi : d = i
  · subst hi
    simp at h
    subst h
    rw [if_pos rfl, if_pos (by rw [f.size]; exact hd)]
  · have hb : (d == i) = false := by simp [hi]
    simp [hb] at h
    rw [if_neg hi]
    exact f.slot i u h
def sub (l : FL) : FL → Prop
  | [] => True
  | p :: r => look l p.1 = some p.2 ∧ sub l r
theorem sub_look {l l' : FL} (h : sub l l') : ∀ i v, look l' i = some v → look l i = some v := by
  induction l' with
  | nil => intro i v h; simp [look] at h
  | cons p r ih =>
    obtain ⟨h1, h2⟩ := h
    intro i v hv
    unfold look at hv
    by_cases hi : p.1 = i
    · subst hi
      simp at hv
      rw [← hv]; exact h1
    · have hb : (p.1 == i) = false := by simp [hi]
      simp [hb] at hv
      exact ih h2 i v hv
theorem sub_cons {l : FL} {i : Nat} {v : Value} {r : FL} (h : look l i = some v) (h' : sub l r) : sub l ((i, v) :: r) := ⟨h, h'⟩
theorem Fr.sub {l' : FL} (f : Fr n a l) (h : sub l l') : Fr n a l' := ⟨f.defers, f.size, fun i v hv => f.slot i v (sub_look h i v hv)⟩
theorem Fr.as (f : Fr n a l) {i : Nat} {v v' : Value} (h : look l i = some v) (e : v = v') : Fr n a ((i, v') :: l) := by
  subst e
  refine ⟨f.defers, f.size, fun j u hu => ?_⟩
  unfold look at hu
  by_cases hi : i = j
  · subst hi
    simp at hu
    subst hu
    exact f.slot i v h
  · have hb : (i == j) = false := by simp [hi]
    simp [hb] at hu
    exact f.slot j u hu
theorem Fr.start (args : Array Value) (n : Nat) (h : args.size ≤ n) : Fr n { tmps := args ++ Array.replicate (n - args.size) undef, defers := [] } (args.toList.zipIdx.map fun p => (p.2, p.1)) := by
  refine ⟨rfl, by simp; omega, fun i v hv => ?_⟩
  have key : ∀ (xs : List Value) (k i : Nat) (v : Value), look ((xs.zipIdx k).map fun p => (p.2, p.1)) i = some v → k ≤ i ∧ xs[i - k]? = some v := by
    intro xs
    induction xs with
    | nil => intro k i v h; simp [look] at h
    | cons x r ih =>
      intro k i v h
      simp only [List.zipIdx_cons, List.map_cons, look] at h
      by_cases hi : k = i
      · subst hi
        simp at h
        subst h
        simp
      · have hb : (k == i) = false := by simp [hi]
        simp [hb] at h
        obtain ⟨h1, h2⟩ := ih (k + 1) i v h
        refine ⟨by omega, ?_⟩
        rw [show i - k = (i - (k + 1)) + 1 from by omega]
        simpa using h2
  obtain ⟨_, h2⟩ := key args.toList 0 i v hv
  have hlt : i < args.size := by
    rcases Nat.lt_or_ge i args.size with h | h
    · exact h
    · simp [h] at h2
  simp only [Array.getElem?_append_left hlt]
  simpa using h2
end
section
variable {P : Program} {ops : Array Oper} {rest : List Oper} {o : Oper} {a : Act} {w w' : World} {Q : Exit → Act → World → Prop} {n d : Nat} {l : FL} {v : Value}
theorem Fr.yield (f : Fr n a l) {j dj : Nat} {b : Bool} (hj : (ops[j]?).bind (·.dst) = some dj) (hb : look l dj = some (.bool b)) : yielded ops a.tmps j = some b := by
  unfold yielded
  rw [hj]
  simp [f.slot dj _ hb]
theorem L.val (f : Fr n a l) (hw : Region.wanted o (yielded ops a.tmps) = true) (hd : o.dst = some d) (hn : d < n) (h : (execOp a.eval o).run P w = .ok (.value v) w')
    (hK : ∀ a', Fr n a' ((d, v) :: l) → wpList P ops Q rest a' w') : wpList P ops Q (o :: rest) a w :=
  wpList_step fun K hK' => by
    rw [if_pos hw]
    unfold Oper.wp
    rw [h]
    show K (a.put o.dst v) w'
    rw [hd]
    exact hK' _ _ (hK _ (f.put d v hn))
theorem L.act (f : Fr n a l) (hw : Region.wanted o (yielded ops a.tmps) = true) (hd : o.dst = none) (h : (execOp a.eval o).run P w = .ok .skip w')
    (hK : ∀ a', Fr n a' l → wpList P ops Q rest a' w') : wpList P ops Q (o :: rest) a w :=
  wpList_step fun K hK' => by
    rw [if_pos hw]
    unfold Oper.wp
    rw [h]
    show K (a.put o.dst undef) w'
    rw [hd]
    exact hK' _ _ (hK _ f)
theorem L.skip (f : Fr n a l) (hw : Region.wanted o (yielded ops a.tmps) = false) (hd : o.dst = some d) (hn : d < n)
    (hK : ∀ a', Fr n a' ((d, undef) :: l) → wpList P ops Q rest a' w) : wpList P ops Q (o :: rest) a w :=
  wpList_step fun K hK' => by
    rw [if_neg (by rw [hw]; simp), hd]
    exact hK' _ _ (hK _ (f.put d undef hn))
theorem L.skipN (f : Fr n a l) (hw : Region.wanted o (yielded ops a.tmps) = false) (hd : o.dst = none)
    (hK : ∀ a', Fr n a' l → wpList P ops Q rest a' w) : wpList P ops Q (o :: rest) a w :=
  wpList_step fun K hK' => by
    rw [if_neg (by rw [hw]; simp), hd]
    exact hK' _ _ (hK _ f)
theorem run_call {fn : Nat} {xs : Array Operand} {ats : Array TypeId} {dst : Option Nat} {ty : TypeId} {ps : String} {af : Array Edge} {g : Option (Nat × Bool)} {args : Array Value}
    (hc : ∀ args w, (callFunc fn args).run P w = .ok (.enter fn args) w) (hx : xs.map a.eval = args) :
    (execOp a.eval ⟨dst, .call { callee := .value (.func fn), args := xs, argTypes := ats }, ty, ps, af, g⟩).run P w = .ok (.enter fn args) w := by
  have e : execOp a.eval ⟨dst, .call { callee := .value (.func fn), args := xs, argTypes := ats }, ty, ps, af, g⟩ = callFunc fn (#[] ++ xs.map a.eval ++ #[]) := rfl
  rw [e, hx, hc]
  simp
theorem L.call (f : Fr n a l) (hw : Region.wanted o (yielded ops a.tmps) = true) (hd : o.dst = some d) (hn : d < n) {fn : Nat} {args : Array Value} (h : (execOp a.eval o).run P w = .ok (.enter fn args) w)
    {R : Ending → World → Prop} (hc : Calls P fn args w R) (hR : ∀ e w', R e w' → ∃ v, e = .returned v ∧ ∀ a', Fr n a' ((d, v) :: l) → wpList P ops Q rest a' w') : wpList P ops Q (o :: rest) a w :=
  wpList_step fun K hK' => by
    rw [if_pos hw]
    unfold Oper.wp
    rw [h]
    refine Calls.mono hc ?_
    intro e w' hr
    obtain ⟨v, rfl, hK⟩ := hR e w' hr
    show K (a.put o.dst v) w'
    rw [hd]
    exact hK' _ _ (hK _ (f.put d v hn))
theorem Fr.split {G : Prop} (f : Fr n a l) (i : Nat) {b : Bool} (h : look l i = some (.bool b)) (ht : b = true → Fr n a ((i, .bool true) :: l) → G) (hf : b = false → Fr n a ((i, .bool false) :: l) → G) : G := by
  cases hb : b
  · exact hf hb (f.as h (by rw [hb]))
  · exact ht hb (f.as h (by rw [hb]))
theorem Fr.splitD {G : Prop} (f : Fr n a l) (i : Nat) {p : Prop} {inst : Decidable p} (h : look l i = some (.bool (@decide p inst))) (ht : p → Fr n a ((i, .bool true) :: l) → G) (hf : ¬ p → Fr n a ((i, .bool false) :: l) → G) : G :=
  f.split i h (fun e => ht (of_decide_eq_true e)) (fun e => hf (of_decide_eq_false e))
theorem Fr.splitNB {G : Prop} (f : Fr n a l) (i : Nat) {b : Bool} (h : look l i = some (.bool (!b))) (ht : b = false → Fr n a ((i, .bool true) :: l) → G) (hf : b = true → Fr n a ((i, .bool false) :: l) → G) : G :=
  f.split i h (fun e => ht (by simpa using e)) (fun e => hf (by simpa using e))
theorem Fr.splitN {G : Prop} (f : Fr n a l) (i : Nat) {p : Prop} {inst : Decidable p} (h : look l i = some (.bool (!@decide p inst))) (ht : ¬ p → Fr n a ((i, .bool true) :: l) → G) (hf : p → Fr n a ((i, .bool false) :: l) → G) : G :=
  f.split i h (fun e => ht (by simpa using e)) (fun e => hf (by simpa using e))
end
section
variable {P : Program} {ops : Array Oper} {Q : Exit → Act → World → Prop} {md : Region.Mode} {S : World → Prop} {a : Act} {w w' : World} {n d : Nat} {l : FL} {v : Value} {o : Oper}
theorem R.begin {id : Nat} (hm : P.follows .mixedOrders = true) (hS : S (w.drewN 1))
    (h : wpAnyH P .any ops Q S ops.size (Array.replicate ops.size false) a (w.drewN 1)) : (Code.region id ops true).wp P Q a w := wp_region_held hm h
theorem R.take (i : Nat) {fuel : Nat} {listed : Array Bool} (f : Fr n a l) (hi : ops[i]? = some o) (hd : o.dst = some d) (hn : d < n) (hs : Region.noSelect ops = true) (hf : Region.free md ops listed i = true)
    (hr : (Region.ready md ops listed).contains i = true) (hQ : ∀ c (a : Act) (u : Value) w, Q (.panic c) (a.put (some d) u) w → Q (.panic c) a w) (hw : Region.wanted o (yielded ops a.tmps) = true) (hS : S w)
    (hv : ∀ w, S w → (execOp a.eval o).run P w = .ok (.value v) w)
    (hK : ∀ a', Fr n a' ((d, v) :: l) → wpAnyH P md ops Q S fuel (listed.setIfInBounds i true) a' w) : wpAnyH P md ops Q S (fuel + 1) listed a w := by
  refine wpAnyH_take hi hs hf hr (v := v) (fun c a w h => hQ c a v w (by rwa [hd] at h)) (.inl ⟨hw, hv⟩) hS ?_
  rw [hd]
  exact hK _ (f.put d v hn)
theorem R.takeSkip (i : Nat) {fuel : Nat} {listed : Array Bool} (f : Fr n a l) (hi : ops[i]? = some o) (hd : o.dst = some d) (hn : d < n) (hs : Region.noSelect ops = true) (hf : Region.free md ops listed i = true)
    (hr : (Region.ready md ops listed).contains i = true) (hQ : ∀ c (a : Act) (u : Value) w, Q (.panic c) (a.put (some d) u) w → Q (.panic c) a w) (hw : Region.wanted o (yielded ops a.tmps) = false) (hS : S w)
    (hK : ∀ a', Fr n a' ((d, undef) :: l) → wpAnyH P md ops Q S fuel (listed.setIfInBounds i true) a' w) : wpAnyH P md ops Q S (fuel + 1) listed a w := by
  refine wpAnyH_take hi hs hf hr (v := undef) (fun c a w h => hQ c a undef w (by rwa [hd] at h)) (.inr ⟨hw, rfl⟩) hS ?_
  rw [hd]
  exact hK _ (f.put d undef hn)
theorem R.act (i : Nat) {fuel : Nat} {listed : Array Bool} (f : Fr n a l) (hi : ops[i]? = some o) (hd : o.dst = none) (hr : Region.ready md ops listed = [i]) (hw : Region.wanted o (yielded ops a.tmps) = true)
    (hv : (execOp a.eval o).run P w = .ok .skip w') (hS : S w') (hK : ∀ a', Fr n a' l → wpAnyH P md ops Q S fuel (listed.setIfInBounds i true) a' w') : wpAnyH P md ops Q S (fuel + 1) listed a w := by
  refine wpAnyH_all hr (by simp) ?_
  intro j hj
  simp only [List.mem_singleton] at hj
  subst hj
  unfold wpOp
  simp only [hi, hw, if_true]
  refine .inl ?_
  unfold Oper.wp
  rw [hv]
  show S w' ∧ wpAnyH P md ops Q S fuel (listed.setIfInBounds j true) (a.put o.dst undef) w'
  rw [hd]
  exact ⟨hS, hK _ f⟩
theorem R.call (i : Nat) {fuel : Nat} {listed : Array Bool} (f : Fr n a l) (hi : ops[i]? = some o) (hd : o.dst = some d) (hn : d < n) (hr : Region.ready md ops listed = [i]) (hw : Region.wanted o (yielded ops a.tmps) = true)
    {fn : Nat} {args : Array Value} (h : (execOp a.eval o).run P w = .ok (.enter fn args) w) {R : Ending → World → Prop} (hc : Calls P fn args w R)
    (hR : ∀ e w', R e w' → ∃ v, e = .returned v ∧ S w' ∧ ∀ a', Fr n a' ((d, v) :: l) → wpAnyH P md ops Q S fuel (listed.setIfInBounds i true) a' w') : wpAnyH P md ops Q S (fuel + 1) listed a w := by
  refine wpAnyH_all hr (by simp) ?_
  intro j hj
  simp only [List.mem_singleton] at hj
  subst hj
  unfold wpOp
  simp only [hi, hw, if_true]
  refine .inl ?_
  unfold Oper.wp
  rw [h]
  refine Calls.mono hc ?_
  intro e w' hr
  obtain ⟨v, rfl, hS, hK⟩ := hR e w' hr
  show S w' ∧ wpAnyH P md ops Q S fuel (listed.setIfInBounds j true) (a.put o.dst v) w'
  rw [hd]
  exact ⟨hS, hK _ (f.put d v hn)⟩
theorem R.done {fuel : Nat} {listed : Array Bool} (hr : Region.ready md ops listed = []) (h : Q .normal a w) : wpAnyH P md ops Q S fuel listed a w := wpAnyH_done hr h fuel
end
section
variable {P : Program} {Q : Exit → Act → World → Prop} {a : Act} {w : World} {n : Nat} {l : FL}
theorem C.region {id : Nat} {ops : List Oper} (h : wpList P ops.toArray Q ops a w) : (Code.region id ops.toArray false).wp P Q a w := wp_region_lit h
theorem C.condT (f : Fr n a l) {c : Operand} {x y : Code} (hc : evl l c = some (.bool true)) (h : x.wp P Q a w) : (Code.cond c x y).wp P Q a w := wp_cond_true (f.ev hc) h
theorem C.condF (f : Fr n a l) {c : Operand} {x y : Code} (hc : evl l c = some (.bool false)) (h : y.wp P Q a w) : (Code.cond c x y).wp P Q a w := wp_cond_false (f.ev hc) h
theorem C.cut {x y : Code} (J : Act → World → Prop) (h : x.wp P (Exit.then J Q) a w) (hr : ∀ a w, J a w → y.wp P Q a w) : (Code.seq x y).wp P Q a w :=
  wp_seq (Code.wp_mono (fun e a w q => by cases e <;> first | exact hr _ _ q | exact q) h)
theorem C.loop (I : Nat → Act → World → Prop) (n₀ : Nat) {c : Code} (h₀ : I n₀ a w)
    (round : ∀ n a w, I n a w → ∀ K : Act → World → Prop, (∀ a w k, k < n → I k a w → K a w) → c.wp P (Exit.then K Q) a w) : (Code.loop c).wp P Q a w :=
  wp_loop_ghost I n₀ h₀ fun n a w h => round n a w h _ fun a w k hk hI => ⟨k, hk, hI⟩
theorem C.enter {f : Nat} {fn : Func} {c : Code} {args : Array Value} {R : Ending → World → Prop} {n : Nat} (hf : P.funcs[f]? = some fn) (hb : fn.body = some c) (hn : fn.ntmps = n) (hs : Nat.ble args.size n = true)
    (h : ∀ a, Fr n a (args.toList.zipIdx.map fun p => (p.2, p.1)) → c.wp P (bodyPost P fn R) a w) : Calls P f args w R := by
  refine calls_of_wp hf hb (h _ ?_)
  rw [hn]
  exact Fr.start args n (Nat.le_of_ble_eq_true hs)
theorem C.ret {fn : Func} {R : Ending → World → Prop} (f : Fr n a l) {t : Tmp} (hr : fn.results = #[.tmp t]) {v : Value} (hv : look l t = some v) (h : R (.returned v) w) : bodyPost P fn R .ret a w :=
  bodyPost_ret (by rw [results_tmp hr, f.get hv]) f.defers h
theorem C.end0 {fn : Func} {R : Ending → World → Prop} (f : Fr n a l) (hr : fn.results = #[]) (h : R (.returned (.tuple #[])) w) : bodyPost P fn R .normal a w :=
  bodyPost_end (by rw [results_none hr]) f.defers h
theorem C.ret2 {fn : Func} {R : Ending → World → Prop} (f : Fr n a l) {t u : Tmp} (hr : fn.results = #[.tmp t, .tmp u]) {v v' : Value} (hv : look l t = some v) (hv' : look l u = some v') (h : R (.returned (.tuple #[v, v'])) w) : bodyPost P fn R .ret a w :=
  bodyPost_ret (by rw [results_tmp2 hr, f.get hv, f.get hv']) f.defers h
end
end Go.Hub
namespace Go.Hub
open Go.RowKit
theorem beqD {α : Type} [BEq α] [LawfulBEq α] [DecidableEq α] (a b : α) : (a == b) = decide (a = b) := by by_cases h : a = b <;> simp [h]
section
variable {P : Program} {a : Act} {w : World} {n : Nat} {l : FL} {dst : Option Nat} {ty : TypeId} {ps : String} {af : Array Edge} {g : Option (Nat × Bool)} {x y z : Operand} {t u : TypeId}
theorem E.move (f : Fr n a l) {v : Value} (hx : evl l x = some v) : (execOp a.eval ⟨dst, .move x, ty, ps, af, g⟩).run P w = .ok (.value v) w := by simp [execOp, f.ev hx]
theorem E.assign (f : Fr n a l) {v : Value} (hx : evl l x = some v) : (execOp a.eval ⟨dst, .assign x, ty, ps, af, g⟩).run P w = .ok (.value v) w := by simp [execOp, f.ev hx]
theorem E.pickT (f : Fr n a l) {v : Value} (hc : evl l x = some (.bool true)) (hv : evl l y = some v) : (execOp a.eval ⟨dst, .pick x y z, ty, ps, af, g⟩).run P w = .ok (.value v) w := by simp [execOp, f.ev hc, f.ev hv, asBool]
theorem E.pickF (f : Fr n a l) {v : Value} (hc : evl l x = some (.bool false)) (hv : evl l z = some v) : (execOp a.eval ⟨dst, .pick x y z, ty, ps, af, g⟩).run P w = .ok (.value v) w := by simp [execOp, f.ev hc, f.ev hv, asBool]
theorem E.add (f : Fr n a l) {k : IntKind} {i j r : Int} (hx : evl l x = some (.int k i)) (hy : evl l y = some (.int k j)) (hr : k.wrap (i + j) = r) : (execOp a.eval ⟨dst, .binOp .add t x y u, ty, ps, af, g⟩).run P w = .ok (.value (.int k r)) w := by
  simp [execOp, f.ev hx, f.ev hy, eqGuard, binOp, Op.intArith, hr]
theorem E.sub (f : Fr n a l) {k : IntKind} {i j r : Int} (hx : evl l x = some (.int k i)) (hy : evl l y = some (.int k j)) (hr : k.wrap (i - j) = r) : (execOp a.eval ⟨dst, .binOp .sub t x y u, ty, ps, af, g⟩).run P w = .ok (.value (.int k r)) w := by
  simp [execOp, f.ev hx, f.ev hy, eqGuard, binOp, Op.intArith, hr]
theorem E.mul (f : Fr n a l) {k : IntKind} {i j r : Int} (hx : evl l x = some (.int k i)) (hy : evl l y = some (.int k j)) (hr : k.wrap (i * j) = r) : (execOp a.eval ⟨dst, .binOp .mul t x y u, ty, ps, af, g⟩).run P w = .ok (.value (.int k r)) w := by
  simp [execOp, f.ev hx, f.ev hy, eqGuard, binOp, Op.intArith, hr]
theorem E.rem (f : Fr n a l) {k : IntKind} {i j r : Int} (hx : evl l x = some (.int k i)) (hy : evl l y = some (.int k j)) (h0 : j ≠ 0) (hr : i.tmod j = r) : (execOp a.eval ⟨dst, .binOp .rem t x y u, ty, ps, af, g⟩).run P w = .ok (.value (.int k r)) w := by
  simp [execOp, f.ev hx, f.ev hy, eqGuard, binOp, Op.intDiv, h0, hr]
theorem E.eql (f : Fr n a l) {k : IntKind} {i j : Int} (hx : evl l x = some (.int k i)) (hy : evl l y = some (.int k j)) : (execOp a.eval ⟨dst, .binOp .eql t x y u, ty, ps, af, g⟩).run P w = .ok (.value (.bool (decide (i = j)))) w := by
  simp [execOp, f.ev hx, f.ev hy, eqGuard, binOp, Op.intCmp, beqD]
theorem E.neq (f : Fr n a l) {k : IntKind} {i j : Int} (hx : evl l x = some (.int k i)) (hy : evl l y = some (.int k j)) : (execOp a.eval ⟨dst, .binOp .neq t x y u, ty, ps, af, g⟩).run P w = .ok (.value (.bool (!decide (i = j)))) w := by
  simp [execOp, f.ev hx, f.ev hy, eqGuard, binOp, Op.intCmp, bne, beqD]
theorem E.lss (f : Fr n a l) {k : IntKind} {i j : Int} (hx : evl l x = some (.int k i)) (hy : evl l y = some (.int k j)) : (execOp a.eval ⟨dst, .binOp .lss t x y u, ty, ps, af, g⟩).run P w = .ok (.value (.bool (decide (i < j)))) w := by
  simp [execOp, f.ev hx, f.ev hy, eqGuard, binOp, Op.intCmp]
theorem E.leq (f : Fr n a l) {k : IntKind} {i j : Int} (hx : evl l x = some (.int k i)) (hy : evl l y = some (.int k j)) : (execOp a.eval ⟨dst, .binOp .leq t x y u, ty, ps, af, g⟩).run P w = .ok (.value (.bool (decide (i ≤ j)))) w := by
  simp [execOp, f.ev hx, f.ev hy, eqGuard, binOp, Op.intCmp]
theorem E.gtr (f : Fr n a l) {k : IntKind} {i j : Int} (hx : evl l x = some (.int k i)) (hy : evl l y = some (.int k j)) : (execOp a.eval ⟨dst, .binOp .gtr t x y u, ty, ps, af, g⟩).run P w = .ok (.value (.bool (decide (j < i)))) w := by
  simp [execOp, f.ev hx, f.ev hy, eqGuard, binOp, Op.intCmp]
theorem E.geq (f : Fr n a l) {k : IntKind} {i j : Int} (hx : evl l x = some (.int k i)) (hy : evl l y = some (.int k j)) : (execOp a.eval ⟨dst, .binOp .geq t x y u, ty, ps, af, g⟩).run P w = .ok (.value (.bool (decide (j ≤ i)))) w := by
  simp [execOp, f.ev hx, f.ev hy, eqGuard, binOp, Op.intCmp]
theorem toList_eq_iff {s r : ByteArray} : s.toList = r.toList ↔ s = r := by
  rw [ByteArray.toList_eq, ByteArray.toList_eq]
  constructor
  · intro h
    exact ByteArray.ext (Array.toList_inj.mp h)
  · intro h; rw [h]
theorem E.eqlS (f : Fr n a l) {s r : ByteArray} (hx : evl l x = some (.string s)) (hy : evl l y = some (.string r)) : (execOp a.eval ⟨dst, .binOp .eql t x y u, ty, ps, af, g⟩).run P w = .ok (.value (.bool (decide (s = r)))) w := by
  simp [execOp, f.ev hx, f.ev hy, eqGuard, binOp, Op.stringOp, beqD, toList_eq_iff]
theorem E.neqS (f : Fr n a l) {s r : ByteArray} (hx : evl l x = some (.string s)) (hy : evl l y = some (.string r)) : (execOp a.eval ⟨dst, .binOp .neq t x y u, ty, ps, af, g⟩).run P w = .ok (.value (.bool (!decide (s = r)))) w := by
  simp [execOp, f.ev hx, f.ev hy, eqGuard, binOp, Op.stringOp, beqD, toList_eq_iff]
theorem E.eqlB (f : Fr n a l) {b c : Bool} (ht : P.underlying t = some .bool) (hx : evl l x = some (.bool b)) (hy : evl l y = some (.bool c)) : (execOp a.eval ⟨dst, .binOp .eql t x y u, ty, ps, af, g⟩).run P w = .ok (.value (.bool (b == c))) w := by
  simp [execOp, f.ev hx, f.ev hy, eqGuard, binOp, Op.equal, Op.maxDepth, run_equalIn_bool' w _ t b c ht]
theorem E.neqB (f : Fr n a l) {b c : Bool} (ht : P.underlying t = some .bool) (hx : evl l x = some (.bool b)) (hy : evl l y = some (.bool c)) : (execOp a.eval ⟨dst, .binOp .neq t x y u, ty, ps, af, g⟩).run P w = .ok (.value (.bool (b != c))) w := by
  simp [execOp, f.ev hx, f.ev hy, eqGuard, binOp, Op.equal, Op.maxDepth, run_equalIn_bool' w _ t b c ht, bne]
theorem E.eqlV (f : Fr n a l) {v v' : Value} {b : Bool} (hx : evl l x = some v) (hy : evl l y = some v') (h : ∀ w, (do eqGuard .eql t x y v v'; binOp .eql t v v' : Sem Value).run P w = .ok (.bool b) w) : (execOp a.eval ⟨dst, .binOp .eql t x y u, ty, ps, af, g⟩).run P w = .ok (.value (.bool b)) w := by
  have := h w
  simp only [execOp, f.ev hx, f.ev hy]
  rw [Sem.run_bind, this]
  rfl
theorem E.neqV (f : Fr n a l) {v v' : Value} {b : Bool} (hx : evl l x = some v) (hy : evl l y = some v') (h : ∀ w, (do eqGuard .neq t x y v v'; binOp .neq t v v' : Sem Value).run P w = .ok (.bool b) w) : (execOp a.eval ⟨dst, .binOp .neq t x y u, ty, ps, af, g⟩).run P w = .ok (.value (.bool b)) w := by
  have := h w
  simp only [execOp, f.ev hx, f.ev hy]
  rw [Sem.run_bind, this]
  rfl
theorem E.not (f : Fr n a l) {b : Bool} (hx : evl l x = some (.bool b)) : (execOp a.eval ⟨dst, .unOp .not t x, ty, ps, af, g⟩).run P w = .ok (.value (.bool (!b))) w := by simp [execOp, f.ev hx, Op.unary]
theorem E.conv (f : Fr n a l) {k k' : IntKind} {i r : Int} (ht : P.underlying t = some (.int k)) (hu : P.underlying u = some (.int k')) (hx : evl l x = some (.int k i)) (hr : k'.wrap i = r) : (execOp a.eval ⟨dst, .convert t u x, ty, ps, af, g⟩).run P w = .ok (.value (.int k' r)) w := by
  simp [execOp, f.ev hx, convert, run_underlying ht, run_underlying hu, Conv.intToInt, hr]
theorem E.convV (f : Fr n a l) {v v' : Value} {w' : World} (hx : evl l x = some v) (h : (convert t u v).run P w = .ok v' w') : (execOp a.eval ⟨dst, .convert t u x, ty, ps, af, g⟩).run P w = .ok (.value v') w' := by
  simp [execOp, f.ev hx, h]
theorem E.extract (f : Fr n a l) {vs : Array Value} {i : Nat} {v : Value} (hx : evl l x = some (.tuple vs)) (hi : vs[i]? = some v) : (execOp a.eval ⟨dst, .extract x i, ty, ps, af, g⟩).run P w = .ok (.value v) w := by
  simp [execOp, f.ev hx, Instr.extract, hi]
theorem E.nilCheck (f : Fr n a l) {ad : Addr} (hx : evl l x = some (.pointer (some ad))) : (execOp a.eval ⟨dst, .nilCheck x, ty, ps, af, g⟩).run P w = .ok (.value (.pointer (some ad))) w := by
  simp [execOp, f.ev hx]
theorem E.build (f : Fr n a l) {parts : Array (Nat × Operand)} {vs : List (Nat × Value)} {cs : Array Value} (hx : (parts.map fun p => (p.1, a.eval p.2)).toList = vs) (hb : P.built t vs = some cs) : (execOp a.eval ⟨dst, .build t parts, ty, ps, af, g⟩).run P w = .ok (.value (.agg cs)) w := by
  have hx' : (parts.map fun (i, x) => (i, a.eval x)).toList = vs := hx
  have hr := run_build (P := P) w t (parts.map fun (i, x) => (i, a.eval x)) cs (by rw [hx']; exact hb)
  simp only [execOp]
  rw [Sem.run_bind, hr]
  rfl
theorem E.lenS (f : Fr n a l) {s : ByteArray} (ht : P.underlying t = some .string) (hx : evl l x = some (.string s)) : (execOp a.eval ⟨dst, .call { callee := .builtin .len, args := #[x], argTypes := #[t] }, ty, ps, af, g⟩).run P w = .ok (.value (.int .i64 s.size)) w := by
  simp [execOp, resolve, invoke, builtin, f.ev hx, Builtin.len_, run_underlying ht, goInt]
theorem E.lenL (f : Fr n a l) {e : TypeId} {A : Option Addr} {m c : Nat} (ht : P.underlying t = some (.slice e)) (hx : evl l x = some (.slice A m c)) : (execOp a.eval ⟨dst, .call { callee := .builtin .len, args := #[x], argTypes := #[t] }, ty, ps, af, g⟩).run P w = .ok (.value (.int .i64 m)) w := by
  simp [execOp, resolve, invoke, builtin, f.ev hx, Builtin.len_, run_underlying ht, goInt]
theorem add_plain (b o k : Nat) : (⟨b, o, none⟩ : Addr).add k = ⟨b, o + k, none⟩ := Addr.add_mid b o k
theorem E.fieldAddr (f : Fr n a l) {fs : Array Field} {i : Nat} {fld : Field} {b o s : Nat} (ht : P.underlying t = some (.struct fs)) (hx : evl l x = some (.pointer (some ⟨b, o, none⟩))) (hi : fs[i]? = some fld)
    (hs : (P.info? fld.type).map (·.size) = some (s + 1)) : (execOp a.eval ⟨dst, .fieldAddr t x i, ty, ps, af, g⟩).run P w = .ok (.value (.pointer (some ⟨b, o + fld.offset, none⟩))) w := by
  cases hq : P.info? fld.type with
  | none => simp [hq] at hs
  | some i' =>
    have hs' : i'.size = s + 1 := by simpa [hq] using hs
    simp [execOp, f.ev hx, Instr.fieldAt, run_underlying ht, hi, Instr.sureAddr, fieldPlace, sizeOf, typeInfo, hq, hs', add_plain]
theorem E.indexAddr (f : Fr n a l) {e : TypeId} {b o m c s : Nat} {k : IntKind} {i : Int} (ht : P.underlying t = some (.slice e)) (hs : (P.info? e).map (·.size) = some s) (hx : evl l x = some (.slice (some ⟨b, o, none⟩) m c)) (hy : evl l y = some (.int k i))
    (h0 : 0 ≤ i) (h1 : i < m) : (execOp a.eval ⟨dst, .indexAddr t x y, ty, ps, af, g⟩).run P w = .ok (.value (.pointer (some ⟨b, o + i.toNat * s, none⟩))) w := by
  cases hq : P.info? e with
  | none => simp [hq] at hs
  | some i' =>
    have hs' : i'.size = s := by simpa [hq] using hs
    simp [execOp, f.ev hx, f.ev hy, Instr.indexAt, asIntOf, run_underlying ht, h0, h1, sizeOf, typeInfo, hq, hs', add_plain]
theorem E.load (f : Fr n a l) {ad : Addr} {v : Value} {d : TypeDesc} (ht : P.underlying t = some d) (hd : d.isRow = false) (hx : evl l x = some (.pointer (some ad))) (hc : w.cell? ad = some v) : (execOp a.eval ⟨dst, .load t x, ty, ps, af, g⟩).run P w = .ok (.value v) w := by
  have hagg : (isAgg t).run P w = .ok false w := by
    unfold isAgg
    rw [Sem.run_bind, run_underlying ht w]
    cases d <;> simp_all [TypeDesc.isRow]
  simp [execOp, f.ev hx, Instr.loadAt, Instr.sureAddr, loadVar, hagg, load, Sem.run, hc]
theorem E.loadR (f : Fr n a l) {b o s : Nat} {cs : List Value} {d : TypeDesc} (ht : P.underlying t = some d) (hd : d.isRow = true) (hi : (P.info? t).map (·.size) = some s) (hx : evl l x = some (.pointer (some ⟨b, o, none⟩))) (hc : w.rangeAt b o cs) (hl : cs.length = s) :
    (execOp a.eval ⟨dst, .load t x, ty, ps, af, g⟩).run P w = .ok (.value (.agg cs.toArray)) w := by
  subst hl
  simp only [execOp, f.ev hx]
  rw [Sem.run_bind, run_loadAt_mid w b o t cs d hc ht hd hi]
  rfl
theorem E.store (f : Fr n a l) {b o : Nat} {v old : Value} (hi : (P.info? t).map (·.size) = some 1) (hx : evl l x = some (.pointer (some ⟨b, o, none⟩))) (hy : evl l y = some v) (h1 : v.oneCell' = true) (hc : w.cell? ⟨b, o, none⟩ = some old) (hf : w.frozen? ⟨b, o, none⟩ = false) :
    (execOp a.eval ⟨dst, .store t x y, ty, ps, af, g⟩).run P w = .ok .skip (w.setCell ⟨b, o, none⟩ v) := by
  have hcs : v.cells = #[v] := by cases v <;> first | rfl | cases h1
  have := run_storeCells_cells (P := P) b o [v] 0 w (fun j hj => by simp at hj; subst hj; simp [hc]) (fun j hj => by simp at hj; subst hj; simpa using hf) (fun u hu => by simp at hu; subst hu; exact h1)
  cases hq : P.info? t with
  | none => simp [hq] at hi
  | some i =>
    have hs : i.size = 1 := by simpa [hq] using hi
    simp only [execOp, f.ev hx, f.ev hy]
    simp only [Nat.add_zero, World.setCells] at this
    simp [Instr.storeAt, Instr.sureAddr, storeVar, sizeOf, typeInfo, hq, hcs, hs, this]
theorem E.storeR (f : Fr n a l) {b o : Nat} {cs : Array Value} (hi : (P.info? t).map (·.size) = some cs.size) (hx : evl l x = some (.pointer (some ⟨b, o, none⟩))) (hy : evl l y = some (.agg cs)) (h1 : cs.all (·.oneCell') = true) (ht : w.there b o cs.size) :
    (execOp a.eval ⟨dst, .store t x y, ty, ps, af, g⟩).run P w = .ok .skip (w.setCells b o cs.toList) := by
  simp only [execOp, f.ev hx, f.ev hy]
  rw [Sem.run_bind, run_storeAt_mid w b o t cs ht hi h1]
  rfl
theorem E.alloc (f : Fr n a l) {z : Value} (hz : ∀ w, (zeroValue t).run P w = .ok z w) : (execOp a.eval ⟨dst, .alloc t, ty, ps, af, g⟩).run P w = .ok (.value (.pointer (some ⟨w.heap.size, 0, none⟩))) (w.alloc (.cells z.cells t)) := by
  simp only [execOp, Instr.alloc]
  rw [Sem.run_bind, Sem.run_bind, hz w]
  rfl
theorem E.box (f : Fr n a l) {v : Value} (hx : evl l x = some v) : (execOp a.eval ⟨dst, .box t x, ty, ps, af, g⟩).run P w = .ok (.value (.pointer (some ⟨w.heap.size, 0, none⟩))) (w.alloc (.cells v.cells t)) := by
  simp only [execOp, f.ev hx]
  rfl
theorem E.slL (f : Fr n a l) {e : TypeId} {A : Option Addr} {m c s : Nat} {i j : Int} {ki kj : IntKind} (ht : P.underlying t = some (.slice e)) (hs : (P.info? e).map (·.size) = some s) (hx : evl l x = some (.slice A m c)) (hy : evl l y = some (.int ki i)) (hz : evl l z = some (.int kj j)) (h0 : 0 ≤ i) (h1 : i ≤ j) (h2 : j ≤ c) :
    (execOp a.eval ⟨dst, .slice t x (some y) (some z) none, ty, ps, af, g⟩).run P w = .ok (.value (.slice (if c = i.toNat then A else A.map (·.add (i.toNat * s))) (j.toNat - i.toNat) (c - i.toNat))) w := by
  have e1 : i ≤ ((j.toNat : Nat) : Int) := by omega
  cases hq : P.info? e with
  | none => simp [hq] at hs
  | some i' =>
    have hs' : i'.size = s := by simpa [hq] using hs
    simp [execOp, f.ev hx, f.ev hy, f.ev hz, Instr.sliceAt, Instr.slice, Instr.sliceBounds, Instr.sliceBound, asIntOf, run_underlying ht, h0, h2, e1, show 0 ≤ j by omega, sizeOf, typeInfo, hq, hs']
    intro hh
    omega
theorem E.slLlo (f : Fr n a l) {e : TypeId} {A : Option Addr} {m c s : Nat} {i : Int} {ki : IntKind} (ht : P.underlying t = some (.slice e)) (hs : (P.info? e).map (·.size) = some s) (hx : evl l x = some (.slice A m c)) (hy : evl l y = some (.int ki i)) (h0 : 0 ≤ i) (h1 : i ≤ m) :
    (execOp a.eval ⟨dst, .slice t x (some y) none none, ty, ps, af, g⟩).run P w = .ok (.value (.slice (if c = i.toNat then A else A.map (·.add (i.toNat * s))) (m - i.toNat) (c - i.toNat))) w := by
  cases hq : P.info? e with
  | none => simp [hq] at hs
  | some i' =>
    have hs' : i'.size = s := by simpa [hq] using hs
    simp [execOp, f.ev hx, f.ev hy, Instr.sliceAt, Instr.slice, Instr.sliceBounds, Instr.sliceBound, asIntOf, run_underlying ht, h0, h1, sizeOf, typeInfo, hq, hs']
theorem E.slLhi (f : Fr n a l) {e : TypeId} {A : Option Addr} {m c s : Nat} {i : Int} {ki : IntKind} (ht : P.underlying t = some (.slice e)) (hs : (P.info? e).map (·.size) = some s) (hx : evl l x = some (.slice A m c)) (hy : evl l y = some (.int ki i)) (h0 : 0 ≤ i) (h1 : i ≤ c) :
    (execOp a.eval ⟨dst, .slice t x none (some y) none, ty, ps, af, g⟩).run P w = .ok (.value (.slice A i.toNat c)) w := by
  cases hq : P.info? e with
  | none => simp [hq] at hs
  | some i' =>
    have hs' : i'.size = s := by simpa [hq] using hs
    have e0 : (A.map fun a => a.add 0) = A := by cases A with
      | none => rfl
      | some b => cases b with | mk b o s => simp [Addr.add]
    simp [execOp, f.ev hx, f.ev hy, Instr.sliceAt, Instr.slice, Instr.sliceBounds, Instr.sliceBound, asIntOf, run_underlying ht, h0, h1, sizeOf, typeInfo, hq, hs', e0]
end
section
variable {a : Act} {n : Nat} {l : FL}
theorem args0 (f : Fr n a l) : (#[] : Array Operand).map a.eval = #[] := by simp
theorem args1 (f : Fr n a l) {x0 : Operand} {v0 : Value} (h0 : evl l x0 = some v0) : #[x0].map a.eval = #[v0] := by simp [f.ev h0]
theorem args2 (f : Fr n a l) {x0 x1 : Operand} {v0 v1 : Value} (h0 : evl l x0 = some v0) (h1 : evl l x1 = some v1) : #[x0, x1].map a.eval = #[v0, v1] := by simp [f.ev h0, f.ev h1]
theorem args3 (f : Fr n a l) {x0 x1 x2 : Operand} {v0 v1 v2 : Value} (h0 : evl l x0 = some v0) (h1 : evl l x1 = some v1) (h2 : evl l x2 = some v2) : #[x0, x1, x2].map a.eval = #[v0, v1, v2] := by simp [f.ev h0, f.ev h1, f.ev h2]
theorem args4 (f : Fr n a l) {x0 x1 x2 x3 : Operand} {v0 v1 v2 v3 : Value} (h0 : evl l x0 = some v0) (h1 : evl l x1 = some v1) (h2 : evl l x2 = some v2) (h3 : evl l x3 = some v3) : #[x0, x1, x2, x3].map a.eval = #[v0, v1, v2, v3] := by simp [f.ev h0, f.ev h1, f.ev h2, f.ev h3]
theorem args5 (f : Fr n a l) {x0 x1 x2 x3 x4 : Operand} {v0 v1 v2 v3 v4 : Value} (h0 : evl l x0 = some v0) (h1 : evl l x1 = some v1) (h2 : evl l x2 = some v2) (h3 : evl l x3 = some v3) (h4 : evl l x4 = some v4) : #[x0, x1, x2, x3, x4].map a.eval = #[v0, v1, v2, v3, v4] := by simp [f.ev h0, f.ev h1, f.ev h2, f.ev h3, f.ev h4]
theorem parts0 (f : Fr n a l) : ((#[] : Array (Nat × Operand)).map fun p => (p.1, a.eval p.2)).toList = [] := by simp
theorem parts1 (f : Fr n a l) {i0 : Nat} {x0 : Operand} {v0 : Value} (h0 : evl l x0 = some v0) : (#[(i0, x0)].map fun (p : Nat × Operand) => (p.1, a.eval p.2)).toList = [(i0, v0)] := by simp [f.ev h0]
theorem parts2 (f : Fr n a l) {i0 i1 : Nat} {x0 x1 : Operand} {v0 v1 : Value} (h0 : evl l x0 = some v0) (h1 : evl l x1 = some v1) : (#[(i0, x0), (i1, x1)].map fun (p : Nat × Operand) => (p.1, a.eval p.2)).toList = [(i0, v0), (i1, v1)] := by simp [f.ev h0, f.ev h1]
theorem parts3 (f : Fr n a l) {i0 i1 i2 : Nat} {x0 x1 x2 : Operand} {v0 v1 v2 : Value} (h0 : evl l x0 = some v0) (h1 : evl l x1 = some v1) (h2 : evl l x2 = some v2) : (#[(i0, x0), (i1, x1), (i2, x2)].map fun (p : Nat × Operand) => (p.1, a.eval p.2)).toList = [(i0, v0), (i1, v1), (i2, v2)] := by simp [f.ev h0, f.ev h1, f.ev h2]
theorem parts4 (f : Fr n a l) {i0 i1 i2 i3 : Nat} {x0 x1 x2 x3 : Operand} {v0 v1 v2 v3 : Value} (h0 : evl l x0 = some v0) (h1 : evl l x1 = some v1) (h2 : evl l x2 = some v2) (h3 : evl l x3 = some v3) : (#[(i0, x0), (i1, x1), (i2, x2), (i3, x3)].map fun (p : Nat × Operand) => (p.1, a.eval p.2)).toList = [(i0, v0), (i1, v1), (i2, v2), (i3, v3)] := by simp [f.ev h0, f.ev h1, f.ev h2, f.ev h3]
theorem parts5 (f : Fr n a l) {i0 i1 i2 i3 i4 : Nat} {x0 x1 x2 x3 x4 : Operand} {v0 v1 v2 v3 v4 : Value} (h0 : evl l x0 = some v0) (h1 : evl l x1 = some v1) (h2 : evl l x2 = some v2) (h3 : evl l x3 = some v3) (h4 : evl l x4 = some v4) : (#[(i0, x0), (i1, x1), (i2, x2), (i3, x3), (i4, x4)].map fun (p : Nat × Operand) => (p.1, a.eval p.2)).toList = [(i0, v0), (i1, v1), (i2, v2), (i3, v3), (i4, v4)] := by simp [f.ev h0, f.ev h1, f.ev h2, f.ev h3, f.ev h4]
theorem parts7 (f : Fr n a l) {i0 i1 i2 i3 i4 i5 i6 : Nat} {x0 x1 x2 x3 x4 x5 x6 : Operand} {v0 v1 v2 v3 v4 v5 v6 : Value} (h0 : evl l x0 = some v0) (h1 : evl l x1 = some v1) (h2 : evl l x2 = some v2) (h3 : evl l x3 = some v3) (h4 : evl l x4 = some v4) (h5 : evl l x5 = some v5) (h6 : evl l x6 = some v6) : (#[(i0, x0), (i1, x1), (i2, x2), (i3, x3), (i4, x4), (i5, x5), (i6, x6)].map fun (p : Nat × Operand) => (p.1, a.eval p.2)).toList = [(i0, v0), (i1, v1), (i2, v2), (i3, v3), (i4, v4), (i5, v5), (i6, v6)] := by simp [f.ev h0, f.ev h1, f.ev h2, f.ev h3, f.ev h4, f.ev h5, f.ev h6]
theorem parts9 (f : Fr n a l) {i0 i1 i2 i3 i4 i5 i6 i7 i8 : Nat} {x0 x1 x2 x3 x4 x5 x6 x7 x8 : Operand} {v0 v1 v2 v3 v4 v5 v6 v7 v8 : Value} (h0 : evl l x0 = some v0) (h1 : evl l x1 = some v1) (h2 : evl l x2 = some v2) (h3 : evl l x3 = some v3) (h4 : evl l x4 = some v4) (h5 : evl l x5 = some v5) (h6 : evl l x6 = some v6) (h7 : evl l x7 = some v7) (h8 : evl l x8 = some v8) : (#[(i0, x0), (i1, x1), (i2, x2), (i3, x3), (i4, x4), (i5, x5), (i6, x6), (i7, x7), (i8, x8)].map fun (p : Nat × Operand) => (p.1, a.eval p.2)).toList = [(i0, v0), (i1, v1), (i2, v2), (i3, v3), (i4, v4), (i5, v5), (i6, v6), (i7, v7), (i8, v8)] := by simp [f.ev h0, f.ev h1, f.ev h2, f.ev h3, f.ev h4, f.ev h5, f.ev h6, f.ev h7, f.ev h8]
theorem parts10 (f : Fr n a l) {i0 i1 i2 i3 i4 i5 i6 i7 i8 i9 : Nat} {x0 x1 x2 x3 x4 x5 x6 x7 x8 x9 : Operand} {v0 v1 v2 v3 v4 v5 v6 v7 v8 v9 : Value} (h0 : evl l x0 = some v0) (h1 : evl l x1 = some v1) (h2 : evl l x2 = some v2) (h3 : evl l x3 = some v3) (h4 : evl l x4 = some v4) (h5 : evl l x5 = some v5) (h6 : evl l x6 = some v6) (h7 : evl l x7 = some v7) (h8 : evl l x8 = some v8) (h9 : evl l x9 = some v9) : (#[(i0, x0), (i1, x1), (i2, x2), (i3, x3), (i4, x4), (i5, x5), (i6, x6), (i7, x7), (i8, x8), (i9, x9)].map fun (p : Nat × Operand) => (p.1, a.eval p.2)).toList = [(i0, v0), (i1, v1), (i2, v2), (i3, v3), (i4, v4), (i5, v5), (i6, v6), (i7, v7), (i8, v8), (i9, v9)] := by simp [f.ev h0, f.ev h1, f.ev h2, f.ev h3, f.ev h4, f.ev h5, f.ev h6, f.ev h7, f.ev h8, f.ev h9]
end
end Go.Hub
namespace Go.Hub
open Go.RowKit
theorem wantedN {ops : Array Oper} {a : Act} {dst : Option Nat} {op : Op} {ty : TypeId} {ps : String} {af : Array Edge} : Region.wanted ⟨dst, op, ty, ps, af, none⟩ (yielded ops a.tmps) = true := rfl
theorem Fr.yes {n : Nat} {a : Act} {l : FL} {ops : Array Oper} (f : Fr n a l) {j dj : Nat} {b : Bool} {dst : Option Nat} {op : Op} {ty : TypeId} {ps : String} {af : Array Edge} (hj : (ops[j]?).bind (·.dst) = some dj) (hb : look l dj = some (.bool b)) :
    Region.wanted ⟨dst, op, ty, ps, af, some (j, b)⟩ (yielded ops a.tmps) = true := by simp [Region.wanted, f.yield hj hb]
theorem Fr.noT {n : Nat} {a : Act} {l : FL} {ops : Array Oper} (f : Fr n a l) {j dj : Nat} {dst : Option Nat} {op : Op} {ty : TypeId} {ps : String} {af : Array Edge} (hj : (ops[j]?).bind (·.dst) = some dj) (hb : look l dj = some (.bool false)) :
    Region.wanted ⟨dst, op, ty, ps, af, some (j, true)⟩ (yielded ops a.tmps) = false := by simp [Region.wanted, f.yield hj hb]
theorem Fr.noU {n : Nat} {a : Act} {l : FL} {ops : Array Oper} (f : Fr n a l) {j dj : Nat} {b : Bool} {dst : Option Nat} {op : Op} {ty : TypeId} {ps : String} {af : Array Edge} (hj : (ops[j]?).bind (·.dst) = some dj) (hb : look l dj = some undef) :
    Region.wanted ⟨dst, op, ty, ps, af, some (j, b)⟩ (yielded ops a.tmps) = false := by
  have hy : yielded ops a.tmps j = none := by
    unfold yielded
    rw [hj]
    simp [f.slot dj _ hb, undef]
  simp [Region.wanted, hy]
theorem Fr.noF {n : Nat} {a : Act} {l : FL} {ops : Array Oper} (f : Fr n a l) {j dj : Nat} {dst : Option Nat} {op : Op} {ty : TypeId} {ps : String} {af : Array Edge} (hj : (ops[j]?).bind (·.dst) = some dj) (hb : look l dj = some (.bool true)) :
    Region.wanted ⟨dst, op, ty, ps, af, some (j, false)⟩ (yielded ops a.tmps) = false := by simp [Region.wanted, f.yield hj hb]
theorem run_callV {P : Program} {a : Act} {w : World} {n : Nat} {l : FL} {fn : Nat} {x : Operand} {xs : Array Operand} {ats : Array TypeId} {dst : Option Nat} {ty : TypeId} {ps : String} {af : Array Edge} {g : Option (Nat × Bool)} {args cap : Array Value}
    (f : Fr n a l) (hf : evl l x = some (.func (.func fn) #[] cap)) (hc : ∀ args w, (callFunc fn args).run P w = .ok (.enter fn args) w) (hx : xs.map a.eval = args) :
    (execOp a.eval ⟨dst, .call { callee := .value x, args := xs, argTypes := ats }, ty, ps, af, g⟩).run P w = .ok (.enter fn (args ++ cap)) w := by
  simp [execOp, resolve, f.ev hf, Deferred.ofValue, invoke, hx, hc]
theorem cv1_0 {P : Program} {a : Act} {w : World} {n : Nat} {l : FL} {fn : Nat} {x : Operand} {ats : Array TypeId} {dst : Option Nat} {ty : TypeId} {ps : String} {af : Array Edge} {g : Option (Nat × Bool)} {x0 : Operand} {v0 : Value} (f : Fr n a l) (hf : evl l x = some (.func (.func fn) #[] #[])) (hc : ∀ args w, (callFunc fn args).run P w = .ok (.enter fn args) w) (h0 : evl l x0 = some v0) :
    (execOp a.eval ⟨dst, .call { callee := .value x, args := #[x0], argTypes := ats }, ty, ps, af, g⟩).run P w = .ok (.enter fn #[v0]) w := by
  have := run_callV (dst := dst) (ats := ats) (ty := ty) (ps := ps) (af := af) (g := g) (w := w) (xs := #[x0]) f hf hc rfl
  simpa [f.ev h0] using this
section
variable {w w' : World} {g : Nat} {t : TypeId} {cs : Array Value} {L : List Nat}
theorem Blk.cl (h : Blk w g t cs) {i : Nat} {v : Value} (hv : cs.toList[i]? = some v) : w.cell? ⟨g, i, none⟩ = some v := h.cell_ (by simpa using hv)
theorem Blk.range (h : Blk w g t cs) : w.rangeAt g 0 cs.toList := fun j v hv => by
  rw [Nat.zero_add]
  exact h.cell_ (by simpa using hv)
theorem Blk.there (h : Blk w g t cs) {o n : Nat} (hn : o + n ≤ cs.size) : w.there g o n := fun j hj => by
  refine ⟨?_, h.frozen _⟩
  rw [h.cell]
  simp
  omega
structure Newb (w w' : World) (g : Nat) (t : TypeId) (cs : Array Value) : Prop where
  blk : Blk w' g t cs
  kept : Kept [] w w'
  lo : w.heap.size ≤ g
theorem newb (w : World) (t : TypeId) (cs : Array Value) : Newb w (w.alloc (.cells cs t)) w.heap.size t cs := ⟨Blk.new w t cs, (Kept.refl [] w).alloc _, Nat.le_refl _⟩
theorem setCells_blk (h : Blk w g t cs) (cs' : Array Value) (hs : cs'.size = cs.size) : Blk (w.setCells g 0 cs'.toList) g t cs' := by
  obtain ⟨cur, h1, h2, h3, h4⟩ := setCells_block g cs'.toList 0 w cs t (0, 0) h
  have : cur = cs' := by
    apply Array.ext (by omega)
    intro i hi hi'
    have := h4 i cs'[i] (by simp [hi']) (by omega)
    rw [Nat.zero_add] at this
    rw [Array.getElem?_eq_getElem hi] at this
    simpa using this
  rw [this] at h1
  exact h1
theorem setCells_kept (w : World) (g o : Nat) (vs : List Value) : Kept [g] w (w.setCells g o vs) := by
  obtain ⟨b1, b2, b3, b4⟩ := setCells_facts g vs o w
  exact ⟨b1, b2, b3, by omega, fun k hk hn => setCells_other g _ _ w k (by simpa using hn)⟩
theorem setCell_kept (w : World) (g o : Nat) (v : Value) : Kept [g] w (w.setCell ⟨g, o, none⟩ v) := (Kept.refl [g] w).setCell (p := ⟨g, o, none⟩) (by simp) v
end
section
variable {P : Program} {ops : Array Oper} {rest : List Oper} {a : Act} {w : World} {Q : Exit → Act → World → Prop} {n d : Nat} {l : FL} {v : Value} {dst : Option Nat} {ty : TypeId} {ps : String} {af : Array Edge} {gd : Option (Nat × Bool)} {x y : Operand} {t : TypeId}
theorem L.alloc (f : Fr n a l) (hw : Region.wanted ⟨some d, .alloc t, ty, ps, af, gd⟩ (yielded ops a.tmps) = true) (hn : d < n) {z : Value} (hz : ∀ w, (zeroValue t).run P w = .ok z w) {cs : Array Value} (hcs : z.cells = cs)
    (hK : ∀ a' w' g, Newb w w' g t cs → Fr n a' ((d, .pointer (some ⟨g, 0, none⟩)) :: l) → wpList P ops Q rest a' w') : wpList P ops Q (⟨some d, .alloc t, ty, ps, af, gd⟩ :: rest) a w :=
  L.val f hw rfl hn (E.alloc f hz) fun a' f' => hK a' _ _ (hcs ▸ newb w t _) f'
theorem L.box (f : Fr n a l) (hw : Region.wanted ⟨some d, .box t x, ty, ps, af, gd⟩ (yielded ops a.tmps) = true) (hn : d < n) (hx : evl l x = some v) {cs : Array Value} (hcs : v.cells = cs)
    (hK : ∀ a' w' g, Newb w w' g t cs → Fr n a' ((d, .pointer (some ⟨g, 0, none⟩)) :: l) → wpList P ops Q rest a' w') : wpList P ops Q (⟨some d, .box t x, ty, ps, af, gd⟩ :: rest) a w :=
  L.val f hw rfl hn (E.box f hx) fun a' f' => hK a' _ _ (hcs ▸ newb w t _) f'
theorem L.store (f : Fr n a l) (hw : Region.wanted ⟨none, .store t x y, ty, ps, af, gd⟩ (yielded ops a.tmps) = true) (hi : (P.info? t).map (·.size) = some 1) {g o : Nat} {e : TypeId} {cs : Array Value} (hx : evl l x = some (.pointer (some ⟨g, o, none⟩))) (hy : evl l y = some v) (h1 : v.oneCell' = true)
    (B : Blk w g e cs) (ho : o < cs.size) (hK : ∀ a' w', Fr n a' l → Blk w' g e (cs.setIfInBounds o v) → Kept [g] w w' → wpList P ops Q rest a' w') : wpList P ops Q (⟨none, .store t x y, ty, ps, af, gd⟩ :: rest) a w :=
  L.act f hw rfl (E.store f hi hx hy h1 (B.cell_ (Array.getElem?_eq_getElem ho)) (B.frozen o)) fun a' f' => hK a' _ f' (B.set_ o v) (setCell_kept w g o v)
theorem L.storeR (f : Fr n a l) (hw : Region.wanted ⟨none, .store t x y, ty, ps, af, gd⟩ (yielded ops a.tmps) = true) {g : Nat} {e : TypeId} {cs cs' : Array Value} {s : Nat} (hi : (P.info? t).map (·.size) = some s) (hx : evl l x = some (.pointer (some ⟨g, 0, none⟩))) (hy : evl l y = some (.agg cs')) (h1 : cs'.toList.all (·.oneCell') = true)
    (B : Blk w g e cs) (hs : cs'.size = cs.size) (hl : cs'.size = s) (hK : ∀ a' w', Fr n a' l → Blk w' g e cs' → Kept [g] w w' → wpList P ops Q rest a' w') : wpList P ops Q (⟨none, .store t x y, ty, ps, af, gd⟩ :: rest) a w :=
  L.act f hw rfl (E.storeR f (hl ▸ hi) hx hy (by simpa using h1) (B.there (by omega))) fun a' f' => hK a' _ f' (setCells_blk B cs' hs) (setCells_kept w g 0 _)
theorem E.loadB (f : Fr n a l) {g : Nat} {e : TypeId} {cs : Array Value} {d : TypeDesc} {s : Nat} (ht : P.underlying t = some d) (hd : d.isRow = true) (hi : (P.info? t).map (·.size) = some s) (hx : evl l x = some (.pointer (some ⟨g, 0, none⟩))) (B : Blk w g e cs) (hl : cs.size = s) :
    (execOp a.eval ⟨dst, .load t x, ty, ps, af, gd⟩).run P w = .ok (.value (.agg cs)) w := by
  have := E.loadR (P := P) (w := w) (dst := dst) (ty := ty) (ps := ps) (af := af) (g := gd) (t := t) f ht hd (cs := cs.toList) hi hx B.range (by simpa using hl)
  simpa using this
end
section
variable {P : Program} {ops : Array Oper} {Q : Exit → Act → World → Prop} {md : Region.Mode} {S : World → Prop} {a : Act} {w : World} {n d : Nat} {l : FL} {v : Value} {fuel : Nat} {listed : Array Bool} {ty : TypeId} {ps : String} {af : Array Edge} {gd : Option (Nat × Bool)} {x y : Operand} {t : TypeId}
theorem R.store (i : Nat) (f : Fr n a l) (hi : ops[i]? = some ⟨none, .store t x y, ty, ps, af, gd⟩) (hr : Region.ready md ops listed = [i]) (hw : Region.wanted ⟨none, .store t x y, ty, ps, af, gd⟩ (yielded ops a.tmps) = true) (hs : (P.info? t).map (·.size) = some 1) {g o : Nat} {e : TypeId} {cs : Array Value} (hx : evl l x = some (.pointer (some ⟨g, o, none⟩))) (hy : evl l y = some v) (h1 : v.oneCell' = true)
    (B : Blk w g e cs) (ho : o < cs.size) (hS : ∀ w', Kept [g] w w' → S w') (hK : ∀ a' w', Fr n a' l → Blk w' g e (cs.setIfInBounds o v) → Kept [g] w w' → S w' → wpAnyH P md ops Q S fuel (listed.setIfInBounds i true) a' w') : wpAnyH P md ops Q S (fuel + 1) listed a w :=
  R.act i f hi rfl hr hw (E.store f hs hx hy h1 (B.cell_ (Array.getElem?_eq_getElem ho)) (B.frozen o)) (hS _ (setCell_kept w g o v)) fun a' f' => hK a' _ f' (B.set_ o v) (setCell_kept w g o v) (hS _ (setCell_kept w g o v))
end
end Go.Hub
namespace Go.Hub
open Go.RowKit
def Sl (w : World) (A : Option Addr) (n size : Nat) (xs : List Value) : Prop :=
  xs.length = n * size ∧ (0 < n → ∃ b off, A = some ⟨b, off, none⟩ ∧ b < w.heap.size ∧ ∀ j u, xs[j]? = some u → w.cell? ⟨b, off + j, none⟩ = some u)
def Far (A : Option Addr) (L : List Nat) : Prop := ∀ a, A = some a → a.block ∉ L
section
variable {w w' : World} {A : Option Addr} {n size : Nat} {xs : List Value} {L : List Nat}
theorem Sl.nil (w : World) (A : Option Addr) (size : Nat) : Sl w A 0 size [] := ⟨by simp, fun h => absurd h (by omega)⟩
theorem Sl.keptF (h : Sl w A n size xs) (hk : Kept L w w') (hf : Far A L) : Sl w' A n size xs :=
  ⟨h.1, fun hn => by
    obtain ⟨b, off, e, hb, hc⟩ := h.2 hn
    refine ⟨b, off, e, Nat.lt_of_lt_of_le hb hk.size, fun j u hu => ?_⟩
    rw [hk.cell (p := ⟨b, off + j, none⟩) hb (hf ⟨b, off, none⟩ e)]
    exact hc j u hu⟩
theorem Far.nil (A : Option Addr) : Far A [] := fun _ _ => by simp
theorem Sl.kept (h : Sl w A n size xs) (hk : Kept [] w w') : Sl w' A n size xs := h.keptF hk (Far.nil A)
theorem Sl.of_own {e : TypeId} {c : Nat} (h : Own w e size (.slice A n c) n xs) : Sl w A n size xs := by
  refine ⟨h.1, fun hn => ?_⟩
  rcases h.2 with ⟨_, h0⟩ | ⟨g, off, cap, cur, hv, hg, _, _, _, hc⟩
  · omega
  · injection hv with hA
    refine ⟨g, off, hA, (Array.getElem?_eq_some_iff.1 hg).1, fun j x hx => ?_⟩
    rw [cell_of_row w g _ cur e (0, 0) hg]
    exact hc j _ hx
theorem Sl.rds (h : Sl w A n size xs) : Rds w w.heap.size size A n xs := ⟨h.1, h.2⟩
theorem Sl.of_rds (h : Rds w w.heap.size size A n xs) : Sl w A n size xs := ⟨h.1, h.2⟩
theorem Sl.addr (h : Sl w A n size xs) (hn : 0 < n) : ∃ b off, A = some ⟨b, off, none⟩ := by
  obtain ⟨b, off, e, _⟩ := h.2 hn
  exact ⟨b, off, e⟩
theorem Sl.cell (h : Sl w A n size xs) {b off j : Nat} {u : Value} (hn : 0 < n) (hA : A = some ⟨b, off, none⟩) (hu : xs[j]? = some u) : w.cell? ⟨b, off + j, none⟩ = some u := by
  obtain ⟨b', off', e, _, hc⟩ := h.2 hn
  rw [hA] at e
  injection e with e
  injection e with e1 e2
  subst e1 e2
  exact hc j u hu
theorem Sl.row (h : Sl w A n size xs) {b off i : Nat} {cs : List Value} (hn : 0 < n) (hA : A = some ⟨b, off, none⟩) (hu : ∀ j u, cs[j]? = some u → xs[i * size + j]? = some u) : w.rangeAt b (off + i * size) cs := fun j u hj => by
  rw [Nat.add_assoc]
  exact h.cell hn hA (hu j u hj)
end
section
variable {P : Program} {a : Act} {w : World} {n : Nat} {l : FL} {dst : Option Nat} {ty : TypeId} {ps : String} {af : Array Edge} {g : Option (Nat × Bool)} {x y : Operand} {t : TypeId}
theorem E.indexA (f : Fr n a l) {e : TypeId} {A : Option Addr} {b o m c s : Nat} {k : IntKind} {i : Int} (hA : A = some ⟨b, o, none⟩) (ht : P.underlying t = some (.slice e)) (hs : (P.info? e).map (·.size) = some s) (hx : evl l x = some (.slice A m c)) (hy : evl l y = some (.int k i))
    (h0 : 0 ≤ i) (h1 : i < m) : (execOp a.eval ⟨dst, .indexAddr t x y, ty, ps, af, g⟩).run P w = .ok (.value (.pointer (some ⟨b, o + i.toNat * s, none⟩))) w := by
  subst hA
  exact E.indexAddr f ht hs hx hy h0 h1
theorem E.loadA (f : Fr n a l) {b o s : Nat} {cs : Array Value} {d : TypeDesc} (ht : P.underlying t = some d) (hd : d.isRow = true) (hi : (P.info? t).map (·.size) = some s) (hx : evl l x = some (.pointer (some ⟨b, o, none⟩))) (hc : w.rangeAt b o cs.toList) (hl : cs.size = s) :
    (execOp a.eval ⟨dst, .load t x, ty, ps, af, g⟩).run P w = .ok (.value (.agg cs)) w := by
  have := E.loadR (P := P) (w := w) (dst := dst) (ty := ty) (ps := ps) (af := af) (g := g) (t := t) f ht hd (cs := cs.toList) hi hx hc (by simpa using hl)
  simpa using this
end
section
variable {M : Type} (cell : M → List Value) (size : Nat) (hs : ∀ m, (cell m).length = size)
include hs
theorem flat_at (l : List M) (i : Nat) (m : M) (h : l[i]? = some m) (j : Nat) (u : Value) (hu : (cell m)[j]? = some u) : (l.flatMap cell)[i * size + j]? = some u := by
  induction l generalizing i with
  | nil => simp at h
  | cons a r ih =>
    have hj : j < size := by
      have := (List.getElem?_eq_some_iff.1 hu).1
      rwa [hs] at this
    match i with
    | 0 =>
      simp at h
      subst h
      simp only [List.flatMap_cons, Nat.zero_mul, Nat.zero_add]
      rw [List.getElem?_append_left (by rw [hs]; exact hj)]
      exact hu
    | i + 1 =>
      have := ih i (by simpa using h)
      simp only [List.flatMap_cons]
      rw [List.getElem?_append_right (by rw [hs, Nat.add_mul]; omega), hs, Nat.add_mul, Nat.one_mul]
      rw [show i * size + size + j - size = i * size + j from by omega]
      exact this
end
end Go.Hub
namespace Go.Hub
open Go.RowKit
section
variable {P : Program} {ops : Array Oper} {Q : Exit → Act → World → Prop} {md : Region.Mode} {S : World → Prop} {a : Act} {w w' : World} {n d : Nat} {l : FL} {v : Value} {o : Oper} {K : Act → World → Prop}
theorem O.val {i : Nat} (f : Fr n a l) (hi : ops[i]? = some o) (hd : o.dst = some d) (hn : d < n) (hw : Region.wanted o (yielded ops a.tmps) = true)
    (hv : (execOp a.eval o).run P w = .ok (.value v) w') (hS : S w') (hK : ∀ a', Fr n a' ((d, v) :: l) → K a' w') : wpOp P ops Q i (fun a w => S w ∧ K a w) a w := by
  unfold wpOp
  simp only [hi, hw, if_true]
  refine .inl ?_
  unfold Oper.wp
  rw [hv]
  show S w' ∧ K (a.put o.dst v) w'
  rw [hd]
  exact ⟨hS, hK _ (f.put d v hn)⟩
theorem R.one (i : Nat) {fuel : Nat} {listed : Array Bool} (hr : Region.ready md ops listed = [i]) (h : wpOp P ops Q i (fun a w => S w ∧ wpAnyH P md ops Q S fuel (listed.setIfInBounds i true) a w) a w) : wpAnyH P md ops Q S (fuel + 1) listed a w :=
  wpAnyH_all hr (by simp) fun j hj => by
    simp only [List.mem_singleton] at hj
    subst hj
    exact h
theorem R.two (i j : Nat) {fuel : Nat} {listed : Array Bool} (hr : Region.ready md ops listed = [i, j]) (h : wpOp P ops Q i (fun a w => S w ∧ wpAnyH P md ops Q S fuel (listed.setIfInBounds i true) a w) a w)
    (h' : wpOp P ops Q j (fun a w => S w ∧ wpAnyH P md ops Q S fuel (listed.setIfInBounds j true) a w) a w) : wpAnyH P md ops Q S (fuel + 1) listed a w :=
  wpAnyH_all hr (by simp) fun k hk => by
    simp only [List.mem_cons, List.not_mem_nil, or_false] at hk
    rcases hk with rfl | rfl
    · exact h
    · exact h'
end
section
variable {P : Program} {ops : Array Oper} {rest : List Oper} {a : Act} {w : World} {Q : Exit → Act → World → Prop} {n d : Nat} {l : FL} {v : Value} {ty : TypeId} {ps : String} {af : Array Edge} {gd : Option (Nat × Bool)} {x y : Operand} {t : TypeId}
theorem E.eqlNil {dst : Option Nat} (f : Fr n a l) {e : TypeId} {A : Option Addr} {m c : Nat} {u : TypeId} (ht : P.underlying t = some (.slice e)) (hx : evl l x = some (.slice A m c)) (hy : evl l y = some (.slice none 0 0)) : (execOp a.eval ⟨dst, .binOp .eql t x y u, ty, ps, af, gd⟩).run P w = .ok (.value (.bool A.isNone)) w :=
  E.eqlV f hx hy fun w => by
    rw [Sem.run_bind]
    have := Lib.run_eql_slice_nil (P := P) w t e A m c 0 0 ht
    simp only [eqGuard]
    exact this
theorem E.buildSlice {dst : Option Nat} (f : Fr n a l) {parts : Array (Nat × Operand)} {vs : List (Nat × Value)} {e len sz : Nat} {cells : Array Value} {z : Value} (hx : (parts.map fun p => (p.1, a.eval p.2)).toList = vs) (hu : P.underlying t = some (.slice e))
    (hi : (P.info? e).map (fun i => (i.zero, i.size)) = some (some z, sz)) (hs : Nat.ble (len * sz) 16777216 = true) (hp : Nat.beq (len * sz) 0 = false) (hf : Instr.fill (fun i => some (i * sz, sz)) ((Array.range (len * sz)).map fun j => z.cells[j % z.cells.size]!) vs = some cells) :
    (execOp a.eval ⟨dst, .buildSlice t len parts, ty, ps, af, gd⟩).run P w = .ok (.value (.slice (some ⟨w.heap.size, 0, none⟩) len len)) (w.alloc (.cells cells e)) := by
  cases hq : P.info? e with
  | none => simp [hq] at hi
  | some ie =>
    simp [hq] at hi
    obtain ⟨h1, h2⟩ := hi
    subst h2
    have hx' : (parts.map fun (i, x) => (i, a.eval x)).toList = vs := hx
    have hle := Nat.le_of_ble_eq_true hs
    have hr := run_buildSlice (P := P) w t e len (parts.map fun (i, x) => (i, a.eval x)) cells ie z hu hq h1 (by omega) (fun h0 => by rw [h0] at hp; simp at hp) (by rw [hx']; exact hf)
    simp only [execOp]
    rw [Sem.run_bind, hr]
    rfl
theorem E.buildNone {dst : Option Nat} (f : Fr n a l) {e : TypeId} {sz : Nat} (hu : P.underlying t = some (.slice e)) (hi : (P.info? e).map (·.size) = some sz) :
    (execOp a.eval ⟨dst, .buildSlice t 0 #[], ty, ps, af, gd⟩).run P w = .ok (.value (.slice (some ⟨w.heap.size, 0, none⟩) 0 0)) (w.alloc (.cells #[] e)) := by
  cases hq : P.info? e with
  | none => simp [hq] at hi
  | some ie =>
    have e0 : ∀ z : Array Value, (Array.range 0).map (fun x => z[x % z.size]!) = #[] := fun z => by simp
    have e1 : (Array.range 0).map (fun _ => (default : Value)) = #[] := by simp [Array.range]
    simp [execOp, Instr.buildSlice, run_underlying hu, sizeOf, typeInfo, hq, Instr.fill, newRow]
    rw [e1]
theorem L.buildSlice (f : Fr n a l) {parts : Array (Nat × Operand)} {len : Nat} (hw : Region.wanted ⟨some d, .buildSlice t len parts, ty, ps, af, gd⟩ (yielded ops a.tmps) = true) (hn : d < n) {vs : List (Nat × Value)} {e sz : Nat} {cells : Array Value} {z : Value} (hx : (parts.map fun p => (p.1, a.eval p.2)).toList = vs) (hu : P.underlying t = some (.slice e))
    (hi : (P.info? e).map (fun i => (i.zero, i.size)) = some (some z, sz)) (hs : Nat.ble (len * sz) 16777216 = true) (hp : Nat.beq (len * sz) 0 = false) (hf : Instr.fill (fun i => some (i * sz, sz)) ((Array.range (len * sz)).map fun j => z.cells[j % z.cells.size]!) vs = some cells)
    (hK : ∀ a' w' g, Newb w w' g e cells → Fr n a' ((d, .slice (some ⟨g, 0, none⟩) len len) :: l) → wpList P ops Q rest a' w') : wpList P ops Q (⟨some d, .buildSlice t len parts, ty, ps, af, gd⟩ :: rest) a w :=
  L.val f hw rfl hn (E.buildSlice f hx hu hi hs hp hf) fun a' f' => hK a' _ _ (newb w e _) f'
theorem L.buildNone (f : Fr n a l) (hw : Region.wanted ⟨some d, .buildSlice t 0 #[], ty, ps, af, gd⟩ (yielded ops a.tmps) = true) (hn : d < n) {e : TypeId} {sz : Nat} (hu : P.underlying t = some (.slice e)) (hi : (P.info? e).map (·.size) = some sz)
    (hK : ∀ a' w' g, Newb w w' g e #[] → Fr n a' ((d, .slice (some ⟨g, 0, none⟩) 0 0) :: l) → wpList P ops Q rest a' w') : wpList P ops Q (⟨some d, .buildSlice t 0 #[], ty, ps, af, gd⟩ :: rest) a w :=
  L.val f hw rfl hn (E.buildNone f hu hi) fun a' f' => hK a' _ _ (newb w e _) f'
theorem Newb.own {w w' : World} {g : Nat} {e : TypeId} {cs : Array Value} (h : Newb w w' g e cs) {k size : Nat} (hs : cs.size = k * size) (hk : k ≤ maxLen) : Own w' e size (.slice (some ⟨g, 0, none⟩) k k) k cs.toList :=
  ⟨by simpa using hs, .inr ⟨g, 0, k, cs, rfl, h.blk, Nat.le_refl _, hk, by omega, fun j u hu => by rw [Nat.zero_add]; simpa using hu⟩⟩
structure App (w w' : World) (e : TypeId) (size : Nat) (A : Option Addr) (k c : Nat) (xs news : List Value) (m : Nat) (A' : Option Addr) (c' : Nat) : Prop where
  own : Own w' e size (.slice A' (k + m) c') (k + m) (xs ++ news)
  kept : Kept (Value.slice A k c).ownBlock.toList w w'
  where_ : ∀ b, A'.map (·.block) = some b → A.map (·.block) = some b ∨ w.heap.size ≤ b
theorem E.append {dst : Option Nat} (f : Fr n a l) {e size bytes k c m c2 : Nat} {z : Value} {A A2 : Option Addr} {xs news : List Value} (ht : P.underlying t = some (.slice e)) (hi : (P.info? e).map (fun i => (i.zero, i.size, i.bytes)) = some (some z, size, bytes)) (hzs : z.cells.size = size) (hsz : Nat.blt 0 size = true)
    (hx : evl l x = some (.slice A k c)) (hy : evl l y = some (.slice A2 m c2)) (hown : Own w e size (.slice A k c) k xs) (hr : Sl w A2 m size news) (h1 : ∀ u ∈ news, u.oneCell' = true) (h63 : k + m ≤ maxLen) (hb : (k + m) * bytes ≤ 140737488355328) :
    ∃ A' c' w', (execOp a.eval ⟨dst, .call { callee := .builtin .append, args := #[x, y], argTypes := #[t, t] }, ty, ps, af, gd⟩).run P w = .ok (.value (.slice A' (k + m) c')) w' ∧ App w w' e size A k c xs news m A' c' := by
  obtain ⟨ie, hie, h2, h3, h4⟩ := info_parts hi
  obtain ⟨v', w', hrun, ho, hk, hwh⟩ := append_own (P := P) w t ty e ie z size bytes ht hie h2 h3 h4 hzs (by simpa using hsz) (.slice A k c) k xs hown w.heap.size A2 m c2 news hr.rds h1 h63 hb
  obtain ⟨A', c', rfl, _⟩ := ho.form
  refine ⟨A', c', w', ?_, ho, hk, fun b hb => ?_⟩
  · simp only [execOp, resolve, invoke, builtin, Sem.run_bind, Sem.run_pure, Result.andThen_ok, List.map_toArray, List.map_cons, List.map_nil, f.ev hx, f.ev hy, hrun]
  · have := hwh b (by cases A' <;> simp_all [Value.ownBlock])
    rcases this with h | h
    · exact .inl (by cases A <;> simp_all [Value.ownBlock])
    · exact .inr h
theorem L.append (f : Fr n a l) (hw : Region.wanted ⟨some d, .call { callee := .builtin .append, args := #[x, y], argTypes := #[t, t] }, ty, ps, af, gd⟩ (yielded ops a.tmps) = true) (hn : d < n) {e size bytes k c m c2 : Nat} {z : Value} {A A2 : Option Addr} {xs news : List Value} (ht : P.underlying t = some (.slice e)) (hi : (P.info? e).map (fun i => (i.zero, i.size, i.bytes)) = some (some z, size, bytes)) (hzs : z.cells.size = size) (hsz : Nat.blt 0 size = true)
    (hx : evl l x = some (.slice A k c)) (hy : evl l y = some (.slice A2 m c2)) (hown : Own w e size (.slice A k c) k xs) (hr : Sl w A2 m size news) (h1 : ∀ u ∈ news, u.oneCell' = true) (h63 : k + m ≤ maxLen) (hb : (k + m) * bytes ≤ 140737488355328)
    (hK : ∀ a' w' A' c', App w w' e size A k c xs news m A' c' → Fr n a' ((d, .slice A' (k + m) c') :: l) → wpList P ops Q rest a' w') : wpList P ops Q (⟨some d, .call { callee := .builtin .append, args := #[x, y], argTypes := #[t, t] }, ty, ps, af, gd⟩ :: rest) a w := by
  obtain ⟨A', c', w', hrun, happ⟩ := E.append (dst := some d) (ty := ty) (ps := ps) (af := af) (gd := gd) f ht hi hzs hsz hx hy hown hr h1 h63 hb
  exact L.val f hw rfl hn hrun fun a' f' => hK a' w' A' c' happ f'
end
structure Fresh (w w' : World) (e size : Nat) (A : Option Addr) (n c : Nat) (xs : List Value) : Prop where
  own : Own w' e size (.slice A n c) n xs
  lo : ∀ b, A.map (·.block) = some b → w.heap.size ≤ b
section
variable {w w' w'' : World} {e size k c m c' n : Nat} {A A' : Option Addr} {xs news : List Value}
theorem Fresh.nil (w w' : World) (e size : Nat) : Fresh w w' e size none 0 0 [] := ⟨Own.nil _ _ _, fun b h => by simp at h⟩
theorem Fresh.sl (h : Fresh w w' e size A n c xs) : Sl w' A n size xs := Sl.of_own h.own
theorem own_block (A : Option Addr) (n c : Nat) (b : Nat) : (Value.slice A n c).ownBlock = some b ↔ A.map (·.block) = some b := by cases A <;> simp [Value.ownBlock]
theorem Fresh.kept {L : List Nat} (h : Fresh w w' e size A n c xs) (hk : Kept L w' w'') (hf : ∀ b, A.map (·.block) = some b → b ∉ L) : Fresh w w'' e size A n c xs :=
  ⟨h.own.kept hk fun b hb => hf b ((own_block A n c b).1 hb), h.lo⟩
theorem Fresh.kept0 (h : Fresh w w' e size A n c xs) (hk : Kept [] w' w'') : Fresh w w'' e size A n c xs := h.kept hk (by simp)
theorem Fresh.lower {w0 : World} (h : Fresh w w' e size A n c xs) (hs : w0.heap.size ≤ w.heap.size) : Fresh w0 w' e size A n c xs := ⟨h.own, fun b hb => Nat.le_trans hs (h.lo b hb)⟩
theorem App.next {w0 : World} (h : App w w' e size A k c xs news m A' c') (hf : Fresh w0 w e size A k c xs) (hs : w0.heap.size ≤ w.heap.size) : Fresh w0 w' e size A' (k + m) c' (xs ++ news) :=
  ⟨h.own, fun b hb => by
    rcases h.where_ b hb with h1 | h1
    · exact hf.lo b h1
    · omega⟩
theorem App.grow {w0 : World} {L : List Nat} (h : App w w' e size A k c xs news m A' c') (hf : Fresh w0 w e size A k c xs) (hk : Kept L w0 w) : Kept L w0 w' :=
  hk.trans h.kept fun x hx hlt => by
    have := hf.lo x ((own_block A k c x).1 (by simpa using hx))
    omega
end
section
variable {P : Program} {ops : Array Oper} {Q : Exit → Act → World → Prop} {S : World → Prop} {a : Act} {w : World} {n d : Nat} {l : FL} {K : Act → World → Prop} {ty : TypeId} {ps : String} {af : Array Edge} {gd : Option (Nat × Bool)} {x y : Operand} {t : TypeId}
theorem O.append {i : Nat} (f : Fr n a l) (ho : ops[i]? = some ⟨some d, .call { callee := .builtin .append, args := #[x, y], argTypes := #[t, t] }, ty, ps, af, gd⟩) (hw : Region.wanted ⟨some d, .call { callee := .builtin .append, args := #[x, y], argTypes := #[t, t] }, ty, ps, af, gd⟩ (yielded ops a.tmps) = true) (hn : d < n) {e size bytes k c m c2 : Nat} {z : Value} {A A2 : Option Addr} {xs news : List Value} (ht : P.underlying t = some (.slice e)) (hi : (P.info? e).map (fun i => (i.zero, i.size, i.bytes)) = some (some z, size, bytes)) (hzs : z.cells.size = size) (hsz : Nat.blt 0 size = true)
    (hx : evl l x = some (.slice A k c)) (hy : evl l y = some (.slice A2 m c2)) (hown : Own w e size (.slice A k c) k xs) (hr : Sl w A2 m size news) (h1 : ∀ u ∈ news, u.oneCell' = true) (h63 : k + m ≤ maxLen) (hb : (k + m) * bytes ≤ 140737488355328)
    (hK : ∀ a' w' A' c', App w w' e size A k c xs news m A' c' → S w' ∧ (Fr n a' ((d, .slice A' (k + m) c') :: l) → K a' w')) : wpOp P ops Q i (fun a w => S w ∧ K a w) a w := by
  obtain ⟨A', c', w', hrun, happ⟩ := E.append (dst := some d) (ty := ty) (ps := ps) (af := af) (gd := gd) f ht hi hzs hsz hx hy hown hr h1 h63 hb
  exact O.val f ho rfl hn hw hrun (hK a w' A' c' happ).1 fun a' f' => (hK a' w' A' c' happ).2 f'
theorem O.buildSlice {i : Nat} (f : Fr n a l) {parts : Array (Nat × Operand)} {len : Nat} (ho : ops[i]? = some ⟨some d, .buildSlice t len parts, ty, ps, af, gd⟩) (hw : Region.wanted ⟨some d, .buildSlice t len parts, ty, ps, af, gd⟩ (yielded ops a.tmps) = true) (hn : d < n) {vs : List (Nat × Value)} {e sz : Nat} {cells : Array Value} {z : Value} (hx : (parts.map fun p => (p.1, a.eval p.2)).toList = vs) (hu : P.underlying t = some (.slice e))
    (hi : (P.info? e).map (fun i => (i.zero, i.size)) = some (some z, sz)) (hs : Nat.ble (len * sz) 16777216 = true) (hp : Nat.beq (len * sz) 0 = false) (hf : Instr.fill (fun i => some (i * sz, sz)) ((Array.range (len * sz)).map fun j => z.cells[j % z.cells.size]!) vs = some cells)
    (hS : ∀ w', Kept [] w w' → S w') (hK : ∀ a' w' g, Newb w w' g e cells → S w' → Fr n a' ((d, .slice (some ⟨g, 0, none⟩) len len) :: l) → K a' w') : wpOp P ops Q i (fun a w => S w ∧ K a w) a w :=
  O.val f ho rfl hn hw (E.buildSlice f hx hu hi hs hp hf) (hS _ (newb w e _).kept) fun a' f' => hK a' _ _ (newb w e _) (hS _ (newb w e _).kept) f'
end
end Go.Hub
namespace Go.Hub
open Go.RowKit
def setSeg : List Value → Nat → List Value → List Value
  | xs, _, [] => xs
  | xs, o, v :: r => setSeg (xs.set o v) (o + 1) r
section
variable {M : Type} (cell : M → List Value) (size : Nat) (hs : ∀ m, (cell m).length = size)
include hs
theorem flat_get (l : List M) (i : Nat) : (l.flatMap cell)[i]? = (l[i / size]?).bind fun m => (cell m)[i % size]? := by
  induction l generalizing i with
  | nil => simp
  | cons a r ih =>
    simp only [List.flatMap_cons]
    rcases Nat.lt_or_ge i size with h | h
    · rw [List.getElem?_append_left (by rw [hs]; exact h), Nat.div_eq_of_lt h, Nat.mod_eq_of_lt h]
      rfl
    · rw [List.getElem?_append_right (by rw [hs]; exact h), hs, ih]
      rcases Nat.eq_zero_or_pos size with h0 | h0
      · subst h0
        have : ∀ m, cell m = [] := fun m => List.eq_nil_of_length_eq_zero (hs m)
        simp [this]
      · rw [Nat.div_eq_sub_div h0 h, Nat.mod_eq_sub_mod h]
        rfl
end
section
variable {w : World} {g : Nat} {t : TypeId}
theorem Blk.seg : ∀ (vs xs : List Value) (o : Nat) (w : World), Blk w g t xs.toArray → Blk (w.setCells g o vs) g t (setSeg xs o vs).toArray
  | [], _, _, _, h => h
  | v :: r, xs, o, w, h => by
    have := h.set_ o v
    simp only [List.setIfInBounds_toArray] at this
    exact Blk.seg r (xs.set o v) (o + 1) _ this
end
section
variable {P : Program} {ops : Array Oper} {rest : List Oper} {a : Act} {w : World} {Q : Exit → Act → World → Prop} {n d : Nat} {l : FL} {v : Value} {dst : Option Nat} {ty : TypeId} {ps : String} {af : Array Edge} {gd : Option (Nat × Bool)} {x y : Operand} {t : TypeId} {S : World → Prop} {K : Act → World → Prop}
theorem E.storeSeg (f : Fr n a l) {g o e s : Nat} {xs : List Value} {cs : Array Value} (hi : (P.info? t).map (·.size) = some s) (hx : evl l x = some (.pointer (some ⟨g, o, none⟩))) (hy : evl l y = some (.agg cs)) (h1 : cs.toList.all (·.oneCell') = true) (B : Blk w g e xs.toArray) (ho : o + cs.size ≤ xs.length) (hl : cs.size = s) :
    (execOp a.eval ⟨dst, .store t x y, ty, ps, af, gd⟩).run P w = .ok .skip (w.setCells g o cs.toList) :=
  E.storeR f (hl ▸ hi) hx hy (by simpa using h1) (B.there (by simpa using ho))
theorem L.storeSeg (f : Fr n a l) (hw : Region.wanted ⟨none, .store t x y, ty, ps, af, gd⟩ (yielded ops a.tmps) = true) {g o e s : Nat} {xs : List Value} {cs : Array Value} (hi : (P.info? t).map (·.size) = some s) (hx : evl l x = some (.pointer (some ⟨g, o, none⟩))) (hy : evl l y = some (.agg cs)) (h1 : cs.toList.all (·.oneCell') = true) (B : Blk w g e xs.toArray) (ho : o + cs.size ≤ xs.length) (hl : cs.size = s)
    (hK : ∀ a' w', Fr n a' l → Blk w' g e (setSeg xs o cs.toList).toArray → Kept [g] w w' → wpList P ops Q rest a' w') : wpList P ops Q (⟨none, .store t x y, ty, ps, af, gd⟩ :: rest) a w :=
  L.act f hw rfl (E.storeSeg f hi hx hy h1 B ho hl) fun a' f' => hK a' _ f' (B.seg cs.toList xs o w) (setCells_kept w g o _)
theorem O.act {i : Nat} {o : Oper} {w' : World} (f : Fr n a l) (hi : ops[i]? = some o) (hd : o.dst = none) (hw : Region.wanted o (yielded ops a.tmps) = true)
    (hv : (execOp a.eval o).run P w = .ok .skip w') (hS : S w') (hK : ∀ a', Fr n a' l → K a' w') : wpOp P ops Q i (fun a w => S w ∧ K a w) a w := by
  unfold wpOp
  simp only [hi, hw, if_true]
  refine .inl ?_
  unfold Oper.wp
  rw [hv]
  show S w' ∧ K (a.put o.dst undef) w'
  rw [hd]
  exact ⟨hS, hK _ f⟩
theorem made_flat {M : Type} (cell : M → List Value) (size : Nat) (hs : ∀ m, (cell m).length = size) (h0 : 0 < size) (z : M) (k : Nat) : madeCells (cell z).toArray (k * size) = ((List.replicate k z).flatMap cell).toArray := by
  have hz : (cell z).toArray.size = size := by simp [hs]
  apply Array.ext'
  apply List.ext_getElem?
  intro j
  rw [flat_get cell size hs, List.getElem?_replicate]
  have hd : (j / size < k) ↔ j < k * size := Nat.div_lt_iff_lt_mul h0
  unfold madeCells
  by_cases hj : j < k * size
  · rw [if_pos (hd.2 hj)]
    have hm : j % size < (cell z).length := by rw [hs]; exact Nat.mod_lt _ h0
    simp [hj, hs]
    rw [List.getElem?_eq_getElem hm]
    simp
  · rw [if_neg (fun h => hj (hd.1 h))]
    simp [hj]
theorem L.make (f : Fr n a l) (hw : Region.wanted ⟨some d, .makeSlice t x y, ty, ps, af, gd⟩ (yielded ops a.tmps) = true) (hn : d < n) {e size bytes : Nat} {z : Value} {kl kc : IntKind} {i j : Int} (ht : P.underlying t = some (.slice e)) (hi : (P.info? e).map (fun i => (i.zero, i.size, i.bytes)) = some (some z, size, bytes))
    (hx : evl l x = some (.int kl i)) (hy : evl l y = some (.int kc j)) (h0 : 0 ≤ i) (h1 : i ≤ j) (hb : (bytes : Int) * j ≤ 281474976710656) (h63 : j ≤ 9223372036854775807)
    (hK : ∀ a' w' g, Newb w w' g e (madeCells z.cells (j.toNat * size)) → Fr n a' ((d, .slice (some ⟨g, 0, none⟩) i.toNat j.toNat) :: l) → wpList P ops Q rest a' w') : wpList P ops Q (⟨some d, .makeSlice t x y, ty, ps, af, gd⟩ :: rest) a w := by
  obtain ⟨ie, hie, h2, h3, h4⟩ := info_parts hi
  subst h3 h4
  have hr := run_make (P := P) w t e ie z ht hie h2 kl kc i j h0 h1 hb h63
  refine L.val f hw rfl hn (v := .slice (some ⟨w.heap.size, 0, none⟩) i.toNat j.toNat) (w' := w.alloc (.cells (madeCells z.cells (j.toNat * ie.size)) e)) ?_ fun a' f' => hK a' _ _ (newb w e _) f'
  simp only [execOp, f.ev hx, f.ev hy]
  rw [Sem.run_bind, hr]
  rfl
end
end Go.Hub
namespace Go.Hub
open Go.RowKit
section
variable {P : Program} {a : Act} {w : World} {n : Nat} {l : FL} {fn : Func} {R : Ending → World → Prop}
theorem C.retC (f : Fr n a l) {p : Tmp} {ty : TypeId} (hr : fn.results = #[.cell p ty]) {g : Nat} {cs : Array Value} {t : TypeId} {d : TypeDesc} (hp : look l p = some (.pointer (some ⟨g, 0, none⟩))) (B : Blk w g t cs)
    (hu : P.underlying ty = some d) (hd : (match d with | .struct _ | .array _ _ => true | _ => false) = true) (hi : (P.info? ty).map (·.size) = some cs.size) (h : R (.returned (.agg cs)) w) : bodyPost P fn R .ret a w :=
  ret_cell hr d (f.get hp) B hu hd hi f.defers h
theorem C.retCT (f : Fr n a l) {p u : Tmp} {ty : TypeId} (hr : fn.results = #[.cell p ty, .tmp u]) {g : Nat} {cs : Array Value} {t : TypeId} {d : TypeDesc} {v : Value} (hp : look l p = some (.pointer (some ⟨g, 0, none⟩))) (hv : look l u = some v) (B : Blk w g t cs)
    (hu : P.underlying ty = some d) (hd : (match d with | .struct _ | .array _ _ => true | _ => false) = true) (hi : (P.info? ty).map (·.size) = some cs.size) (h : R (.returned (.tuple #[.agg cs, v])) w) : bodyPost P fn R .ret a w :=
  ret_cell_tmp hr d (f.get hp) (f.get hv) B hu hd hi f.defers h
end
end Go.Hub
namespace Go.Hub
open Go.RowKit
section
variable {T T' : List TypeId} {M M' : List Nat} {B B' : Nat} {w w' w'' w0 : World} {L : List Nat} {g : Nat} {t : TypeId} {cs : Array Value}
theorem Typ.mono {k : Nat} (h : Typ w k T) (hs : ∀ t ∈ T, t ∈ T') : Typ w k T' := by obtain ⟨cs, e, f, h, he⟩ := h; exact ⟨cs, e, f, h, hs e he⟩
theorem Bs.of_fresh {A : Option Addr} {n c : Nat} {l : List UInt8} {e : TypeId} (h : Fresh w0 w e 1 A n c (l.map u8)) : Bs [e] B w A n l := Bs.of_own h.own (by simp)
theorem Fresh.from {e : TypeId} {size n c : Nat} {A : Option Addr} {xs : List Value} (h : Fresh w0 w e size A n c xs) : ∀ a, A = some a → w0.heap.size ≤ a.block := fun a ha => h.lo a.block (by rw [ha]; rfl)
end
end Go.Hub
namespace Go.Hub
open Go.RowKit
section
variable {P : Program} {ops : Array Oper} {Q : Exit → Act → World → Prop} {a : Act} {w : World} {n d : Nat} {l : FL} {v : Value} {ty : TypeId} {ps : String} {af : Array Edge} {gd : Option (Nat × Bool)} {x y : Operand} {t : TypeId} {K : Act → World → Prop} {i : Nat}
theorem OT.store (f : Fr n a l) (hio : ops[i]? = some ⟨none, .store t x y, ty, ps, af, gd⟩) (hw : Region.wanted ⟨none, .store t x y, ty, ps, af, gd⟩ (yielded ops a.tmps) = true) (hi : (P.info? t).map (·.size) = some 1) {g o : Nat} {e : TypeId} {cs : Array Value} (hx : evl l x = some (.pointer (some ⟨g, o, none⟩))) (hy : evl l y = some v) (h1 : v.oneCell' = true)
    (B : Blk w g e cs) (ho : o < cs.size) (hK : ∀ a' w', Fr n a' l → Blk w' g e (cs.setIfInBounds o v) → Kept [g] w w' → K a' w') : wpOp P ops Q i (fun a w => True ∧ K a w) a w :=
  O.act (S := fun _ => True) f hio rfl hw (E.store f hi hx hy h1 (B.cell_ (Array.getElem?_eq_getElem ho)) (B.frozen o)) trivial fun a' f' => hK a' _ f' (B.set_ o v) (setCell_kept w g o v)
end
theorem own_ne {w : World} {e t : TypeId} {size n c k g : Nat} {A : Option Addr} {xs : List Value} {cs : Array Value} (ho : Own w e size (.slice A n c) k xs) (h : Blk w g t cs) (hte : t ≠ e) : g ∉ (Value.slice A n c).ownBlock.toList := fun hx => by
  obtain ⟨_, cs', h2⟩ := ho.blk g (by simpa using hx)
  unfold Blk at h
  rw [h] at h2
  injection h2 with h2
  injection h2 with _ h3 _
  exact hte h3
end Go.Hub
namespace Go.Hub
open Go.RowKit
section
variable {P : Program} {ops : Array Oper} {rest : List Oper} {a : Act} {w : World} {Q : Exit → Act → World → Prop} {n d : Nat} {l : FL} {dst : Option Nat} {ty : TypeId} {ps : String} {af : Array Edge} {gd : Option (Nat × Bool)} {x y : Operand} {t tn : TypeId}
theorem E.capL (f : Fr n a l) {e : TypeId} {A : Option Addr} {m c : Nat} (ht : P.underlying t = some (.slice e)) (hx : evl l x = some (.slice A m c)) : (execOp a.eval ⟨dst, .call { callee := .builtin .cap, args := #[x], argTypes := #[t] }, ty, ps, af, gd⟩).run P w = .ok (.value (.int .i64 c)) w := by
  simp [execOp, resolve, invoke, builtin, f.ev hx, Builtin.cap_, run_underlying ht, goInt]
theorem L.appendZ (f : Fr n a l) (hw : Region.wanted ⟨some d, .call { callee := .builtin .append, args := #[x, y], argTypes := #[t, tn] }, ty, ps, af, gd⟩ (yielded ops a.tmps) = true) (hn : d < n) {e size bytes k c m : Nat} {z : Value} {A : Option Addr} {xs : List Value} {kq kn : IntKind} {j : Int} (ht : P.underlying t = some (.slice e)) (htn : P.underlying tn = some (.int kn)) (hi : (P.info? e).map (fun i => (i.zero, i.size, i.bytes)) = some (some z, size, bytes)) (hzs : z.cells.size = size) (hsz : Nat.blt 0 size = true)
    (hx : evl l x = some (.slice A k c)) (hy : evl l y = some (.int kq j)) (hown : Own w e size (.slice A k c) k xs) (hj : j = m) (hm : 0 < m) (hg : c < k + m) (h63 : k + m ≤ 4611686018427387904) (hb : (k + m) * bytes ≤ 70368744177664)
    (hK : ∀ a' w' g c', Own w' e size (.slice (some ⟨g, 0, none⟩) (k + m) c') (k + m) (xs ++ (Builtin.zeroCells z.cells m).toList) → w.heap.size ≤ g → Kept [] w w' → Fr n a' ((d, .slice (some ⟨g, 0, none⟩) (k + m) c') :: l) → wpList P ops Q rest a' w') : wpList P ops Q (⟨some d, .call { callee := .builtin .append, args := #[x, y], argTypes := #[t, tn] }, ty, ps, af, gd⟩ :: rest) a w := by
  subst hj
  cases hq : P.info? e with
  | none => simp [hq] at hi
  | some i =>
    have hi' : i.zero = some z ∧ i.size = size ∧ i.bytes = bytes := by simpa [hq] using hi
    obtain ⟨hz, hs, hby⟩ := hi'
    subst hs hby
    have hs0 : 0 < i.size := Nat.le_of_ble_eq_true hsz
    have hfc : (Builtin.firstCells i.size k (.slice A k c)).run P w.drew = .ok xs.toArray w.drew := by
      rcases A with _ | ad
      · have hk : k = 0 := by
          rcases hown.2 with ⟨_, h0⟩ | ⟨g, off, cap, cur, hv, _⟩
          · exact h0
          · cases hv
        subst hk
        have hx0 : xs = [] := List.eq_nil_of_length_eq_zero (by simpa using hown.1)
        subst hx0
        simp [Builtin.firstCells]
      · rcases hown.2 with ⟨hv, _⟩ | ⟨g, off, cap, cur, hv, hgd, hnc, hcm, hcs, hc⟩
        · cases hv
        injection hv with e1 e2 e3
        injection e1 with e1
        subst e1 e3
        have := run_loadCells_list (P := P) w.drew ⟨g, off, none⟩ xs (fun j v hj => by
          rw [add_none]
          have h1 := cell_of_row w g (off + j) cur e (0, 0) hgd
          show w.cell? _ = _
          rw [h1]
          exact hc j v hj)
        rw [hown.1] at this
        simpa [Builtin.firstCells] using this
    have hgrow : Builtin.nextslicecap (k + m) c * i.bytes ≤ 281474976710656 := growslice_fits hg (by omega)
    have hrun := Lib.run_append_grow_zeros (P := P) w t tn ty e i z kq kn ht htn hq hz A k c xs hfc m hm hs0 hg (by omega) (by
      have : m * i.bytes ≤ (k + m) * i.bytes := Nat.mul_le_mul_right _ (by omega)
      omega) hgrow
    have hcap : k + m ≤ grownCap w (k + m) c e ∧ grownCap w (k + m) c e ≤ maxLen := ⟨grownCap_ge w _ _ _, grownCap_le_maxLen w _ _ _ (by unfold maxLen; omega)⟩
    refine L.val (v := .slice (some ⟨w.heap.size, 0, none⟩) (k + m) (grownCap w (k + m) c e)) (w' := w.drew.alloc (.cells (xs.toArray ++ Builtin.zeroCells z.cells m ++ Builtin.zeroCells z.cells (grownCap w (k + m) c e - (k + m))) e)) f hw rfl hn (by simp [execOp, resolve, invoke, builtin, f.ev hx, f.ev hy, hrun]) fun a' f' => hK a' _ _ _ ?_ (Nat.le_refl _) ((Kept.refl [] w).drew.alloc _) f'
    have hxl := hown.1
    refine ⟨by rw [List.length_append, hxl, Nat.add_mul]; simp [Builtin.zeroCells, hzs], .inr ⟨w.heap.size, 0, _, _, rfl, heap_alloc_new w.drew _, hcap.1, hcap.2, ?_, fun j u hu => ?_⟩⟩
    · simp [Builtin.zeroCells, hzs, hxl]
      rw [← Nat.add_mul, ← Nat.add_mul]
      exact Nat.mul_le_mul_right _ (by omega)
    · rw [Nat.zero_add]
      have hj := (List.getElem?_eq_some_iff.1 hu).1
      rw [List.length_append] at hj
      have h1 : (xs.toArray ++ Builtin.zeroCells z.cells m ++ Builtin.zeroCells z.cells (grownCap w (k + m) c e - (k + m)))[j]? = (xs ++ (Builtin.zeroCells z.cells m).toList)[j]? := by
        rw [Array.getElem?_append_left (by simpa using hj), ← Array.getElem?_toList]
        simp
      rw [h1]
      exact hu
end
end Go.Hub
namespace Go.Hub
open Go.RowKit Go.Lib
section
variable {P : Program} (w : World)
theorem append_own_str (t u ty e : TypeId) (i : TypeInfo) (ht : P.underlying t = some (.slice e)) (hu : P.underlying u = some .string) (hi : P.info? e = some i) (hz : i.zero = some (.int .u8 0))
    (hsize : i.size = 1) (hby : i.bytes = 1) (v : Value) (n : Nat) (xs : List Value) (hown : Own w e 1 v n xs) (s : ByteArray) (h63 : n + s.size ≤ maxLen) (hbytes : n + s.size ≤ 140737488355328) :
    ∃ v' w', (Builtin.append_ #[t, u] ty #[v, .string s]).run P w = .ok v' w' ∧ Own w' e 1 v' (n + s.size) (xs ++ strCells s) ∧ Kept v.ownBlock.toList w w' ∧
      (∀ k, v'.ownBlock = some k → v.ownBlock = some k ∨ w.heap.size ≤ k) := by
  have hsmall : n + s.size ≤ 9223372036854775807 := by simp only [maxLen] at h63; omega
  have hxl : xs.length = n := by simpa using hown.1
  rcases hown.2 with ⟨rfl, rfl⟩ | ⟨g, off, cap, cur, rfl, hg, hnc, hcm, hcs, hc⟩
  · have hx : xs = [] := List.eq_nil_of_length_eq_zero (by simpa using hown.1)
    subst hx
    obtain ⟨v', w', hrun, ho, hgr, _⟩ := run_append_own_string (P := P) w w.heap.size t u ty e i ht hu hi hz hsize hby (.slice none 0 0) 0 [] (World.ownsRow_nil _ _ _ _) s h63 hbytes (Nat.le_refl _)
    exact ⟨v', w', hrun, Own.of_row ho, grown_kept hgr, fun k hk => .inr (ho.lt k hk).1⟩
  · by_cases hroom : n + s.size ≤ cap
    · have hcell : ∀ j, j < (strCells s).length → w.cell? ⟨g, off + n * 1 + j, none⟩ = cur[off + n * 1 + j]? := fun j hj => cell_of_row w g _ cur e (0, 0) hg
      have hlen := strCells_length s
      have hst := run_storeCells_cells (P := P) g (off + n) (strCells s) 0 w (fun j hj => by have := hcell j hj; rw [Nat.mul_one] at this; rw [Nat.add_zero, this, Array.getElem?_eq_getElem (by omega)]; rfl) (fun j hj => by simp [World.frozen?, hg]) (strCells_oneCell s)
      simp only [Nat.add_zero] at hst
      have hf := run_firstCells_string (P := P) w 1 s
      have hrun : (Builtin.append_ #[t, u] ty #[.slice (some ⟨g, off, none⟩) n cap, .string s]).run P w = .ok (.slice (some ⟨g, off, none⟩) (n + s.size) cap) (w.setCells g (off + n) (strCells s)) := by
        simp [Builtin.append_, run_underlying ht, run_underlying hu, sizeOf, typeInfo, hi, hsize, Builtin.lenOf, hroom, hf, Addr.add_lit, hst]
      obtain ⟨cur', a1, a2, a3, a4⟩ := setCells_block g (strCells s) (off + n) w cur e (0, 0) hg
      obtain ⟨b1, b2, b3, b4⟩ := setCells_facts g (strCells s) (off + n) w
      refine ⟨_, _, hrun, ⟨by rw [List.length_append, hxl, hlen, Nat.mul_one], .inr ⟨g, off, cap, cur', rfl, a1, hroom, hcm, by omega, fun j u hu => ?_⟩⟩,
          ⟨b1, b2, b3, by omega, fun k hk hn => setCells_other g _ _ w k (by simpa [Value.ownBlock] using hn)⟩, fun k hk => .inl hk⟩
      rcases Nat.lt_or_ge j xs.length with hj | hj
      · rw [List.getElem?_append_left hj] at hu
        rw [a3 _ (by omega)]
        exact hc j u hu
      · rw [List.getElem?_append_right hj] at hu
        have hj2 : j - xs.length < (strCells s).length := by
          rcases Nat.lt_or_ge (j - xs.length) (strCells s).length with h | h
          · exact h
          · rw [List.getElem?_eq_none h] at hu; cases hu
        have := a4 (j - xs.length) u hu (by omega)
        rw [show off + n + (j - xs.length) = off + j from by omega] at this
        exact this
    · have holds : ∀ j u, xs[j]? = some u → w.cell? ((⟨g, off, none⟩ : Addr).add j) = some u := fun j u hu => by
        rw [add_none, cell_of_row w g (off + j) cur e (0, 0) hg]
        exact hc j u hu
      have hr := run_append_grow_string (P := P) w t u ty e i (.int .u8 0) ht hu hi hz ⟨g, off, none⟩ n cap xs (by rw [hsize]; simpa using hxl) holds s (by omega) (by omega) (by rw [hby]; exact growslice_fits (by omega) (by omega))
      have hge := grownCap_ge w (n + s.size) cap e
      have hcm2 : grownCap w (n + s.size) cap e ≤ maxLen := grownCap_le_maxLen w (n + s.size) cap e h63
      have hlen : (xs ++ strCells s).length = (n + s.size) * 1 := by rw [List.length_append, hxl, strCells_length, Nat.mul_one]
      refine ⟨_, _, hr, ⟨hlen, .inr ⟨w.heap.size, 0, _, _, rfl, heap_alloc_new w.drew _, hge, hcm2, ?_, fun j u hu => ?_⟩⟩, ((Kept.refl _ w).drewN 1).alloc _, fun k hk => .inr ?_⟩
      · have hz1 : (Value.int IntKind.u8 0).cells.size = 1 := rfl
        simp only [Array.size_append, List.size_toArray, size_zeroCells, hz1, hxl, strCells_length]
        omega
      · rw [Nat.zero_add, ← Array.getElem?_toList, Array.toList_append, Array.toList_append, List.getElem?_append_left]
        · exact hu
        · have := (List.getElem?_eq_some_iff.1 hu).1
          simpa using this
      · simp [Value.ownBlock] at hk
        omega
theorem strCells_u8 (s : ByteArray) : strCells s = s.toList.map u8 := by
  rw [ByteArray.toList_eq]
  rfl
end
section
variable {P : Program} {ops : Array Oper} {rest : List Oper} {a : Act} {w : World} {Q : Exit → Act → World → Prop} {n d : Nat} {l : FL} {ty : TypeId} {ps : String} {af : Array Edge} {gd : Option (Nat × Bool)} {x y : Operand} {t u : TypeId}
theorem E.appendS {dst : Option Nat} (f : Fr n a l) {e k c : Nat} {A : Option Addr} {xs : List Value} {s : ByteArray} (ht : P.underlying t = some (.slice e)) (hu : P.underlying u = some .string) (hi : (P.info? e).map (fun i => (i.zero, i.size, i.bytes)) = some (some (.int .u8 0), 1, 1))
    (hx : evl l x = some (.slice A k c)) (hy : evl l y = some (.string s)) (hown : Own w e 1 (.slice A k c) k xs) (hb : k + s.size ≤ 140737488355328) :
    ∃ A' c' w', (execOp a.eval ⟨dst, .call { callee := .builtin .append, args := #[x, y], argTypes := #[t, u] }, ty, ps, af, gd⟩).run P w = .ok (.value (.slice A' (k + s.size) c')) w' ∧ App w w' e 1 A k c xs (s.toList.map u8) s.size A' c' := by
  obtain ⟨ie, hie, h2, h3, h4⟩ := info_parts hi
  obtain ⟨v', w', hrun, ho, hk, hwh⟩ := append_own_str (P := P) w t u ty e ie ht hu hie h2 h3 h4 (.slice A k c) k xs hown s (by unfold maxLen; omega) hb
  obtain ⟨A', c', rfl, _⟩ := ho.form
  rw [strCells_u8] at ho
  refine ⟨A', c', w', ?_, ho, hk, fun b hb => ?_⟩
  · simp only [execOp, resolve, invoke, builtin, Sem.run_bind, Sem.run_pure, Result.andThen_ok, List.map_toArray, List.map_cons, List.map_nil, f.ev hx, f.ev hy, hrun]
  · have := hwh b (by cases A' <;> simp_all [Value.ownBlock])
    rcases this with h | h
    · exact .inl (by cases A <;> simp_all [Value.ownBlock])
    · exact .inr h
theorem L.appendS (f : Fr n a l) (hw : Region.wanted ⟨some d, .call { callee := .builtin .append, args := #[x, y], argTypes := #[t, u] }, ty, ps, af, gd⟩ (yielded ops a.tmps) = true) (hn : d < n) {e k c : Nat} {A : Option Addr} {xs : List Value} {s : ByteArray} (ht : P.underlying t = some (.slice e)) (hu : P.underlying u = some .string) (hi : (P.info? e).map (fun i => (i.zero, i.size, i.bytes)) = some (some (.int .u8 0), 1, 1))
    (hx : evl l x = some (.slice A k c)) (hy : evl l y = some (.string s)) (hown : Own w e 1 (.slice A k c) k xs) (hb : k + s.size ≤ 140737488355328)
    (hK : ∀ a' w' A' c', App w w' e 1 A k c xs (s.toList.map u8) s.size A' c' → Fr n a' ((d, .slice A' (k + s.size) c') :: l) → wpList P ops Q rest a' w') : wpList P ops Q (⟨some d, .call { callee := .builtin .append, args := #[x, y], argTypes := #[t, u] }, ty, ps, af, gd⟩ :: rest) a w := by
  obtain ⟨A', c', w', hrun, happ⟩ := E.appendS (dst := some d) (ty := ty) (ps := ps) (af := af) (gd := gd) f ht hu hi hx hy hown hb
  exact L.val f hw rfl hn hrun fun a' f' => hK a' w' A' c' happ f'
theorem E.and {dst : Option Nat} (f : Fr n a l) {k : IntKind} {i j r : Int} (hx : evl l x = some (.int k i)) (hy : evl l y = some (.int k j)) (hr : bits .and k i j = r) : (execOp a.eval ⟨dst, .binOp .and t x y u, ty, ps, af, gd⟩).run P w = .ok (.value (.int k r)) w := by
  simp [execOp, f.ev hx, f.ev hy, eqGuard, binOp_and, intBits_and, hr]
theorem E.or {dst : Option Nat} (f : Fr n a l) {k : IntKind} {i j r : Int} (hx : evl l x = some (.int k i)) (hy : evl l y = some (.int k j)) (hr : bits .or k i j = r) : (execOp a.eval ⟨dst, .binOp .or t x y u, ty, ps, af, gd⟩).run P w = .ok (.value (.int k r)) w := by
  simp [execOp, f.ev hx, f.ev hy, eqGuard, binOp_or, intBits_or, hr]
theorem E.shlN {dst : Option Nat} (f : Fr n a l) {k k' : IntKind} {i j r : Int} (hx : evl l x = some (.int k i)) (hy : evl l y = some (.int k' j)) (h0 : 0 ≤ j) (h1 : j ≤ k.bits) (hr : k.wrap (i * 2 ^ j.toNat) = r) : (execOp a.eval ⟨dst, .binOp .shl t x y u, ty, ps, af, gd⟩).run P w = .ok (.value (.int k r)) w := by
  simp [execOp, f.ev hx, f.ev hy, eqGuard, binOp, shift_shl k k' i j h0 h1, hr]
theorem E.shrN {dst : Option Nat} (f : Fr n a l) {k k' : IntKind} {i j r : Int} (hx : evl l x = some (.int k i)) (hy : evl l y = some (.int k' j)) (h0 : 0 ≤ j) (h1 : j ≤ k.bits) (hr : i / 2 ^ j.toNat = r) : (execOp a.eval ⟨dst, .binOp .shr t x y u, ty, ps, af, gd⟩).run P w = .ok (.value (.int k r)) w := by
  simp [execOp, f.ev hx, f.ev hy, eqGuard, binOp, shift_shr k k' i j h0 h1, hr]
theorem Sl.bs {A : Option Addr} {m : Nat} {b : List UInt8} (h : Sl w A m 1 (b.map u8)) : Bs [] w.heap.size w A m b := by
  refine ⟨by have := h.1; simpa using this, fun h0 => ?_⟩
  obtain ⟨g, off, e, hb, hc⟩ := h.2 h0
  exact ⟨g, off, e, hb, .inl hb, fun i x hx => hc i _ (by simp [hx])⟩
theorem Bs.toSl {E : List TypeId} {B : Nat} {A : Option Addr} {m : Nat} {b : List UInt8} (h : Bs E B w A m b) : Sl w A m 1 (b.map u8) := Sl.of_rds h.rds
theorem E.toStr {dst : Option Nat} (f : Fr n a l) {A : Option Addr} {m c : Nat} {b : List UInt8} {e : TypeId} (hx : evl l x = some (.slice A m c)) (ht : P.underlying t = some (.slice e)) (he : P.underlying e = some (.int .u8)) (hu : P.underlying u = some .string) (h : Sl w A m 1 (b.map u8)) :
    (execOp a.eval ⟨dst, .convert t u x, ty, ps, af, gd⟩).run P w = .ok (.value (.string ⟨b.toArray⟩)) w := E.convV f hx (h.bs.conv ht he hu)
end
end Go.Hub
namespace Go.Hub
open Go.RowKit
section
variable {P : Program} {a : Act} {w : World} {n : Nat} {l : FL} {dst : Option Nat} {ty : TypeId} {ps : String} {af : Array Edge} {g : Option (Nat × Bool)} {x : Operand} {t : TypeId}
theorem E.fieldAddrN (off : Nat) (f : Fr n a l) {fs : Array Field} {i : Nat} {fld : Field} {b o s : Nat} (ht : P.underlying t = some (.struct fs)) (hx : evl l x = some (.pointer (some ⟨b, o, none⟩))) (hi : fs[i]? = some fld) (ho : fld.offset = off)
    (hs : (P.info? fld.type).map (·.size) = some (s + 1)) : (execOp a.eval ⟨dst, .fieldAddr t x i, ty, ps, af, g⟩).run P w = .ok (.value (.pointer (some ⟨b, o + off, none⟩))) w := by
  subst ho
  exact E.fieldAddr f ht hx hi hs
end
def gd (ops : Array Oper) (l : FL) : Option (Nat × Bool) → Option Bool
  | none => some true
  | some (j, b) => match (ops[j]?).bind (·.dst) with
    | none => none
    | some dj => match look l dj with
      | some (.bool c) => some (c == b)
      | some (.tuple _) => some false
      | _ => none
def simpleOp (l : FL) : Op → Option Value
  | .move x => evl l x
  | .assign x => evl l x
  | .pick c x y => match evl l c with
    | some (.bool true) => evl l x
    | some (.bool false) => evl l y
    | _ => none
  | .unOp .not _ x => match evl l x with
    | some (.bool true) => some (.bool false)
    | some (.bool false) => some (.bool true)
    | _ => none
  | _ => none
def stepS (ops : Array Oper) (n : Nat) (l : FL) (o : Oper) : Option FL :=
  match gd ops l o.guard with
  | none => none
  | some false => match o.dst with
    | none => some l
    | some d => bif Nat.blt d n then some ((d, undef) :: l) else none
  | some true => match simpleOp l o.op, o.dst with
    | some v, some d => bif Nat.blt d n then some ((d, v) :: l) else none
    | _, _ => none
def runS (ops : Array Oper) (n : Nat) : FL → List Oper → FL × List Oper
  | l, [] => (l, [])
  | l, o :: r => match stepS ops n l o with
    | some l' => runS ops n l' r
    | none => (l, o :: r)
section
variable {P : Program} {ops : Array Oper} {a : Act} {w : World} {Q : Exit → Act → World → Prop} {n : Nat} {l l' : FL} {o : Oper} {rest : List Oper}
theorem gd_spec (f : Fr n a l) {c : Bool} (h : gd ops l o.guard = some c) : Region.wanted o (yielded ops a.tmps) = c := by
  unfold gd at h
  unfold Region.wanted
  cases hg : o.guard with
  | none => rw [hg] at h; simpa using h
  | some p =>
    obtain ⟨j, b⟩ := p
    rw [hg] at h
    simp only at h ⊢
    cases hj : (ops[j]?).bind (·.dst) with
    | none => rw [hj] at h; cases h
    | some dj =>
      rw [hj] at h
      simp only at h
      split at h
      · rename_i c' hc
        rw [f.yield hj hc]
        simp at h
        rw [← h]
        simp
      · rename_i hc
        have hy : yielded ops a.tmps j = none := by
          unfold yielded
          rw [hj]
          simp [f.slot dj _ hc]
        rw [hy]
        simp at h
        simp [h]
      · cases h
theorem simpleOp_spec (f : Fr n a l) {v : Value} (h : simpleOp l o.op = some v) : (execOp a.eval o).run P w = .ok (.value v) w := by
  obtain ⟨dst, op, ty, ps, af, g⟩ := o
  simp only at h
  unfold simpleOp at h
  split at h
  · exact E.move f h
  · exact E.assign f h
  · rename_i c x y
    split at h
    · rename_i hc
      exact E.pickT f hc h
    · rename_i hc
      exact E.pickF f hc h
    · cases h
  · rename_i t x
    split at h
    · rename_i hc
      simp at h
      subst h
      exact E.not f hc
    · rename_i hc
      simp at h
      subst h
      exact E.not f hc
    · cases h
  · cases h
theorem L.stepRun (f : Fr n a l) (h : Go.Hub.stepS ops n l o = some l') (hK : ∀ a', Fr n a' l' → wpList P ops Q rest a' w) : wpList P ops Q (o :: rest) a w := by
  unfold Go.Hub.stepS at h
  split at h
  · cases h
  · rename_i hg
    have hw := gd_spec f hg
    split at h
    · rename_i hd
      cases h
      exact L.skipN f hw hd fun a' f' => hK a' f'
    · rename_i d hd
      cases hb : Nat.blt d n
      · rw [hb] at h; cases h
      · rw [hb] at h
        cases h
        exact L.skip f hw hd (by simpa [Nat.blt_eq] using hb) fun a' f' => hK a' f'
  · rename_i hg
    have hw := gd_spec f hg
    split at h
    · rename_i v d hv hd
      cases hb : Nat.blt d n
      · rw [hb] at h; cases h
      · rw [hb] at h
        cases h
        exact L.val f hw hd (by simpa [Nat.blt_eq] using hb) (simpleOp_spec f hv) fun a' f' => hK a' f'
    · cases h
theorem L.runAll : ∀ (rest : List Oper) (l : FL) (a : Act), Fr n a l → (∀ a', Fr n a' (runS ops n l rest).1 → wpList P ops Q (runS ops n l rest).2 a' w) → wpList P ops Q rest a w
  | [], l, a, f, hK => hK a f
  | o :: r, l, a, f, hK => by
    unfold runS at hK
    cases hs : Go.Hub.stepS ops n l o with
    | none =>
      rw [hs] at hK
      exact hK a f
    | some l' =>
      rw [hs] at hK
      exact L.stepRun f hs fun a' f' => L.runAll r l' a' f' hK
theorem L.run (f : Fr n a l) {rest' : List Oper} (h : (runS ops n l rest).2 = rest') (hK : ∀ a', Fr n a' (runS ops n l rest).1 → wpList P ops Q rest' a' w) : wpList P ops Q rest a w :=
  L.runAll rest l a f (by rw [h]; exact hK)
def dstIn (i : Nat) : List Oper → Bool
  | [] => false
  | o :: r => (match o.dst with | some d => Nat.beq d i | none => false) || dstIn i r
theorem runS_look (i : Nat) : ∀ (rest : List Oper) (l : FL), dstIn i rest = false → look (runS ops n l rest).1 i = look l i
  | [], l, _ => rfl
  | o :: r, l, h => by
    unfold dstIn at h
    rw [Bool.or_eq_false_iff] at h
    unfold runS
    cases hs : Go.Hub.stepS ops n l o with
    | none => rfl
    | some l' =>
      show look (runS ops n l' r).1 i = look l i
      rw [runS_look i r l' h.2]
      have key : ∀ d v, o.dst = some d → look ((d, v) :: l) i = look l i := fun d v hd => by
        have h1 := h.1
        rw [hd] at h1
        have hne : ¬ d = i := fun e => by
          subst e
          simp at h1
        have hb : (d == i) = false := by simp [hne]
        simp [look, hb]
      unfold Go.Hub.stepS at hs
      split at hs
      · cases hs
      · split at hs
        · cases hs; rfl
        · rename_i d hd
          cases hb : Nat.blt d n
          · rw [hb] at hs; cases hs
          · rw [hb] at hs; cases hs; exact key _ _ hd
      · split at hs
        · rename_i v d hv hd
          cases hb : Nat.blt d n
          · rw [hb] at hs; cases hs
          · rw [hb] at hs; cases hs; exact key _ _ hd
        · cases hs
theorem Fr.kept (f : Fr n a (runS ops n l rest).1) {i : Nat} {v : Value} (hd : dstIn i rest = false) (h : look l i = some v) : look (runS ops n l rest).1 i = some v := (runS_look i rest l hd).trans h
end
end Go.Hub
namespace Go.Hub
open Go.RowKit
section
variable {P : Program} {ops : Array Oper} {Q : Exit → Act → World → Prop} {md : Region.Mode} {S : World → Prop} {a : Act} {w : World} {n : Nat} {l : FL}
def dstInD (ops : Array Oper) (i : Nat) : List Nat → Bool
  | [] => false
  | j :: r => (match (ops[j]?).bind (·.dst) with | some d => Nat.beq d i | none => false) || dstInD ops i r
theorem stepS_look {o : Oper} {l' : FL} {i d : Nat} (hs : stepS ops n l o = some l') (hd : o.dst = some d) (hi : Nat.beq d i = false) : look l' i = look l i := by
  have key : ∀ v, look ((d, v) :: l) i = look l i := fun v => by
    have hne : ¬ d = i := fun e => by subst e; simp at hi
    have hb : (d == i) = false := by simp [hne]
    simp [look, hb]
  unfold stepS at hs
  split at hs
  · cases hs
  · rw [hd] at hs
    simp only at hs
    cases hb : Nat.blt d n
    · rw [hb] at hs; cases hs
    · rw [hb] at hs; cases hs; exact key _
  · rw [hd] at hs
    cases hv : simpleOp l o.op with
    | none => simp [hv] at hs
    | some v =>
      simp only [hv] at hs
      cases hb : Nat.blt d n
      · rw [hb] at hs; cases hs
      · rw [hb] at hs; cases hs; exact key _
end
end Go.Hub
namespace Go.Hub
open Go.RowKit
section
variable {P : Program} {ops : Array Oper} {Q : Exit → Act → World → Prop} {md : Region.Mode} {S : World → Prop} {a : Act} {w w' : World} {n d : Nat} {l : FL} {v : Value} {o : Oper} {K : Act → World → Prop}
theorem O.call {i : Nat} (f : Fr n a l) (hi : ops[i]? = some o) (hd : o.dst = some d) (hn : d < n) (hw : Region.wanted o (yielded ops a.tmps) = true)
    {fn : Nat} {args : Array Value} (h : (execOp a.eval o).run P w = .ok (.enter fn args) w) {R : Ending → World → Prop} (hc : Calls P fn args w R)
    (hR : ∀ e w', R e w' → ∃ v, e = .returned v ∧ S w' ∧ ∀ a', Fr n a' ((d, v) :: l) → K a' w') : wpOp P ops Q i (fun a w => S w ∧ K a w) a w := by
  unfold wpOp
  simp only [hi, hw, if_true]
  refine .inl ?_
  unfold Oper.wp
  rw [h]
  refine Calls.mono hc ?_
  intro e w' hr
  obtain ⟨v, rfl, hS, hK⟩ := hR e w' hr
  show S w' ∧ K (a.put o.dst v) w'
  rw [hd]
  exact ⟨hS, hK _ (f.put d v hn)⟩
end
section
variable {P : Program} {ops : Array Oper} {Q : Exit → Act → World → Prop} {md : Region.Mode} {S : World → Prop} {a : Act} {w : World} {n d : Nat} {l : FL} {v : Value} {fuel : Nat} {listed : Array Bool} {ty : TypeId} {ps : String} {af : Array Edge} {gd : Option (Nat × Bool)} {x y : Operand} {t : TypeId}
theorem R.storeR (i : Nat) (f : Fr n a l) (hi : ops[i]? = some ⟨none, .store t x y, ty, ps, af, gd⟩) (hr : Region.ready md ops listed = [i]) (hw : Region.wanted ⟨none, .store t x y, ty, ps, af, gd⟩ (yielded ops a.tmps) = true) {g s : Nat} {e : TypeId} {cs cs' : Array Value} (hs : (P.info? t).map (·.size) = some s) (hx : evl l x = some (.pointer (some ⟨g, 0, none⟩))) (hy : evl l y = some (.agg cs')) (h1 : cs'.toList.all (·.oneCell') = true)
    (B : Blk w g e cs) (hz : cs'.size = cs.size) (hl : cs'.size = s) (hS : ∀ w', Kept [g] w w' → S w') (hK : ∀ a' w', Fr n a' l → Blk w' g e cs' → Kept [g] w w' → S w' → wpAnyH P md ops Q S fuel (listed.setIfInBounds i true) a' w') : wpAnyH P md ops Q S (fuel + 1) listed a w :=
  R.act i f hi rfl hr hw (E.storeR f (hl ▸ hs) hx hy (by simpa using h1) (B.there (by omega))) (hS _ (setCells_kept w g 0 _)) fun a' f' => hK a' _ f' (setCells_blk B cs' hz) (setCells_kept w g 0 _) (hS _ (setCells_kept w g 0 _))
end
end Go.Hub
namespace Go.Hub
open Go.RowKit
section
variable {P : Program} {ops : Array Oper} {rest : List Oper} {o : Oper} {a : Act} {w w' w'' : World} {Q : Exit → Act → World → Prop} {n d : Nat} {l : FL} {v : Value}
theorem L.va (f : Fr n a l) (h : (execOp a.eval o).run P w = .ok (.value v) w') (hK : ∀ a', Fr n a' ((d, v) :: l) → wpList P ops Q rest a' w')
    (hw : Region.wanted o (yielded ops a.tmps) = true := by exact wantedN) (hd : o.dst = some d := by rfl) (hn : d < n := by decide) : wpList P ops Q (o :: rest) a w := L.val f hw hd hn h hK
theorem L.sk (f : Fr n a l) (hw : Region.wanted o (yielded ops a.tmps) = false) (hK : ∀ a', Fr n a' ((d, undef) :: l) → wpList P ops Q rest a' w) (hd : o.dst = some d := by rfl) (hn : d < n := by decide) : wpList P ops Q (o :: rest) a w := L.skip f hw hd hn hK
theorem L.cl (f : Fr n a l) {fn : Nat} {args : Array Value} (h : (execOp a.eval o).run P w = .ok (.enter fn args) w) {R : Ending → World → Prop} (hc : Calls P fn args w R)
    (hR : ∀ e w', R e w' → ∃ v, e = .returned v ∧ ∀ a', Fr n a' ((d, v) :: l) → wpList P ops Q rest a' w') (hw : Region.wanted o (yielded ops a.tmps) = true := by exact wantedN) (hd : o.dst = some d := by rfl) (hn : d < n := by decide) : wpList P ops Q (o :: rest) a w := L.call f hw hd hn h hc hR
theorem sn {l : FL} : Go.Hub.sub l [] := trivial
theorem sc (i : Nat) {l : FL} {v : Value} {r : FL} (h' : Go.Hub.sub l r) (h : look l i = some v := by rfl) : Go.Hub.sub l ((i, v) :: r) := ⟨h, h'⟩
theorem then_of {J : Act → World → Prop} (h : J a w) : Exit.then J Q .normal a w := h
end
section
variable {P : Program} {ops : Array Oper} {Q : Exit → Act → World → Prop} {md : Region.Mode} {S : World → Prop} {a : Act} {w w' : World} {n d : Nat} {l : FL} {v : Value} {o : Oper}
theorem R.t (i : Nat) {fuel : Nat} {listed : Array Bool} (f : Fr n a l) (hi : ops[i]? = some o) (hS : S w) (hv : ∀ w, S w → (execOp a.eval o).run P w = .ok (.value v) w)
    (hK : ∀ a', Fr n a' ((d, v) :: l) → wpAnyH P md ops Q S fuel (listed.setIfInBounds i true) a' w) (hw : Region.wanted o (yielded ops a.tmps) = true := by exact wantedN) (hd : o.dst = some d := by rfl) (hn : d < n := by decide)
    (hs : Region.noSelect ops = true := by kernel_rfl) (hf : Region.free md ops listed i = true := by kernel_rfl) (hr : (Region.ready md ops listed).contains i = true := by kernel_rfl)
    (hQ : ∀ c (a : Act) (u : Value) w, Q (.panic c) (a.put (some d) u) w → Q (.panic c) a w := by exact fun _ _ _ _ h => h) : wpAnyH P md ops Q S (fuel + 1) listed a w := R.take i f hi hd hn hs hf hr hQ hw hS hv hK
end
section
variable {P : Program} {a : Act} {w : World} {n : Nat} {l : FL} {dst : Option Nat} {ty : TypeId} {ps : String} {af : Array Edge} {g : Option (Nat × Bool)} {x y : Operand} {t u : TypeId}
theorem E.fa (off : Nat) (f : Fr n a l) {fs : Array Field} {i : Nat} {fld : Field} {b o s : Nat} (ht : P.underlying t = some (.struct fs)) (hi : fs[i]? = some fld) (hs : (P.info? fld.type).map (·.size) = some (s + 1)) (hx : evl l x = some (.pointer (some ⟨b, o, none⟩)) := by rfl) (ho : fld.offset = off := by rfl) :
    (execOp a.eval ⟨dst, .fieldAddr t x i, ty, ps, af, g⟩).run P w = .ok (.value (.pointer (some ⟨b, o + off, none⟩))) w := E.fieldAddrN off f ht hx hi ho hs
theorem E.ld (f : Fr n a l) {b : Nat} {o : Nat} {v : Value} {d : TypeDesc} {e : TypeId} {cs : Array Value} (ht : P.underlying t = some d) (B : Blk w b e cs) (hx : evl l x = some (.pointer (some ⟨b, o, none⟩)) := by rfl) (hc : cs.toList[o]? = some v := by rfl) (hd : d.isRow = false := by rfl) :
    (execOp a.eval ⟨dst, .load t x, ty, ps, af, g⟩).run P w = .ok (.value v) w := E.load f ht hd hx (B.cl hc)
theorem E.eq (f : Fr n a l) {k : IntKind} {i j : Int} (hx : evl l x = some (.int k i) := by rfl) (hy : evl l y = some (.int k j) := by rfl) : (execOp a.eval ⟨dst, .binOp .eql t x y u, ty, ps, af, g⟩).run P w = .ok (.value (.bool (decide (i = j)))) w := E.eql f hx hy
end
theorem ktr {L : List Nat} {g : Nat} {w : World} (h : w.heap.size ≤ g ∨ g ∈ L) : ∀ x ∈ [g], x < w.heap.size → x ∈ L := fun x hx hlt => by
  obtain rfl := List.mem_singleton.1 hx
  rcases h with h | h
  · omega
  · exact h
theorem z1 {α : Type} {xs : List α} {i : Nat} {a : α} : xs.toArray.setIfInBounds i a = (xs.set i a).toArray := List.setIfInBounds_toArray ..
theorem z2 {α : Type} {a b : α} {xs : List α} : (a :: xs).set 0 b = b :: xs := rfl
theorem z3 {α : Type} {a b : α} {xs : List α} {i : Nat} : (a :: xs).set (i + 1) b = a :: xs.set i b := rfl
end Go.Hub
namespace Go.Hub
open Go.RowKit
section
variable {P : Program} {ops : Array Oper} {rest : List Oper} {a : Act} {w : World} {Q : Exit → Act → World → Prop} {n d : Nat} {l : FL} {v : Value} {ty t : TypeId} {ps : String} {af : Array Edge} {g : Option (Nat × Bool)} {x : Operand}
theorem L.mv (f : Fr n a l) (hK : ∀ a', Fr n a' ((d, v) :: l) → wpList P ops Q rest a' w) (hx : evl l x = some v := by rfl)
    (hw : Region.wanted ⟨some d, .move x, ty, ps, af, g⟩ (yielded ops a.tmps) = true := by exact wantedN) (hn : d < n := by decide) : wpList P ops Q (⟨some d, .move x, ty, ps, af, g⟩ :: rest) a w := L.val f hw rfl hn (E.move f hx) hK
theorem L.ag (f : Fr n a l) (hK : ∀ a', Fr n a' ((d, v) :: l) → wpList P ops Q rest a' w) (hx : evl l x = some v := by rfl)
    (hw : Region.wanted ⟨some d, .assign x, ty, ps, af, g⟩ (yielded ops a.tmps) = true := by exact wantedN) (hn : d < n := by decide) : wpList P ops Q (⟨some d, .assign x, ty, ps, af, g⟩ :: rest) a w := L.val f hw rfl hn (E.assign f hx) hK
theorem L.fa (off : Nat) (f : Fr n a l) {fs : Array Field} {i : Nat} {fld : Field} {b o s : Nat} (ht : P.underlying t = some (.struct fs)) (hi : fs[i]? = some fld) (hs : (P.info? fld.type).map (·.size) = some (s + 1))
    (hK : ∀ a', Fr n a' ((d, .pointer (some ⟨b, o + off, none⟩)) :: l) → wpList P ops Q rest a' w) (hx : evl l x = some (.pointer (some ⟨b, o, none⟩)) := by rfl) (ho : fld.offset = off := by rfl)
    (hw : Region.wanted ⟨some d, .fieldAddr t x i, ty, ps, af, g⟩ (yielded ops a.tmps) = true := by exact wantedN) (hn : d < n := by decide) : wpList P ops Q (⟨some d, .fieldAddr t x i, ty, ps, af, g⟩ :: rest) a w := L.val f hw rfl hn (E.fa off f ht hi hs hx ho) hK
theorem L.ld (f : Fr n a l) {b o : Nat} {td : TypeDesc} {e : TypeId} {cs : Array Value} (ht : P.underlying t = some td) (B : Blk w b e cs) (hK : ∀ a', Fr n a' ((d, v) :: l) → wpList P ops Q rest a' w)
    (hx : evl l x = some (.pointer (some ⟨b, o, none⟩)) := by rfl) (hc : cs.toList[o]? = some v := by rfl) (hd : td.isRow = false := by rfl)
    (hw : Region.wanted ⟨some d, .load t x, ty, ps, af, g⟩ (yielded ops a.tmps) = true := by exact wantedN) (hn : d < n := by decide) : wpList P ops Q (⟨some d, .load t x, ty, ps, af, g⟩ :: rest) a w := L.val f hw rfl hn (E.ld f ht B hx hc hd) hK
theorem C.sk {id : Nat} {os : List Oper} {y : Code} (h : ∀ K : Act → World → Prop, (∀ a w, y.wp P Q a w → K a w) → wpList P os.toArray (Exit.then K Q) os a w) : (Code.seq (Code.region id os.toArray false) y).wp P Q a w := wp_seq_k fun K hK => C.region (h K hK)
end
end Go.Hub
namespace Go.Proofs.YtigjafbbnocihaaDoor
abbrev U3 := @Tryd.underlying3
abbrev U4 := @Tryd.underlying4
abbrev U5 := @Tryd.underlying5
abbrev U9 := @Tryd.underlying9
abbrev U22 := @Tryd.underlying22
abbrev U24 := @Tryd.underlying24
abbrev U25 := @Tryd.underlying25
abbrev U26 := @Tryd.underlying26
abbrev U28 := @Tryd.underlying28
abbrev U33 := @Tryd.underlying33
abbrev U43 := @Tryd.underlying43
abbrev U45 := @Tryd.underlying45
abbrev U58 := @Tryd.underlying58
abbrev U70 := @Tryd.underlying70
abbrev U91 := @Tryd.underlying91
abbrev U99 := @Tryd.underlying99
abbrev U102 := @Tryd.underlying102
abbrev U104 := @Tryd.underlying104
end Go.Proofs.YtigjafbbnocihaaDoor
namespace Go.Hub
open Go.RowKit
def Cs (E : List TypeId) (B : Nat) (w : World) (A : Option Addr) (n size : Nat) (xs : List Value) : Prop :=
  xs.length = n * size ∧ (0 < n → ∃ b off, A = some ⟨b, off, none⟩ ∧ b < w.heap.size ∧ (b < B ∨ Typ w b E) ∧ ∀ j u, xs[j]? = some u → w.cell? ⟨b, off + j, none⟩ = some u)
section
variable {E : List TypeId} {B : Nat} {w w' : World} {A : Option Addr} {n size : Nat} {xs : List Value}
theorem Cs.rds (h : Cs E B w A n size xs) : Rds w w.heap.size size A n xs := by
  refine ⟨h.1, fun hn => ?_⟩
  obtain ⟨b, off, e, hb, _, hc⟩ := h.2 hn
  exact ⟨b, off, e, hb, hc⟩
end
structure Pk where
  kind : Int := 0
  dup : Bool := false
  retain : Bool := false
  qos : Int := 0
  id : Int := 0
  topic : ByteArray := ⟨#[]⟩
  pay : List UInt8 := []
  level : Int := 0
  client : ByteArray := ⟨#[]⟩
  clean : Bool := false
  keep : Int := 0
  hasWill : Bool := false
  wt : ByteArray := ⟨#[]⟩
  wp : List UInt8 := []
  wq : Int := 0
  wr : Bool := false
  hasUser : Bool := false
  hasPass : Bool := false
  user : ByteArray := ⟨#[]⟩
  pass : List UInt8 := []
  present : Bool := false
  code : Int := 0
  subs : List (ByteArray × Int) := []
  codes : List Int := []
def subCells (l : List (ByteArray × Int)) : List Value := l.flatMap fun s => [.string s.1, .int .i64 s.2]
def codeCells (l : List Int) : List Value := l.map (Value.int .i64)
theorem subCells_one (l : List (ByteArray × Int)) : ∀ u ∈ subCells l, u.oneCell' = true := fun u hu => by
  unfold subCells at hu
  simp at hu
  obtain ⟨a, b, _, rfl | rfl⟩ := hu <;> rfl
theorem codeCells_one (l : List Int) : ∀ u ∈ codeCells l, u.oneCell' = true := fun u hu => by
  unfold codeCells at hu
  simp at hu
  obtain ⟨a, _, rfl⟩ := hu
  rfl
structure Ad where
  pa : Option Addr
  pc : Nat
  wa : Option Addr
  wc : Nat
  sa : Option Addr
  sc : Nat
  ua : Option Addr
  uc : Nat
  ca : Option Addr
  cc : Nat
def Pk.cells (p : Pk) (s : Ad) : Array Value :=
  #[.int .i64 p.kind, .bool p.dup, .bool p.retain, .int .i64 p.qos, .int .i64 p.id, .string p.topic, .slice s.pa p.pay.length s.pc, .int .i64 p.level, .string p.client, .bool p.clean, .int .i64 p.keep, .bool p.hasWill,
    .string p.wt, .slice s.wa p.wp.length s.wc, .int .i64 p.wq, .bool p.wr, .bool p.hasUser, .bool p.hasPass, .string p.user, .slice s.sa p.pass.length s.sc, .bool p.present, .int .i64 p.code, .slice s.ua p.subs.length s.uc, .slice s.ca p.codes.length s.cc]
structure Pk.Ok (E : List TypeId) (B : Nat) (w : World) (p : Pk) (s : Ad) : Prop where
  pay : Bs E B w s.pa p.pay.length p.pay
  wp : Bs E B w s.wa p.wp.length p.wp
  pass : Bs E B w s.sa p.pass.length p.pass
  subs : Cs E B w s.ua p.subs.length 2 (subCells p.subs)
  codes : Cs E B w s.ca p.codes.length 1 (codeCells p.codes)
section
variable {E : List TypeId} {B : Nat} {w w' : World} {p : Pk} {s : Ad} {cs : Array Value}
abbrev zeroPk : Array Value :=
  #[.int .i64 0, .bool false, .bool false, .int .i64 0, .int .i64 0, .string ⟨#[]⟩, .slice none 0 0, .int .i64 0, .string ⟨#[]⟩, .bool false, .int .i64 0, .bool false,
    .string ⟨#[]⟩, .slice none 0 0, .int .i64 0, .bool false, .bool false, .bool false, .string ⟨#[]⟩, .slice none 0 0, .bool false, .int .i64 0, .slice none 0 0, .slice none 0 0]
end
end Go.Hub
namespace Go.Hub
open Go.Lib
def badL (l : List UInt8) : Bool := (decodeL l).1 == 65533 && (decodeL l).2 == 1
def chkf : Nat → Nat → List UInt8 → Int
  | 0, _, _ => -1
  | f + 1, i, l => if l = [] then -1 else if badL l || (decodeL l).1 == 0 then (i : Int) else chkf f (i + (decodeL l).2) (l.drop (decodeL l).2)
def chk (l : List UInt8) : Int := chkf l.length 0 l
theorem chkf_nil (f i : Nat) : chkf f i [] = -1 := by cases f <;> simp [chkf]
end Go.Hub
namespace Go.Vl
def szN (n : Int) : Nat := if n < 0 ∨ 268435455 < n then 0 else if n < 128 then 1 else if n < 16384 then 2 else if n < 2097152 then 3 else 4
def byteI (n : Int) (i s : Nat) : Int := n / 128 ^ i % 128 + if i + 1 < s then 128 else 0
def byteN (n : Int) (i s : Nat) : UInt8 := UInt8.ofNat (byteI n i s).toNat
def putL (n : Int) : List UInt8 := (List.range (szN n)).map fun i => byteN n i (szN n)
def rd (l : List UInt8) : Nat → Nat → Int → Int × Int × Int
  | 0, _, _ => (0, 0, 21)
  | k + 1, i, acc => match l[i]? with
    | none => (0, 0, 20)
    | some c => if c.toNat < 128 then (if 0 < i ∧ c.toNat = 0 then (0, 0, 21) else (acc + (c.toNat % 128 : Nat) * 128 ^ i, i + 1, 0)) else rd l k (i + 1) (acc + (c.toNat % 128 : Nat) * 128 ^ i)
def readL (l : List UInt8) : Int × Int × Int := rd l 4 0 0
theorem byteI_bd (n : Int) (i s : Nat) : 0 ≤ byteI n i s ∧ byteI n i s < 256 := by
  unfold byteI
  have h1 := Int.emod_nonneg (n / 128 ^ i) (show (128 : Int) ≠ 0 by omega)
  have h2 := Int.emod_lt_of_pos (n / 128 ^ i) (show (0 : Int) < 128 by omega)
  split <;> omega
theorem byteN_toNat (n : Int) (i s : Nat) : ((byteN n i s).toNat : Int) = byteI n i s := by
  have := byteI_bd n i s
  unfold byteN
  rw [UInt8.toNat_ofNat']
  omega
theorem putL_len (n : Int) : (putL n).length = szN n := by simp [putL]
theorem szN_le (n : Int) : szN n ≤ 4 := by unfold szN; (repeat' split) <;> omega
theorem putL_at (n : Int) (i : Nat) (h : i < szN n) : (putL n)[i]? = some (byteN n i (szN n)) := by simp [putL, h]
theorem szN_pos (n : Int) (h : 0 ≤ n ∧ n ≤ 268435455) : 1 ≤ szN n := by unfold szN; rw [if_neg (by omega)]; (repeat' split) <;> omega
end Go.Vl
namespace Go.Vl
theorem rd_go {l : List UInt8} {i k : Nat} {acc : Int} {c : UInt8} (h : l[i]? = some c) (hc : ¬ c.toNat < 128) : rd l (k + 1) i acc = rd l k (i + 1) (acc + (c.toNat % 128 : Nat) * 128 ^ i) := by
  rw [rd, h]; simp only []; rw [if_neg hc]
theorem rd_end {l : List UInt8} {i k : Nat} {acc : Int} {c : UInt8} (h : l[i]? = some c) (hc : c.toNat < 128) (hz : ¬ (0 < i ∧ c.toNat = 0)) : rd l (k + 1) i acc = (acc + (c.toNat % 128 : Nat) * 128 ^ i, (i : Int) + 1, 0) := by
  rw [rd, h]; simp only []; rw [if_pos hc, if_neg hz]
theorem byte_go (n : Int) (i s : Nat) (h : i + 1 < s) : ¬ (byteN n i s).toNat < 128 ∧ (((byteN n i s).toNat % 128 : Nat) : Int) = n / 128 ^ i % 128 := by
  have e := byteN_toNat n i s
  have h1 := Int.emod_nonneg (n / 128 ^ i) (show (128 : Int) ≠ 0 by omega)
  have h2 := Int.emod_lt_of_pos (n / 128 ^ i) (show (0 : Int) < 128 by omega)
  unfold byteI at e
  rw [if_pos h] at e
  generalize n / 128 ^ i % 128 = d at *
  omega
theorem byte_end (n : Int) (i : Nat) : (byteN n i (i + 1)).toNat < 128 ∧ ((byteN n i (i + 1)).toNat : Int) = n / 128 ^ i % 128 := by
  have e := byteN_toNat n i (i + 1)
  have h1 := Int.emod_nonneg (n / 128 ^ i) (show (128 : Int) ≠ 0 by omega)
  have h2 := Int.emod_lt_of_pos (n / 128 ^ i) (show (0 : Int) < 128 by omega)
  unfold byteI at e
  rw [if_neg (by omega)] at e
  generalize n / 128 ^ i % 128 = d at *
  omega
def Begins (l : List UInt8) (n : Int) (j s : Nat) : Prop := ∀ i, i < j → l[i]? = some (byteN n i s)
theorem emod_step (n : Int) (j : Nat) (hj : j < 4) : n % 128 ^ (j + 1) = n % 128 ^ j + n / 128 ^ j % 128 * 128 ^ j := by
  have e0 : (128 : Int) ^ 0 = 1 := rfl
  have e1 : (128 : Int) ^ 1 = 128 := rfl
  have e2 : (128 : Int) ^ 2 = 16384 := rfl
  have e3 : (128 : Int) ^ 3 = 2097152 := rfl
  have e4 : (128 : Int) ^ 4 = 268435456 := rfl
  match j, hj with
  | 0, _ => rw [show 0 + 1 = 1 from rfl, e0, e1]; omega
  | 1, _ => rw [show 1 + 1 = 2 from rfl, e1, e2]; omega
  | 2, _ => rw [show 2 + 1 = 3 from rfl, e2, e3]; omega
  | 3, _ => rw [show 3 + 1 = 4 from rfl, e3, e4]; omega
theorem rd_walk (l : List UInt8) (n : Int) (s : Nat) (hs : s ≤ 4) : ∀ j, j < s → Begins l n j s → readL l = rd l (4 - j) j (n % 128 ^ j)
  | 0, _, _ => by
    have : n % 128 ^ 0 = 0 := by rw [show (128 : Int) ^ 0 = 1 from rfl]; omega
    rw [this]; rfl
  | j + 1, hj, hb => by
    rw [rd_walk l n s hs j (by omega) (fun i hi => hb i (by omega)), show 4 - j = (4 - (j + 1)) + 1 from by omega]
    have hg := byte_go n j s hj
    rw [rd_go (hb j (by omega)) hg.1, hg.2]
    rw [emod_step n j (by omega)]
theorem read_back (l : List UInt8) (n : Int) (h : 0 ≤ n ∧ n ≤ 268435455) (hb : Begins l n (szN n) (szN n)) : readL l = (n, (szN n : Int), 0) := by
  obtain ⟨s, hs⟩ : ∃ s, szN n = s + 1 := ⟨szN n - 1, by have := szN_pos n h; omega⟩
  have h4 := szN_le n
  rw [hs] at hb h4
  rw [rd_walk l n (s + 1) h4 s (by omega) (fun i hi => hb i (by omega)), show 4 - s = (3 - s) + 1 from by omega, hs]
  have he := byte_end n s
  rw [rd_end (hb s (by omega)) he.1]
  · have hm : (byteN n s (s + 1)).toNat % 128 = (byteN n s (s + 1)).toNat := Nat.mod_eq_of_lt he.1
    rw [hm, he.2]
    have hv : n % 128 ^ s + n / 128 ^ s % 128 * 128 ^ s = n := by
      have hlt : n < 128 ^ (s + 1) := by
        match s, hs with
        | 0, hs => simp; unfold szN at hs; (repeat' split at hs) <;> omega
        | 1, hs => simp; unfold szN at hs; (repeat' split at hs) <;> omega
        | 2, hs => simp; unfold szN at hs; (repeat' split at hs) <;> omega
        | 3, hs => simp; omega
        | s + 4, hs => omega
      have h2 : n % 128 ^ (s + 1) = n := Int.emod_eq_of_lt h.1 hlt
      rw [emod_step n s (by omega)] at h2
      exact h2
    rw [hv]
    simp
  rintro ⟨hp, hz⟩
  have hz2 : n / 128 ^ s % 128 = 0 := by omega
  match s, hp, hs, hz2 with
  | 1, _, hs, hz2 => simp at hz2; unfold szN at hs; (repeat' split at hs) <;> omega
  | 2, _, hs, hz2 => simp at hz2; unfold szN at hs; (repeat' split at hs) <;> omega
  | 3, _, hs, hz2 => simp at hz2; unfold szN at hs; (repeat' split at hs) <;> omega
  | s + 4, _, hs, _ => omega
theorem begins_put (n : Int) (l : List UInt8) : Begins (putL n ++ l) n (szN n) (szN n) := fun i hi => by
  rw [List.getElem?_append_left (by rw [putL_len]; exact hi)]
  exact putL_at n i hi
end Go.Vl
namespace Go.Hub
open Go.Vl
def b8 (x : Int) : UInt8 := UInt8.ofNat (x % 256).toNat
theorem b8_val (x : Int) : ((b8 x).toNat : Int) = x % 256 := by
  unfold b8
  rw [UInt8.toNat_ofNat']
  omega
def twoL (n : Int) : List UInt8 := [b8 (n / 256), b8 n]
def lumpL (l : List UInt8) : List UInt8 := twoL l.length ++ l
def flg (b : Bool) (n : Int) : Int := if b then n else 0
def inB (v a b : Int) : Bool := decide (a ≤ v) && decide (v ≤ b)
def txB (s : ByteArray) : Bool := decide (s.size ≤ 65535) && decide (chk s.toList < 0)
def numB (p : Pk) : Bool := if p.kind = 3 then decide (0 < p.qos) else inB p.kind 4 11
abbrev em : ByteArray := ⟨#[]⟩
abbrev mqtt : ByteArray := ⟨#[77, 81, 84, 84]⟩
def bareP (p : Pk) : Pk :=
  if p.kind = 1 then { kind := p.kind, level := p.level, client := p.client, clean := p.clean, keep := p.keep, hasWill := p.hasWill, hasUser := p.hasUser, hasPass := p.hasPass, wt := (if p.hasWill then p.wt else em), wp := (if p.hasWill then p.wp else []), wq := (if p.hasWill then p.wq else 0), wr := (if p.hasWill then p.wr else false), user := (if p.hasUser then p.user else em), pass := (if p.hasPass then p.pass else []) }
  else if p.kind = 2 then { kind := p.kind, present := p.present, code := p.code }
  else if p.kind = 3 then { kind := p.kind, id := if 0 < p.qos then p.id else 0, dup := p.dup && decide (0 < p.qos), retain := p.retain, qos := p.qos, topic := p.topic, pay := p.pay }
  else if p.kind = 8 ∨ p.kind = 10 then { kind := p.kind, id := p.id, subs := p.subs }
  else if p.kind = 9 then { kind := p.kind, id := p.id, codes := p.codes }
  else if numB p then { kind := p.kind, id := p.id } else { kind := p.kind }
def samePk (p q : Pk) : Bool :=
  decide (p.kind = q.kind) && (p.dup == q.dup) && (p.retain == q.retain) && decide (p.qos = q.qos) && decide (p.id = q.id) && decide (p.topic = q.topic) && decide (p.pay = q.pay) &&
  (decide (p.level = q.level) && decide (p.client = q.client) && (p.clean == q.clean) && decide (p.keep = q.keep) && (p.hasWill == q.hasWill) && (p.hasUser == q.hasUser) && (p.hasPass == q.hasPass) && decide (p.user = q.user) && decide (p.pass = q.pass) && (p.present == q.present) && decide (p.code = q.code)) &&
  (decide (p.wt = q.wt) && decide (p.wp = q.wp) && decide (p.wq = q.wq) && (p.wr == q.wr)) && decide (p.subs = q.subs) && decide (p.codes = q.codes)
theorem samePk_iff {p q : Pk} : samePk p q = true ↔ p = q := by
  constructor
  · intro h
    simp only [samePk, Bool.and_eq_true, decide_eq_true_eq, beq_iff_eq] at h
    cases p; cases q
    simp only at h
    simp only [Pk.mk.injEq]
    simp only [h, and_self]
  rintro rfl
  simp [samePk]
theorem samePk_f {p q : Pk} (h : p ≠ q) : samePk p q = false := by
  cases e : samePk p q
  · rfl
  exact absurd (samePk_iff.1 e) h
def subB (m : Int) (l : List (ByteArray × Int)) : Bool := l.all fun x => txB x.1 && inB x.2 0 m
def codB (l : List Int) : Bool := l.all fun c => inB c 0 2 || decide (c = 128)
def valB (p : Pk) : Bool :=
  (!numB p || inB p.id 1 65535) &&
  (if p.kind = 1 then inB p.level 0 255 && inB p.keep 0 65535 && txB p.client && txB p.wt && decide (p.wp.length ≤ 65535) && inB p.wq 0 2 && txB p.user && decide (p.pass.length ≤ 65535) && (p.hasUser || !p.hasPass)
   else if p.kind = 2 then inB p.code 0 5 && (decide (p.code = 0) || !p.present)
   else if p.kind = 3 then inB p.qos 0 2 && txB p.topic
   else if p.kind = 8 then subB 2 p.subs && decide (0 < p.subs.length)
   else if p.kind = 10 then subB 0 p.subs && decide (0 < p.subs.length)
   else if p.kind = 9 then decide (0 < p.codes.length) && codB p.codes
   else true)
def flagsI (p : Pk) : Int := flg p.clean 2 + flg p.hasWill 4 + p.wq * 8 + flg p.wr 32 + flg p.hasPass 64 + flg p.hasUser 128
def connL (p : Pk) : List UInt8 :=
  lumpL mqtt.toList ++ [b8 p.level, b8 (flagsI p)] ++ twoL p.keep ++ lumpL p.client.toList ++ (if p.hasWill then lumpL p.wt.toList ++ lumpL p.wp else []) ++ (if p.hasUser then lumpL p.user.toList else []) ++ (if p.hasPass then lumpL p.pass else [])
def subL (k : Int) (x : ByteArray × Int) : List UInt8 := lumpL x.1.toList ++ (if k = 8 then [b8 x.2] else [])
def behindL (p : Pk) : List UInt8 :=
  if p.kind = 1 then connL p
  else if p.kind = 2 then [b8 (flg p.present 1), b8 p.code]
  else (if p.kind = 3 then lumpL p.topic.toList else []) ++ (if numB p then twoL p.id else []) ++ p.subs.flatMap (subL p.kind) ++ p.codes.map b8 ++ p.pay
def firstI (p : Pk) : Int :=
  p.kind * 16 + (if p.kind = 6 ∨ p.kind = 8 ∨ p.kind = 10 then 2 else if p.kind = 3 then flg p.dup 8 + 2 * p.qos + flg p.retain 1 else 0)
def rightB (p : Pk) : Bool := inB p.kind 1 14 && samePk p (bareP p) && valB p && decide ((behindL p).length ≤ 8192)
def encL (p : Pk) : List UInt8 := b8 (firstI p) :: putL (behindL p).length ++ behindL p
def rightR (p : Pk) : Bool :=
  inB p.kind 1 14 && samePk p (bareP p) && (!numB p || inB p.id 1 65535) && inB p.qos 0 2 && txB p.topic && txB p.client && txB p.user && txB p.wt && inB p.wq 0 2 && decide (p.wp.length ≤ 65535) && decide (p.pass.length ≤ 65535) &&
  inB p.level 0 255 && inB p.keep 0 65535 && (!p.hasPass || p.hasUser) && inB p.code 0 5 && (!p.present || decide (p.code = 0)) &&
  (p.subs.all fun x => txB x.1 && inB x.2 0 2 && (!decide (p.kind = 10) || decide (x.2 = 0))) && codB p.codes && (!(decide (p.kind = 8 ∨ p.kind = 10)) || decide (0 < p.subs.length)) && (!decide (p.kind = 9) || decide (0 < p.codes.length)) &&
  decide ((behindL p).length ≤ 8192)
def bodyR (p : Pk) : List UInt8 :=
  if p.kind = 1 then connL p
  else if p.kind = 2 then [b8 (flg p.present 1), b8 p.code]
  else if p.kind = 3 then lumpL p.topic.toList ++ (if 0 < p.qos then twoL p.id else []) ++ p.pay
  else if inB p.kind 12 14 then []
  else twoL p.id ++ p.subs.flatMap (subL p.kind) ++ p.codes.map b8
theorem inB_iff {v a b : Int} : inB v a b = true ↔ a ≤ v ∧ v ≤ b := by simp [inB]
theorem txB_em : txB em = true := by unfold txB; simp only [Bool.and_eq_true, decide_eq_true_eq]; exact ⟨by decide, by simp [chk, chkf, ByteArray.toList_eq]⟩
theorem kind_cases {k : Int} (h : inB k 1 14 = true) : k = 1 ∨ k = 2 ∨ k = 3 ∨ k = 4 ∨ k = 5 ∨ k = 6 ∨ k = 7 ∨ k = 8 ∨ k = 9 ∨ k = 10 ∨ k = 11 ∨ k = 12 ∨ k = 13 ∨ k = 14 := by
  have := inB_iff.1 h
  omega
theorem body_is (p : Pk) (hk : inB p.kind 1 14 = true) (hs : p = bareP p) : bodyR p = behindL p := by
  unfold bodyR behindL
  rcases kind_cases hk with h | h | h | h | h | h | h | h | h | h | h | h | h | h <;> rw [h] <;> simp [numB, h, inB]
  · have h1 : p.subs = [] := by rw [hs]; simp [bareP, h]
    have h2 : p.codes = [] := by rw [hs]; simp [bareP, h]
    simp [h1, h2]
  all_goals
    have h3 : p.pay = [] := by rw [hs]; simp [bareP, h, numB, inB]
    first
    | exact h3
    | (have h1 : p.subs = [] := by rw [hs]; simp [bareP, h, numB, inB]
       have h2 : p.codes = [] := by rw [hs]; simp [bareP, h, numB, inB]
       simp [h1, h2, h3])
end Go.Hub
namespace Go.Hub
open Go.Vl
structure Rd where
  l : List UInt8
  lk : Bool
def Rd.take (r : Rd) (n : Nat) : List UInt8 × Rd := if r.l.length < n then (List.replicate n 0, ⟨[], true⟩) else (r.l.take n, ⟨r.l.drop n, r.lk⟩)
def Rd.one (r : Rd) : Int × Rd := (((r.take 1).1.getD 0 0).toNat, (r.take 1).2)
def Rd.two (r : Rd) : Int × Rd := (((r.take 2).1.getD 0 0).toNat * 256 + ((r.take 2).1.getD 1 0).toNat, (r.take 2).2)
def Rd.lump (r : Rd) : List UInt8 × Rd := r.two.2.take r.two.1.toNat
def Rd.text (r : Rd) : ByteArray × Rd := (⟨r.lump.1.toArray⟩, r.lump.2)
def bitI (f n : Int) : Bool := decide (f / n % 2 = 1)
def connWill (f : Int) (p : Pk) (r : Rd) : Pk × Rd :=
  if p.hasWill then ({ p with wt := r.text.1, wp := r.text.2.lump.1, wq := f / 8 % 4, wr := bitI f 32 }, r.text.2.lump.2) else (p, r)
def connUser (p : Pk) (r : Rd) : Pk × Rd := if p.hasUser then ({ p with user := r.text.1 }, r.text.2) else (p, r)
def connPass (p : Pk) (r : Rd) : Pk × Rd := if p.hasPass then ({ p with pass := r.lump.1 }, r.lump.2) else (p, r)
def connHead (p : Pk) (r : Rd) : (Int × Pk) × Rd :=
  let t := r.text
  let lv := Rd.one ⟨t.2.l, !decide (t.1 = mqtt) || t.2.lk⟩
  let f := lv.2.one
  let kp := f.2.two
  let cl := kp.2.text
  ((f.1, { p with level := lv.1, keep := kp.1, client := cl.1, clean := bitI f.1 2, hasWill := bitI f.1 4, hasUser := bitI f.1 128, hasPass := bitI f.1 64 }), cl.2)
def connP (p : Pk) (r : Rd) : Pk × Rd :=
  let h := connHead p r
  let w := connWill h.1.1 h.1.2 h.2
  let u := connUser w.1 w.2
  connPass u.1 u.2
def loopP : Nat → Pk → Rd → Pk × Rd
  | 0, p, r => (p, r)
  | n + 1, p, r =>
    if r.l = [] then (p, r)
    else if p.kind = 3 then loopP n { p with pay := (r.take r.l.length).1 } (r.take r.l.length).2
    else if p.kind = 8 then loopP n { p with subs := p.subs ++ [(r.text.1, r.text.2.one.1)] } r.text.2.one.2
    else if p.kind = 10 then loopP n { p with subs := p.subs ++ [(r.text.1, 0)] } r.text.2
    else if p.kind = 9 then loopP n { p with codes := p.codes ++ [r.one.1] } r.one.2
    else loopP n p ⟨[], true⟩
def headP (p : Pk) (r : Rd) : Pk × Rd :=
  if p.kind = 1 then connP p r
  else if p.kind = 2 then ({ p with present := decide (r.one.1 = 1), code := r.one.2.one.1 }, r.one.2.one.2)
  else if p.kind = 3 then ({ p with topic := r.text.1 }, r.text.2) else (p, r)
def idP (p : Pk) (r : Rd) : Pk × Rd := if numB p then ({ p with id := r.two.1 }, r.two.2) else (p, r)
def restP (p : Pk) (r : Rd) : Pk × Rd :=
  let h := headP p r
  let i := idP h.1 h.2
  loopP i.2.l.length i.1 i.2
def begunP (c : Int) : Pk := if c / 16 = 3 then { kind := 3, dup := bitI c 8, qos := c / 2 % 4, retain := bitI c 1 } else { kind := c / 16 }
def begunB (c : Int) : Bool := if c / 16 = 3 then decide (c / 2 % 4 < 3) && (decide (0 < c / 2 % 4) || !bitI c 8) else inB (c / 16) 1 14 && decide (firstI { kind := c / 16 } = c)
def readP (b : List UInt8) : Pk × Int × Int :=
  match b with
  | [] => ({}, 0, 20)
  | c :: t =>
    if begunB c.toNat = false then ({}, 0, 21) else
    let v := readL t
    if v.2.2 ≠ 0 then ({}, 0, v.2.2) else if 8192 < v.1 then ({}, 0, 22) else if (t.length : Int) < v.2.1 + v.1 then ({}, 0, 20) else
    let q := restP (begunP c.toNat) ⟨(t.drop v.2.1.toNat).take v.1.toNat, false⟩
    if q.2.lk = false ∧ rightB q.1 = true ∧ encL q.1 = c :: t.take (v.2.1 + v.1).toNat then (q.1, 1 + v.2.1 + v.1, 0) else ({}, 0, 21)
section
variable (lk : Bool) (y : List UInt8)
theorem twoL_len (n : Int) : (twoL n).length = 2 := rfl
theorem take_app (x : List UInt8) : Rd.take ⟨x ++ y, lk⟩ x.length = (x, ⟨y, lk⟩) := by
  unfold Rd.take
  rw [if_neg (by simp)]
  simp
theorem one_app (v : Int) (h : 0 ≤ v ∧ v ≤ 255) : Rd.one ⟨b8 v :: y, lk⟩ = (v, ⟨y, lk⟩) := by
  have := take_app lk y [b8 v]
  have e : Rd.take ⟨b8 v :: y, lk⟩ 1 = ([b8 v], ⟨y, lk⟩) := this
  unfold Rd.one
  rw [e]
  simp [b8_val]
  omega
theorem two_app (n : Int) (h : 0 ≤ n ∧ n ≤ 65535) : Rd.two ⟨twoL n ++ y, lk⟩ = (n, ⟨y, lk⟩) := by
  have e := take_app lk y (twoL n)
  rw [twoL_len] at e
  unfold Rd.two
  rw [e]
  simp [twoL, b8_val]
  omega
theorem lump_app (x : List UInt8) (h : x.length ≤ 65535) : Rd.lump ⟨lumpL x ++ y, lk⟩ = (x, ⟨y, lk⟩) := by
  unfold Rd.lump lumpL
  rw [List.append_assoc, two_app lk (x ++ y) x.length (by omega)]
  exact take_app lk y x
theorem bytes_back (s : ByteArray) : (⟨s.toList.toArray⟩ : ByteArray) = s := by rw [ByteArray.toList_eq]
theorem bytes_len (s : ByteArray) : s.toList.length = s.size := by rw [ByteArray.toList_eq]; rfl
theorem text_app (s : ByteArray) (h : s.size ≤ 65535) : Rd.text ⟨lumpL s.toList ++ y, lk⟩ = (s, ⟨y, lk⟩) := by
  unfold Rd.text
  rw [lump_app lk y s.toList (by rw [bytes_len]; exact h)]
  simp [bytes_back]
end
end Go.Hub
namespace Go.Hub
open Go.Vl
theorem bits_flags : ∀ cl hw wr hp hu : Bool, ∀ q ∈ ([0, 1, 2] : List Int),
    let f := flg cl 2 + flg hw 4 + q * 8 + flg wr 32 + flg hp 64 + flg hu 128
    (0 ≤ f ∧ f ≤ 255) ∧ bitI f 2 = cl ∧ bitI f 4 = hw ∧ bitI f 32 = wr ∧ bitI f 64 = hp ∧ bitI f 128 = hu ∧ f / 8 % 4 = q := by decide
theorem flags_facts (p : Pk) (h : 0 ≤ p.wq ∧ p.wq ≤ 2) : (0 ≤ flagsI p ∧ flagsI p ≤ 255) ∧ bitI (flagsI p) 2 = p.clean ∧ bitI (flagsI p) 4 = p.hasWill ∧ bitI (flagsI p) 32 = p.wr ∧ bitI (flagsI p) 64 = p.hasPass ∧ bitI (flagsI p) 128 = p.hasUser ∧ flagsI p / 8 % 4 = p.wq := by
  have := bits_flags p.clean p.hasWill p.wr p.hasPass p.hasUser p.wq (by have : p.wq = 0 ∨ p.wq = 1 ∨ p.wq = 2 := by omega
                                                                         simpa using this)
  exact this
theorem mqtt_len : mqtt.size ≤ 65535 := by decide
theorem connHead_app (q : Pk) (lv f kp : Int) (cl : ByteArray) (y : List UInt8) (h1 : 0 ≤ lv ∧ lv ≤ 255) (h2 : 0 ≤ f ∧ f ≤ 255) (h3 : 0 ≤ kp ∧ kp ≤ 65535) (h4 : cl.size ≤ 65535) :
    connHead q ⟨lumpL mqtt.toList ++ (b8 lv :: b8 f :: (twoL kp ++ (lumpL cl.toList ++ y))), false⟩ = ((f, { q with level := lv, keep := kp, client := cl, clean := bitI f 2, hasWill := bitI f 4, hasUser := bitI f 128, hasPass := bitI f 64 }), ⟨y, false⟩) := by
  simp only [connHead, text_app _ _ mqtt mqtt_len, one_app _ _ lv h1, one_app _ _ f h2, two_app _ _ kp h3, text_app _ _ cl h4, decide_true, Bool.not_true, Bool.or_self]
structure ConnOk (p : Pk) : Prop where
  lv : 0 ≤ p.level ∧ p.level ≤ 255
  kp : 0 ≤ p.keep ∧ p.keep ≤ 65535
  cl : p.client.size ≤ 65535
  wt : p.wt.size ≤ 65535
  wp : p.wp.length ≤ 65535
  wq : 0 ≤ p.wq ∧ p.wq ≤ 2
  us : p.user.size ≤ 65535
  pa : p.pass.length ≤ 65535
theorem connL_eq (p : Pk) : connL p = lumpL mqtt.toList ++ (b8 p.level :: b8 (flagsI p) :: (twoL p.keep ++ (lumpL p.client.toList ++ ((if p.hasWill then lumpL p.wt.toList ++ lumpL p.wp else []) ++ ((if p.hasUser then lumpL p.user.toList else []) ++ (if p.hasPass then lumpL p.pass else [])))))) := by
  simp only [connL, List.append_assoc, List.cons_append, List.nil_append]
theorem conn_back (p : Pk) (h : ConnOk p) (hk : p.kind = 1) (hs : p = bareP p) : connP { kind := 1 } ⟨connL p, false⟩ = (p, ⟨[], false⟩) := by
  obtain ⟨hf, b2, b4, b32, b64, b128, b8q⟩ := flags_facts p h.wq
  rw [connL_eq]
  unfold connP
  simp only [connHead_app _ _ _ _ _ _ h.lv hf h.kp h.cl, b2, b4, b64, b128, connWill, b32, b8q]
  cases hw : p.hasWill <;> cases hu : p.hasUser <;> cases hp : p.hasPass <;>
    simp only [if_true, if_false, Bool.false_eq_true, List.nil_append, List.append_assoc, connUser, connPass, text_app _ _ p.wt h.wt, lump_app _ _ p.wp h.wp, text_app _ _ p.user h.us, lump_app _ _ p.pass h.pa] <;>
    first
    | (have e := lump_app false [] p.pass h.pa
       rw [List.append_nil] at e
       simp only [e]
       rw [Prod.mk.injEq]
       refine ⟨?_, rfl⟩
       conv => rhs; rw [hs]
       simp [bareP, hk, hw, hu, hp])
    | (have e := text_app false [] p.user h.us
       rw [List.append_nil] at e
       simp only [e]
       rw [Prod.mk.injEq]
       refine ⟨?_, rfl⟩
       conv => rhs; rw [hs]
       simp [bareP, hk, hw, hu, hp])
    | (have e := lump_app false [] p.wp h.wp
       rw [List.append_nil] at e
       simp only [e]
       rw [Prod.mk.injEq]
       refine ⟨?_, rfl⟩
       conv => rhs; rw [hs]
       simp [bareP, hk, hw, hu, hp])
    | (rw [Prod.mk.injEq]
       refine ⟨?_, rfl⟩
       conv => rhs; rw [hs]
       simp [bareP, hk, hw, hu, hp])
theorem lumpL_len (x : List UInt8) : (lumpL x).length = 2 + x.length := by simp [lumpL, twoL]; omega
theorem lumpL_ne (x y : List UInt8) : lumpL x ++ y ≠ [] := by simp [lumpL, twoL]
theorem loop_nil (n : Nat) (p : Pk) (lk : Bool) : loopP n p ⟨[], lk⟩ = (p, ⟨[], lk⟩) := by cases n <;> simp [loopP]
theorem subs_back8 : ∀ (l : List (ByteArray × Int)) (n : Nat) (p : Pk), p.kind = 8 → (∀ x ∈ l, x.1.size ≤ 65535 ∧ 0 ≤ x.2 ∧ x.2 ≤ 255) → (l.flatMap (subL 8)).length ≤ n → loopP n p ⟨l.flatMap (subL 8), false⟩ = ({ p with subs := p.subs ++ l }, ⟨[], false⟩)
  | [], n, p, _, _, _ => by simp [loop_nil]
  | x :: r, n, p, hk, hl, hn => by
    have e : (x :: r).flatMap (subL 8) = lumpL x.1.toList ++ (b8 x.2 :: r.flatMap (subL 8)) := by simp [subL]
    rw [e] at hn ⊢
    match n, hn with
    | 0, hn => rw [List.length_append, lumpL_len] at hn; omega
    | n + 1, hn =>
      rw [List.length_append, lumpL_len, List.length_cons] at hn
      have hx := hl x (by simp)
      unfold loopP
      rw [if_neg (lumpL_ne _ _), if_neg (by omega), if_pos hk, text_app _ _ x.1 hx.1]
      simp only
      rw [one_app _ _ x.2 hx.2]
      simp only
      rw [subs_back8 r n _ (by exact hk) (fun y hy => hl y (by simp [hy])) (by omega)]
      simp
theorem subs_back10 : ∀ (l : List (ByteArray × Int)) (n : Nat) (p : Pk), p.kind = 10 → (∀ x ∈ l, x.1.size ≤ 65535 ∧ x.2 = 0) → (l.flatMap (subL 10)).length ≤ n → loopP n p ⟨l.flatMap (subL 10), false⟩ = ({ p with subs := p.subs ++ l }, ⟨[], false⟩)
  | [], n, p, _, _, _ => by simp [loop_nil]
  | x :: r, n, p, hk, hl, hn => by
    have e : (x :: r).flatMap (subL 10) = lumpL x.1.toList ++ r.flatMap (subL 10) := by simp [subL]
    rw [e] at hn ⊢
    match n, hn with
    | 0, hn => rw [List.length_append, lumpL_len] at hn; omega
    | n + 1, hn =>
      rw [List.length_append, lumpL_len] at hn
      have hx := hl x (by simp)
      unfold loopP
      rw [if_neg (lumpL_ne _ _), if_neg (by omega), if_neg (by omega), if_pos hk, text_app _ _ x.1 hx.1]
      simp only
      rw [subs_back10 r n _ (by exact hk) (fun y hy => hl y (by simp [hy])) (by omega)]
      rcases x with ⟨a, b⟩
      simp at hx
      simp [hx.2]
theorem codes_back : ∀ (l : List Int) (n : Nat) (p : Pk), p.kind = 9 → (∀ x ∈ l, 0 ≤ x ∧ x ≤ 255) → (l.map b8).length ≤ n → loopP n p ⟨l.map b8, false⟩ = ({ p with codes := p.codes ++ l }, ⟨[], false⟩)
  | [], n, p, _, _, _ => by simp [loop_nil]
  | x :: r, n, p, hk, hl, hn => by
    match n, hn with
    | 0, hn => simp at hn
    | n + 1, hn =>
      unfold loopP
      rw [if_neg (by simp), if_neg (by omega), if_neg (by omega), if_neg (by omega), if_pos hk]
      simp only [List.map_cons]
      rw [one_app _ _ x (hl x (by simp))]
      simp only
      rw [codes_back r n _ (by exact hk) (fun y hy => hl y (by simp [hy])) (by simpa using hn)]
      simp
end Go.Hub
namespace Go.Hub
open Go.RowKit
structure Pk.In (w : World) (p : Pk) (s : Ad) : Prop where
  pay : Sl w s.pa p.pay.length 1 (p.pay.map u8)
  wp : Sl w s.wa p.wp.length 1 (p.wp.map u8)
  pass : Sl w s.sa p.pass.length 1 (p.pass.map u8)
  subs : Sl w s.ua p.subs.length 2 (subCells p.subs)
  codes : Sl w s.ca p.codes.length 1 (codeCells p.codes)
structure Pk.Len (p : Pk) : Prop where
  pay : p.pay.length ≤ 1000000
  wp : p.wp.length ≤ 1000000
  pass : p.pass.length ≤ 1000000
  subs : p.subs.length ≤ 1000000
  codes : p.codes.length ≤ 1000000
  topic : p.topic.size ≤ 1000000
  client : p.client.size ≤ 1000000
  wt : p.wt.size ≤ 1000000
  user : p.user.size ≤ 1000000
  each : ∀ x ∈ p.subs, x.1.size ≤ 1000000
section
variable {w w' : World} {p q : Pk} {s t : Ad}
theorem Pk.In.kept (h : p.In w s) (hk : Kept [] w w') : p.In w' s := ⟨h.pay.kept hk, h.wp.kept hk, h.pass.kept hk, h.subs.kept hk, h.codes.kept hk⟩
theorem Pk.In.zero (w : World) : Pk.In w {} ⟨none, 0, none, 0, none, 0, none, 0, none, 0⟩ := ⟨Sl.nil _ _ _, Sl.nil _ _ _, Sl.nil _ _ _, Sl.nil _ _ _, Sl.nil _ _ _⟩
abbrev s0 : Ad := ⟨none, 0, none, 0, none, 0, none, 0, none, 0⟩
theorem Pk.Len.zero : Pk.Len {} := ⟨by simp, by simp, by simp, by simp, by simp, by decide, by decide, by decide, by decide, by simp⟩
theorem subCells_at (l : List (ByteArray × Int)) (i : Nat) (x : ByteArray × Int) (h : l[i]? = some x) : (subCells l)[i * 2]? = some (.string x.1) ∧ (subCells l)[i * 2 + 1]? = some (.int .i64 x.2) := by
  have e1 := flat_at (fun s : ByteArray × Int => [Value.string s.1, .int .i64 s.2]) 2 (fun _ => rfl) l i x h 0 (.string x.1) rfl
  have e2 := flat_at (fun s : ByteArray × Int => [Value.string s.1, .int .i64 s.2]) 2 (fun _ => rfl) l i x h 1 (.int .i64 x.2) rfl
  exact ⟨e1, e2⟩
theorem codeCells_at (l : List Int) (i : Nat) (x : Int) (h : l[i]? = some x) : (codeCells l)[i]? = some (.int .i64 x) := by simp [codeCells, h]
theorem some_at {α : Type} (l : List α) (i : Nat) (h : i < l.length) : ∃ x, l[i]? = some x := ⟨l[i], by simp [h]⟩
theorem sub_row {A : Option Addr} {l : List (ByteArray × Int)} (h : Sl w A l.length 2 (subCells l)) {b off i : Nat} {x : ByteArray × Int} (hA : A = some ⟨b, off, none⟩) (hx : l[i]? = some x) : w.rangeAt b (off + i * 2) [.string x.1, .int .i64 x.2] := by
  have hi : i < l.length := (List.getElem?_eq_some_iff.1 hx).1
  refine h.row (by omega) hA fun j u hj => ?_
  obtain ⟨h1, h2⟩ := subCells_at l i x hx
  match j, hj with
  | 0, hj => simp at hj; subst hj; exact h1
  | 1, hj => simp at hj; subst hj; exact h2
  | j + 2, hj => simp at hj
theorem code_cell {A : Option Addr} {l : List Int} (h : Sl w A l.length 1 (codeCells l)) {b off i : Nat} {x : Int} (hA : A = some ⟨b, off, none⟩) (hx : l[i]? = some x) : w.cell? ⟨b, off + i, none⟩ = some (.int .i64 x) := by
  have hi : i < l.length := (List.getElem?_eq_some_iff.1 hx).1
  exact h.cell (by omega) hA (codeCells_at l i x hx)
theorem byte_cell {A : Option Addr} {l : List UInt8} (h : Sl w A l.length 1 (l.map u8)) {b off i : Nat} {x : UInt8} (hA : A = some ⟨b, off, none⟩) (hx : l[i]? = some x) : w.cell? ⟨b, off + i, none⟩ = some (.int .u8 x.toNat) := by
  have hi : i < l.length := (List.getElem?_eq_some_iff.1 hx).1
  exact h.cell (by omega) hA (by simp [hx, u8])
end
theorem bytes_eq {a b : List UInt8} : (⟨a.toArray⟩ : ByteArray) = ⟨b.toArray⟩ ↔ a = b := by
  constructor
  · intro h
    have := congrArg (fun x : ByteArray => x.data.toList) h
    simpa using this
  rintro rfl; rfl
theorem wrap_u8 (x : Int) : IntKind.u8.wrap x = x % 256 := by simp [IntKind.wrap_u8]
theorem u8_b8 (x : Int) : u8 (b8 x) = .int .u8 (x % 256) := by unfold u8; rw [b8_val]
end Go.Hub
namespace Go.Proofs.YtigjafbbnocihaaDoor
open Go.RowKit Go.Hub Go.Lib Go.Vl
theorem wsz3_wa : (Tryd.prog.info? 3).map (·.size) = some 1 := by kernel_rfl
theorem wzib5_wa : (Tryd.prog.info? 5).map (fun i => (i.zero, i.size, i.bytes)) = some (some (.int .u8 0), 1, 1) := by kernel_rfl
theorem wsz5_wa : (Tryd.prog.info? 5).map (·.size) = some 1 := by kernel_rfl
theorem wzi5_wa : (Tryd.prog.info? 5).map (fun i => (i.zero, i.size)) = some (some (.int .u8 0), 1) := by kernel_rfl
theorem wbs22_2_wa (x0 : Int) (x1 : Int) : Instr.fill (fun i => some (i * 1, 1)) ((Array.range (2 * 1)).map fun j => (Value.cells (.int .u8 0))[j % (Value.cells (.int .u8 0)).size]!) [(0, .int .u8 x0), (1, .int .u8 x1)] = some #[.int .u8 x0, .int .u8 x1] := by kernel_rfl
theorem wsz4_wa : (Tryd.prog.info? 4).map (·.size) = some 1 := by kernel_rfl
theorem wsz9_wa : (Tryd.prog.info? 9).map (·.size) = some 1 := by kernel_rfl
theorem wsz22_wa : (Tryd.prog.info? 22).map (·.size) = some 1 := by kernel_rfl
theorem wsz70_wa : (Tryd.prog.info? 70).map (·.size) = some 2 := by kernel_rfl
theorem numB_3 {p : Pk} (h : p.kind = 3) : numB p = decide (0 < p.qos) := by simp [numB, h]
theorem numB_t {p : Pk} (h : 4 ≤ p.kind ∧ p.kind ≤ 11) : numB p = true := by unfold numB; rw [if_neg (by omega)]; simp [inB]; omega
theorem numB_f {p : Pk} (h : ¬ p.kind = 3) (h2 : ¬ (4 ≤ p.kind ∧ p.kind ≤ 11)) : numB p = false := by unfold numB; rw [if_neg h]; simp [inB]; omega
def NewB (l : List UInt8) (w : World) (e : Ending) (w' : World) : Prop := Kept [] w w' ∧ ∃ A c, e = .returned (.slice A l.length c) ∧ Fresh w w' 5 1 A l.length c (l.map u8)
def AppPost (w : World) (A : Option Addr) (k c : Nat) (xs : List Value) (b : List UInt8) (e : Ending) (w' : World) : Prop := ∃ A' c', e = .returned (.slice A' (k + b.length) c') ∧ App w w' 5 1 A k c xs (b.map u8) b.length A' c'
theorem _root_.Go.Hub.App.pre {w w1 w' : World} {e size k c m c' : Nat} {A A' : Option Addr} {xs news : List Value} (h : App w1 w' e size A k c xs news m A' c') (hk : Kept [] w w1) : App w w' e size A k c xs news m A' c' :=
  ⟨h.own, (hk.mono (L' := (Value.slice A k c).ownBlock.toList) (by simp)).trans h.kept (fun x hx _ => hx), fun b hb => (h.where_ b hb).imp id fun hl => Nat.le_trans hk.size hl⟩
theorem _root_.Go.Hub.App.seq {w w1 w' : World} {e size k c m c1 m2 c2 : Nat} {A A1 A2 : Option Addr} {xs n1 n2 : List Value} (h : App w w1 e size A k c xs n1 m A1 c1) (h2 : App w1 w' e size A1 (k + m) c1 (xs ++ n1) n2 m2 A2 c2) : App w w' e size A k c xs (n1 ++ n2) (m + m2) A2 c2 :=
  ⟨by rw [← List.append_assoc, ← Nat.add_assoc]; exact h2.own, h.kept.trans h2.kept fun x hx hlt => by
      have hb : A1.map (·.block) = some x := (own_block A1 (k + m) c1 x).1 (by simpa using hx)
      rcases h.where_ x hb with h3 | h3
      · have := (own_block A k c x).2 h3
        simpa using this
      omega,
   fun b hb => by
      rcases h2.where_ b hb with h3 | h3
      · exact h.where_ b h3
      exact .inr (Nat.le_trans h.kept.size h3)⟩
theorem _root_.Go.Hub.Blk.sl1 {w : World} {g : Nat} {t : TypeId} {cs : Array Value} (h : Blk w g t cs) {n : Nat} (hn : cs.size = n) : Sl w (some ⟨g, 0, none⟩) n 1 cs.toList :=
  ⟨by simp [hn], fun _ => ⟨g, 0, rfl, h.lt, fun j u hu => by rw [Nat.zero_add]; exact h.cl hu⟩⟩
theorem lump_bytes (b : ByteArray) : (lumpL b.toList).map u8 = (twoL (b.size : Int)).map u8 ++ b.toList.map u8 := by simp [lumpL, bytes_len]
theorem lump_len (b : ByteArray) : (lumpL b.toList).length = (twoL (b.size : Int)).length + b.size := by rw [lumpL_len, twoL_len, bytes_len]
theorem lump_ret {A : Option Addr} {k c : Nat} {b : ByteArray} : (Ending.returned (.slice A (k + (twoL (b.size : Int)).length + b.size) c)) = .returned (.slice A (k + (lumpL b.toList).length) c) := by
  rw [show k + (twoL (b.size : Int)).length + b.size = k + (lumpL b.toList).length by simp [lumpL, bytes_len, twoL_len]; omega]
def willB (p q : Pk) : Bool := decide (p.wt = q.wt) && decide (p.wp = q.wp) && decide (p.wq = q.wq) && (p.wr == q.wr)
def greetB (p q : Pk) : Bool := decide (p.level = q.level) && decide (p.client = q.client) && (p.clean == q.clean) && decide (p.keep = q.keep) && (p.hasWill == q.hasWill) && (p.hasUser == q.hasUser) && (p.hasPass == q.hasPass) && decide (p.user = q.user) && decide (p.pass = q.pass) && (p.present == q.present) && decide (p.code = q.code)
theorem fields70 : (Tryd.prog.fieldsOf 70).toList = [{ name := "Filter", type := 9, offset := 0, embedded := false, tag := "", pkgPath := "", byteOffset := 0 }, { name := "Qos", type := 3, offset := 1, embedded := false, tag := "", pkgPath := "", byteOffset := 16 }] := by kernel_rfl
theorem neqSub (x y : Operand) (a a' : ByteArray) (b b' : Int) (w : World) : (do eqGuard .neq 70 x y (.agg #[.string a, .int .i64 b]) (.agg #[.string a', .int .i64 b']); binOp .neq 70 (.agg #[.string a, .int .i64 b]) (.agg #[.string a', .int .i64 b']) : Sem Value).run Tryd.prog w = .ok (.bool (!decide ((a, b) = (a', b')))) w := by
  rw [Sem.run_bind, run_eqGuard_agg w .neq 70 x y _ _ (by kernel_rfl)]
  simp only [Result.andThen_ok]
  rw [run_neq_struct, run_equalIn_struct w 9999 70 _ _ (by kernel_rfl) (by kernel_rfl)]
  rw [fields70]
  simp [go_sem]
  by_cases h1 : a = a' <;> by_cases h2 : b = b' <;> simp [h1, h2, toList_eq_iff]
theorem code_cell1 {w : World} {A : Option Addr} {l : List Int} (h : Sl w A l.length 1 (codeCells l)) {b off i : Nat} {x : Int} (hA : A = some ⟨b, off, none⟩) (hx : l[i]? = some x) : w.cell? ⟨b, off + (i : Int).toNat * 1, none⟩ = some (.int .i64 x) := by
  rw [Int.toNat_natCast, Nat.mul_one]; exact code_cell h hA hx
theorem eq_take {α : Type} {l b : List α} {k : Nat} {d d' : α} (h : l.take k = b.take k) (hd : l[k]? = some d) (hd' : b[k]? = some d') (e : d = d') : l.take (k + 1) = b.take (k + 1) := by
  rw [List.take_add_one, List.take_add_one, h, hd, hd', e]
set_option maxHeartbeats 1000000 in
theorem in_any (v a b : Int) (w : World) : Calls Tryd.prog 44 #[.int .i64 v, .int .i64 a, .int .i64 b] w (fun e w' => w = w' ∧ e = .returned (.bool (inB v a b))) := by
 refine C.enter Tryd.func44 rfl Tryd.ntmps44 rfl ?_
 intro a0 f0
 have f1 : Fr 15 a0 [(0, .int .i64 v), (1, .int .i64 a), (2, .int .i64 b)] := f0
 refine C.sk fun K0 hK0 => ?_
 refine L.ag f1 fun a2 f2 => ?_
 refine wpList_nil (hK0 _ _ ?_)
 have f3 := f2.sub (sc 0 (sc 1 (sc 2 (sc 6 sn))))
 refine C.sk fun K1 hK1 => ?_
 refine L.mv f3 fun a4 f4 => ?_
 refine L.mv f4 fun a5 f5 => ?_
 refine L.va f5 (E.geq f5 rfl rfl) fun a6 f6 => ?_
 refine L.mv f6 fun a7 f7 => ?_
 clear f0 f1 a0 f2 f3 a2 f4 a4 f5 a5 f6 a6
 refine f7.splitD 10 rfl (fun h0 f8 => ?_) (fun h0 f8 => ?_)
 ·refine L.mv f8 (hw := (f8.yes rfl rfl)) fun a9 f9 => ?_
  refine L.mv f9 (hw := (f9.yes rfl rfl)) fun a10 f10 => ?_
  refine L.va f10 (E.leq f10 rfl rfl) (hw := (f10.yes rfl rfl)) fun a11 f11 => ?_
  refine L.va f11 (E.pickT f11 rfl rfl) fun a12 f12 => ?_
  refine L.ag f12 fun a13 f13 => ?_
  refine wpList_nil (hK1 _ _ ?_)
  have f14 := f13.sub (sc 6 sn)
  refine wp_ret ?_
  try simp only [Exit.inBlock, Exit.then]
  refine C.ret (P := Tryd.prog) (fn := Tryd.f44) f14 rfl rfl ?_
  exact ⟨rfl, by simp [inB, *]⟩
 refine L.run f8 (rest' := []) (by kernel_rfl) fun a9 f9 => ?_
 clear f7
 skip
 refine wpList_nil (hK1 _ _ ?_)
 have f10 := f9.sub (sub_cons (i := 6) (v := .bool false) (by kernel_rfl) sn)
 refine wp_ret ?_
 try simp only [Exit.inBlock, Exit.then]
 refine C.ret (P := Tryd.prog) (fn := Tryd.f44) f10 rfl rfl ?_
 exact ⟨rfl, by simp [inB, *]⟩
set_option maxHeartbeats 1000000 in
theorem inR_any (v a b : Int) (w : World) : Calls Tryd.prog 47 #[.int .i64 v, .int .i64 a, .int .i64 b] w (fun e w' => w = w' ∧ e = .returned (.bool (inB v a b))) := by
 refine C.enter Tryd.func47 rfl Tryd.ntmps47 rfl ?_
 intro a0 f0
 have f1 : Fr 15 a0 [(0, .int .i64 v), (1, .int .i64 a), (2, .int .i64 b)] := f0
 refine C.sk fun K0 hK0 => ?_
 refine L.ag f1 fun a2 f2 => ?_
 refine wpList_nil (hK0 _ _ ?_)
 have f3 := f2.sub (sc 0 (sc 1 (sc 2 (sc 6 sn))))
 refine C.sk fun K1 hK1 => ?_
 refine L.mv f3 fun a4 f4 => ?_
 refine L.mv f4 fun a5 f5 => ?_
 refine L.va f5 (E.geq f5 rfl rfl) fun a6 f6 => ?_
 refine L.mv f6 fun a7 f7 => ?_
 clear f0 f1 a0 f2 f3 a2 f4 a4 f5 a5 f6 a6
 refine f7.splitD 10 rfl (fun h0 f8 => ?_) (fun h0 f8 => ?_)
 ·refine L.mv f8 (hw := (f8.yes rfl rfl)) fun a9 f9 => ?_
  refine L.mv f9 (hw := (f9.yes rfl rfl)) fun a10 f10 => ?_
  refine L.va f10 (E.leq f10 rfl rfl) (hw := (f10.yes rfl rfl)) fun a11 f11 => ?_
  refine L.va f11 (E.pickT f11 rfl rfl) fun a12 f12 => ?_
  refine L.ag f12 fun a13 f13 => ?_
  refine wpList_nil (hK1 _ _ ?_)
  have f14 := f13.sub (sc 6 sn)
  refine wp_ret ?_
  try simp only [Exit.inBlock, Exit.then]
  refine C.ret (P := Tryd.prog) (fn := Tryd.f47) f14 rfl rfl ?_
  exact ⟨rfl, by simp [inB, *]⟩
 refine L.run f8 (rest' := []) (by kernel_rfl) fun a9 f9 => ?_
 clear f7
 skip
 refine wpList_nil (hK1 _ _ ?_)
 have f10 := f9.sub (sub_cons (i := 6) (v := .bool false) (by kernel_rfl) sn)
 refine wp_ret ?_
 try simp only [Exit.inBlock, Exit.then]
 refine C.ret (P := Tryd.prog) (fn := Tryd.f47) f10 rfl rfl ?_
 exact ⟨rfl, by simp [inB, *]⟩
set_option maxHeartbeats 1000000 in
theorem flag_any (b : Bool) (n : Int) (w : World) : Calls Tryd.prog 65 #[.bool b, .int .i64 n] w (fun e w' => w = w' ∧ e = .returned (.int .i64 (flg b n))) := by
 refine C.enter Tryd.func65 rfl Tryd.ntmps65 rfl ?_
 intro a0 f0
 have f1 : Fr 7 a0 [(0, .bool b), (1, .int .i64 n)] := f0
 refine C.sk fun K0 hK0 => ?_
 refine L.ag f1 fun a2 f2 => ?_
 refine wpList_nil (hK0 _ _ ?_)
 have f3 := f2.sub (sc 0 (sc 1 (sc 4 sn)))
 refine wp_seq_k fun K1 hK1 => ?_
 refine C.sk fun K2 hK2 => ?_
 refine L.mv f3 fun a4 f4 => ?_
 refine wpList_nil (hK2 _ _ ?_)
 have f5 := f4.sub (sc 1 (sc 4 (sc 5 sn)))
 clear f0 f1 a0 f2 f3 a2 f4
 refine f5.split 5 rfl (fun h0 f6 => ?_) (fun h0 f6 => ?_)
 ·refine C.condT f6 rfl ?_
  refine C.sk fun K3 hK3 => ?_
  refine L.mv f6 fun a7 f7 => ?_
  refine L.ag f7 fun a8 f8 => ?_
  refine wpList_nil (hK3 _ _ ?_)
  have f9 := f8.sub (sc 4 sn)
  refine wp_ret ?_
  try simp only [Exit.inBlock, Exit.then]
  refine C.ret (P := Tryd.prog) (fn := Tryd.f65) f9 rfl rfl ?_
  exact ⟨rfl, by simp [flg, *]⟩
 refine C.condF f6 rfl ?_
 refine wp_skip (hK1 _ _ ?_)
 have f7 := f6.sub (sc 4 sn)
 refine C.sk fun K4 hK4 => ?_
 refine L.ag f7 fun a8 f8 => ?_
 refine wpList_nil (hK4 _ _ ?_)
 have f9 := f8.sub (sc 4 sn)
 refine wp_ret ?_
 try simp only [Exit.inBlock, Exit.then]
 refine C.ret (P := Tryd.prog) (fn := Tryd.f65) f9 rfl rfl ?_
 exact ⟨rfl, by simp [flg, *]⟩
set_option maxHeartbeats 1000000 in
theorem bit_any (b : Bool) (n : Int) (w : World) : Calls Tryd.prog 41 #[.bool b, .int .i64 n] w (fun e w' => w = w' ∧ e = .returned (.int .i64 (flg b n))) := by
 refine C.enter Tryd.func41 rfl Tryd.ntmps41 rfl ?_
 intro a0 f0
 have f1 : Fr 7 a0 [(0, .bool b), (1, .int .i64 n)] := f0
 refine C.sk fun K0 hK0 => ?_
 refine L.ag f1 fun a2 f2 => ?_
 refine wpList_nil (hK0 _ _ ?_)
 have f3 := f2.sub (sc 0 (sc 1 (sc 4 sn)))
 refine wp_seq_k fun K1 hK1 => ?_
 refine C.sk fun K2 hK2 => ?_
 refine L.mv f3 fun a4 f4 => ?_
 refine wpList_nil (hK2 _ _ ?_)
 have f5 := f4.sub (sc 1 (sc 4 (sc 5 sn)))
 clear f0 f1 a0 f2 f3 a2 f4
 refine f5.split 5 rfl (fun h0 f6 => ?_) (fun h0 f6 => ?_)
 ·refine C.condT f6 rfl ?_
  refine C.sk fun K3 hK3 => ?_
  refine L.mv f6 fun a7 f7 => ?_
  refine L.ag f7 fun a8 f8 => ?_
  refine wpList_nil (hK3 _ _ ?_)
  have f9 := f8.sub (sc 4 sn)
  refine wp_ret ?_
  try simp only [Exit.inBlock, Exit.then]
  refine C.ret (P := Tryd.prog) (fn := Tryd.f41) f9 rfl rfl ?_
  exact ⟨rfl, by simp [flg, *]⟩
 refine C.condF f6 rfl ?_
 refine wp_skip (hK1 _ _ ?_)
 have f7 := f6.sub (sc 4 sn)
 refine C.sk fun K4 hK4 => ?_
 refine L.ag f7 fun a8 f8 => ?_
 refine wpList_nil (hK4 _ _ ?_)
 have f9 := f8.sub (sc 4 sn)
 refine wp_ret ?_
 try simp only [Exit.inBlock, Exit.then]
 refine C.ret (P := Tryd.prog) (fn := Tryd.f41) f9 rfl rfl ?_
 exact ⟨rfl, by simp [flg, *]⟩
set_option maxHeartbeats 1000000 in
theorem num_any (p : Pk) (s : Ad) (w : World) : Calls Tryd.prog 67 #[.agg (p.cells s)] w (fun e w' => Kept [] w w' ∧ e = .returned (.bool (numB p))) := by
 have HK : Kept [] w w := Kept.refl [] w
 refine C.enter Tryd.func67 rfl Tryd.ntmps67 rfl ?_
 intro a0 f0
 have f1 : Fr 19 a0 [(0, .agg (p.cells s))] := f0
 refine C.sk fun K0 hK0 => ?_
 refine L.box f1 wantedN (by decide) rfl rfl fun a2 w1 g0 N0 f2 => ?_
 have Bg0 := N0.blk
 have kg0 := N0.kept
 have log0 := N0.lo
 have ltg0 := Bg0.lt
 have szw1 := kg0.size
 have frg0 : w.heap.size ≤ g0 := Nat.le_trans HK.size log0
 replace HK := HK.trans kg0 (by simp)
 clear f0 N0 kg0
 refine L.ag f2 fun a3 f3 => ?_
 refine wpList_nil (hK0 _ _ ?_)
 have f4 := f3.sub (sc 1 (sc 2 sn))
 refine wp_seq_k fun K1 hK1 => ?_
 refine C.sk fun K2 hK2 => ?_
 refine L.fa 0 f4 U28 rfl wsz3_wa fun a5 f5 => ?_
 refine L.ld f5 U3 Bg0 fun a6 f6 => ?_
 refine wpList_nil (hK2 _ _ ?_)
 have f7 := f6.sub (sc 1 (sc 2 (sc 4 sn)))
 refine wp_block ?_
 refine C.sk fun K3 hK3 => ?_
 refine L.va f7 (E.eq f7) fun a8 f8 => ?_
 refine L.ag f8 fun a9 f9 => ?_
 clear f1 a0 f2 a2 f3 f4 a3 f5 a5 f6 f7 a6 f8 a8
 refine wpList_nil (hK3 _ _ ?_)
 have f10 := f9.sub (sc 1 (sc 2 (sc 4 (sc 5 sn))))
 clear f9
 refine f10.splitD 5 rfl (fun h0 f11 => ?_) (fun h0 f11 => ?_)
 ·refine C.condT f11 rfl ?_
  refine C.sk fun K4 hK4 => ?_
  refine L.fa 3 f11 U28 rfl wsz3_wa fun a12 f12 => ?_
  refine L.ld f12 U3 Bg0 fun a13 f13 => ?_
  refine L.va f13 (E.gtr f13 rfl rfl) fun a14 f14 => ?_
  refine L.ag f14 fun a15 f15 => ?_
  refine wpList_nil (hK4 _ _ ?_)
  have f16 := f15.sub (sc 2 sn)
  refine wp_ret ?_
  try simp only [Exit.inBlock, Exit.then]
  refine C.ret (P := Tryd.prog) (fn := Tryd.f67) f16 rfl rfl ?_
  exact ⟨HK, by rw [numB_3 (by omega)]⟩
 refine C.condF f11 rfl ?_
 refine wp_seq_k fun K5 hK5 => ?_
 refine C.sk fun K6 hK6 => ?_
 refine L.va f11 (E.eq f11) fun a12 f12 => ?_
 refine L.ag f12 fun a13 f13 => ?_
 refine wpList_nil (hK6 _ _ ?_)
 have f14 := f13.sub (sc 2 (sc 4 (sc 10 sn)))
 clear f10 f11 a9 f12 a12 f13
 refine f14.splitD 10 rfl (fun h1 f15 => ?_) (fun h1 f15 => ?_)
 ·refine C.condT f15 rfl ?_
  refine wp_skip (hK5 _ _ ?_)
  have f16 := f15.sub (sc 2 (sc 10 sn))
  refine C.condT f16 rfl ?_
  refine C.sk fun K7 hK7 => ?_
  refine L.ag f16 fun a17 f17 => ?_
  refine wpList_nil (hK7 _ _ ?_)
  have f18 := f17.sub (sc 2 sn)
  refine wp_ret ?_
  try simp only [Exit.inBlock, Exit.then]
  refine C.ret (P := Tryd.prog) (fn := Tryd.f67) f18 rfl rfl ?_
  exact ⟨HK, by rw [numB_t (by omega)]⟩
 refine C.condF f15 rfl ?_
 refine C.sk fun K8 hK8 => ?_
 refine L.va f15 (E.eq f15) fun a16 f16 => ?_
 refine L.ag f16 fun a17 f17 => ?_
 refine wpList_nil (hK8 _ _ ?_)
 have f18 := f17.sub (sc 2 (sc 4 (sc 10 sn)))
 clear f14 f15 a13 f16 a16 f17
 refine f18.splitD 10 rfl (fun h2 f19 => ?_) (fun h2 f19 => ?_)
 ·refine C.condT f19 rfl ?_
  refine wp_skip (hK5 _ _ ?_)
  have f20 := f19.sub (sc 2 (sc 10 sn))
  refine C.condT f20 rfl ?_
  refine C.sk fun K9 hK9 => ?_
  refine L.ag f20 fun a21 f21 => ?_
  refine wpList_nil (hK9 _ _ ?_)
  have f22 := f21.sub (sc 2 sn)
  refine wp_ret ?_
  try simp only [Exit.inBlock, Exit.then]
  refine C.ret (P := Tryd.prog) (fn := Tryd.f67) f22 rfl rfl ?_
  exact ⟨HK, by rw [numB_t (by omega)]⟩
 refine C.condF f19 rfl ?_
 refine C.sk fun K10 hK10 => ?_
 refine L.va f19 (E.eq f19) fun a20 f20 => ?_
 refine L.ag f20 fun a21 f21 => ?_
 refine wpList_nil (hK10 _ _ ?_)
 have f22 := f21.sub (sc 2 (sc 4 (sc 10 sn)))
 clear f18 f19 a17 f20 a20 f21
 refine f22.splitD 10 rfl (fun h3 f23 => ?_) (fun h3 f23 => ?_)
 ·refine C.condT f23 rfl ?_
  refine wp_skip (hK5 _ _ ?_)
  have f24 := f23.sub (sc 2 (sc 10 sn))
  refine C.condT f24 rfl ?_
  refine C.sk fun K11 hK11 => ?_
  refine L.ag f24 fun a25 f25 => ?_
  refine wpList_nil (hK11 _ _ ?_)
  have f26 := f25.sub (sc 2 sn)
  refine wp_ret ?_
  try simp only [Exit.inBlock, Exit.then]
  refine C.ret (P := Tryd.prog) (fn := Tryd.f67) f26 rfl rfl ?_
  exact ⟨HK, by rw [numB_t (by omega)]⟩
 refine C.condF f23 rfl ?_
 refine C.sk fun K12 hK12 => ?_
 refine L.va f23 (E.eq f23) fun a24 f24 => ?_
 refine L.ag f24 fun a25 f25 => ?_
 refine wpList_nil (hK12 _ _ ?_)
 have f26 := f25.sub (sc 2 (sc 4 (sc 10 sn)))
 clear f22 f23 a21 f24 a24 f25
 refine f26.splitD 10 rfl (fun h4 f27 => ?_) (fun h4 f27 => ?_)
 ·refine C.condT f27 rfl ?_
  refine wp_skip (hK5 _ _ ?_)
  have f28 := f27.sub (sc 2 (sc 10 sn))
  refine C.condT f28 rfl ?_
  refine C.sk fun K13 hK13 => ?_
  refine L.ag f28 fun a29 f29 => ?_
  refine wpList_nil (hK13 _ _ ?_)
  have f30 := f29.sub (sc 2 sn)
  refine wp_ret ?_
  try simp only [Exit.inBlock, Exit.then]
  refine C.ret (P := Tryd.prog) (fn := Tryd.f67) f30 rfl rfl ?_
  exact ⟨HK, by rw [numB_t (by omega)]⟩
 refine C.condF f27 rfl ?_
 refine C.sk fun K14 hK14 => ?_
 refine L.va f27 (E.eq f27) fun a28 f28 => ?_
 refine L.ag f28 fun a29 f29 => ?_
 refine wpList_nil (hK14 _ _ ?_)
 have f30 := f29.sub (sc 2 (sc 4 (sc 10 sn)))
 clear f26 f27 a25 f28 a28 f29
 refine f30.splitD 10 rfl (fun h5 f31 => ?_) (fun h5 f31 => ?_)
 ·refine C.condT f31 rfl ?_
  refine wp_skip (hK5 _ _ ?_)
  have f32 := f31.sub (sc 2 (sc 10 sn))
  refine C.condT f32 rfl ?_
  refine C.sk fun K15 hK15 => ?_
  refine L.ag f32 fun a33 f33 => ?_
  refine wpList_nil (hK15 _ _ ?_)
  have f34 := f33.sub (sc 2 sn)
  refine wp_ret ?_
  try simp only [Exit.inBlock, Exit.then]
  refine C.ret (P := Tryd.prog) (fn := Tryd.f67) f34 rfl rfl ?_
  exact ⟨HK, by rw [numB_t (by omega)]⟩
 refine C.condF f31 rfl ?_
 refine C.sk fun K16 hK16 => ?_
 refine L.va f31 (E.eq f31) fun a32 f32 => ?_
 refine L.ag f32 fun a33 f33 => ?_
 refine wpList_nil (hK16 _ _ ?_)
 have f34 := f33.sub (sc 2 (sc 4 (sc 10 sn)))
 clear f30 f31 a29 f32 a32 f33
 refine f34.splitD 10 rfl (fun h6 f35 => ?_) (fun h6 f35 => ?_)
 ·refine C.condT f35 rfl ?_
  refine wp_skip (hK5 _ _ ?_)
  have f36 := f35.sub (sc 2 (sc 10 sn))
  refine C.condT f36 rfl ?_
  refine C.sk fun K17 hK17 => ?_
  refine L.ag f36 fun a37 f37 => ?_
  refine wpList_nil (hK17 _ _ ?_)
  have f38 := f37.sub (sc 2 sn)
  refine wp_ret ?_
  try simp only [Exit.inBlock, Exit.then]
  refine C.ret (P := Tryd.prog) (fn := Tryd.f67) f38 rfl rfl ?_
  exact ⟨HK, by rw [numB_t (by omega)]⟩
 refine C.condF f35 rfl ?_
 refine C.sk fun K18 hK18 => ?_
 refine L.va f35 (E.eq f35) fun a36 f36 => ?_
 refine L.ag f36 fun a37 f37 => ?_
 refine wpList_nil (hK18 _ _ ?_)
 have f38 := f37.sub (sc 2 (sc 4 (sc 10 sn)))
 clear f34 f35 a33 f36 a36 f37
 refine f38.splitD 10 rfl (fun h7 f39 => ?_) (fun h7 f39 => ?_)
 ·refine C.condT f39 rfl ?_
  refine wp_skip (hK5 _ _ ?_)
  have f40 := f39.sub (sc 2 (sc 10 sn))
  refine C.condT f40 rfl ?_
  refine C.sk fun K19 hK19 => ?_
  refine L.ag f40 fun a41 f41 => ?_
  refine wpList_nil (hK19 _ _ ?_)
  have f42 := f41.sub (sc 2 sn)
  refine wp_ret ?_
  try simp only [Exit.inBlock, Exit.then]
  refine C.ret (P := Tryd.prog) (fn := Tryd.f67) f42 rfl rfl ?_
  exact ⟨HK, by rw [numB_t (by omega)]⟩
 refine C.condF f39 rfl ?_
 refine C.region ?_
 refine L.va f39 (E.eq f39) fun a40 f40 => ?_
 refine L.ag f40 fun a41 f41 => ?_
 refine wpList_nil (hK5 _ _ ?_)
 have f42 := f41.sub (sc 2 (sc 10 sn))
 clear f38 f39 a37 f40 a40 f41
 refine f42.splitD 10 rfl (fun h8 f43 => ?_) (fun h8 f43 => ?_)
 ·refine C.condT f43 rfl ?_
  refine C.sk fun K20 hK20 => ?_
  refine L.ag f43 fun a44 f44 => ?_
  refine wpList_nil (hK20 _ _ ?_)
  have f45 := f44.sub (sc 2 sn)
  refine wp_ret ?_
  try simp only [Exit.inBlock, Exit.then]
  refine C.ret (P := Tryd.prog) (fn := Tryd.f67) f45 rfl rfl ?_
  exact ⟨HK, by rw [numB_t (by omega)]⟩
 refine C.condF f43 rfl ?_
 refine wp_skip (hK1 _ _ ?_)
 have f44 := f43.sub (sc 2 sn)
 refine C.sk fun K21 hK21 => ?_
 refine L.ag f44 fun a45 f45 => ?_
 refine wpList_nil (hK21 _ _ ?_)
 have f46 := f45.sub (sc 2 sn)
 refine wp_ret ?_
 try simp only [Exit.inBlock, Exit.then]
 refine C.ret (P := Tryd.prog) (fn := Tryd.f67) f46 rfl rfl ?_
 exact ⟨HK, by rw [numB_f (by omega) (by omega)]⟩
set_option maxHeartbeats 1000000 in
theorem numR_any (p : Pk) (s : Ad) (w : World) : Calls Tryd.prog 49 #[.agg (p.cells s)] w (fun e w' => Kept [] w w' ∧ e = .returned (.bool (numB p))) := by
 have HK : Kept [] w w := Kept.refl [] w
 refine C.enter Tryd.func49 rfl Tryd.ntmps49 rfl ?_
 intro a0 f0
 have f1 : Fr 19 a0 [(0, .agg (p.cells s))] := f0
 refine C.sk fun K0 hK0 => ?_
 refine L.box f1 wantedN (by decide) rfl rfl fun a2 w1 g0 N0 f2 => ?_
 have Bg0 := N0.blk
 have kg0 := N0.kept
 have log0 := N0.lo
 have ltg0 := Bg0.lt
 have szw1 := kg0.size
 have frg0 : w.heap.size ≤ g0 := Nat.le_trans HK.size log0
 replace HK := HK.trans kg0 (by simp)
 clear f0 N0 kg0
 refine L.ag f2 fun a3 f3 => ?_
 refine wpList_nil (hK0 _ _ ?_)
 have f4 := f3.sub (sc 1 (sc 2 sn))
 refine wp_seq_k fun K1 hK1 => ?_
 refine C.sk fun K2 hK2 => ?_
 refine L.fa 0 f4 U28 rfl wsz3_wa fun a5 f5 => ?_
 refine L.ld f5 U3 Bg0 fun a6 f6 => ?_
 refine wpList_nil (hK2 _ _ ?_)
 have f7 := f6.sub (sc 1 (sc 2 (sc 4 sn)))
 refine wp_block ?_
 refine C.sk fun K3 hK3 => ?_
 refine L.va f7 (E.eq f7) fun a8 f8 => ?_
 refine L.ag f8 fun a9 f9 => ?_
 clear f1 a0 f2 a2 f3 f4 a3 f5 a5 f6 f7 a6 f8 a8
 refine wpList_nil (hK3 _ _ ?_)
 have f10 := f9.sub (sc 1 (sc 2 (sc 4 (sc 5 sn))))
 clear f9
 refine f10.splitD 5 rfl (fun h0 f11 => ?_) (fun h0 f11 => ?_)
 ·refine C.condT f11 rfl ?_
  refine C.sk fun K4 hK4 => ?_
  refine L.fa 3 f11 U28 rfl wsz3_wa fun a12 f12 => ?_
  refine L.ld f12 U3 Bg0 fun a13 f13 => ?_
  refine L.va f13 (E.gtr f13 rfl rfl) fun a14 f14 => ?_
  refine L.ag f14 fun a15 f15 => ?_
  refine wpList_nil (hK4 _ _ ?_)
  have f16 := f15.sub (sc 2 sn)
  refine wp_ret ?_
  try simp only [Exit.inBlock, Exit.then]
  refine C.ret (P := Tryd.prog) (fn := Tryd.f49) f16 rfl rfl ?_
  exact ⟨HK, by rw [numB_3 (by omega)]⟩
 refine C.condF f11 rfl ?_
 refine wp_seq_k fun K5 hK5 => ?_
 refine C.sk fun K6 hK6 => ?_
 refine L.va f11 (E.eq f11) fun a12 f12 => ?_
 refine L.ag f12 fun a13 f13 => ?_
 refine wpList_nil (hK6 _ _ ?_)
 have f14 := f13.sub (sc 2 (sc 4 (sc 10 sn)))
 clear f10 f11 a9 f12 a12 f13
 refine f14.splitD 10 rfl (fun h1 f15 => ?_) (fun h1 f15 => ?_)
 ·refine C.condT f15 rfl ?_
  refine wp_skip (hK5 _ _ ?_)
  have f16 := f15.sub (sc 2 (sc 10 sn))
  refine C.condT f16 rfl ?_
  refine C.sk fun K7 hK7 => ?_
  refine L.ag f16 fun a17 f17 => ?_
  refine wpList_nil (hK7 _ _ ?_)
  have f18 := f17.sub (sc 2 sn)
  refine wp_ret ?_
  try simp only [Exit.inBlock, Exit.then]
  refine C.ret (P := Tryd.prog) (fn := Tryd.f49) f18 rfl rfl ?_
  exact ⟨HK, by rw [numB_t (by omega)]⟩
 refine C.condF f15 rfl ?_
 refine C.sk fun K8 hK8 => ?_
 refine L.va f15 (E.eq f15) fun a16 f16 => ?_
 refine L.ag f16 fun a17 f17 => ?_
 refine wpList_nil (hK8 _ _ ?_)
 have f18 := f17.sub (sc 2 (sc 4 (sc 10 sn)))
 clear f14 f15 a13 f16 a16 f17
 refine f18.splitD 10 rfl (fun h2 f19 => ?_) (fun h2 f19 => ?_)
 ·refine C.condT f19 rfl ?_
  refine wp_skip (hK5 _ _ ?_)
  have f20 := f19.sub (sc 2 (sc 10 sn))
  refine C.condT f20 rfl ?_
  refine C.sk fun K9 hK9 => ?_
  refine L.ag f20 fun a21 f21 => ?_
  refine wpList_nil (hK9 _ _ ?_)
  have f22 := f21.sub (sc 2 sn)
  refine wp_ret ?_
  try simp only [Exit.inBlock, Exit.then]
  refine C.ret (P := Tryd.prog) (fn := Tryd.f49) f22 rfl rfl ?_
  exact ⟨HK, by rw [numB_t (by omega)]⟩
 refine C.condF f19 rfl ?_
 refine C.sk fun K10 hK10 => ?_
 refine L.va f19 (E.eq f19) fun a20 f20 => ?_
 refine L.ag f20 fun a21 f21 => ?_
 refine wpList_nil (hK10 _ _ ?_)
 have f22 := f21.sub (sc 2 (sc 4 (sc 10 sn)))
 clear f18 f19 a17 f20 a20 f21
 refine f22.splitD 10 rfl (fun h3 f23 => ?_) (fun h3 f23 => ?_)
 ·refine C.condT f23 rfl ?_
  refine wp_skip (hK5 _ _ ?_)
  have f24 := f23.sub (sc 2 (sc 10 sn))
  refine C.condT f24 rfl ?_
  refine C.sk fun K11 hK11 => ?_
  refine L.ag f24 fun a25 f25 => ?_
  refine wpList_nil (hK11 _ _ ?_)
  have f26 := f25.sub (sc 2 sn)
  refine wp_ret ?_
  try simp only [Exit.inBlock, Exit.then]
  refine C.ret (P := Tryd.prog) (fn := Tryd.f49) f26 rfl rfl ?_
  exact ⟨HK, by rw [numB_t (by omega)]⟩
 refine C.condF f23 rfl ?_
 refine C.sk fun K12 hK12 => ?_
 refine L.va f23 (E.eq f23) fun a24 f24 => ?_
 refine L.ag f24 fun a25 f25 => ?_
 refine wpList_nil (hK12 _ _ ?_)
 have f26 := f25.sub (sc 2 (sc 4 (sc 10 sn)))
 clear f22 f23 a21 f24 a24 f25
 refine f26.splitD 10 rfl (fun h4 f27 => ?_) (fun h4 f27 => ?_)
 ·refine C.condT f27 rfl ?_
  refine wp_skip (hK5 _ _ ?_)
  have f28 := f27.sub (sc 2 (sc 10 sn))
  refine C.condT f28 rfl ?_
  refine C.sk fun K13 hK13 => ?_
  refine L.ag f28 fun a29 f29 => ?_
  refine wpList_nil (hK13 _ _ ?_)
  have f30 := f29.sub (sc 2 sn)
  refine wp_ret ?_
  try simp only [Exit.inBlock, Exit.then]
  refine C.ret (P := Tryd.prog) (fn := Tryd.f49) f30 rfl rfl ?_
  exact ⟨HK, by rw [numB_t (by omega)]⟩
 refine C.condF f27 rfl ?_
 refine C.sk fun K14 hK14 => ?_
 refine L.va f27 (E.eq f27) fun a28 f28 => ?_
 refine L.ag f28 fun a29 f29 => ?_
 refine wpList_nil (hK14 _ _ ?_)
 have f30 := f29.sub (sc 2 (sc 4 (sc 10 sn)))
 clear f26 f27 a25 f28 a28 f29
 refine f30.splitD 10 rfl (fun h5 f31 => ?_) (fun h5 f31 => ?_)
 ·refine C.condT f31 rfl ?_
  refine wp_skip (hK5 _ _ ?_)
  have f32 := f31.sub (sc 2 (sc 10 sn))
  refine C.condT f32 rfl ?_
  refine C.sk fun K15 hK15 => ?_
  refine L.ag f32 fun a33 f33 => ?_
  refine wpList_nil (hK15 _ _ ?_)
  have f34 := f33.sub (sc 2 sn)
  refine wp_ret ?_
  try simp only [Exit.inBlock, Exit.then]
  refine C.ret (P := Tryd.prog) (fn := Tryd.f49) f34 rfl rfl ?_
  exact ⟨HK, by rw [numB_t (by omega)]⟩
 refine C.condF f31 rfl ?_
 refine C.sk fun K16 hK16 => ?_
 refine L.va f31 (E.eq f31) fun a32 f32 => ?_
 refine L.ag f32 fun a33 f33 => ?_
 refine wpList_nil (hK16 _ _ ?_)
 have f34 := f33.sub (sc 2 (sc 4 (sc 10 sn)))
 clear f30 f31 a29 f32 a32 f33
 refine f34.splitD 10 rfl (fun h6 f35 => ?_) (fun h6 f35 => ?_)
 ·refine C.condT f35 rfl ?_
  refine wp_skip (hK5 _ _ ?_)
  have f36 := f35.sub (sc 2 (sc 10 sn))
  refine C.condT f36 rfl ?_
  refine C.sk fun K17 hK17 => ?_
  refine L.ag f36 fun a37 f37 => ?_
  refine wpList_nil (hK17 _ _ ?_)
  have f38 := f37.sub (sc 2 sn)
  refine wp_ret ?_
  try simp only [Exit.inBlock, Exit.then]
  refine C.ret (P := Tryd.prog) (fn := Tryd.f49) f38 rfl rfl ?_
  exact ⟨HK, by rw [numB_t (by omega)]⟩
 refine C.condF f35 rfl ?_
 refine C.sk fun K18 hK18 => ?_
 refine L.va f35 (E.eq f35) fun a36 f36 => ?_
 refine L.ag f36 fun a37 f37 => ?_
 refine wpList_nil (hK18 _ _ ?_)
 have f38 := f37.sub (sc 2 (sc 4 (sc 10 sn)))
 clear f34 f35 a33 f36 a36 f37
 refine f38.splitD 10 rfl (fun h7 f39 => ?_) (fun h7 f39 => ?_)
 ·refine C.condT f39 rfl ?_
  refine wp_skip (hK5 _ _ ?_)
  have f40 := f39.sub (sc 2 (sc 10 sn))
  refine C.condT f40 rfl ?_
  refine C.sk fun K19 hK19 => ?_
  refine L.ag f40 fun a41 f41 => ?_
  refine wpList_nil (hK19 _ _ ?_)
  have f42 := f41.sub (sc 2 sn)
  refine wp_ret ?_
  try simp only [Exit.inBlock, Exit.then]
  refine C.ret (P := Tryd.prog) (fn := Tryd.f49) f42 rfl rfl ?_
  exact ⟨HK, by rw [numB_t (by omega)]⟩
 refine C.condF f39 rfl ?_
 refine C.region ?_
 refine L.va f39 (E.eq f39) fun a40 f40 => ?_
 refine L.ag f40 fun a41 f41 => ?_
 refine wpList_nil (hK5 _ _ ?_)
 have f42 := f41.sub (sc 2 (sc 10 sn))
 clear f38 f39 a37 f40 a40 f41
 refine f42.splitD 10 rfl (fun h8 f43 => ?_) (fun h8 f43 => ?_)
 ·refine C.condT f43 rfl ?_
  refine C.sk fun K20 hK20 => ?_
  refine L.ag f43 fun a44 f44 => ?_
  refine wpList_nil (hK20 _ _ ?_)
  have f45 := f44.sub (sc 2 sn)
  refine wp_ret ?_
  try simp only [Exit.inBlock, Exit.then]
  refine C.ret (P := Tryd.prog) (fn := Tryd.f49) f45 rfl rfl ?_
  exact ⟨HK, by rw [numB_t (by omega)]⟩
 refine C.condF f43 rfl ?_
 refine wp_skip (hK1 _ _ ?_)
 have f44 := f43.sub (sc 2 sn)
 refine C.sk fun K21 hK21 => ?_
 refine L.ag f44 fun a45 f45 => ?_
 refine wpList_nil (hK21 _ _ ?_)
 have f46 := f45.sub (sc 2 sn)
 refine wp_ret ?_
 try simp only [Exit.inBlock, Exit.then]
 refine C.ret (P := Tryd.prog) (fn := Tryd.f49) f46 rfl rfl ?_
 exact ⟨HK, by rw [numB_f (by omega) (by omega)]⟩
set_option maxHeartbeats 1000000 in
theorem beq_any (a b : List UInt8) (A A' : Option Addr) (c c' : Nat) (w : World) (SA : Sl w A a.length 1 (a.map u8)) (SB : Sl w A' b.length 1 (b.map u8)) : Calls Tryd.prog 51 #[.slice A a.length c, .slice A' b.length c'] w (fun e w' => w = w' ∧ e = .returned (.bool (decide (a = b)))) := by
 refine C.enter Tryd.func51 rfl Tryd.ntmps51 rfl ?_
 intro a0 f0
 have f1 : Fr 10 a0 [(0, .slice A a.length c), (1, .slice A' b.length c')] := f0
 refine C.sk fun K0 hK0 => ?_
 refine L.ag f1 fun a2 f2 => ?_
 refine wpList_nil (hK0 _ _ ?_)
 have f3 := f2.sub (sc 0 (sc 1 (sc 4 sn)))
 refine C.sk fun K1 hK1 => ?_
 refine L.mv f3 fun a4 f4 => ?_
 refine L.va f4 (E.toStr f4 rfl U22 U5 U9 (SA)) fun a5 f5 => ?_
 refine L.mv f5 fun a6 f6 => ?_
 refine L.va f6 (E.toStr f6 rfl U22 U5 U9 (SB)) fun a7 f7 => ?_
 refine L.va f7 (E.eqlS f7 rfl rfl) fun a8 f8 => ?_
 clear f0 f1 a0 f2 f3 a2 f4 a4 f5 a5 f6 a6 f7 a7
 refine L.ag f8 fun a9 f9 => ?_
 refine wpList_nil (hK1 _ _ ?_)
 have f10 := f9.sub (sc 4 sn)
 refine wp_ret ?_
 try simp only [Exit.inBlock, Exit.then]
 refine C.ret (P := Tryd.prog) (fn := Tryd.f51) f10 rfl rfl ?_
 exact ⟨rfl, by simp only [bytes_eq]⟩
set_option maxHeartbeats 1000000 in
theorem clone_any (l : List UInt8) (A : Option Addr) (c : Nat) (w : World) (SA : Sl w A l.length 1 (l.map u8)) (hm : l.length ≤ 100000000) : Calls Tryd.prog 63 #[.slice A l.length c] w (NewB l w) := by
 have HK : Kept [] w w := Kept.refl [] w
 refine C.enter Tryd.func63 rfl Tryd.ntmps63 rfl ?_
 intro a0 f0
 have f1 : Fr 8 a0 [(0, .slice A l.length c)] := f0
 refine C.sk fun K0 hK0 => ?_
 refine L.ag f1 fun a2 f2 => ?_
 refine wpList_nil (hK0 _ _ ?_)
 have f3 := f2.sub (sc 0 (sc 2 sn))
 refine wp_seq_k fun K1 hK1 => ?_
 refine C.sk fun K2 hK2 => ?_
 refine L.mv f3 fun a4 f4 => ?_
 refine L.va f4 (E.eqlNil f4 U22 rfl rfl) fun a5 f5 => ?_
 refine wpList_nil (hK2 _ _ ?_)
 have f6 := f5.sub (sc 0 (sc 2 (sc 4 sn)))
 clear f0 f1 a0 f2 f3 a2 f4 a4 f5
 refine f6.split 4 rfl (fun h0 f7 => ?_) (fun h0 f7 => ?_)
 ·have hA0 : A = none := by simpa using h0
  clear f6
  have hl0 : l = [] := by
   rcases l with _ | ⟨d, r⟩
   ·rfl
   obtain ⟨b, off, e⟩ := SA.addr (by simp)
   rw [hA0] at e
   cases e
  refine C.condT f7 rfl ?_
  refine C.sk fun K3 hK3 => ?_
  refine L.ag f7 fun a8 f8 => ?_
  refine wpList_nil (hK3 _ _ ?_)
  have f9 := f8.sub (sc 0 (sc 2 sn))
  refine wp_ret ?_
  try simp only [Exit.inBlock, Exit.then]
  refine C.ret (P := Tryd.prog) (fn := Tryd.f63) f9 rfl rfl ?_
  clear f7 a5 f8
  subst hl0
  exact ⟨HK, none, 0, rfl, Fresh.nil _ _ _ _⟩
 refine C.condF f7 rfl ?_
 refine wp_skip (hK1 _ _ ?_)
 have f8 := f7.sub (sc 0 (sc 2 sn))
 refine C.sk fun K4 hK4 => ?_
 refine L.buildNone f8 wantedN (by decide) U22 wsz5_wa fun a9 w1 g0 N0 f9 => ?_
 have OW := N0.own (k := 0) (size := 1) rfl (by decide)
 have Bg0 := N0.blk
 have kg0 := N0.kept
 have log0 := N0.lo
 have ltg0 := Bg0.lt
 have szw1 := kg0.size
 have frg0 : w.heap.size ≤ g0 := Nat.le_trans HK.size log0
 replace HK := HK.trans kg0 (by simp)
 clear f6 f7 N0 kg0
 refine L.mv f9 fun a10 f10 => ?_
 refine L.append f10 wantedN (by decide) U22 wzib5_wa rfl rfl rfl rfl (OW) (SA.kept HK) (u8_one) (by unfold maxLen; omega) (by omega) fun a11 w2 A2 c2 AP2 f11 => ?_
 have kap2 : Kept [g0] w1 w2 := by simpa [Value.ownBlock] using AP2.kept
 have FR := AP2.next (⟨OW, fun b hb => by simp at hb; omega⟩ : Fresh w w1 5 1 (some ⟨g0, 0, none⟩) 0 0 _) HK.size
 have szw2 := kap2.size
 replace HK := HK.trans kap2 (ktr (by omega))
 clear f8 a5 f9 a9 f10 a10 kap2
 refine L.ag f11 fun a12 f12 => ?_
 refine wpList_nil (hK4 _ _ ?_)
 have f13 := f12.sub (sc 2 sn)
 refine wp_ret ?_
 try simp only [Exit.inBlock, Exit.then]
 refine C.ret (P := Tryd.prog) (fn := Tryd.f63) f13 rfl rfl ?_
 simp only [Nat.zero_add] at FR f13 ⊢
 exact ⟨HK, _, _, rfl, by simpa using FR⟩
set_option maxHeartbeats 1000000 in
theorem two_any (A : Option Addr) (k c : Nat) (xs : List Value) (n : Int) (w : World) (O : Own w 5 1 (.slice A k c) k xs) (hk : k ≤ 10000000000000) : Calls Tryd.prog 68 #[.slice A k c, .int .i64 n] w (AppPost w A k c xs (twoL n)) := by
 have HK : Kept [] w w := Kept.refl [] w
 refine C.enter Tryd.func68 rfl Tryd.ntmps68 rfl ?_
 intro a0 f0
 have f1 : Fr 13 a0 [(0, .slice A k c), (1, .int .i64 n)] := f0
 refine C.sk fun K0 hK0 => ?_
 refine L.ag f1 fun a2 f2 => ?_
 refine wpList_nil (hK0 _ _ ?_)
 have f3 := f2.sub (sc 0 (sc 1 (sc 4 sn)))
 refine C.sk fun K1 hK1 => ?_
 refine L.mv f3 fun a4 f4 => ?_
 refine L.mv f4 fun a5 f5 => ?_
 refine L.va f5 (E.shrN f5 rfl rfl (by decide) (by decide) (show n / 2 ^ (8 : Int).toNat = n / 256 from rfl)) fun a6 f6 => ?_
 refine L.va f6 (E.conv f6 U3 U5 rfl (wrap_u8 _)) fun a7 f7 => ?_
 refine L.mv f7 fun a8 f8 => ?_
 clear f0 f1 a0 f2 f3 a2 f4 a4 f5 a5 f6 a6 f7 a7
 refine L.va f8 (E.conv f8 U3 U5 rfl (wrap_u8 _)) fun a9 f9 => ?_
 refine L.buildSlice f9 wantedN (by decide) (parts2 f9 rfl rfl) U22 wzi5_wa rfl rfl (wbs22_2_wa _ _) fun a10 w1 g0 N0 f10 => ?_
 have Bg0 := N0.blk
 have kg0 := N0.kept
 have log0 := N0.lo
 have ltg0 := Bg0.lt
 have szw1 := kg0.size
 have frg0 : w.heap.size ≤ g0 := Nat.le_trans HK.size log0
 replace HK := HK.trans kg0 (by simp)
 clear f8 a8 N0 kg0
 refine L.append f10 wantedN (by decide) U22 wzib5_wa rfl rfl rfl rfl (O.kept HK (by simp)) (Blk.sl1 Bg0 rfl) (by intro u hu; simp at hu; rcases hu with rfl | rfl <;> rfl) (by unfold maxLen; omega) (by omega) fun a11 w2 A1 c1 AP2 f11 => ?_
 have kap2 := AP2.kept
 have AP := AP2.pre HK
 have szw2 := kap2.size
 clear f9 a9 f10 a10 kap2
 refine L.ag f11 fun a12 f12 => ?_
 refine wpList_nil (hK1 _ _ ?_)
 have f13 := f12.sub (sc 4 sn)
 refine wp_ret ?_
 try simp only [Exit.inBlock, Exit.then]
 refine C.ret (P := Tryd.prog) (fn := Tryd.f68) f13 rfl rfl ?_
 exact ⟨_, _, rfl, by simpa [twoL, u8_b8] using AP⟩
set_option maxHeartbeats 1000000 in
theorem twoR_any (A : Option Addr) (k c : Nat) (xs : List Value) (n : Int) (w : World) (O : Own w 5 1 (.slice A k c) k xs) (hk : k ≤ 10000000000000) : Calls Tryd.prog 72 #[.slice A k c, .int .i64 n] w (AppPost w A k c xs (twoL n)) := by
 have HK : Kept [] w w := Kept.refl [] w
 refine C.enter Tryd.func72 rfl Tryd.ntmps72 rfl ?_
 intro a0 f0
 have f1 : Fr 13 a0 [(0, .slice A k c), (1, .int .i64 n)] := f0
 refine C.sk fun K0 hK0 => ?_
 refine L.ag f1 fun a2 f2 => ?_
 refine wpList_nil (hK0 _ _ ?_)
 have f3 := f2.sub (sc 0 (sc 1 (sc 4 sn)))
 refine C.sk fun K1 hK1 => ?_
 refine L.mv f3 fun a4 f4 => ?_
 refine L.mv f4 fun a5 f5 => ?_
 refine L.va f5 (E.shrN f5 rfl rfl (by decide) (by decide) (show n / 2 ^ (8 : Int).toNat = n / 256 from rfl)) fun a6 f6 => ?_
 refine L.va f6 (E.conv f6 U3 U5 rfl (wrap_u8 _)) fun a7 f7 => ?_
 refine L.mv f7 fun a8 f8 => ?_
 clear f0 f1 a0 f2 f3 a2 f4 a4 f5 a5 f6 a6 f7 a7
 refine L.va f8 (E.conv f8 U3 U5 rfl (wrap_u8 _)) fun a9 f9 => ?_
 refine L.buildSlice f9 wantedN (by decide) (parts2 f9 rfl rfl) U22 wzi5_wa rfl rfl (wbs22_2_wa _ _) fun a10 w1 g0 N0 f10 => ?_
 have Bg0 := N0.blk
 have kg0 := N0.kept
 have log0 := N0.lo
 have ltg0 := Bg0.lt
 have szw1 := kg0.size
 have frg0 : w.heap.size ≤ g0 := Nat.le_trans HK.size log0
 replace HK := HK.trans kg0 (by simp)
 clear f8 a8 N0 kg0
 refine L.append f10 wantedN (by decide) U22 wzib5_wa rfl rfl rfl rfl (O.kept HK (by simp)) (Blk.sl1 Bg0 rfl) (by intro u hu; simp at hu; rcases hu with rfl | rfl <;> rfl) (by unfold maxLen; omega) (by omega) fun a11 w2 A1 c1 AP2 f11 => ?_
 have kap2 := AP2.kept
 have AP := AP2.pre HK
 have szw2 := kap2.size
 clear f9 a9 f10 a10 kap2
 refine L.ag f11 fun a12 f12 => ?_
 refine wpList_nil (hK1 _ _ ?_)
 have f13 := f12.sub (sc 4 sn)
 refine wp_ret ?_
 try simp only [Exit.inBlock, Exit.then]
 refine C.ret (P := Tryd.prog) (fn := Tryd.f72) f13 rfl rfl ?_
 exact ⟨_, _, rfl, by simpa [twoL, u8_b8] using AP⟩
set_option maxHeartbeats 1000000 in
theorem lump_any (A : Option Addr) (k c : Nat) (xs : List Value) (b : ByteArray) (w : World) (O : Own w 5 1 (.slice A k c) k xs) (hk : k ≤ 5000000000000) (hb : b.size ≤ 1000000) : Calls Tryd.prog 66 #[.slice A k c, .string b] w (AppPost w A k c xs (lumpL b.toList)) := by
 refine C.enter Tryd.func66 rfl Tryd.ntmps66 rfl ?_
 intro a0 f0
 have f1 : Fr 11 a0 [(0, .slice A k c), (1, .string b)] := f0
 refine C.sk fun K0 hK0 => ?_
 refine L.ag f1 fun a2 f2 => ?_
 refine wpList_nil (hK0 _ _ ?_)
 have f3 := f2.sub (sc 0 (sc 1 (sc 4 sn)))
 refine C.sk fun K1 hK1 => ?_
 refine L.mv f3 fun a4 f4 => ?_
 refine L.mv f4 fun a5 f5 => ?_
 refine L.va f5 (E.lenS f5 U9 rfl) fun a6 f6 => ?_
 refine L.cl f6 (run_call Tryd.call68 (args2 f6 rfl rfl)) (two_any A k c xs _ _ O (by omega)) ?_
 clear f0 f1 a0 f2 f3 a2 f4 a4 f5 a5
 rintro e w1 ⟨A1, c1, rfl, AP1⟩
 have kc1 := AP1.kept
 refine ⟨_, rfl, fun a7 f7 => ?_⟩
 have szw1 := kc1.size
 clear f6 a6 kc1
 refine L.mv f7 fun a8 f8 => ?_
 refine L.appendS f8 wantedN (by decide) U22 U9 wzib5_wa rfl rfl AP1.own (by rw [twoL_len]; omega) fun a9 w2 A2 c2 AP2 f9 => ?_
 refine L.ag f9 fun a10 f10 => ?_
 refine wpList_nil (hK1 _ _ ?_)
 have f11 := f10.sub (sc 4 sn)
 refine wp_ret ?_
 try simp only [Exit.inBlock, Exit.then]
 refine C.ret (P := Tryd.prog) (fn := Tryd.f66) f11 rfl rfl ?_
 exact ⟨_, _, lump_ret, by rw [lump_bytes, lump_len]; exact AP1.seq AP2⟩
set_option maxHeartbeats 1000000 in
theorem lumpR_any (A : Option Addr) (k c : Nat) (xs : List Value) (b : ByteArray) (w : World) (O : Own w 5 1 (.slice A k c) k xs) (hk : k ≤ 5000000000000) (hb : b.size ≤ 1000000) : Calls Tryd.prog 71 #[.slice A k c, .string b] w (AppPost w A k c xs (lumpL b.toList)) := by
 refine C.enter Tryd.func71 rfl Tryd.ntmps71 rfl ?_
 intro a0 f0
 have f1 : Fr 11 a0 [(0, .slice A k c), (1, .string b)] := f0
 refine C.sk fun K0 hK0 => ?_
 refine L.ag f1 fun a2 f2 => ?_
 refine wpList_nil (hK0 _ _ ?_)
 have f3 := f2.sub (sc 0 (sc 1 (sc 4 sn)))
 refine C.sk fun K1 hK1 => ?_
 refine L.mv f3 fun a4 f4 => ?_
 refine L.mv f4 fun a5 f5 => ?_
 refine L.va f5 (E.lenS f5 U9 rfl) fun a6 f6 => ?_
 refine L.cl f6 (run_call Tryd.call72 (args2 f6 rfl rfl)) (twoR_any A k c xs _ _ O (by omega)) ?_
 clear f0 f1 a0 f2 f3 a2 f4 a4 f5 a5
 rintro e w1 ⟨A1, c1, rfl, AP1⟩
 have kc1 := AP1.kept
 refine ⟨_, rfl, fun a7 f7 => ?_⟩
 have szw1 := kc1.size
 clear f6 a6 kc1
 refine L.mv f7 fun a8 f8 => ?_
 refine L.appendS f8 wantedN (by decide) U22 U9 wzib5_wa rfl rfl AP1.own (by rw [twoL_len]; omega) fun a9 w2 A2 c2 AP2 f9 => ?_
 refine L.ag f9 fun a10 f10 => ?_
 refine wpList_nil (hK1 _ _ ?_)
 have f11 := f10.sub (sc 4 sn)
 refine wp_ret ?_
 try simp only [Exit.inBlock, Exit.then]
 refine C.ret (P := Tryd.prog) (fn := Tryd.f71) f11 rfl rfl ?_
 exact ⟨_, _, lump_ret, by rw [lump_bytes, lump_len]; exact AP1.seq AP2⟩
set_option maxHeartbeats 1000000 in
theorem wills_any (p q : Pk) (s t : Ad) (w : World) (IP : p.In w s) (IQ : q.In w t) : Calls Tryd.prog 53 #[.agg #[.string p.wt, .slice s.wa p.wp.length s.wc, .int .i64 p.wq, .bool p.wr], .agg #[.string q.wt, .slice t.wa q.wp.length t.wc, .int .i64 q.wq, .bool q.wr]] w (fun e w' => Kept [] w w' ∧ e = .returned (.bool (willB p q))) := by
 have HK : Kept [] w w := Kept.refl [] w
 refine C.enter Tryd.func53 rfl Tryd.ntmps53 rfl ?_
 intro a0 f0
 have f1 : Fr 31 a0 [(0, .agg #[.string p.wt, .slice s.wa p.wp.length s.wc, .int .i64 p.wq, .bool p.wr]), (1, .agg #[.string q.wt, .slice t.wa q.wp.length t.wc, .int .i64 q.wq, .bool q.wr])] := f0
 refine C.sk fun K0 hK0 => ?_
 refine L.box f1 wantedN (by decide) rfl rfl fun a2 w1 g0 N0 f2 => ?_
 have Bg0 := N0.blk
 have kg0 := N0.kept
 have log0 := N0.lo
 have ltg0 := Bg0.lt
 have szw1 := kg0.size
 have frg0 : w.heap.size ≤ g0 := Nat.le_trans HK.size log0
 replace HK := HK.trans kg0 (by simp)
 clear f0 N0 kg0
 refine L.box f2 wantedN (by decide) rfl rfl fun a3 w2 g1 N1 f3 => ?_
 have Bg1 := N1.blk
 have kg1 := N1.kept
 have log1 := N1.lo
 have ltg1 := Bg1.lt
 have szw2 := kg1.size
 have frg1 : w.heap.size ≤ g1 := Nat.le_trans HK.size log1
 have neg0_g1 : g0 ≠ g1 := by have := Bg0.lt; omega
 replace HK := HK.trans kg1 (by simp)
 replace Bg0 := Bg0.kept kg1 (by simp)
 clear f1 a0 N1 kg1
 refine L.ag f3 fun a4 f4 => ?_
 refine wpList_nil (hK0 _ _ ?_)
 have f5 := f4.sub (sc 2 (sc 3 (sc 4 sn)))
 refine C.sk fun K1 hK1 => ?_
 refine L.fa 0 f5 U24 rfl wsz9_wa fun a6 f6 => ?_
 refine L.ld f6 U9 Bg0 fun a7 f7 => ?_
 refine L.fa 0 f7 U24 rfl wsz9_wa fun a8 f8 => ?_
 refine L.ld f8 U9 Bg1 fun a9 f9 => ?_
 refine L.va f9 (E.eqlS f9 rfl rfl) fun a10 f10 => ?_
 clear f2 a2 f3 a3 f4 f5 a4 f6 a6 f7 a7 f8 a8 f9 a9
 refine L.mv f10 fun a11 f11 => ?_
 clear f10 a10
 refine f11.splitD 10 rfl (fun h0 f12 => ?_) (fun h0 f12 => ?_)
 ·refine L.fa 1 f12 U24 rfl wsz22_wa (hw := (f12.yes rfl rfl)) fun a13 f13 => ?_
  refine L.ld f13 U22 Bg0 (hw := (f13.yes rfl rfl)) fun a14 f14 => ?_
  refine L.fa 1 f14 U24 rfl wsz22_wa (hw := (f14.yes rfl rfl)) fun a15 f15 => ?_
  refine L.ld f15 U22 Bg1 (hw := (f15.yes rfl rfl)) fun a16 f16 => ?_
  refine L.cl f16 (run_call Tryd.call51 (args2 f16 rfl rfl)) (beq_any _ _ _ _ _ _ _ (IP.wp.kept HK) (IQ.wp.kept HK)) ?_ (hw := (f16.yes rfl rfl))
  clear f11 f12 a11 f13 a13 f14 a14 f15 a15
  rintro e w2x ⟨rfl, rfl⟩
  refine ⟨_, rfl, fun a17 f17 => ?_⟩
  refine L.va f17 (E.pickT f17 rfl rfl) fun a18 f18 => ?_
  refine L.mv f18 fun a19 f19 => ?_
  clear f16 a16 f17 a17 f18 a18
  refine f19.splitD 17 rfl (fun h1 f20 => ?_) (fun h1 f20 => ?_)
  ·refine L.fa 2 f20 U24 rfl wsz3_wa (hw := (f20.yes rfl rfl)) fun a21 f21 => ?_
   refine L.ld f21 U3 Bg0 (hw := (f21.yes rfl rfl)) fun a22 f22 => ?_
   refine L.fa 2 f22 U24 rfl wsz3_wa (hw := (f22.yes rfl rfl)) fun a23 f23 => ?_
   refine L.ld f23 U3 Bg1 (hw := (f23.yes rfl rfl)) fun a24 f24 => ?_
   refine L.va f24 (E.eq f24) (hw := (f24.yes rfl rfl)) fun a25 f25 => ?_
   refine L.va f25 (E.pickT f25 rfl rfl) fun a26 f26 => ?_
   refine L.mv f26 fun a27 f27 => ?_
   clear f19 f20 a19 f21 a21 f22 a22 f23 a23 f24 a24 f25 a25 f26 a26
   refine f27.splitD 24 rfl (fun h2 f28 => ?_) (fun h2 f28 => ?_)
   ·refine L.fa 3 f28 U24 rfl wsz4_wa (hw := (f28.yes rfl rfl)) fun a29 f29 => ?_
    refine L.ld f29 U4 Bg0 (hw := (f29.yes rfl rfl)) fun a30 f30 => ?_
    refine L.fa 3 f30 U24 rfl wsz4_wa (hw := (f30.yes rfl rfl)) fun a31 f31 => ?_
    refine L.ld f31 U4 Bg1 (hw := (f31.yes rfl rfl)) fun a32 f32 => ?_
    refine L.va f32 (E.eqlB f32 U4 rfl rfl) (hw := (f32.yes rfl rfl)) fun a33 f33 => ?_
    refine L.va f33 (E.pickT f33 rfl rfl) fun a34 f34 => ?_
    refine L.ag f34 fun a35 f35 => ?_
    clear f27 f28 a27 f29 a29 f30 a30 f31 a31 f32 a32 f33 a33 f34 a34
    refine wpList_nil (hK1 _ _ ?_)
    have f36 := f35.sub (sc 4 sn)
    refine wp_ret ?_
    try simp only [Exit.inBlock, Exit.then]
    refine C.ret (P := Tryd.prog) (fn := Tryd.f53) f36 rfl rfl ?_
    exact ⟨HK, by simp [willB, *]⟩
   refine L.run f28 (rest' := []) (by kernel_rfl) fun a29 f29 => ?_
   clear f27
   skip
   refine wpList_nil (hK1 _ _ ?_)
   have f30 := f29.sub (sub_cons (i := 4) (v := .bool false) (by kernel_rfl) sn)
   refine wp_ret ?_
   try simp only [Exit.inBlock, Exit.then]
   refine C.ret (P := Tryd.prog) (fn := Tryd.f53) f30 rfl rfl ?_
   exact ⟨HK, by simp [willB, *]⟩
  refine L.run f20 (rest' := []) (by kernel_rfl) fun a21 f21 => ?_
  clear f19
  skip
  refine wpList_nil (hK1 _ _ ?_)
  have f22 := f21.sub (sub_cons (i := 4) (v := .bool false) (by kernel_rfl) sn)
  refine wp_ret ?_
  try simp only [Exit.inBlock, Exit.then]
  refine C.ret (P := Tryd.prog) (fn := Tryd.f53) f22 rfl rfl ?_
  exact ⟨HK, by simp [willB, *]⟩
 refine L.run f12 (rest' := []) (by kernel_rfl) fun a13 f13 => ?_
 clear f11
 skip
 refine wpList_nil (hK1 _ _ ?_)
 have f14 := f13.sub (sub_cons (i := 4) (v := .bool false) (by kernel_rfl) sn)
 refine wp_ret ?_
 try simp only [Exit.inBlock, Exit.then]
 refine C.ret (P := Tryd.prog) (fn := Tryd.f53) f14 rfl rfl ?_
 exact ⟨HK, by simp [willB, *]⟩
set_option maxHeartbeats 1000000 in
theorem willsR_any (p q : Pk) (s t : Ad) (w : World) (IP : p.In w s) (IQ : q.In w t) : Calls Tryd.prog 56 #[.agg #[.string p.wt, .slice s.wa p.wp.length s.wc, .int .i64 p.wq, .bool p.wr], .agg #[.string q.wt, .slice t.wa q.wp.length t.wc, .int .i64 q.wq, .bool q.wr]] w (fun e w' => Kept [] w w' ∧ e = .returned (.bool (willB p q))) := by
 have HK : Kept [] w w := Kept.refl [] w
 refine C.enter Tryd.func56 rfl Tryd.ntmps56 rfl ?_
 intro a0 f0
 have f1 : Fr 33 a0 [(0, .agg #[.string p.wt, .slice s.wa p.wp.length s.wc, .int .i64 p.wq, .bool p.wr]), (1, .agg #[.string q.wt, .slice t.wa q.wp.length t.wc, .int .i64 q.wq, .bool q.wr])] := f0
 refine C.sk fun K0 hK0 => ?_
 refine L.box f1 wantedN (by decide) rfl rfl fun a2 w1 g0 N0 f2 => ?_
 have Bg0 := N0.blk
 have kg0 := N0.kept
 have log0 := N0.lo
 have ltg0 := Bg0.lt
 have szw1 := kg0.size
 have frg0 : w.heap.size ≤ g0 := Nat.le_trans HK.size log0
 replace HK := HK.trans kg0 (by simp)
 clear f0 N0 kg0
 refine L.box f2 wantedN (by decide) rfl rfl fun a3 w2 g1 N1 f3 => ?_
 have Bg1 := N1.blk
 have kg1 := N1.kept
 have log1 := N1.lo
 have ltg1 := Bg1.lt
 have szw2 := kg1.size
 have frg1 : w.heap.size ≤ g1 := Nat.le_trans HK.size log1
 have neg0_g1 : g0 ≠ g1 := by have := Bg0.lt; omega
 replace HK := HK.trans kg1 (by simp)
 replace Bg0 := Bg0.kept kg1 (by simp)
 clear f1 a0 N1 kg1
 refine L.ag f3 fun a4 f4 => ?_
 refine wpList_nil (hK0 _ _ ?_)
 have f5 := f4.sub (sc 2 (sc 3 (sc 4 sn)))
 refine C.sk fun K1 hK1 => ?_
 refine L.fa 0 f5 U24 rfl wsz9_wa fun a6 f6 => ?_
 refine L.ld f6 U9 Bg0 fun a7 f7 => ?_
 refine L.fa 0 f7 U24 rfl wsz9_wa fun a8 f8 => ?_
 refine L.ld f8 U9 Bg1 fun a9 f9 => ?_
 refine L.va f9 (E.eqlS f9 rfl rfl) fun a10 f10 => ?_
 clear f2 a2 f3 a3 f4 f5 a4 f6 a6 f7 a7 f8 a8 f9 a9
 refine L.mv f10 fun a11 f11 => ?_
 clear f10 a10
 refine f11.splitD 10 rfl (fun h0 f12 => ?_) (fun h0 f12 => ?_)
 ·refine L.fa 1 f12 U24 rfl wsz22_wa (hw := (f12.yes rfl rfl)) fun a13 f13 => ?_
  refine L.ld f13 U22 Bg0 (hw := (f13.yes rfl rfl)) fun a14 f14 => ?_
  refine L.va f14 (E.toStr f14 rfl U22 U5 U9 (IP.wp.kept HK)) (hw := (f14.yes rfl rfl)) fun a15 f15 => ?_
  refine L.fa 1 f15 U24 rfl wsz22_wa (hw := (f15.yes rfl rfl)) fun a16 f16 => ?_
  refine L.ld f16 U22 Bg1 (hw := (f16.yes rfl rfl)) fun a17 f17 => ?_
  refine L.va f17 (E.toStr f17 rfl U22 U5 U9 (IQ.wp.kept HK)) (hw := (f17.yes rfl rfl)) fun a18 f18 => ?_
  refine L.va f18 (E.eqlS f18 rfl rfl) (hw := (f18.yes rfl rfl)) fun a19 f19 => ?_
  clear f11 f12 a11 f13 a13 f14 a14 f15 a15 f16 a16 f17 a17 f18 a18
  refine L.va f19 (E.pickT f19 rfl rfl) fun a20 f20 => ?_
  refine L.mv f20 fun a21 f21 => ?_
  clear f19 a19 f20 a20
  refine f21.splitD 19 rfl (fun h1 f22 => ?_) (fun h1 f22 => ?_)
  ·refine L.fa 2 f22 U24 rfl wsz3_wa (hw := (f22.yes rfl rfl)) fun a23 f23 => ?_
   refine L.ld f23 U3 Bg0 (hw := (f23.yes rfl rfl)) fun a24 f24 => ?_
   refine L.fa 2 f24 U24 rfl wsz3_wa (hw := (f24.yes rfl rfl)) fun a25 f25 => ?_
   refine L.ld f25 U3 Bg1 (hw := (f25.yes rfl rfl)) fun a26 f26 => ?_
   refine L.va f26 (E.eq f26) (hw := (f26.yes rfl rfl)) fun a27 f27 => ?_
   refine L.va f27 (E.pickT f27 rfl rfl) fun a28 f28 => ?_
   refine L.mv f28 fun a29 f29 => ?_
   clear f21 f22 a21 f23 a23 f24 a24 f25 a25 f26 a26 f27 a27 f28 a28
   refine f29.splitD 26 rfl (fun h2 f30 => ?_) (fun h2 f30 => ?_)
   ·refine L.fa 3 f30 U24 rfl wsz4_wa (hw := (f30.yes rfl rfl)) fun a31 f31 => ?_
    refine L.ld f31 U4 Bg0 (hw := (f31.yes rfl rfl)) fun a32 f32 => ?_
    refine L.fa 3 f32 U24 rfl wsz4_wa (hw := (f32.yes rfl rfl)) fun a33 f33 => ?_
    refine L.ld f33 U4 Bg1 (hw := (f33.yes rfl rfl)) fun a34 f34 => ?_
    refine L.va f34 (E.eqlB f34 U4 rfl rfl) (hw := (f34.yes rfl rfl)) fun a35 f35 => ?_
    refine L.va f35 (E.pickT f35 rfl rfl) fun a36 f36 => ?_
    refine L.ag f36 fun a37 f37 => ?_
    clear f29 f30 a29 f31 a31 f32 a32 f33 a33 f34 a34 f35 a35 f36 a36
    refine wpList_nil (hK1 _ _ ?_)
    have f38 := f37.sub (sc 4 sn)
    refine wp_ret ?_
    try simp only [Exit.inBlock, Exit.then]
    refine C.ret (P := Tryd.prog) (fn := Tryd.f56) f38 rfl rfl ?_
    try simp only [bytes_eq] at *
    exact ⟨HK, by simp [willB, *]⟩
   refine L.run f30 (rest' := []) (by kernel_rfl) fun a31 f31 => ?_
   clear f29
   skip
   refine wpList_nil (hK1 _ _ ?_)
   have f32 := f31.sub (sub_cons (i := 4) (v := .bool false) (by kernel_rfl) sn)
   refine wp_ret ?_
   try simp only [Exit.inBlock, Exit.then]
   refine C.ret (P := Tryd.prog) (fn := Tryd.f56) f32 rfl rfl ?_
   try simp only [bytes_eq] at *
   exact ⟨HK, by simp [willB, *]⟩
  refine L.run f22 (rest' := []) (by kernel_rfl) fun a23 f23 => ?_
  clear f21
  skip
  refine wpList_nil (hK1 _ _ ?_)
  have f24 := f23.sub (sub_cons (i := 4) (v := .bool false) (by kernel_rfl) sn)
  refine wp_ret ?_
  try simp only [Exit.inBlock, Exit.then]
  refine C.ret (P := Tryd.prog) (fn := Tryd.f56) f24 rfl rfl ?_
  try simp only [bytes_eq] at *
  exact ⟨HK, by simp [willB, *]⟩
 refine L.run f12 (rest' := []) (by kernel_rfl) fun a13 f13 => ?_
 clear f11
 skip
 refine wpList_nil (hK1 _ _ ?_)
 have f14 := f13.sub (sub_cons (i := 4) (v := .bool false) (by kernel_rfl) sn)
 refine wp_ret ?_
 try simp only [Exit.inBlock, Exit.then]
 refine C.ret (P := Tryd.prog) (fn := Tryd.f56) f14 rfl rfl ?_
 try simp only [bytes_eq] at *
 exact ⟨HK, by simp [willB, *]⟩
set_option maxHeartbeats 1000000 in
theorem greets_any (p q : Pk) (s t : Ad) (w : World) (IP : p.In w s) (IQ : q.In w t) : Calls Tryd.prog 52 #[.agg (p.cells s), .agg (q.cells t)] w (fun e w' => Kept [] w w' ∧ e = .returned (.bool (greetB p q))) := by
 have HK : Kept [] w w := Kept.refl [] w
 refine C.enter Tryd.func52 rfl Tryd.ntmps52 rfl ?_
 intro a0 f0
 have f1 : Fr 80 a0 [(0, .agg (p.cells s)), (1, .agg (q.cells t))] := f0
 refine C.sk fun K0 hK0 => ?_
 refine L.box f1 wantedN (by decide) rfl rfl fun a2 w1 g0 N0 f2 => ?_
 have Bg0 := N0.blk
 have kg0 := N0.kept
 have log0 := N0.lo
 have ltg0 := Bg0.lt
 have szw1 := kg0.size
 have frg0 : w.heap.size ≤ g0 := Nat.le_trans HK.size log0
 replace HK := HK.trans kg0 (by simp)
 clear f0 N0 kg0
 refine L.box f2 wantedN (by decide) rfl rfl fun a3 w2 g1 N1 f3 => ?_
 have Bg1 := N1.blk
 have kg1 := N1.kept
 have log1 := N1.lo
 have ltg1 := Bg1.lt
 have szw2 := kg1.size
 have frg1 : w.heap.size ≤ g1 := Nat.le_trans HK.size log1
 have neg0_g1 : g0 ≠ g1 := by have := Bg0.lt; omega
 replace HK := HK.trans kg1 (by simp)
 replace Bg0 := Bg0.kept kg1 (by simp)
 clear f1 a0 N1 kg1
 refine L.ag f3 fun a4 f4 => ?_
 refine wpList_nil (hK0 _ _ ?_)
 have f5 := f4.sub (sc 2 (sc 3 (sc 4 sn)))
 refine C.sk fun K1 hK1 => ?_
 refine L.fa 7 f5 U28 rfl wsz3_wa fun a6 f6 => ?_
 refine L.ld f6 U3 Bg0 fun a7 f7 => ?_
 refine L.fa 7 f7 U28 rfl wsz3_wa fun a8 f8 => ?_
 refine L.ld f8 U3 Bg1 fun a9 f9 => ?_
 refine L.va f9 (E.eq f9) fun a10 f10 => ?_
 clear f2 a2 f3 a3 f4 f5 a4 f6 a6 f7 a7 f8 a8 f9 a9
 refine L.mv f10 fun a11 f11 => ?_
 clear f10 a10
 refine f11.splitD 10 rfl (fun h0 f12 => ?_) (fun h0 f12 => ?_)
 ·refine L.fa 8 f12 U28 rfl wsz9_wa (hw := (f12.yes rfl rfl)) fun a13 f13 => ?_
  refine L.ld f13 U9 Bg0 (hw := (f13.yes rfl rfl)) fun a14 f14 => ?_
  refine L.fa 8 f14 U28 rfl wsz9_wa (hw := (f14.yes rfl rfl)) fun a15 f15 => ?_
  refine L.ld f15 U9 Bg1 (hw := (f15.yes rfl rfl)) fun a16 f16 => ?_
  refine L.va f16 (E.eqlS f16 rfl rfl) (hw := (f16.yes rfl rfl)) fun a17 f17 => ?_
  refine L.va f17 (E.pickT f17 rfl rfl) fun a18 f18 => ?_
  refine L.mv f18 fun a19 f19 => ?_
  clear f11 f12 a11 f13 a13 f14 a14 f15 a15 f16 a16 f17 a17 f18 a18
  refine f19.splitD 17 rfl (fun h1 f20 => ?_) (fun h1 f20 => ?_)
  ·refine L.fa 9 f20 U28 rfl wsz4_wa (hw := (f20.yes rfl rfl)) fun a21 f21 => ?_
   refine L.ld f21 U4 Bg0 (hw := (f21.yes rfl rfl)) fun a22 f22 => ?_
   refine L.fa 9 f22 U28 rfl wsz4_wa (hw := (f22.yes rfl rfl)) fun a23 f23 => ?_
   refine L.ld f23 U4 Bg1 (hw := (f23.yes rfl rfl)) fun a24 f24 => ?_
   refine L.va f24 (E.eqlB f24 U4 rfl rfl) (hw := (f24.yes rfl rfl)) fun a25 f25 => ?_
   refine L.va f25 (E.pickT f25 rfl rfl) fun a26 f26 => ?_
   refine L.mv f26 fun a27 f27 => ?_
   clear f19 f20 a19 f21 a21 f22 a22 f23 a23 f24 a24 f25 a25 f26 a26
   refine f27.splitD 24 rfl (fun h2 f28 => ?_) (fun h2 f28 => ?_)
   ·refine L.fa 10 f28 U28 rfl wsz3_wa (hw := (f28.yes rfl rfl)) fun a29 f29 => ?_
    refine L.ld f29 U3 Bg0 (hw := (f29.yes rfl rfl)) fun a30 f30 => ?_
    refine L.fa 10 f30 U28 rfl wsz3_wa (hw := (f30.yes rfl rfl)) fun a31 f31 => ?_
    refine L.ld f31 U3 Bg1 (hw := (f31.yes rfl rfl)) fun a32 f32 => ?_
    refine L.va f32 (E.eq f32) (hw := (f32.yes rfl rfl)) fun a33 f33 => ?_
    refine L.va f33 (E.pickT f33 rfl rfl) fun a34 f34 => ?_
    refine L.mv f34 fun a35 f35 => ?_
    clear f27 f28 a27 f29 a29 f30 a30 f31 a31 f32 a32 f33 a33 f34 a34
    refine f35.splitD 31 rfl (fun h3 f36 => ?_) (fun h3 f36 => ?_)
    ·refine L.fa 11 f36 U28 rfl wsz4_wa (hw := (f36.yes rfl rfl)) fun a37 f37 => ?_
     refine L.ld f37 U4 Bg0 (hw := (f37.yes rfl rfl)) fun a38 f38 => ?_
     refine L.fa 11 f38 U28 rfl wsz4_wa (hw := (f38.yes rfl rfl)) fun a39 f39 => ?_
     refine L.ld f39 U4 Bg1 (hw := (f39.yes rfl rfl)) fun a40 f40 => ?_
     refine L.va f40 (E.eqlB f40 U4 rfl rfl) (hw := (f40.yes rfl rfl)) fun a41 f41 => ?_
     refine L.va f41 (E.pickT f41 rfl rfl) fun a42 f42 => ?_
     refine L.mv f42 fun a43 f43 => ?_
     clear f35 f36 a35 f37 a37 f38 a38 f39 a39 f40 a40 f41 a41 f42 a42
     refine f43.splitD 38 rfl (fun h4 f44 => ?_) (fun h4 f44 => ?_)
     ·refine L.fa 16 f44 U28 rfl wsz4_wa (hw := (f44.yes rfl rfl)) fun a45 f45 => ?_
      refine L.ld f45 U4 Bg0 (hw := (f45.yes rfl rfl)) fun a46 f46 => ?_
      refine L.fa 16 f46 U28 rfl wsz4_wa (hw := (f46.yes rfl rfl)) fun a47 f47 => ?_
      refine L.ld f47 U4 Bg1 (hw := (f47.yes rfl rfl)) fun a48 f48 => ?_
      refine L.va f48 (E.eqlB f48 U4 rfl rfl) (hw := (f48.yes rfl rfl)) fun a49 f49 => ?_
      refine L.va f49 (E.pickT f49 rfl rfl) fun a50 f50 => ?_
      refine L.mv f50 fun a51 f51 => ?_
      clear f43 f44 a43 f45 a45 f46 a46 f47 a47 f48 a48 f49 a49 f50 a50
      refine f51.splitD 45 rfl (fun h5 f52 => ?_) (fun h5 f52 => ?_)
      ·refine L.fa 17 f52 U28 rfl wsz4_wa (hw := (f52.yes rfl rfl)) fun a53 f53 => ?_
       refine L.ld f53 U4 Bg0 (hw := (f53.yes rfl rfl)) fun a54 f54 => ?_
       refine L.fa 17 f54 U28 rfl wsz4_wa (hw := (f54.yes rfl rfl)) fun a55 f55 => ?_
       refine L.ld f55 U4 Bg1 (hw := (f55.yes rfl rfl)) fun a56 f56 => ?_
       refine L.va f56 (E.eqlB f56 U4 rfl rfl) (hw := (f56.yes rfl rfl)) fun a57 f57 => ?_
       refine L.va f57 (E.pickT f57 rfl rfl) fun a58 f58 => ?_
       refine L.mv f58 fun a59 f59 => ?_
       clear f51 f52 a51 f53 a53 f54 a54 f55 a55 f56 a56 f57 a57 f58 a58
       refine f59.splitD 52 rfl (fun h6 f60 => ?_) (fun h6 f60 => ?_)
       ·refine L.fa 18 f60 U28 rfl wsz9_wa (hw := (f60.yes rfl rfl)) fun a61 f61 => ?_
        refine L.ld f61 U9 Bg0 (hw := (f61.yes rfl rfl)) fun a62 f62 => ?_
        refine L.fa 18 f62 U28 rfl wsz9_wa (hw := (f62.yes rfl rfl)) fun a63 f63 => ?_
        refine L.ld f63 U9 Bg1 (hw := (f63.yes rfl rfl)) fun a64 f64 => ?_
        refine L.va f64 (E.eqlS f64 rfl rfl) (hw := (f64.yes rfl rfl)) fun a65 f65 => ?_
        refine L.va f65 (E.pickT f65 rfl rfl) fun a66 f66 => ?_
        refine L.mv f66 fun a67 f67 => ?_
        clear f59 f60 a59 f61 a61 f62 a62 f63 a63 f64 a64 f65 a65 f66 a66
        refine f67.splitD 59 rfl (fun h7 f68 => ?_) (fun h7 f68 => ?_)
        ·refine L.fa 19 f68 U28 rfl wsz22_wa (hw := (f68.yes rfl rfl)) fun a69 f69 => ?_
         refine L.ld f69 U22 Bg0 (hw := (f69.yes rfl rfl)) fun a70 f70 => ?_
         refine L.fa 19 f70 U28 rfl wsz22_wa (hw := (f70.yes rfl rfl)) fun a71 f71 => ?_
         refine L.ld f71 U22 Bg1 (hw := (f71.yes rfl rfl)) fun a72 f72 => ?_
         refine L.cl f72 (run_call Tryd.call51 (args2 f72 rfl rfl)) (beq_any _ _ _ _ _ _ _ (IP.pass.kept HK) (IQ.pass.kept HK)) ?_ (hw := (f72.yes rfl rfl))
         clear f67 f68 a67 f69 a69 f70 a70 f71 a71
         rintro e w2x ⟨rfl, rfl⟩
         refine ⟨_, rfl, fun a73 f73 => ?_⟩
         refine L.va f73 (E.pickT f73 rfl rfl) fun a74 f74 => ?_
         refine L.mv f74 fun a75 f75 => ?_
         clear f72 a72 f73 a73 f74 a74
         refine f75.splitD 66 rfl (fun h8 f76 => ?_) (fun h8 f76 => ?_)
         ·refine L.fa 20 f76 U28 rfl wsz4_wa (hw := (f76.yes rfl rfl)) fun a77 f77 => ?_
          refine L.ld f77 U4 Bg0 (hw := (f77.yes rfl rfl)) fun a78 f78 => ?_
          refine L.fa 20 f78 U28 rfl wsz4_wa (hw := (f78.yes rfl rfl)) fun a79 f79 => ?_
          refine L.ld f79 U4 Bg1 (hw := (f79.yes rfl rfl)) fun a80 f80 => ?_
          refine L.va f80 (E.eqlB f80 U4 rfl rfl) (hw := (f80.yes rfl rfl)) fun a81 f81 => ?_
          refine L.va f81 (E.pickT f81 rfl rfl) fun a82 f82 => ?_
          refine L.mv f82 fun a83 f83 => ?_
          clear f75 f76 a75 f77 a77 f78 a78 f79 a79 f80 a80 f81 a81 f82 a82
          refine f83.splitD 73 rfl (fun h9 f84 => ?_) (fun h9 f84 => ?_)
          ·refine L.fa 21 f84 U28 rfl wsz3_wa (hw := (f84.yes rfl rfl)) fun a85 f85 => ?_
           refine L.ld f85 U3 Bg0 (hw := (f85.yes rfl rfl)) fun a86 f86 => ?_
           refine L.fa 21 f86 U28 rfl wsz3_wa (hw := (f86.yes rfl rfl)) fun a87 f87 => ?_
           refine L.ld f87 U3 Bg1 (hw := (f87.yes rfl rfl)) fun a88 f88 => ?_
           refine L.va f88 (E.eq f88) (hw := (f88.yes rfl rfl)) fun a89 f89 => ?_
           refine L.va f89 (E.pickT f89 rfl rfl) fun a90 f90 => ?_
           refine L.ag f90 fun a91 f91 => ?_
           clear f83 f84 a83 f85 a85 f86 a86 f87 a87 f88 a88 f89 a89 f90 a90
           refine wpList_nil (hK1 _ _ ?_)
           have f92 := f91.sub (sc 4 sn)
           refine wp_ret ?_
           try simp only [Exit.inBlock, Exit.then]
           refine C.ret (P := Tryd.prog) (fn := Tryd.f52) f92 rfl rfl ?_
           exact ⟨HK, by simp [greetB, *]⟩
          refine L.run f84 (rest' := []) (by kernel_rfl) fun a85 f85 => ?_
          clear f83
          skip
          refine wpList_nil (hK1 _ _ ?_)
          have f86 := f85.sub (sub_cons (i := 4) (v := .bool false) (by kernel_rfl) sn)
          refine wp_ret ?_
          try simp only [Exit.inBlock, Exit.then]
          refine C.ret (P := Tryd.prog) (fn := Tryd.f52) f86 rfl rfl ?_
          exact ⟨HK, by simp [greetB, *]⟩
         refine L.run f76 (rest' := []) (by kernel_rfl) fun a77 f77 => ?_
         clear f75
         skip
         refine wpList_nil (hK1 _ _ ?_)
         have f78 := f77.sub (sub_cons (i := 4) (v := .bool false) (by kernel_rfl) sn)
         refine wp_ret ?_
         try simp only [Exit.inBlock, Exit.then]
         refine C.ret (P := Tryd.prog) (fn := Tryd.f52) f78 rfl rfl ?_
         exact ⟨HK, by simp [greetB, *]⟩
        refine L.run f68 (rest' := []) (by kernel_rfl) fun a69 f69 => ?_
        clear f67
        skip
        refine wpList_nil (hK1 _ _ ?_)
        have f70 := f69.sub (sub_cons (i := 4) (v := .bool false) (by kernel_rfl) sn)
        refine wp_ret ?_
        try simp only [Exit.inBlock, Exit.then]
        refine C.ret (P := Tryd.prog) (fn := Tryd.f52) f70 rfl rfl ?_
        exact ⟨HK, by simp [greetB, *]⟩
       refine L.run f60 (rest' := []) (by kernel_rfl) fun a61 f61 => ?_
       clear f59
       skip
       refine wpList_nil (hK1 _ _ ?_)
       have f62 := f61.sub (sub_cons (i := 4) (v := .bool false) (by kernel_rfl) sn)
       refine wp_ret ?_
       try simp only [Exit.inBlock, Exit.then]
       refine C.ret (P := Tryd.prog) (fn := Tryd.f52) f62 rfl rfl ?_
       exact ⟨HK, by simp [greetB, *]⟩
      refine L.run f52 (rest' := []) (by kernel_rfl) fun a53 f53 => ?_
      clear f51
      skip
      refine wpList_nil (hK1 _ _ ?_)
      have f54 := f53.sub (sub_cons (i := 4) (v := .bool false) (by kernel_rfl) sn)
      refine wp_ret ?_
      try simp only [Exit.inBlock, Exit.then]
      refine C.ret (P := Tryd.prog) (fn := Tryd.f52) f54 rfl rfl ?_
      exact ⟨HK, by simp [greetB, *]⟩
     refine L.run f44 (rest' := []) (by kernel_rfl) fun a45 f45 => ?_
     clear f43
     skip
     refine wpList_nil (hK1 _ _ ?_)
     have f46 := f45.sub (sub_cons (i := 4) (v := .bool false) (by kernel_rfl) sn)
     refine wp_ret ?_
     try simp only [Exit.inBlock, Exit.then]
     refine C.ret (P := Tryd.prog) (fn := Tryd.f52) f46 rfl rfl ?_
     exact ⟨HK, by simp [greetB, *]⟩
    refine L.run f36 (rest' := []) (by kernel_rfl) fun a37 f37 => ?_
    clear f35
    skip
    refine wpList_nil (hK1 _ _ ?_)
    have f38 := f37.sub (sub_cons (i := 4) (v := .bool false) (by kernel_rfl) sn)
    refine wp_ret ?_
    try simp only [Exit.inBlock, Exit.then]
    refine C.ret (P := Tryd.prog) (fn := Tryd.f52) f38 rfl rfl ?_
    exact ⟨HK, by simp [greetB, *]⟩
   refine L.run f28 (rest' := []) (by kernel_rfl) fun a29 f29 => ?_
   clear f27
   skip
   refine wpList_nil (hK1 _ _ ?_)
   have f30 := f29.sub (sub_cons (i := 4) (v := .bool false) (by kernel_rfl) sn)
   refine wp_ret ?_
   try simp only [Exit.inBlock, Exit.then]
   refine C.ret (P := Tryd.prog) (fn := Tryd.f52) f30 rfl rfl ?_
   exact ⟨HK, by simp [greetB, *]⟩
  refine L.run f20 (rest' := []) (by kernel_rfl) fun a21 f21 => ?_
  clear f19
  skip
  refine wpList_nil (hK1 _ _ ?_)
  have f22 := f21.sub (sub_cons (i := 4) (v := .bool false) (by kernel_rfl) sn)
  refine wp_ret ?_
  try simp only [Exit.inBlock, Exit.then]
  refine C.ret (P := Tryd.prog) (fn := Tryd.f52) f22 rfl rfl ?_
  exact ⟨HK, by simp [greetB, *]⟩
 refine L.run f12 (rest' := []) (by kernel_rfl) fun a13 f13 => ?_
 clear f11
 skip
 refine wpList_nil (hK1 _ _ ?_)
 have f14 := f13.sub (sub_cons (i := 4) (v := .bool false) (by kernel_rfl) sn)
 refine wp_ret ?_
 try simp only [Exit.inBlock, Exit.then]
 refine C.ret (P := Tryd.prog) (fn := Tryd.f52) f14 rfl rfl ?_
 exact ⟨HK, by simp [greetB, *]⟩
set_option maxHeartbeats 1000000 in
theorem eqSub_any (l b : List (ByteArray × Int)) (A A' : Option Addr) (c c' : Nat) (w : World) (A1 : Sl w A l.length 2 (subCells l)) (A2 : Sl w A' b.length 2 (subCells b)) (hm : l.length ≤ 1000000000000) : Calls Tryd.prog 54 #[.slice A l.length c, .slice A' b.length c'] w (fun e w' => Kept [] w w' ∧ e = .returned (.bool (decide (l = b)))) := by
 have HK : Kept [] w w := Kept.refl [] w
 refine C.enter Tryd.func54 rfl Tryd.ntmps54 rfl ?_
 intro a0 f0
 have f1 : Fr 26 a0 [(0, .slice A l.length c), (1, .slice A' b.length c')] := f0
 refine C.sk fun K0 hK0 => ?_
 refine L.ag f1 fun a2 f2 => ?_
 refine wpList_nil (hK0 _ _ ?_)
 have f3 := f2.sub (sc 0 (sc 1 (sc 4 sn)))
 refine wp_seq_k fun K1 hK1 => ?_
 refine C.sk fun K2 hK2 => ?_
 refine L.mv f3 fun a4 f4 => ?_
 refine L.va f4 (E.lenL f4 U25 rfl) fun a5 f5 => ?_
 refine L.mv f5 fun a6 f6 => ?_
 refine L.va f6 (E.lenL f6 U25 rfl) fun a7 f7 => ?_
 refine L.va f7 (E.neq f7 rfl rfl) fun a8 f8 => ?_
 clear f0 f1 a0 f2 f3 a2 f4 a4 f5 a5 f6 a6 f7 a7
 refine wpList_nil (hK2 _ _ ?_)
 have f9 := f8.sub (sc 0 (sc 1 (sc 4 (sc 10 sn))))
 clear f8
 refine f9.splitN 10 rfl (fun h0 f10 => ?_) (fun h0 f10 => ?_)
 ·refine C.condT f10 rfl ?_
  refine C.sk fun K3 hK3 => ?_
  refine L.ag f10 fun a11 f11 => ?_
  refine wpList_nil (hK3 _ _ ?_)
  have f12 := f11.sub (sc 0 (sc 1 (sc 4 sn)))
  refine wp_ret ?_
  try simp only [Exit.inBlock, Exit.then]
  refine C.ret (P := Tryd.prog) (fn := Tryd.f54) f12 rfl rfl ?_
  exact ⟨HK, by rw [decide_eq_false]; intro e; subst e; omega⟩
 have hlen := h0
 refine C.condF f10 rfl ?_
 refine wp_skip (hK1 _ _ ?_)
 have f11 := f10.sub (sc 0 (sc 1 (sc 4 sn)))
 refine wp_seq_k fun K4 hK4 => ?_
 refine C.sk fun K5 hK5 => ?_
 refine L.mv f11 fun a12 f12 => ?_
 refine L.va f12 (E.lenL f12 U25 rfl) fun a13 f13 => ?_
 refine L.mv f13 fun a14 f14 => ?_
 refine wpList_nil (hK5 _ _ ?_)
 have f15 := f14.sub (sc 0 (sc 1 (sc 4 (sc 12 (sc 13 sn)))))
 refine wp_block ?_
 clear f9 f10 f11 a8 f12 a12 f13 a13 f14
 refine C.loop (fun gk a W => ∃ k : Nat, k + gk = l.length ∧ Kept [] w W ∧ l.take k = b.take k ∧ Fr 26 a [(0, .slice A l.length c), (1, .slice A' b.length c'), (12, .int .i64 l.length), (13, .int .i64 k)]) (l.length) ?_ ?_
 ·exact ⟨0, by omega, HK, rfl, f15.sub (sub_cons rfl (sub_cons rfl (sub_cons rfl (sub_cons rfl sn))))⟩
 intro gk7 a16 w1 hI KL6 hKL6
 obtain ⟨k, hk, HK, hq, f16⟩ := hI
 try clear f15
 refine C.sk fun K7 hK7 => ?_
 refine L.va f16 (E.lss f16 rfl rfl) fun a17 f17 => ?_
 refine wpList_nil (hK7 _ _ ?_)
 have f18 := f17.sub (sc 0 (sc 1 (sc 12 (sc 13 (sc 14 sn)))))
 refine wp_seq_k fun K8 hK8 => ?_
 clear f16 a16 f17
 refine f18.splitD 14 rfl (fun h1 f19 => ?_) (fun h1 f19 => ?_)
 ·obtain ⟨d, hd⟩ := some_at l k (by omega)
  obtain ⟨bk, off, hA⟩ := A1.addr (by omega)
  obtain ⟨d', hd'⟩ := some_at b k (by omega)
  obtain ⟨bk', off', hA'⟩ := A2.addr (by omega)
  refine C.condT f19 rfl ?_
  refine wp_skip (hK8 _ _ ?_)
  have f20 := f19.sub (sc 0 (sc 1 (sc 12 (sc 13 (sc 14 sn)))))
  refine wp_seq_k fun K9 hK9 => ?_
  refine wp_block ?_
  refine C.sk fun K10 hK10 => ?_
  refine L.mv f20 fun a21 f21 => ?_
  refine L.ag f21 fun a22 f22 => ?_
  refine wpList_nil (hK10 _ _ ?_)
  have f23 := f22.sub (sc 0 (sc 1 (sc 5 (sc 12 (sc 13 (sc 14 (sc 15 sn)))))))
  refine wp_seq_k fun K11 hK11 => ?_
  refine R.begin (S := fun W => Kept [] w1 W) (by kernel_rfl) (by exact (Kept.refl _ _).drewN 1) ?_
  have hS6 : Kept [] w1 (w1.drewN 1) := (Kept.refl _ _).drewN 1
  have hd6 : Kept [] w1 (w1.drewN 1) := (Kept.refl _ _).drewN 1
  obtain ⟨w2, hww2⟩ : ∃ W, W = w1.drewN 1 := ⟨_, rfl⟩
  rw [← hww2] at hS6 hd6 ⊢
  clear f18 f19 f20 a17 f21 a21 f22 hww2
  have szw2 := hS6.size
  refine R.t 0 f23 rfl hS6 (fun W hW => (E.move f23 rfl)) fun a24 f24 => ?_
  refine R.t 1 f24 rfl hS6 (fun W hW => (E.move f24 rfl)) fun a25 f25 => ?_
  refine R.t 2 f25 rfl hS6 (fun W hW => (E.indexA f25 (by assumption) U25 wsz70_wa rfl rfl (by omega) (by omega))) fun a26 f26 => ?_
  refine R.t 3 f26 rfl hS6 (fun W hW => (by exact E.loadR f26 U70 rfl wsz70_wa rfl (sub_row (A1.kept (HK.trans hW (by simp))) hA hd) rfl)) fun a27 f27 => ?_
  refine R.t 4 f27 rfl hS6 (fun W hW => (E.move f27 rfl)) fun a28 f28 => ?_
  refine R.t 5 f28 rfl hS6 (fun W hW => (E.move f28 rfl)) fun a29 f29 => ?_
  refine R.t 6 f29 rfl hS6 (fun W hW => (E.indexA f29 (by assumption) U25 wsz70_wa rfl rfl (by omega) (by omega))) fun a30 f30 => ?_
  clear f23 a22 f24 a24 f25 a25 f26 a26 f27 a27 f28 a28 f29 a29
  refine R.t 7 f30 rfl hS6 (fun W hW => (by exact E.loadR f30 U70 rfl wsz70_wa rfl (sub_row (A2.kept (HK.trans hW (by simp))) hA' hd') rfl)) fun a31 f31 => ?_
  refine R.t 8 f31 rfl hS6 (fun W hW => (E.neqV f31 rfl rfl (neqSub _ _ _ _ _ _))) fun a32 f32 => ?_
  have szw2r := hS6.size
  replace HK := HK.trans hS6 (by simp)
  clear f30 a30 f31 a31 hS6
  refine R.done (by kernel_rfl) (hK11 _ _ ?_)
  have f33 := f32.sub (sc 0 (sc 1 (sc 5 (sc 12 (sc 13 (sc 14 (sc 15 (sc 16 (sc 17 (sc 18 (sc 19 (sc 20 (sc 21 (sc 22 (sc 23 (sc 24 sn))))))))))))))))
  clear f32
  refine f33.splitN 24 rfl (fun h2 f34 => ?_) (fun h2 f34 => ?_)
  ·have hne := h2
   refine C.condT f34 rfl ?_
   refine C.sk fun K12 hK12 => ?_
   refine L.ag f34 fun a35 f35 => ?_
   refine wpList_nil (hK12 _ _ ?_)
   have f36 := f35.sub (sc 0 (sc 1 (sc 4 (sc 5 (sc 12 (sc 13 (sc 14 (sc 15 (sc 16 (sc 17 (sc 18 (sc 19 (sc 20 (sc 21 (sc 22 (sc 23 (sc 24 sn)))))))))))))))))
   refine wp_ret ?_
   try simp only [Exit.inBlock, Exit.then]
   refine C.ret (P := Tryd.prog) (fn := Tryd.f54) f36 rfl rfl ?_
   exact ⟨HK, by rw [decide_eq_false]; intro e; subst e; rw [hd] at hd'; cases hd'; exact absurd rfl hne⟩
  have heq := h2
  refine C.condF f34 rfl ?_
  refine wp_skip (hK9 _ _ ?_)
  have f35 := f34.sub (sc 0 (sc 1 (sc 5 (sc 12 (sc 13 (sc 14 (sc 15 (sc 16 (sc 17 (sc 18 (sc 19 (sc 20 (sc 21 (sc 22 (sc 23 (sc 24 sn))))))))))))))))
  refine C.region ?_
  refine L.va f35 (E.add f35 rfl rfl (IntWalk.i64_in _ (by omega))) fun a36 f36 => ?_
  refine L.mv f36 fun a37 f37 => ?_
  clear f33 f34 f35 a32 f36 a36
  refine wpList_nil (hKL6 _ _ (gk7 - 1) ?_ ?_)
  ·omega
  exact ⟨k + 1, by omega, HK, eq_take hq hd hd' (heq), f37.sub (sub_cons rfl (sub_cons rfl (sub_cons rfl (sub_cons rfl sn))))⟩
 refine C.condF f19 rfl ?_
 refine wp_exit (hK4 _ _ ?_)
 have f20 := f19.sub sn
 refine C.sk fun K13 hK13 => ?_
 refine L.ag f20 fun a21 f21 => ?_
 refine wpList_nil (hK13 _ _ ?_)
 have f22 := f21.sub (sc 4 sn)
 refine wp_ret ?_
 try simp only [Exit.inBlock, Exit.then]
 refine C.ret (P := Tryd.prog) (fn := Tryd.f54) f22 rfl rfl ?_
 exact ⟨HK, by rw [decide_eq_true]; rw [List.take_of_length_le (by omega), List.take_of_length_le (by omega)] at hq; exact hq⟩
set_option maxHeartbeats 1000000 in
theorem eqInt_any (l b : List (Int)) (A A' : Option Addr) (c c' : Nat) (w : World) (A1 : Sl w A l.length 1 (codeCells l)) (A2 : Sl w A' b.length 1 (codeCells b)) (hm : l.length ≤ 1000000000000) : Calls Tryd.prog 55 #[.slice A l.length c, .slice A' b.length c'] w (fun e w' => Kept [] w w' ∧ e = .returned (.bool (decide (l = b)))) := by
 have HK : Kept [] w w := Kept.refl [] w
 refine C.enter Tryd.func55 rfl Tryd.ntmps55 rfl ?_
 intro a0 f0
 have f1 : Fr 26 a0 [(0, .slice A l.length c), (1, .slice A' b.length c')] := f0
 refine C.sk fun K0 hK0 => ?_
 refine L.ag f1 fun a2 f2 => ?_
 refine wpList_nil (hK0 _ _ ?_)
 have f3 := f2.sub (sc 0 (sc 1 (sc 4 sn)))
 refine wp_seq_k fun K1 hK1 => ?_
 refine C.sk fun K2 hK2 => ?_
 refine L.mv f3 fun a4 f4 => ?_
 refine L.va f4 (E.lenL f4 U26 rfl) fun a5 f5 => ?_
 refine L.mv f5 fun a6 f6 => ?_
 refine L.va f6 (E.lenL f6 U26 rfl) fun a7 f7 => ?_
 refine L.va f7 (E.neq f7 rfl rfl) fun a8 f8 => ?_
 clear f0 f1 a0 f2 f3 a2 f4 a4 f5 a5 f6 a6 f7 a7
 refine wpList_nil (hK2 _ _ ?_)
 have f9 := f8.sub (sc 0 (sc 1 (sc 4 (sc 10 sn))))
 clear f8
 refine f9.splitN 10 rfl (fun h0 f10 => ?_) (fun h0 f10 => ?_)
 ·refine C.condT f10 rfl ?_
  refine C.sk fun K3 hK3 => ?_
  refine L.ag f10 fun a11 f11 => ?_
  refine wpList_nil (hK3 _ _ ?_)
  have f12 := f11.sub (sc 0 (sc 1 (sc 4 sn)))
  refine wp_ret ?_
  try simp only [Exit.inBlock, Exit.then]
  refine C.ret (P := Tryd.prog) (fn := Tryd.f55) f12 rfl rfl ?_
  exact ⟨HK, by rw [decide_eq_false]; intro e; subst e; omega⟩
 have hlen := h0
 refine C.condF f10 rfl ?_
 refine wp_skip (hK1 _ _ ?_)
 have f11 := f10.sub (sc 0 (sc 1 (sc 4 sn)))
 refine wp_seq_k fun K4 hK4 => ?_
 refine C.sk fun K5 hK5 => ?_
 refine L.mv f11 fun a12 f12 => ?_
 refine L.va f12 (E.lenL f12 U26 rfl) fun a13 f13 => ?_
 refine L.mv f13 fun a14 f14 => ?_
 refine wpList_nil (hK5 _ _ ?_)
 have f15 := f14.sub (sc 0 (sc 1 (sc 4 (sc 12 (sc 13 sn)))))
 refine wp_block ?_
 clear f9 f10 f11 a8 f12 a12 f13 a13 f14
 refine C.loop (fun gk a W => ∃ k : Nat, k + gk = l.length ∧ Kept [] w W ∧ l.take k = b.take k ∧ Fr 26 a [(0, .slice A l.length c), (1, .slice A' b.length c'), (12, .int .i64 l.length), (13, .int .i64 k)]) (l.length) ?_ ?_
 ·exact ⟨0, by omega, HK, rfl, f15.sub (sub_cons rfl (sub_cons rfl (sub_cons rfl (sub_cons rfl sn))))⟩
 intro gk7 a16 w1 hI KL6 hKL6
 obtain ⟨k, hk, HK, hq, f16⟩ := hI
 try clear f15
 refine C.sk fun K7 hK7 => ?_
 refine L.va f16 (E.lss f16 rfl rfl) fun a17 f17 => ?_
 refine wpList_nil (hK7 _ _ ?_)
 have f18 := f17.sub (sc 0 (sc 1 (sc 12 (sc 13 (sc 14 sn)))))
 refine wp_seq_k fun K8 hK8 => ?_
 clear f16 a16 f17
 refine f18.splitD 14 rfl (fun h1 f19 => ?_) (fun h1 f19 => ?_)
 ·obtain ⟨d, hd⟩ := some_at l k (by omega)
  obtain ⟨bk, off, hA⟩ := A1.addr (by omega)
  obtain ⟨d', hd'⟩ := some_at b k (by omega)
  obtain ⟨bk', off', hA'⟩ := A2.addr (by omega)
  refine C.condT f19 rfl ?_
  refine wp_skip (hK8 _ _ ?_)
  have f20 := f19.sub (sc 0 (sc 1 (sc 12 (sc 13 (sc 14 sn)))))
  refine wp_seq_k fun K9 hK9 => ?_
  refine wp_block ?_
  refine C.sk fun K10 hK10 => ?_
  refine L.mv f20 fun a21 f21 => ?_
  refine L.ag f21 fun a22 f22 => ?_
  refine wpList_nil (hK10 _ _ ?_)
  have f23 := f22.sub (sc 0 (sc 1 (sc 5 (sc 12 (sc 13 (sc 14 (sc 15 sn)))))))
  refine wp_seq_k fun K11 hK11 => ?_
  refine R.begin (S := fun W => Kept [] w1 W) (by kernel_rfl) (by exact (Kept.refl _ _).drewN 1) ?_
  have hS6 : Kept [] w1 (w1.drewN 1) := (Kept.refl _ _).drewN 1
  have hd6 : Kept [] w1 (w1.drewN 1) := (Kept.refl _ _).drewN 1
  obtain ⟨w2, hww2⟩ : ∃ W, W = w1.drewN 1 := ⟨_, rfl⟩
  rw [← hww2] at hS6 hd6 ⊢
  clear f18 f19 f20 a17 f21 a21 f22 hww2
  have szw2 := hS6.size
  refine R.t 0 f23 rfl hS6 (fun W hW => (E.move f23 rfl)) fun a24 f24 => ?_
  refine R.t 1 f24 rfl hS6 (fun W hW => (E.move f24 rfl)) fun a25 f25 => ?_
  refine R.t 2 f25 rfl hS6 (fun W hW => (E.indexA f25 (by assumption) U26 wsz3_wa rfl rfl (by omega) (by omega))) fun a26 f26 => ?_
  refine R.t 3 f26 rfl hS6 (fun W hW => (by exact E.load f26 U3 rfl rfl (code_cell1 (A1.kept (HK.trans hW (by simp))) hA hd))) fun a27 f27 => ?_
  refine R.t 4 f27 rfl hS6 (fun W hW => (E.move f27 rfl)) fun a28 f28 => ?_
  refine R.t 5 f28 rfl hS6 (fun W hW => (E.move f28 rfl)) fun a29 f29 => ?_
  refine R.t 6 f29 rfl hS6 (fun W hW => (E.indexA f29 (by assumption) U26 wsz3_wa rfl rfl (by omega) (by omega))) fun a30 f30 => ?_
  clear f23 a22 f24 a24 f25 a25 f26 a26 f27 a27 f28 a28 f29 a29
  refine R.t 7 f30 rfl hS6 (fun W hW => (by exact E.load f30 U3 rfl rfl (code_cell1 (A2.kept (HK.trans hW (by simp))) hA' hd'))) fun a31 f31 => ?_
  refine R.t 8 f31 rfl hS6 (fun W hW => (E.neq f31 rfl rfl)) fun a32 f32 => ?_
  have szw2r := hS6.size
  replace HK := HK.trans hS6 (by simp)
  clear f30 a30 f31 a31 hS6
  refine R.done (by kernel_rfl) (hK11 _ _ ?_)
  have f33 := f32.sub (sc 0 (sc 1 (sc 5 (sc 12 (sc 13 (sc 14 (sc 15 (sc 16 (sc 17 (sc 18 (sc 19 (sc 20 (sc 21 (sc 22 (sc 23 (sc 24 sn))))))))))))))))
  clear f32
  refine f33.splitN 24 rfl (fun h2 f34 => ?_) (fun h2 f34 => ?_)
  ·have hne := h2
   refine C.condT f34 rfl ?_
   refine C.sk fun K12 hK12 => ?_
   refine L.ag f34 fun a35 f35 => ?_
   refine wpList_nil (hK12 _ _ ?_)
   have f36 := f35.sub (sc 0 (sc 1 (sc 4 (sc 5 (sc 12 (sc 13 (sc 14 (sc 15 (sc 16 (sc 17 (sc 18 (sc 19 (sc 20 (sc 21 (sc 22 (sc 23 (sc 24 sn)))))))))))))))))
   refine wp_ret ?_
   try simp only [Exit.inBlock, Exit.then]
   refine C.ret (P := Tryd.prog) (fn := Tryd.f55) f36 rfl rfl ?_
   exact ⟨HK, by rw [decide_eq_false]; intro e; subst e; rw [hd] at hd'; cases hd'; exact absurd rfl hne⟩
  have heq := h2
  refine C.condF f34 rfl ?_
  refine wp_skip (hK9 _ _ ?_)
  have f35 := f34.sub (sc 0 (sc 1 (sc 5 (sc 12 (sc 13 (sc 14 (sc 15 (sc 16 (sc 17 (sc 18 (sc 19 (sc 20 (sc 21 (sc 22 (sc 23 (sc 24 sn))))))))))))))))
  refine C.region ?_
  refine L.va f35 (E.add f35 rfl rfl (IntWalk.i64_in _ (by omega))) fun a36 f36 => ?_
  refine L.mv f36 fun a37 f37 => ?_
  clear f33 f34 f35 a32 f36 a36
  refine wpList_nil (hKL6 _ _ (gk7 - 1) ?_ ?_)
  ·omega
  exact ⟨k + 1, by omega, HK, eq_take hq hd hd' (heq), f37.sub (sub_cons rfl (sub_cons rfl (sub_cons rfl (sub_cons rfl sn))))⟩
 refine C.condF f19 rfl ?_
 refine wp_exit (hK4 _ _ ?_)
 have f20 := f19.sub sn
 refine C.sk fun K13 hK13 => ?_
 refine L.ag f20 fun a21 f21 => ?_
 refine wpList_nil (hK13 _ _ ?_)
 have f22 := f21.sub (sc 4 sn)
 refine wp_ret ?_
 try simp only [Exit.inBlock, Exit.then]
 refine C.ret (P := Tryd.prog) (fn := Tryd.f55) f22 rfl rfl ?_
 exact ⟨HK, by rw [decide_eq_true]; rw [List.take_of_length_le (by omega), List.take_of_length_le (by omega)] at hq; exact hq⟩
end Go.Proofs.YtigjafbbnocihaaDoor
namespace Go.Hub
open Go.Lib Go.RowKit
def ac (l : List UInt8) (m : Nat) : Nat → Nat
  | 0 => 0
  | 1 => (l.getD 0 0).toNat % m
  | k + 2 => ac l m (k + 1) * 64 + (l.getD (k + 1) 0).toNat % 64
theorem ac_one (l : List UInt8) (m : Nat) : ac l m 1 = (l.getD 0 0).toNat % m := rfl
theorem ac_succ (l : List UInt8) (m k : Nat) (h : 1 ≤ k) : ac l m (k + 1) = ac l m k * 64 + (l.getD k 0).toNat % 64 := by
  obtain ⟨j, rfl⟩ : ∃ j, k = j + 1 := ⟨k - 1, by omega⟩
  rfl
def Cls (b0 n m least : Nat) : Prop := (192 ≤ b0 ∧ b0 < 224 ∧ n = 2 ∧ m = 32 ∧ least = 128) ∨ (224 ≤ b0 ∧ b0 < 240 ∧ n = 3 ∧ m = 16 ∧ least = 2048) ∨ (240 ≤ b0 ∧ b0 < 248 ∧ n = 4 ∧ m = 8 ∧ least = 65536)
theorem ac_bd {l : List UInt8} {n m least : Nat} (h : Cls (l.getD 0 0).toNat n m least) (k : Nat) (h1 : 1 ≤ k) (h2 : k ≤ n) : ac l m k ≤ 2097151 ∧ (k < n → ac l m k ≤ 32767) := by
  have e1 : ac l m 1 = (l.getD 0 0).toNat % m := rfl
  have e2 : ac l m 2 = ac l m 1 * 64 + (l.getD 1 0).toNat % 64 := rfl
  have e3 : ac l m 3 = ac l m 2 * 64 + (l.getD 2 0).toNat % 64 := rfl
  have e4 : ac l m 4 = ac l m 3 * 64 + (l.getD 3 0).toNat % 64 := rfl
  rcases h with ⟨_, _, rfl, rfl, _⟩ | ⟨_, _, rfl, rfl, _⟩ | ⟨_, _, rfl, rfl, _⟩
  · rcases (show k = 1 ∨ k = 2 by omega) with rfl | rfl <;> omega
  · rcases (show k = 1 ∨ k = 2 ∨ k = 3 by omega) with rfl | rfl | rfl <;> omega
  rcases (show k = 1 ∨ k = 2 ∨ k = 3 ∨ k = 4 by omega) with rfl | rfl | rfl | rfl <;> omega
def stepV (l : List UInt8) : Value := .tuple #[.int .i32 ((if badL l then 0 else (decodeL l).1 : Nat) : Int), .int .i64 ((decodeL l).2 : Int), .bool (!badL l)]
theorem stepV_bad {l : List UInt8} (h : decodeL l = (65533, 1)) : stepV l = .tuple #[.int .i32 0, .int .i64 1, .bool false] := by
  unfold stepV badL; rw [h]; rfl
theorem stepV_ok {l : List UInt8} {r n : Nat} (h : decodeL l = (r, n)) (hn : ¬ (r = 65533 ∧ n = 1)) : stepV l = .tuple #[.int .i32 r, .int .i64 n, .bool true] := by
  have hb : badL l = false := by
    unfold badL
    rw [h]
    simp
    intro h1 h2
    exact hn ⟨h1, h2⟩
  unfold stepV
  rw [hb, h]
  rfl
theorem dec_ascii {l : List UInt8} (h : (l.getD 0 0).toNat < 128) : decodeL l = ((l.getD 0 0).toNat, 1) := by
  rw [decodeL_N]; unfold decodeN; rw [if_pos h]
theorem dec_none {l : List UInt8} (h1 : 128 ≤ (l.getD 0 0).toNat) (h2 : (l.getD 0 0).toNat < 192 ∨ 248 ≤ (l.getD 0 0).toNat) : decodeL l = (65533, 1) := by
  have := (l.getD 0 0).toNat_lt
  rw [decodeL_N]; unfold decodeN
  rw [if_neg (by omega), if_neg (by omega), if_neg (by omega), if_neg (by omega)]
theorem dec_short {l : List UInt8} {n m least : Nat} (h : Cls (l.getD 0 0).toNat n m least) (hl : l.length < n) : decodeL l = (65533, 1) := by
  rw [decodeL_N]; unfold decodeN
  rcases h with ⟨_, _, rfl, rfl, _⟩ | ⟨_, _, rfl, rfl, _⟩ | ⟨_, _, rfl, rfl, _⟩
  · rw [if_neg (by omega), if_neg (by omega), if_neg (by omega), if_neg (by omega)]
  · rw [if_neg (by omega), if_neg (by omega), if_neg (by omega), if_neg (by omega)]
  rw [if_neg (by omega), if_neg (by omega), if_neg (by omega), if_neg (by omega)]
theorem dec_broken {l : List UInt8} {n m least k : Nat} (h : Cls (l.getD 0 0).toNat n m least) (h1 : 1 ≤ k) (h2 : k < n) (hb : (l.getD k 0).toNat / 64 ≠ 2) : decodeL l = (65533, 1) := by
  rw [decodeL_N]; unfold decodeN
  rcases h with ⟨_, _, rfl, rfl, _⟩ | ⟨_, _, rfl, rfl, _⟩ | ⟨_, _, rfl, rfl, _⟩
  · rcases (show k = 1 by omega) with rfl
    rw [if_neg (by omega), if_neg (by omega), if_neg (by omega), if_neg (by omega)]
  · rcases (show k = 1 ∨ k = 2 by omega) with rfl | rfl <;> rw [if_neg (by omega), if_neg (by omega), if_neg (by omega), if_neg (by omega)]
  rcases (show k = 1 ∨ k = 2 ∨ k = 3 by omega) with rfl | rfl | rfl <;> rw [if_neg (by omega), if_neg (by omega), if_neg (by omega), if_neg (by omega)]
theorem dec_whole {l : List UInt8} {n m least : Nat} (h : Cls (l.getD 0 0).toNat n m least) (hl : n ≤ l.length) (hc : ∀ k, 1 ≤ k → k < n → (l.getD k 0).toNat / 64 = 2) :
    decodeL l = if least ≤ ac l m n ∧ ac l m n ≤ 1114111 ∧ ¬ (55296 ≤ ac l m n ∧ ac l m n < 57344) then (ac l m n, n) else (65533, 1) := by
  have e1 : ac l m 1 = (l.getD 0 0).toNat % m := rfl
  have e2 : ac l m 2 = ac l m 1 * 64 + (l.getD 1 0).toNat % 64 := rfl
  have e3 : ac l m 3 = ac l m 2 * 64 + (l.getD 2 0).toNat % 64 := rfl
  have e4 : ac l m 4 = ac l m 3 * 64 + (l.getD 3 0).toNat % 64 := rfl
  have c1 := hc 1 (by omega)
  have c2 := hc 2 (by omega)
  have c3 := hc 3 (by omega)
  rw [decodeL_N]; unfold decodeN
  rcases h with ⟨_, _, rfl, rfl, rfl⟩ | ⟨_, _, rfl, rfl, rfl⟩ | ⟨_, _, rfl, rfl, rfl⟩
  · have c1 := c1 (by omega)
    rw [if_neg (by omega), if_pos (by omega)]
    split
    · rw [if_pos (by omega)]; exact Prod.ext (by dsimp only; omega) rfl
    rw [if_neg (by omega)]
  · have c1 := c1 (by omega)
    have c2 := c2 (by omega)
    rw [if_neg (by omega), if_neg (by omega), if_pos (by omega)]
    split
    · rw [if_pos (by omega)]; exact Prod.ext (by dsimp only; omega) rfl
    rw [if_neg (by omega)]
  have c1 := c1 (by omega)
  have c2 := c2 (by omega)
  have c3 := c3 (by omega)
  rw [if_neg (by omega), if_neg (by omega), if_neg (by omega), if_pos (by omega)]
  split
  · rw [if_pos (by omega)]; exact Prod.ext (by dsimp only; omega) rfl
  rw [if_neg (by omega)]
theorem u8_m5 : ∀ x : Fin 256, bits .and .u8 (x.val : Int) 31 = ((x.val % 32 : Nat) : Int) := by decide +kernel
theorem u8_m4 : ∀ x : Fin 256, bits .and .u8 (x.val : Int) 15 = ((x.val % 16 : Nat) : Int) := by decide +kernel
theorem u8_m3 : ∀ x : Fin 256, bits .and .u8 (x.val : Int) 7 = ((x.val % 8 : Nat) : Int) := by decide +kernel
theorem u8_m6 : ∀ x : Fin 256, bits .and .u8 (x.val : Int) 63 = ((x.val % 64 : Nat) : Int) := by decide +kernel
theorem u8_hi : ∀ x : Fin 256, bits .and .u8 (x.val : Int) 192 = ((x.val / 64 * 64 : Nat) : Int) := by decide +kernel
theorem wraps_i32 (n : Int) (h0 : 0 ≤ n) (h1 : n < 2 ^ 31) : IntKind.i32.wrap n = n := by rw [IntKind.wrap_i32]; omega
theorem i32_or (i : Nat) (a b : Int) (ha : 0 ≤ a) (ha1 : a < 2 ^ i) (hb : 0 ≤ b) (hb1 : b % 2 ^ i = 0) (hb2 : b < 2 ^ 30) (hi : a < 2 ^ 30) : bits .or .i32 b a = b + a :=
  bits_join .i32 31 (by decide) wraps_i32 i b a hb hb1 (by omega) ha ha1 (by omega)
end Go.Hub
namespace Go.Proofs.YtigjafbbnocihaaDoor
open Go.RowKit Go.Hub Go.Lib
theorem getD_some {l : List UInt8} {k : Nat} (h : k < l.length) : l[k]? = some (l.getD k 0) := by simp [List.getD, h]
section
variable (b off cap : Nat) (l : List UInt8) (w : World) (hne : 0 < l.length) (hbig : l.length ≤ maxLen)
  (hc : ∀ j, j < l.length → w.cell? ⟨b, off + j, none⟩ = some (.int .u8 ((l.getD j 0).toNat : Int)))
set_option maxRecDepth 100000 in
set_option maxHeartbeats 2000000 in
include hne hc hbig in
theorem step_ascii (h : (l.getD 0 0).toNat < 128) : Calls Tryd.prog 89 #[.slice (some ⟨b, off, none⟩) l.length cap] w fun e w' => e = .returned (stepV l) ∧ w' = w := by
  have h0 := hc 0 hne
  rw [Nat.add_zero] at h0
  have hlt := (l.getD 0 0).toNat_lt
  have hl2 : (0 : Int) < (l.length : Int) := by omega
  have HS := hid (stepV_ok (dec_ascii h) (by omega))
  obtain ⟨x, hx⟩ : ∃ x, x = (l.getD 0 0).toNat := ⟨_, rfl⟩
  rw [← hx] at h0 h hlt HS
  have hi : (x : Int) < 128 := by omega
  clear hc hx
  go_enter Tryd.func89, Tryd.ntmps89
  go_wp2
  go_ret3
  exact ⟨by rw [HS.out]; rfl, rfl⟩
set_option maxRecDepth 100000 in
set_option maxHeartbeats 2000000 in
include hne hc hbig in
theorem step_none (h1 : 128 ≤ (l.getD 0 0).toNat) (h2 : (l.getD 0 0).toNat < 192 ∨ 248 ≤ (l.getD 0 0).toNat) : Calls Tryd.prog 89 #[.slice (some ⟨b, off, none⟩) l.length cap] w fun e w' => e = .returned (stepV l) ∧ w' = w := by
  have h0 := hc 0 hne
  rw [Nat.add_zero] at h0
  have hlt := (l.getD 0 0).toNat_lt
  have hl2 : (0 : Int) < (l.length : Int) := by omega
  have HS := hid (stepV_bad (dec_none h1 h2))
  obtain ⟨x, hx⟩ : ∃ x, x = (l.getD 0 0).toNat := ⟨_, rfl⟩
  rw [← hx] at h0 h1 h2 hlt
  clear hc hx
  rcases h2 with h2 | h2
  · have hi : ¬ (x : Int) < 128 := by omega
    have hi2 : (x : Int) < 192 := by omega
    go_enter Tryd.func89, Tryd.ntmps89
    go_wp2
    go_ret3
    exact ⟨by rw [HS.out]; rfl, rfl⟩
  have hi : ¬ (x : Int) < 128 := by omega
  have hi2 : (248 : Int) ≤ x := by omega
  go_enter Tryd.func89, Tryd.ntmps89
  go_wp2
  go_ret3
  exact ⟨by rw [HS.out]; rfl, rfl⟩
set_option maxRecDepth 100000 in
set_option maxHeartbeats 4000000 in
include hne hc hbig in
theorem step_short (n m least : Nat) (h : Cls (l.getD 0 0).toNat n m least) (hl : l.length < n) : Calls Tryd.prog 89 #[.slice (some ⟨b, off, none⟩) l.length cap] w fun e w' => e = .returned (stepV l) ∧ w' = w := by
  have h0 := hc 0 hne
  rw [Nat.add_zero] at h0
  have hlt := (l.getD 0 0).toNat_lt
  have hl2 : (0 : Int) < (l.length : Int) := by omega
  have HS := hid (stepV_bad (dec_short h hl))
  obtain ⟨x, hx⟩ : ∃ x, x = (l.getD 0 0).toNat := ⟨_, rfl⟩
  rw [← hx] at h0 h hlt
  have hm5 := u8_m5 ⟨x, hlt⟩
  have hm4 := u8_m4 ⟨x, hlt⟩
  have hm3 := u8_m3 ⟨x, hlt⟩
  clear hc hx
  rcases h with ⟨a1, a2, rfl, rfl, rfl⟩ | ⟨a1, a2, rfl, rfl, rfl⟩ | ⟨a1, a2, rfl, rfl, rfl⟩
  all_goals
    have hi : ¬ (x : Int) < 128 := by omega
    have hi2 : (192 : Int) ≤ x := by omega
    have hi3 : (l.length : Int) < 4 := by omega
  · have hi4 : (x : Int) < 224 := by omega
    have hi5 : (l.length : Int) < 2 := by omega
    go_enter Tryd.func89, Tryd.ntmps89
    go_wp2
    go_ret3
    exact ⟨by rw [HS.out]; rfl, rfl⟩
  · have hi4 : (224 : Int) ≤ x := by omega
    have hi6 : (x : Int) < 240 := by omega
    have hi5 : (l.length : Int) < 3 := by omega
    go_enter Tryd.func89, Tryd.ntmps89
    go_wp2
    go_ret3
    exact ⟨by rw [HS.out]; rfl, rfl⟩
  have hi4 : (240 : Int) ≤ x := by omega
  have hi6 : (x : Int) < 248 := by omega
  go_enter Tryd.func89, Tryd.ntmps89
  go_wp2
  go_ret3
  exact ⟨by rw [HS.out]; rfl, rfl⟩
end
end Go.Proofs.YtigjafbbnocihaaDoor
namespace Go.Proofs.YtigjafbbnocihaaDoor
open Go.RowKit Go.Hub Go.Lib
section
variable (b off cap : Nat) (l : List UInt8) (w : World) (hne : 0 < l.length) (hbig : l.length ≤ maxLen)
  (hc : ∀ j, j < l.length → w.cell? ⟨b, off + j, none⟩ = some (.int .u8 ((l.getD j 0).toNat : Int)))
set_option maxRecDepth 100000 in
set_option maxHeartbeats 8000000 in
include hne hc hbig in
theorem step_2 (ha : 192 ≤ (l.getD 0 0).toNat) (hb : (l.getD 0 0).toNat < 224) (hl : 2 ≤ l.length) : Calls Tryd.prog 89 #[.slice (some ⟨b, off, none⟩) l.length cap] w fun e w' => e = .returned (stepV l) ∧ w' = w := by
  have hcl : Cls (l.getD 0 0).toNat 2 32 128 := by unfold Cls; omega
  have h0 := hc 0 hne
  rw [Nat.add_zero] at h0
  have HC := hid hc
  have HB := hid (fun k (h1 : 1 ≤ k) (h2 : k ≤ 2) => ac_bd hcl k h1 h2)
  have HK := hid hcl
  have hlt := (l.getD 0 0).toNat_lt
  have hl2 : (0 : Int) < (l.length : Int) := by omega
  have H1 := hid (ac_one l 32)
  obtain ⟨x, hx⟩ : ∃ x, x = (l.getD 0 0).toNat := ⟨_, rfl⟩
  rw [← hx] at h0 hlt H1 ha hb
  have hm := u8_m5 ⟨x, hlt⟩
  unfold maxLen at hbig
  clear hc hx hcl
  have hi : ¬ (x : Int) < 128 := by omega
  have hi2 : (192 : Int) ≤ x := by omega
  have hi4 : (x : Int) < 224 := by omega
  have hi5 : ¬ (l.length : Int) < 2 := by omega
  go_enter Tryd.func89, Tryd.ntmps89
  go_wp2
  clear hm
  go_loopg [8, 9] 1 (fun g r i wr => ∃ k : Nat, 1 ≤ k ∧ k + g = 2 ∧ i = .int .i64 k ∧ r = .int .i32 (ac l 32 k) ∧ (∀ j, 1 ≤ j → j < k → (l.getD j 0).toNat / 64 = 2) ∧ w = wr)
  case atStart => exact ⟨1, by omega, rfl, rfl, by rw [H1.out]; rfl, fun j h1 h2 => by omega, rfl⟩
  case round =>
    obtain ⟨k, hk1, hk2, rfl, rfl, hcont, rfl⟩ := hrel
    have HCT := hid hcont
    have hbd := HB.out k hk1 (by omega)
    obtain ⟨r, hr⟩ : ∃ r, r = ac l 32 k := ⟨_, rfl⟩
    rw [← hr] at hbd ⊢
    have HR := hid hr
    clear hcont hr
    by_cases hlt2 : k < 2
    · have hcell := HC.out k (by omega)
      have hk3 : (k : Int) < 2 := by omega
      have hk4 : (k : Int) < (l.length : Int) := by omega
      have hzl := (l.getD k 0).toNat_lt
      have hr3 := hbd.2 hlt2
      obtain ⟨z, hz⟩ : ∃ z, z = (l.getD k 0).toNat := ⟨_, rfl⟩
      rw [← hz] at hcell hzl
      have HZ := hid hz
      have hmh := u8_hi ⟨z, hzl⟩
      have hml := u8_m6 ⟨z, hzl⟩
      simp only [] at hmh hml
      have hor : bits .or .i32 ((r : Int) * 64) ((z % 64 : Nat) : Int) = (r : Int) * 64 + ((z % 64 : Nat) : Int) := i32_or 6 _ _ (by omega) (by omega) (by omega) (by omega) (by omega) (by omega)
      have HI := hid hk2
      clear hz hk2 hbd
      by_cases hz2 : z / 64 = 2
      · have hq : ((z / 64 * 64 : Nat) : Int) = 128 := by omega
        rw [hq] at hmh
        have HQ := hid hz2
        clear hz2 hq
        go_wp2
        go_roundg (gk - 1)
        case measure => have := HI.out; omega
        case rel =>
          refine ⟨k + 1, by omega, by have := HI.out; omega, by go_num, ?_, fun j h1 h2 => ?_, rfl⟩
          · rw [ac_succ l 32 k hk1, ← HR.out, ← HZ.out]
            congr 1
          rcases Nat.lt_or_ge j k with h | h
          · exact HCT.out j h1 h
          obtain rfl : j = k := by omega
          rw [← HZ.out]; exact HQ.out
      have hq : (((z / 64 * 64 : Nat) : Int) != 128) = true := by simp; omega
      have HS := hid (stepV_bad (dec_broken HK.out hk1 hlt2 (by rw [← HZ.out]; exact hz2)))
      clear hz2
      go_wp2
      go_ret3
      exact ⟨by rw [HS.out]; rfl, rfl⟩
    obtain rfl : k = 2 := by omega
    have HD := hid (dec_whole HK.out hl HCT.out)
    rw [← HR.out] at HD
    clear hlt2 hk2
    have hr9 := hbd.1
    clear hbd
    by_cases hg : 128 ≤ r ∧ r ≤ 1114111 ∧ ¬ (55296 ≤ r ∧ r < 57344)
    · have HS := hid (stepV_ok (HD.out.trans (if_pos hg)) (by omega))
      obtain ⟨g1, g2, g3⟩ := hg
      have i1 : ¬ (r : Int) < 128 := by omega
      have i2 : ¬ (1114111 : Int) < r := by omega
      by_cases g4 : r < 55296
      · have i3 : ¬ (55296 : Int) ≤ r := by omega
        clear g1 g2 g3 g4
        go_wp2
        go_ret3
        exact ⟨by rw [HS.out]; rfl, rfl⟩
      have i3 : (55296 : Int) ≤ r := by omega
      have i4 : ¬ (r : Int) < 57344 := by omega
      clear g1 g2 g3 g4
      go_wp2
      go_ret3
      exact ⟨by rw [HS.out]; rfl, rfl⟩
    have HS := hid (stepV_bad (HD.out.trans (if_neg hg)))
    by_cases g1 : r < 128
    · have i1 : (r : Int) < 128 := by omega
      clear g1 hg
      go_wp2
      all_goals (go_ret3; exact ⟨by rw [HS.out]; rfl, rfl⟩)
    have i1 : ¬ (r : Int) < 128 := by omega
    by_cases g2 : r ≤ 1114111
    · have i2 : ¬ (1114111 : Int) < r := by omega
      have i3 : (55296 : Int) ≤ r := by omega
      have i4 : (r : Int) < 57344 := by omega
      clear g1 hg g2
      go_wp2
      go_ret3
      exact ⟨by rw [HS.out]; rfl, rfl⟩
    have i2 : (1114111 : Int) < r := by omega
    clear g1 hg g2
    go_wp2
    all_goals (go_ret3; exact ⟨by rw [HS.out]; rfl, rfl⟩)
set_option maxRecDepth 100000 in
set_option maxHeartbeats 8000000 in
include hne hc hbig in
theorem step_3 (ha : 224 ≤ (l.getD 0 0).toNat) (hb : (l.getD 0 0).toNat < 240) (hl : 3 ≤ l.length) : Calls Tryd.prog 89 #[.slice (some ⟨b, off, none⟩) l.length cap] w fun e w' => e = .returned (stepV l) ∧ w' = w := by
  have hcl : Cls (l.getD 0 0).toNat 3 16 2048 := by unfold Cls; omega
  have h0 := hc 0 hne
  rw [Nat.add_zero] at h0
  have HC := hid hc
  have HB := hid (fun k (h1 : 1 ≤ k) (h2 : k ≤ 3) => ac_bd hcl k h1 h2)
  have HK := hid hcl
  have hlt := (l.getD 0 0).toNat_lt
  have hl2 : (0 : Int) < (l.length : Int) := by omega
  have H1 := hid (ac_one l 16)
  obtain ⟨x, hx⟩ : ∃ x, x = (l.getD 0 0).toNat := ⟨_, rfl⟩
  rw [← hx] at h0 hlt H1 ha hb
  have hm := u8_m4 ⟨x, hlt⟩
  unfold maxLen at hbig
  clear hc hx hcl
  have hi : ¬ (x : Int) < 128 := by omega
  have hi2 : (224 : Int) ≤ x := by omega
  have hi4 : (x : Int) < 240 := by omega
  have hi5 : ¬ (l.length : Int) < 3 := by omega
  go_enter Tryd.func89, Tryd.ntmps89
  go_wp2
  clear hm
  go_loopg [8, 9] 2 (fun g r i wr => ∃ k : Nat, 1 ≤ k ∧ k + g = 3 ∧ i = .int .i64 k ∧ r = .int .i32 (ac l 16 k) ∧ (∀ j, 1 ≤ j → j < k → (l.getD j 0).toNat / 64 = 2) ∧ w = wr)
  case atStart => exact ⟨1, by omega, rfl, rfl, by rw [H1.out]; rfl, fun j h1 h2 => by omega, rfl⟩
  case round =>
    obtain ⟨k, hk1, hk2, rfl, rfl, hcont, rfl⟩ := hrel
    have HCT := hid hcont
    have hbd := HB.out k hk1 (by omega)
    obtain ⟨r, hr⟩ : ∃ r, r = ac l 16 k := ⟨_, rfl⟩
    rw [← hr] at hbd ⊢
    have HR := hid hr
    clear hcont hr
    by_cases hlt2 : k < 3
    · have hcell := HC.out k (by omega)
      have hk3 : (k : Int) < 3 := by omega
      have hk4 : (k : Int) < (l.length : Int) := by omega
      have hzl := (l.getD k 0).toNat_lt
      have hr3 := hbd.2 hlt2
      obtain ⟨z, hz⟩ : ∃ z, z = (l.getD k 0).toNat := ⟨_, rfl⟩
      rw [← hz] at hcell hzl
      have HZ := hid hz
      have hmh := u8_hi ⟨z, hzl⟩
      have hml := u8_m6 ⟨z, hzl⟩
      simp only [] at hmh hml
      have hor : bits .or .i32 ((r : Int) * 64) ((z % 64 : Nat) : Int) = (r : Int) * 64 + ((z % 64 : Nat) : Int) := i32_or 6 _ _ (by omega) (by omega) (by omega) (by omega) (by omega) (by omega)
      have HI := hid hk2
      clear hz hk2 hbd
      by_cases hz2 : z / 64 = 2
      · have hq : ((z / 64 * 64 : Nat) : Int) = 128 := by omega
        rw [hq] at hmh
        have HQ := hid hz2
        clear hz2 hq
        go_wp2
        go_roundg (gk - 1)
        case measure => have := HI.out; omega
        case rel =>
          refine ⟨k + 1, by omega, by have := HI.out; omega, by go_num, ?_, fun j h1 h2 => ?_, rfl⟩
          · rw [ac_succ l 16 k hk1, ← HR.out, ← HZ.out]
            congr 1
          rcases Nat.lt_or_ge j k with h | h
          · exact HCT.out j h1 h
          obtain rfl : j = k := by omega
          rw [← HZ.out]; exact HQ.out
      have hq : (((z / 64 * 64 : Nat) : Int) != 128) = true := by simp; omega
      have HS := hid (stepV_bad (dec_broken HK.out hk1 hlt2 (by rw [← HZ.out]; exact hz2)))
      clear hz2
      go_wp2
      go_ret3
      exact ⟨by rw [HS.out]; rfl, rfl⟩
    obtain rfl : k = 3 := by omega
    have HD := hid (dec_whole HK.out hl HCT.out)
    rw [← HR.out] at HD
    clear hlt2 hk2
    have hr9 := hbd.1
    clear hbd
    by_cases hg : 2048 ≤ r ∧ r ≤ 1114111 ∧ ¬ (55296 ≤ r ∧ r < 57344)
    · have HS := hid (stepV_ok (HD.out.trans (if_pos hg)) (by omega))
      obtain ⟨g1, g2, g3⟩ := hg
      have i1 : ¬ (r : Int) < 2048 := by omega
      have i2 : ¬ (1114111 : Int) < r := by omega
      by_cases g4 : r < 55296
      · have i3 : ¬ (55296 : Int) ≤ r := by omega
        clear g1 g2 g3 g4
        go_wp2
        go_ret3
        exact ⟨by rw [HS.out]; rfl, rfl⟩
      have i3 : (55296 : Int) ≤ r := by omega
      have i4 : ¬ (r : Int) < 57344 := by omega
      clear g1 g2 g3 g4
      go_wp2
      go_ret3
      exact ⟨by rw [HS.out]; rfl, rfl⟩
    have HS := hid (stepV_bad (HD.out.trans (if_neg hg)))
    by_cases g1 : r < 2048
    · have i1 : (r : Int) < 2048 := by omega
      clear g1 hg
      go_wp2
      all_goals (go_ret3; exact ⟨by rw [HS.out]; rfl, rfl⟩)
    have i1 : ¬ (r : Int) < 2048 := by omega
    by_cases g2 : r ≤ 1114111
    · have i2 : ¬ (1114111 : Int) < r := by omega
      have i3 : (55296 : Int) ≤ r := by omega
      have i4 : (r : Int) < 57344 := by omega
      clear g1 hg g2
      go_wp2
      go_ret3
      exact ⟨by rw [HS.out]; rfl, rfl⟩
    have i2 : (1114111 : Int) < r := by omega
    clear g1 hg g2
    go_wp2
    all_goals (go_ret3; exact ⟨by rw [HS.out]; rfl, rfl⟩)
set_option maxRecDepth 100000 in
set_option maxHeartbeats 8000000 in
include hne hc hbig in
theorem step_4 (ha : 240 ≤ (l.getD 0 0).toNat) (hb : (l.getD 0 0).toNat < 248) (hl : 4 ≤ l.length) : Calls Tryd.prog 89 #[.slice (some ⟨b, off, none⟩) l.length cap] w fun e w' => e = .returned (stepV l) ∧ w' = w := by
  have hcl : Cls (l.getD 0 0).toNat 4 8 65536 := by unfold Cls; omega
  have h0 := hc 0 hne
  rw [Nat.add_zero] at h0
  have HC := hid hc
  have HB := hid (fun k (h1 : 1 ≤ k) (h2 : k ≤ 4) => ac_bd hcl k h1 h2)
  have HK := hid hcl
  have hlt := (l.getD 0 0).toNat_lt
  have hl2 : (0 : Int) < (l.length : Int) := by omega
  have H1 := hid (ac_one l 8)
  obtain ⟨x, hx⟩ : ∃ x, x = (l.getD 0 0).toNat := ⟨_, rfl⟩
  rw [← hx] at h0 hlt H1 ha hb
  have hm := u8_m3 ⟨x, hlt⟩
  unfold maxLen at hbig
  clear hc hx hcl
  have hi : ¬ (x : Int) < 128 := by omega
  have hi2 : (240 : Int) ≤ x := by omega
  have hi4 : (x : Int) < 248 := by omega
  have hi5 : ¬ (l.length : Int) < 4 := by omega
  go_enter Tryd.func89, Tryd.ntmps89
  go_wp2
  clear hm
  go_loopg [8, 9] 3 (fun g r i wr => ∃ k : Nat, 1 ≤ k ∧ k + g = 4 ∧ i = .int .i64 k ∧ r = .int .i32 (ac l 8 k) ∧ (∀ j, 1 ≤ j → j < k → (l.getD j 0).toNat / 64 = 2) ∧ w = wr)
  case atStart => exact ⟨1, by omega, rfl, rfl, by rw [H1.out]; rfl, fun j h1 h2 => by omega, rfl⟩
  case round =>
    obtain ⟨k, hk1, hk2, rfl, rfl, hcont, rfl⟩ := hrel
    have HCT := hid hcont
    have hbd := HB.out k hk1 (by omega)
    obtain ⟨r, hr⟩ : ∃ r, r = ac l 8 k := ⟨_, rfl⟩
    rw [← hr] at hbd ⊢
    have HR := hid hr
    clear hcont hr
    by_cases hlt2 : k < 4
    · have hcell := HC.out k (by omega)
      have hk3 : (k : Int) < 4 := by omega
      have hk4 : (k : Int) < (l.length : Int) := by omega
      have hzl := (l.getD k 0).toNat_lt
      have hr3 := hbd.2 hlt2
      obtain ⟨z, hz⟩ : ∃ z, z = (l.getD k 0).toNat := ⟨_, rfl⟩
      rw [← hz] at hcell hzl
      have HZ := hid hz
      have hmh := u8_hi ⟨z, hzl⟩
      have hml := u8_m6 ⟨z, hzl⟩
      simp only [] at hmh hml
      have hor : bits .or .i32 ((r : Int) * 64) ((z % 64 : Nat) : Int) = (r : Int) * 64 + ((z % 64 : Nat) : Int) := i32_or 6 _ _ (by omega) (by omega) (by omega) (by omega) (by omega) (by omega)
      have HI := hid hk2
      clear hz hk2 hbd
      by_cases hz2 : z / 64 = 2
      · have hq : ((z / 64 * 64 : Nat) : Int) = 128 := by omega
        rw [hq] at hmh
        have HQ := hid hz2
        clear hz2 hq
        go_wp2
        go_roundg (gk - 1)
        case measure => have := HI.out; omega
        case rel =>
          refine ⟨k + 1, by omega, by have := HI.out; omega, by go_num, ?_, fun j h1 h2 => ?_, rfl⟩
          · rw [ac_succ l 8 k hk1, ← HR.out, ← HZ.out]
            congr 1
          rcases Nat.lt_or_ge j k with h | h
          · exact HCT.out j h1 h
          obtain rfl : j = k := by omega
          rw [← HZ.out]; exact HQ.out
      have hq : (((z / 64 * 64 : Nat) : Int) != 128) = true := by simp; omega
      have HS := hid (stepV_bad (dec_broken HK.out hk1 hlt2 (by rw [← HZ.out]; exact hz2)))
      clear hz2
      go_wp2
      go_ret3
      exact ⟨by rw [HS.out]; rfl, rfl⟩
    obtain rfl : k = 4 := by omega
    have HD := hid (dec_whole HK.out hl HCT.out)
    rw [← HR.out] at HD
    clear hlt2 hk2
    have hr9 := hbd.1
    clear hbd
    by_cases hg : 65536 ≤ r ∧ r ≤ 1114111 ∧ ¬ (55296 ≤ r ∧ r < 57344)
    · have HS := hid (stepV_ok (HD.out.trans (if_pos hg)) (by omega))
      obtain ⟨g1, g2, g3⟩ := hg
      have i1 : ¬ (r : Int) < 65536 := by omega
      have i2 : ¬ (1114111 : Int) < r := by omega
      by_cases g4 : r < 55296
      · have i3 : ¬ (55296 : Int) ≤ r := by omega
        clear g1 g2 g3 g4
        go_wp2
        go_ret3
        exact ⟨by rw [HS.out]; rfl, rfl⟩
      have i3 : (55296 : Int) ≤ r := by omega
      have i4 : ¬ (r : Int) < 57344 := by omega
      clear g1 g2 g3 g4
      go_wp2
      go_ret3
      exact ⟨by rw [HS.out]; rfl, rfl⟩
    have HS := hid (stepV_bad (HD.out.trans (if_neg hg)))
    by_cases g1 : r < 65536
    · have i1 : (r : Int) < 65536 := by omega
      clear g1 hg
      go_wp2
      all_goals (go_ret3; exact ⟨by rw [HS.out]; rfl, rfl⟩)
    have i1 : ¬ (r : Int) < 65536 := by omega
    by_cases g2 : r ≤ 1114111
    · have i2 : ¬ (1114111 : Int) < r := by omega
      have i3 : (55296 : Int) ≤ r := by omega
      have i4 : (r : Int) < 57344 := by omega
      clear g1 hg g2
      go_wp2
      go_ret3
      exact ⟨by rw [HS.out]; rfl, rfl⟩
    have i2 : (1114111 : Int) < r := by omega
    clear g1 hg g2
    go_wp2
    all_goals (go_ret3; exact ⟨by rw [HS.out]; rfl, rfl⟩)
include hne hc hbig in
theorem step_any : Calls Tryd.prog 89 #[.slice (some ⟨b, off, none⟩) l.length cap] w fun e w' => e = .returned (stepV l) ∧ w' = w := by
  by_cases h1 : (l.getD 0 0).toNat < 128
  · exact step_ascii b off cap l w hne hbig hc h1
  by_cases h2 : (l.getD 0 0).toNat < 192
  · exact step_none b off cap l w hne hbig hc (by omega) (.inl h2)
  by_cases h3 : 248 ≤ (l.getD 0 0).toNat
  · exact step_none b off cap l w hne hbig hc (by omega) (.inr h3)
  by_cases h4 : (l.getD 0 0).toNat < 224
  · by_cases hl : l.length < 2
    · exact step_short b off cap l w hne hbig hc 2 32 128 (by unfold Cls; omega) hl
    exact step_2 b off cap l w hne hbig hc (by omega) h4 (by omega)
  by_cases h5 : (l.getD 0 0).toNat < 240
  · by_cases hl : l.length < 3
    · exact step_short b off cap l w hne hbig hc 3 16 2048 (by unfold Cls; omega) hl
    exact step_3 b off cap l w hne hbig hc (by omega) h5 (by omega)
  by_cases hl : l.length < 4
  · exact step_short b off cap l w hne hbig hc 4 8 65536 (by unfold Cls; omega) hl
  exact step_4 b off cap l w hne hbig hc (by omega) (by omega) (by omega)
end
end Go.Proofs.YtigjafbbnocihaaDoor
namespace Go.Proofs.YtigjafbbnocihaaDoor
open Go.Shelf
def u8ren : Ren := ⟨fun | 32 => 91 | 49 => 92 | n => n, fun | 25 => 108 | 30 => 22 | 33 => 119 | 66 => 121 | 68 => 123 | 69 => 124 | n => n, fun | 2 => 0 | 3 => 1 | n => n⟩
theorem u8lays : Lays7.n32 Tryd.prog u8ren := {
  mixed := by kernel_rfl
  f32 := by kernel_rfl
  f49 := by kernel_rfl
  t0 := by kernel_rfl
  a0 := fun _ => by kernel_rfl
  z0 := fun _ => by kernel_rfl
  v0 := fun _ => by kernel_rfl
  i0 := by kernel_rfl
  t3 := by kernel_rfl
  a3 := fun _ => by kernel_rfl
  z3 := fun _ => by kernel_rfl
  v3 := fun _ => by kernel_rfl
  i3 := by kernel_rfl
  t4 := by kernel_rfl
  a4 := fun _ => by kernel_rfl
  z4 := fun _ => by kernel_rfl
  v4 := fun _ => by kernel_rfl
  i4 := by kernel_rfl
  t5 := by kernel_rfl
  a5 := fun _ => by kernel_rfl
  z5 := fun _ => by kernel_rfl
  v5 := fun _ => by kernel_rfl
  i5 := by kernel_rfl
  t21 := by kernel_rfl
  a21 := fun _ => by kernel_rfl
  z21 := fun _ => by kernel_rfl
  v21 := fun _ => by kernel_rfl
  i21 := by kernel_rfl
  t25 := by kernel_rfl
  a25 := fun _ => by kernel_rfl
  z25 := fun _ => by kernel_rfl
  v25 := fun _ => by kernel_rfl
  i25 := by kernel_rfl
  t30 := by kernel_rfl
  a30 := fun _ => by kernel_rfl
  z30 := fun _ => by kernel_rfl
  v30 := fun _ => by kernel_rfl
  i30 := by kernel_rfl
  t33 := by kernel_rfl
  a33 := fun _ => by kernel_rfl
  z33 := fun _ => by kernel_rfl
  v33 := fun _ => by kernel_rfl
  i33 := by kernel_rfl
  t66 := by kernel_rfl
  a66 := fun _ => by kernel_rfl
  z66 := fun _ => by kernel_rfl
  t68 := by kernel_rfl
  a68 := fun _ => by kernel_rfl
  z68 := fun _ => by kernel_rfl
  v68 := fun _ => by kernel_rfl
  i68 := by kernel_rfl
  t69 := by kernel_rfl
  a69 := fun _ => by kernel_rfl
  z69 := fun _ => by kernel_rfl
  v69 := fun _ => by kernel_rfl
  i69 := by kernel_rfl
  g2 := by kernel_rfl
  g3 := by kernel_rfl
}
end Go.Proofs.YtigjafbbnocihaaDoor
namespace Go.Proofs.YtigjafbbnocihaaDoor
open Go.RowKit Go.Hub Go.Lib
def Tabs (w : World) : Prop := Lib.Utf8Tabs 0 1 w
theorem Tabs.size {w : World} (h : Tabs w) : 2 ≤ w.heap.size := by
  have : 1 < w.heap.size := World.block_lt_of_cell? w _ (h.2 0 (by omega)).1
  omega
theorem Tabs.below {w w' : World} {B : Nat} (h : Tabs w) (hb : Below B w w') (hB : 2 ≤ B) : Tabs w' :=
  ⟨fun c hc => (hb.cell (p := ⟨0, c, none⟩) (by show 0 < B; omega)).trans (h.1 c hc), fun i hi => ⟨(hb.cell (p := ⟨1, 2 * i, none⟩) (by show 1 < B; omega)).trans (h.2 i hi).1, (hb.cell (p := ⟨1, 2 * i + 1, none⟩) (by show 1 < B; omega)).trans (h.2 i hi).2⟩⟩
theorem Tabs.old {w w' : World} (h : Tabs w) (hb : Below w.heap.size w w') : Tabs w' := h.below hb h.size
theorem get_getD (l : List UInt8) (j : Nat) : (⟨l.toArray⟩ : ByteArray).get! j = l.getD j 0 := by
  rw [← getD_get!']
theorem dec_any (b off cap : Nat) (l : List UInt8) (w : World) (hne : 0 < l.length) (hT : Tabs w) (hc : ∀ j, j < l.length → w.cell? ⟨b, off + j, none⟩ = some (.int .u8 ((l.getD j 0).toNat : Int))) :
    Calls Tryd.prog 91 #[.slice (some ⟨b, off, none⟩) l.length cap] w fun e w' => e = .returned (.tuple #[.int .i32 (decodeL l).1, .int .i64 (decodeL l).2]) ∧ Below w.heap.size w w' := by
  have hs : (⟨l.toArray⟩ : ByteArray).size = l.length := by show l.toArray.size = l.length; simp
  have h := Any7.utf8_DecodeRune u8lays ⟨l.toArray⟩ b off cap w hT (fun j hj => by rw [hs] at hj; rw [get_getD]; exact hc j hj)
  have e : Lib.decodeGo (⟨l.toArray⟩ : ByteArray) = decodeL l := by
    unfold Lib.decodeGo
    rw [if_neg (by rw [hs]; omega)]
    rfl
  rw [hs, e] at h
  exact h
theorem Bs_cells {E : List TypeId} {B : Nat} {w : World} {A : Option Addr} {n : Nat} {l : List UInt8} (h : Bs E B w A n l) (hn : 0 < n) : ∃ b off, A = some ⟨b, off, none⟩ ∧ ∀ j, j < n → w.cell? ⟨b, off + j, none⟩ = some (.int .u8 ((l.getD j 0).toNat : Int)) := by
  obtain ⟨b, off, e, _, _, hc⟩ := h.2 hn
  exact ⟨b, off, e, fun j hj => hc j _ (getD_some (by rw [h.1]; exact hj))⟩
theorem drop_cells {b off : Nat} {w : World} {l : List UInt8} (hc : ∀ j, j < l.length → w.cell? ⟨b, off + j, none⟩ = some (.int .u8 ((l.getD j 0).toNat : Int))) (i : Nat) :
    ∀ j, j < (l.drop i).length → w.cell? ⟨b, off + i + j, none⟩ = some (.int .u8 (((l.drop i).getD j 0).toNat : Int)) := fun j hj => by
  rw [getD_dropU, Nat.add_assoc]
  exact hc _ (by rw [List.length_drop] at hj; omega)
theorem chkf_at (l : List UInt8) (f i : Nat) (hi : i < l.length) (hf : l.length - i ≤ f) :
    ∃ f', f = f' + 1 ∧ chkf f i (l.drop i) = if badL (l.drop i) || (decodeL (l.drop i)).1 == 0 then (i : Int) else chkf f' (i + (decodeL (l.drop i)).2) (l.drop (i + (decodeL (l.drop i)).2)) := by
  obtain ⟨f', rfl⟩ : ∃ f', f = f' + 1 := ⟨f - 1, by omega⟩
  refine ⟨f', rfl, ?_⟩
  have hne : l.drop i ≠ [] := by
    intro h
    have := congrArg List.length h
    simp at this
    omega
  simp only [chkf]
  rw [if_neg hne, List.drop_drop]
set_option maxRecDepth 100000 in
set_option maxHeartbeats 4000000 in
theorem chkR_any (E : List TypeId) (B : Nat) (A : Option Addr) (cap : Nat) (l : List UInt8) (w : World) (h : Bs E B w A l.length l) (hl : l.length ≤ cap) (hcap : cap ≤ maxLen) :
    Calls Tryd.prog 78 #[.slice A l.length cap] w fun e w' => e = .returned (.int .i64 (chk l)) ∧ w' = w := by
  unfold maxLen at hcap
  go_enter Tryd.func78, Tryd.ntmps78
  go_wp2
  go_loopg [3] l.length (fun g v wr => ∃ i f : Nat, i + g = l.length ∧ v = .int .i64 i ∧ l.length - i ≤ f ∧ chkf f i (l.drop i) = chk l ∧ w = wr)
  case atStart => exact ⟨0, l.length, by omega, rfl, by omega, by simp [chk], rfl⟩
  case round =>
    obtain ⟨i, f, hi, rfl, hf, hk, rfl⟩ := hrel
    have HK := hid hk
    clear hk
    by_cases hlt : i < l.length
    · obtain ⟨b, off, rfl, hcell⟩ := Bs_cells h (by omega)
      have HC := hid hcell
      obtain ⟨f', rfl, hstep⟩ := chkf_at l f i hlt hf
      have HS := hid hstep
      have HI := hid hi
      have HF := hid hf
      have hdl : (l.drop i).length = l.length - i := List.length_drop
      have hw := decodeL_width (l.drop i)
      have hle := decodeL_le (l.drop i) (by intro h; have := congrArg List.length h; simp at this; omega)
      have hi2 : (i : Int) < (l.length : Int) := by omega
      have hi3 : (i : Int) ≤ (cap : Int) := by omega
      have hstp := step_any b (off + i) (cap - i) (l.drop i) w (by omega) (by unfold maxLen; omega) (drop_cells hcell i)
      rw [hdl] at hstp hle
      clear hcell hstep hi hf hdl h
      have hci : ¬ cap = i := by omega
      go_wp2_with fail
      refine hstp.mono ?_
      rintro e w1 ⟨rfl, rfl⟩
      obtain ⟨r, hr⟩ : ∃ r, r = decodeL (l.drop i) := ⟨_, rfl⟩
      unfold stepV
      rw [← hr] at hw hle ⊢
      have HR := hid hr
      clear hr hstp hlt
      cases hb : badL (l.drop i)
      · by_cases hz : r.1 = 0
        · have hz1 : ((r.1 : Int) == 0) = true := by simp; omega
          have HE := hid (show chk l = (i : Int) by rw [← HK.out, HS.out, ← HR.out, hz]; simp)
          clear hz hb
          go_wp2
          go_ret
          exact ⟨by rw [HE.out]; rfl, rfl⟩
        have hz1 : ((r.1 : Int) == 0) = false := by simp; omega
        have HE := hid (show chkf f' (i + r.2) (l.drop (i + r.2)) = chk l by
          rw [← HK.out, HS.out, ← HR.out, hb]
          simp [hz])
        clear hz hb
        go_wp2
        go_roundg (gk - r.2)
        case measure => have := HI.out; omega
        case rel => exact ⟨i + r.2, f', by have := HI.out; omega, by go_num, by have := HF.out; omega, HE.out, rfl⟩
      have HE := hid (show chk l = (i : Int) by rw [← HK.out, HS.out, hb]; simp)
      clear hb
      go_wp2
      go_ret
      exact ⟨by rw [HE.out]; rfl, rfl⟩
    have hi2 : ¬ (i : Int) < (l.length : Int) := by omega
    have HE := hid (show chk l = -1 by
      rw [← HK.out, List.drop_eq_nil_of_le (by omega), chkf_nil])
    clear hf hlt hi
    go_wp2
    go_ret
    exact ⟨by rw [HE.out]; rfl, rfl⟩
theorem dec_zero (l : List UInt8) (hl : 0 < l.length) : (decodeL l).1 = 0 ↔ (l.getD 0 0).toNat = 0 := by
  rw [decodeL_N]
  rcases decodeN_shape l.length (l.getD 0 0).toNat (l.getD 1 0).toNat (l.getD 2 0).toNat (l.getD 3 0).toNat with ⟨c, e⟩ | ⟨c1, c2, c3, cv, e⟩ | ⟨c1, c2, c3, c4, cv, cs, e⟩ | ⟨c1, c2, c3, c4, c5, cv, cw, e⟩ | e
  · rw [e]
  · rw [e]; dsimp only; omega
  · rw [e]; dsimp only; omega
  · rw [e]; dsimp only; omega
  have hb := (l.getD 0 0).toNat_lt
  by_cases h : (l.getD 0 0).toNat < 128
  · unfold decodeN at e
    rw [if_pos h] at e
    have := congrArg Prod.fst e
    dsimp only at this
    omega
  rw [e]; dsimp only; omega
set_option maxRecDepth 100000 in
set_option maxHeartbeats 4000000 in
theorem chk_any (E : List TypeId) (B : Nat) (A : Option Addr) (cap : Nat) (l : List UInt8) (w : World) (hT : Tabs w) (h : Bs E B w A l.length l) (hl : l.length ≤ cap) (hcap : cap ≤ maxLen) :
    Calls Tryd.prog 87 #[.slice A l.length cap] w fun e w' => e = .returned (.int .i64 (chk l)) ∧ Below w.heap.size w w' := by
  unfold maxLen at hcap
  go_enter Tryd.func87, Tryd.ntmps87
  go_wp2
  go_loopg [3] l.length (fun g v wr => ∃ i f : Nat, i + g = l.length ∧ v = .int .i64 i ∧ l.length - i ≤ f ∧ chkf f i (l.drop i) = chk l ∧ Below w.heap.size w wr)
  case atStart => exact ⟨0, l.length, by omega, rfl, by omega, by simp [chk], Below.refl _ _⟩
  case round =>
    obtain ⟨i, f, hi, rfl, hf, hk, hB⟩ := hrel
    have HK := hid hk
    clear hk
    by_cases hlt : i < l.length
    · have hT2 := hT.old hB
      obtain ⟨b, off, rfl, hcell⟩ := Bs_cells (h.same (.of_below hB)) (by omega)
      have HB := hid hB
      have HC := hid hcell
      obtain ⟨f', rfl, hstep⟩ := chkf_at l f i hlt hf
      have HS := hid hstep
      have HI := hid hi
      have HF := hid hf
      have hdl : (l.drop i).length = l.length - i := List.length_drop
      have hw := decodeL_width (l.drop i)
      have hne : l.drop i ≠ [] := by intro h; have := congrArg List.length h; simp at this; omega
      have hle := decodeL_le (l.drop i) hne
      have hi2 : (i : Int) < (l.length : Int) := by omega
      have hi3 : (i : Int) ≤ (cap : Int) := by omega
      have hstp := dec_any b (off + i) (cap - i) (l.drop i) wr (by omega) hT2 (drop_cells hcell i)
      rw [hdl] at hstp hle
      have hzz := dec_zero (l.drop i) (by omega)
      rw [getD_dropU, Nat.add_zero] at hzz
      have hci : ¬ cap = i := by omega
      have hcl := hcell i hlt
      have HH := hid h
      clear hcell hstep hi hf hdl h hT2 hB hne
      go_wp2_with fail
      refine hstp.mono ?_
      rintro e w1 ⟨rfl, hb1⟩
      have hcl := (hb1.cell (p := ⟨b, off + i, none⟩) (World.block_lt_of_cell? _ _ hcl)).trans hcl
      have HB := hid (HB.out.trans (hb1.mono HB.out.size))
      obtain ⟨z, hz⟩ : ∃ z, z = (l.getD i 0).toNat := ⟨_, rfl⟩
      obtain ⟨r, hr⟩ : ∃ r, r = decodeL (l.drop i) := ⟨_, rfl⟩
      rw [← hr] at hw hle hzz ⊢
      rw [← hz] at hcl hzz
      have HR := hid hr
      clear hr hstp hlt hz hb1
      by_cases h1 : r.1 = 0
      · have hz1 : ((z : Int) == 0) = true := by simp; omega
        have HE := hid (show chk l = (i : Int) by rw [← HK.out, HS.out, ← HR.out, h1]; simp)
        clear h1 hzz
        go_wp2
        go_ret
        exact ⟨by rw [HE.out]; rfl, HB.out⟩
      have hz1 : ((z : Int) == 0) = false := by simp; omega
      by_cases h2 : r.1 = 65533
      · have hz2 : ((r.1 : Int) == 65533) = true := by simp; omega
        by_cases h3 : r.2 = 1
        · have hz3 : (r.2 : Int) < 2 := by omega
          have HE := hid (show chk l = (i : Int) by rw [← HK.out, HS.out]; unfold badL; rw [← HR.out, h2, h3]; simp)
          clear h1 hzz h2 h3
          go_wp2
          go_ret
          exact ⟨by rw [HE.out]; rfl, HB.out⟩
        have hz3 : ¬ (r.2 : Int) < 2 := by omega
        have HE := hid (show chkf f' (i + r.2) (l.drop (i + r.2)) = chk l by
          rw [← HK.out, HS.out]; unfold badL; rw [← HR.out]
          simp [h1, h3])
        clear h1 hzz h2 h3
        go_wp2
        go_roundg (gk - r.2)
        case measure => have := HI.out; omega
        case rel => exact ⟨i + r.2, f', by have := HI.out; omega, by go_num, by have := HF.out; omega, HE.out, HB.out⟩
      have hz2 : ((r.1 : Int) == 65533) = false := by simp; omega
      have HE := hid (show chkf f' (i + r.2) (l.drop (i + r.2)) = chk l by
        rw [← HK.out, HS.out]; unfold badL; rw [← HR.out]
        simp [h1, h2])
      clear h1 hzz h2
      go_wp2
      go_roundg (gk - r.2)
      case measure => have := HI.out; omega
      case rel => exact ⟨i + r.2, f', by have := HI.out; omega, by go_num, by have := HF.out; omega, HE.out, HB.out⟩
    have hi2 : ¬ (i : Int) < (l.length : Int) := by omega
    have HE := hid (show chk l = -1 by
      rw [← HK.out, List.drop_eq_nil_of_le (by omega), chkf_nil])
    clear hf hlt hi
    go_wp2
    go_ret
    exact ⟨by rw [HE.out]; rfl, hB⟩
end Go.Proofs.YtigjafbbnocihaaDoor
namespace Go.Hub
open Go.RowKit Go.Lib
theorem bs_conv (E : List TypeId) (B : Nat) (w : World) (s : ByteArray) (e : TypeId) (he : e ∈ E) (cap : Nat) (fr : Nat × Nat) :
    Bs E B (w.drew.alloc (.cells (bytesRow s cap) e fr)) (some ⟨w.heap.size, 0, none⟩) s.data.toList.length s.data.toList := by
  refine ⟨rfl, fun _ => ⟨w.heap.size, 0, rfl, by simp, .inr ⟨_, e, fr, heap_alloc_new w.drew _, he⟩, fun j x hx => ?_⟩⟩
  rw [Nat.zero_add]
  have hj : j < s.data.size := by
    have := (List.getElem?_eq_some_iff.1 hx).1
    simpa using this
  refine (World.cell?_alloc_mark w.drew _ _ _ _).trans ?_
  rw [bytesRow_at s cap j hj]
  have : x = s.data[j] := by
    have := (List.getElem?_eq_some_iff.1 hx).2
    simp at this
    exact this.symm
  rw [this]
  rfl
end Go.Hub
