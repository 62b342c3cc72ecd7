/- Merged by program (shrink.py): contracts and plain laws that the claim's statement uses, part 1. -/
import Derived.ArgAppend
import Derived.BigQuiet
import Derived.Deep.AppendLies
import Derived.Deep.Draws
import Derived.Deep.Fields
import Derived.Deep.LoopGhost
import Derived.Deep.MidRow
import Derived.Deep.QuietTactic
import Derived.Deep.RegionHeld
import Derived.Deep.RegionHeld3
import Derived.Deep.RegionLaw
import Derived.Deep.Slices
import Derived.Deep.Upon
import Derived.DeepKeys4
import Derived.Great.BuildSlice
import Derived.IntWalk
import Derived.Laws.BytesArg
import Derived.Laws.Cover4
import Derived.Laws.IdiomCopy
import Derived.Laws.IdiomStrings
import Derived.Laws.ResultCell
import Derived.Lib.AppendStr
import Derived.Lib.AppendZerosOnto
import Derived.Lib.MapLaws
import Derived.Lib.OthersKept
import Derived.Lib.Overlaps
import Derived.Maps.AppendAt
import Derived.Maps.Keyed
import Derived.Maps.OwnSet
import Derived.Maps.Range
import Derived.OpenShut
import Derived.OwnWalk
import Derived.ProofKit
import Derived.SizedLaws
import Derived.StillTailTactics
import Derived.Test.YtkdeedhjkjffpaaProg
import Derived.Test.YtkdeedhjkjffpaaRows
import Derived.WalkKit
import Derived.WalkLawsBesides
import Derived.WalkSpells
import Derived.WideKeyEntry
set_option linter.all false

namespace Go.Vl
end Go.Vl
namespace Go.Hub
open Go.RowKit Go.Maps Go.ChangeMaps Go.MapKept
theorem hid {p : Prop} (h : p) : Hid p := h
structure Kept (L : List Nat) (w w' : World) : Prop where
  os : w'.os = w.os
  tape : w'.tape = w.tape
  output : w'.output = w.output
  size : w.heap.size ≤ w'.heap.size
  block : ∀ k, k < w.heap.size → k ∉ L → w'.heap[k]? = w.heap[k]?
section
variable {L L' : List Nat} {w w' w'' : World}
theorem Kept.refl (L : List Nat) (w : World) : Kept L w w := ⟨rfl, rfl, rfl, Nat.le_refl _, fun _ _ _ => rfl⟩
theorem Kept.trans (h : Kept L w w') (k : Kept L' w' w'') (hs : ∀ x ∈ L', x < w.heap.size → x ∈ L) : Kept L w w'' :=
  ⟨k.os.trans h.os, k.tape.trans h.tape, k.output.trans h.output, Nat.le_trans h.size k.size,
   fun i hi hn => (k.block i (Nat.lt_of_lt_of_le hi h.size) (fun hx => hn (hs i hx hi))).trans (h.block i hi hn)⟩
theorem Kept.mono (h : Kept L w w') (hs : ∀ x ∈ L, x < w.heap.size → x ∈ L') : Kept L' w w' :=
  ⟨h.os, h.tape, h.output, h.size, fun i hi hn => h.block i hi (fun hx => hn (hs i hx hi))⟩
theorem Kept.drewN (h : Kept L w w') (n : Nat) : Kept L w (w'.drewN n) := ⟨h.os, h.tape, h.output, h.size, h.block⟩
theorem Kept.of_drew (h : Kept L w.drew w') : Kept L w w' := ⟨h.os, h.tape, h.output, h.size, h.block⟩
theorem Kept.alloc (h : Kept L w w') (o : Obj) : Kept L w (w'.alloc o) :=
  h.trans (L' := []) ⟨rfl, rfl, rfl, by simp, fun k hk _ => Below.heap_alloc _ _ _ hk⟩ (by simp)
theorem Kept.setCell (h : Kept L w w') {p : Addr} (hp : p.block < w.heap.size → p.block ∈ L) (u : Value) : Kept L w (w'.setCell p u) :=
  h.trans (L' := [p.block]) ⟨rfl, rfl, rfl, by simp [World.setCell], fun k _ hn => Below.heap_setCell _ _ _ _ (by simpa using hn)⟩ (by simpa using hp)
theorem Kept.below (h : Kept L w w') {B : Nat} (hB : ∀ x ∈ L, B ≤ x) (hs : B ≤ w.heap.size) : Below B w w' :=
  ⟨h.os, h.tape, h.output, h.size, fun k hk => h.block k (by omega) (fun hx => by have := hB k hx; omega)⟩
theorem Kept.cell (h : Kept L w w') {p : Addr} (hp : p.block < w.heap.size) (hn : p.block ∉ L) : w'.cell? p = w.cell? p := World.cell?_of_block (w := w) (h.block p.block hp hn)
end
def Blk (w : World) (g : Nat) (t : TypeId) (cs : Array Value) : Prop := w.heap[g]? = some (.cells cs t (0, 0))
section
variable {w w' : World} {g : Nat} {t : TypeId} {cs : Array Value}
theorem Blk.lt (h : Blk w g t cs) : g < w.heap.size := by
  rcases Nat.lt_or_ge g w.heap.size with hlt | hge
  · exact hlt
  · unfold Blk at h; rw [Array.getElem?_eq_none hge] at h; cases h
theorem Blk.cell (h : Blk w g t cs) (i : Nat) : w.cell? ⟨g, i, none⟩ = cs[i]? := cell_of_row w g i cs t (0, 0) h
theorem Blk.cell_ (h : Blk w g t cs) {i : Nat} {v : Value} (hv : cs[i]? = some v) : w.cell? ⟨g, i, none⟩ = some v := (h.cell i).trans hv
theorem Blk.frozen (h : Blk w g t cs) (i : Nat) : w.frozen? ⟨g, i, none⟩ = false := by
  unfold Blk at h
  simp [World.frozen?, h]
theorem Blk.new (w : World) (t : TypeId) (cs : Array Value) : Blk (w.alloc (.cells cs t)) w.heap.size t cs := heap_alloc_new w _
theorem Blk.set_ (h : Blk w g t cs) (i : Nat) (u : Value) : Blk (w.setCell ⟨g, i, none⟩ u) g t (cs.setIfInBounds i u) := by
  unfold Blk at h ⊢
  simp [World.setCell, Array.getElem?_modify, h]
theorem Blk.kept {L : List Nat} (h : Blk w g t cs) (hk : Kept L w w') (hg : g ∉ L) : Blk w' g t cs := (hk.block g h.lt hg).trans h
end
section
variable {P : Program} {k e t : TypeId} {w w' : World} {m : Nat} {S : List Int}
theorem ownsMap_exact {H : Type} {R : Value → Option (DataW H × List MemPlace)} {b n n' : Nat} {D : DataW H} (h : w.ownsMap P k R b n D) (hn : Maps.size D ≤ n') : w.ownsMap P k R b n' D := by
  obtain ⟨es, clock, hb, F, hs, rfl⟩ := h
  refine ⟨es, clock, hb, F, ?_, rfl⟩
  simpa [Maps.size, length_sorted] using hn
theorem turned_kept {b : Nat} (h : w.mapTurned w' b) : Kept [b] w w' := by
  obtain ⟨es, clock, es', clock', hb, rfl⟩ := h
  exact ⟨rfl, rfl, rfl, by simp [setBlock], fun i _ hi => heap_setBlock_other hb _ (by simpa using hi)⟩
end
theorem add_none (b off i : Nat) : (Addr.mk b off none).add i = ⟨b, off + i, none⟩ := by
  unfold Addr.add
  split
  · rename_i h; simp_all
  · rfl
theorem bd_u8 {n : Int} (h : (Lit.int .u8 n).wf = true) : 0 ≤ n ∧ n ≤ 255 := by simpa [Lit.wf, IntKind.min, IntKind.max, IntKind.signed, IntKind.bits] using h
end Go.Hub
namespace Go.Hub
open Go.RowKit
def Rds (w : World) (B size : Nat) (A : Option Addr) (n : Nat) (xs : List Value) : Prop :=
  xs.length = n * size ∧ (0 < n → ∃ b off, A = some ⟨b, off, none⟩ ∧ b < B ∧ ∀ j u, xs[j]? = some u → w.cell? ⟨b, off + j, none⟩ = some u)
section
variable {w w' : World} {B B' size n : Nat} {A : Option Addr} {xs : List Value}
theorem Rds.nil (w : World) (B size : Nat) (A : Option Addr) : Rds w B size A 0 [] := ⟨by simp, fun h => absurd h (by omega)⟩
theorem Rds.cut (h : Rds w B size A n xs) {k cap : Nat} (hk : k ≤ n) (hc : n ≤ cap) :
    Rds w B size (if cap = k then A else A.map (·.add (k * size))) (n - k) (xs.drop (k * size)) := by
  refine ⟨by rw [List.length_drop, h.1, Nat.sub_mul], fun hn => ?_⟩
  obtain ⟨b, off, rfl, hb, hcell⟩ := h.2 (by omega)
  rw [if_neg (by omega)]
  refine ⟨b, off + k * size, by simp [add_none], hb, fun j u hu => ?_⟩
  rw [Nat.add_assoc]
  exact hcell _ u (by rw [← hu, List.getElem?_drop])
theorem Rds.drew (h : Rds w B size A n xs) : Rds w.drew B size A n xs := h
theorem grown_kept {row : Option Nat} (h : w.grownBy w' row) : Kept row.toList w w' :=
  ⟨h.os, h.tape, h.output, h.size, fun k hk hn => h.block k hk (fun e => hn (by rw [← e]; simp))⟩
end
section
variable {P : Program} (w : World)
theorem run_append_none (base : Nat) (t ty e : TypeId) (i : TypeInfo) (size : Nat) (ht : P.underlying t = some (.slice e)) (hi : P.info? e = some i)
    (v : Value) (n : Nat) (xs : List Value) (hown : w.ownsRow base e size v n xs) (c : Nat) : (Builtin.append_ #[t, t] ty #[v, .slice none 0 c]).run P w = .ok v w := by
  rcases hown.2 with ⟨rfl, rfl⟩ | ⟨g, cap, cur, rfl, _, _, hnc, _⟩
  · simp [Builtin.append_, run_underlying ht, sizeOf, typeInfo, hi, Builtin.lenOf, Builtin.firstCells]
  · simp [Builtin.append_, run_underlying ht, sizeOf, typeInfo, hi, Builtin.lenOf, Builtin.firstCells, hnc, storeCells]
theorem run_append_rds (base : Nat) (t ty e : TypeId) (i : TypeInfo) (z : Value) (size bytes : Nat) (ht : P.underlying t = some (.slice e)) (hi : P.info? e = some i) (hz : i.zero = some z)
    (hsize : i.size = size) (hby : i.bytes = bytes) (hzs : z.cells.size = size) (hsz : 0 < size)
    (v : Value) (n : Nat) (xs : List Value) (hown : w.ownsRow base e size v n xs)
    (B : Nat) (A : Option Addr) (m c : Nat) (news : List Value) (hr : Rds w B size A m news) (hA : m = 0 → A = none ∨ ∃ a, A = some a) (h1 : ∀ u ∈ news, u.oneCell' = true)
    (h63 : n + m ≤ maxLen) (hbytes : (n + m) * bytes ≤ 140737488355328) (hbase : base ≤ w.heap.size) :
    ∃ v' w', (Builtin.append_ #[t, t] ty #[v, .slice A m c]).run P w = .ok v' w' ∧ w'.ownsRow base e size v' (n + m) (xs ++ news) ∧ w.grownBy w' v.ownBlock ∧
      (v'.ownBlock = v.ownBlock ∨ v'.ownBlock = some w.heap.size) := by
  rcases A with _ | ad
  · have hm : m = 0 := by
      rcases Nat.eq_zero_or_pos m with h0 | h0
      · exact h0
      · obtain ⟨b, off, h, _⟩ := hr.2 h0
        cases h
    subst hm
    have hn : news = [] := List.eq_nil_of_length_eq_zero (by simpa using hr.1)
    subst hn
    exact ⟨v, w, run_append_none w base t ty e i size ht hi v n xs hown c, by simpa using hown, World.grownBy.refl w _, .inl rfl⟩
  · have hcells : ∀ j u, news[j]? = some u → w.cell? (ad.add j) = some u := by
      intro j u hu
      rcases Nat.eq_zero_or_pos m with h0 | h0
      · subst h0
        have hn : news = [] := List.eq_nil_of_length_eq_zero (by simpa using hr.1)
        subst hn
        simp at hu
      · obtain ⟨b, off, h, _, hc⟩ := hr.2 h0
        injection h with h
        subst h
        rw [add_none]
        exact hc j u hu
    obtain ⟨v', w', hrun, h2, h3, _, h5⟩ := run_append_own_at (P := P) w base t ty e i z size bytes ht hi hz hsize hby hzs hsz v n xs hown ad m c news hr.1 hcells h1 h63 hbytes hbase
    exact ⟨v', w', hrun, h2, h3, h5⟩
end
end Go.Hub
namespace Go.Hub
open Go.RowKit
theorem setCells_block (g : Nat) : ∀ (vs : List Value) (o : Nat) (w : World) (cur : Array Value) (e : TypeId) (f : Nat × Nat), w.heap[g]? = some (.cells cur e f) →
    ∃ cur' : Array Value, (w.setCells g o vs).heap[g]? = some (.cells cur' e f) ∧ cur'.size = cur.size ∧ (∀ j, j < o → cur'[j]? = cur[j]?) ∧ (∀ j u, vs[j]? = some u → o + j < cur.size → cur'[o + j]? = some u)
  | [], o, w, cur, e, f, h => ⟨cur, h, rfl, fun _ _ => rfl, fun j u hu => by simp at hu⟩
  | v :: r, o, w, cur, e, f, h => by
    have h1 : (w.setCell ⟨g, o, none⟩ v).heap[g]? = some (.cells (cur.setIfInBounds o v) e f) := by
      simp [World.setCell, Array.getElem?_modify, h]
    obtain ⟨cur', a1, a2, a3, a4⟩ := setCells_block g r (o + 1) (w.setCell ⟨g, o, none⟩ v) _ e f h1
    refine ⟨cur', a1, by rw [a2]; simp, fun j hj => ?_, fun j u hu hlt => ?_⟩
    · rw [a3 j (by omega), Array.getElem?_setIfInBounds]
      rw [if_neg (by omega)]
    · match j, hu with
      | 0, hu =>
        simp at hu
        subst hu
        rw [Nat.add_zero] at hlt ⊢
        rw [a3 o (by omega), Array.getElem?_setIfInBounds, if_pos rfl, if_pos hlt]
      | j + 1, hu =>
        have := a4 j u (by simpa using hu) (by simp; omega)
        rw [show o + (j + 1) = o + 1 + j from by omega]
        exact this
theorem setCells_other (g : Nat) : ∀ (vs : List Value) (o : Nat) (w : World) (k : Nat), k ≠ g → (w.setCells g o vs).heap[k]? = w.heap[k]?
  | [], _, _, _, _ => rfl
  | v :: r, o, w, k, h => (setCells_other g r (o + 1) (w.setCell ⟨g, o, none⟩ v) k h).trans (Below.heap_setCell _ _ _ _ h)
theorem setCells_facts (g : Nat) : ∀ (vs : List Value) (o : Nat) (w : World), (w.setCells g o vs).os = w.os ∧ (w.setCells g o vs).tape = w.tape ∧ (w.setCells g o vs).output = w.output ∧ (w.setCells g o vs).heap.size = w.heap.size
  | [], _, _ => ⟨rfl, rfl, rfl, rfl⟩
  | v :: r, o, w => by
    obtain ⟨a, b, c, d⟩ := setCells_facts g r (o + 1) (w.setCell ⟨g, o, none⟩ v)
    exact ⟨a, b, c, by rw [World.setCells, d]; simp [World.setCell]⟩
def Own (w : World) (e : TypeId) (size : Nat) (v : Value) (n : Nat) (xs : List Value) : Prop :=
  xs.length = n * size ∧ ((v = .slice none 0 0 ∧ n = 0) ∨
    ∃ g off cap cur, v = .slice (some ⟨g, off, none⟩) n cap ∧ w.heap[g]? = some (.cells cur e (0, 0)) ∧ n ≤ cap ∧ cap ≤ maxLen ∧ off + cap * size ≤ cur.size ∧ ∀ j u, xs[j]? = some u → cur[off + j]? = some u)
section
variable {w w' : World} {e : TypeId} {size : Nat} {v : Value} {n : Nat} {xs : List Value}
theorem Own.nil (w : World) (e : TypeId) (size : Nat) : Own w e size (.slice none 0 0) 0 [] := ⟨by simp, .inl ⟨rfl, rfl⟩⟩
theorem Own.of_row {base : Nat} (h : w.ownsRow base e size v n xs) : Own w e size v n xs := by
  refine ⟨h.1, ?_⟩
  rcases h.2 with hn | ⟨g, cap, cur, hv, _, hg, hnc, hcm, hcs, ht⟩
  · exact .inl hn
  · refine .inr ⟨g, 0, cap, cur, hv, hg, hnc, hcm, by omega, fun j u hu => ?_⟩
    rw [← ht] at hu
    rw [Nat.zero_add]
    have hj : j < n * size := by
      rcases Nat.lt_or_ge j (n * size) with hj | hj
      · exact hj
      · rw [List.getElem?_take, if_neg (by omega)] at hu; cases hu
    rw [List.getElem?_take, if_pos hj] at hu
    simpa using hu
theorem Own.form (h : Own w e size v n xs) : ∃ A c, v = .slice A n c ∧ n ≤ c ∧ c ≤ maxLen := by
  rcases h.2 with ⟨rfl, rfl⟩ | ⟨g, off, cap, cur, rfl, _, hn, hc, _⟩
  · exact ⟨none, 0, rfl, Nat.le_refl _, by simp [maxLen]⟩
  · exact ⟨_, _, rfl, hn, hc⟩
theorem Own.blk (h : Own w e size v n xs) : ∀ k, v.ownBlock = some k → k < w.heap.size ∧ ∃ cs, w.heap[k]? = some (.cells cs e (0, 0)) := by
  intro k hk
  rcases h.2 with ⟨rfl, rfl⟩ | ⟨g, off, cap, cur, rfl, hg, _⟩
  · simp [Value.ownBlock] at hk
  · simp [Value.ownBlock] at hk
    subst hk
    exact ⟨(Array.getElem?_eq_some_iff.1 hg).1, cur, hg⟩
theorem Own.of_eq (h : Own w e size v n xs) (hb : ∀ k, v.ownBlock = some k → w'.heap[k]? = w.heap[k]?) : Own w' e size v n xs := by
  refine ⟨h.1, ?_⟩
  rcases h.2 with hn | ⟨g, off, cap, cur, rfl, hg, r⟩
  · exact .inl hn
  · exact .inr ⟨g, off, cap, cur, rfl, (hb g rfl).trans hg, r⟩
theorem Own.kept {L : List Nat} (h : Own w e size v n xs) (hk : Kept L w w') (hn : ∀ k, v.ownBlock = some k → k ∉ L) : Own w' e size v n xs :=
  h.of_eq fun k hb => hk.block k (h.blk k hb).1 (hn k hb)
theorem Own.drew (h : Own w e size v n xs) : Own w.drew e size v n xs := h
theorem Own.rds {A : Option Addr} {c : Nat} (h : Own w e size (.slice A n c) n xs) : Rds w w.heap.size size A n xs := by
  refine ⟨h.1, fun hn => ?_⟩
  rcases h.2 with ⟨_, h0⟩ | ⟨g, off, cap, cur, hv, hg, _, _, _, hc⟩
  · omega
  · injection hv with hA
    refine ⟨g, off, hA, (Array.getElem?_eq_some_iff.1 hg).1, fun j u hu => ?_⟩
    rw [cell_of_row w g (off + j) cur e (0, 0) hg]
    exact hc j u hu
theorem Own.cut {A : Option Addr} {c : Nat} (h : Own w e size (.slice A n c) n xs) {k : Nat} (hk : k ≤ n) :
    Own w e size (.slice (if c = k then A else A.map (·.add (k * size))) (n - k) (c - k)) (n - k) (xs.drop (k * size)) := by
  refine ⟨by rw [List.length_drop, h.1, Nat.sub_mul], ?_⟩
  rcases h.2 with ⟨hv, h0⟩ | ⟨g, off, cap, cur, hv, hg, hnc, hcm, hcs, hc⟩
  · injection hv with h1 h2 h3
    subst h1 h2 h3
    exact .inl ⟨by simp, by omega⟩
  · injection hv with h1 h2 h3
    subst h1 h3
    by_cases hck : c = k
    · rw [if_pos hck]
      refine .inr ⟨g, off, c - k, cur, rfl, hg, by omega, by omega, ?_, fun j u hu => ?_⟩
      · rw [Nat.sub_mul]; omega
      · have : xs.drop (k * size) = [] := by
          apply List.drop_eq_nil_of_le
          rw [h.1]
          exact Nat.mul_le_mul_right _ (by omega)
        rw [this] at hu
        simp at hu
    · rw [if_neg hck]
      refine .inr ⟨g, off + k * size, c - k, cur, by simp [add_none], hg, by omega, by omega, ?_, fun j u hu => ?_⟩
      · rw [Nat.sub_mul]
        have : k * size ≤ c * size := Nat.mul_le_mul_right _ (by omega)
        omega
      · rw [Nat.add_assoc]
        exact hc _ u (by rw [← hu, List.getElem?_drop])
theorem Own.head {A : Option Addr} {c : Nat} (h : Own w e size (.slice A n c) n xs) {k : Nat} (hk : k ≤ n) : Own w e size (.slice A k c) k (xs.take (k * size)) := by
  have hkn : k * size ≤ n * size := Nat.mul_le_mul_right _ hk
  refine ⟨by rw [List.length_take, h.1, Nat.min_eq_left hkn], ?_⟩
  rcases h.2 with ⟨hv, h0⟩ | ⟨g, off, cap, cur, hv, hg, hnc, hcm, hcs, hc⟩
  · injection hv with h1 h2 h3
    subst h1 h3
    obtain rfl : k = 0 := by omega
    exact .inl ⟨rfl, rfl⟩
  · injection hv with h1 h2 h3
    subst h1 h3
    refine .inr ⟨g, off, c, cur, rfl, hg, by omega, hcm, hcs, fun j u hu => hc j u ?_⟩
    by_cases hj : j < k * size
    · rwa [List.getElem?_take, if_pos hj] at hu
    · rw [List.getElem?_take, if_neg hj] at hu; cases hu
end
section
variable {P : Program} (w : World)
theorem append_own (t ty e : TypeId) (i : TypeInfo) (z : Value) (size bytes : Nat) (ht : P.underlying t = some (.slice e)) (hi : P.info? e = some i) (hz : i.zero = some z)
    (hsize : i.size = size) (hby : i.bytes = bytes) (hzs : z.cells.size = size) (hsz : 0 < size)
    (v : Value) (n : Nat) (xs : List Value) (hown : Own w e size v n xs)
    (B : Nat) (A : Option Addr) (m c : Nat) (news : List Value) (hr : Rds w B size A m news) (h1 : ∀ u ∈ news, u.oneCell' = true)
    (h63 : n + m ≤ maxLen) (hbytes : (n + m) * bytes ≤ 140737488355328) :
    ∃ v' w', (Builtin.append_ #[t, t] ty #[v, .slice A m c]).run P w = .ok v' w' ∧ Own w' e size v' (n + m) (xs ++ news) ∧ Kept v.ownBlock.toList w w' ∧
      (∀ k, v'.ownBlock = some k → v.ownBlock = some k ∨ w.heap.size ≤ k) := by
  rcases hown.2 with ⟨rfl, rfl⟩ | ⟨g, off, cap, cur, rfl, hg, hnc, hcm, hcs, hc⟩
  · have hx : xs = [] := List.eq_nil_of_length_eq_zero (by simpa using hown.1)
    subst hx
    obtain ⟨v', w', hrun, ho, hgr, hat⟩ := run_append_rds (P := P) w w.heap.size t ty e i z size bytes ht hi hz hsize hby hzs hsz (.slice none 0 0) 0 [] (World.ownsRow_nil _ _ _ _) B A m c news hr (fun _ => by cases A <;> simp) h1 h63 hbytes (Nat.le_refl _)
    exact ⟨v', w', hrun, Own.of_row ho, grown_kept hgr, fun k hk => .inr (ho.lt k hk).1⟩
  · rcases A with _ | ad
    · have hm : m = 0 := by
        rcases Nat.eq_zero_or_pos m with h0 | h0
        · exact h0
        · obtain ⟨b, off, h, _⟩ := hr.2 h0
          cases h
      subst hm
      have hn : news = [] := List.eq_nil_of_length_eq_zero (by simpa using hr.1)
      subst hn
      refine ⟨_, w, ?_, by simpa using hown, Kept.refl _ _, fun k hk => .inl hk⟩
      simp [Builtin.append_, run_underlying ht, sizeOf, typeInfo, hi, Builtin.lenOf, Builtin.firstCells, hnc, storeCells]
    · have hnews : ∀ j u, news[j]? = some u → w.cell? (ad.add j) = some u := by
        intro j u hu
        rcases Nat.eq_zero_or_pos m with h0 | h0
        · subst h0
          have hn : news = [] := List.eq_nil_of_length_eq_zero (by simpa using hr.1)
          subst hn
          simp at hu
        · obtain ⟨b, off, h, _, hcc⟩ := hr.2 h0
          injection h with h
          subst h
          rw [add_none]
          exact hcc j u hu
      have hlen : news.length = m * size := hr.1
      by_cases hroom : n + m ≤ cap
      · have hmul : n * size + m * size ≤ cap * size := by rw [← Nat.add_mul]; exact Nat.mul_le_mul_right _ hroom
        subst hsize
        have hcell : ∀ j, j < news.length → w.cell? ⟨g, off + n * i.size + j, none⟩ = cur[off + n * i.size + j]? := fun j hj => cell_of_row w g _ cur e (0, 0) hg
        have hrun := run_append_room_cells (P := P) w t ty e i ht hi g off n cap ad m c news hlen hnews h1 hroom
          (fun j hj => by rw [hcell j hj, Array.getElem?_eq_getElem (by omega)]; rfl) (fun j hj => by simp [World.frozen?, hg])
        obtain ⟨cur', a1, a2, a3, a4⟩ := setCells_block g news (off + n * i.size) w cur e (0, 0) hg
        obtain ⟨b1, b2, b3, b4⟩ := setCells_facts g news (off + n * i.size) w
        refine ⟨_, _, hrun, ⟨by rw [List.length_append, hown.1, hlen, Nat.add_mul], .inr ⟨g, off, cap, cur', rfl, a1, hroom, hcm, by omega, fun j u hu => ?_⟩⟩,
          ⟨b1, b2, b3, by omega, fun k hk hn => setCells_other g _ _ w k (by simpa [Value.ownBlock] using hn)⟩, fun k hk => .inl hk⟩
        rcases Nat.lt_or_ge j xs.length with hj | hj
        · rw [List.getElem?_append_left hj] at hu
          rw [a3 _ (by have := hown.1; omega)]
          exact hc j u hu
        · rw [List.getElem?_append_right hj] at hu
          have hj2 : j - xs.length < news.length := by
            rcases Nat.lt_or_ge (j - xs.length) news.length with h | h
            · exact h
            · rw [List.getElem?_eq_none h] at hu; cases hu
          have := a4 (j - xs.length) u hu (by have := hown.1; omega)
          rw [show off + n * i.size + (j - xs.length) = off + j from by have := hown.1; omega] at this
          exact this
      · have holds : ∀ j u, xs[j]? = some u → w.cell? ((⟨g, off, none⟩ : Addr).add j) = some u := fun j u hu => by
          rw [add_none, cell_of_row w g (off + j) cur e (0, 0) hg]
          exact hc j u hu
        obtain ⟨v', w', hrun, ho, hgr⟩ := run_append_arg_grows (P := P) w t ty e i z size bytes ht hi hz hsize hby hzs hsz ⟨g, off, none⟩ n cap xs hown.1 holds ad m c news hlen hnews (by omega) h63 hbytes
        exact ⟨v', w', hrun, Own.of_row ho, (grown_kept hgr).mono (by simp), fun k hk => .inr (ho.lt k hk).1⟩
end
def Typ (w : World) (k : Nat) (E : List TypeId) : Prop := ∃ cs e f, w.heap[k]? = some (.cells cs e f) ∧ e ∈ E
structure Same (E : List TypeId) (B : Nat) (w w' : World) : Prop where
  os : w'.os = w.os
  tape : w'.tape = w.tape
  output : w'.output = w.output
  size : w.heap.size ≤ w'.heap.size
  block : ∀ k, k < w.heap.size → (k < B ∨ Typ w k E) → w'.heap[k]? = w.heap[k]?
section
variable {E : List TypeId} {B : Nat} {w w' w'' : World}
theorem Typ.of_eq {k : Nat} (h : Typ w k E) (hk : w'.heap[k]? = w.heap[k]?) : Typ w' k E := by obtain ⟨cs, e, f, h, he⟩ := h; exact ⟨cs, e, f, hk.trans h, he⟩
theorem Same.of_kept {L : List Nat} (h : Kept L w w') (hL : ∀ x ∈ L, x < w.heap.size → B ≤ x ∧ ¬ Typ w x E) : Same E B w w' :=
  ⟨h.os, h.tape, h.output, h.size, fun k hk hc => h.block k hk fun hx => by
    have := hL k hx hk
    rcases hc with hc | hc
    · omega
    · exact this.2 hc⟩
theorem not_typ_of {k : Nat} {cs : Array Value} {e : TypeId} {f : Nat × Nat} (h : w.heap[k]? = some (.cells cs e f)) (he : e ∉ E) : ¬ Typ w k E := by
  rintro ⟨cs', e', f', h', he'⟩
  rw [h] at h'
  injection h' with h'
  injection h' with _ h2 _
  exact he (h2 ▸ he')
end
def u8 (x : UInt8) : Value := .int .u8 (x.toNat : Int)
def Bs (E : List TypeId) (B : Nat) (w : World) (A : Option Addr) (n : Nat) (l : List UInt8) : Prop :=
  l.length = n ∧ (0 < n → ∃ b off, A = some ⟨b, off, none⟩ ∧ b < w.heap.size ∧ (b < B ∨ Typ w b E) ∧ ∀ j x, l[j]? = some x → w.cell? ⟨b, off + j, none⟩ = some (u8 x))
section
variable {E : List TypeId} {B : Nat} {w w' : World} {A : Option Addr} {n : Nat} {l : List UInt8}
theorem Bs.nil (E : List TypeId) (B : Nat) (w : World) (A : Option Addr) : Bs E B w A 0 [] := ⟨rfl, fun h => absurd h (by omega)⟩
theorem Bs.same (h : Bs E B w A n l) (hs : Same E B w w') : Bs E B w' A n l :=
  ⟨h.1, fun hn => by
    obtain ⟨b, off, e, hb, ht, hc⟩ := h.2 hn
    have e1 := hs.block b hb ht
    refine ⟨b, off, e, Nat.lt_of_lt_of_le hb hs.size, ?_, fun j x hx => (World.cell?_of_block (w := w) (a := ⟨b, off + j, none⟩) e1).trans (hc j x hx)⟩
    rcases ht with ht | ht
    · exact .inl ht
    · exact .inr (ht.of_eq e1)⟩
theorem Bs.rds (h : Bs E B w A n l) : Rds w w.heap.size 1 A n (l.map u8) := by
  refine ⟨by simp [h.1], fun hn => ?_⟩
  obtain ⟨b, off, e, hb, _, hc⟩ := h.2 hn
  refine ⟨b, off, e, hb, fun j u hu => ?_⟩
  simp only [List.getElem?_map, Option.map_eq_some_iff] at hu
  obtain ⟨x, hx, rfl⟩ := hu
  exact hc j x hx
theorem Bs.of_own {e : TypeId} {c : Nat} (h : Own w e 1 (.slice A n c) n (l.map u8)) (he : e ∈ E) : Bs E B w A n l := by
  refine ⟨by have := h.1; simpa using this, fun hn => ?_⟩
  rcases h.2 with ⟨_, h0⟩ | ⟨g, off, cap, cur, hv, hg, _, _, _, hc⟩
  · omega
  · injection hv with hA
    refine ⟨g, off, hA, (Array.getElem?_eq_some_iff.1 hg).1, .inr ⟨cur, e, _, hg, he⟩, fun j x hx => ?_⟩
    rw [cell_of_row w g (off + j) cur e (0, 0) hg]
    exact hc j _ (by simp [hx])
theorem u8_one : ∀ u ∈ l.map u8, u.oneCell' = true := fun u hu => by
  simp at hu
  obtain ⟨x, _, rfl⟩ := hu
  rfl
theorem Bs.conv {P : Program} {src dst e : TypeId} {c : Nat} (h : Bs E B w A n l) (hs : P.underlying src = some (.slice e)) (he : P.underlying e = some (.int .u8)) (hd : P.underlying dst = some .string) :
    (convert src dst (.slice A n c)).run P w = .ok (.string ⟨l.toArray⟩) w := by
  have key : ∀ l : List UInt8, strOfNums (l.map fun x => (x.toNat : Int)) = ⟨l.toArray⟩ := fun l => by
    unfold strOfNums
    congr 1
    simp [List.map_map, Function.comp_def]
  rcases Nat.eq_zero_or_pos n with h0 | h0
  · subst h0
    have hl : l = [] := List.eq_nil_of_length_eq_zero h.1
    subst hl
    rw [run_convert_bytes_string w src dst e A 0 c hs he hd]
    cases A with
    | none => simp [Conv.bytesToString]; rfl
    | some a =>
      rw [run_bytesToString w a 0 c [] (by simp [loadCells, loadCellsFrom])]
      rfl
  · obtain ⟨b, off, rfl, _, _, hc⟩ := h.2 h0
    rw [run_convert_bytes_arg (P := P) w src e hs he b off n c (l.map fun x => (x.toNat : Int)) (by simp [h.1]) (fun i hi => ?_) dst hd, key]
    have hl : i < l.length := by have := h.1; omega
    rw [hc i l[i] (by simp [hl])]
    simp [u8, List.getD_eq_getElem?_getD, hl]
end
def Seq {M : Type} (size : Nat) (rel : List Value → M → Prop) (xs : List Value) (ms : List M) : Prop :=
  xs.length = ms.length * size ∧ ∀ i m, ms[i]? = some m → rel ((xs.drop (i * size)).take size) m
section
variable {M : Type} {size : Nat} {rel rel' : List Value → M → Prop} {xs ys : List Value} {ms ns : List M}
theorem Seq.nil (size : Nat) (rel : List Value → M → Prop) : Seq size rel [] [] := ⟨by simp, fun i m h => by simp at h⟩
theorem Seq.append (h : Seq size rel xs ms) (k : Seq size rel ys ns) : Seq size rel (xs ++ ys) (ms ++ ns) := by
  refine ⟨by rw [List.length_append, List.length_append, h.1, k.1, Nat.add_mul], fun i m hm => ?_⟩
  rcases Nat.lt_or_ge i ms.length with hi | hi
  · rw [List.getElem?_append_left hi] at hm
    have := h.2 i m hm
    have hle : i * size + size ≤ xs.length := by
      rw [h.1]
      calc i * size + size = (i + 1) * size := by rw [Nat.add_mul, Nat.one_mul]
        _ ≤ ms.length * size := Nat.mul_le_mul_right _ hi
    rw [List.drop_append_of_le_length (by omega), List.take_append_of_le_length (by rw [List.length_drop]; omega)]
    exact this
  · rw [List.getElem?_append_right hi] at hm
    have := k.2 _ m hm
    have e : (xs ++ ys).drop (i * size) = ys.drop ((i - ms.length) * size) := by
      rw [List.drop_append, List.drop_eq_nil_of_le (by rw [h.1]; exact Nat.mul_le_mul_right _ hi), List.nil_append, h.1, Nat.sub_mul]
    rw [e]
    exact this
theorem Seq.drop (h : Seq size rel xs ms) (k : Nat) : Seq size rel (xs.drop (k * size)) (ms.drop k) := by
  refine ⟨by rw [List.length_drop, List.length_drop, h.1, Nat.sub_mul], fun i m hm => ?_⟩
  rw [List.getElem?_drop] at hm
  have := h.2 _ m hm
  rw [List.drop_drop, ← Nat.add_mul]
  exact this
theorem Seq.one {cs : List Value} {m : M} (hl : cs.length = size) (h : rel cs m) : Seq size rel cs [m] :=
  ⟨by simp [hl], fun i n hn => by
    match i, hn with
    | 0, hn =>
      simp at hn
      subst hn
      simpa [← hl] using h⟩
end
section
variable {w w' : World} {g : Nat} {t : TypeId} {cs : Array Value}
theorem Blk.not_typ {E : List TypeId} (h : Blk w g t cs) (ht : t ∉ E) : ¬ Typ w g E := not_typ_of h ht
theorem Kept.below0 (h : Kept [] w w') : Below w.heap.size w w' := h.below (by simp) (Nat.le_refl _)
end
section
variable {P : Program} {fn : Func} {R : Ending → World → Prop} {a : Act} {w : World} {p u ty : Nat}
theorem ret_cell (h : fn.results = #[.cell p ty]) {g : Nat} {cs : Array Value} {t : TypeId} (d : TypeDesc) (hp : a.tmps.getD p undef = .pointer (some ⟨g, 0, none⟩)) (hg : Blk w g t cs)
    (hu : P.underlying ty = some d) (hd : (match d with | .struct _ | .array _ _ => true | _ => false) = true) (hi : (P.info? ty).map (·.size) = some cs.size) (hdef : a.defers = [])
    (hR : R (.returned (.agg cs)) w) : bodyPost P fn R .ret a w := by
  refine bodyPost_ret (v := .agg cs) ?_ hdef hR
  have hl := run_loadVar_row (P := P) w g t ty cs (0, 0) d hg hu hd hi
  have hp' : a.tmps[p]?.getD undef = .pointer (some ⟨g, 0, none⟩) := by simpa using hp
  simp [results, h, hp', asAddr, Sem.run_bind, Result.andThen, hl]
theorem ret_cell_tmp (h : fn.results = #[.cell p ty, .tmp u]) {g : Nat} {cs : Array Value} {t : TypeId} {v : Value} (d : TypeDesc) (hp : a.tmps.getD p undef = .pointer (some ⟨g, 0, none⟩)) (hv : a.tmps.getD u undef = v) (hg : Blk w g t cs)
    (hu : P.underlying ty = some d) (hd : (match d with | .struct _ | .array _ _ => true | _ => false) = true) (hi : (P.info? ty).map (·.size) = some cs.size) (hdef : a.defers = [])
    (hR : R (.returned (.tuple #[.agg cs, v])) w) : bodyPost P fn R .ret a w := by
  refine bodyPost_ret (v := .tuple #[.agg cs, v]) ?_ hdef hR
  have hl := run_loadVar_row (P := P) w g t ty cs (0, 0) d hg hu hd hi
  rw [results_cell_tmp h, hp, hv]
  simp [asAddr, Result.andThen, hl]
end
end Go.Hub
namespace Go.Hub
open Go.RowKit
abbrev FL := List (Nat × Value)
def look : FL → Nat → Option Value
  | [], _ => none
  | (i, v) :: r, j => bif i == j then some v else look r j
def evl (l : FL) : Operand → Option Value
  | .tmp t => look l t
  | .const v => some v
  | .global g => some (.pointer (some ⟨g, 0, none⟩))
  | .func f => some (.func (.func f) #[] #[])
structure Fr (n : Nat) (a : Act) (l : FL) : Prop where
  defers : a.defers = []
  size : a.tmps.size = n
  slot : ∀ i v, look l i = some v → a.tmps[i]? = some v
section
variable {n : Nat} {a : Act} {l : FL}
theorem Fr.ev (f : Fr n a l) {x : Operand} {v : Value} (h : evl l x = some v) : a.eval x = v := by
  cases x with
  | tmp t => simp only [Act.eval, Array.getD_eq_getD_getElem?, f.slot t v h, Option.getD_some]
  | const c => simpa [evl, Act.eval] using h
  | global g => simpa [evl, Act.eval] using h
  | func g => simpa [evl, Act.eval] using h
theorem Fr.get (f : Fr n a l) {i : Nat} {v : Value} (h : look l i = some v) : a.tmps.getD i undef = v := by
  rw [Array.getD_eq_getD_getElem?, f.slot i v h, Option.getD_some]
theorem Fr.put (f : Fr n a l) (d : Nat) (v : Value) (hd : d < n) : Fr n (a.put (some d) v) ((d, v) :: l) := by
  refine ⟨f.defers, by simp [Act.put, f.size], fun i u h => ?_⟩
  unfold look at h
  simp only [Act.put, Array.getElem?_setIfInBounds]
  by_cases hi : d = i
  · subst hi
    simp at h
    subst h
    rw [if_pos rfl, if_pos (by rw [f.size]; exact hd)]
  · have hb : (d == i) = false := by simp [hi]
    simp [hb] at h
    rw [if_neg hi]
    exact f.slot i u h
theorem Fr.putNone (f : Fr n a l) (v : Value) : Fr n (a.put none v) l := f
def sub (l : FL) : FL → Prop
  | [] => True
  | p :: r => look l p.1 = some p.2 ∧ sub l r
theorem sub_look {l l' : FL} (h : sub l l') : ∀ i v, look l' i = some v → look l i = some v := by
  induction l' with
  | nil => intro i v h; simp [look] at h
  | cons p r ih =>
    obtain ⟨h1, h2⟩ := h
    intro i v hv
    unfold look at hv
    by_cases hi : p.1 = i
    · subst hi
      simp at hv
      rw [← hv]; exact h1
    · have hb : (p.1 == i) = false := by simp [hi]
      simp [hb] at hv
      exact ih h2 i v hv
theorem sub_cons {l : FL} {i : Nat} {v : Value} {r : FL} (h : look l i = some v) (h' : sub l r) : sub l ((i, v) :: r) := ⟨h, h'⟩
theorem Fr.sub {l' : FL} (f : Fr n a l) (h : sub l l') : Fr n a l' := ⟨f.defers, f.size, fun i v hv => f.slot i v (sub_look h i v hv)⟩
theorem Fr.as (f : Fr n a l) {i : Nat} {v v' : Value} (h : look l i = some v) (e : v = v') : Fr n a ((i, v') :: l) := by
  subst e
  refine ⟨f.defers, f.size, fun j u hu => ?_⟩
  unfold look at hu
  by_cases hi : i = j
  · subst hi
    simp at hu
    subst hu
    exact f.slot i v h
  · have hb : (i == j) = false := by simp [hi]
    simp [hb] at hu
    exact f.slot j u hu
theorem Fr.start (args : Array Value) (n : Nat) (h : args.size ≤ n) : Fr n { tmps := args ++ Array.replicate (n - args.size) undef, defers := [] } (args.toList.zipIdx.map fun p => (p.2, p.1)) := by
  refine ⟨rfl, by simp; omega, fun i v hv => ?_⟩
  have key : ∀ (xs : List Value) (k i : Nat) (v : Value), look ((xs.zipIdx k).map fun p => (p.2, p.1)) i = some v → k ≤ i ∧ xs[i - k]? = some v := by
    intro xs
    induction xs with
    | nil => intro k i v h; simp [look] at h
    | cons x r ih =>
      intro k i v h
      simp only [List.zipIdx_cons, List.map_cons, look] at h
      by_cases hi : k = i
      · subst hi
        simp at h
        subst h
        simp
      · have hb : (k == i) = false := by simp [hi]
        simp [hb] at h
        obtain ⟨h1, h2⟩ := ih (k + 1) i v h
        refine ⟨by omega, ?_⟩
        rw [show i - k = (i - (k + 1)) + 1 from by omega]
        simpa using h2
  obtain ⟨_, h2⟩ := key args.toList 0 i v hv
  have hlt : i < args.size := by
    rcases Nat.lt_or_ge i args.size with h | h
    · exact h
    · simp [h] at h2
  simp only [Array.getElem?_append_left hlt]
  simpa using h2
end
section
variable {P : Program} {ops : Array Oper} {rest : List Oper} {o : Oper} {a : Act} {w w' : World} {Q : Exit → Act → World → Prop} {n d : Nat} {l : FL} {v : Value}
theorem Fr.yield (f : Fr n a l) {j dj : Nat} {b : Bool} (hj : (ops[j]?).bind (·.dst) = some dj) (hb : look l dj = some (.bool b)) : yielded ops a.tmps j = some b := by
  unfold yielded
  rw [hj]
  simp [f.slot dj _ hb]
theorem L.val (f : Fr n a l) (hw : Region.wanted o (yielded ops a.tmps) = true) (hd : o.dst = some d) (hn : d < n) (h : (execOp a.eval o).run P w = .ok (.value v) w')
    (hK : ∀ a', Fr n a' ((d, v) :: l) → wpList P ops Q rest a' w') : wpList P ops Q (o :: rest) a w :=
  wpList_step fun K hK' => by
    rw [if_pos hw]
    unfold Oper.wp
    rw [h]
    show K (a.put o.dst v) w'
    rw [hd]
    exact hK' _ _ (hK _ (f.put d v hn))
theorem L.act (f : Fr n a l) (hw : Region.wanted o (yielded ops a.tmps) = true) (hd : o.dst = none) (h : (execOp a.eval o).run P w = .ok .skip w')
    (hK : ∀ a', Fr n a' l → wpList P ops Q rest a' w') : wpList P ops Q (o :: rest) a w :=
  wpList_step fun K hK' => by
    rw [if_pos hw]
    unfold Oper.wp
    rw [h]
    show K (a.put o.dst undef) w'
    rw [hd]
    exact hK' _ _ (hK _ f)
theorem L.skip (f : Fr n a l) (hw : Region.wanted o (yielded ops a.tmps) = false) (hd : o.dst = some d) (hn : d < n)
    (hK : ∀ a', Fr n a' ((d, undef) :: l) → wpList P ops Q rest a' w) : wpList P ops Q (o :: rest) a w :=
  wpList_step fun K hK' => by
    rw [if_neg (by rw [hw]; simp), hd]
    exact hK' _ _ (hK _ (f.put d undef hn))
theorem L.skipN (f : Fr n a l) (hw : Region.wanted o (yielded ops a.tmps) = false) (hd : o.dst = none)
    (hK : ∀ a', Fr n a' l → wpList P ops Q rest a' w) : wpList P ops Q (o :: rest) a w :=
  wpList_step fun K hK' => by
    rw [if_neg (by rw [hw]; simp), hd]
    exact hK' _ _ (hK _ f)
theorem run_call {fn : Nat} {xs : Array Operand} {ats : Array TypeId} {dst : Option Nat} {ty : TypeId} {ps : String} {af : Array Edge} {g : Option (Nat × Bool)} {args : Array Value}
    (hc : ∀ args w, (callFunc fn args).run P w = .ok (.enter fn args) w) (hx : xs.map a.eval = args) :
    (execOp a.eval ⟨dst, .call { callee := .value (.func fn), args := xs, argTypes := ats }, ty, ps, af, g⟩).run P w = .ok (.enter fn args) w := by
  have e : execOp a.eval ⟨dst, .call { callee := .value (.func fn), args := xs, argTypes := ats }, ty, ps, af, g⟩ = callFunc fn (#[] ++ xs.map a.eval ++ #[]) := rfl
  rw [e, hx, hc]
  simp
theorem L.call (f : Fr n a l) (hw : Region.wanted o (yielded ops a.tmps) = true) (hd : o.dst = some d) (hn : d < n) {fn : Nat} {args : Array Value} (h : (execOp a.eval o).run P w = .ok (.enter fn args) w)
    {R : Ending → World → Prop} (hc : Calls P fn args w R) (hR : ∀ e w', R e w' → ∃ v, e = .returned v ∧ ∀ a', Fr n a' ((d, v) :: l) → wpList P ops Q rest a' w') : wpList P ops Q (o :: rest) a w :=
  wpList_step fun K hK' => by
    rw [if_pos hw]
    unfold Oper.wp
    rw [h]
    refine Calls.mono hc ?_
    intro e w' hr
    obtain ⟨v, rfl, hK⟩ := hR e w' hr
    show K (a.put o.dst v) w'
    rw [hd]
    exact hK' _ _ (hK _ (f.put d v hn))
theorem Fr.split {G : Prop} (f : Fr n a l) (i : Nat) {b : Bool} (h : look l i = some (.bool b)) (ht : b = true → Fr n a ((i, .bool true) :: l) → G) (hf : b = false → Fr n a ((i, .bool false) :: l) → G) : G := by
  cases hb : b
  · exact hf hb (f.as h (by rw [hb]))
  · exact ht hb (f.as h (by rw [hb]))
theorem Fr.splitD {G : Prop} (f : Fr n a l) (i : Nat) {p : Prop} {inst : Decidable p} (h : look l i = some (.bool (@decide p inst))) (ht : p → Fr n a ((i, .bool true) :: l) → G) (hf : ¬ p → Fr n a ((i, .bool false) :: l) → G) : G :=
  f.split i h (fun e => ht (of_decide_eq_true e)) (fun e => hf (of_decide_eq_false e))
theorem Fr.splitNB {G : Prop} (f : Fr n a l) (i : Nat) {b : Bool} (h : look l i = some (.bool (!b))) (ht : b = false → Fr n a ((i, .bool true) :: l) → G) (hf : b = true → Fr n a ((i, .bool false) :: l) → G) : G :=
  f.split i h (fun e => ht (by simpa using e)) (fun e => hf (by simpa using e))
theorem Fr.splitN {G : Prop} (f : Fr n a l) (i : Nat) {p : Prop} {inst : Decidable p} (h : look l i = some (.bool (!@decide p inst))) (ht : ¬ p → Fr n a ((i, .bool true) :: l) → G) (hf : p → Fr n a ((i, .bool false) :: l) → G) : G :=
  f.split i h (fun e => ht (by simpa using e)) (fun e => hf (by simpa using e))
end
section
variable {P : Program} {ops : Array Oper} {Q : Exit → Act → World → Prop} {md : Region.Mode} {S : World → Prop} {a : Act} {w w' : World} {n d : Nat} {l : FL} {v : Value} {o : Oper}
theorem R.begin {id : Nat} (hm : P.follows .mixedOrders = true) (hS : S (w.drewN 1))
    (h : wpAnyH P .any ops Q S ops.size (Array.replicate ops.size false) a (w.drewN 1)) : (Code.region id ops true).wp P Q a w := wp_region_held hm h
theorem R.take (i : Nat) {fuel : Nat} {listed : Array Bool} (f : Fr n a l) (hi : ops[i]? = some o) (hd : o.dst = some d) (hn : d < n) (hs : Region.noSelect ops = true) (hf : Region.free md ops listed i = true)
    (hr : (Region.ready md ops listed).contains i = true) (hQ : ∀ c (a : Act) (u : Value) w, Q (.panic c) (a.put (some d) u) w → Q (.panic c) a w) (hw : Region.wanted o (yielded ops a.tmps) = true) (hS : S w)
    (hv : ∀ w, S w → (execOp a.eval o).run P w = .ok (.value v) w)
    (hK : ∀ a', Fr n a' ((d, v) :: l) → wpAnyH P md ops Q S fuel (listed.setIfInBounds i true) a' w) : wpAnyH P md ops Q S (fuel + 1) listed a w := by
  refine wpAnyH_take hi hs hf hr (v := v) (fun c a w h => hQ c a v w (by rwa [hd] at h)) (.inl ⟨hw, hv⟩) hS ?_
  rw [hd]
  exact hK _ (f.put d v hn)
theorem R.takeSkip (i : Nat) {fuel : Nat} {listed : Array Bool} (f : Fr n a l) (hi : ops[i]? = some o) (hd : o.dst = some d) (hn : d < n) (hs : Region.noSelect ops = true) (hf : Region.free md ops listed i = true)
    (hr : (Region.ready md ops listed).contains i = true) (hQ : ∀ c (a : Act) (u : Value) w, Q (.panic c) (a.put (some d) u) w → Q (.panic c) a w) (hw : Region.wanted o (yielded ops a.tmps) = false) (hS : S w)
    (hK : ∀ a', Fr n a' ((d, undef) :: l) → wpAnyH P md ops Q S fuel (listed.setIfInBounds i true) a' w) : wpAnyH P md ops Q S (fuel + 1) listed a w := by
  refine wpAnyH_take hi hs hf hr (v := undef) (fun c a w h => hQ c a undef w (by rwa [hd] at h)) (.inr ⟨hw, rfl⟩) hS ?_
  rw [hd]
  exact hK _ (f.put d undef hn)
theorem R.act (i : Nat) {fuel : Nat} {listed : Array Bool} (f : Fr n a l) (hi : ops[i]? = some o) (hd : o.dst = none) (hr : Region.ready md ops listed = [i]) (hw : Region.wanted o (yielded ops a.tmps) = true)
    (hv : (execOp a.eval o).run P w = .ok .skip w') (hS : S w') (hK : ∀ a', Fr n a' l → wpAnyH P md ops Q S fuel (listed.setIfInBounds i true) a' w') : wpAnyH P md ops Q S (fuel + 1) listed a w := by
  refine wpAnyH_all hr (by simp) ?_
  intro j hj
  simp only [List.mem_singleton] at hj
  subst hj
  unfold wpOp
  simp only [hi, hw, if_true]
  refine .inl ?_
  unfold Oper.wp
  rw [hv]
  show S w' ∧ wpAnyH P md ops Q S fuel (listed.setIfInBounds j true) (a.put o.dst undef) w'
  rw [hd]
  exact ⟨hS, hK _ f⟩
theorem R.call (i : Nat) {fuel : Nat} {listed : Array Bool} (f : Fr n a l) (hi : ops[i]? = some o) (hd : o.dst = some d) (hn : d < n) (hr : Region.ready md ops listed = [i]) (hw : Region.wanted o (yielded ops a.tmps) = true)
    {fn : Nat} {args : Array Value} (h : (execOp a.eval o).run P w = .ok (.enter fn args) w) {R : Ending → World → Prop} (hc : Calls P fn args w R)
    (hR : ∀ e w', R e w' → ∃ v, e = .returned v ∧ S w' ∧ ∀ a', Fr n a' ((d, v) :: l) → wpAnyH P md ops Q S fuel (listed.setIfInBounds i true) a' w') : wpAnyH P md ops Q S (fuel + 1) listed a w := by
  refine wpAnyH_all hr (by simp) ?_
  intro j hj
  simp only [List.mem_singleton] at hj
  subst hj
  unfold wpOp
  simp only [hi, hw, if_true]
  refine .inl ?_
  unfold Oper.wp
  rw [h]
  refine Calls.mono hc ?_
  intro e w' hr
  obtain ⟨v, rfl, hS, hK⟩ := hR e w' hr
  show S w' ∧ wpAnyH P md ops Q S fuel (listed.setIfInBounds j true) (a.put o.dst v) w'
  rw [hd]
  exact ⟨hS, hK _ (f.put d v hn)⟩
theorem R.done {fuel : Nat} {listed : Array Bool} (hr : Region.ready md ops listed = []) (h : Q .normal a w) : wpAnyH P md ops Q S fuel listed a w := wpAnyH_done hr h fuel
end
section
variable {P : Program} {Q : Exit → Act → World → Prop} {a : Act} {w : World} {n : Nat} {l : FL}
theorem C.region {id : Nat} {ops : List Oper} (h : wpList P ops.toArray Q ops a w) : (Code.region id ops.toArray false).wp P Q a w := wp_region_lit h
theorem C.condT (f : Fr n a l) {c : Operand} {x y : Code} (hc : evl l c = some (.bool true)) (h : x.wp P Q a w) : (Code.cond c x y).wp P Q a w := wp_cond_true (f.ev hc) h
theorem C.condF (f : Fr n a l) {c : Operand} {x y : Code} (hc : evl l c = some (.bool false)) (h : y.wp P Q a w) : (Code.cond c x y).wp P Q a w := wp_cond_false (f.ev hc) h
theorem C.cut {x y : Code} (J : Act → World → Prop) (h : x.wp P (Exit.then J Q) a w) (hr : ∀ a w, J a w → y.wp P Q a w) : (Code.seq x y).wp P Q a w :=
  wp_seq (Code.wp_mono (fun e a w q => by cases e <;> first | exact hr _ _ q | exact q) h)
theorem C.loop (I : Nat → Act → World → Prop) (n₀ : Nat) {c : Code} (h₀ : I n₀ a w)
    (round : ∀ n a w, I n a w → ∀ K : Act → World → Prop, (∀ a w k, k < n → I k a w → K a w) → c.wp P (Exit.then K Q) a w) : (Code.loop c).wp P Q a w :=
  wp_loop_ghost I n₀ h₀ fun n a w h => round n a w h _ fun a w k hk hI => ⟨k, hk, hI⟩
theorem C.enter {f : Nat} {fn : Func} {c : Code} {args : Array Value} {R : Ending → World → Prop} {n : Nat} (hf : P.funcs[f]? = some fn) (hb : fn.body = some c) (hn : fn.ntmps = n) (hs : Nat.ble args.size n = true)
    (h : ∀ a, Fr n a (args.toList.zipIdx.map fun p => (p.2, p.1)) → c.wp P (bodyPost P fn R) a w) : Calls P f args w R := by
  refine calls_of_wp hf hb (h _ ?_)
  rw [hn]
  exact Fr.start args n (Nat.le_of_ble_eq_true hs)
theorem C.ret {fn : Func} {R : Ending → World → Prop} (f : Fr n a l) {t : Tmp} (hr : fn.results = #[.tmp t]) {v : Value} (hv : look l t = some v) (h : R (.returned v) w) : bodyPost P fn R .ret a w :=
  bodyPost_ret (by rw [results_tmp hr, f.get hv]) f.defers h
theorem C.ret0 {fn : Func} {R : Ending → World → Prop} (f : Fr n a l) (hr : fn.results = #[]) (h : R (.returned (.tuple #[])) w) : bodyPost P fn R .ret a w :=
  bodyPost_ret (by rw [results_none hr]) f.defers h
theorem C.end0 {fn : Func} {R : Ending → World → Prop} (f : Fr n a l) (hr : fn.results = #[]) (h : R (.returned (.tuple #[])) w) : bodyPost P fn R .normal a w :=
  bodyPost_end (by rw [results_none hr]) f.defers h
end
end Go.Hub
namespace Go.Hub
open Go.RowKit
theorem beqD {α : Type} [BEq α] [LawfulBEq α] [DecidableEq α] (a b : α) : (a == b) = decide (a = b) := by by_cases h : a = b <;> simp [h]
section
variable {P : Program} {a : Act} {w : World} {n : Nat} {l : FL} {dst : Option Nat} {ty : TypeId} {ps : String} {af : Array Edge} {g : Option (Nat × Bool)} {x y z : Operand} {t u : TypeId}
theorem E.move (f : Fr n a l) {v : Value} (hx : evl l x = some v) : (execOp a.eval ⟨dst, .move x, ty, ps, af, g⟩).run P w = .ok (.value v) w := by simp [execOp, f.ev hx]
theorem E.assign (f : Fr n a l) {v : Value} (hx : evl l x = some v) : (execOp a.eval ⟨dst, .assign x, ty, ps, af, g⟩).run P w = .ok (.value v) w := by simp [execOp, f.ev hx]
theorem E.pickT (f : Fr n a l) {v : Value} (hc : evl l x = some (.bool true)) (hv : evl l y = some v) : (execOp a.eval ⟨dst, .pick x y z, ty, ps, af, g⟩).run P w = .ok (.value v) w := by simp [execOp, f.ev hc, f.ev hv, asBool]
theorem E.pickF (f : Fr n a l) {v : Value} (hc : evl l x = some (.bool false)) (hv : evl l z = some v) : (execOp a.eval ⟨dst, .pick x y z, ty, ps, af, g⟩).run P w = .ok (.value v) w := by simp [execOp, f.ev hc, f.ev hv, asBool]
theorem E.add (f : Fr n a l) {k : IntKind} {i j r : Int} (hx : evl l x = some (.int k i)) (hy : evl l y = some (.int k j)) (hr : k.wrap (i + j) = r) : (execOp a.eval ⟨dst, .binOp .add t x y u, ty, ps, af, g⟩).run P w = .ok (.value (.int k r)) w := by
  simp [execOp, f.ev hx, f.ev hy, eqGuard, binOp, Op.intArith, hr]
theorem E.sub (f : Fr n a l) {k : IntKind} {i j r : Int} (hx : evl l x = some (.int k i)) (hy : evl l y = some (.int k j)) (hr : k.wrap (i - j) = r) : (execOp a.eval ⟨dst, .binOp .sub t x y u, ty, ps, af, g⟩).run P w = .ok (.value (.int k r)) w := by
  simp [execOp, f.ev hx, f.ev hy, eqGuard, binOp, Op.intArith, hr]
theorem E.mul (f : Fr n a l) {k : IntKind} {i j r : Int} (hx : evl l x = some (.int k i)) (hy : evl l y = some (.int k j)) (hr : k.wrap (i * j) = r) : (execOp a.eval ⟨dst, .binOp .mul t x y u, ty, ps, af, g⟩).run P w = .ok (.value (.int k r)) w := by
  simp [execOp, f.ev hx, f.ev hy, eqGuard, binOp, Op.intArith, hr]
theorem E.quo (f : Fr n a l) {k : IntKind} {i j r : Int} (hx : evl l x = some (.int k i)) (hy : evl l y = some (.int k j)) (h0 : j ≠ 0) (hr : k.wrap (i.tdiv j) = r) : (execOp a.eval ⟨dst, .binOp .quo t x y u, ty, ps, af, g⟩).run P w = .ok (.value (.int k r)) w := by
  simp [execOp, f.ev hx, f.ev hy, eqGuard, binOp, Op.intDiv, h0, hr]
theorem E.rem (f : Fr n a l) {k : IntKind} {i j r : Int} (hx : evl l x = some (.int k i)) (hy : evl l y = some (.int k j)) (h0 : j ≠ 0) (hr : i.tmod j = r) : (execOp a.eval ⟨dst, .binOp .rem t x y u, ty, ps, af, g⟩).run P w = .ok (.value (.int k r)) w := by
  simp [execOp, f.ev hx, f.ev hy, eqGuard, binOp, Op.intDiv, h0, hr]
theorem E.eql (f : Fr n a l) {k : IntKind} {i j : Int} (hx : evl l x = some (.int k i)) (hy : evl l y = some (.int k j)) : (execOp a.eval ⟨dst, .binOp .eql t x y u, ty, ps, af, g⟩).run P w = .ok (.value (.bool (decide (i = j)))) w := by
  simp [execOp, f.ev hx, f.ev hy, eqGuard, binOp, Op.intCmp, beqD]
theorem E.neq (f : Fr n a l) {k : IntKind} {i j : Int} (hx : evl l x = some (.int k i)) (hy : evl l y = some (.int k j)) : (execOp a.eval ⟨dst, .binOp .neq t x y u, ty, ps, af, g⟩).run P w = .ok (.value (.bool (!decide (i = j)))) w := by
  simp [execOp, f.ev hx, f.ev hy, eqGuard, binOp, Op.intCmp, bne, beqD]
theorem E.lss (f : Fr n a l) {k : IntKind} {i j : Int} (hx : evl l x = some (.int k i)) (hy : evl l y = some (.int k j)) : (execOp a.eval ⟨dst, .binOp .lss t x y u, ty, ps, af, g⟩).run P w = .ok (.value (.bool (decide (i < j)))) w := by
  simp [execOp, f.ev hx, f.ev hy, eqGuard, binOp, Op.intCmp]
theorem E.leq (f : Fr n a l) {k : IntKind} {i j : Int} (hx : evl l x = some (.int k i)) (hy : evl l y = some (.int k j)) : (execOp a.eval ⟨dst, .binOp .leq t x y u, ty, ps, af, g⟩).run P w = .ok (.value (.bool (decide (i ≤ j)))) w := by
  simp [execOp, f.ev hx, f.ev hy, eqGuard, binOp, Op.intCmp]
theorem E.gtr (f : Fr n a l) {k : IntKind} {i j : Int} (hx : evl l x = some (.int k i)) (hy : evl l y = some (.int k j)) : (execOp a.eval ⟨dst, .binOp .gtr t x y u, ty, ps, af, g⟩).run P w = .ok (.value (.bool (decide (j < i)))) w := by
  simp [execOp, f.ev hx, f.ev hy, eqGuard, binOp, Op.intCmp]
theorem E.geq (f : Fr n a l) {k : IntKind} {i j : Int} (hx : evl l x = some (.int k i)) (hy : evl l y = some (.int k j)) : (execOp a.eval ⟨dst, .binOp .geq t x y u, ty, ps, af, g⟩).run P w = .ok (.value (.bool (decide (j ≤ i)))) w := by
  simp [execOp, f.ev hx, f.ev hy, eqGuard, binOp, Op.intCmp]
theorem toList_eq_iff {s r : ByteArray} : s.toList = r.toList ↔ s = r := by
  rw [ByteArray.toList_eq, ByteArray.toList_eq]
  constructor
  · intro h
    exact ByteArray.ext (Array.toList_inj.mp h)
  · intro h; rw [h]
theorem E.eqlS (f : Fr n a l) {s r : ByteArray} (hx : evl l x = some (.string s)) (hy : evl l y = some (.string r)) : (execOp a.eval ⟨dst, .binOp .eql t x y u, ty, ps, af, g⟩).run P w = .ok (.value (.bool (decide (s = r)))) w := by
  simp [execOp, f.ev hx, f.ev hy, eqGuard, binOp, Op.stringOp, beqD, toList_eq_iff]
theorem E.neqS (f : Fr n a l) {s r : ByteArray} (hx : evl l x = some (.string s)) (hy : evl l y = some (.string r)) : (execOp a.eval ⟨dst, .binOp .neq t x y u, ty, ps, af, g⟩).run P w = .ok (.value (.bool (!decide (s = r)))) w := by
  simp [execOp, f.ev hx, f.ev hy, eqGuard, binOp, Op.stringOp, beqD, toList_eq_iff]
theorem E.eqlB (f : Fr n a l) {b c : Bool} (ht : P.underlying t = some .bool) (hx : evl l x = some (.bool b)) (hy : evl l y = some (.bool c)) : (execOp a.eval ⟨dst, .binOp .eql t x y u, ty, ps, af, g⟩).run P w = .ok (.value (.bool (b == c))) w := by
  simp [execOp, f.ev hx, f.ev hy, eqGuard, binOp, Op.equal, Op.maxDepth, run_equalIn_bool' w _ t b c ht]
theorem E.neqB (f : Fr n a l) {b c : Bool} (ht : P.underlying t = some .bool) (hx : evl l x = some (.bool b)) (hy : evl l y = some (.bool c)) : (execOp a.eval ⟨dst, .binOp .neq t x y u, ty, ps, af, g⟩).run P w = .ok (.value (.bool (b != c))) w := by
  simp [execOp, f.ev hx, f.ev hy, eqGuard, binOp, Op.equal, Op.maxDepth, run_equalIn_bool' w _ t b c ht, bne]
theorem E.eqlV (f : Fr n a l) {v v' : Value} {b : Bool} (hx : evl l x = some v) (hy : evl l y = some v') (h : ∀ w, (do eqGuard .eql t x y v v'; binOp .eql t v v' : Sem Value).run P w = .ok (.bool b) w) : (execOp a.eval ⟨dst, .binOp .eql t x y u, ty, ps, af, g⟩).run P w = .ok (.value (.bool b)) w := by
  have := h w
  simp only [execOp, f.ev hx, f.ev hy]
  rw [Sem.run_bind, this]
  rfl
theorem E.neqV (f : Fr n a l) {v v' : Value} {b : Bool} (hx : evl l x = some v) (hy : evl l y = some v') (h : ∀ w, (do eqGuard .neq t x y v v'; binOp .neq t v v' : Sem Value).run P w = .ok (.bool b) w) : (execOp a.eval ⟨dst, .binOp .neq t x y u, ty, ps, af, g⟩).run P w = .ok (.value (.bool b)) w := by
  have := h w
  simp only [execOp, f.ev hx, f.ev hy]
  rw [Sem.run_bind, this]
  rfl
theorem E.not (f : Fr n a l) {b : Bool} (hx : evl l x = some (.bool b)) : (execOp a.eval ⟨dst, .unOp .not t x, ty, ps, af, g⟩).run P w = .ok (.value (.bool (!b))) w := by simp [execOp, f.ev hx, Op.unary]
theorem E.conv (f : Fr n a l) {k k' : IntKind} {i r : Int} (ht : P.underlying t = some (.int k)) (hu : P.underlying u = some (.int k')) (hx : evl l x = some (.int k i)) (hr : k'.wrap i = r) : (execOp a.eval ⟨dst, .convert t u x, ty, ps, af, g⟩).run P w = .ok (.value (.int k' r)) w := by
  simp [execOp, f.ev hx, convert, run_underlying ht, run_underlying hu, Conv.intToInt, hr]
theorem E.convV (f : Fr n a l) {v v' : Value} {w' : World} (hx : evl l x = some v) (h : (convert t u v).run P w = .ok v' w') : (execOp a.eval ⟨dst, .convert t u x, ty, ps, af, g⟩).run P w = .ok (.value v') w' := by
  simp [execOp, f.ev hx, h]
theorem E.extract (f : Fr n a l) {vs : Array Value} {i : Nat} {v : Value} (hx : evl l x = some (.tuple vs)) (hi : vs[i]? = some v) : (execOp a.eval ⟨dst, .extract x i, ty, ps, af, g⟩).run P w = .ok (.value v) w := by
  simp [execOp, f.ev hx, Instr.extract, hi]
theorem E.makeInterface (f : Fr n a l) {v : Value} (hc : P.concrete t = true) (hx : evl l x = some v) : (execOp a.eval ⟨dst, .makeInterface t x, ty, ps, af, g⟩).run P w = .ok (.value (.iface t v)) w := by
  simp [execOp, f.ev hx, run_makeInterface w t v hc]
theorem E.nilCheck (f : Fr n a l) {ad : Addr} (hx : evl l x = some (.pointer (some ad))) : (execOp a.eval ⟨dst, .nilCheck x, ty, ps, af, g⟩).run P w = .ok (.value (.pointer (some ad))) w := by
  simp [execOp, f.ev hx]
theorem E.build (f : Fr n a l) {parts : Array (Nat × Operand)} {vs : List (Nat × Value)} {cs : Array Value} (hx : (parts.map fun p => (p.1, a.eval p.2)).toList = vs) (hb : P.built t vs = some cs) : (execOp a.eval ⟨dst, .build t parts, ty, ps, af, g⟩).run P w = .ok (.value (.agg cs)) w := by
  have hx' : (parts.map fun (i, x) => (i, a.eval x)).toList = vs := hx
  have hr := run_build (P := P) w t (parts.map fun (i, x) => (i, a.eval x)) cs (by rw [hx']; exact hb)
  simp only [execOp]
  rw [Sem.run_bind, hr]
  rfl
theorem E.lenS (f : Fr n a l) {s : ByteArray} (ht : P.underlying t = some .string) (hx : evl l x = some (.string s)) : (execOp a.eval ⟨dst, .call { callee := .builtin .len, args := #[x], argTypes := #[t] }, ty, ps, af, g⟩).run P w = .ok (.value (.int .i64 s.size)) w := by
  simp [execOp, resolve, invoke, builtin, f.ev hx, Builtin.len_, run_underlying ht, goInt]
theorem E.lenL (f : Fr n a l) {e : TypeId} {A : Option Addr} {m c : Nat} (ht : P.underlying t = some (.slice e)) (hx : evl l x = some (.slice A m c)) : (execOp a.eval ⟨dst, .call { callee := .builtin .len, args := #[x], argTypes := #[t] }, ty, ps, af, g⟩).run P w = .ok (.value (.int .i64 m)) w := by
  simp [execOp, resolve, invoke, builtin, f.ev hx, Builtin.len_, run_underlying ht, goInt]
theorem E.min (f : Fr n a l) {k : IntKind} {i j : Int} (hx : evl l x = some (.int k i)) (hy : evl l y = some (.int k j)) : (execOp a.eval ⟨dst, .call { callee := .builtin .min, args := #[x, y], argTypes := #[t, u] }, ty, ps, af, g⟩).run P w = .ok (.value (.int k (Min.min i j))) w := by
  have e : Min.min i j = if j < i then j else i := by rw [Int.min_def]; split <;> split <;> omega
  simp [execOp, resolve, invoke, builtin, f.ev hx, f.ev hy, Builtin.min_, Builtin.min2, e]
theorem add_plain (b o k : Nat) : (⟨b, o, none⟩ : Addr).add k = ⟨b, o + k, none⟩ := Addr.add_mid b o k
theorem E.fieldAddr (f : Fr n a l) {fs : Array Field} {i : Nat} {fld : Field} {b o s : Nat} (ht : P.underlying t = some (.struct fs)) (hx : evl l x = some (.pointer (some ⟨b, o, none⟩))) (hi : fs[i]? = some fld)
    (hs : (P.info? fld.type).map (·.size) = some (s + 1)) : (execOp a.eval ⟨dst, .fieldAddr t x i, ty, ps, af, g⟩).run P w = .ok (.value (.pointer (some ⟨b, o + fld.offset, none⟩))) w := by
  cases hq : P.info? fld.type with
  | none => simp [hq] at hs
  | some i' =>
    have hs' : i'.size = s + 1 := by simpa [hq] using hs
    simp [execOp, f.ev hx, Instr.fieldAt, run_underlying ht, hi, Instr.sureAddr, fieldPlace, sizeOf, typeInfo, hq, hs', add_plain]
theorem E.indexAddr (f : Fr n a l) {e : TypeId} {b o m c s : Nat} {k : IntKind} {i : Int} (ht : P.underlying t = some (.slice e)) (hs : (P.info? e).map (·.size) = some s) (hx : evl l x = some (.slice (some ⟨b, o, none⟩) m c)) (hy : evl l y = some (.int k i))
    (h0 : 0 ≤ i) (h1 : i < m) : (execOp a.eval ⟨dst, .indexAddr t x y, ty, ps, af, g⟩).run P w = .ok (.value (.pointer (some ⟨b, o + i.toNat * s, none⟩))) w := by
  cases hq : P.info? e with
  | none => simp [hq] at hs
  | some i' =>
    have hs' : i'.size = s := by simpa [hq] using hs
    simp [execOp, f.ev hx, f.ev hy, Instr.indexAt, asIntOf, run_underlying ht, h0, h1, sizeOf, typeInfo, hq, hs', add_plain]
theorem E.load (f : Fr n a l) {ad : Addr} {v : Value} {d : TypeDesc} (ht : P.underlying t = some d) (hd : d.isRow = false) (hx : evl l x = some (.pointer (some ad))) (hc : w.cell? ad = some v) : (execOp a.eval ⟨dst, .load t x, ty, ps, af, g⟩).run P w = .ok (.value v) w := by
  have hagg : (isAgg t).run P w = .ok false w := by
    unfold isAgg
    rw [Sem.run_bind, run_underlying ht w]
    cases d <;> simp_all [TypeDesc.isRow]
  simp [execOp, f.ev hx, Instr.loadAt, Instr.sureAddr, loadVar, hagg, load, Sem.run, hc]
theorem E.loadR (f : Fr n a l) {b o s : Nat} {cs : List Value} {d : TypeDesc} (ht : P.underlying t = some d) (hd : d.isRow = true) (hi : (P.info? t).map (·.size) = some s) (hx : evl l x = some (.pointer (some ⟨b, o, none⟩))) (hc : w.rangeAt b o cs) (hl : cs.length = s) :
    (execOp a.eval ⟨dst, .load t x, ty, ps, af, g⟩).run P w = .ok (.value (.agg cs.toArray)) w := by
  subst hl
  simp only [execOp, f.ev hx]
  rw [Sem.run_bind, run_loadAt_mid w b o t cs d hc ht hd hi]
  rfl
theorem E.store (f : Fr n a l) {b o : Nat} {v old : Value} (hi : (P.info? t).map (·.size) = some 1) (hx : evl l x = some (.pointer (some ⟨b, o, none⟩))) (hy : evl l y = some v) (h1 : v.oneCell' = true) (hc : w.cell? ⟨b, o, none⟩ = some old) (hf : w.frozen? ⟨b, o, none⟩ = false) :
    (execOp a.eval ⟨dst, .store t x y, ty, ps, af, g⟩).run P w = .ok .skip (w.setCell ⟨b, o, none⟩ v) := by
  have hcs : v.cells = #[v] := by cases v <;> first | rfl | cases h1
  have := run_storeCells_cells (P := P) b o [v] 0 w (fun j hj => by simp at hj; subst hj; simp [hc]) (fun j hj => by simp at hj; subst hj; simpa using hf) (fun u hu => by simp at hu; subst hu; exact h1)
  cases hq : P.info? t with
  | none => simp [hq] at hi
  | some i =>
    have hs : i.size = 1 := by simpa [hq] using hi
    simp only [execOp, f.ev hx, f.ev hy]
    simp only [Nat.add_zero, World.setCells] at this
    simp [Instr.storeAt, Instr.sureAddr, storeVar, sizeOf, typeInfo, hq, hcs, hs, this]
theorem E.storeR (f : Fr n a l) {b o : Nat} {cs : Array Value} (hi : (P.info? t).map (·.size) = some cs.size) (hx : evl l x = some (.pointer (some ⟨b, o, none⟩))) (hy : evl l y = some (.agg cs)) (h1 : cs.all (·.oneCell') = true) (ht : w.there b o cs.size) :
    (execOp a.eval ⟨dst, .store t x y, ty, ps, af, g⟩).run P w = .ok .skip (w.setCells b o cs.toList) := by
  simp only [execOp, f.ev hx, f.ev hy]
  rw [Sem.run_bind, run_storeAt_mid w b o t cs ht hi h1]
  rfl
theorem E.alloc (f : Fr n a l) {z : Value} (hz : ∀ w, (zeroValue t).run P w = .ok z w) : (execOp a.eval ⟨dst, .alloc t, ty, ps, af, g⟩).run P w = .ok (.value (.pointer (some ⟨w.heap.size, 0, none⟩))) (w.alloc (.cells z.cells t)) := by
  simp only [execOp, Instr.alloc]
  rw [Sem.run_bind, Sem.run_bind, hz w]
  rfl
theorem E.box (f : Fr n a l) {v : Value} (hx : evl l x = some v) : (execOp a.eval ⟨dst, .box t x, ty, ps, af, g⟩).run P w = .ok (.value (.pointer (some ⟨w.heap.size, 0, none⟩))) (w.alloc (.cells v.cells t)) := by
  simp only [execOp, f.ev hx]
  rfl
theorem E.slLlo (f : Fr n a l) {e : TypeId} {A : Option Addr} {m c s : Nat} {i : Int} {ki : IntKind} (ht : P.underlying t = some (.slice e)) (hs : (P.info? e).map (·.size) = some s) (hx : evl l x = some (.slice A m c)) (hy : evl l y = some (.int ki i)) (h0 : 0 ≤ i) (h1 : i ≤ m) :
    (execOp a.eval ⟨dst, .slice t x (some y) none none, ty, ps, af, g⟩).run P w = .ok (.value (.slice (if c = i.toNat then A else A.map (·.add (i.toNat * s))) (m - i.toNat) (c - i.toNat))) w := by
  cases hq : P.info? e with
  | none => simp [hq] at hs
  | some i' =>
    have hs' : i'.size = s := by simpa [hq] using hs
    simp [execOp, f.ev hx, f.ev hy, Instr.sliceAt, Instr.slice, Instr.sliceBounds, Instr.sliceBound, asIntOf, run_underlying ht, h0, h1, sizeOf, typeInfo, hq, hs']
theorem E.slLhi (f : Fr n a l) {e : TypeId} {A : Option Addr} {m c s : Nat} {i : Int} {ki : IntKind} (ht : P.underlying t = some (.slice e)) (hs : (P.info? e).map (·.size) = some s) (hx : evl l x = some (.slice A m c)) (hy : evl l y = some (.int ki i)) (h0 : 0 ≤ i) (h1 : i ≤ c) :
    (execOp a.eval ⟨dst, .slice t x none (some y) none, ty, ps, af, g⟩).run P w = .ok (.value (.slice A i.toNat c)) w := by
  cases hq : P.info? e with
  | none => simp [hq] at hs
  | some i' =>
    have hs' : i'.size = s := by simpa [hq] using hs
    have e0 : (A.map fun a => a.add 0) = A := by cases A with
      | none => rfl
      | some b => cases b with | mk b o s => simp [Addr.add]
    simp [execOp, f.ev hx, f.ev hy, Instr.sliceAt, Instr.slice, Instr.sliceBounds, Instr.sliceBound, asIntOf, run_underlying ht, h0, h1, sizeOf, typeInfo, hq, hs', e0]
end
section
variable {a : Act} {n : Nat} {l : FL}
theorem args0 (f : Fr n a l) : (#[] : Array Operand).map a.eval = #[] := by simp
theorem args1 (f : Fr n a l) {x0 : Operand} {v0 : Value} (h0 : evl l x0 = some v0) : #[x0].map a.eval = #[v0] := by simp [f.ev h0]
theorem args2 (f : Fr n a l) {x0 x1 : Operand} {v0 v1 : Value} (h0 : evl l x0 = some v0) (h1 : evl l x1 = some v1) : #[x0, x1].map a.eval = #[v0, v1] := by simp [f.ev h0, f.ev h1]
theorem args3 (f : Fr n a l) {x0 x1 x2 : Operand} {v0 v1 v2 : Value} (h0 : evl l x0 = some v0) (h1 : evl l x1 = some v1) (h2 : evl l x2 = some v2) : #[x0, x1, x2].map a.eval = #[v0, v1, v2] := by simp [f.ev h0, f.ev h1, f.ev h2]
theorem args4 (f : Fr n a l) {x0 x1 x2 x3 : Operand} {v0 v1 v2 v3 : Value} (h0 : evl l x0 = some v0) (h1 : evl l x1 = some v1) (h2 : evl l x2 = some v2) (h3 : evl l x3 = some v3) : #[x0, x1, x2, x3].map a.eval = #[v0, v1, v2, v3] := by simp [f.ev h0, f.ev h1, f.ev h2, f.ev h3]
theorem args5 (f : Fr n a l) {x0 x1 x2 x3 x4 : Operand} {v0 v1 v2 v3 v4 : Value} (h0 : evl l x0 = some v0) (h1 : evl l x1 = some v1) (h2 : evl l x2 = some v2) (h3 : evl l x3 = some v3) (h4 : evl l x4 = some v4) : #[x0, x1, x2, x3, x4].map a.eval = #[v0, v1, v2, v3, v4] := by simp [f.ev h0, f.ev h1, f.ev h2, f.ev h3, f.ev h4]
theorem parts0 (f : Fr n a l) : ((#[] : Array (Nat × Operand)).map fun p => (p.1, a.eval p.2)).toList = [] := by simp
theorem parts1 (f : Fr n a l) {i0 : Nat} {x0 : Operand} {v0 : Value} (h0 : evl l x0 = some v0) : (#[(i0, x0)].map fun (p : Nat × Operand) => (p.1, a.eval p.2)).toList = [(i0, v0)] := by simp [f.ev h0]
theorem parts2 (f : Fr n a l) {i0 i1 : Nat} {x0 x1 : Operand} {v0 v1 : Value} (h0 : evl l x0 = some v0) (h1 : evl l x1 = some v1) : (#[(i0, x0), (i1, x1)].map fun (p : Nat × Operand) => (p.1, a.eval p.2)).toList = [(i0, v0), (i1, v1)] := by simp [f.ev h0, f.ev h1]
theorem parts3 (f : Fr n a l) {i0 i1 i2 : Nat} {x0 x1 x2 : Operand} {v0 v1 v2 : Value} (h0 : evl l x0 = some v0) (h1 : evl l x1 = some v1) (h2 : evl l x2 = some v2) : (#[(i0, x0), (i1, x1), (i2, x2)].map fun (p : Nat × Operand) => (p.1, a.eval p.2)).toList = [(i0, v0), (i1, v1), (i2, v2)] := by simp [f.ev h0, f.ev h1, f.ev h2]
theorem parts4 (f : Fr n a l) {i0 i1 i2 i3 : Nat} {x0 x1 x2 x3 : Operand} {v0 v1 v2 v3 : Value} (h0 : evl l x0 = some v0) (h1 : evl l x1 = some v1) (h2 : evl l x2 = some v2) (h3 : evl l x3 = some v3) : (#[(i0, x0), (i1, x1), (i2, x2), (i3, x3)].map fun (p : Nat × Operand) => (p.1, a.eval p.2)).toList = [(i0, v0), (i1, v1), (i2, v2), (i3, v3)] := by simp [f.ev h0, f.ev h1, f.ev h2, f.ev h3]
theorem parts5 (f : Fr n a l) {i0 i1 i2 i3 i4 : Nat} {x0 x1 x2 x3 x4 : Operand} {v0 v1 v2 v3 v4 : Value} (h0 : evl l x0 = some v0) (h1 : evl l x1 = some v1) (h2 : evl l x2 = some v2) (h3 : evl l x3 = some v3) (h4 : evl l x4 = some v4) : (#[(i0, x0), (i1, x1), (i2, x2), (i3, x3), (i4, x4)].map fun (p : Nat × Operand) => (p.1, a.eval p.2)).toList = [(i0, v0), (i1, v1), (i2, v2), (i3, v3), (i4, v4)] := by simp [f.ev h0, f.ev h1, f.ev h2, f.ev h3, f.ev h4]
theorem parts7 (f : Fr n a l) {i0 i1 i2 i3 i4 i5 i6 : Nat} {x0 x1 x2 x3 x4 x5 x6 : Operand} {v0 v1 v2 v3 v4 v5 v6 : Value} (h0 : evl l x0 = some v0) (h1 : evl l x1 = some v1) (h2 : evl l x2 = some v2) (h3 : evl l x3 = some v3) (h4 : evl l x4 = some v4) (h5 : evl l x5 = some v5) (h6 : evl l x6 = some v6) : (#[(i0, x0), (i1, x1), (i2, x2), (i3, x3), (i4, x4), (i5, x5), (i6, x6)].map fun (p : Nat × Operand) => (p.1, a.eval p.2)).toList = [(i0, v0), (i1, v1), (i2, v2), (i3, v3), (i4, v4), (i5, v5), (i6, v6)] := by simp [f.ev h0, f.ev h1, f.ev h2, f.ev h3, f.ev h4, f.ev h5, f.ev h6]
theorem parts10 (f : Fr n a l) {i0 i1 i2 i3 i4 i5 i6 i7 i8 i9 : Nat} {x0 x1 x2 x3 x4 x5 x6 x7 x8 x9 : Operand} {v0 v1 v2 v3 v4 v5 v6 v7 v8 v9 : Value} (h0 : evl l x0 = some v0) (h1 : evl l x1 = some v1) (h2 : evl l x2 = some v2) (h3 : evl l x3 = some v3) (h4 : evl l x4 = some v4) (h5 : evl l x5 = some v5) (h6 : evl l x6 = some v6) (h7 : evl l x7 = some v7) (h8 : evl l x8 = some v8) (h9 : evl l x9 = some v9) : (#[(i0, x0), (i1, x1), (i2, x2), (i3, x3), (i4, x4), (i5, x5), (i6, x6), (i7, x7), (i8, x8), (i9, x9)].map fun (p : Nat × Operand) => (p.1, a.eval p.2)).toList = [(i0, v0), (i1, v1), (i2, v2), (i3, v3), (i4, v4), (i5, v5), (i6, v6), (i7, v7), (i8, v8), (i9, v9)] := by simp [f.ev h0, f.ev h1, f.ev h2, f.ev h3, f.ev h4, f.ev h5, f.ev h6, f.ev h7, f.ev h8, f.ev h9]
end
end Go.Hub
namespace Go.Hub
open Go.RowKit
theorem wantedN {ops : Array Oper} {a : Act} {dst : Option Nat} {op : Op} {ty : TypeId} {ps : String} {af : Array Edge} : Region.wanted ⟨dst, op, ty, ps, af, none⟩ (yielded ops a.tmps) = true := rfl
theorem Fr.yes {n : Nat} {a : Act} {l : FL} {ops : Array Oper} (f : Fr n a l) {j dj : Nat} {b : Bool} {dst : Option Nat} {op : Op} {ty : TypeId} {ps : String} {af : Array Edge} (hj : (ops[j]?).bind (·.dst) = some dj) (hb : look l dj = some (.bool b)) :
    Region.wanted ⟨dst, op, ty, ps, af, some (j, b)⟩ (yielded ops a.tmps) = true := by simp [Region.wanted, f.yield hj hb]
theorem Fr.noT {n : Nat} {a : Act} {l : FL} {ops : Array Oper} (f : Fr n a l) {j dj : Nat} {dst : Option Nat} {op : Op} {ty : TypeId} {ps : String} {af : Array Edge} (hj : (ops[j]?).bind (·.dst) = some dj) (hb : look l dj = some (.bool false)) :
    Region.wanted ⟨dst, op, ty, ps, af, some (j, true)⟩ (yielded ops a.tmps) = false := by simp [Region.wanted, f.yield hj hb]
theorem Fr.noU {n : Nat} {a : Act} {l : FL} {ops : Array Oper} (f : Fr n a l) {j dj : Nat} {b : Bool} {dst : Option Nat} {op : Op} {ty : TypeId} {ps : String} {af : Array Edge} (hj : (ops[j]?).bind (·.dst) = some dj) (hb : look l dj = some undef) :
    Region.wanted ⟨dst, op, ty, ps, af, some (j, b)⟩ (yielded ops a.tmps) = false := by
  have hy : yielded ops a.tmps j = none := by
    unfold yielded
    rw [hj]
    simp [f.slot dj _ hb, undef]
  simp [Region.wanted, hy]
theorem Fr.noF {n : Nat} {a : Act} {l : FL} {ops : Array Oper} (f : Fr n a l) {j dj : Nat} {dst : Option Nat} {op : Op} {ty : TypeId} {ps : String} {af : Array Edge} (hj : (ops[j]?).bind (·.dst) = some dj) (hb : look l dj = some (.bool true)) :
    Region.wanted ⟨dst, op, ty, ps, af, some (j, false)⟩ (yielded ops a.tmps) = false := by simp [Region.wanted, f.yield hj hb]
section
variable {w w' : World} {g : Nat} {t : TypeId} {cs : Array Value} {L : List Nat}
theorem Blk.cl (h : Blk w g t cs) {i : Nat} {v : Value} (hv : cs.toList[i]? = some v) : w.cell? ⟨g, i, none⟩ = some v := h.cell_ (by simpa using hv)
theorem Blk.range (h : Blk w g t cs) : w.rangeAt g 0 cs.toList := fun j v hv => by
  rw [Nat.zero_add]
  exact h.cell_ (by simpa using hv)
theorem Blk.there (h : Blk w g t cs) {o n : Nat} (hn : o + n ≤ cs.size) : w.there g o n := fun j hj => by
  refine ⟨?_, h.frozen _⟩
  rw [h.cell]
  simp
  omega
structure Newb (w w' : World) (g : Nat) (t : TypeId) (cs : Array Value) : Prop where
  blk : Blk w' g t cs
  kept : Kept [] w w'
  lo : w.heap.size ≤ g
theorem newb (w : World) (t : TypeId) (cs : Array Value) : Newb w (w.alloc (.cells cs t)) w.heap.size t cs := ⟨Blk.new w t cs, (Kept.refl [] w).alloc _, Nat.le_refl _⟩
theorem setCells_blk (h : Blk w g t cs) (cs' : Array Value) (hs : cs'.size = cs.size) : Blk (w.setCells g 0 cs'.toList) g t cs' := by
  obtain ⟨cur, h1, h2, h3, h4⟩ := setCells_block g cs'.toList 0 w cs t (0, 0) h
  have : cur = cs' := by
    apply Array.ext (by omega)
    intro i hi hi'
    have := h4 i cs'[i] (by simp [hi']) (by omega)
    rw [Nat.zero_add] at this
    rw [Array.getElem?_eq_getElem hi] at this
    simpa using this
  rw [this] at h1
  exact h1
theorem setCells_kept (w : World) (g o : Nat) (vs : List Value) : Kept [g] w (w.setCells g o vs) := by
  obtain ⟨b1, b2, b3, b4⟩ := setCells_facts g vs o w
  exact ⟨b1, b2, b3, by omega, fun k hk hn => setCells_other g _ _ w k (by simpa using hn)⟩
theorem setCell_kept (w : World) (g o : Nat) (v : Value) : Kept [g] w (w.setCell ⟨g, o, none⟩ v) := (Kept.refl [g] w).setCell (p := ⟨g, o, none⟩) (by simp) v
end
section
variable {P : Program} {ops : Array Oper} {rest : List Oper} {a : Act} {w : World} {Q : Exit → Act → World → Prop} {n d : Nat} {l : FL} {v : Value} {dst : Option Nat} {ty : TypeId} {ps : String} {af : Array Edge} {gd : Option (Nat × Bool)} {x y : Operand} {t : TypeId}
theorem L.alloc (f : Fr n a l) (hw : Region.wanted ⟨some d, .alloc t, ty, ps, af, gd⟩ (yielded ops a.tmps) = true) (hn : d < n) {z : Value} (hz : ∀ w, (zeroValue t).run P w = .ok z w) {cs : Array Value} (hcs : z.cells = cs)
    (hK : ∀ a' w' g, Newb w w' g t cs → Fr n a' ((d, .pointer (some ⟨g, 0, none⟩)) :: l) → wpList P ops Q rest a' w') : wpList P ops Q (⟨some d, .alloc t, ty, ps, af, gd⟩ :: rest) a w :=
  L.val f hw rfl hn (E.alloc f hz) fun a' f' => hK a' _ _ (hcs ▸ newb w t _) f'
theorem L.box (f : Fr n a l) (hw : Region.wanted ⟨some d, .box t x, ty, ps, af, gd⟩ (yielded ops a.tmps) = true) (hn : d < n) (hx : evl l x = some v) {cs : Array Value} (hcs : v.cells = cs)
    (hK : ∀ a' w' g, Newb w w' g t cs → Fr n a' ((d, .pointer (some ⟨g, 0, none⟩)) :: l) → wpList P ops Q rest a' w') : wpList P ops Q (⟨some d, .box t x, ty, ps, af, gd⟩ :: rest) a w :=
  L.val f hw rfl hn (E.box f hx) fun a' f' => hK a' _ _ (hcs ▸ newb w t _) f'
theorem L.store (f : Fr n a l) (hw : Region.wanted ⟨none, .store t x y, ty, ps, af, gd⟩ (yielded ops a.tmps) = true) (hi : (P.info? t).map (·.size) = some 1) {g o : Nat} {e : TypeId} {cs : Array Value} (hx : evl l x = some (.pointer (some ⟨g, o, none⟩))) (hy : evl l y = some v) (h1 : v.oneCell' = true)
    (B : Blk w g e cs) (ho : o < cs.size) (hK : ∀ a' w', Fr n a' l → Blk w' g e (cs.setIfInBounds o v) → Kept [g] w w' → wpList P ops Q rest a' w') : wpList P ops Q (⟨none, .store t x y, ty, ps, af, gd⟩ :: rest) a w :=
  L.act f hw rfl (E.store f hi hx hy h1 (B.cell_ (Array.getElem?_eq_getElem ho)) (B.frozen o)) fun a' f' => hK a' _ f' (B.set_ o v) (setCell_kept w g o v)
theorem L.storeR (f : Fr n a l) (hw : Region.wanted ⟨none, .store t x y, ty, ps, af, gd⟩ (yielded ops a.tmps) = true) {g : Nat} {e : TypeId} {cs cs' : Array Value} {s : Nat} (hi : (P.info? t).map (·.size) = some s) (hx : evl l x = some (.pointer (some ⟨g, 0, none⟩))) (hy : evl l y = some (.agg cs')) (h1 : cs'.toList.all (·.oneCell') = true)
    (B : Blk w g e cs) (hs : cs'.size = cs.size) (hl : cs'.size = s) (hK : ∀ a' w', Fr n a' l → Blk w' g e cs' → Kept [g] w w' → wpList P ops Q rest a' w') : wpList P ops Q (⟨none, .store t x y, ty, ps, af, gd⟩ :: rest) a w :=
  L.act f hw rfl (E.storeR f (hl ▸ hi) hx hy (by simpa using h1) (B.there (by omega))) fun a' f' => hK a' _ f' (setCells_blk B cs' hs) (setCells_kept w g 0 _)
theorem E.loadB (f : Fr n a l) {g : Nat} {e : TypeId} {cs : Array Value} {d : TypeDesc} {s : Nat} (ht : P.underlying t = some d) (hd : d.isRow = true) (hi : (P.info? t).map (·.size) = some s) (hx : evl l x = some (.pointer (some ⟨g, 0, none⟩))) (B : Blk w g e cs) (hl : cs.size = s) :
    (execOp a.eval ⟨dst, .load t x, ty, ps, af, gd⟩).run P w = .ok (.value (.agg cs)) w := by
  have := E.loadR (P := P) (w := w) (dst := dst) (ty := ty) (ps := ps) (af := af) (g := gd) (t := t) f ht hd (cs := cs.toList) hi hx B.range (by simpa using hl)
  simpa using this
end
section
variable {P : Program} {ops : Array Oper} {Q : Exit → Act → World → Prop} {md : Region.Mode} {S : World → Prop} {a : Act} {w : World} {n d : Nat} {l : FL} {v : Value} {fuel : Nat} {listed : Array Bool} {ty : TypeId} {ps : String} {af : Array Edge} {gd : Option (Nat × Bool)} {x y : Operand} {t : TypeId}
theorem R.store (i : Nat) (f : Fr n a l) (hi : ops[i]? = some ⟨none, .store t x y, ty, ps, af, gd⟩) (hr : Region.ready md ops listed = [i]) (hw : Region.wanted ⟨none, .store t x y, ty, ps, af, gd⟩ (yielded ops a.tmps) = true) (hs : (P.info? t).map (·.size) = some 1) {g o : Nat} {e : TypeId} {cs : Array Value} (hx : evl l x = some (.pointer (some ⟨g, o, none⟩))) (hy : evl l y = some v) (h1 : v.oneCell' = true)
    (B : Blk w g e cs) (ho : o < cs.size) (hS : ∀ w', Kept [g] w w' → S w') (hK : ∀ a' w', Fr n a' l → Blk w' g e (cs.setIfInBounds o v) → Kept [g] w w' → S w' → wpAnyH P md ops Q S fuel (listed.setIfInBounds i true) a' w') : wpAnyH P md ops Q S (fuel + 1) listed a w :=
  R.act i f hi rfl hr hw (E.store f hs hx hy h1 (B.cell_ (Array.getElem?_eq_getElem ho)) (B.frozen o)) (hS _ (setCell_kept w g o v)) fun a' f' => hK a' _ f' (B.set_ o v) (setCell_kept w g o v) (hS _ (setCell_kept w g o v))
end
end Go.Hub
namespace Go.Hub
open Go.RowKit
def Sl (w : World) (A : Option Addr) (n size : Nat) (xs : List Value) : Prop :=
  xs.length = n * size ∧ (0 < n → ∃ b off, A = some ⟨b, off, none⟩ ∧ b < w.heap.size ∧ ∀ j u, xs[j]? = some u → w.cell? ⟨b, off + j, none⟩ = some u)
def Far (A : Option Addr) (L : List Nat) : Prop := ∀ a, A = some a → a.block ∉ L
section
variable {w w' : World} {A : Option Addr} {n size : Nat} {xs : List Value} {L : List Nat}
theorem Sl.nil (w : World) (A : Option Addr) (size : Nat) : Sl w A 0 size [] := ⟨by simp, fun h => absurd h (by omega)⟩
theorem Sl.keptF (h : Sl w A n size xs) (hk : Kept L w w') (hf : Far A L) : Sl w' A n size xs :=
  ⟨h.1, fun hn => by
    obtain ⟨b, off, e, hb, hc⟩ := h.2 hn
    refine ⟨b, off, e, Nat.lt_of_lt_of_le hb hk.size, fun j u hu => ?_⟩
    rw [hk.cell (p := ⟨b, off + j, none⟩) hb (hf ⟨b, off, none⟩ e)]
    exact hc j u hu⟩
theorem Far.nil (A : Option Addr) : Far A [] := fun _ _ => by simp
theorem Sl.kept (h : Sl w A n size xs) (hk : Kept [] w w') : Sl w' A n size xs := h.keptF hk (Far.nil A)
theorem Sl.of_own {e : TypeId} {c : Nat} (h : Own w e size (.slice A n c) n xs) : Sl w A n size xs := by
  refine ⟨h.1, fun hn => ?_⟩
  rcases h.2 with ⟨_, h0⟩ | ⟨g, off, cap, cur, hv, hg, _, _, _, hc⟩
  · omega
  · injection hv with hA
    refine ⟨g, off, hA, (Array.getElem?_eq_some_iff.1 hg).1, fun j x hx => ?_⟩
    rw [cell_of_row w g _ cur e (0, 0) hg]
    exact hc j _ hx
theorem Sl.rds (h : Sl w A n size xs) : Rds w w.heap.size size A n xs := ⟨h.1, h.2⟩
theorem Sl.of_rds (h : Rds w w.heap.size size A n xs) : Sl w A n size xs := ⟨h.1, h.2⟩
theorem Sl.addr (h : Sl w A n size xs) (hn : 0 < n) : ∃ b off, A = some ⟨b, off, none⟩ := by
  obtain ⟨b, off, e, _⟩ := h.2 hn
  exact ⟨b, off, e⟩
theorem Sl.cell (h : Sl w A n size xs) {b off j : Nat} {u : Value} (hn : 0 < n) (hA : A = some ⟨b, off, none⟩) (hu : xs[j]? = some u) : w.cell? ⟨b, off + j, none⟩ = some u := by
  obtain ⟨b', off', e, _, hc⟩ := h.2 hn
  rw [hA] at e
  injection e with e
  injection e with e1 e2
  subst e1 e2
  exact hc j u hu
theorem Sl.row (h : Sl w A n size xs) {b off i : Nat} {cs : List Value} (hn : 0 < n) (hA : A = some ⟨b, off, none⟩) (hu : ∀ j u, cs[j]? = some u → xs[i * size + j]? = some u) : w.rangeAt b (off + i * size) cs := fun j u hj => by
  rw [Nat.add_assoc]
  exact h.cell hn hA (hu j u hj)
end
section
variable {P : Program} {a : Act} {w : World} {n : Nat} {l : FL} {dst : Option Nat} {ty : TypeId} {ps : String} {af : Array Edge} {g : Option (Nat × Bool)} {x y : Operand} {t : TypeId}
theorem E.indexA (f : Fr n a l) {e : TypeId} {A : Option Addr} {b o m c s : Nat} {k : IntKind} {i : Int} (hA : A = some ⟨b, o, none⟩) (ht : P.underlying t = some (.slice e)) (hs : (P.info? e).map (·.size) = some s) (hx : evl l x = some (.slice A m c)) (hy : evl l y = some (.int k i))
    (h0 : 0 ≤ i) (h1 : i < m) : (execOp a.eval ⟨dst, .indexAddr t x y, ty, ps, af, g⟩).run P w = .ok (.value (.pointer (some ⟨b, o + i.toNat * s, none⟩))) w := by
  subst hA
  exact E.indexAddr f ht hs hx hy h0 h1
end
section
variable {M : Type} (cell : M → List Value) (size : Nat) (hs : ∀ m, (cell m).length = size)
include hs
theorem flat_at (l : List M) (i : Nat) (m : M) (h : l[i]? = some m) (j : Nat) (u : Value) (hu : (cell m)[j]? = some u) : (l.flatMap cell)[i * size + j]? = some u := by
  induction l generalizing i with
  | nil => simp at h
  | cons a r ih =>
    have hj : j < size := by
      have := (List.getElem?_eq_some_iff.1 hu).1
      rwa [hs] at this
    match i with
    | 0 =>
      simp at h
      subst h
      simp only [List.flatMap_cons, Nat.zero_mul, Nat.zero_add]
      rw [List.getElem?_append_left (by rw [hs]; exact hj)]
      exact hu
    | i + 1 =>
      have := ih i (by simpa using h)
      simp only [List.flatMap_cons]
      rw [List.getElem?_append_right (by rw [hs, Nat.add_mul]; omega), hs, Nat.add_mul, Nat.one_mul]
      rw [show i * size + size + j - size = i * size + j from by omega]
      exact this
end
end Go.Hub
namespace Go.Hub
open Go.RowKit
section
variable {P : Program} {ops : Array Oper} {Q : Exit → Act → World → Prop} {md : Region.Mode} {S : World → Prop} {a : Act} {w w' : World} {n d : Nat} {l : FL} {v : Value} {o : Oper} {K : Act → World → Prop}
theorem O.val {i : Nat} (f : Fr n a l) (hi : ops[i]? = some o) (hd : o.dst = some d) (hn : d < n) (hw : Region.wanted o (yielded ops a.tmps) = true)
    (hv : (execOp a.eval o).run P w = .ok (.value v) w') (hS : S w') (hK : ∀ a', Fr n a' ((d, v) :: l) → K a' w') : wpOp P ops Q i (fun a w => S w ∧ K a w) a w := by
  unfold wpOp
  simp only [hi, hw, if_true]
  refine .inl ?_
  unfold Oper.wp
  rw [hv]
  show S w' ∧ K (a.put o.dst v) w'
  rw [hd]
  exact ⟨hS, hK _ (f.put d v hn)⟩
theorem R.one (i : Nat) {fuel : Nat} {listed : Array Bool} (hr : Region.ready md ops listed = [i]) (h : wpOp P ops Q i (fun a w => S w ∧ wpAnyH P md ops Q S fuel (listed.setIfInBounds i true) a w) a w) : wpAnyH P md ops Q S (fuel + 1) listed a w :=
  wpAnyH_all hr (by simp) fun j hj => by
    simp only [List.mem_singleton] at hj
    subst hj
    exact h
theorem R.two (i j : Nat) {fuel : Nat} {listed : Array Bool} (hr : Region.ready md ops listed = [i, j]) (h : wpOp P ops Q i (fun a w => S w ∧ wpAnyH P md ops Q S fuel (listed.setIfInBounds i true) a w) a w)
    (h' : wpOp P ops Q j (fun a w => S w ∧ wpAnyH P md ops Q S fuel (listed.setIfInBounds j true) a w) a w) : wpAnyH P md ops Q S (fuel + 1) listed a w :=
  wpAnyH_all hr (by simp) fun k hk => by
    simp only [List.mem_cons, List.not_mem_nil, or_false] at hk
    rcases hk with rfl | rfl
    · exact h
    · exact h'
end
section
variable {P : Program} {ops : Array Oper} {rest : List Oper} {a : Act} {w : World} {Q : Exit → Act → World → Prop} {n d : Nat} {l : FL} {v : Value} {ty : TypeId} {ps : String} {af : Array Edge} {gd : Option (Nat × Bool)} {x y : Operand} {t : TypeId}
theorem E.eqlP {dst : Option Nat} (f : Fr n a l) {e : TypeId} {ad : Addr} {u : TypeId} (ht : P.underlying t = some (.pointer e)) (hx : evl l x = some (.pointer (some ad))) (hy : evl l y = some (.pointer none)) : (execOp a.eval ⟨dst, .binOp .eql t x y u, ty, ps, af, gd⟩).run P w = .ok (.value (.bool false)) w :=
  E.eqlV f hx hy fun w => by
    have : ∀ d, (Op.equalIn (d + 1) t (.pointer (some ad)) (.pointer none)).run P w = .ok false w := fun d => by simp [Op.equalIn, run_underlying ht]
    rw [Sem.run_bind]
    simp only [eqGuard, binOp]
    simp [Op.equal, Op.maxDepth, this 9999]
theorem E.eqlNil {dst : Option Nat} (f : Fr n a l) {e : TypeId} {A : Option Addr} {m c : Nat} {u : TypeId} (ht : P.underlying t = some (.slice e)) (hx : evl l x = some (.slice A m c)) (hy : evl l y = some (.slice none 0 0)) : (execOp a.eval ⟨dst, .binOp .eql t x y u, ty, ps, af, gd⟩).run P w = .ok (.value (.bool A.isNone)) w :=
  E.eqlV f hx hy fun w => by
    rw [Sem.run_bind]
    have := Lib.run_eql_slice_nil (P := P) w t e A m c 0 0 ht
    simp only [eqGuard]
    exact this
theorem E.buildSlice {dst : Option Nat} (f : Fr n a l) {parts : Array (Nat × Operand)} {vs : List (Nat × Value)} {e len sz : Nat} {cells : Array Value} {z : Value} (hx : (parts.map fun p => (p.1, a.eval p.2)).toList = vs) (hu : P.underlying t = some (.slice e))
    (hi : (P.info? e).map (fun i => (i.zero, i.size)) = some (some z, sz)) (hs : Nat.ble (len * sz) 16777216 = true) (hp : Nat.beq (len * sz) 0 = false) (hf : Instr.fill (fun i => some (i * sz, sz)) ((Array.range (len * sz)).map fun j => z.cells[j % z.cells.size]!) vs = some cells) :
    (execOp a.eval ⟨dst, .buildSlice t len parts, ty, ps, af, gd⟩).run P w = .ok (.value (.slice (some ⟨w.heap.size, 0, none⟩) len len)) (w.alloc (.cells cells e)) := by
  cases hq : P.info? e with
  | none => simp [hq] at hi
  | some ie =>
    simp [hq] at hi
    obtain ⟨h1, h2⟩ := hi
    subst h2
    have hx' : (parts.map fun (i, x) => (i, a.eval x)).toList = vs := hx
    have hle := Nat.le_of_ble_eq_true hs
    have hr := run_buildSlice (P := P) w t e len (parts.map fun (i, x) => (i, a.eval x)) cells ie z hu hq h1 (by omega) (fun h0 => by rw [h0] at hp; simp at hp) (by rw [hx']; exact hf)
    simp only [execOp]
    rw [Sem.run_bind, hr]
    rfl
theorem E.buildNone {dst : Option Nat} (f : Fr n a l) {e : TypeId} {sz : Nat} (hu : P.underlying t = some (.slice e)) (hi : (P.info? e).map (·.size) = some sz) :
    (execOp a.eval ⟨dst, .buildSlice t 0 #[], ty, ps, af, gd⟩).run P w = .ok (.value (.slice (some ⟨w.heap.size, 0, none⟩) 0 0)) (w.alloc (.cells #[] e)) := by
  cases hq : P.info? e with
  | none => simp [hq] at hi
  | some ie =>
    have e0 : ∀ z : Array Value, (Array.range 0).map (fun x => z[x % z.size]!) = #[] := fun z => by simp
    have e1 : (Array.range 0).map (fun _ => (default : Value)) = #[] := by simp [Array.range]
    simp [execOp, Instr.buildSlice, run_underlying hu, sizeOf, typeInfo, hq, Instr.fill, newRow]
    rw [e1]
theorem L.buildSlice (f : Fr n a l) {parts : Array (Nat × Operand)} {len : Nat} (hw : Region.wanted ⟨some d, .buildSlice t len parts, ty, ps, af, gd⟩ (yielded ops a.tmps) = true) (hn : d < n) {vs : List (Nat × Value)} {e sz : Nat} {cells : Array Value} {z : Value} (hx : (parts.map fun p => (p.1, a.eval p.2)).toList = vs) (hu : P.underlying t = some (.slice e))
    (hi : (P.info? e).map (fun i => (i.zero, i.size)) = some (some z, sz)) (hs : Nat.ble (len * sz) 16777216 = true) (hp : Nat.beq (len * sz) 0 = false) (hf : Instr.fill (fun i => some (i * sz, sz)) ((Array.range (len * sz)).map fun j => z.cells[j % z.cells.size]!) vs = some cells)
    (hK : ∀ a' w' g, Newb w w' g e cells → Fr n a' ((d, .slice (some ⟨g, 0, none⟩) len len) :: l) → wpList P ops Q rest a' w') : wpList P ops Q (⟨some d, .buildSlice t len parts, ty, ps, af, gd⟩ :: rest) a w :=
  L.val f hw rfl hn (E.buildSlice f hx hu hi hs hp hf) fun a' f' => hK a' _ _ (newb w e _) f'
theorem L.buildNone (f : Fr n a l) (hw : Region.wanted ⟨some d, .buildSlice t 0 #[], ty, ps, af, gd⟩ (yielded ops a.tmps) = true) (hn : d < n) {e : TypeId} {sz : Nat} (hu : P.underlying t = some (.slice e)) (hi : (P.info? e).map (·.size) = some sz)
    (hK : ∀ a' w' g, Newb w w' g e #[] → Fr n a' ((d, .slice (some ⟨g, 0, none⟩) 0 0) :: l) → wpList P ops Q rest a' w') : wpList P ops Q (⟨some d, .buildSlice t 0 #[], ty, ps, af, gd⟩ :: rest) a w :=
  L.val f hw rfl hn (E.buildNone f hu hi) fun a' f' => hK a' _ _ (newb w e _) f'
theorem Newb.own {w w' : World} {g : Nat} {e : TypeId} {cs : Array Value} (h : Newb w w' g e cs) {k size : Nat} (hs : cs.size = k * size) (hk : k ≤ maxLen) : Own w' e size (.slice (some ⟨g, 0, none⟩) k k) k cs.toList :=
  ⟨by simpa using hs, .inr ⟨g, 0, k, cs, rfl, h.blk, Nat.le_refl _, hk, by omega, fun j u hu => by rw [Nat.zero_add]; simpa using hu⟩⟩
structure App (w w' : World) (e : TypeId) (size : Nat) (A : Option Addr) (k c : Nat) (xs news : List Value) (m : Nat) (A' : Option Addr) (c' : Nat) : Prop where
  own : Own w' e size (.slice A' (k + m) c') (k + m) (xs ++ news)
  kept : Kept (Value.slice A k c).ownBlock.toList w w'
  where_ : ∀ b, A'.map (·.block) = some b → A.map (·.block) = some b ∨ w.heap.size ≤ b
theorem E.append {dst : Option Nat} (f : Fr n a l) {e size bytes k c m c2 : Nat} {z : Value} {A A2 : Option Addr} {xs news : List Value} (ht : P.underlying t = some (.slice e)) (hi : (P.info? e).map (fun i => (i.zero, i.size, i.bytes)) = some (some z, size, bytes)) (hzs : z.cells.size = size) (hsz : Nat.blt 0 size = true)
    (hx : evl l x = some (.slice A k c)) (hy : evl l y = some (.slice A2 m c2)) (hown : Own w e size (.slice A k c) k xs) (hr : Sl w A2 m size news) (h1 : ∀ u ∈ news, u.oneCell' = true) (h63 : k + m ≤ maxLen) (hb : (k + m) * bytes ≤ 140737488355328) :
    ∃ A' c' w', (execOp a.eval ⟨dst, .call { callee := .builtin .append, args := #[x, y], argTypes := #[t, t] }, ty, ps, af, gd⟩).run P w = .ok (.value (.slice A' (k + m) c')) w' ∧ App w w' e size A k c xs news m A' c' := by
  obtain ⟨ie, hie, h2, h3, h4⟩ := info_parts hi
  obtain ⟨v', w', hrun, ho, hk, hwh⟩ := append_own (P := P) w t ty e ie z size bytes ht hie h2 h3 h4 hzs (by simpa using hsz) (.slice A k c) k xs hown w.heap.size A2 m c2 news hr.rds h1 h63 hb
  obtain ⟨A', c', rfl, _⟩ := ho.form
  refine ⟨A', c', w', ?_, ho, hk, fun b hb => ?_⟩
  · simp only [execOp, resolve, invoke, builtin, Sem.run_bind, Sem.run_pure, Result.andThen_ok, List.map_toArray, List.map_cons, List.map_nil, f.ev hx, f.ev hy, hrun]
  · have := hwh b (by cases A' <;> simp_all [Value.ownBlock])
    rcases this with h | h
    · exact .inl (by cases A <;> simp_all [Value.ownBlock])
    · exact .inr h
theorem L.append (f : Fr n a l) (hw : Region.wanted ⟨some d, .call { callee := .builtin .append, args := #[x, y], argTypes := #[t, t] }, ty, ps, af, gd⟩ (yielded ops a.tmps) = true) (hn : d < n) {e size bytes k c m c2 : Nat} {z : Value} {A A2 : Option Addr} {xs news : List Value} (ht : P.underlying t = some (.slice e)) (hi : (P.info? e).map (fun i => (i.zero, i.size, i.bytes)) = some (some z, size, bytes)) (hzs : z.cells.size = size) (hsz : Nat.blt 0 size = true)
    (hx : evl l x = some (.slice A k c)) (hy : evl l y = some (.slice A2 m c2)) (hown : Own w e size (.slice A k c) k xs) (hr : Sl w A2 m size news) (h1 : ∀ u ∈ news, u.oneCell' = true) (h63 : k + m ≤ maxLen) (hb : (k + m) * bytes ≤ 140737488355328)
    (hK : ∀ a' w' A' c', App w w' e size A k c xs news m A' c' → Fr n a' ((d, .slice A' (k + m) c') :: l) → wpList P ops Q rest a' w') : wpList P ops Q (⟨some d, .call { callee := .builtin .append, args := #[x, y], argTypes := #[t, t] }, ty, ps, af, gd⟩ :: rest) a w := by
  obtain ⟨A', c', w', hrun, happ⟩ := E.append (dst := some d) (ty := ty) (ps := ps) (af := af) (gd := gd) f ht hi hzs hsz hx hy hown hr h1 h63 hb
  exact L.val f hw rfl hn hrun fun a' f' => hK a' w' A' c' happ f'
end
section
variable {w w' : World} {e size k c m c' : Nat} {A A' : Option Addr} {xs news : List Value}
theorem App.fresh (h : App w w' e size A k c xs news m A' c') (hA : A = none) : Kept [] w w' ∧ ∀ b, A'.map (·.block) = some b → w.heap.size ≤ b := by
  subst hA
  refine ⟨by simpa [Value.ownBlock] using h.kept, fun b hb => ?_⟩
  rcases h.where_ b hb with h | h
  · cases h
  · exact h
end
structure Fresh (w w' : World) (e size : Nat) (A : Option Addr) (n c : Nat) (xs : List Value) : Prop where
  own : Own w' e size (.slice A n c) n xs
  lo : ∀ b, A.map (·.block) = some b → w.heap.size ≤ b
section
variable {w w' w'' : World} {e size k c m c' n : Nat} {A A' : Option Addr} {xs news : List Value}
theorem Fresh.nil (w w' : World) (e size : Nat) : Fresh w w' e size none 0 0 [] := ⟨Own.nil _ _ _, fun b h => by simp at h⟩
theorem own_block (A : Option Addr) (n c : Nat) (b : Nat) : (Value.slice A n c).ownBlock = some b ↔ A.map (·.block) = some b := by cases A <;> simp [Value.ownBlock]
theorem Fresh.kept {L : List Nat} (h : Fresh w w' e size A n c xs) (hk : Kept L w' w'') (hf : ∀ b, A.map (·.block) = some b → b ∉ L) : Fresh w w'' e size A n c xs :=
  ⟨h.own.kept hk fun b hb => hf b ((own_block A n c b).1 hb), h.lo⟩
theorem Fresh.kept0 (h : Fresh w w' e size A n c xs) (hk : Kept [] w' w'') : Fresh w w'' e size A n c xs := h.kept hk (by simp)
theorem Fresh.lower {w0 : World} (h : Fresh w w' e size A n c xs) (hs : w0.heap.size ≤ w.heap.size) : Fresh w0 w' e size A n c xs := ⟨h.own, fun b hb => Nat.le_trans hs (h.lo b hb)⟩
theorem App.next {w0 : World} (h : App w w' e size A k c xs news m A' c') (hf : Fresh w0 w e size A k c xs) (hs : w0.heap.size ≤ w.heap.size) : Fresh w0 w' e size A' (k + m) c' (xs ++ news) :=
  ⟨h.own, fun b hb => by
    rcases h.where_ b hb with h1 | h1
    · exact hf.lo b h1
    · omega⟩
theorem App.grow {w0 : World} {L : List Nat} (h : App w w' e size A k c xs news m A' c') (hf : Fresh w0 w e size A k c xs) (hk : Kept L w0 w) : Kept L w0 w' :=
  hk.trans h.kept fun x hx hlt => by
    have := hf.lo x ((own_block A k c x).1 (by simpa using hx))
    omega
end
section
variable {P : Program} {ops : Array Oper} {Q : Exit → Act → World → Prop} {S : World → Prop} {a : Act} {w : World} {n d : Nat} {l : FL} {K : Act → World → Prop} {ty : TypeId} {ps : String} {af : Array Edge} {gd : Option (Nat × Bool)} {x y : Operand} {t : TypeId}
theorem O.append {i : Nat} (f : Fr n a l) (ho : ops[i]? = some ⟨some d, .call { callee := .builtin .append, args := #[x, y], argTypes := #[t, t] }, ty, ps, af, gd⟩) (hw : Region.wanted ⟨some d, .call { callee := .builtin .append, args := #[x, y], argTypes := #[t, t] }, ty, ps, af, gd⟩ (yielded ops a.tmps) = true) (hn : d < n) {e size bytes k c m c2 : Nat} {z : Value} {A A2 : Option Addr} {xs news : List Value} (ht : P.underlying t = some (.slice e)) (hi : (P.info? e).map (fun i => (i.zero, i.size, i.bytes)) = some (some z, size, bytes)) (hzs : z.cells.size = size) (hsz : Nat.blt 0 size = true)
    (hx : evl l x = some (.slice A k c)) (hy : evl l y = some (.slice A2 m c2)) (hown : Own w e size (.slice A k c) k xs) (hr : Sl w A2 m size news) (h1 : ∀ u ∈ news, u.oneCell' = true) (h63 : k + m ≤ maxLen) (hb : (k + m) * bytes ≤ 140737488355328)
    (hK : ∀ a' w' A' c', App w w' e size A k c xs news m A' c' → S w' ∧ (Fr n a' ((d, .slice A' (k + m) c') :: l) → K a' w')) : wpOp P ops Q i (fun a w => S w ∧ K a w) a w := by
  obtain ⟨A', c', w', hrun, happ⟩ := E.append (dst := some d) (ty := ty) (ps := ps) (af := af) (gd := gd) f ht hi hzs hsz hx hy hown hr h1 h63 hb
  exact O.val f ho rfl hn hw hrun (hK a w' A' c' happ).1 fun a' f' => (hK a' w' A' c' happ).2 f'
theorem O.buildSlice {i : Nat} (f : Fr n a l) {parts : Array (Nat × Operand)} {len : Nat} (ho : ops[i]? = some ⟨some d, .buildSlice t len parts, ty, ps, af, gd⟩) (hw : Region.wanted ⟨some d, .buildSlice t len parts, ty, ps, af, gd⟩ (yielded ops a.tmps) = true) (hn : d < n) {vs : List (Nat × Value)} {e sz : Nat} {cells : Array Value} {z : Value} (hx : (parts.map fun p => (p.1, a.eval p.2)).toList = vs) (hu : P.underlying t = some (.slice e))
    (hi : (P.info? e).map (fun i => (i.zero, i.size)) = some (some z, sz)) (hs : Nat.ble (len * sz) 16777216 = true) (hp : Nat.beq (len * sz) 0 = false) (hf : Instr.fill (fun i => some (i * sz, sz)) ((Array.range (len * sz)).map fun j => z.cells[j % z.cells.size]!) vs = some cells)
    (hS : ∀ w', Kept [] w w' → S w') (hK : ∀ a' w' g, Newb w w' g e cells → S w' → Fr n a' ((d, .slice (some ⟨g, 0, none⟩) len len) :: l) → K a' w') : wpOp P ops Q i (fun a w => S w ∧ K a w) a w :=
  O.val f ho rfl hn hw (E.buildSlice f hx hu hi hs hp hf) (hS _ (newb w e _).kept) fun a' f' => hK a' _ _ (newb w e _) (hS _ (newb w e _).kept) f'
theorem O.alloc {i : Nat} (f : Fr n a l) (ho : ops[i]? = some ⟨some d, .alloc t, ty, ps, af, gd⟩) (hw : Region.wanted ⟨some d, .alloc t, ty, ps, af, gd⟩ (yielded ops a.tmps) = true) (hn : d < n) {z : Value} (hz : ∀ w, (zeroValue t).run P w = .ok z w) {cs : Array Value} (hcs : z.cells = cs)
    (hS : ∀ w', Kept [] w w' → S w') (hK : ∀ a' w' g, Newb w w' g t cs → S w' → Fr n a' ((d, .pointer (some ⟨g, 0, none⟩)) :: l) → K a' w') : wpOp P ops Q i (fun a w => S w ∧ K a w) a w :=
  O.val f ho rfl hn hw (E.alloc f hz) (hS _ (newb w t _).kept) fun a' f' => hK a' _ _ (hcs ▸ newb w t _) (hS _ (newb w t _).kept) f'
end
end Go.Hub
namespace Go.Hub
open Go.RowKit
def setSeg : List Value → Nat → List Value → List Value
  | xs, _, [] => xs
  | xs, o, v :: r => setSeg (xs.set o v) (o + 1) r
theorem setSeg_at : ∀ (vs xs : List Value) (o i : Nat), o + vs.length ≤ xs.length → (setSeg xs o vs)[i]? = if o ≤ i ∧ i < o + vs.length then vs[i - o]? else xs[i]?
  | [], xs, o, i, _ => by
    have : ¬ (o ≤ i ∧ i < o + ([] : List Value).length) := by simp
    rw [if_neg this]
    rfl
  | v :: r, xs, o, i, h => by
    simp only [List.length_cons] at h
    rw [setSeg, setSeg_at r _ (o + 1) i (by rw [List.length_set]; omega)]
    by_cases h1 : o + 1 ≤ i ∧ i < o + 1 + r.length
    · rw [if_pos h1, if_pos (by simp; omega)]
      rw [show i - o = (i - (o + 1)) + 1 by omega]
      rfl
    · rw [if_neg h1, List.getElem?_set]
      by_cases h2 : o = i
      · subst h2
        rw [if_pos rfl, if_pos (by omega), if_pos (by simp)]
        simp
      · rw [if_neg h2, if_neg (by simp; omega)]
section
variable {w : World} {g : Nat} {t : TypeId}
theorem Blk.seg : ∀ (vs xs : List Value) (o : Nat) (w : World), Blk w g t xs.toArray → Blk (w.setCells g o vs) g t (setSeg xs o vs).toArray
  | [], _, _, _, h => h
  | v :: r, xs, o, w, h => by
    have := h.set_ o v
    simp only [List.setIfInBounds_toArray] at this
    exact Blk.seg r (xs.set o v) (o + 1) _ this
end
section
variable {P : Program} {ops : Array Oper} {rest : List Oper} {a : Act} {w : World} {Q : Exit → Act → World → Prop} {n d : Nat} {l : FL} {v : Value} {dst : Option Nat} {ty : TypeId} {ps : String} {af : Array Edge} {gd : Option (Nat × Bool)} {x y : Operand} {t : TypeId} {S : World → Prop} {K : Act → World → Prop}
theorem E.storeSeg (f : Fr n a l) {g o e s : Nat} {xs : List Value} {cs : Array Value} (hi : (P.info? t).map (·.size) = some s) (hx : evl l x = some (.pointer (some ⟨g, o, none⟩))) (hy : evl l y = some (.agg cs)) (h1 : cs.toList.all (·.oneCell') = true) (B : Blk w g e xs.toArray) (ho : o + cs.size ≤ xs.length) (hl : cs.size = s) :
    (execOp a.eval ⟨dst, .store t x y, ty, ps, af, gd⟩).run P w = .ok .skip (w.setCells g o cs.toList) :=
  E.storeR f (hl ▸ hi) hx hy (by simpa using h1) (B.there (by simpa using ho))
theorem L.storeSeg (f : Fr n a l) (hw : Region.wanted ⟨none, .store t x y, ty, ps, af, gd⟩ (yielded ops a.tmps) = true) {g o e s : Nat} {xs : List Value} {cs : Array Value} (hi : (P.info? t).map (·.size) = some s) (hx : evl l x = some (.pointer (some ⟨g, o, none⟩))) (hy : evl l y = some (.agg cs)) (h1 : cs.toList.all (·.oneCell') = true) (B : Blk w g e xs.toArray) (ho : o + cs.size ≤ xs.length) (hl : cs.size = s)
    (hK : ∀ a' w', Fr n a' l → Blk w' g e (setSeg xs o cs.toList).toArray → Kept [g] w w' → wpList P ops Q rest a' w') : wpList P ops Q (⟨none, .store t x y, ty, ps, af, gd⟩ :: rest) a w :=
  L.act f hw rfl (E.storeSeg f hi hx hy h1 B ho hl) fun a' f' => hK a' _ f' (B.seg cs.toList xs o w) (setCells_kept w g o _)
theorem O.act {i : Nat} {o : Oper} {w' : World} (f : Fr n a l) (hi : ops[i]? = some o) (hd : o.dst = none) (hw : Region.wanted o (yielded ops a.tmps) = true)
    (hv : (execOp a.eval o).run P w = .ok .skip w') (hS : S w') (hK : ∀ a', Fr n a' l → K a' w') : wpOp P ops Q i (fun a w => S w ∧ K a w) a w := by
  unfold wpOp
  simp only [hi, hw, if_true]
  refine .inl ?_
  unfold Oper.wp
  rw [hv]
  show S w' ∧ K (a.put o.dst undef) w'
  rw [hd]
  exact ⟨hS, hK _ f⟩
theorem O.store {i : Nat} (f : Fr n a l) (hio : ops[i]? = some ⟨none, .store t x y, ty, ps, af, gd⟩) (hw : Region.wanted ⟨none, .store t x y, ty, ps, af, gd⟩ (yielded ops a.tmps) = true) {g o e : Nat} {xs : List Value} (hi : (P.info? t).map (·.size) = some 1) (hx : evl l x = some (.pointer (some ⟨g, o, none⟩))) (hy : evl l y = some v) (h1 : v.oneCell' = true) (B : Blk w g e xs.toArray) (ho : o < xs.length)
    (hS : ∀ w', Kept [g] w w' → S w') (hK : ∀ a' w', Fr n a' l → Blk w' g e (xs.set o v).toArray → Kept [g] w w' → K a' w') : wpOp P ops Q i (fun a w => S w ∧ K a w) a w :=
  O.act f hio rfl hw (E.store f hi hx hy h1 (B.cell_ (v := xs[o]) (by simp [ho])) (B.frozen o)) (hS _ (setCell_kept w g o v)) fun a' f' => hK a' _ f' (by have := B.set_ o v; simpa only [List.setIfInBounds_toArray] using this) (setCell_kept w g o v)
end
end Go.Hub
namespace Go.Hub
open Go.RowKit Go.Maps Go.ChangeMaps Go.MapKept
section
variable {P : Program} {ops : Array Oper} {rest : List Oper} {a : Act} {w : World} {Q : Exit → Act → World → Prop} {n d : Nat} {l : FL} {v : Value} {dst : Option Nat} {ty : TypeId} {ps : String} {af : Array Edge} {gd : Option (Nat × Bool)} {x y z : Operand} {t k e : TypeId} {Sw : World → Prop} {K : Act → World → Prop} {m : Nat} {S : List Int}
theorem E.makeMap (f : Fr n a l) : (execOp a.eval ⟨dst, .makeMap t none, ty, ps, af, gd⟩).run P w = .ok (.value (.map (some w.heap.size))) (w.alloc (.map #[] 0)) := by
  simp [execOp]
  rfl
end
end Go.Hub
namespace Go.Hub
open Go.RowKit
section
variable {P : Program} {a : Act} {w : World} {n : Nat} {l : FL} {fn : Func} {R : Ending → World → Prop}
theorem C.retC (f : Fr n a l) {p : Tmp} {ty : TypeId} (hr : fn.results = #[.cell p ty]) {g : Nat} {cs : Array Value} {t : TypeId} {d : TypeDesc} (hp : look l p = some (.pointer (some ⟨g, 0, none⟩))) (B : Blk w g t cs)
    (hu : P.underlying ty = some d) (hd : (match d with | .struct _ | .array _ _ => true | _ => false) = true) (hi : (P.info? ty).map (·.size) = some cs.size) (h : R (.returned (.agg cs)) w) : bodyPost P fn R .ret a w :=
  ret_cell hr d (f.get hp) B hu hd hi f.defers h
theorem C.retCT (f : Fr n a l) {p u : Tmp} {ty : TypeId} (hr : fn.results = #[.cell p ty, .tmp u]) {g : Nat} {cs : Array Value} {t : TypeId} {d : TypeDesc} {v : Value} (hp : look l p = some (.pointer (some ⟨g, 0, none⟩))) (hv : look l u = some v) (B : Blk w g t cs)
    (hu : P.underlying ty = some d) (hd : (match d with | .struct _ | .array _ _ => true | _ => false) = true) (hi : (P.info? ty).map (·.size) = some cs.size) (h : R (.returned (.tuple #[.agg cs, v])) w) : bodyPost P fn R .ret a w :=
  ret_cell_tmp hr d (f.get hp) (f.get hv) B hu hd hi f.defers h
end
end Go.Hub
namespace Go.Hub
open Go.RowKit
def MapB (w : World) (k : Nat) : Prop := ∃ es c, w.heap[k]? = some (.map es c)
section
variable {T T' : List TypeId} {M M' : List Nat} {B B' : Nat} {w w' w'' w0 : World} {L : List Nat} {g : Nat} {t : TypeId} {cs : Array Value}
theorem Typ.not_map {k : Nat} (h : Typ w k T) : ¬ MapB w k := by
  obtain ⟨cs, e, f, h, _⟩ := h
  rintro ⟨es, c, h'⟩
  rw [h] at h'
  cases h'
theorem Typ.mono {k : Nat} (h : Typ w k T) (hs : ∀ t ∈ T, t ∈ T') : Typ w k T' := by obtain ⟨cs, e, f, h, he⟩ := h; exact ⟨cs, e, f, h, hs e he⟩
theorem Blk.typ (h : Blk w g t cs) (ht : t ∈ T) : Typ w g T := ⟨cs, t, _, h, ht⟩
theorem Blk.not_map (h : Blk w g t cs) : ¬ MapB w g := (h.typ (T := [t]) (by simp)).not_map
end
end Go.Hub
namespace Go.Hub
open Go.RowKit
def upto (m : Nat) (l : Array Bool) : Bool := (List.range m).all fun i => l.getD i true
def barrier (md : Region.Mode) (ops : Array Oper) (m : Nat) : Bool := (List.range ops.size).all fun j => Nat.blt j m || (List.range m).all fun i => match ops[j]? with | some o => o.after.any fun e => Region.binds md e && Nat.beq e.on i | none => true
def wpAnyB (P : Program) (md : Region.Mode) (ops : Array Oper) (Q : Exit → Act → World → Prop) (S : World → Prop) (m : Nat) : Nat → Array Bool → Act → World → Prop
  | 0, listed, a, w => Region.ready md ops listed = [] ∧ Q .normal a w
  | fuel + 1, listed, a, w => if upto m listed = true then wpAnyH P md ops Q (fun _ => True) (fuel + 1) listed a w else
    (Region.ready md ops listed = [] → Q .normal a w) ∧
    ∀ i ∈ Region.ready md ops listed, wpOp P ops Q i (fun a' w' => S w' ∧ wpAnyB P md ops Q S m fuel (listed.setIfInBounds i true) a' w') a w
section
variable {P : Program} {ops : Array Oper} {Q : Exit → Act → World → Prop} {md : Region.Mode} {S : World → Prop} {m : Nat}
theorem wpAny_of_B : ∀ (fuel : Nat) (listed : Array Bool) (a : Act) (w : World), wpAnyB P md ops Q S m fuel listed a w → wpAny P md ops Q fuel listed a w
  | 0, _, _, _, h => h
  | fuel + 1, listed, a, w, h => by
    unfold wpAnyB at h
    split at h
    · exact wpAny_of_held _ _ _ _ h
    · exact ⟨h.1, fun i hi => wpOp_mono (fun a' w' h' => wpAny_of_B fuel _ a' w' h'.2) (h.2 i hi)⟩
theorem upto_spec {l : Array Bool} (h : upto m l = true) {i : Nat} (hi : i < m) : l.getD i true = true := by
  unfold upto at h
  exact List.all_eq_true.1 h i (List.mem_range.2 hi)
theorem barrier_spec (h : barrier md ops m = true) {i j : Nat} {o : Oper} (hi : i < m) (hj : m ≤ j) (ho : ops[j]? = some o) : ∃ e ∈ o.after, Region.binds md e = true ∧ e.on = i := by
  unfold barrier at h
  have h1 := List.all_eq_true.1 h j (List.mem_range.2 (Array.getElem?_eq_some_iff.1 ho).1)
  have h2 : Nat.blt j m = false := by
    cases hb : Nat.blt j m
    · rfl
    · have := Nat.le_of_ble_eq_true hb
      omega
  rw [h2, Bool.false_or] at h1
  have h3 := List.all_eq_true.1 h1 i (List.mem_range.2 hi)
  rw [ho] at h3
  obtain ⟨e, he, hb⟩ := Array.any_eq_true'.1 h3
  rw [Bool.and_eq_true] at hb
  exact ⟨e, he, hb.1, Nat.eq_of_beq_eq_true hb.2⟩
theorem wpAnyB_first {i : Nat} {oi : Oper} {v : Value} (hi : ops[i]? = some oi) (hsel : ∀ (j : Nat) (o : Oper) cs b, ops[j]? = some o → o.op ≠ .select cs b)
    (hQ : ∀ c a w, Q (.panic c) (a.put oi.dst v) w → Q (.panic c) a w) (him : i < m) (hbar : barrier md ops m = true) :
    ∀ (fuel : Nat) (listed : Array Bool) (a : Act) (w : World),
      (∀ j oj, ops[j]? = some oj → j ≠ i → listed.getD j true = false → (∀ e ∈ oj.after, Region.binds md e = true → e.on ≠ i) → oi.apart ops oj = true) →
      i ∈ Region.ready md ops listed → YieldsIf P ops S oi v a → S w →
      wpAnyB P md ops Q S m fuel (listed.setIfInBounds i true) (a.put oi.dst v) w → wpAnyB P md ops Q S m (fuel + 1) listed a w := by
  intro fuel
  induction fuel with
  | zero =>
    intro listed a w _ hr hy hS H
    have hup : ¬ upto m listed = true := fun hu => by
      have h1 := upto_spec hu him
      rw [(mem_ready.1 hr).1] at h1
      cases h1
    unfold wpAnyB
    rw [if_neg hup]
    refine ⟨fun h => (by rw [h] at hr; cases hr), fun j hj => ?_⟩
    by_cases hji : j = i
    · subst hji; exact hy.wpOp hi hS ⟨hS, H⟩
    · have := ready_mono hj hji
      rw [H.1] at this
      cases this
  | succ fuel ih =>
    intro listed a w hfree hr hy hS H
    have hup : ¬ upto m listed = true := fun hu => by
      have h1 := upto_spec hu him
      rw [(mem_ready.1 hr).1] at h1
      cases h1
    unfold wpAnyB
    rw [if_neg hup]
    refine ⟨fun h => (by rw [h] at hr; cases hr), fun j hj => ?_⟩
    by_cases hji : j = i
    · subst hji; exact hy.wpOp hi hS ⟨hS, H⟩
    · obtain ⟨hjun, oj, hoj, hall⟩ := mem_ready.1 hj
      have hnot : ∀ e ∈ oj.after, Region.binds md e = true → e.on ≠ i := fun e he hb heq => by
        have h1 := hall e he hb
        have h0 := (mem_ready.1 hr).1
        rw [heq] at h1
        rcases Nat.lt_or_ge i listed.size with h' | h'
        · simp [h'] at h0 h1; rw [h0] at h1; cases h1
        · simp [Array.getElem?_eq_none h'] at h1
      have hjm : j < m := by
        rcases Nat.lt_or_ge j m with h | h
        · exact h
        · obtain ⟨e, he, hb, heq⟩ := barrier_spec hbar him h hoj
          exact absurd heq (hnot e he hb)
      have hup' : ¬ upto m (listed.setIfInBounds i true) = true := fun hu => by
        have h1 := upto_spec hu hjm
        rw [getD_set_ne true (Ne.symm hji), hjun] at h1
        cases h1
      unfold wpAnyB at H
      rw [if_neg hup'] at H
      have h1 := H.2 j (ready_mono hj hji)
      have h2 := wpOp_putIf hoj (hfree j oj hoj hji hjun hnot) (fun cs b => hsel i oi cs b hi) (fun cs b => hsel j oj cs b hoj) hQ hy h1
      have hfree' : ∀ k ok, ops[k]? = some ok → k ≠ i → (listed.setIfInBounds j true).getD k true = false →
          (∀ e ∈ ok.after, Region.binds md e = true → e.on ≠ i) → oi.apart ops ok = true := fun k ok hk hki hun hno => by
        refine hfree k ok hk hki ?_ hno
        by_cases hjk : j = k
        · subst hjk; exact hjun
        · rw [getD_set_ne true hjk] at hun; exact hun
      refine wpOp_mono (fun a' w' h3 => ⟨h3.2.1, ih (listed.setIfInBounds j true) a' w' hfree' (ready_mono hr (Ne.symm hji)) h3.1 h3.2.1 ?_⟩) h2
      rw [Array.setIfInBounds_comm _ _ hji]
      exact h3.2.2
theorem wpAnyB_take {i : Nat} {oi : Oper} {v : Value} {fuel : Nat} {listed : Array Bool} {a : Act} {w : World} (hi : ops[i]? = some oi) (hb : (Nat.blt i m && barrier md ops m) = true)
    (hs : Region.noSelect ops = true) (hf : Region.free md ops listed i = true) (hr : (Region.ready md ops listed).contains i = true)
    (hQ : ∀ c a w, Q (.panic c) (a.put oi.dst v) w → Q (.panic c) a w) (hy : YieldsIf P ops S oi v a) (hS : S w)
    (h : wpAnyB P md ops Q S m fuel (listed.setIfInBounds i true) (a.put oi.dst v) w) : wpAnyB P md ops Q S m (fuel + 1) listed a w :=
  wpAnyB_first hi (Region.noSelect_spec hs) hQ (Nat.le_of_ble_eq_true (Bool.and_eq_true _ _ ▸ hb).1) (Bool.and_eq_true _ _ ▸ hb).2 fuel listed a w (Region.free_spec hi hf) (by simpa using hr) hy hS h
theorem wpAnyB_all {rs : List Nat} {fuel : Nat} {listed : Array Bool} {a : Act} {w : World} (hu : upto m listed = false) (hr : Region.ready md ops listed = rs) (hne : rs ≠ [])
    (h : ∀ i ∈ rs, wpOp P ops Q i (fun a' w' => S w' ∧ wpAnyB P md ops Q S m fuel (listed.setIfInBounds i true) a' w') a w) : wpAnyB P md ops Q S m (fuel + 1) listed a w := by
  unfold wpAnyB
  rw [if_neg (by rw [hu]; simp)]
  exact ⟨fun h0 => absurd (hr ▸ h0) hne, hr ▸ h⟩
theorem RB.stop {fuel : Nat} {listed : Array Bool} {a : Act} {w : World} (hu : upto m listed = true) (h : wpAnyH P md ops Q (fun _ => True) (fuel + 1) listed a w) : wpAnyB P md ops Q S m (fuel + 1) listed a w := by
  unfold wpAnyB
  rw [if_pos hu]
  exact h
end
section
variable {P : Program} {ops : Array Oper} {Q : Exit → Act → World → Prop} {md : Region.Mode} {S : World → Prop} {a : Act} {w w' : World} {n d : Nat} {l : FL} {v : Value} {o : Oper} {m : Nat}
theorem RB.begin {id : Nat} (m : Nat) (hm : P.follows .mixedOrders = true) (hS : S (w.drewN 1))
    (h : wpAnyB P .any ops Q S m ops.size (Array.replicate ops.size false) a (w.drewN 1)) : (Code.region id ops true).wp P Q a w := wp_region_any hm (wpAny_of_B _ _ _ _ h)
theorem RB.take (i : Nat) {fuel : Nat} {listed : Array Bool} (f : Fr n a l) (hi : ops[i]? = some o) (hd : o.dst = some d) (hn : d < n) (hb : (Nat.blt i m && barrier md ops m) = true) (hs : Region.noSelect ops = true) (hf : Region.free md ops listed i = true)
    (hr : (Region.ready md ops listed).contains i = true) (hQ : ∀ c (a : Act) (u : Value) w, Q (.panic c) (a.put (some d) u) w → Q (.panic c) a w) (hw : Region.wanted o (yielded ops a.tmps) = true) (hS : S w)
    (hv : ∀ w, S w → (execOp a.eval o).run P w = .ok (.value v) w)
    (hK : ∀ a', Fr n a' ((d, v) :: l) → wpAnyB P md ops Q S m fuel (listed.setIfInBounds i true) a' w) : wpAnyB P md ops Q S m (fuel + 1) listed a w := by
  refine wpAnyB_take hi hb hs hf hr (v := v) (fun c a w h => hQ c a v w (by rwa [hd] at h)) (.inl ⟨hw, hv⟩) hS ?_
  rw [hd]
  exact hK _ (f.put d v hn)
theorem RB.call (i : Nat) {fuel : Nat} {listed : Array Bool} (f : Fr n a l) (hi : ops[i]? = some o) (hd : o.dst = some d) (hn : d < n) (hu : upto m listed = false) (hr : Region.ready md ops listed = [i]) (hw : Region.wanted o (yielded ops a.tmps) = true)
    {fn : Nat} {args : Array Value} (h : (execOp a.eval o).run P w = .ok (.enter fn args) w) {R : Ending → World → Prop} (hc : Calls P fn args w R)
    (hR : ∀ e w', R e w' → ∃ v, e = .returned v ∧ S w' ∧ ∀ a', Fr n a' ((d, v) :: l) → wpAnyB P md ops Q S m fuel (listed.setIfInBounds i true) a' w') : wpAnyB P md ops Q S m (fuel + 1) listed a w := by
  refine wpAnyB_all hu hr (by simp) ?_
  intro j hj
  simp only [List.mem_singleton] at hj
  subst hj
  unfold wpOp
  simp only [hi, hw, if_true]
  refine .inl ?_
  unfold Oper.wp
  rw [h]
  refine Calls.mono hc ?_
  intro e w' hr
  obtain ⟨v, rfl, hS, hK⟩ := hR e w' hr
  show S w' ∧ wpAnyB P md ops Q S m fuel (listed.setIfInBounds j true) (a.put o.dst v) w'
  rw [hd]
  exact ⟨hS, hK _ (f.put d v hn)⟩
theorem RB.one (i : Nat) {fuel : Nat} {listed : Array Bool} (hu : upto m listed = false) (hr : Region.ready md ops listed = [i]) (h : wpOp P ops Q i (fun a w => S w ∧ wpAnyB P md ops Q S m fuel (listed.setIfInBounds i true) a w) a w) : wpAnyB P md ops Q S m (fuel + 1) listed a w :=
  wpAnyB_all hu hr (by simp) fun j hj => by
    simp only [List.mem_singleton] at hj
    subst hj
    exact h
theorem RB.two (i j : Nat) {fuel : Nat} {listed : Array Bool} (hu : upto m listed = false) (hr : Region.ready md ops listed = [i, j]) (h : wpOp P ops Q i (fun a w => S w ∧ wpAnyB P md ops Q S m fuel (listed.setIfInBounds i true) a w) a w)
    (h' : wpOp P ops Q j (fun a w => S w ∧ wpAnyB P md ops Q S m fuel (listed.setIfInBounds j true) a w) a w) : wpAnyB P md ops Q S m (fuel + 1) listed a w :=
  wpAnyB_all hu hr (by simp) fun k hk => by
    simp only [List.mem_cons, List.not_mem_nil, or_false] at hk
    rcases hk with rfl | rfl
    · exact h
    · exact h'
end
section
variable {P : Program} {ops : Array Oper} {Q : Exit → Act → World → Prop} {a : Act} {w : World} {n d : Nat} {l : FL} {v : Value} {ty : TypeId} {ps : String} {af : Array Edge} {gd : Option (Nat × Bool)} {x y : Operand} {t : TypeId} {K : Act → World → Prop} {i : Nat}
theorem OT.store (f : Fr n a l) (hio : ops[i]? = some ⟨none, .store t x y, ty, ps, af, gd⟩) (hw : Region.wanted ⟨none, .store t x y, ty, ps, af, gd⟩ (yielded ops a.tmps) = true) (hi : (P.info? t).map (·.size) = some 1) {g o : Nat} {e : TypeId} {cs : Array Value} (hx : evl l x = some (.pointer (some ⟨g, o, none⟩))) (hy : evl l y = some v) (h1 : v.oneCell' = true)
    (B : Blk w g e cs) (ho : o < cs.size) (hK : ∀ a' w', Fr n a' l → Blk w' g e (cs.setIfInBounds o v) → Kept [g] w w' → K a' w') : wpOp P ops Q i (fun a w => True ∧ K a w) a w :=
  O.act (S := fun _ => True) f hio rfl hw (E.store f hi hx hy h1 (B.cell_ (Array.getElem?_eq_getElem ho)) (B.frozen o)) trivial fun a' f' => hK a' _ f' (B.set_ o v) (setCell_kept w g o v)
theorem OT.storeR (f : Fr n a l) (hio : ops[i]? = some ⟨none, .store t x y, ty, ps, af, gd⟩) (hw : Region.wanted ⟨none, .store t x y, ty, ps, af, gd⟩ (yielded ops a.tmps) = true) {g : Nat} {e : TypeId} {cs cs' : Array Value} {s : Nat} (hi : (P.info? t).map (·.size) = some s) (hx : evl l x = some (.pointer (some ⟨g, 0, none⟩))) (hy : evl l y = some (.agg cs')) (h1 : cs'.toList.all (·.oneCell') = true)
    (B : Blk w g e cs) (hs : cs'.size = cs.size) (hl : cs'.size = s) (hK : ∀ a' w', Fr n a' l → Blk w' g e cs' → Kept [g] w w' → K a' w') : wpOp P ops Q i (fun a w => True ∧ K a w) a w :=
  O.act (S := fun _ => True) f hio rfl hw (E.storeR f (hl ▸ hi) hx hy (by simpa using h1) (B.there (by omega))) trivial fun a' f' => hK a' _ f' (setCells_blk B cs' hs) (setCells_kept w g 0 _)
end
theorem own_ne {w : World} {e t : TypeId} {size n c k g : Nat} {A : Option Addr} {xs : List Value} {cs : Array Value} (ho : Own w e size (.slice A n c) k xs) (h : Blk w g t cs) (hte : t ≠ e) : g ∉ (Value.slice A n c).ownBlock.toList := fun hx => by
  obtain ⟨_, cs', h2⟩ := ho.blk g (by simpa using hx)
  unfold Blk at h
  rw [h] at h2
  injection h2 with h2
  injection h2 with _ h3 _
  exact hte h3
end Go.Hub
namespace Go.Hub
open Go.RowKit
section
variable {M : Type} (cell : M → List Value) (size : Nat) (hs : ∀ m, (cell m).length = size)
include hs
theorem flat_take : ∀ (l : List M) (i : Nat), (l.take i).flatMap cell = (l.flatMap cell).take (i * size)
  | [], i => by simp
  | a :: r, 0 => by simp
  | a :: r, i + 1 => by
    have h1 : (cell a).length ≤ (i + 1) * size := by rw [hs, Nat.add_mul]; omega
    have h2 : (i + 1) * size - (cell a).length = i * size := by rw [hs, Nat.add_mul]; omega
    rw [List.take_succ_cons, List.flatMap_cons, List.flatMap_cons, flat_take r i, List.take_append, h2, List.take_of_length_le h1]
theorem flat_drop : ∀ (l : List M) (i : Nat), (l.drop i).flatMap cell = (l.flatMap cell).drop (i * size)
  | [], i => by simp
  | a :: r, 0 => by simp
  | a :: r, i + 1 => by
    have h1 : (cell a).length ≤ (i + 1) * size := by rw [hs, Nat.add_mul]; omega
    have h2 : (i + 1) * size - (cell a).length = i * size := by rw [hs, Nat.add_mul]; omega
    rw [List.drop_succ_cons, List.flatMap_cons, flat_drop r i, List.drop_append, h2, List.drop_of_length_le h1, List.nil_append]
end
end Go.Hub
namespace Go.Hub
open Go.RowKit
section
variable {P : Program} (w : World)
theorem append_fit (t ty e : TypeId) (i : TypeInfo) (size : Nat) (ht : P.underlying t = some (.slice e)) (hi : P.info? e = some i) (hsize : i.size = size) (g off n cap k : Nat) (xs : List Value) (hown : Own w e size (.slice (some ⟨g, off, none⟩) n cap) n xs)
    (B : Nat) (A : Option Addr) (m c : Nat) (news : List Value) (hr : Rds w B size A m news) (h1 : ∀ u ∈ news, u.oneCell' = true) (hk : n + m = k) (hroom : k ≤ cap) :
    ∃ w', (Builtin.append_ #[t, t] ty #[.slice (some ⟨g, off, none⟩) n cap, .slice A m c]).run P w = .ok (.slice (some ⟨g, off, none⟩) k cap) w' ∧ Own w' e size (.slice (some ⟨g, off, none⟩) k cap) k (xs ++ news) ∧ Kept [g] w w' := by
  subst hk
  have hown0 := hown
  rcases hown.2 with ⟨hv, _⟩ | ⟨g', off', cap', cur, hv, hg, hnc, hcm, hcs, hc⟩
  · cases hv
  injection hv with e1 e2 e3
  injection e1 with e1
  injection e1 with e4 e5
  subst e4 e5 e3
  rcases A with _ | ad
  · have hm : m = 0 := by
      rcases Nat.eq_zero_or_pos m with h0 | h0
      · exact h0
      · obtain ⟨b, off, h, _⟩ := hr.2 h0
        cases h
    subst hm
    have hn : news = [] := List.eq_nil_of_length_eq_zero (by simpa using hr.1)
    subst hn
    refine ⟨w, ?_, by simpa using hown0, Kept.refl _ _⟩
    simp [Builtin.append_, run_underlying ht, sizeOf, typeInfo, hi, Builtin.lenOf, Builtin.firstCells, hnc, storeCells]
  · have hnews : ∀ j u, news[j]? = some u → w.cell? (ad.add j) = some u := by
      intro j u hu
      rcases Nat.eq_zero_or_pos m with h0 | h0
      · subst h0
        have hn : news = [] := List.eq_nil_of_length_eq_zero (by simpa using hr.1)
        subst hn
        simp at hu
      · obtain ⟨b, off, h, _, hcc⟩ := hr.2 h0
        injection h with h
        subst h
        rw [add_none]
        exact hcc j u hu
    have hlen : news.length = m * size := hr.1
    have hmul : n * size + m * size ≤ cap * size := by rw [← Nat.add_mul]; exact Nat.mul_le_mul_right _ hroom
    subst hsize
    have hcell : ∀ j, j < news.length → w.cell? ⟨g, off + n * i.size + j, none⟩ = cur[off + n * i.size + j]? := fun j hj => cell_of_row w g _ cur e (0, 0) hg
    have hrun := run_append_room_cells (P := P) w t ty e i ht hi g off n cap ad m c news hlen hnews h1 hroom
      (fun j hj => by rw [hcell j hj, Array.getElem?_eq_getElem (by omega)]; rfl) (fun j hj => by simp [World.frozen?, hg])
    obtain ⟨cur', a1, a2, a3, a4⟩ := setCells_block g news (off + n * i.size) w cur e (0, 0) hg
    obtain ⟨b1, b2, b3, b4⟩ := setCells_facts g news (off + n * i.size) w
    refine ⟨_, hrun, ⟨by rw [List.length_append, hown.1, hlen, Nat.add_mul], .inr ⟨g, off, cap, cur', rfl, a1, hroom, hcm, by omega, fun j u hu => ?_⟩⟩,
      ⟨b1, b2, b3, by omega, fun k hk hn => setCells_other g _ _ w k (by simpa using hn)⟩⟩
    rcases Nat.lt_or_ge j xs.length with hj | hj
    · rw [List.getElem?_append_left hj] at hu
      rw [a3 _ (by have := hown.1; omega)]
      exact hc j u hu
    · rw [List.getElem?_append_right hj] at hu
      have hj2 : j - xs.length < news.length := by
        rcases Nat.lt_or_ge (j - xs.length) news.length with h | h
        · exact h
        · rw [List.getElem?_eq_none h] at hu; cases hu
      have := a4 (j - xs.length) u hu (by have := hown.1; omega)
      rw [show off + n * i.size + (j - xs.length) = off + j from by have := hown.1; omega] at this
      exact this
theorem wp_append_fit {o : Oper} {a : Act} {K : Act → World → Prop} {Q : Exit → Act → World → Prop} (s x : Operand) (t : TypeId)
    (ho : o.op = .call { callee := .builtin .append, args := #[s, x], argTypes := #[t, t] })
    (e : TypeId) (i : TypeInfo) (size : Nat) (ht : P.underlying t = some (.slice e)) (hi : P.info? e = some i) (hsize : i.size = size) (g off n cap k : Nat) (xs : List Value) (hs : a.eval s = .slice (some ⟨g, off, none⟩) n cap)
    (hown : Own w e size (.slice (some ⟨g, off, none⟩) n cap) n xs)
    (B : Nat) (A : Option Addr) (m c : Nat) (news : List Value) (hx : a.eval x = .slice A m c) (hr : Rds w B size A m news) (h1 : ∀ u ∈ news, u.oneCell' = true) (hk : n + m = k) (hroom : k ≤ cap)
    (h : ∀ w', Own w' e size (.slice (some ⟨g, off, none⟩) k cap) k (xs ++ news) → Kept [g] w w' → K (a.put o.dst (.slice (some ⟨g, off, none⟩) k cap)) w') : o.wp P a w K Q := by
  obtain ⟨w', hrun, h2, h3⟩ := append_fit (P := P) w t o.type e i size ht hi hsize g off n cap k xs hown B A m c news hr h1 hk hroom
  unfold Oper.wp execOp
  simp only [ho, resolve, invoke, builtin, Sem.run_bind, Sem.run_pure, Result.andThen_ok, List.map_toArray, List.map_cons, List.map_nil, hs, hx, hrun]
  exact h w' h2 h3
theorem step_append_fit {ops : Array Oper} {o : Oper} {a : Act} {K : Act → World → Prop} {Q : Exit → Act → World → Prop} {E : Prop} (hgd : o.guard = none) (s x : Operand) (t : TypeId)
    (ho : o.op = .call { callee := .builtin .append, args := #[s, x], argTypes := #[t, t] })
    (e : TypeId) (i : TypeInfo) (size : Nat) (ht : P.underlying t = some (.slice e)) (hi : P.info? e = some i) (hsize : i.size = size) (g off n cap k : Nat) (xs : List Value) (hs : a.eval s = .slice (some ⟨g, off, none⟩) n cap)
    (hown : Own w e size (.slice (some ⟨g, off, none⟩) n cap) n xs)
    (B : Nat) (A : Option Addr) (m c : Nat) (news : List Value) (hx : a.eval x = .slice A m c) (hr : Rds w B size A m news) (h1 : ∀ u ∈ news, u.oneCell' = true) (hk : n + m = k) (hroom : k ≤ cap)
    (h : ∀ w', Own w' e size (.slice (some ⟨g, off, none⟩) k cap) k (xs ++ news) → Kept [g] w w' → K (a.put o.dst (.slice (some ⟨g, off, none⟩) k cap)) w') :
    if Region.wanted o (yielded ops a.tmps) = true then Oper.wp P o a w K Q else E := by
  have hw : Region.wanted o (yielded ops a.tmps) = true := by simp [Region.wanted, hgd]
  rw [if_pos hw]
  exact wp_append_fit w s x t ho e i size ht hi hsize g off n cap k xs hs hown B A m c news hx hr h1 hk hroom h
theorem run_clear_one (t e ty : TypeId) (z : Value) (ht : P.underlying t = some (.slice e)) (hv : ∀ w, (zeroValue e).run P w = .ok z w) (h1 : ∀ u ∈ z.cells.toList, u.oneCell' = true) (b o c : Nat)
    (hc : ∀ j, j < z.cells.size → (w.cell? ⟨b, o + j, none⟩).isSome = true) (hf : ∀ j, j < z.cells.size → w.frozen? ⟨b, o + j, none⟩ = false) :
    (Builtin.clear_ #[t] ty #[.slice (some ⟨b, o, none⟩) 1 c]).run P w = .ok (.tuple #[]) (w.setCells b o z.cells.toList) := by
  have hzc : (Builtin.zeroCells z.cells 1).toList = z.cells.toList := by
    simp only [Builtin.zeroCells, Nat.one_mul]
    apply List.ext_getElem
    · simp
    · intro i h1 h2
      simp at h2
      simp [Nat.mod_eq_of_lt h2, h2]
  have hst := run_storeCells_cells (P := P) b o z.cells.toList 0 w (by simpa using hc) (by simpa using hf) h1
  simp only [Nat.add_zero] at hst
  simp [Builtin.clear_, run_underlying ht, hv, hzc, hst]
end
section
variable {w : World} {e : TypeId} {size n c g off : Nat} {xs : List Value}
theorem Own.past (h : Own w e size (.slice (some ⟨g, off, none⟩) n c) n xs) {o : Nat} (ho : off + n * size ≤ o) (vs : List Value) :
    Own (w.setCells g o vs) e size (.slice (some ⟨g, off, none⟩) n c) n xs ∧ Kept [g] w (w.setCells g o vs) := by
  obtain ⟨b1, b2, b3, b4⟩ := setCells_facts g vs o w
  have K : Kept [g] w (w.setCells g o vs) := ⟨b1, b2, b3, by omega, fun k hk hn => setCells_other g _ _ w k (by simpa using hn)⟩
  refine ⟨⟨h.1, ?_⟩, K⟩
  rcases h.2 with ⟨hv, _⟩ | ⟨g', off', cap', cur, hv, hg, hnc, hcm, hcs, hc⟩
  · cases hv
  injection hv with e1 e2 e3
  injection e1 with e1
  injection e1 with e4 e5
  subst e4 e5 e3
  obtain ⟨cur', a1, a2, a3, a4⟩ := setCells_block g vs o w cur e (0, 0) hg
  refine .inr ⟨g, off, c, cur', rfl, a1, hnc, hcm, by omega, fun j u hu => ?_⟩
  have hj : j < xs.length := (List.getElem?_eq_some_iff.1 hu).1
  rw [a3 _ (by have := h.1; omega)]
  exact hc j u hu
theorem Own.room (h : Own w e size (.slice (some ⟨g, off, none⟩) n c) n xs) {j : Nat} (hj : j < c * size) : (w.cell? ⟨g, off + j, none⟩).isSome = true ∧ w.frozen? ⟨g, off + j, none⟩ = false := by
  rcases h.2 with ⟨hv, _⟩ | ⟨g', off', cap', cur, hv, hg, hnc, hcm, hcs, hc⟩
  · cases hv
  injection hv with e1 e2 e3
  injection e1 with e1
  injection e1 with e4 e5
  subst e4 e5 e3
  rw [cell_of_row w g _ cur e (0, 0) hg, Array.getElem?_eq_getElem (by omega)]
  exact ⟨rfl, by simp [World.frozen?, hg]⟩
end
end Go.Hub
namespace Go.Hub
open Go.RowKit Go.Lib
section
variable {P : Program} (w : World)
theorem append_own_str (t u ty e : TypeId) (i : TypeInfo) (ht : P.underlying t = some (.slice e)) (hu : P.underlying u = some .string) (hi : P.info? e = some i) (hz : i.zero = some (.int .u8 0))
    (hsize : i.size = 1) (hby : i.bytes = 1) (v : Value) (n : Nat) (xs : List Value) (hown : Own w e 1 v n xs) (s : ByteArray) (h63 : n + s.size ≤ maxLen) (hbytes : n + s.size ≤ 140737488355328) :
    ∃ v' w', (Builtin.append_ #[t, u] ty #[v, .string s]).run P w = .ok v' w' ∧ Own w' e 1 v' (n + s.size) (xs ++ strCells s) ∧ Kept v.ownBlock.toList w w' ∧
      (∀ k, v'.ownBlock = some k → v.ownBlock = some k ∨ w.heap.size ≤ k) := by
  have hsmall : n + s.size ≤ 9223372036854775807 := by simp only [maxLen] at h63; omega
  have hxl : xs.length = n := by simpa using hown.1
  rcases hown.2 with ⟨rfl, rfl⟩ | ⟨g, off, cap, cur, rfl, hg, hnc, hcm, hcs, hc⟩
  · have hx : xs = [] := List.eq_nil_of_length_eq_zero (by simpa using hown.1)
    subst hx
    obtain ⟨v', w', hrun, ho, hgr, _⟩ := run_append_own_string (P := P) w w.heap.size t u ty e i ht hu hi hz hsize hby (.slice none 0 0) 0 [] (World.ownsRow_nil _ _ _ _) s h63 hbytes (Nat.le_refl _)
    exact ⟨v', w', hrun, Own.of_row ho, grown_kept hgr, fun k hk => .inr (ho.lt k hk).1⟩
  · by_cases hroom : n + s.size ≤ cap
    · have hcell : ∀ j, j < (strCells s).length → w.cell? ⟨g, off + n * 1 + j, none⟩ = cur[off + n * 1 + j]? := fun j hj => cell_of_row w g _ cur e (0, 0) hg
      have hlen := strCells_length s
      have hst := run_storeCells_cells (P := P) g (off + n) (strCells s) 0 w (fun j hj => by have := hcell j hj; rw [Nat.mul_one] at this; rw [Nat.add_zero, this, Array.getElem?_eq_getElem (by omega)]; rfl) (fun j hj => by simp [World.frozen?, hg]) (strCells_oneCell s)
      simp only [Nat.add_zero] at hst
      have hf := run_firstCells_string (P := P) w 1 s
      have hrun : (Builtin.append_ #[t, u] ty #[.slice (some ⟨g, off, none⟩) n cap, .string s]).run P w = .ok (.slice (some ⟨g, off, none⟩) (n + s.size) cap) (w.setCells g (off + n) (strCells s)) := by
        simp [Builtin.append_, run_underlying ht, run_underlying hu, sizeOf, typeInfo, hi, hsize, Builtin.lenOf, hroom, hf, Addr.add_lit, hst]
      obtain ⟨cur', a1, a2, a3, a4⟩ := setCells_block g (strCells s) (off + n) w cur e (0, 0) hg
      obtain ⟨b1, b2, b3, b4⟩ := setCells_facts g (strCells s) (off + n) w
      refine ⟨_, _, hrun, ⟨by rw [List.length_append, hxl, hlen, Nat.mul_one], .inr ⟨g, off, cap, cur', rfl, a1, hroom, hcm, by omega, fun j u hu => ?_⟩⟩,
          ⟨b1, b2, b3, by omega, fun k hk hn => setCells_other g _ _ w k (by simpa [Value.ownBlock] using hn)⟩, fun k hk => .inl hk⟩
      rcases Nat.lt_or_ge j xs.length with hj | hj
      · rw [List.getElem?_append_left hj] at hu
        rw [a3 _ (by omega)]
        exact hc j u hu
      · rw [List.getElem?_append_right hj] at hu
        have hj2 : j - xs.length < (strCells s).length := by
          rcases Nat.lt_or_ge (j - xs.length) (strCells s).length with h | h
          · exact h
          · rw [List.getElem?_eq_none h] at hu; cases hu
        have := a4 (j - xs.length) u hu (by omega)
        rw [show off + n + (j - xs.length) = off + j from by omega] at this
        exact this
    · have holds : ∀ j u, xs[j]? = some u → w.cell? ((⟨g, off, none⟩ : Addr).add j) = some u := fun j u hu => by
        rw [add_none, cell_of_row w g (off + j) cur e (0, 0) hg]
        exact hc j u hu
      have hr := run_append_grow_string (P := P) w t u ty e i (.int .u8 0) ht hu hi hz ⟨g, off, none⟩ n cap xs (by rw [hsize]; simpa using hxl) holds s (by omega) (by omega) (by rw [hby]; exact growslice_fits (by omega) (by omega))
      have hge := grownCap_ge w (n + s.size) cap e
      have hcm2 : grownCap w (n + s.size) cap e ≤ maxLen := grownCap_le_maxLen w (n + s.size) cap e h63
      have hlen : (xs ++ strCells s).length = (n + s.size) * 1 := by rw [List.length_append, hxl, strCells_length, Nat.mul_one]
      refine ⟨_, _, hr, ⟨hlen, .inr ⟨w.heap.size, 0, _, _, rfl, heap_alloc_new w.drew _, hge, hcm2, ?_, fun j u hu => ?_⟩⟩, ((Kept.refl _ w).drewN 1).alloc _, fun k hk => .inr ?_⟩
      · have hz1 : (Value.int IntKind.u8 0).cells.size = 1 := rfl
        simp only [Array.size_append, List.size_toArray, size_zeroCells, hz1, hxl, strCells_length]
        omega
      · rw [Nat.zero_add, ← Array.getElem?_toList, Array.toList_append, Array.toList_append, List.getElem?_append_left]
        · exact hu
        · have := (List.getElem?_eq_some_iff.1 hu).1
          simpa using this
      · simp [Value.ownBlock] at hk
        omega
theorem strCells_u8 (s : ByteArray) : strCells s = s.toList.map u8 := by
  rw [ByteArray.toList_eq]
  rfl
end
section
variable {P : Program} {ops : Array Oper} {rest : List Oper} {a : Act} {w : World} {Q : Exit → Act → World → Prop} {n d : Nat} {l : FL} {ty : TypeId} {ps : String} {af : Array Edge} {gd : Option (Nat × Bool)} {x y : Operand} {t u : TypeId}
theorem E.appendS {dst : Option Nat} (f : Fr n a l) {e k c : Nat} {A : Option Addr} {xs : List Value} {s : ByteArray} (ht : P.underlying t = some (.slice e)) (hu : P.underlying u = some .string) (hi : (P.info? e).map (fun i => (i.zero, i.size, i.bytes)) = some (some (.int .u8 0), 1, 1))
    (hx : evl l x = some (.slice A k c)) (hy : evl l y = some (.string s)) (hown : Own w e 1 (.slice A k c) k xs) (hb : k + s.size ≤ 140737488355328) :
    ∃ A' c' w', (execOp a.eval ⟨dst, .call { callee := .builtin .append, args := #[x, y], argTypes := #[t, u] }, ty, ps, af, gd⟩).run P w = .ok (.value (.slice A' (k + s.size) c')) w' ∧ App w w' e 1 A k c xs (s.toList.map u8) s.size A' c' := by
  obtain ⟨ie, hie, h2, h3, h4⟩ := info_parts hi
  obtain ⟨v', w', hrun, ho, hk, hwh⟩ := append_own_str (P := P) w t u ty e ie ht hu hie h2 h3 h4 (.slice A k c) k xs hown s (by unfold maxLen; omega) hb
  obtain ⟨A', c', rfl, _⟩ := ho.form
  rw [strCells_u8] at ho
  refine ⟨A', c', w', ?_, ho, hk, fun b hb => ?_⟩
  · simp only [execOp, resolve, invoke, builtin, Sem.run_bind, Sem.run_pure, Result.andThen_ok, List.map_toArray, List.map_cons, List.map_nil, f.ev hx, f.ev hy, hrun]
  · have := hwh b (by cases A' <;> simp_all [Value.ownBlock])
    rcases this with h | h
    · exact .inl (by cases A <;> simp_all [Value.ownBlock])
    · exact .inr h
theorem L.appendS (f : Fr n a l) (hw : Region.wanted ⟨some d, .call { callee := .builtin .append, args := #[x, y], argTypes := #[t, u] }, ty, ps, af, gd⟩ (yielded ops a.tmps) = true) (hn : d < n) {e k c : Nat} {A : Option Addr} {xs : List Value} {s : ByteArray} (ht : P.underlying t = some (.slice e)) (hu : P.underlying u = some .string) (hi : (P.info? e).map (fun i => (i.zero, i.size, i.bytes)) = some (some (.int .u8 0), 1, 1))
    (hx : evl l x = some (.slice A k c)) (hy : evl l y = some (.string s)) (hown : Own w e 1 (.slice A k c) k xs) (hb : k + s.size ≤ 140737488355328)
    (hK : ∀ a' w' A' c', App w w' e 1 A k c xs (s.toList.map u8) s.size A' c' → Fr n a' ((d, .slice A' (k + s.size) c') :: l) → wpList P ops Q rest a' w') : wpList P ops Q (⟨some d, .call { callee := .builtin .append, args := #[x, y], argTypes := #[t, u] }, ty, ps, af, gd⟩ :: rest) a w := by
  obtain ⟨A', c', w', hrun, happ⟩ := E.appendS (dst := some d) (ty := ty) (ps := ps) (af := af) (gd := gd) f ht hu hi hx hy hown hb
  exact L.val f hw rfl hn hrun fun a' f' => hK a' w' A' c' happ f'
theorem E.shrN {dst : Option Nat} (f : Fr n a l) {k k' : IntKind} {i j r : Int} (hx : evl l x = some (.int k i)) (hy : evl l y = some (.int k' j)) (h0 : 0 ≤ j) (h1 : j ≤ k.bits) (hr : i / 2 ^ j.toNat = r) : (execOp a.eval ⟨dst, .binOp .shr t x y u, ty, ps, af, gd⟩).run P w = .ok (.value (.int k r)) w := by
  simp [execOp, f.ev hx, f.ev hy, eqGuard, binOp, shift_shr k k' i j h0 h1, hr]
theorem Sl.bs {A : Option Addr} {m : Nat} {b : List UInt8} (h : Sl w A m 1 (b.map u8)) : Bs [] w.heap.size w A m b := by
  refine ⟨by have := h.1; simpa using this, fun h0 => ?_⟩
  obtain ⟨g, off, e, hb, hc⟩ := h.2 h0
  exact ⟨g, off, e, hb, .inl hb, fun i x hx => hc i _ (by simp [hx])⟩
theorem Bs.toSl {E : List TypeId} {B : Nat} {A : Option Addr} {m : Nat} {b : List UInt8} (h : Bs E B w A m b) : Sl w A m 1 (b.map u8) := Sl.of_rds h.rds
theorem E.toStr {dst : Option Nat} (f : Fr n a l) {A : Option Addr} {m c : Nat} {b : List UInt8} {e : TypeId} (hx : evl l x = some (.slice A m c)) (ht : P.underlying t = some (.slice e)) (he : P.underlying e = some (.int .u8)) (hu : P.underlying u = some .string) (h : Sl w A m 1 (b.map u8)) :
    (execOp a.eval ⟨dst, .convert t u x, ty, ps, af, gd⟩).run P w = .ok (.value (.string ⟨b.toArray⟩)) w := E.convV f hx (h.bs.conv ht he hu)
end
end Go.Hub
namespace Go.Hub
open Go.RowKit
section
variable {P : Program} {a : Act} {w : World} {n : Nat} {l : FL} {dst : Option Nat} {ty : TypeId} {ps : String} {af : Array Edge} {g : Option (Nat × Bool)} {x : Operand} {t : TypeId}
theorem E.fieldAddrN (off : Nat) (f : Fr n a l) {fs : Array Field} {i : Nat} {fld : Field} {b o s : Nat} (ht : P.underlying t = some (.struct fs)) (hx : evl l x = some (.pointer (some ⟨b, o, none⟩))) (hi : fs[i]? = some fld) (ho : fld.offset = off)
    (hs : (P.info? fld.type).map (·.size) = some (s + 1)) : (execOp a.eval ⟨dst, .fieldAddr t x i, ty, ps, af, g⟩).run P w = .ok (.value (.pointer (some ⟨b, o + off, none⟩))) w := by
  subst ho
  exact E.fieldAddr f ht hx hi hs
end
def gd (ops : Array Oper) (l : FL) : Option (Nat × Bool) → Option Bool
  | none => some true
  | some (j, b) => match (ops[j]?).bind (·.dst) with
    | none => none
    | some dj => match look l dj with
      | some (.bool c) => some (c == b)
      | some (.tuple _) => some false
      | _ => none
def simpleOp (l : FL) : Op → Option Value
  | .move x => evl l x
  | .assign x => evl l x
  | .pick c x y => match evl l c with
    | some (.bool true) => evl l x
    | some (.bool false) => evl l y
    | _ => none
  | .unOp .not _ x => match evl l x with
    | some (.bool true) => some (.bool false)
    | some (.bool false) => some (.bool true)
    | _ => none
  | _ => none
def stepS (ops : Array Oper) (n : Nat) (l : FL) (o : Oper) : Option FL :=
  match gd ops l o.guard with
  | none => none
  | some false => match o.dst with
    | none => some l
    | some d => bif Nat.blt d n then some ((d, undef) :: l) else none
  | some true => match simpleOp l o.op, o.dst with
    | some v, some d => bif Nat.blt d n then some ((d, v) :: l) else none
    | _, _ => none
def runS (ops : Array Oper) (n : Nat) : FL → List Oper → FL × List Oper
  | l, [] => (l, [])
  | l, o :: r => match stepS ops n l o with
    | some l' => runS ops n l' r
    | none => (l, o :: r)
section
variable {P : Program} {ops : Array Oper} {a : Act} {w : World} {Q : Exit → Act → World → Prop} {n : Nat} {l l' : FL} {o : Oper} {rest : List Oper}
theorem gd_spec (f : Fr n a l) {c : Bool} (h : gd ops l o.guard = some c) : Region.wanted o (yielded ops a.tmps) = c := by
  unfold gd at h
  unfold Region.wanted
  cases hg : o.guard with
  | none => rw [hg] at h; simpa using h
  | some p =>
    obtain ⟨j, b⟩ := p
    rw [hg] at h
    simp only at h ⊢
    cases hj : (ops[j]?).bind (·.dst) with
    | none => rw [hj] at h; cases h
    | some dj =>
      rw [hj] at h
      simp only at h
      split at h
      · rename_i c' hc
        rw [f.yield hj hc]
        simp at h
        rw [← h]
        simp
      · rename_i hc
        have hy : yielded ops a.tmps j = none := by
          unfold yielded
          rw [hj]
          simp [f.slot dj _ hc]
        rw [hy]
        simp at h
        simp [h]
      · cases h
theorem simpleOp_spec (f : Fr n a l) {v : Value} (h : simpleOp l o.op = some v) : (execOp a.eval o).run P w = .ok (.value v) w := by
  obtain ⟨dst, op, ty, ps, af, g⟩ := o
  simp only at h
  unfold simpleOp at h
  split at h
  · exact E.move f h
  · exact E.assign f h
  · rename_i c x y
    split at h
    · rename_i hc
      exact E.pickT f hc h
    · rename_i hc
      exact E.pickF f hc h
    · cases h
  · rename_i t x
    split at h
    · rename_i hc
      simp at h
      subst h
      exact E.not f hc
    · rename_i hc
      simp at h
      subst h
      exact E.not f hc
    · cases h
  · cases h
theorem L.stepRun (f : Fr n a l) (h : Go.Hub.stepS ops n l o = some l') (hK : ∀ a', Fr n a' l' → wpList P ops Q rest a' w) : wpList P ops Q (o :: rest) a w := by
  unfold Go.Hub.stepS at h
  split at h
  · cases h
  · rename_i hg
    have hw := gd_spec f hg
    split at h
    · rename_i hd
      cases h
      exact L.skipN f hw hd fun a' f' => hK a' f'
    · rename_i d hd
      cases hb : Nat.blt d n
      · rw [hb] at h; cases h
      · rw [hb] at h
        cases h
        exact L.skip f hw hd (by simpa [Nat.blt_eq] using hb) fun a' f' => hK a' f'
  · rename_i hg
    have hw := gd_spec f hg
    split at h
    · rename_i v d hv hd
      cases hb : Nat.blt d n
      · rw [hb] at h; cases h
      · rw [hb] at h
        cases h
        exact L.val f hw hd (by simpa [Nat.blt_eq] using hb) (simpleOp_spec f hv) fun a' f' => hK a' f'
    · cases h
theorem L.runAll : ∀ (rest : List Oper) (l : FL) (a : Act), Fr n a l → (∀ a', Fr n a' (runS ops n l rest).1 → wpList P ops Q (runS ops n l rest).2 a' w) → wpList P ops Q rest a w
  | [], l, a, f, hK => hK a f
  | o :: r, l, a, f, hK => by
    unfold runS at hK
    cases hs : Go.Hub.stepS ops n l o with
    | none =>
      rw [hs] at hK
      exact hK a f
    | some l' =>
      rw [hs] at hK
      exact L.stepRun f hs fun a' f' => L.runAll r l' a' f' hK
theorem L.run (f : Fr n a l) {rest' : List Oper} (h : (runS ops n l rest).2 = rest') (hK : ∀ a', Fr n a' (runS ops n l rest).1 → wpList P ops Q rest' a' w) : wpList P ops Q rest a w :=
  L.runAll rest l a f (by rw [h]; exact hK)
def dstIn (i : Nat) : List Oper → Bool
  | [] => false
  | o :: r => (match o.dst with | some d => Nat.beq d i | none => false) || dstIn i r
theorem runS_look (i : Nat) : ∀ (rest : List Oper) (l : FL), dstIn i rest = false → look (runS ops n l rest).1 i = look l i
  | [], l, _ => rfl
  | o :: r, l, h => by
    unfold dstIn at h
    rw [Bool.or_eq_false_iff] at h
    unfold runS
    cases hs : Go.Hub.stepS ops n l o with
    | none => rfl
    | some l' =>
      show look (runS ops n l' r).1 i = look l i
      rw [runS_look i r l' h.2]
      have key : ∀ d v, o.dst = some d → look ((d, v) :: l) i = look l i := fun d v hd => by
        have h1 := h.1
        rw [hd] at h1
        have hne : ¬ d = i := fun e => by
          subst e
          simp at h1
        have hb : (d == i) = false := by simp [hne]
        simp [look, hb]
      unfold Go.Hub.stepS at hs
      split at hs
      · cases hs
      · split at hs
        · cases hs; rfl
        · rename_i d hd
          cases hb : Nat.blt d n
          · rw [hb] at hs; cases hs
          · rw [hb] at hs; cases hs; exact key _ _ hd
      · split at hs
        · rename_i v d hv hd
          cases hb : Nat.blt d n
          · rw [hb] at hs; cases hs
          · rw [hb] at hs; cases hs; exact key _ _ hd
        · cases hs
theorem Fr.kept (f : Fr n a (runS ops n l rest).1) {i : Nat} {v : Value} (hd : dstIn i rest = false) (h : look l i = some v) : look (runS ops n l rest).1 i = some v := (runS_look i rest l hd).trans h
end
end Go.Hub
namespace Go.Hub
open Go.RowKit
section
variable {P : Program} {ops : Array Oper} {Q : Exit → Act → World → Prop} {md : Region.Mode} {S : World → Prop} {a : Act} {w : World} {n : Nat} {l : FL}
def dstInD (ops : Array Oper) (i : Nat) : List Nat → Bool
  | [] => false
  | j :: r => (match (ops[j]?).bind (·.dst) with | some d => Nat.beq d i | none => false) || dstInD ops i r
theorem stepS_look {o : Oper} {l' : FL} {i d : Nat} (hs : stepS ops n l o = some l') (hd : o.dst = some d) (hi : Nat.beq d i = false) : look l' i = look l i := by
  have key : ∀ v, look ((d, v) :: l) i = look l i := fun v => by
    have hne : ¬ d = i := fun e => by subst e; simp at hi
    have hb : (d == i) = false := by simp [hne]
    simp [look, hb]
  unfold stepS at hs
  split at hs
  · cases hs
  · rw [hd] at hs
    simp only at hs
    cases hb : Nat.blt d n
    · rw [hb] at hs; cases hs
    · rw [hb] at hs; cases hs; exact key _
  · rw [hd] at hs
    cases hv : simpleOp l o.op with
    | none => simp [hv] at hs
    | some v =>
      simp only [hv] at hs
      cases hb : Nat.blt d n
      · rw [hb] at hs; cases hs
      · rw [hb] at hs; cases hs; exact key _
end
end Go.Hub
namespace Go.Hub
open Go.RowKit
section
variable {P : Program} {ops : Array Oper} {Q : Exit → Act → World → Prop} {md : Region.Mode} {S : World → Prop} {a : Act} {w w' : World} {n d : Nat} {l : FL} {v : Value} {o : Oper} {K : Act → World → Prop}
theorem O.call {i : Nat} (f : Fr n a l) (hi : ops[i]? = some o) (hd : o.dst = some d) (hn : d < n) (hw : Region.wanted o (yielded ops a.tmps) = true)
    {fn : Nat} {args : Array Value} (h : (execOp a.eval o).run P w = .ok (.enter fn args) w) {R : Ending → World → Prop} (hc : Calls P fn args w R)
    (hR : ∀ e w', R e w' → ∃ v, e = .returned v ∧ S w' ∧ ∀ a', Fr n a' ((d, v) :: l) → K a' w') : wpOp P ops Q i (fun a w => S w ∧ K a w) a w := by
  unfold wpOp
  simp only [hi, hw, if_true]
  refine .inl ?_
  unfold Oper.wp
  rw [h]
  refine Calls.mono hc ?_
  intro e w' hr
  obtain ⟨v, rfl, hS, hK⟩ := hR e w' hr
  show S w' ∧ K (a.put o.dst v) w'
  rw [hd]
  exact ⟨hS, hK _ (f.put d v hn)⟩
end
end Go.Hub
namespace Go.Hub
open Go.RowKit
section
variable {P : Program} {ops : Array Oper} {rest : List Oper} {o : Oper} {a : Act} {w w' w'' : World} {Q : Exit → Act → World → Prop} {n d : Nat} {l : FL} {v : Value}
theorem L.va (f : Fr n a l) (h : (execOp a.eval o).run P w = .ok (.value v) w') (hK : ∀ a', Fr n a' ((d, v) :: l) → wpList P ops Q rest a' w')
    (hw : Region.wanted o (yielded ops a.tmps) = true := by exact wantedN) (hd : o.dst = some d := by rfl) (hn : d < n := by decide) : wpList P ops Q (o :: rest) a w := L.val f hw hd hn h hK
theorem L.sk (f : Fr n a l) (hw : Region.wanted o (yielded ops a.tmps) = false) (hK : ∀ a', Fr n a' ((d, undef) :: l) → wpList P ops Q rest a' w) (hd : o.dst = some d := by rfl) (hn : d < n := by decide) : wpList P ops Q (o :: rest) a w := L.skip f hw hd hn hK
theorem L.cl (f : Fr n a l) {fn : Nat} {args : Array Value} (h : (execOp a.eval o).run P w = .ok (.enter fn args) w) {R : Ending → World → Prop} (hc : Calls P fn args w R)
    (hR : ∀ e w', R e w' → ∃ v, e = .returned v ∧ ∀ a', Fr n a' ((d, v) :: l) → wpList P ops Q rest a' w') (hw : Region.wanted o (yielded ops a.tmps) = true := by exact wantedN) (hd : o.dst = some d := by rfl) (hn : d < n := by decide) : wpList P ops Q (o :: rest) a w := L.call f hw hd hn h hc hR
theorem sn {l : FL} : Go.Hub.sub l [] := trivial
theorem sc (i : Nat) {l : FL} {v : Value} {r : FL} (h' : Go.Hub.sub l r) (h : look l i = some v := by rfl) : Go.Hub.sub l ((i, v) :: r) := ⟨h, h'⟩
theorem then_of {J : Act → World → Prop} (h : J a w) : Exit.then J Q .normal a w := h
theorem Kept.z {L : List Nat} (h : Kept L w w') (k : Kept [] w' w'') : Kept L w w'' := h.trans k (by simp)
theorem Blk.z {g : Nat} {t : TypeId} {cs : Array Value} (h : Blk w g t cs) (k : Kept [] w w') : Blk w' g t cs := h.kept k (by simp)
end
section
variable {P : Program} {a : Act} {w : World} {n : Nat} {l : FL} {dst : Option Nat} {ty : TypeId} {ps : String} {af : Array Edge} {g : Option (Nat × Bool)} {x y : Operand} {t u : TypeId}
theorem E.fa (off : Nat) (f : Fr n a l) {fs : Array Field} {i : Nat} {fld : Field} {b o s : Nat} (ht : P.underlying t = some (.struct fs)) (hi : fs[i]? = some fld) (hs : (P.info? fld.type).map (·.size) = some (s + 1)) (hx : evl l x = some (.pointer (some ⟨b, o, none⟩)) := by rfl) (ho : fld.offset = off := by rfl) :
    (execOp a.eval ⟨dst, .fieldAddr t x i, ty, ps, af, g⟩).run P w = .ok (.value (.pointer (some ⟨b, o + off, none⟩))) w := E.fieldAddrN off f ht hx hi ho hs
theorem E.ld (f : Fr n a l) {b : Nat} {o : Nat} {v : Value} {d : TypeDesc} {e : TypeId} {cs : Array Value} (ht : P.underlying t = some d) (B : Blk w b e cs) (hx : evl l x = some (.pointer (some ⟨b, o, none⟩)) := by rfl) (hc : cs.toList[o]? = some v := by rfl) (hd : d.isRow = false := by rfl) :
    (execOp a.eval ⟨dst, .load t x, ty, ps, af, g⟩).run P w = .ok (.value v) w := E.load f ht hd hx (B.cl hc)
theorem E.eq (f : Fr n a l) {k : IntKind} {i j : Int} (hx : evl l x = some (.int k i) := by rfl) (hy : evl l y = some (.int k j) := by rfl) : (execOp a.eval ⟨dst, .binOp .eql t x y u, ty, ps, af, g⟩).run P w = .ok (.value (.bool (decide (i = j)))) w := E.eql f hx hy
end
theorem ktr {L : List Nat} {g : Nat} {w : World} (h : w.heap.size ≤ g ∨ g ∈ L) : ∀ x ∈ [g], x < w.heap.size → x ∈ L := fun x hx hlt => by
  obtain rfl := List.mem_singleton.1 hx
  rcases h with h | h
  · omega
  · exact h
theorem z1 {α : Type} {xs : List α} {i : Nat} {a : α} : xs.toArray.setIfInBounds i a = (xs.set i a).toArray := List.setIfInBounds_toArray ..
theorem z2 {α : Type} {a b : α} {xs : List α} : (a :: xs).set 0 b = b :: xs := rfl
theorem z3 {α : Type} {a b : α} {xs : List α} {i : Nat} : (a :: xs).set (i + 1) b = a :: xs.set i b := rfl
end Go.Hub
namespace Go.Hub
open Go.RowKit
def Cs (E : List TypeId) (B : Nat) (w : World) (A : Option Addr) (n size : Nat) (xs : List Value) : Prop :=
  xs.length = n * size ∧ (0 < n → ∃ b off, A = some ⟨b, off, none⟩ ∧ b < w.heap.size ∧ (b < B ∨ Typ w b E) ∧ ∀ j u, xs[j]? = some u → w.cell? ⟨b, off + j, none⟩ = some u)
section
variable {E : List TypeId} {B : Nat} {w w' : World} {A : Option Addr} {n size : Nat} {xs : List Value}
theorem Cs.nil (E : List TypeId) (B : Nat) (w : World) (A : Option Addr) (size : Nat) : Cs E B w A 0 size [] := ⟨by simp, fun h => absurd h (by omega)⟩
theorem Cs.same (h : Cs E B w A n size xs) (hs : Same E B w w') : Cs E B w' A n size xs :=
  ⟨h.1, fun hn => by
    obtain ⟨b, off, e, hb, ht, hc⟩ := h.2 hn
    have e1 := hs.block b hb ht
    refine ⟨b, off, e, Nat.lt_of_lt_of_le hb hs.size, ?_, fun j x hx => (World.cell?_of_block (w := w) (a := ⟨b, off + j, none⟩) e1).trans (hc j x hx)⟩
    rcases ht with ht | ht
    · exact .inl ht
    · exact .inr (ht.of_eq e1)⟩
theorem Cs.rds (h : Cs E B w A n size xs) : Rds w w.heap.size size A n xs := by
  refine ⟨h.1, fun hn => ?_⟩
  obtain ⟨b, off, e, hb, _, hc⟩ := h.2 hn
  exact ⟨b, off, e, hb, hc⟩
theorem Cs.of_own {e : TypeId} {c : Nat} (h : Own w e size (.slice A n c) n xs) (he : e ∈ E) : Cs E B w A n size xs := by
  refine ⟨h.1, fun hn => ?_⟩
  rcases h.2 with ⟨_, h0⟩ | ⟨g, off, cap, cur, hv, hg, _, _, _, hc⟩
  · omega
  · injection hv with hA
    refine ⟨g, off, hA, (Array.getElem?_eq_some_iff.1 hg).1, .inr ⟨cur, e, _, hg, he⟩, fun j x hx => ?_⟩
    rw [cell_of_row w g _ cur e (0, 0) hg]
    exact hc j _ hx
end
structure Pk where
  kind : Int := 0
  dup : Bool := false
  retain : Bool := false
  qos : Int := 0
  id : Int := 0
  topic : ByteArray := ⟨#[]⟩
  pay : List UInt8 := []
  level : Int := 0
  client : ByteArray := ⟨#[]⟩
  clean : Bool := false
  keep : Int := 0
  hasWill : Bool := false
  wt : ByteArray := ⟨#[]⟩
  wp : List UInt8 := []
  wq : Int := 0
  wr : Bool := false
  hasUser : Bool := false
  hasPass : Bool := false
  user : ByteArray := ⟨#[]⟩
  pass : List UInt8 := []
  present : Bool := false
  code : Int := 0
  subs : List (ByteArray × Int) := []
  codes : List Int := []
def subCells (l : List (ByteArray × Int)) : List Value := l.flatMap fun s => [.string s.1, .int .i64 s.2]
def codeCells (l : List Int) : List Value := l.map (Value.int .i64)
theorem subCells_one (l : List (ByteArray × Int)) : ∀ u ∈ subCells l, u.oneCell' = true := fun u hu => by
  unfold subCells at hu
  simp at hu
  obtain ⟨a, b, _, rfl | rfl⟩ := hu <;> rfl
theorem codeCells_one (l : List Int) : ∀ u ∈ codeCells l, u.oneCell' = true := fun u hu => by
  unfold codeCells at hu
  simp at hu
  obtain ⟨a, _, rfl⟩ := hu
  rfl
structure Ad where
  pa : Option Addr
  pc : Nat
  wa : Option Addr
  wc : Nat
  sa : Option Addr
  sc : Nat
  ua : Option Addr
  uc : Nat
  ca : Option Addr
  cc : Nat
def Pk.cells (p : Pk) (s : Ad) : Array Value :=
  #[.int .i64 p.kind, .bool p.dup, .bool p.retain, .int .i64 p.qos, .int .i64 p.id, .string p.topic, .slice s.pa p.pay.length s.pc, .int .i64 p.level, .string p.client, .bool p.clean, .int .i64 p.keep, .bool p.hasWill,
    .string p.wt, .slice s.wa p.wp.length s.wc, .int .i64 p.wq, .bool p.wr, .bool p.hasUser, .bool p.hasPass, .string p.user, .slice s.sa p.pass.length s.sc, .bool p.present, .int .i64 p.code, .slice s.ua p.subs.length s.uc, .slice s.ca p.codes.length s.cc]
structure Pk.Ok (E : List TypeId) (B : Nat) (w : World) (p : Pk) (s : Ad) : Prop where
  pay : Bs E B w s.pa p.pay.length p.pay
  wp : Bs E B w s.wa p.wp.length p.wp
  pass : Bs E B w s.sa p.pass.length p.pass
  subs : Cs E B w s.ua p.subs.length 2 (subCells p.subs)
  codes : Cs E B w s.ca p.codes.length 1 (codeCells p.codes)
section
variable {E : List TypeId} {B : Nat} {w w' : World} {p : Pk} {s : Ad} {cs : Array Value}
theorem Pk.Ok.same (h : p.Ok E B w s) (hs : Same E B w w') : p.Ok E B w' s := ⟨h.pay.same hs, h.wp.same hs, h.pass.same hs, h.subs.same hs, h.codes.same hs⟩
theorem Pk.cells_one (p : Pk) (s : Ad) : (p.cells s).all (·.oneCell') = true := by simp [Pk.cells, Value.oneCell']
abbrev zeroPk : Array Value :=
  #[.int .i64 0, .bool false, .bool false, .int .i64 0, .int .i64 0, .string ⟨#[]⟩, .slice none 0 0, .int .i64 0, .string ⟨#[]⟩, .bool false, .int .i64 0, .bool false,
    .string ⟨#[]⟩, .slice none 0 0, .int .i64 0, .bool false, .bool false, .bool false, .string ⟨#[]⟩, .slice none 0 0, .bool false, .int .i64 0, .slice none 0 0, .slice none 0 0]
end
end Go.Hub
namespace Go.Hub
open Go.Lib
def badL (l : List UInt8) : Bool := (decodeL l).1 == 65533 && (decodeL l).2 == 1
def chkf : Nat → Nat → List UInt8 → Int
  | 0, _, _ => -1
  | f + 1, i, l => if l = [] then -1 else if badL l || (decodeL l).1 == 0 then (i : Int) else chkf f (i + (decodeL l).2) (l.drop (decodeL l).2)
def chk (l : List UInt8) : Int := chkf l.length 0 l
theorem chkf_nil (f i : Nat) : chkf f i [] = -1 := by cases f <;> simp [chkf]
end Go.Hub
namespace Go.Hub
def b8 (x : Int) : UInt8 := UInt8.ofNat (x % 256).toNat
theorem b8_val (x : Int) : ((b8 x).toNat : Int) = x % 256 := by
  unfold b8
  rw [UInt8.toNat_ofNat']
  omega
def twoL (n : Int) : List UInt8 := [b8 (n / 256), b8 n]
def lumpL (l : List UInt8) : List UInt8 := twoL l.length ++ l
def flg (b : Bool) (n : Int) : Int := if b then n else 0
def inB (v a b : Int) : Bool := decide (a ≤ v) && decide (v ≤ b)
def txB (s : ByteArray) : Bool := decide (s.size ≤ 65535) && decide (chk s.toList < 0)
def numB (p : Pk) : Bool := if p.kind = 3 then decide (0 < p.qos) else inB p.kind 4 11
abbrev em : ByteArray := ⟨#[]⟩
abbrev mqtt : ByteArray := ⟨#[77, 81, 84, 84]⟩
def bareP (p : Pk) : Pk :=
  if p.kind = 1 then { kind := p.kind, level := p.level, client := p.client, clean := p.clean, keep := p.keep, hasWill := p.hasWill, hasUser := p.hasUser, hasPass := p.hasPass, wt := (if p.hasWill then p.wt else em), wp := (if p.hasWill then p.wp else []), wq := (if p.hasWill then p.wq else 0), wr := (if p.hasWill then p.wr else false), user := (if p.hasUser then p.user else em), pass := (if p.hasPass then p.pass else []) }
  else if p.kind = 2 then { kind := p.kind, present := p.present, code := p.code }
  else if p.kind = 3 then { kind := p.kind, id := if 0 < p.qos then p.id else 0, dup := p.dup && decide (0 < p.qos), retain := p.retain, qos := p.qos, topic := p.topic, pay := p.pay }
  else if p.kind = 8 ∨ p.kind = 10 then { kind := p.kind, id := p.id, subs := p.subs }
  else if p.kind = 9 then { kind := p.kind, id := p.id, codes := p.codes }
  else if numB p then { kind := p.kind, id := p.id } else { kind := p.kind }
def samePk (p q : Pk) : Bool :=
  decide (p.kind = q.kind) && (p.dup == q.dup) && (p.retain == q.retain) && decide (p.qos = q.qos) && decide (p.id = q.id) && decide (p.topic = q.topic) && decide (p.pay = q.pay) &&
  (decide (p.level = q.level) && decide (p.client = q.client) && (p.clean == q.clean) && decide (p.keep = q.keep) && (p.hasWill == q.hasWill) && (p.hasUser == q.hasUser) && (p.hasPass == q.hasPass) && decide (p.user = q.user) && decide (p.pass = q.pass) && (p.present == q.present) && decide (p.code = q.code)) &&
  (decide (p.wt = q.wt) && decide (p.wp = q.wp) && decide (p.wq = q.wq) && (p.wr == q.wr)) && decide (p.subs = q.subs) && decide (p.codes = q.codes)
theorem samePk_iff {p q : Pk} : samePk p q = true ↔ p = q := by
  constructor
  · intro h
    simp only [samePk, Bool.and_eq_true, decide_eq_true_eq, beq_iff_eq] at h
    cases p; cases q
    simp only at h
    simp only [Pk.mk.injEq]
    simp only [h, and_self]
  rintro rfl
  simp [samePk]
theorem samePk_f {p q : Pk} (h : p ≠ q) : samePk p q = false := by
  cases e : samePk p q
  · rfl
  exact absurd (samePk_iff.1 e) h
def subB (m : Int) (l : List (ByteArray × Int)) : Bool := l.all fun x => txB x.1 && inB x.2 0 m
def codB (l : List Int) : Bool := l.all fun c => inB c 0 2 || decide (c = 128)
def valB (p : Pk) : Bool :=
  (!numB p || inB p.id 1 65535) &&
  (if p.kind = 1 then inB p.level 0 255 && inB p.keep 0 65535 && txB p.client && txB p.wt && decide (p.wp.length ≤ 65535) && inB p.wq 0 2 && txB p.user && decide (p.pass.length ≤ 65535) && (p.hasUser || !p.hasPass)
   else if p.kind = 2 then inB p.code 0 5 && (decide (p.code = 0) || !p.present)
   else if p.kind = 3 then inB p.qos 0 2 && txB p.topic
   else if p.kind = 8 then subB 2 p.subs && decide (0 < p.subs.length)
   else if p.kind = 10 then subB 0 p.subs && decide (0 < p.subs.length)
   else if p.kind = 9 then decide (0 < p.codes.length) && codB p.codes
   else true)
def flagsI (p : Pk) : Int := flg p.clean 2 + flg p.hasWill 4 + p.wq * 8 + flg p.wr 32 + flg p.hasPass 64 + flg p.hasUser 128
def connL (p : Pk) : List UInt8 :=
  lumpL mqtt.toList ++ [b8 p.level, b8 (flagsI p)] ++ twoL p.keep ++ lumpL p.client.toList ++ (if p.hasWill then lumpL p.wt.toList ++ lumpL p.wp else []) ++ (if p.hasUser then lumpL p.user.toList else []) ++ (if p.hasPass then lumpL p.pass else [])
def subL (k : Int) (x : ByteArray × Int) : List UInt8 := lumpL x.1.toList ++ (if k = 8 then [b8 x.2] else [])
def behindL (p : Pk) : List UInt8 :=
  if p.kind = 1 then connL p
  else if p.kind = 2 then [b8 (flg p.present 1), b8 p.code]
  else (if p.kind = 3 then lumpL p.topic.toList else []) ++ (if numB p then twoL p.id else []) ++ p.subs.flatMap (subL p.kind) ++ p.codes.map b8 ++ p.pay
def rightB (p : Pk) : Bool := inB p.kind 1 14 && samePk p (bareP p) && valB p && decide ((behindL p).length ≤ 8192)
def rightR (p : Pk) : Bool :=
  inB p.kind 1 14 && samePk p (bareP p) && (!numB p || inB p.id 1 65535) && inB p.qos 0 2 && txB p.topic && txB p.client && txB p.user && txB p.wt && inB p.wq 0 2 && decide (p.wp.length ≤ 65535) && decide (p.pass.length ≤ 65535) &&
  inB p.level 0 255 && inB p.keep 0 65535 && (!p.hasPass || p.hasUser) && inB p.code 0 5 && (!p.present || decide (p.code = 0)) &&
  (p.subs.all fun x => txB x.1 && inB x.2 0 2 && (!decide (p.kind = 10) || decide (x.2 = 0))) && codB p.codes && (!(decide (p.kind = 8 ∨ p.kind = 10)) || decide (0 < p.subs.length)) && (!decide (p.kind = 9) || decide (0 < p.codes.length)) &&
  decide ((behindL p).length ≤ 8192)
def bodyR (p : Pk) : List UInt8 :=
  if p.kind = 1 then connL p
  else if p.kind = 2 then [b8 (flg p.present 1), b8 p.code]
  else if p.kind = 3 then lumpL p.topic.toList ++ (if 0 < p.qos then twoL p.id else []) ++ p.pay
  else if inB p.kind 12 14 then []
  else twoL p.id ++ p.subs.flatMap (subL p.kind) ++ p.codes.map b8
theorem inB_iff {v a b : Int} : inB v a b = true ↔ a ≤ v ∧ v ≤ b := by simp [inB]
theorem txB_em : txB em = true := by unfold txB; simp only [Bool.and_eq_true, decide_eq_true_eq]; exact ⟨by decide, by simp [chk, chkf, ByteArray.toList_eq]⟩
theorem kind_cases {k : Int} (h : inB k 1 14 = true) : k = 1 ∨ k = 2 ∨ k = 3 ∨ k = 4 ∨ k = 5 ∨ k = 6 ∨ k = 7 ∨ k = 8 ∨ k = 9 ∨ k = 10 ∨ k = 11 ∨ k = 12 ∨ k = 13 ∨ k = 14 := by
  have := inB_iff.1 h
  omega
theorem body_is (p : Pk) (hk : inB p.kind 1 14 = true) (hs : p = bareP p) : bodyR p = behindL p := by
  unfold bodyR behindL
  rcases kind_cases hk with h | h | h | h | h | h | h | h | h | h | h | h | h | h <;> rw [h] <;> simp [numB, h, inB]
  · have h1 : p.subs = [] := by rw [hs]; simp [bareP, h]
    have h2 : p.codes = [] := by rw [hs]; simp [bareP, h]
    simp [h1, h2]
  all_goals
    have h3 : p.pay = [] := by rw [hs]; simp [bareP, h, numB, inB]
    first
    | exact h3
    | (have h1 : p.subs = [] := by rw [hs]; simp [bareP, h, numB, inB]
       have h2 : p.codes = [] := by rw [hs]; simp [bareP, h, numB, inB]
       simp [h1, h2, h3])
end Go.Hub
namespace Go.Hub
section
variable (lk : Bool) (y : List UInt8)
theorem twoL_len (n : Int) : (twoL n).length = 2 := rfl
theorem bytes_len (s : ByteArray) : s.toList.length = s.size := by rw [ByteArray.toList_eq]; rfl
end
end Go.Hub
namespace Go.Hub
theorem connL_eq (p : Pk) : connL p = lumpL mqtt.toList ++ (b8 p.level :: b8 (flagsI p) :: (twoL p.keep ++ (lumpL p.client.toList ++ ((if p.hasWill then lumpL p.wt.toList ++ lumpL p.wp else []) ++ ((if p.hasUser then lumpL p.user.toList else []) ++ (if p.hasPass then lumpL p.pass else [])))))) := by
  simp only [connL, List.append_assoc, List.cons_append, List.nil_append]
theorem lumpL_len (x : List UInt8) : (lumpL x).length = 2 + x.length := by simp [lumpL, twoL]; omega
end Go.Hub
namespace Go.Hub
open Go.RowKit
structure Pk.In (w : World) (p : Pk) (s : Ad) : Prop where
  pay : Sl w s.pa p.pay.length 1 (p.pay.map u8)
  wp : Sl w s.wa p.wp.length 1 (p.wp.map u8)
  pass : Sl w s.sa p.pass.length 1 (p.pass.map u8)
  subs : Sl w s.ua p.subs.length 2 (subCells p.subs)
  codes : Sl w s.ca p.codes.length 1 (codeCells p.codes)
structure Pk.Len (p : Pk) : Prop where
  pay : p.pay.length ≤ 1000000
  wp : p.wp.length ≤ 1000000
  pass : p.pass.length ≤ 1000000
  subs : p.subs.length ≤ 1000000
  codes : p.codes.length ≤ 1000000
  topic : p.topic.size ≤ 1000000
  client : p.client.size ≤ 1000000
  wt : p.wt.size ≤ 1000000
  user : p.user.size ≤ 1000000
  each : ∀ x ∈ p.subs, x.1.size ≤ 1000000
section
variable {w w' : World} {p q : Pk} {s t : Ad}
theorem Pk.In.kept (h : p.In w s) (hk : Kept [] w w') : p.In w' s := ⟨h.pay.kept hk, h.wp.kept hk, h.pass.kept hk, h.subs.kept hk, h.codes.kept hk⟩
abbrev s0 : Ad := ⟨none, 0, none, 0, none, 0, none, 0, none, 0⟩
theorem subCells_at (l : List (ByteArray × Int)) (i : Nat) (x : ByteArray × Int) (h : l[i]? = some x) : (subCells l)[i * 2]? = some (.string x.1) ∧ (subCells l)[i * 2 + 1]? = some (.int .i64 x.2) := by
  have e1 := flat_at (fun s : ByteArray × Int => [Value.string s.1, .int .i64 s.2]) 2 (fun _ => rfl) l i x h 0 (.string x.1) rfl
  have e2 := flat_at (fun s : ByteArray × Int => [Value.string s.1, .int .i64 s.2]) 2 (fun _ => rfl) l i x h 1 (.int .i64 x.2) rfl
  exact ⟨e1, e2⟩
theorem codeCells_at (l : List Int) (i : Nat) (x : Int) (h : l[i]? = some x) : (codeCells l)[i]? = some (.int .i64 x) := by simp [codeCells, h]
theorem some_at {α : Type} (l : List α) (i : Nat) (h : i < l.length) : ∃ x, l[i]? = some x := ⟨l[i], by simp [h]⟩
theorem sub_row {A : Option Addr} {l : List (ByteArray × Int)} (h : Sl w A l.length 2 (subCells l)) {b off i : Nat} {x : ByteArray × Int} (hA : A = some ⟨b, off, none⟩) (hx : l[i]? = some x) : w.rangeAt b (off + i * 2) [.string x.1, .int .i64 x.2] := by
  have hi : i < l.length := (List.getElem?_eq_some_iff.1 hx).1
  refine h.row (by omega) hA fun j u hj => ?_
  obtain ⟨h1, h2⟩ := subCells_at l i x hx
  match j, hj with
  | 0, hj => simp at hj; subst hj; exact h1
  | 1, hj => simp at hj; subst hj; exact h2
  | j + 2, hj => simp at hj
theorem code_cell {A : Option Addr} {l : List Int} (h : Sl w A l.length 1 (codeCells l)) {b off i : Nat} {x : Int} (hA : A = some ⟨b, off, none⟩) (hx : l[i]? = some x) : w.cell? ⟨b, off + i, none⟩ = some (.int .i64 x) := by
  have hi : i < l.length := (List.getElem?_eq_some_iff.1 hx).1
  exact h.cell (by omega) hA (codeCells_at l i x hx)
end
theorem bytes_eq {a b : List UInt8} : (⟨a.toArray⟩ : ByteArray) = ⟨b.toArray⟩ ↔ a = b := by
  constructor
  · intro h
    have := congrArg (fun x : ByteArray => x.data.toList) h
    simpa using this
  rintro rfl; rfl
theorem wrap_u8 (x : Int) : IntKind.u8.wrap x = x % 256 := by simp [IntKind.wrap_u8]
theorem u8_b8 (x : Int) : u8 (b8 x) = .int .u8 (x % 256) := by unfold u8; rw [b8_val]
end Go.Hub
namespace Go.Hub
open Go.RowKit
def readyAt (md : Region.Mode) (ops : Array Oper) (listed : Array Bool) (i : Nat) : Bool :=
  Nat.blt i ops.size && (!listed.getD i true && ((ops[i]?).map (·.after.all fun e => !Region.binds md e || listed.getD e.on false)).getD false)
def waits (md : Region.Mode) (o : Oper) (i : Nat) : Bool := o.after.any fun e => Region.binds md e && e.on == i
def tame (md : Region.Mode) (ops : Array Oper) : Bool := (List.range ops.size).all fun i => match ops[i]? with
  | none => false
  | some oi => (List.range ops.size).all fun j => j == i || match ops[j]? with
    | some oj => waits md oj i || waits md oi j || oi.apart ops oj
    | none => true
theorem readyAt_spec {md : Region.Mode} {ops : Array Oper} {listed : Array Bool} {i : Nat} (h : readyAt md ops listed i = true) : (Region.ready md ops listed).contains i = true := by
  unfold readyAt at h
  rw [Bool.and_eq_true] at h
  rw [List.contains_iff_mem]
  exact List.mem_filter.2 ⟨List.mem_range.2 (Nat.le_of_ble_eq_true h.1), h.2⟩
theorem free_of_tame {md : Region.Mode} {ops : Array Oper} {listed : Array Bool} {i : Nat} (ht : tame md ops = true) (h : readyAt md ops listed i = true) : Region.free md ops listed i = true := by
  unfold readyAt at h
  rw [Bool.and_eq_true, Bool.and_eq_true] at h
  obtain ⟨h1, h2, h3⟩ := h
  unfold Region.free
  have ht1 := List.all_eq_true.1 ht i (List.mem_range.2 (Nat.le_of_ble_eq_true h1))
  cases hi : ops[i]? with
  | none => rw [hi] at h3; simp at h3
  | some oi =>
    rw [hi] at ht1 h3
    simp only [Option.map_some, Option.getD_some] at h3
    simp only at ht1 ⊢
    refine List.all_eq_true.2 fun j hj => ?_
    have h4 := List.all_eq_true.1 ht1 j hj
    rw [Bool.or_eq_true] at h4
    rcases h4 with h4 | h4
    · simp [h4]
    · cases hoj : ops[j]? with
      | none => simp
      | some oj =>
        rw [hoj] at h4
        simp only [Bool.or_eq_true] at h4 ⊢
        rcases h4 with (h4 | h4) | h4
        · exact .inr (.inl h4)
        · refine .inl (.inr ?_)
          unfold waits at h4
          obtain ⟨e, he, hb⟩ := Array.any_eq_true'.1 h4
          rw [Bool.and_eq_true] at hb
          have h5 := Array.all_eq_true_iff_forall_mem.1 h3 e he
          have hon : e.on = j := by simpa using hb.2
          rw [hb.1, hon] at h5
          simp only [Bool.not_true, Bool.false_or] at h5
          rcases Nat.lt_or_ge j listed.size with hl | hl
          · simp [hl] at h5 ⊢; exact h5
          · simp [Array.getElem?_eq_none hl] at h5
        · exact .inr (.inr h4)
section
variable {P : Program} {ops : Array Oper} {Q : Exit → Act → World → Prop} {md : Region.Mode} {S : World → Prop} {a : Act} {w w' : World} {n d : Nat} {l : FL} {v : Value} {o : Oper}
theorem R.beginT {id : Nat} (hm : P.follows .mixedOrders = true) (hc : (Region.noSelect ops && tame .any ops) = true) (hS : S (w.drewN 1))
    (h : (Region.noSelect ops = true ∧ tame .any ops = true) → wpAnyH P .any ops Q S ops.size (Array.replicate ops.size false) a (w.drewN 1)) : (Code.region id ops true).wp P Q a w := R.begin hm hS (h (by simpa using hc))
theorem R.u (i : Nat) {fuel : Nat} {listed : Array Bool} (f : Fr n a l) (hi : ops[i]? = some o) (ht : Region.noSelect ops = true ∧ tame md ops = true) (hS : S w) (hv : ∀ w, S w → (execOp a.eval o).run P w = .ok (.value v) w)
    (hK : ∀ a', Fr n a' ((d, v) :: l) → wpAnyH P md ops Q S fuel (listed.setIfInBounds i true) a' w) (hw : Region.wanted o (yielded ops a.tmps) = true := by exact wantedN) (hd : o.dst = some d := by rfl) (hn : d < n := by decide)
    (hr : readyAt md ops listed i = true := by kernel_rfl)
    (hQ : ∀ c (a : Act) (u : Value) w, Q (.panic c) (a.put (some d) u) w → Q (.panic c) a w := by exact fun _ _ _ _ h => h) : wpAnyH P md ops Q S (fuel + 1) listed a w := R.take i f hi hd hn ht.1 (free_of_tame ht.2 hr) (readyAt_spec hr) hQ hw hS hv hK
end
def runT (md : Region.Mode) (ops : Array Oper) (n : Nat) : List Nat → FL → Array Bool → FL × Array Bool × Bool
  | [], l, listed => (l, listed, true)
  | i :: r, l, listed => match ops[i]? with
    | none => (l, listed, false)
    | some o => match o.dst, stepS ops n l o with
      | some _, some l' => bif readyAt md ops listed i then runT md ops n r l' (listed.setIfInBounds i true) else (l, listed, false)
      | _, _ => (l, listed, false)
section
variable {P : Program} {ops : Array Oper} {Q : Exit → Act → World → Prop} {md : Region.Mode} {S : World → Prop} {a : Act} {w : World} {n : Nat} {l : FL}
theorem R.runAllT (ht : Region.noSelect ops = true ∧ tame md ops = true) (hQ : ∀ c (a : Act) (x : Nat × Value) w, Q (.panic c) (a.put (some x.1) x.2) w → Q (.panic c) a w) (hS : S w) {fuel : Nat} : ∀ (is : List Nat) (l : FL) (listed : Array Bool) (a : Act), Fr n a l → (runT md ops n is l listed).2.2 = true →
    (∀ a', Fr n a' (runT md ops n is l listed).1 → wpAnyH P md ops Q S fuel (runT md ops n is l listed).2.1 a' w) → wpAnyH P md ops Q S (fuel + is.length) listed a w
  | [], l, listed, a, f, _, hK => hK a f
  | i :: r, l, listed, a, f, hd, hK => by
    unfold runT at hd hK
    cases ho : ops[i]? with
    | none => simp only [ho] at hd; cases hd
    | some o =>
      simp only [ho] at hd hK
      cases hdst : o.dst with
      | none => simp only [hdst] at hd; cases hd
      | some d =>
        cases hst : stepS ops n l o with
        | none => simp only [hdst, hst] at hd; cases hd
        | some l' =>
          simp only [hdst, hst] at hd hK
          cases hc : readyAt md ops listed i
          · simp only [hc] at hd; cases hd
          · simp only [hc, cond_true] at hd hK
            have hc' : Region.free md ops listed i = true ∧ (Region.ready md ops listed).contains i = true := ⟨free_of_tame ht.2 hc, readyAt_spec hc⟩
            rw [List.length_cons, ← Nat.add_assoc]
            unfold stepS at hst
            split at hst
            · cases hst
            · rename_i hg
              rw [hdst] at hst
              simp only at hst
              cases hb : Nat.blt d n
              · rw [hb] at hst; cases hst
              · rw [hb] at hst
                cases hst
                exact R.takeSkip i f ho hdst (by simpa [Nat.blt_eq] using hb) ht.1 hc'.1 hc'.2 (fun c a u w => hQ c a (d, u) w) (gd_spec f hg) hS fun a' f' => R.runAllT ht hQ hS r _ _ a' f' hd hK
            · rename_i hg
              rw [hdst] at hst
              cases hv : simpleOp l o.op with
              | none => simp [hv] at hst
              | some v =>
                simp only [hv] at hst
                cases hb : Nat.blt d n
                · rw [hb] at hst; cases hst
                · rw [hb] at hst
                  cases hst
                  exact R.take i f ho hdst (by simpa [Nat.blt_eq] using hb) ht.1 hc'.1 hc'.2 (fun c a u w => hQ c a (d, u) w) (gd_spec f hg) hS (fun w _ => simpleOp_spec f hv) fun a' f' => R.runAllT ht hQ hS r _ _ a' f' hd hK
theorem runT_look (i : Nat) : ∀ (is : List Nat) (l : FL) (listed : Array Bool), dstInD ops i is = false → look (runT md ops n is l listed).1 i = look l i
  | [], l, listed, _ => rfl
  | j :: r, l, listed, h => by
    unfold dstInD at h
    rw [Bool.or_eq_false_iff] at h
    unfold runT
    cases ho : ops[j]? with
    | none => rfl
    | some o =>
      simp only
      cases hdst : o.dst with
      | none => rfl
      | some d =>
        cases hst : stepS ops n l o with
        | none => rfl
        | some l' =>
          simp only
          cases hc : readyAt md ops listed j
          · rfl
          · simp only [cond_true]
            rw [runT_look i r l' _ h.2]
            have h1 := h.1
            rw [ho] at h1
            simp only [Option.bind_some, hdst] at h1
            exact stepS_look hst hdst h1
theorem R.runT (is : List Nat) {listed : Array Bool} (listed' : Array Bool) {fuel : Nat} (f : Fr n a l) (ht : Region.noSelect ops = true ∧ tame md ops = true) (hQ : ∀ c (a : Act) (x : Nat × Value) w, Q (.panic c) (a.put (some x.1) x.2) w → Q (.panic c) a w) (hS : S w)
    (h : ((runT md ops n is l listed).2.2 && ((runT md ops n is l listed).2.1 == listed')) = true) (hK : ∀ a', Fr n a' (runT md ops n is l listed).1 → wpAnyH P md ops Q S fuel listed' a' w) : wpAnyH P md ops Q S (fuel + is.length) listed a w := by
  rw [Bool.and_eq_true] at h
  refine R.runAllT ht hQ hS is l listed a f h.1 ?_
  rw [eq_of_beq h.2]
  exact hK
theorem Fr.keptT {is : List Nat} {listed : Array Bool} (f : Fr n a (runT md ops n is l listed).1) {i : Nat} {v : Value} (hd : dstInD ops i is = false) (h : look l i = some v) : look (runT md ops n is l listed).1 i = some v := (runT_look i is l listed hd).trans h
end
end Go.Hub
namespace Go.Hub
open Go.RowKit
def tf (n : Nat) (l : List Nat) : Array Bool := ((List.range n).map fun i => !l.contains i).toArray
section
variable {P : Program} {ops : Array Oper} {rest : List Oper} {a : Act} {w : World} {Q : Exit → Act → World → Prop} {n d : Nat} {l : FL} {v : Value} {ty t : TypeId} {ps : String} {af : Array Edge} {g : Option (Nat × Bool)} {x : Operand}
theorem L.mv (f : Fr n a l) (hK : ∀ a', Fr n a' ((d, v) :: l) → wpList P ops Q rest a' w) (hx : evl l x = some v := by rfl)
    (hw : Region.wanted ⟨some d, .move x, ty, ps, af, g⟩ (yielded ops a.tmps) = true := by exact wantedN) (hn : d < n := by decide) : wpList P ops Q (⟨some d, .move x, ty, ps, af, g⟩ :: rest) a w := L.val f hw rfl hn (E.move f hx) hK
theorem L.ag (f : Fr n a l) (hK : ∀ a', Fr n a' ((d, v) :: l) → wpList P ops Q rest a' w) (hx : evl l x = some v := by rfl)
    (hw : Region.wanted ⟨some d, .assign x, ty, ps, af, g⟩ (yielded ops a.tmps) = true := by exact wantedN) (hn : d < n := by decide) : wpList P ops Q (⟨some d, .assign x, ty, ps, af, g⟩ :: rest) a w := L.val f hw rfl hn (E.assign f hx) hK
theorem L.fa (off : Nat) (f : Fr n a l) {fs : Array Field} {i : Nat} {fld : Field} {b o s : Nat} (ht : P.underlying t = some (.struct fs)) (hi : fs[i]? = some fld) (hs : (P.info? fld.type).map (·.size) = some (s + 1))
    (hK : ∀ a', Fr n a' ((d, .pointer (some ⟨b, o + off, none⟩)) :: l) → wpList P ops Q rest a' w) (hx : evl l x = some (.pointer (some ⟨b, o, none⟩)) := by rfl) (ho : fld.offset = off := by rfl)
    (hw : Region.wanted ⟨some d, .fieldAddr t x i, ty, ps, af, g⟩ (yielded ops a.tmps) = true := by exact wantedN) (hn : d < n := by decide) : wpList P ops Q (⟨some d, .fieldAddr t x i, ty, ps, af, g⟩ :: rest) a w := L.val f hw rfl hn (E.fa off f ht hi hs hx ho) hK
theorem L.ld (f : Fr n a l) {b o : Nat} {td : TypeDesc} {e : TypeId} {cs : Array Value} (ht : P.underlying t = some td) (B : Blk w b e cs) (hK : ∀ a', Fr n a' ((d, v) :: l) → wpList P ops Q rest a' w)
    (hx : evl l x = some (.pointer (some ⟨b, o, none⟩)) := by rfl) (hc : cs.toList[o]? = some v := by rfl) (hd : td.isRow = false := by rfl)
    (hw : Region.wanted ⟨some d, .load t x, ty, ps, af, g⟩ (yielded ops a.tmps) = true := by exact wantedN) (hn : d < n := by decide) : wpList P ops Q (⟨some d, .load t x, ty, ps, af, g⟩ :: rest) a w := L.val f hw rfl hn (E.ld f ht B hx hc hd) hK
theorem scR {r : FL} {rest : List Oper} (f : Fr n a (runS ops n l rest).1) (i : Nat) (h' : Go.Hub.sub (runS ops n l rest).1 r) {v : Value} (hd : dstIn i rest = false := by kernel_rfl) (h : look l i = some v := by rfl) : Go.Hub.sub (runS ops n l rest).1 ((i, v) :: r) := ⟨Fr.kept f hd h, h'⟩
theorem RB.tk {md : Region.Mode} {S : World → Prop} {o : Oper} {m : Nat} (i : Nat) {fuel : Nat} {listed : Array Bool} (f : Fr n a l) (hi : ops[i]? = some o) (hS : S w) (hv : ∀ w, S w → (execOp a.eval o).run P w = .ok (.value v) w)
    (hK : ∀ a', Fr n a' ((d, v) :: l) → wpAnyB P md ops Q S m fuel (listed.setIfInBounds i true) a' w) (hw : Region.wanted o (yielded ops a.tmps) = true := by exact wantedN) (hd : o.dst = some d := by rfl) (hn : d < n := by decide)
    (hb : (Nat.blt i m && barrier md ops m) = true := by kernel_rfl) (hs : Region.noSelect ops = true := by kernel_rfl) (hf : Region.free md ops listed i = true := by kernel_rfl) (hr : (Region.ready md ops listed).contains i = true := by kernel_rfl)
    (hQ : ∀ c (a : Act) (u : Value) w, Q (.panic c) (a.put (some d) u) w → Q (.panic c) a w := by exact fun _ _ _ _ h => h) : wpAnyB P md ops Q S m (fuel + 1) listed a w := RB.take i f hi hd hn hb hs hf hr hQ hw hS hv hK
theorem C.sk {id : Nat} {os : List Oper} {y : Code} (h : ∀ K : Act → World → Prop, (∀ a w, y.wp P Q a w → K a w) → wpList P os.toArray (Exit.then K Q) os a w) : (Code.seq (Code.region id os.toArray false) y).wp P Q a w := wp_seq_k fun K hK => C.region (h K hK)
theorem scT {md : Region.Mode} {r : FL} {is : List Nat} {listed : Array Bool} (f : Fr n a (runT md ops n is l listed).1) (i : Nat) (h' : Go.Hub.sub (runT md ops n is l listed).1 r) {v : Value} (hd : dstInD ops i is = false := by kernel_rfl) (h : look l i = some v := by rfl) : Go.Hub.sub (runT md ops n is l listed).1 ((i, v) :: r) := ⟨Fr.keptT f hd h, h'⟩
theorem sr {l r : FL} {i : Nat} {v : Value} (h : look l i = some v) (h' : Go.Hub.sub l r) : Go.Hub.sub l ((i, v) :: r) := ⟨h, h'⟩
theorem sv {l r : FL} (i : Nat) (v : Value) (h' : Go.Hub.sub l r) (h : look l i = some v := by kernel_rfl) : Go.Hub.sub l ((i, v) :: r) := ⟨h, h'⟩
theorem jn {a : Act} {w : World} (J : Act → World → Prop) (h : J a w) : Exit.then J (fun _ _ _ => True) .normal a w := h
theorem sx {l r : FL} {i : Nat} {v : Value} (h' : Go.Hub.sub l r) (h : look l i = some v := by rfl) : Go.Hub.sub l ((i, v) :: r) := ⟨h, h'⟩
theorem Own.z {w w' : World} {e : TypeId} {size n : Nat} {v : Value} {xs : List Value} (h : Own w e size v n xs) (hk : Kept [] w w') : Own w' e size v n xs := Own.kept h hk (by simp)
theorem xt {K : Act → World → Prop} {Q : Exit → Act → World → Prop} {a : Act} {w : World} : Exit.then K Q .ret a w = Q .ret a w := rfl
theorem xb {i k : Nat} {Q : Exit → Act → World → Prop} {a : Act} {w : World} : Exit.inBlock i Q .ret a w = Q .ret a w := rfl
end
end Go.Hub
namespace Go.Proofs.Ytkdeedhjkjffpaa
abbrev U3 := @Try.underlying3
abbrev U4 := @Try.underlying4
abbrev U5 := @Try.underlying5
abbrev U9 := @Try.underlying9
abbrev U28 := @Try.underlying28
abbrev U30 := @Try.underlying30
abbrev U31 := @Try.underlying31
abbrev U32 := @Try.underlying32
abbrev U34 := @Try.underlying34
abbrev U36 := @Try.underlying36
abbrev U50 := @Try.underlying50
abbrev U51 := @Try.underlying51
abbrev U53 := @Try.underlying53
abbrev U54 := @Try.underlying54
abbrev U56 := @Try.underlying56
abbrev U89 := @Try.underlying89
abbrev z34 : Value := (.agg #[(.int .i64 0), (.bool false), (.bool false), (.int .i64 0), (.int .i64 0), (.string ⟨#[]⟩), (.slice none 0 0), (.int .i64 0), (.string ⟨#[]⟩), (.bool false), (.int .i64 0), (.bool false), (.string ⟨#[]⟩), (.slice none 0 0), (.int .i64 0), (.bool false), (.bool false), (.bool false), (.string ⟨#[]⟩), (.slice none 0 0), (.bool false), (.int .i64 0), (.slice none 0 0), (.slice none 0 0)])
abbrev z36 : Value := (.agg #[(.bool false), (.int .u8 0), (.int .u8 0), (.int .u8 0), (.int .u8 0), (.int .i64 0), (.bool false), (.bool false), (.int .i64 0), (.int .i64 0), (.string ⟨#[]⟩), (.slice none 0 0), (.int .i64 0), (.string ⟨#[]⟩), (.bool false), (.int .i64 0), (.bool false), (.string ⟨#[]⟩), (.slice none 0 0), (.int .i64 0), (.bool false), (.bool false), (.bool false), (.string ⟨#[]⟩), (.slice none 0 0), (.bool false), (.int .i64 0), (.slice none 0 0), (.slice none 0 0), (.slice none 0 0)])
abbrev z53 : Value := (.agg #[(.bool false), (.int .i64 0), (.bool false), (.bool false), (.int .i64 0), (.int .i64 0), (.string ⟨#[]⟩), (.slice none 0 0), (.int .i64 0), (.string ⟨#[]⟩), (.bool false), (.int .i64 0), (.bool false), (.string ⟨#[]⟩), (.slice none 0 0), (.int .i64 0), (.bool false), (.bool false), (.bool false), (.string ⟨#[]⟩), (.slice none 0 0), (.bool false), (.int .i64 0), (.slice none 0 0), (.slice none 0 0), (.bool false), (.slice none 0 0), (.bool false), (.slice none 0 0), (.slice none 0 0), (.map none), (.map none)])
abbrev z56 : Value := (.agg #[(.bool false), (.bool false), (.bool false), (.bool false), (.slice none 0 0), (.slice none 0 0), (.map none), (.map none), (.bool false), (.bool false)])
abbrev z89 : Value := (.agg #[(.int .i64 0), (.bool false), (.bool false), (.int .i64 0), (.int .i64 0), (.string ⟨#[]⟩), (.slice none 0 0), (.int .i64 0), (.string ⟨#[]⟩), (.bool false), (.int .i64 0), (.bool false), (.string ⟨#[]⟩), (.slice none 0 0), (.int .i64 0), (.bool false), (.bool false), (.bool false), (.string ⟨#[]⟩), (.slice none 0 0), (.bool false), (.int .i64 0), (.slice none 0 0), (.slice none 0 0), (.bool false), (.bool false), (.bool false)])
end Go.Proofs.Ytkdeedhjkjffpaa
namespace Go.Proofs.Ytkdeedhjkjffpaa
open Go.RowKit Go.Hub Go.Lib
theorem wsz3_ta : (Try.prog.info? 3).map (·.size) = some 1 := by kernel_rfl
theorem wsz4_ta : (Try.prog.info? 4).map (·.size) = some 1 := by kernel_rfl
theorem wsz9_ta : (Try.prog.info? 9).map (·.size) = some 1 := by kernel_rfl
theorem wsz28_ta : (Try.prog.info? 28).map (·.size) = some 1 := by kernel_rfl
theorem wsz46_ta : (Try.prog.info? 46).map (·.size) = some 2 := by kernel_rfl
theorem wsz30_ta : (Try.prog.info? 30).map (·.size) = some 4 := by kernel_rfl
theorem wsz31_ta : (Try.prog.info? 31).map (·.size) = some 1 := by kernel_rfl
theorem wsz32_ta : (Try.prog.info? 32).map (·.size) = some 1 := by kernel_rfl
theorem wsz34_ta : (Try.prog.info? 34).map (·.size) = some 24 := by kernel_rfl
theorem wzib5_ta : (Try.prog.info? 5).map (fun i => (i.zero, i.size, i.bytes)) = some (some (.int .u8 0), 1, 1) := by kernel_rfl
theorem wsz5_ta : (Try.prog.info? 5).map (·.size) = some 1 := by kernel_rfl
theorem wzib46_ta : (Try.prog.info? 46).map (fun i => (i.zero, i.size, i.bytes)) = some (some (.agg #[(.string ⟨#[]⟩), (.int .i64 0)]), 2, 24) := by kernel_rfl
theorem wzib3_ta : (Try.prog.info? 3).map (fun i => (i.zero, i.size, i.bytes)) = some (some (.int .i64 0), 1, 8) := by kernel_rfl
def willB (p q : Pk) : Bool := decide (p.wt = q.wt) && decide (p.wp = q.wp) && decide (p.wq = q.wq) && (p.wr == q.wr)
def greetB (p q : Pk) : Bool := decide (p.level = q.level) && decide (p.client = q.client) && (p.clean == q.clean) && decide (p.keep = q.keep) && (p.hasWill == q.hasWill) && (p.hasUser == q.hasUser) && (p.hasPass == q.hasPass) && decide (p.user = q.user) && decide (p.pass = q.pass) && (p.present == q.present) && decide (p.code = q.code)
theorem fields46 : (Try.prog.fieldsOf 46).toList = [{ name := "Filter", type := 9, offset := 0, embedded := false, tag := "", pkgPath := "", byteOffset := 0 }, { name := "Qos", type := 3, offset := 1, embedded := false, tag := "", pkgPath := "", byteOffset := 16 }] := by kernel_rfl
theorem neqSub (x y : Operand) (a a' : ByteArray) (b b' : Int) (w : World) : (do eqGuard .neq 46 x y (.agg #[.string a, .int .i64 b]) (.agg #[.string a', .int .i64 b']); binOp .neq 46 (.agg #[.string a, .int .i64 b]) (.agg #[.string a', .int .i64 b']) : Sem Value).run Try.prog w = .ok (.bool (!decide ((a, b) = (a', b')))) w := by
  rw [Sem.run_bind, run_eqGuard_agg w .neq 46 x y _ _ (by kernel_rfl)]
  simp only [Result.andThen_ok]
  rw [run_neq_struct, run_equalIn_struct w 9999 46 _ _ (by kernel_rfl) (by kernel_rfl)]
  rw [fields46]
  simp [go_sem]
  by_cases h1 : a = a' <;> by_cases h2 : b = b' <;> simp [h1, h2, toList_eq_iff]
theorem code_cell1 {w : World} {A : Option Addr} {l : List Int} (h : Sl w A l.length 1 (codeCells l)) {b off i : Nat} {x : Int} (hA : A = some ⟨b, off, none⟩) (hx : l[i]? = some x) : w.cell? ⟨b, off + (i : Int).toNat * 1, none⟩ = some (.int .i64 x) := by
  rw [Int.toNat_natCast, Nat.mul_one]; exact code_cell h hA hx
theorem eq_take {α : Type} {l b : List α} {k : Nat} {d d' : α} (h : l.take k = b.take k) (hd : l[k]? = some d) (hd' : b[k]? = some d') (e : d = d') : l.take (k + 1) = b.take (k + 1) := by
  rw [List.take_add_one, List.take_add_one, h, hd, hd', e]
theorem will_row {w : World} {g : Nat} {t : TypeId} {p : Pk} {s : Ad} (B : Blk w g t (p.cells s)) : w.rangeAt g (0 + 12) [.string p.wt, .slice s.wa p.wp.length s.wc, .int .i64 p.wq, .bool p.wr] := fun j u hj => by
  match j, hj with
  | 0, hj => simp at hj; subst hj; exact B.cl rfl
  | 1, hj => simp at hj; subst hj; exact B.cl rfl
  | 2, hj => simp at hj; subst hj; exact B.cl rfl
  | 3, hj => simp at hj; subst hj; exact B.cl rfl
  | j + 4, hj => simp at hj
theorem same_eq (p q : Pk) : samePk p q = (decide (p.kind = q.kind) && (p.dup == q.dup) && (p.retain == q.retain) && decide (p.qos = q.qos) && decide (p.id = q.id) && decide (p.topic = q.topic) && decide (p.pay = q.pay) && greetB p q && willB p q && decide (p.subs = q.subs) && decide (p.codes = q.codes)) := rfl
set_option maxHeartbeats 1000000 in
theorem beq_any (a b : List UInt8) (A A' : Option Addr) (c c' : Nat) (w : World) (SA : Sl w A a.length 1 (a.map u8)) (SB : Sl w A' b.length 1 (b.map u8)) : Calls Try.prog 56 #[.slice A a.length c, .slice A' b.length c'] w (fun e w' => w = w' ∧ e = .returned (.bool (decide (a = b)))) := by
 refine C.enter Try.func56 rfl Try.ntmps56 rfl ?_
 intro a0 f0
 have f1 : Fr 10 a0 [(0, .slice A a.length c), (1, .slice A' b.length c')] := f0
 refine C.sk fun K0 hK0 => ?_
 refine L.ag f1 fun a2 f2 => ?_
 have f3 := f2.sub (sc 0 (sc 1 sn))
 refine wpList_nil (hK0 _ _ (C.sk fun K1 hK1 => ?_))
 refine L.mv f3 fun a4 f4 => ?_
 refine L.va f4 (E.toStr f4 rfl U28 U5 U9 (SA)) fun a5 f5 => ?_
 refine L.mv f5 fun a6 f6 => ?_
 refine L.va f6 (E.toStr f6 rfl U28 U5 U9 (SB)) fun a7 f7 => ?_
 refine L.va f7 (E.eqlS f7 rfl rfl) fun a8 f8 => ?_
 clear f0 f1 a0 f2 f3 a2 f4 a4 f5 a5 f6 a6 f7 a7
 refine L.ag f8 fun a9 f9 => ?_
 have f10 := f9.sub (sc 4 sn)
 refine wpList_nil (hK1 _ _ (wp_ret ?_)); (try simp only [xt, xb]); refine C.ret f10 rfl rfl ?_
 exact ⟨rfl, by simp only [bytes_eq]⟩
set_option maxHeartbeats 1000000 in
theorem wills_any (p q : Pk) (s t : Ad) (w : World) (IP : p.In w s) (IQ : q.In w t) : Calls Try.prog 58 #[.agg #[.string p.wt, .slice s.wa p.wp.length s.wc, .int .i64 p.wq, .bool p.wr], .agg #[.string q.wt, .slice t.wa q.wp.length t.wc, .int .i64 q.wq, .bool q.wr]] w (fun e w' => Kept [] w w' ∧ e = .returned (.bool (willB p q))) := by
 have HK : Kept [] w w := Kept.refl [] w
 refine C.enter Try.func58 rfl Try.ntmps58 rfl ?_
 intro a0 f0
 have f1 : Fr 31 a0 [(0, .agg #[.string p.wt, .slice s.wa p.wp.length s.wc, .int .i64 p.wq, .bool p.wr]), (1, .agg #[.string q.wt, .slice t.wa q.wp.length t.wc, .int .i64 q.wq, .bool q.wr])] := f0
 refine C.sk fun K0 hK0 => ?_
 refine L.box f1 wantedN (by decide) rfl rfl fun a2 w1 g0 N0 f2 => ?_
 have Bg0 := N0.blk
 have kg0 := N0.kept
 have log0 := N0.lo
 have ltg0 := Bg0.lt
 have szw1 := kg0.size
 have frg0 : w.heap.size ≤ g0 := Nat.le_trans HK.size log0
 replace HK := HK.z kg0
 clear f0 N0 kg0
 refine L.box f2 wantedN (by decide) rfl rfl fun a3 w2 g1 N1 f3 => ?_
 have Bg1 := N1.blk
 have kg1 := N1.kept
 have log1 := N1.lo
 have ltg1 := Bg1.lt
 have szw2 := kg1.size
 have frg1 : w.heap.size ≤ g1 := Nat.le_trans HK.size log1
 have neg0_g1 : g0 ≠ g1 := by have := Bg0.lt; omega
 replace HK := HK.z kg1
 replace Bg0 := Bg0.z kg1
 clear f1 a0 N1 kg1
 refine L.ag f3 fun a4 f4 => ?_
 have f5 := f4.sub (sc 2 (sc 3 sn))
 refine wpList_nil (hK0 _ _ (C.sk fun K1 hK1 => ?_))
 refine L.fa 0 f5 U30 rfl wsz9_ta fun a6 f6 => ?_
 refine L.ld f6 U9 Bg0 fun a7 f7 => ?_
 refine L.fa 0 f7 U30 rfl wsz9_ta fun a8 f8 => ?_
 refine L.ld f8 U9 Bg1 fun a9 f9 => ?_
 refine L.va f9 (E.eqlS f9 rfl rfl) fun a10 f10 => ?_
 clear f2 a2 f3 a3 f4 f5 a4 f6 a6 f7 a7 f8 a8 f9 a9
 refine L.mv f10 fun a11 f11 => ?_
 clear f10 a10
 refine f11.splitD 10 rfl (fun h0 f12 => ?_) (fun h0 f12 => ?_)
 ·refine L.fa 1 f12 U30 rfl wsz28_ta (hw := (f12.yes rfl rfl)) fun a13 f13 => ?_
  refine L.ld f13 U28 Bg0 (hw := (f13.yes rfl rfl)) fun a14 f14 => ?_
  refine L.fa 1 f14 U30 rfl wsz28_ta (hw := (f14.yes rfl rfl)) fun a15 f15 => ?_
  refine L.ld f15 U28 Bg1 (hw := (f15.yes rfl rfl)) fun a16 f16 => ?_
  refine L.cl f16 (run_call Try.call56 (args2 f16 rfl rfl)) (beq_any _ _ _ _ _ _ _ (IP.wp.kept HK) (IQ.wp.kept HK)) ?_ (hw := (f16.yes rfl rfl))
  clear f11 f12 a11 f13 a13 f14 a14 f15 a15
  rintro e w2x ⟨rfl, rfl⟩
  refine ⟨_, rfl, fun a17 f17 => ?_⟩
  refine L.va f17 (E.pickT f17 rfl rfl) fun a18 f18 => ?_
  refine L.mv f18 fun a19 f19 => ?_
  clear f16 a16 f17 a17 f18 a18
  refine f19.splitD 17 rfl (fun h1 f20 => ?_) (fun h1 f20 => ?_)
  ·refine L.fa 2 f20 U30 rfl wsz3_ta (hw := (f20.yes rfl rfl)) fun a21 f21 => ?_
   refine L.ld f21 U3 Bg0 (hw := (f21.yes rfl rfl)) fun a22 f22 => ?_
   refine L.fa 2 f22 U30 rfl wsz3_ta (hw := (f22.yes rfl rfl)) fun a23 f23 => ?_
   refine L.ld f23 U3 Bg1 (hw := (f23.yes rfl rfl)) fun a24 f24 => ?_
   refine L.va f24 (E.eq f24) (hw := (f24.yes rfl rfl)) fun a25 f25 => ?_
   refine L.va f25 (E.pickT f25 rfl rfl) fun a26 f26 => ?_
   refine L.mv f26 fun a27 f27 => ?_
   clear f19 f20 a19 f21 a21 f22 a22 f23 a23 f24 a24 f25 a25 f26 a26
   refine f27.splitD 24 rfl (fun h2 f28 => ?_) (fun h2 f28 => ?_)
   ·refine L.fa 3 f28 U30 rfl wsz4_ta (hw := (f28.yes rfl rfl)) fun a29 f29 => ?_
    refine L.ld f29 U4 Bg0 (hw := (f29.yes rfl rfl)) fun a30 f30 => ?_
    refine L.fa 3 f30 U30 rfl wsz4_ta (hw := (f30.yes rfl rfl)) fun a31 f31 => ?_
    refine L.ld f31 U4 Bg1 (hw := (f31.yes rfl rfl)) fun a32 f32 => ?_
    refine L.va f32 (E.eqlB f32 U4 rfl rfl) (hw := (f32.yes rfl rfl)) fun a33 f33 => ?_
    refine L.va f33 (E.pickT f33 rfl rfl) fun a34 f34 => ?_
    refine L.ag f34 fun a35 f35 => ?_
    clear f27 f28 a27 f29 a29 f30 a30 f31 a31 f32 a32 f33 a33 f34 a34
    have f36 := f35.sub (sc 4 sn)
    refine wpList_nil (hK1 _ _ (wp_ret ?_)); (try simp only [xt, xb]); refine C.ret f36 rfl rfl ?_
    exact ⟨HK, by simp [willB, *]⟩
   refine L.run f28 (rest' := []) (by kernel_rfl) fun a29 f29 => ?_
   clear f27
   have f30 := f29.sub (sv 4 (.bool false) sn)
   refine wpList_nil (hK1 _ _ (wp_ret ?_)); (try simp only [xt, xb]); refine C.ret f30 rfl rfl ?_
   exact ⟨HK, by simp [willB, *]⟩
  refine L.run f20 (rest' := []) (by kernel_rfl) fun a21 f21 => ?_
  clear f19
  have f22 := f21.sub (sv 4 (.bool false) sn)
  refine wpList_nil (hK1 _ _ (wp_ret ?_)); (try simp only [xt, xb]); refine C.ret f22 rfl rfl ?_
  exact ⟨HK, by simp [willB, *]⟩
 refine L.run f12 (rest' := []) (by kernel_rfl) fun a13 f13 => ?_
 clear f11
 have f14 := f13.sub (sv 4 (.bool false) sn)
 refine wpList_nil (hK1 _ _ (wp_ret ?_)); (try simp only [xt, xb]); refine C.ret f14 rfl rfl ?_
 exact ⟨HK, by simp [willB, *]⟩
set_option maxHeartbeats 1000000 in
theorem greets_any (p q : Pk) (s t : Ad) (w : World) (IP : p.In w s) (IQ : q.In w t) : Calls Try.prog 57 #[.agg (p.cells s), .agg (q.cells t)] w (fun e w' => Kept [] w w' ∧ e = .returned (.bool (greetB p q))) := by
 have HK : Kept [] w w := Kept.refl [] w
 refine C.enter Try.func57 rfl Try.ntmps57 rfl ?_
 intro a0 f0
 have f1 : Fr 80 a0 [(0, .agg (p.cells s)), (1, .agg (q.cells t))] := f0
 refine C.sk fun K0 hK0 => ?_
 refine L.box f1 wantedN (by decide) rfl rfl fun a2 w1 g0 N0 f2 => ?_
 have Bg0 := N0.blk
 have kg0 := N0.kept
 have log0 := N0.lo
 have ltg0 := Bg0.lt
 have szw1 := kg0.size
 have frg0 : w.heap.size ≤ g0 := Nat.le_trans HK.size log0
 replace HK := HK.z kg0
 clear f0 N0 kg0
 refine L.box f2 wantedN (by decide) rfl rfl fun a3 w2 g1 N1 f3 => ?_
 have Bg1 := N1.blk
 have kg1 := N1.kept
 have log1 := N1.lo
 have ltg1 := Bg1.lt
 have szw2 := kg1.size
 have frg1 : w.heap.size ≤ g1 := Nat.le_trans HK.size log1
 have neg0_g1 : g0 ≠ g1 := by have := Bg0.lt; omega
 replace HK := HK.z kg1
 replace Bg0 := Bg0.z kg1
 clear f1 a0 N1 kg1
 refine L.ag f3 fun a4 f4 => ?_
 have f5 := f4.sub (sc 2 (sc 3 sn))
 refine wpList_nil (hK0 _ _ (C.sk fun K1 hK1 => ?_))
 refine L.fa 7 f5 U34 rfl wsz3_ta fun a6 f6 => ?_
 refine L.ld f6 U3 Bg0 fun a7 f7 => ?_
 refine L.fa 7 f7 U34 rfl wsz3_ta fun a8 f8 => ?_
 refine L.ld f8 U3 Bg1 fun a9 f9 => ?_
 refine L.va f9 (E.eq f9) fun a10 f10 => ?_
 clear f2 a2 f3 a3 f4 f5 a4 f6 a6 f7 a7 f8 a8 f9 a9
 refine L.mv f10 fun a11 f11 => ?_
 clear f10 a10
 refine f11.splitD 10 rfl (fun h0 f12 => ?_) (fun h0 f12 => ?_)
 ·refine L.fa 8 f12 U34 rfl wsz9_ta (hw := (f12.yes rfl rfl)) fun a13 f13 => ?_
  refine L.ld f13 U9 Bg0 (hw := (f13.yes rfl rfl)) fun a14 f14 => ?_
  refine L.fa 8 f14 U34 rfl wsz9_ta (hw := (f14.yes rfl rfl)) fun a15 f15 => ?_
  refine L.ld f15 U9 Bg1 (hw := (f15.yes rfl rfl)) fun a16 f16 => ?_
  refine L.va f16 (E.eqlS f16 rfl rfl) (hw := (f16.yes rfl rfl)) fun a17 f17 => ?_
  refine L.va f17 (E.pickT f17 rfl rfl) fun a18 f18 => ?_
  refine L.mv f18 fun a19 f19 => ?_
  clear f11 f12 a11 f13 a13 f14 a14 f15 a15 f16 a16 f17 a17 f18 a18
  refine f19.splitD 17 rfl (fun h1 f20 => ?_) (fun h1 f20 => ?_)
  ·refine L.fa 9 f20 U34 rfl wsz4_ta (hw := (f20.yes rfl rfl)) fun a21 f21 => ?_
   refine L.ld f21 U4 Bg0 (hw := (f21.yes rfl rfl)) fun a22 f22 => ?_
   refine L.fa 9 f22 U34 rfl wsz4_ta (hw := (f22.yes rfl rfl)) fun a23 f23 => ?_
   refine L.ld f23 U4 Bg1 (hw := (f23.yes rfl rfl)) fun a24 f24 => ?_
   refine L.va f24 (E.eqlB f24 U4 rfl rfl) (hw := (f24.yes rfl rfl)) fun a25 f25 => ?_
   refine L.va f25 (E.pickT f25 rfl rfl) fun a26 f26 => ?_
   refine L.mv f26 fun a27 f27 => ?_
   clear f19 f20 a19 f21 a21 f22 a22 f23 a23 f24 a24 f25 a25 f26 a26
   refine f27.splitD 24 rfl (fun h2 f28 => ?_) (fun h2 f28 => ?_)
   ·refine L.fa 10 f28 U34 rfl wsz3_ta (hw := (f28.yes rfl rfl)) fun a29 f29 => ?_
    refine L.ld f29 U3 Bg0 (hw := (f29.yes rfl rfl)) fun a30 f30 => ?_
    refine L.fa 10 f30 U34 rfl wsz3_ta (hw := (f30.yes rfl rfl)) fun a31 f31 => ?_
    refine L.ld f31 U3 Bg1 (hw := (f31.yes rfl rfl)) fun a32 f32 => ?_
    refine L.va f32 (E.eq f32) (hw := (f32.yes rfl rfl)) fun a33 f33 => ?_
    refine L.va f33 (E.pickT f33 rfl rfl) fun a34 f34 => ?_
    refine L.mv f34 fun a35 f35 => ?_
    clear f27 f28 a27 f29 a29 f30 a30 f31 a31 f32 a32 f33 a33 f34 a34
    refine f35.splitD 31 rfl (fun h3 f36 => ?_) (fun h3 f36 => ?_)
    ·refine L.fa 11 f36 U34 rfl wsz4_ta (hw := (f36.yes rfl rfl)) fun a37 f37 => ?_
     refine L.ld f37 U4 Bg0 (hw := (f37.yes rfl rfl)) fun a38 f38 => ?_
     refine L.fa 11 f38 U34 rfl wsz4_ta (hw := (f38.yes rfl rfl)) fun a39 f39 => ?_
     refine L.ld f39 U4 Bg1 (hw := (f39.yes rfl rfl)) fun a40 f40 => ?_
     refine L.va f40 (E.eqlB f40 U4 rfl rfl) (hw := (f40.yes rfl rfl)) fun a41 f41 => ?_
     refine L.va f41 (E.pickT f41 rfl rfl) fun a42 f42 => ?_
     refine L.mv f42 fun a43 f43 => ?_
     clear f35 f36 a35 f37 a37 f38 a38 f39 a39 f40 a40 f41 a41 f42 a42
     refine f43.splitD 38 rfl (fun h4 f44 => ?_) (fun h4 f44 => ?_)
     ·refine L.fa 16 f44 U34 rfl wsz4_ta (hw := (f44.yes rfl rfl)) fun a45 f45 => ?_
      refine L.ld f45 U4 Bg0 (hw := (f45.yes rfl rfl)) fun a46 f46 => ?_
      refine L.fa 16 f46 U34 rfl wsz4_ta (hw := (f46.yes rfl rfl)) fun a47 f47 => ?_
      refine L.ld f47 U4 Bg1 (hw := (f47.yes rfl rfl)) fun a48 f48 => ?_
      refine L.va f48 (E.eqlB f48 U4 rfl rfl) (hw := (f48.yes rfl rfl)) fun a49 f49 => ?_
      refine L.va f49 (E.pickT f49 rfl rfl) fun a50 f50 => ?_
      refine L.mv f50 fun a51 f51 => ?_
      clear f43 f44 a43 f45 a45 f46 a46 f47 a47 f48 a48 f49 a49 f50 a50
      refine f51.splitD 45 rfl (fun h5 f52 => ?_) (fun h5 f52 => ?_)
      ·refine L.fa 17 f52 U34 rfl wsz4_ta (hw := (f52.yes rfl rfl)) fun a53 f53 => ?_
       refine L.ld f53 U4 Bg0 (hw := (f53.yes rfl rfl)) fun a54 f54 => ?_
       refine L.fa 17 f54 U34 rfl wsz4_ta (hw := (f54.yes rfl rfl)) fun a55 f55 => ?_
       refine L.ld f55 U4 Bg1 (hw := (f55.yes rfl rfl)) fun a56 f56 => ?_
       refine L.va f56 (E.eqlB f56 U4 rfl rfl) (hw := (f56.yes rfl rfl)) fun a57 f57 => ?_
       refine L.va f57 (E.pickT f57 rfl rfl) fun a58 f58 => ?_
       refine L.mv f58 fun a59 f59 => ?_
       clear f51 f52 a51 f53 a53 f54 a54 f55 a55 f56 a56 f57 a57 f58 a58
       refine f59.splitD 52 rfl (fun h6 f60 => ?_) (fun h6 f60 => ?_)
       ·refine L.fa 18 f60 U34 rfl wsz9_ta (hw := (f60.yes rfl rfl)) fun a61 f61 => ?_
        refine L.ld f61 U9 Bg0 (hw := (f61.yes rfl rfl)) fun a62 f62 => ?_
        refine L.fa 18 f62 U34 rfl wsz9_ta (hw := (f62.yes rfl rfl)) fun a63 f63 => ?_
        refine L.ld f63 U9 Bg1 (hw := (f63.yes rfl rfl)) fun a64 f64 => ?_
        refine L.va f64 (E.eqlS f64 rfl rfl) (hw := (f64.yes rfl rfl)) fun a65 f65 => ?_
        refine L.va f65 (E.pickT f65 rfl rfl) fun a66 f66 => ?_
        refine L.mv f66 fun a67 f67 => ?_
        clear f59 f60 a59 f61 a61 f62 a62 f63 a63 f64 a64 f65 a65 f66 a66
        refine f67.splitD 59 rfl (fun h7 f68 => ?_) (fun h7 f68 => ?_)
        ·refine L.fa 19 f68 U34 rfl wsz28_ta (hw := (f68.yes rfl rfl)) fun a69 f69 => ?_
         refine L.ld f69 U28 Bg0 (hw := (f69.yes rfl rfl)) fun a70 f70 => ?_
         refine L.fa 19 f70 U34 rfl wsz28_ta (hw := (f70.yes rfl rfl)) fun a71 f71 => ?_
         refine L.ld f71 U28 Bg1 (hw := (f71.yes rfl rfl)) fun a72 f72 => ?_
         refine L.cl f72 (run_call Try.call56 (args2 f72 rfl rfl)) (beq_any _ _ _ _ _ _ _ (IP.pass.kept HK) (IQ.pass.kept HK)) ?_ (hw := (f72.yes rfl rfl))
         clear f67 f68 a67 f69 a69 f70 a70 f71 a71
         rintro e w2x ⟨rfl, rfl⟩
         refine ⟨_, rfl, fun a73 f73 => ?_⟩
         refine L.va f73 (E.pickT f73 rfl rfl) fun a74 f74 => ?_
         refine L.mv f74 fun a75 f75 => ?_
         clear f72 a72 f73 a73 f74 a74
         refine f75.splitD 66 rfl (fun h8 f76 => ?_) (fun h8 f76 => ?_)
         ·refine L.fa 20 f76 U34 rfl wsz4_ta (hw := (f76.yes rfl rfl)) fun a77 f77 => ?_
          refine L.ld f77 U4 Bg0 (hw := (f77.yes rfl rfl)) fun a78 f78 => ?_
          refine L.fa 20 f78 U34 rfl wsz4_ta (hw := (f78.yes rfl rfl)) fun a79 f79 => ?_
          refine L.ld f79 U4 Bg1 (hw := (f79.yes rfl rfl)) fun a80 f80 => ?_
          refine L.va f80 (E.eqlB f80 U4 rfl rfl) (hw := (f80.yes rfl rfl)) fun a81 f81 => ?_
          refine L.va f81 (E.pickT f81 rfl rfl) fun a82 f82 => ?_
          refine L.mv f82 fun a83 f83 => ?_
          clear f75 f76 a75 f77 a77 f78 a78 f79 a79 f80 a80 f81 a81 f82 a82
          refine f83.splitD 73 rfl (fun h9 f84 => ?_) (fun h9 f84 => ?_)
          ·refine L.fa 21 f84 U34 rfl wsz3_ta (hw := (f84.yes rfl rfl)) fun a85 f85 => ?_
           refine L.ld f85 U3 Bg0 (hw := (f85.yes rfl rfl)) fun a86 f86 => ?_
           refine L.fa 21 f86 U34 rfl wsz3_ta (hw := (f86.yes rfl rfl)) fun a87 f87 => ?_
           refine L.ld f87 U3 Bg1 (hw := (f87.yes rfl rfl)) fun a88 f88 => ?_
           refine L.va f88 (E.eq f88) (hw := (f88.yes rfl rfl)) fun a89 f89 => ?_
           refine L.va f89 (E.pickT f89 rfl rfl) fun a90 f90 => ?_
           refine L.ag f90 fun a91 f91 => ?_
           clear f83 f84 a83 f85 a85 f86 a86 f87 a87 f88 a88 f89 a89 f90 a90
           have f92 := f91.sub (sc 4 sn)
           refine wpList_nil (hK1 _ _ (wp_ret ?_)); (try simp only [xt, xb]); refine C.ret f92 rfl rfl ?_
           exact ⟨HK, by simp [greetB, *]⟩
          refine L.run f84 (rest' := []) (by kernel_rfl) fun a85 f85 => ?_
          clear f83
          have f86 := f85.sub (sv 4 (.bool false) sn)
          refine wpList_nil (hK1 _ _ (wp_ret ?_)); (try simp only [xt, xb]); refine C.ret f86 rfl rfl ?_
          exact ⟨HK, by simp [greetB, *]⟩
         refine L.run f76 (rest' := []) (by kernel_rfl) fun a77 f77 => ?_
         clear f75
         have f78 := f77.sub (sv 4 (.bool false) sn)
         refine wpList_nil (hK1 _ _ (wp_ret ?_)); (try simp only [xt, xb]); refine C.ret f78 rfl rfl ?_
         exact ⟨HK, by simp [greetB, *]⟩
        refine L.run f68 (rest' := []) (by kernel_rfl) fun a69 f69 => ?_
        clear f67
        have f70 := f69.sub (sv 4 (.bool false) sn)
        refine wpList_nil (hK1 _ _ (wp_ret ?_)); (try simp only [xt, xb]); refine C.ret f70 rfl rfl ?_
        exact ⟨HK, by simp [greetB, *]⟩
       refine L.run f60 (rest' := []) (by kernel_rfl) fun a61 f61 => ?_
       clear f59
       have f62 := f61.sub (sv 4 (.bool false) sn)
       refine wpList_nil (hK1 _ _ (wp_ret ?_)); (try simp only [xt, xb]); refine C.ret f62 rfl rfl ?_
       exact ⟨HK, by simp [greetB, *]⟩
      refine L.run f52 (rest' := []) (by kernel_rfl) fun a53 f53 => ?_
      clear f51
      have f54 := f53.sub (sv 4 (.bool false) sn)
      refine wpList_nil (hK1 _ _ (wp_ret ?_)); (try simp only [xt, xb]); refine C.ret f54 rfl rfl ?_
      exact ⟨HK, by simp [greetB, *]⟩
     refine L.run f44 (rest' := []) (by kernel_rfl) fun a45 f45 => ?_
     clear f43
     have f46 := f45.sub (sv 4 (.bool false) sn)
     refine wpList_nil (hK1 _ _ (wp_ret ?_)); (try simp only [xt, xb]); refine C.ret f46 rfl rfl ?_
     exact ⟨HK, by simp [greetB, *]⟩
    refine L.run f36 (rest' := []) (by kernel_rfl) fun a37 f37 => ?_
    clear f35
    have f38 := f37.sub (sv 4 (.bool false) sn)
    refine wpList_nil (hK1 _ _ (wp_ret ?_)); (try simp only [xt, xb]); refine C.ret f38 rfl rfl ?_
    exact ⟨HK, by simp [greetB, *]⟩
   refine L.run f28 (rest' := []) (by kernel_rfl) fun a29 f29 => ?_
   clear f27
   have f30 := f29.sub (sv 4 (.bool false) sn)
   refine wpList_nil (hK1 _ _ (wp_ret ?_)); (try simp only [xt, xb]); refine C.ret f30 rfl rfl ?_
   exact ⟨HK, by simp [greetB, *]⟩
  refine L.run f20 (rest' := []) (by kernel_rfl) fun a21 f21 => ?_
  clear f19
  have f22 := f21.sub (sv 4 (.bool false) sn)
  refine wpList_nil (hK1 _ _ (wp_ret ?_)); (try simp only [xt, xb]); refine C.ret f22 rfl rfl ?_
  exact ⟨HK, by simp [greetB, *]⟩
 refine L.run f12 (rest' := []) (by kernel_rfl) fun a13 f13 => ?_
 clear f11
 have f14 := f13.sub (sv 4 (.bool false) sn)
 refine wpList_nil (hK1 _ _ (wp_ret ?_)); (try simp only [xt, xb]); refine C.ret f14 rfl rfl ?_
 exact ⟨HK, by simp [greetB, *]⟩
set_option maxHeartbeats 1000000 in
theorem eqSub_any (l b : List (ByteArray × Int)) (A A' : Option Addr) (c c' : Nat) (w : World) (A1 : Sl w A l.length 2 (subCells l)) (A2 : Sl w A' b.length 2 (subCells b)) (hm : l.length ≤ 1000000000000) : Calls Try.prog 59 #[.slice A l.length c, .slice A' b.length c'] w (fun e w' => Kept [] w w' ∧ e = .returned (.bool (decide (l = b)))) := by
 have HK : Kept [] w w := Kept.refl [] w
 refine C.enter Try.func59 rfl Try.ntmps59 rfl ?_
 intro a0 f0
 have f1 : Fr 26 a0 [(0, .slice A l.length c), (1, .slice A' b.length c')] := f0
 refine C.sk fun K0 hK0 => ?_
 refine L.ag f1 fun a2 f2 => ?_
 refine wpList_nil (hK0 _ _ ?_)
 have f3 := f2.sub (sc 0 (sc 1 sn))
 refine wp_seq_k fun K1 hK1 => ?_
 refine C.sk fun K2 hK2 => ?_
 refine L.mv f3 fun a4 f4 => ?_
 refine L.va f4 (E.lenL f4 U31 rfl) fun a5 f5 => ?_
 refine L.mv f5 fun a6 f6 => ?_
 refine L.va f6 (E.lenL f6 U31 rfl) fun a7 f7 => ?_
 refine L.va f7 (E.neq f7 rfl rfl) fun a8 f8 => ?_
 clear f0 f1 a0 f2 f3 a2 f4 a4 f5 a5 f6 a6 f7 a7
 refine wpList_nil (hK2 _ _ ?_)
 have f9 := f8.sub (sc 0 (sc 1 (sc 10 sn)))
 clear f8
 refine f9.splitN 10 rfl (fun h0 f10 => ?_) (fun h0 f10 => ?_)
 ·refine C.condT f10 rfl ?_
  refine C.sk fun K3 hK3 => ?_
  refine L.ag f10 fun a11 f11 => ?_
  have f12 := f11.sub (sc 4 sn)
  refine wpList_nil (hK3 _ _ (wp_ret ?_)); (try simp only [xt, xb]); refine C.ret f12 rfl rfl ?_
  exact ⟨HK, by rw [decide_eq_false]; intro e; subst e; omega⟩
 have hlen := h0
 refine C.condF f10 rfl ?_
 refine wp_skip (hK1 _ _ ?_)
 have f11 := f10.sub (sc 0 (sc 1 sn))
 refine wp_seq_k fun K4 hK4 => ?_
 refine C.sk fun K5 hK5 => ?_
 refine L.mv f11 fun a12 f12 => ?_
 refine L.va f12 (E.lenL f12 U31 rfl) fun a13 f13 => ?_
 refine L.mv f13 fun a14 f14 => ?_
 refine wpList_nil (hK5 _ _ ?_)
 have f15 := f14.sub (sc 0 (sc 1 (sc 12 (sc 13 sn))))
 refine wp_block ?_
 clear f9 f10 f11 a8 f12 a12 f13 a13 f14
 refine C.loop (fun gk a W => ∃ k : Nat, k + gk = l.length ∧ Kept [] w W ∧ l.take k = b.take k ∧ Fr 26 a [(0, .slice A l.length c), (1, .slice A' b.length c'), (12, .int .i64 l.length), (13, .int .i64 k)]) (l.length) ?_ ?_
 ·exact ⟨0, by omega, HK, rfl, f15.sub (sx (sx (sx (sx sn))))⟩
 intro gk7 a16 w1 hI KL6 hKL6
 obtain ⟨k, hk, HK, hq, f16⟩ := hI
 try clear f15
 refine C.sk fun K7 hK7 => ?_
 refine L.va f16 (E.lss f16 rfl rfl) fun a17 f17 => ?_
 refine wpList_nil (hK7 _ _ ?_)
 have f18 := f17.sub (sc 0 (sc 1 (sc 12 (sc 13 (sc 14 sn)))))
 refine wp_seq_k fun K8 hK8 => ?_
 clear f16 a16 f17
 refine f18.splitD 14 rfl (fun h1 f19 => ?_) (fun h1 f19 => ?_)
 ·obtain ⟨d, hd⟩ := some_at l k (by omega)
  obtain ⟨bk, off, hA⟩ := A1.addr (by omega)
  obtain ⟨d', hd'⟩ := some_at b k (by omega)
  obtain ⟨bk', off', hA'⟩ := A2.addr (by omega)
  refine C.condT f19 rfl ?_
  refine wp_skip (hK8 _ _ ?_)
  have f20 := f19.sub (sc 0 (sc 1 (sc 12 (sc 13 sn))))
  refine wp_seq_k fun K9 hK9 => ?_
  refine wp_block ?_
  refine C.sk fun K10 hK10 => ?_
  refine L.mv f20 fun a21 f21 => ?_
  refine L.ag f21 fun a22 f22 => ?_
  refine wpList_nil (hK10 _ _ ?_)
  have f23 := f22.sub (sc 0 (sc 1 (sc 5 (sc 12 (sc 13 sn)))))
  refine wp_seq_k fun K11 hK11 => ?_
  refine R.beginT (S := fun W => Kept [] w1 W) (by kernel_rfl) (by kernel_rfl) (by exact (Kept.refl _ _).drewN 1) fun ht => ?_
  have hS6 : Kept [] w1 (w1.drewN 1) := (Kept.refl _ _).drewN 1
  have hd6 : Kept [] w1 (w1.drewN 1) := (Kept.refl _ _).drewN 1
  obtain ⟨w2, hww2⟩ : ∃ W, W = w1.drewN 1 := ⟨_, rfl⟩
  rw [← hww2] at hS6 hd6 ⊢
  clear f18 f19 f20 a17 f21 a21 f22 hww2
  have szw2 := hS6.size
  refine R.u 0 f23 rfl ht hS6 (fun W hW => (E.move f23 rfl)) fun a24 f24 => ?_
  refine R.u 1 f24 rfl ht hS6 (fun W hW => (E.move f24 rfl)) fun a25 f25 => ?_
  refine R.u 2 f25 rfl ht hS6 (fun W hW => (E.indexA f25 (by assumption) U31 wsz46_ta rfl rfl (by omega) (by omega))) fun a26 f26 => ?_
  refine R.u 3 f26 rfl ht hS6 (fun W hW => (E.loadR f26 Try.underlying46 rfl wsz46_ta rfl (sub_row (A1.kept (HK.z hW)) hA hd) rfl)) fun a27 f27 => ?_
  refine R.u 4 f27 rfl ht hS6 (fun W hW => (E.move f27 rfl)) fun a28 f28 => ?_
  refine R.u 5 f28 rfl ht hS6 (fun W hW => (E.move f28 rfl)) fun a29 f29 => ?_
  refine R.u 6 f29 rfl ht hS6 (fun W hW => (E.indexA f29 (by assumption) U31 wsz46_ta rfl rfl (by omega) (by omega))) fun a30 f30 => ?_
  clear f23 a22 f24 a24 f25 a25 f26 a26 f27 a27 f28 a28 f29 a29
  refine R.u 7 f30 rfl ht hS6 (fun W hW => (E.loadR f30 Try.underlying46 rfl wsz46_ta rfl (sub_row (A2.kept (HK.z hW)) hA' hd') rfl)) fun a31 f31 => ?_
  refine R.u 8 f31 rfl ht hS6 (fun W hW => (E.neqV f31 rfl rfl (neqSub _ _ _ _ _ _))) fun a32 f32 => ?_
  have szw2r := hS6.size
  replace HK := HK.z hS6
  clear f30 a30 f31 a31 hS6
  refine R.done (by kernel_rfl) (hK11 _ _ ?_)
  have f33 := f32.sub (sc 0 (sc 1 (sc 12 (sc 13 (sc 24 sn)))))
  clear f32
  refine f33.splitN 24 rfl (fun h2 f34 => ?_) (fun h2 f34 => ?_)
  ·have hne := h2
   refine C.condT f34 rfl ?_
   refine C.sk fun K12 hK12 => ?_
   refine L.ag f34 fun a35 f35 => ?_
   have f36 := f35.sub (sc 4 sn)
   refine wpList_nil (hK12 _ _ (wp_ret ?_)); (try simp only [xt, xb]); refine C.ret f36 rfl rfl ?_
   exact ⟨HK, by rw [decide_eq_false]; intro e; subst e; rw [hd] at hd'; cases hd'; exact absurd rfl hne⟩
  have heq := h2
  refine C.condF f34 rfl ?_
  refine wp_skip (hK9 _ _ ?_)
  have f35 := f34.sub (sc 0 (sc 1 (sc 12 (sc 13 sn))))
  refine C.region ?_
  refine L.va f35 (E.add f35 rfl rfl (IntWalk.i64_in _ (by omega))) fun a36 f36 => ?_
  refine L.mv f36 fun a37 f37 => ?_
  clear f33 f34 f35 a32 f36 a36
  refine wpList_nil (hKL6 _ _ (gk7 - 1) ?_ ?_)
  ·omega
  exact ⟨k + 1, by omega, HK, eq_take hq hd hd' heq, f37.sub (sx (sx (sx (sx sn))))⟩
 refine C.condF f19 rfl ?_
 refine wp_exit (hK4 _ _ ?_)
 have f20 := f19.sub sn
 refine C.sk fun K13 hK13 => ?_
 refine L.ag f20 fun a21 f21 => ?_
 have f22 := f21.sub (sc 4 sn)
 refine wpList_nil (hK13 _ _ (wp_ret ?_)); (try simp only [xt, xb]); refine C.ret f22 rfl rfl ?_
 exact ⟨HK, by rw [decide_eq_true]; rw [List.take_of_length_le (by omega), List.take_of_length_le (by omega)] at hq; exact hq⟩
set_option maxHeartbeats 1000000 in
theorem eqInt_any (l b : List (Int)) (A A' : Option Addr) (c c' : Nat) (w : World) (A1 : Sl w A l.length 1 (codeCells l)) (A2 : Sl w A' b.length 1 (codeCells b)) (hm : l.length ≤ 1000000000000) : Calls Try.prog 60 #[.slice A l.length c, .slice A' b.length c'] w (fun e w' => Kept [] w w' ∧ e = .returned (.bool (decide (l = b)))) := by
 have HK : Kept [] w w := Kept.refl [] w
 refine C.enter Try.func60 rfl Try.ntmps60 rfl ?_
 intro a0 f0
 have f1 : Fr 26 a0 [(0, .slice A l.length c), (1, .slice A' b.length c')] := f0
 refine C.sk fun K0 hK0 => ?_
 refine L.ag f1 fun a2 f2 => ?_
 refine wpList_nil (hK0 _ _ ?_)
 have f3 := f2.sub (sc 0 (sc 1 sn))
 refine wp_seq_k fun K1 hK1 => ?_
 refine C.sk fun K2 hK2 => ?_
 refine L.mv f3 fun a4 f4 => ?_
 refine L.va f4 (E.lenL f4 U32 rfl) fun a5 f5 => ?_
 refine L.mv f5 fun a6 f6 => ?_
 refine L.va f6 (E.lenL f6 U32 rfl) fun a7 f7 => ?_
 refine L.va f7 (E.neq f7 rfl rfl) fun a8 f8 => ?_
 clear f0 f1 a0 f2 f3 a2 f4 a4 f5 a5 f6 a6 f7 a7
 refine wpList_nil (hK2 _ _ ?_)
 have f9 := f8.sub (sc 0 (sc 1 (sc 10 sn)))
 clear f8
 refine f9.splitN 10 rfl (fun h0 f10 => ?_) (fun h0 f10 => ?_)
 ·refine C.condT f10 rfl ?_
  refine C.sk fun K3 hK3 => ?_
  refine L.ag f10 fun a11 f11 => ?_
  have f12 := f11.sub (sc 4 sn)
  refine wpList_nil (hK3 _ _ (wp_ret ?_)); (try simp only [xt, xb]); refine C.ret f12 rfl rfl ?_
  exact ⟨HK, by rw [decide_eq_false]; intro e; subst e; omega⟩
 have hlen := h0
 refine C.condF f10 rfl ?_
 refine wp_skip (hK1 _ _ ?_)
 have f11 := f10.sub (sc 0 (sc 1 sn))
 refine wp_seq_k fun K4 hK4 => ?_
 refine C.sk fun K5 hK5 => ?_
 refine L.mv f11 fun a12 f12 => ?_
 refine L.va f12 (E.lenL f12 U32 rfl) fun a13 f13 => ?_
 refine L.mv f13 fun a14 f14 => ?_
 refine wpList_nil (hK5 _ _ ?_)
 have f15 := f14.sub (sc 0 (sc 1 (sc 12 (sc 13 sn))))
 refine wp_block ?_
 clear f9 f10 f11 a8 f12 a12 f13 a13 f14
 refine C.loop (fun gk a W => ∃ k : Nat, k + gk = l.length ∧ Kept [] w W ∧ l.take k = b.take k ∧ Fr 26 a [(0, .slice A l.length c), (1, .slice A' b.length c'), (12, .int .i64 l.length), (13, .int .i64 k)]) (l.length) ?_ ?_
 ·exact ⟨0, by omega, HK, rfl, f15.sub (sx (sx (sx (sx sn))))⟩
 intro gk7 a16 w1 hI KL6 hKL6
 obtain ⟨k, hk, HK, hq, f16⟩ := hI
 try clear f15
 refine C.sk fun K7 hK7 => ?_
 refine L.va f16 (E.lss f16 rfl rfl) fun a17 f17 => ?_
 refine wpList_nil (hK7 _ _ ?_)
 have f18 := f17.sub (sc 0 (sc 1 (sc 12 (sc 13 (sc 14 sn)))))
 refine wp_seq_k fun K8 hK8 => ?_
 clear f16 a16 f17
 refine f18.splitD 14 rfl (fun h1 f19 => ?_) (fun h1 f19 => ?_)
 ·obtain ⟨d, hd⟩ := some_at l k (by omega)
  obtain ⟨bk, off, hA⟩ := A1.addr (by omega)
  obtain ⟨d', hd'⟩ := some_at b k (by omega)
  obtain ⟨bk', off', hA'⟩ := A2.addr (by omega)
  refine C.condT f19 rfl ?_
  refine wp_skip (hK8 _ _ ?_)
  have f20 := f19.sub (sc 0 (sc 1 (sc 12 (sc 13 sn))))
  refine wp_seq_k fun K9 hK9 => ?_
  refine wp_block ?_
  refine C.sk fun K10 hK10 => ?_
  refine L.mv f20 fun a21 f21 => ?_
  refine L.ag f21 fun a22 f22 => ?_
  refine wpList_nil (hK10 _ _ ?_)
  have f23 := f22.sub (sc 0 (sc 1 (sc 5 (sc 12 (sc 13 sn)))))
  refine wp_seq_k fun K11 hK11 => ?_
  refine R.beginT (S := fun W => Kept [] w1 W) (by kernel_rfl) (by kernel_rfl) (by exact (Kept.refl _ _).drewN 1) fun ht => ?_
  have hS6 : Kept [] w1 (w1.drewN 1) := (Kept.refl _ _).drewN 1
  have hd6 : Kept [] w1 (w1.drewN 1) := (Kept.refl _ _).drewN 1
  obtain ⟨w2, hww2⟩ : ∃ W, W = w1.drewN 1 := ⟨_, rfl⟩
  rw [← hww2] at hS6 hd6 ⊢
  clear f18 f19 f20 a17 f21 a21 f22 hww2
  have szw2 := hS6.size
  refine R.u 0 f23 rfl ht hS6 (fun W hW => (E.move f23 rfl)) fun a24 f24 => ?_
  refine R.u 1 f24 rfl ht hS6 (fun W hW => (E.move f24 rfl)) fun a25 f25 => ?_
  refine R.u 2 f25 rfl ht hS6 (fun W hW => (E.indexA f25 (by assumption) U32 wsz3_ta rfl rfl (by omega) (by omega))) fun a26 f26 => ?_
  refine R.u 3 f26 rfl ht hS6 (fun W hW => (E.load f26 U3 rfl rfl (code_cell1 (A1.kept (HK.z hW)) hA hd))) fun a27 f27 => ?_
  refine R.u 4 f27 rfl ht hS6 (fun W hW => (E.move f27 rfl)) fun a28 f28 => ?_
  refine R.u 5 f28 rfl ht hS6 (fun W hW => (E.move f28 rfl)) fun a29 f29 => ?_
  refine R.u 6 f29 rfl ht hS6 (fun W hW => (E.indexA f29 (by assumption) U32 wsz3_ta rfl rfl (by omega) (by omega))) fun a30 f30 => ?_
  clear f23 a22 f24 a24 f25 a25 f26 a26 f27 a27 f28 a28 f29 a29
  refine R.u 7 f30 rfl ht hS6 (fun W hW => (E.load f30 U3 rfl rfl (code_cell1 (A2.kept (HK.z hW)) hA' hd'))) fun a31 f31 => ?_
  refine R.u 8 f31 rfl ht hS6 (fun W hW => (E.neq f31 rfl rfl)) fun a32 f32 => ?_
  have szw2r := hS6.size
  replace HK := HK.z hS6
  clear f30 a30 f31 a31 hS6
  refine R.done (by kernel_rfl) (hK11 _ _ ?_)
  have f33 := f32.sub (sc 0 (sc 1 (sc 12 (sc 13 (sc 24 sn)))))
  clear f32
  refine f33.splitN 24 rfl (fun h2 f34 => ?_) (fun h2 f34 => ?_)
  ·have hne := h2
   refine C.condT f34 rfl ?_
   refine C.sk fun K12 hK12 => ?_
   refine L.ag f34 fun a35 f35 => ?_
   have f36 := f35.sub (sc 4 sn)
   refine wpList_nil (hK12 _ _ (wp_ret ?_)); (try simp only [xt, xb]); refine C.ret f36 rfl rfl ?_
   exact ⟨HK, by rw [decide_eq_false]; intro e; subst e; rw [hd] at hd'; cases hd'; exact absurd rfl hne⟩
  have heq := h2
  refine C.condF f34 rfl ?_
  refine wp_skip (hK9 _ _ ?_)
  have f35 := f34.sub (sc 0 (sc 1 (sc 12 (sc 13 sn))))
  refine C.region ?_
  refine L.va f35 (E.add f35 rfl rfl (IntWalk.i64_in _ (by omega))) fun a36 f36 => ?_
  refine L.mv f36 fun a37 f37 => ?_
  clear f33 f34 f35 a32 f36 a36
  refine wpList_nil (hKL6 _ _ (gk7 - 1) ?_ ?_)
  ·omega
  exact ⟨k + 1, by omega, HK, eq_take hq hd hd' heq, f37.sub (sx (sx (sx (sx sn))))⟩
 refine C.condF f19 rfl ?_
 refine wp_exit (hK4 _ _ ?_)
 have f20 := f19.sub sn
 refine C.sk fun K13 hK13 => ?_
 refine L.ag f20 fun a21 f21 => ?_
 have f22 := f21.sub (sc 4 sn)
 refine wpList_nil (hK13 _ _ (wp_ret ?_)); (try simp only [xt, xb]); refine C.ret f22 rfl rfl ?_
 exact ⟨HK, by rw [decide_eq_true]; rw [List.take_of_length_le (by omega), List.take_of_length_le (by omega)] at hq; exact hq⟩
set_option maxHeartbeats 1000000 in
theorem same_any (p q : Pk) (s t : Ad) (w : World) (IP : p.In w s) (IQ : q.In w t) (hl : p.subs.length ≤ 1000000) (hl2 : p.codes.length ≤ 1000000) : Calls Try.prog 53 #[.agg (p.cells s), .agg (q.cells t)] w (fun e w' => Kept [] w w' ∧ e = .returned (.bool (samePk p q))) := by
 have HK : Kept [] w w := Kept.refl [] w
 refine C.enter Try.func53 rfl Try.ntmps53 rfl ?_
 intro a0 f0
 have f1 : Fr 78 a0 [(0, .agg (p.cells s)), (1, .agg (q.cells t))] := f0
 refine C.sk fun K0 hK0 => ?_
 refine L.box f1 wantedN (by decide) rfl rfl fun a2 w1 g0 N0 f2 => ?_
 have Bg0 := N0.blk
 have kg0 := N0.kept
 have log0 := N0.lo
 have ltg0 := Bg0.lt
 have szw1 := kg0.size
 have frg0 : w.heap.size ≤ g0 := Nat.le_trans HK.size log0
 replace HK := HK.z kg0
 clear f0 N0 kg0
 refine L.box f2 wantedN (by decide) rfl rfl fun a3 w2 g1 N1 f3 => ?_
 have Bg1 := N1.blk
 have kg1 := N1.kept
 have log1 := N1.lo
 have ltg1 := Bg1.lt
 have szw2 := kg1.size
 have frg1 : w.heap.size ≤ g1 := Nat.le_trans HK.size log1
 have neg0_g1 : g0 ≠ g1 := by have := Bg0.lt; omega
 replace HK := HK.z kg1
 replace Bg0 := Bg0.z kg1
 clear f1 a0 N1 kg1
 refine L.ag f3 fun a4 f4 => ?_
 have f5 := f4.sub (sc 2 (sc 3 sn))
 refine wpList_nil (hK0 _ _ (C.sk fun K1 hK1 => ?_))
 refine L.fa 0 f5 U34 rfl wsz3_ta fun a6 f6 => ?_
 refine L.ld f6 U3 Bg0 fun a7 f7 => ?_
 refine L.fa 0 f7 U34 rfl wsz3_ta fun a8 f8 => ?_
 refine L.ld f8 U3 Bg1 fun a9 f9 => ?_
 refine L.va f9 (E.eq f9) fun a10 f10 => ?_
 clear f2 a2 f3 a3 f4 f5 a4 f6 a6 f7 a7 f8 a8 f9 a9
 refine L.mv f10 fun a11 f11 => ?_
 clear f10 a10
 refine f11.splitD 10 rfl (fun h0 f12 => ?_) (fun h0 f12 => ?_)
 ·refine L.fa 1 f12 U34 rfl wsz4_ta (hw := (f12.yes rfl rfl)) fun a13 f13 => ?_
  refine L.ld f13 U4 Bg0 (hw := (f13.yes rfl rfl)) fun a14 f14 => ?_
  refine L.fa 1 f14 U34 rfl wsz4_ta (hw := (f14.yes rfl rfl)) fun a15 f15 => ?_
  refine L.ld f15 U4 Bg1 (hw := (f15.yes rfl rfl)) fun a16 f16 => ?_
  refine L.va f16 (E.eqlB f16 U4 rfl rfl) (hw := (f16.yes rfl rfl)) fun a17 f17 => ?_
  refine L.va f17 (E.pickT f17 rfl rfl) fun a18 f18 => ?_
  refine L.mv f18 fun a19 f19 => ?_
  clear f11 f12 a11 f13 a13 f14 a14 f15 a15 f16 a16 f17 a17 f18 a18
  refine f19.splitD 17 rfl (fun h1 f20 => ?_) (fun h1 f20 => ?_)
  ·refine L.fa 2 f20 U34 rfl wsz4_ta (hw := (f20.yes rfl rfl)) fun a21 f21 => ?_
   refine L.ld f21 U4 Bg0 (hw := (f21.yes rfl rfl)) fun a22 f22 => ?_
   refine L.fa 2 f22 U34 rfl wsz4_ta (hw := (f22.yes rfl rfl)) fun a23 f23 => ?_
   refine L.ld f23 U4 Bg1 (hw := (f23.yes rfl rfl)) fun a24 f24 => ?_
   refine L.va f24 (E.eqlB f24 U4 rfl rfl) (hw := (f24.yes rfl rfl)) fun a25 f25 => ?_
   refine L.va f25 (E.pickT f25 rfl rfl) fun a26 f26 => ?_
   refine L.mv f26 fun a27 f27 => ?_
   clear f19 f20 a19 f21 a21 f22 a22 f23 a23 f24 a24 f25 a25 f26 a26
   refine f27.splitD 24 rfl (fun h2 f28 => ?_) (fun h2 f28 => ?_)
   ·refine L.fa 3 f28 U34 rfl wsz3_ta (hw := (f28.yes rfl rfl)) fun a29 f29 => ?_
    refine L.ld f29 U3 Bg0 (hw := (f29.yes rfl rfl)) fun a30 f30 => ?_
    refine L.fa 3 f30 U34 rfl wsz3_ta (hw := (f30.yes rfl rfl)) fun a31 f31 => ?_
    refine L.ld f31 U3 Bg1 (hw := (f31.yes rfl rfl)) fun a32 f32 => ?_
    refine L.va f32 (E.eq f32) (hw := (f32.yes rfl rfl)) fun a33 f33 => ?_
    refine L.va f33 (E.pickT f33 rfl rfl) fun a34 f34 => ?_
    refine L.mv f34 fun a35 f35 => ?_
    clear f27 f28 a27 f29 a29 f30 a30 f31 a31 f32 a32 f33 a33 f34 a34
    refine f35.splitD 31 rfl (fun h3 f36 => ?_) (fun h3 f36 => ?_)
    ·refine L.fa 4 f36 U34 rfl wsz3_ta (hw := (f36.yes rfl rfl)) fun a37 f37 => ?_
     refine L.ld f37 U3 Bg0 (hw := (f37.yes rfl rfl)) fun a38 f38 => ?_
     refine L.fa 4 f38 U34 rfl wsz3_ta (hw := (f38.yes rfl rfl)) fun a39 f39 => ?_
     refine L.ld f39 U3 Bg1 (hw := (f39.yes rfl rfl)) fun a40 f40 => ?_
     refine L.va f40 (E.eq f40) (hw := (f40.yes rfl rfl)) fun a41 f41 => ?_
     refine L.va f41 (E.pickT f41 rfl rfl) fun a42 f42 => ?_
     refine L.mv f42 fun a43 f43 => ?_
     clear f35 f36 a35 f37 a37 f38 a38 f39 a39 f40 a40 f41 a41 f42 a42
     refine f43.splitD 38 rfl (fun h4 f44 => ?_) (fun h4 f44 => ?_)
     ·refine L.fa 5 f44 U34 rfl wsz9_ta (hw := (f44.yes rfl rfl)) fun a45 f45 => ?_
      refine L.ld f45 U9 Bg0 (hw := (f45.yes rfl rfl)) fun a46 f46 => ?_
      refine L.fa 5 f46 U34 rfl wsz9_ta (hw := (f46.yes rfl rfl)) fun a47 f47 => ?_
      refine L.ld f47 U9 Bg1 (hw := (f47.yes rfl rfl)) fun a48 f48 => ?_
      refine L.va f48 (E.eqlS f48 rfl rfl) (hw := (f48.yes rfl rfl)) fun a49 f49 => ?_
      refine L.va f49 (E.pickT f49 rfl rfl) fun a50 f50 => ?_
      refine L.mv f50 fun a51 f51 => ?_
      clear f43 f44 a43 f45 a45 f46 a46 f47 a47 f48 a48 f49 a49 f50 a50
      refine f51.splitD 45 rfl (fun h5 f52 => ?_) (fun h5 f52 => ?_)
      ·refine L.fa 6 f52 U34 rfl wsz28_ta (hw := (f52.yes rfl rfl)) fun a53 f53 => ?_
       refine L.ld f53 U28 Bg0 (hw := (f53.yes rfl rfl)) fun a54 f54 => ?_
       refine L.fa 6 f54 U34 rfl wsz28_ta (hw := (f54.yes rfl rfl)) fun a55 f55 => ?_
       refine L.ld f55 U28 Bg1 (hw := (f55.yes rfl rfl)) fun a56 f56 => ?_
       refine L.cl f56 (run_call Try.call56 (args2 f56 rfl rfl)) (beq_any _ _ _ _ _ _ _ (IP.pay.kept HK) (IQ.pay.kept HK)) ?_ (hw := (f56.yes rfl rfl))
       clear f51 f52 a51 f53 a53 f54 a54 f55 a55
       rintro e w2x ⟨rfl, rfl⟩
       refine ⟨_, rfl, fun a57 f57 => ?_⟩
       refine L.va f57 (E.pickT f57 rfl rfl) fun a58 f58 => ?_
       refine L.mv f58 fun a59 f59 => ?_
       clear f56 a56 f57 a57 f58 a58
       refine f59.splitD 52 rfl (fun h6 f60 => ?_) (fun h6 f60 => ?_)
       ·refine L.va f60 (E.loadB f60 U34 rfl wsz34_ta rfl (Bg0) rfl) (hw := (f60.yes rfl rfl)) fun a61 f61 => ?_
        refine L.va f61 (E.loadB f61 U34 rfl wsz34_ta rfl (Bg1) rfl) (hw := (f61.yes rfl rfl)) fun a62 f62 => ?_
        refine L.cl f62 (run_call Try.call57 (args2 f62 rfl rfl)) (greets_any p q s t _ (IP.kept HK) (IQ.kept HK)) ?_ (hw := (f62.yes rfl rfl))
        clear f59 f60 a59 f61 a61
        rintro e w3 ⟨kc3, rfl⟩
        refine ⟨_, rfl, fun a63 f63 => ?_⟩
        have szw3 := kc3.size
        replace HK := HK.z kc3
        replace Bg0 := Bg0.z kc3
        replace Bg1 := Bg1.z kc3
        clear f62 a62 kc3
        refine L.va f63 (E.pickT f63 rfl rfl) fun a64 f64 => ?_
        refine L.mv f64 fun a65 f65 => ?_
        clear f63 a63 f64 a64
        refine f65.split 57 rfl (fun h7 f66 => ?_) (fun h7 f66 => ?_)
        ·refine L.fa 12 f66 U34 rfl wsz30_ta (hw := (f66.yes rfl rfl)) fun a67 f67 => ?_
         refine L.va f67 (E.loadR f67 U30 rfl wsz30_ta rfl (will_row Bg0) rfl) (hw := (f67.yes rfl rfl)) fun a68 f68 => ?_
         refine L.fa 12 f68 U34 rfl wsz30_ta (hw := (f68.yes rfl rfl)) fun a69 f69 => ?_
         refine L.va f69 (E.loadR f69 U30 rfl wsz30_ta rfl (will_row Bg1) rfl) (hw := (f69.yes rfl rfl)) fun a70 f70 => ?_
         refine L.cl f70 (run_call Try.call58 (args2 f70 rfl rfl)) (wills_any p q s t _ (IP.kept HK) (IQ.kept HK)) ?_ (hw := (f70.yes rfl rfl))
         clear f65 f66 a65 f67 a67 f68 a68 f69 a69
         rintro e w4 ⟨kc4, rfl⟩
         refine ⟨_, rfl, fun a71 f71 => ?_⟩
         have szw4 := kc4.size
         replace HK := HK.z kc4
         replace Bg0 := Bg0.z kc4
         replace Bg1 := Bg1.z kc4
         clear f70 a70 kc4
         refine L.va f71 (E.pickT f71 rfl rfl) fun a72 f72 => ?_
         refine L.mv f72 fun a73 f73 => ?_
         clear f71 a71 f72 a72
         refine f73.split 64 rfl (fun h8 f74 => ?_) (fun h8 f74 => ?_)
         ·refine L.fa 22 f74 U34 rfl wsz31_ta (hw := (f74.yes rfl rfl)) fun a75 f75 => ?_
          refine L.ld f75 U31 Bg0 (hw := (f75.yes rfl rfl)) fun a76 f76 => ?_
          refine L.fa 22 f76 U34 rfl wsz31_ta (hw := (f76.yes rfl rfl)) fun a77 f77 => ?_
          refine L.ld f77 U31 Bg1 (hw := (f77.yes rfl rfl)) fun a78 f78 => ?_
          refine L.cl f78 (run_call Try.call59 (args2 f78 rfl rfl)) (eqSub_any _ _ _ _ _ _ _ (IP.subs.kept HK) (IQ.subs.kept HK) (by omega)) ?_ (hw := (f78.yes rfl rfl))
          clear f73 f74 a73 f75 a75 f76 a76 f77 a77
          rintro e w5 ⟨kc5, rfl⟩
          refine ⟨_, rfl, fun a79 f79 => ?_⟩
          have szw5 := kc5.size
          replace HK := HK.z kc5
          replace Bg0 := Bg0.z kc5
          replace Bg1 := Bg1.z kc5
          clear f78 a78 kc5
          refine L.va f79 (E.pickT f79 rfl rfl) fun a80 f80 => ?_
          refine L.mv f80 fun a81 f81 => ?_
          clear f79 a79 f80 a80
          refine f81.splitD 71 rfl (fun h9 f82 => ?_) (fun h9 f82 => ?_)
          ·refine L.fa 23 f82 U34 rfl wsz32_ta (hw := (f82.yes rfl rfl)) fun a83 f83 => ?_
           refine L.ld f83 U32 Bg0 (hw := (f83.yes rfl rfl)) fun a84 f84 => ?_
           refine L.fa 23 f84 U34 rfl wsz32_ta (hw := (f84.yes rfl rfl)) fun a85 f85 => ?_
           refine L.ld f85 U32 Bg1 (hw := (f85.yes rfl rfl)) fun a86 f86 => ?_
           refine L.cl f86 (run_call Try.call60 (args2 f86 rfl rfl)) (eqInt_any _ _ _ _ _ _ _ (IP.codes.kept HK) (IQ.codes.kept HK) (by omega)) ?_ (hw := (f86.yes rfl rfl))
           clear f81 f82 a81 f83 a83 f84 a84 f85 a85
           rintro e w6 ⟨kc6, rfl⟩
           refine ⟨_, rfl, fun a87 f87 => ?_⟩
           have szw6 := kc6.size
           replace HK := HK.z kc6
           replace Bg0 := Bg0.z kc6
           replace Bg1 := Bg1.z kc6
           clear f86 a86 kc6
           refine L.va f87 (E.pickT f87 rfl rfl) fun a88 f88 => ?_
           refine L.ag f88 fun a89 f89 => ?_
           have f90 := f89.sub (sc 4 sn)
           refine wpList_nil (hK1 _ _ (wp_ret ?_)); (try simp only [xt, xb]); refine C.ret f90 rfl rfl ?_
           exact ⟨HK, by rw [same_eq]; simp [*]⟩
          refine L.run f82 (rest' := []) (by kernel_rfl) fun a83 f83 => ?_
          clear f81
          have f84 := f83.sub (sv 4 (.bool false) sn)
          refine wpList_nil (hK1 _ _ (wp_ret ?_)); (try simp only [xt, xb]); refine C.ret f84 rfl rfl ?_
          exact ⟨HK, by rw [same_eq]; simp [*]⟩
         refine L.run f74 (rest' := []) (by kernel_rfl) fun a75 f75 => ?_
         clear f73
         have f76 := f75.sub (sv 4 (.bool false) sn)
         refine wpList_nil (hK1 _ _ (wp_ret ?_)); (try simp only [xt, xb]); refine C.ret f76 rfl rfl ?_
         exact ⟨HK, by rw [same_eq]; simp [*]⟩
        refine L.run f66 (rest' := []) (by kernel_rfl) fun a67 f67 => ?_
        clear f65
        have f68 := f67.sub (sv 4 (.bool false) sn)
        refine wpList_nil (hK1 _ _ (wp_ret ?_)); (try simp only [xt, xb]); refine C.ret f68 rfl rfl ?_
        exact ⟨HK, by rw [same_eq]; simp [*]⟩
       refine L.run f60 (rest' := []) (by kernel_rfl) fun a61 f61 => ?_
       clear f59
       have f62 := f61.sub (sv 4 (.bool false) sn)
       refine wpList_nil (hK1 _ _ (wp_ret ?_)); (try simp only [xt, xb]); refine C.ret f62 rfl rfl ?_
       exact ⟨HK, by rw [same_eq]; simp [*]⟩
      refine L.run f52 (rest' := []) (by kernel_rfl) fun a53 f53 => ?_
      clear f51
      have f54 := f53.sub (sv 4 (.bool false) sn)
      refine wpList_nil (hK1 _ _ (wp_ret ?_)); (try simp only [xt, xb]); refine C.ret f54 rfl rfl ?_
      exact ⟨HK, by rw [same_eq]; simp [*]⟩
     refine L.run f44 (rest' := []) (by kernel_rfl) fun a45 f45 => ?_
     clear f43
     have f46 := f45.sub (sv 4 (.bool false) sn)
     refine wpList_nil (hK1 _ _ (wp_ret ?_)); (try simp only [xt, xb]); refine C.ret f46 rfl rfl ?_
     exact ⟨HK, by rw [same_eq]; simp [*]⟩
    refine L.run f36 (rest' := []) (by kernel_rfl) fun a37 f37 => ?_
    clear f35
    have f38 := f37.sub (sv 4 (.bool false) sn)
    refine wpList_nil (hK1 _ _ (wp_ret ?_)); (try simp only [xt, xb]); refine C.ret f38 rfl rfl ?_
    exact ⟨HK, by rw [same_eq]; simp [*]⟩
   refine L.run f28 (rest' := []) (by kernel_rfl) fun a29 f29 => ?_
   clear f27
   have f30 := f29.sub (sv 4 (.bool false) sn)
   refine wpList_nil (hK1 _ _ (wp_ret ?_)); (try simp only [xt, xb]); refine C.ret f30 rfl rfl ?_
   exact ⟨HK, by rw [same_eq]; simp [*]⟩
  refine L.run f20 (rest' := []) (by kernel_rfl) fun a21 f21 => ?_
  clear f19
  have f22 := f21.sub (sv 4 (.bool false) sn)
  refine wpList_nil (hK1 _ _ (wp_ret ?_)); (try simp only [xt, xb]); refine C.ret f22 rfl rfl ?_
  exact ⟨HK, by rw [same_eq]; simp [*]⟩
 refine L.run f12 (rest' := []) (by kernel_rfl) fun a13 f13 => ?_
 clear f11
 have f14 := f13.sub (sv 4 (.bool false) sn)
 refine wpList_nil (hK1 _ _ (wp_ret ?_)); (try simp only [xt, xb]); refine C.ret f14 rfl rfl ?_
 exact ⟨HK, by rw [same_eq]; simp [*]⟩
set_option maxHeartbeats 1000000 in
theorem clone_any (l : List UInt8) (A : Option Addr) (c : Nat) (w : World) (SA : Sl w A l.length 1 (l.map u8)) (hm : l.length ≤ 100000000) : Calls Try.prog 50 #[.slice A l.length c] w (fun e w' => Kept [] w w' ∧ ∃ A c, e = .returned (.slice A l.length c) ∧ Fresh w w' 5 1 A l.length c (l.map u8)) := by
 have HK : Kept [] w w := Kept.refl [] w
 refine C.enter Try.func50 rfl Try.ntmps50 rfl ?_
 intro a0 f0
 have f1 : Fr 8 a0 [(0, .slice A l.length c)] := f0
 refine C.sk fun K0 hK0 => ?_
 refine L.ag f1 fun a2 f2 => ?_
 refine wpList_nil (hK0 _ _ ?_)
 have f3 := f2.sub (sc 0 sn)
 refine wp_seq_k fun K1 hK1 => ?_
 refine C.sk fun K2 hK2 => ?_
 refine L.mv f3 fun a4 f4 => ?_
 refine L.va f4 (E.eqlNil f4 U28 rfl rfl) fun a5 f5 => ?_
 refine wpList_nil (hK2 _ _ ?_)
 have f6 := f5.sub (sc 0 (sc 4 sn))
 clear f0 f1 a0 f2 f3 a2 f4 a4 f5
 refine f6.split 4 rfl (fun h0 f7 => ?_) (fun h0 f7 => ?_)
 ·have hA0 : A = none := by simpa using h0
  clear f6
  have hl0 : l = [] := by
   rcases l with _ | ⟨d, r⟩
   ·rfl
   obtain ⟨b, off, e⟩ := SA.addr (by simp)
   rw [hA0] at e
   cases e
  refine C.condT f7 rfl ?_
  refine C.sk fun K3 hK3 => ?_
  refine L.ag f7 fun a8 f8 => ?_
  have f9 := f8.sub (sc 2 sn)
  refine wpList_nil (hK3 _ _ (wp_ret ?_)); (try simp only [xt, xb]); refine C.ret f9 rfl rfl ?_
  clear f7 a5 f8
  subst hl0
  exact ⟨HK, none, 0, rfl, Fresh.nil _ _ _ _⟩
 refine C.condF f7 rfl ?_
 refine wp_skip (hK1 _ _ ?_)
 have f8 := f7.sub (sc 0 sn)
 refine C.sk fun K4 hK4 => ?_
 refine L.buildNone f8 wantedN (by decide) U28 wsz5_ta fun a9 w1 g0 N0 f9 => ?_
 have OW := N0.own (k := 0) (size := 1) rfl (by decide)
 have Bg0 := N0.blk
 have kg0 := N0.kept
 have log0 := N0.lo
 have ltg0 := Bg0.lt
 have szw1 := kg0.size
 have frg0 : w.heap.size ≤ g0 := Nat.le_trans HK.size log0
 replace HK := HK.z kg0
 clear f6 f7 N0 kg0
 refine L.mv f9 fun a10 f10 => ?_
 refine L.append f10 wantedN (by decide) U28 wzib5_ta rfl rfl rfl rfl (OW) (SA.kept HK) (u8_one) (by unfold maxLen; omega) (by omega) fun a11 w2 A2 c2 AP2 f11 => ?_
 have kap2 : Kept [g0] w1 w2 := by simpa [Value.ownBlock] using AP2.kept
 have FR := AP2.next (⟨OW, fun b hb => by simp at hb; omega⟩ : Fresh w w1 5 1 (some ⟨g0, 0, none⟩) 0 0 _) HK.size
 have szw2 := kap2.size
 replace HK := HK.trans kap2 (ktr (by omega))
 clear f8 a5 f9 a9 f10 a10 kap2
 refine L.ag f11 fun a12 f12 => ?_
 have f13 := f12.sub (sc 2 sn)
 refine wpList_nil (hK4 _ _ (wp_ret ?_)); (try simp only [xt, xb]); refine C.ret f13 rfl rfl ?_
 simp only [Nat.zero_add] at FR f13 ⊢
 exact ⟨HK, _, _, rfl, by simpa using FR⟩
set_option maxHeartbeats 1000000 in
theorem cloneS_any (l : List (ByteArray × Int)) (A : Option Addr) (c : Nat) (w : World) (SA : Sl w A l.length 2 (subCells l)) (hm : l.length ≤ 100000000) : Calls Try.prog 51 #[.slice A l.length c] w (fun e w' => Kept [] w w' ∧ ∃ A c, e = .returned (.slice A l.length c) ∧ Fresh w w' 46 2 A l.length c (subCells l)) := by
 have HK : Kept [] w w := Kept.refl [] w
 refine C.enter Try.func51 rfl Try.ntmps51 rfl ?_
 intro a0 f0
 have f1 : Fr 8 a0 [(0, .slice A l.length c)] := f0
 refine C.sk fun K0 hK0 => ?_
 refine L.ag f1 fun a2 f2 => ?_
 refine wpList_nil (hK0 _ _ ?_)
 have f3 := f2.sub (sc 0 sn)
 refine wp_seq_k fun K1 hK1 => ?_
 refine C.sk fun K2 hK2 => ?_
 refine L.mv f3 fun a4 f4 => ?_
 refine L.va f4 (E.eqlNil f4 U31 rfl rfl) fun a5 f5 => ?_
 refine wpList_nil (hK2 _ _ ?_)
 have f6 := f5.sub (sc 0 (sc 4 sn))
 clear f0 f1 a0 f2 f3 a2 f4 a4 f5
 refine f6.split 4 rfl (fun h0 f7 => ?_) (fun h0 f7 => ?_)
 ·have hA0 : A = none := by simpa using h0
  clear f6
  have hl0 : l = [] := by
   rcases l with _ | ⟨d, r⟩
   ·rfl
   obtain ⟨b, off, e⟩ := SA.addr (by simp)
   rw [hA0] at e
   cases e
  refine C.condT f7 rfl ?_
  refine C.sk fun K3 hK3 => ?_
  refine L.ag f7 fun a8 f8 => ?_
  have f9 := f8.sub (sc 2 sn)
  refine wpList_nil (hK3 _ _ (wp_ret ?_)); (try simp only [xt, xb]); refine C.ret f9 rfl rfl ?_
  clear f7 a5 f8
  subst hl0
  exact ⟨HK, none, 0, rfl, Fresh.nil _ _ _ _⟩
 refine C.condF f7 rfl ?_
 refine wp_skip (hK1 _ _ ?_)
 have f8 := f7.sub (sc 0 sn)
 refine C.sk fun K4 hK4 => ?_
 refine L.buildNone f8 wantedN (by decide) U31 wsz46_ta fun a9 w1 g0 N0 f9 => ?_
 have OW := N0.own (k := 0) (size := 2) rfl (by decide)
 have Bg0 := N0.blk
 have kg0 := N0.kept
 have log0 := N0.lo
 have ltg0 := Bg0.lt
 have szw1 := kg0.size
 have frg0 : w.heap.size ≤ g0 := Nat.le_trans HK.size log0
 replace HK := HK.z kg0
 clear f6 f7 N0 kg0
 refine L.mv f9 fun a10 f10 => ?_
 refine L.append f10 wantedN (by decide) U31 wzib46_ta rfl rfl rfl rfl (OW) (SA.kept HK) (subCells_one _) (by unfold maxLen; omega) (by omega) fun a11 w2 A2 c2 AP2 f11 => ?_
 have kap2 : Kept [g0] w1 w2 := by simpa [Value.ownBlock] using AP2.kept
 have FR := AP2.next (⟨OW, fun b hb => by simp at hb; omega⟩ : Fresh w w1 46 2 (some ⟨g0, 0, none⟩) 0 0 _) HK.size
 have szw2 := kap2.size
 replace HK := HK.trans kap2 (ktr (by omega))
 clear f8 a5 f9 a9 f10 a10 kap2
 refine L.ag f11 fun a12 f12 => ?_
 have f13 := f12.sub (sc 2 sn)
 refine wpList_nil (hK4 _ _ (wp_ret ?_)); (try simp only [xt, xb]); refine C.ret f13 rfl rfl ?_
 simp only [Nat.zero_add] at FR f13 ⊢
 exact ⟨HK, _, _, rfl, by simpa using FR⟩
set_option maxHeartbeats 1000000 in
theorem cloneI_any (l : List Int) (A : Option Addr) (c : Nat) (w : World) (SA : Sl w A l.length 1 (codeCells l)) (hm : l.length ≤ 100000000) : Calls Try.prog 52 #[.slice A l.length c] w (fun e w' => Kept [] w w' ∧ ∃ A c, e = .returned (.slice A l.length c) ∧ Fresh w w' 3 1 A l.length c (codeCells l)) := by
 have HK : Kept [] w w := Kept.refl [] w
 refine C.enter Try.func52 rfl Try.ntmps52 rfl ?_
 intro a0 f0
 have f1 : Fr 8 a0 [(0, .slice A l.length c)] := f0
 refine C.sk fun K0 hK0 => ?_
 refine L.ag f1 fun a2 f2 => ?_
 refine wpList_nil (hK0 _ _ ?_)
 have f3 := f2.sub (sc 0 sn)
 refine wp_seq_k fun K1 hK1 => ?_
 refine C.sk fun K2 hK2 => ?_
 refine L.mv f3 fun a4 f4 => ?_
 refine L.va f4 (E.eqlNil f4 U32 rfl rfl) fun a5 f5 => ?_
 refine wpList_nil (hK2 _ _ ?_)
 have f6 := f5.sub (sc 0 (sc 4 sn))
 clear f0 f1 a0 f2 f3 a2 f4 a4 f5
 refine f6.split 4 rfl (fun h0 f7 => ?_) (fun h0 f7 => ?_)
 ·have hA0 : A = none := by simpa using h0
  clear f6
  have hl0 : l = [] := by
   rcases l with _ | ⟨d, r⟩
   ·rfl
   obtain ⟨b, off, e⟩ := SA.addr (by simp)
   rw [hA0] at e
   cases e
  refine C.condT f7 rfl ?_
  refine C.sk fun K3 hK3 => ?_
  refine L.ag f7 fun a8 f8 => ?_
  have f9 := f8.sub (sc 2 sn)
  refine wpList_nil (hK3 _ _ (wp_ret ?_)); (try simp only [xt, xb]); refine C.ret f9 rfl rfl ?_
  clear f7 a5 f8
  subst hl0
  exact ⟨HK, none, 0, rfl, Fresh.nil _ _ _ _⟩
 refine C.condF f7 rfl ?_
 refine wp_skip (hK1 _ _ ?_)
 have f8 := f7.sub (sc 0 sn)
 refine C.sk fun K4 hK4 => ?_
 refine L.buildNone f8 wantedN (by decide) U32 wsz3_ta fun a9 w1 g0 N0 f9 => ?_
 have OW := N0.own (k := 0) (size := 1) rfl (by decide)
 have Bg0 := N0.blk
 have kg0 := N0.kept
 have log0 := N0.lo
 have ltg0 := Bg0.lt
 have szw1 := kg0.size
 have frg0 : w.heap.size ≤ g0 := Nat.le_trans HK.size log0
 replace HK := HK.z kg0
 clear f6 f7 N0 kg0
 refine L.mv f9 fun a10 f10 => ?_
 refine L.append f10 wantedN (by decide) U32 wzib3_ta rfl rfl rfl rfl (OW) (SA.kept HK) (codeCells_one _) (by unfold maxLen; omega) (by omega) fun a11 w2 A2 c2 AP2 f11 => ?_
 have kap2 : Kept [g0] w1 w2 := by simpa [Value.ownBlock] using AP2.kept
 have FR := AP2.next (⟨OW, fun b hb => by simp at hb; omega⟩ : Fresh w w1 3 1 (some ⟨g0, 0, none⟩) 0 0 _) HK.size
 have szw2 := kap2.size
 replace HK := HK.trans kap2 (ktr (by omega))
 clear f8 a5 f9 a9 f10 a10 kap2
 refine L.ag f11 fun a12 f12 => ?_
 have f13 := f12.sub (sc 2 sn)
 refine wpList_nil (hK4 _ _ (wp_ret ?_)); (try simp only [xt, xb]); refine C.ret f13 rfl rfl ?_
 simp only [Nat.zero_add] at FR f13 ⊢
 exact ⟨HK, _, _, rfl, by simpa using FR⟩
end Go.Proofs.Ytkdeedhjkjffpaa
namespace Go.Hub
open Go.RowKit
theorem Fr.any {n : Nat} {a : Act} {l : FL} (f : Fr n a l) (d : Nat) (hd : d < n) : ∃ v, Fr n a ((d, v) :: l) := by
  have h : d < a.tmps.size := by rw [f.size]; exact hd
  refine ⟨a.tmps[d], f.defers, f.size, fun i u hi => ?_⟩
  unfold look at hi
  by_cases e : d = i
  · subst e
    simp at hi
    subst hi
    simp [h]
  have e2 : (d == i) = false := by simpa using e
  rw [e2] at hi
  exact f.slot i u hi
namespace Gp
def lst (L0 : Array Bool) (m : Nat) : Array Bool := ((List.range L0.size).map fun j => L0.getD j true || m.testBit j).toArray
def subs : List Nat → List Nat
  | [] => [0]
  | i :: r => subs r ++ (subs r).map (· ||| 2 ^ i)
def cnt (G : List Nat) (m : Nat) : Nat := (G.filter fun i => !m.testBit i).length
def closed (md : Region.Mode) (ops : Array Oper) (L0 : Array Bool) (G : List Nat) (m : Nat) : Bool :=
  G.all fun i => !m.testBit i || ((ops[i]?).map (·.after.all fun e => !Region.binds md e || (lst L0 m).getD e.on false)).getD false
def stepOk (md : Region.Mode) (ops : Array Oper) (L0 : Array Bool) (G : List Nat) (m i : Nat) : Bool :=
  G.contains i && closed md ops L0 G (m ||| 2 ^ i) && cnt G m == cnt G (m ||| 2 ^ i) + 1 && (subs G).contains (m ||| 2 ^ i) && (lst L0 m).setIfInBounds i true == lst L0 (m ||| 2 ^ i)
def okAt (md : Region.Mode) (ops : Array Oper) (L0 L1 : Array Bool) (G : List Nat) (m : Nat) : Bool :=
  !closed md ops L0 G m || (if cnt G m = 0 then lst L0 m == L1 else !(Region.ready md ops (lst L0 m)).isEmpty && (Region.ready md ops (lst L0 m)).all (stepOk md ops L0 G m))
def needs (md : Region.Mode) (ops : Array Oper) (L0 : Array Bool) (G : List Nat) (i j : Nat) : Bool :=
  (subs G).all fun m => !closed md ops L0 G m || !(Region.ready md ops (lst L0 m)).contains i || m.testBit j
def okAll (md : Region.Mode) (ops : Array Oper) (L0 L1 : Array Bool) (G : List Nat) : Bool := (subs G).all (okAt md ops L0 L1 G) && (subs G).contains 0 && closed md ops L0 G 0 && lst L0 0 == L0
section
variable {P : Program} {ops : Array Oper} {Q : Exit → Act → World → Prop} {md : Region.Mode} {S : World → Prop} {G : List Nat} {L0 L1 : Array Bool} {fuel m i j : Nat}
theorem other (h : i ≠ j) : (m ||| 2 ^ i).testBit j = m.testBit j := by
  rw [Nat.testBit_or, Nat.testBit_two_pow]
  simp [h]
theorem full (h : cnt G m = 0) : ∀ i ∈ G, m.testBit i = true := fun i hi => by
  unfold cnt at h
  have := List.eq_nil_of_length_eq_zero h
  rw [List.filter_eq_nil_iff] at this
  have := this i hi
  simpa using this
theorem need (h : needs md ops L0 G i j = true) (hm : m ∈ subs G) (hc : closed md ops L0 G m = true) (hi : i ∈ Region.ready md ops (lst L0 m)) : m.testBit j = true := by
  have h1 := List.all_eq_true.1 h m hm
  rw [hc] at h1
  have h2 : (Region.ready md ops (lst L0 m)).contains i = true := by simpa using hi
  rw [h2] at h1
  simpa using h1
theorem go (hc : (subs G).all (okAt md ops L0 L1 G) = true) (I : Nat → Act → World → Prop)
    (step : ∀ m i a w, m ∈ subs G → closed md ops L0 G m = true → i ∈ Region.ready md ops (lst L0 m) → i ∈ G → I m a w → wpOp P ops Q i (fun a' w' => S w' ∧ I (m ||| 2 ^ i) a' w') a w)
    (K : ∀ m a w, (∀ i ∈ G, m.testBit i = true) → I m a w → wpAnyH P md ops Q S fuel L1 a w) :
    ∀ n m a w, cnt G m = n → m ∈ subs G → closed md ops L0 G m = true → I m a w → wpAnyH P md ops Q S (fuel + n) (lst L0 m) a w
  | 0, m, a, w, hn, hm, hcl, hI => by
    have h := List.all_eq_true.1 hc m hm
    unfold okAt at h
    rw [hcl, if_pos hn] at h
    have e : lst L0 m = L1 := by simpa using h
    rw [e]
    exact K m a w (full hn) hI
  | n + 1, m, a, w, hn, hm, hcl, hI => by
    have h := List.all_eq_true.1 hc m hm
    unfold okAt at h
    rw [hcl, if_neg (by omega)] at h
    simp only [Bool.not_true, Bool.false_or, Bool.and_eq_true, Bool.not_eq_true', List.isEmpty_eq_false_iff] at h
    refine wpAnyH_all rfl h.1 fun i hi => ?_
    have hs := List.all_eq_true.1 h.2 i hi
    unfold stepOk at hs
    simp only [Bool.and_eq_true, beq_iff_eq] at hs
    obtain ⟨⟨⟨⟨h1, h2⟩, h3⟩, h4⟩, h5⟩ := hs
    refine wpOp_mono (fun a' w' h' => ⟨h'.1, ?_⟩) (step m i a w hm hcl hi (by simpa using h1) hI)
    rw [h5]
    exact go hc I step K n (m ||| 2 ^ i) a' w' (by omega) (by simpa using h4) h2 h'.2
theorem enter {fuel0 : Nat} {a : Act} {w : World} (I : Nat → Act → World → Prop) (hc : okAll md ops L0 L1 G = true) (hf : fuel0 = fuel + cnt G 0) (h0 : I 0 a w)
    (step : ∀ m i a w, m ∈ subs G → closed md ops L0 G m = true → i ∈ Region.ready md ops (lst L0 m) → i ∈ G → I m a w → wpOp P ops Q i (fun a' w' => S w' ∧ I (m ||| 2 ^ i) a' w') a w)
    (K : ∀ m a w, (∀ i ∈ G, m.testBit i = true) → I m a w → wpAnyH P md ops Q S fuel L1 a w) : wpAnyH P md ops Q S fuel0 L0 a w := by
  unfold okAll at hc
  simp only [Bool.and_eq_true, beq_iff_eq] at hc
  obtain ⟨⟨⟨h1, h2⟩, h3⟩, h4⟩ := hc
  have h := go (Q := Q) (S := S) (fuel := fuel) h1 I step K (cnt G 0) 0 a w rfl (by simpa using h2) h3 h0
  rw [h4] at h
  rw [hf]
  exact h
end
end Gp
end Go.Hub
namespace Go.Hub
open Go.RowKit Go.WideShapes Go.ChangeMaps
open Go.Maps (Keyed)
structure MT where
  k : TypeId
  e : TypeId
  K : Type
  V : Type
  dom : K → Prop
  kv : K → Value
  kl : K → Lit
  ev : V → Value
structure MT.Ok (M : MT) (P : Program) : Prop where
  keyed : Keyed P M.k
  of : ∀ x, M.dom x → keyOf P M.k (M.kv x) = some (M.kl x)
  inj : ∀ x y, M.dom x → M.dom y → M.kl x = M.kl y → x = y
def RV (v : Value) : Option (DataW Value × List MemPlace) := some (.held v, [])
section
variable {K V : Type} [DecidableEq K]
def lk (E : List (K × V)) (x : K) : Option V := (E.find? fun p => decide (p.1 = x)).map (·.2)
def strike (E : List (K × V)) (x : K) : List (K × V) := E.filter fun p => !decide (p.1 = x)
theorem lk_cons (y : K) (v : V) (E : List (K × V)) (x : K) : lk ((y, v) :: E) x = if y = x then some v else lk E x := by
  unfold lk
  rw [List.find?_cons]
  by_cases h : y = x <;> simp [h]
theorem lk_strike_same (E : List (K × V)) (x : K) : lk (strike E x) x = none := by
  induction E with
  | nil => rfl
  | cons p r ih =>
    obtain ⟨y, v⟩ := p
    unfold strike
    rw [List.filter_cons]
    by_cases h : y = x
    · simpa [h, strike] using ih
    simp only [h, decide_false, Bool.not_false, if_true]
    rw [lk_cons, if_neg h]
    exact ih
theorem lk_strike_other (E : List (K × V)) {x y : K} (hne : y ≠ x) : lk (strike E x) y = lk E y := by
  induction E with
  | nil => rfl
  | cons p r ih =>
    obtain ⟨z, v⟩ := p
    unfold strike
    rw [List.filter_cons]
    by_cases h : z = x
    · subst h
      rw [if_neg (by simp), lk_cons, if_neg (fun e => hne e.symm)]
      exact ih
    simp only [h, decide_false, Bool.not_false, if_true]
    rw [lk_cons, lk_cons]
    by_cases h2 : z = y
    · simp [h2]
    rw [if_neg h2, if_neg h2]
    exact ih
theorem lk_some {E : List (K × V)} {x : K} {v : V} (h : lk E x = some v) : (x, v) ∈ E := by
  unfold lk at h
  cases hf : E.find? (fun p => decide (p.1 = x)) with
  | none => rw [hf] at h; simp at h
  | some p =>
    rw [hf] at h
    simp at h
    have h1 := List.find?_some hf
    have h2 := List.mem_of_find?_eq_some hf
    simp at h1
    obtain ⟨a, b⟩ := p
    simp at h1 h
    rw [← h1, ← h]
    exact h2
theorem lk_none {E : List (K × V)} {x : K} (h : lk E x = none) : ∀ p ∈ E, p.1 ≠ x := fun p hp e => by
  unfold lk at h
  simp at h
  exact h p.1 p.2 hp e
theorem lk_mem {E : List (K × V)} (hd : (E.map (·.1)).Nodup) {x : K} {v : V} (h : (x, v) ∈ E) : lk E x = some v := by
  induction E with
  | nil => simp at h
  | cons p r ih =>
    obtain ⟨y, u⟩ := p
    rw [lk_cons]
    simp only [List.map_cons, List.nodup_cons] at hd
    rcases List.mem_cons.1 h with e | h
    · injection e with e1 e2
      rw [if_pos e1.symm, e2]
    rw [if_neg (fun e : y = x => hd.1 (by rw [e]; exact List.mem_map.2 ⟨_, h, rfl⟩))]
    exact ih hd.2 h
theorem strike_none {E : List (K × V)} {x : K} (h : lk E x = none) : strike E x = E := by
  unfold strike
  rw [List.filter_eq_self]
  intro p hp
  simpa using lk_none h p hp
theorem strike_len {E : List (K × V)} (hd : (E.map (·.1)).Nodup) (x : K) : (strike E x).length + (if (lk E x).isSome then 1 else 0) = E.length := by
  induction E with
  | nil => rfl
  | cons p r ih =>
    obtain ⟨y, u⟩ := p
    simp only [List.map_cons, List.nodup_cons] at hd
    rw [lk_cons]
    unfold strike
    rw [List.filter_cons]
    by_cases h : y = x
    · subst h
      have hn : lk r y = none := by
        cases hl : lk r y with
        | none => rfl
        | some v => exact absurd (List.mem_map.2 ⟨_, lk_some hl, rfl⟩) hd.1
      have e := strike_none hn
      unfold strike at e
      simp [e]
    have := ih hd.2
    unfold strike at this
    simp only [h, decide_false, Bool.not_false, if_true, if_false, List.length_cons]
    omega
theorem strike_nodup {E : List (K × V)} (hd : (E.map (·.1)).Nodup) (x : K) : ((strike E x).map (·.1)).Nodup := hd.sublist (List.Sublist.map _ List.filter_sublist)
theorem put_nodup {E : List (K × V)} (hd : (E.map (·.1)).Nodup) (x : K) (v : V) : (((x, v) :: strike E x).map (·.1)).Nodup := by
  rw [List.map_cons, List.nodup_cons]
  refine ⟨fun h => ?_, strike_nodup hd x⟩
  obtain ⟨p, hp, e⟩ := List.mem_map.1 h
  exact lk_none (lk_strike_same E x) p hp e
end
variable {M : MT} [DecidableEq M.K] {P : Program} {w w' : World} {m : Nat} {E : List (M.K × M.V)} {t : TypeId}
def IsAss (M : MT) [DecidableEq M.K] (P : Program) (w : World) (m : Nat) (E : List (M.K × M.V)) : Prop :=
  (E.map (·.1)).Nodup ∧ (∀ p ∈ E, M.dom p.1) ∧ ∃ D : DataW Value, w.ownsMap P M.k RV m E.length D ∧ Maps.size D = E.length ∧ (∀ x, M.dom x → Maps.has D (M.kl x) = (lk E x).isSome) ∧
    (∀ x zd, M.dom x → D.atKey (M.kl x) zd = match lk E x with | some v => .held (M.ev v) | none => zd) ∧ ∀ l, Maps.has D l = true → ∃ x, M.dom x ∧ l = M.kl x
theorem IsAss.lt (h : IsAss M P w m E) : m < w.heap.size := by obtain ⟨_, _, D, ho, _⟩ := h; exact ho.lt
theorem IsAss.made (M : MT) [DecidableEq M.K] (w : World) (P : Program) : IsAss M P (w.alloc (.map #[] 0)) w.heap.size [] :=
  ⟨by simp, by simp, .map [], World.ownsMap_made w P M.k RV, rfl, fun _ _ => rfl, fun _ _ _ => rfl, fun l h => by cases h⟩
theorem IsAss.of_block (h : IsAss M P w m E) (hb : w'.heap[m]? = w.heap[m]?) : IsAss M P w' m E := by
  obtain ⟨h1, h2, D, ho, h3⟩ := h
  obtain ⟨es, clock, hb0, F, hs, hD⟩ := ho
  exact ⟨h1, h2, D, ⟨es, clock, hb.trans hb0, F, hs, hD⟩, h3⟩
theorem IsAss.kept {L : List Nat} (h : IsAss M P w m E) (hk : Kept L w w') (hm : m ∉ L) : IsAss M P w' m E := h.of_block (hk.block m h.lt hm)
theorem IsAss.z (h : IsAss M P w m E) (hk : Kept [] w w') : IsAss M P w' m E := h.kept hk (by simp)
theorem rv_inj {v : Value} {d : DataW Value} {ps : List MemPlace} (h : RV v = some (d, ps)) {u : Value} (e : d = .held u) : v = u := by
  unfold RV at h
  subst e
  injection h with h
  injection h with h1 h2
  injection h1
theorem IsAss.look (h : IsAss M P w m E) (ok : M.Ok P) (ht : P.underlying t = some (.map M.k M.e)) {z : Value} (hz : (zeroValue M.e).run P w = .ok z w) {x : M.K} (hx : M.dom x) :
    (Instr.lookup t (.map (some m)) (M.kv x) false).run P w = .ok (match lk E x with | some v => M.ev v | none => z) w := by
  obtain ⟨_, _, D, ho, _, _, hat, _⟩ := h
  obtain ⟨v, ps, hrun, hv⟩ := ho.lookup ok.keyed ht hz (zd := .held z) (zp := []) rfl (ok.of x hx)
  rw [hat x _ hx] at hv
  rw [hrun]
  congr 1
  cases hl : lk E x with
  | none => rw [hl] at hv; exact rv_inj hv rfl
  | some u => rw [hl] at hv; exact rv_inj hv rfl
theorem IsAss.look_ok (h : IsAss M P w m E) (ok : M.Ok P) (ht : P.underlying t = some (.map M.k M.e)) {z : Value} (hz : (zeroValue M.e).run P w = .ok z w) {x : M.K} (hx : M.dom x) :
    (Instr.lookup t (.map (some m)) (M.kv x) true).run P w = .ok (.tuple #[match lk E x with | some v => M.ev v | none => z, .bool (lk E x).isSome]) w := by
  obtain ⟨_, _, D, ho, _, hhas, hat, _⟩ := h
  obtain ⟨v, ps, hrun, hv⟩ := ho.look_ok ok.keyed ht hz (zd := .held z) (zp := []) rfl (ok.of x hx)
  rw [hat x _ hx] at hv
  rw [hrun, hhas x hx]
  congr 1
  congr 1
  cases hl : lk E x with
  | none => rw [hl] at hv; rw [rv_inj hv rfl]
  | some u => rw [hl] at hv; rw [rv_inj hv rfl]
theorem IsAss.put (h : IsAss M P w m E) (ok : M.Ok P) (ht : P.underlying t = some (.map M.k M.e)) {x : M.K} (hx : M.dom x) (v : M.V) (hE : E.length < maxLen) :
    ∃ w', (Instr.mapUpdate t (.map (some m)) (M.kv x) (M.ev v)).run P w = .ok () w' ∧ IsAss M P w' m ((x, v) :: strike E x) ∧ Kept [m] w w' := by
  obtain ⟨hnd, hdm, D, ho, hs, hhas, hat, hall⟩ := h
  have hkey := ok.of x hx
  obtain ⟨w', hrun, ho', ht'⟩ := ho.store ok.keyed ht hE hkey (val := M.ev v) (d := .held (M.ev v)) (ps := []) rfl
  have tidy := ho.tidy ok.keyed
  have hlen := strike_len hnd x
  have hsz : Maps.size (D.put (M.kl x) (.held (M.ev v))) = ((x, v) :: strike E x).length := by
    rw [Maps.size_put tidy, hhas x hx, hs, List.length_cons]
    cases h1 : (lk E x).isSome <;> rw [h1] at hlen <;> simp at hlen ⊢ <;> omega
  have hne : ∀ y, M.dom y → y ≠ x → M.kl y ≠ M.kl x := fun y hy h e => h (ok.inj y x hy hx e)
  refine ⟨w', hrun, ⟨put_nodup hnd x v, ?_, _, ownsMap_exact ho' (by rw [hsz]; exact Nat.le_refl _), hsz, ?_, ?_, ?_⟩, turned_kept ht'⟩
  · intro p hp
    rcases List.mem_cons.1 hp with rfl | hp
    · exact hx
    exact hdm p (List.mem_filter.1 hp).1
  · intro y hy
    rw [lk_cons]
    by_cases e : x = y
    · subst e
      rw [if_pos rfl, Maps.has_put_same ho.isMap (ok.keyed.key hkey)]
      rfl
    rw [if_neg e, Maps.has_put_other (hne y hy (fun h => e h.symm)), hhas y hy, lk_strike_other E (fun h => e h.symm)]
  · intro y zd hy
    rw [lk_cons]
    by_cases e : x = y
    · subst e
      rw [if_pos rfl, Maps.atKey_put_same ho.isMap (ok.keyed.key hkey)]
    rw [if_neg e, Maps.atKey_put_other (hne y hy (fun h => e h.symm)), hat y zd hy, lk_strike_other E (fun h => e h.symm)]
  intro l hl
  by_cases e : l = M.kl x
  · exact ⟨x, hx, e⟩
  rw [Maps.has_put_other e] at hl
  exact hall l hl
theorem IsAss.drop (h : IsAss M P w m E) (ok : M.Ok P) (ht : P.underlying t = some (.map M.k M.e)) {x : M.K} (hx : M.dom x) (ty : TypeId) :
    ∃ w', (Builtin.delete_ #[t, M.k] ty #[.map (some m), M.kv x]).run P w = .ok (.tuple #[]) w' ∧ IsAss M P w' m (strike E x) ∧ Kept [m] w w' := by
  obtain ⟨hnd, hdm, D, ho, hs, hhas, hat, hall⟩ := h
  have hkey := ok.of x hx
  obtain ⟨w', hrun, ho', ht'⟩ := ho.drop ok.keyed ht hkey ty
  have tidy := ho.tidy ok.keyed
  have hlen := strike_len hnd x
  have hsz : Maps.size (D.del (M.kl x)) = (strike E x).length := by
    have := Maps.size_del (k := M.kl x) tidy
    rw [hhas x hx, hs] at this
    omega
  have hne : ∀ y, M.dom y → y ≠ x → M.kl y ≠ M.kl x := fun y hy h e => h (ok.inj y x hy hx e)
  refine ⟨w', hrun, ⟨strike_nodup hnd x, fun p hp => hdm p (List.mem_filter.1 hp).1, _, ownsMap_exact ho' (by rw [hsz]; exact Nat.le_refl _), hsz, ?_, ?_, ?_⟩, turned_kept ht'⟩
  · intro y hy
    by_cases e : y = x
    · subst e
      rw [Maps.has_del_same, lk_strike_same]
      rfl
    rw [Maps.has_del_other (hne y hy e), hhas y hy, lk_strike_other E e]
  · intro y zd hy
    by_cases e : y = x
    · subst e
      rw [Maps.atKey_del_same, lk_strike_same]
    rw [Maps.atKey_del_other (hne y hy e), hat y zd hy, lk_strike_other E e]
  intro l hl
  by_cases e : l = M.kl x
  · exact ⟨x, hx, e⟩
  rw [Maps.has_del_other e] at hl
  exact hall l hl
def InRange (M : MT) [DecidableEq M.K] (P : Program) (w : World) (m r : Nat) (E Rm : List (M.K × M.V)) (c : Nat) : Prop :=
  IsAss M P w m E ∧ (Rm.map (·.1)).Nodup ∧ (∀ p ∈ Rm, p ∈ E) ∧ ∃ (D : DataW Value) (left : Lit → Bool), w.ranges P M.k RV m r E.length D left c ∧
    (∀ x zd, M.dom x → D.atKey (M.kl x) zd = match lk E x with | some v => .held (M.ev v) | none => zd) ∧ (∀ x, M.dom x → left (M.kl x) = (lk Rm x).isSome) ∧ ∀ l, left l = true → ∃ x, M.dom x ∧ l = M.kl x
theorem IsAss.range (h : IsAss M P w m E) (ok : M.Ok P) (ht : P.underlying t = some (.map M.k M.e)) :
    ∃ w', (Instr.range t (.map (some m))).run P w = .ok (.pointer (some ⟨w.heap.size, 0, none⟩)) w' ∧ InRange M P w' m w.heap.size E E E.length ∧ Kept [] w w' ∧ w'.heap.size = w.heap.size + 1 := by
  have h0 := h
  obtain ⟨hnd, hdm, D, ho, hs, hhas, hat, hall⟩ := h
  obtain ⟨w', hrun, hr, hg, hz⟩ := ho.range ok.keyed ht
  have hk : Kept [] w w' := ⟨hg.os, hg.tape, hg.output, hg.size, fun i hi _ => hg.block i hi (by simp)⟩
  rw [hs] at hr
  exact ⟨w', hrun, ⟨h0.kept hk (by simp), hnd, fun p hp => hp, D, _, hr, hat, hhas, hall⟩, hk, hz⟩
theorem InRange.next {r c : Nat} {Rm : List (M.K × M.V)} (h : InRange M P w m r E Rm c) (ok : M.Ok P) (ty : TypeId) (hkv : ∀ (v : Value) (l : Lit), keyOf P M.k v = some l → ∀ x, M.dom x → l = M.kl x → v = M.kv x) :
    (Rm = [] ∧ (Instr.next (.pointer (some ⟨r, 0, none⟩)) false ty).run P w = .ok (.tuple #[.bool false]) w) ∨
    ∃ x v w' c', (x, v) ∈ Rm ∧ (Instr.next (.pointer (some ⟨r, 0, none⟩)) false ty).run P w = .ok (.tuple #[.bool true, M.kv x, M.ev v]) w' ∧ InRange M P w' m r E (strike Rm x) c' ∧ c' < c ∧ Kept [r] w w' ∧ (Instr.entry (.pointer (some ⟨r, 0, none⟩))).run P w' = .ok (.tuple #[M.kv x, M.ev v]) w' := by
  obtain ⟨ha, hnd, hin, D, left, hr, hat, hl, hall⟩ := h
  rcases hr.next ok.keyed ty with ⟨_, h0, hrun⟩ | ⟨key, v, l, y, w', c', hkey, hlk, hv, hD, hrun, hr', hc, hg, hz, hent⟩
  · refine .inl ⟨?_, hrun⟩
    cases Rm with
    | nil => rfl
    | cons p q =>
      have hd := ha.2.1 p (hin p (by simp))
      have := hl p.1 hd
      rw [h0, lk_cons, if_pos rfl] at this
      cases this
  obtain ⟨x, hx, rfl⟩ := hall l hlk
  have hs := hl x hx
  rw [hlk] at hs
  cases hu : lk Rm x with
  | none => rw [hu] at hs; cases hs
  | some u =>
    have hmem := lk_some hu
    have hE : lk E x = some u := lk_mem ha.1 (hin _ hmem)
    have h1 := hD .nil
    rw [hat x _ hx, hE] at h1
    have hv2 : v = M.ev u := by
      obtain ⟨d, ps⟩ := y
      exact rv_inj hv h1.symm
    have hk : Kept [r] w w' := ⟨hg.os, hg.tape, hg.output, hg.size, fun i hi hn => hg.block i hi (by simpa using hn)⟩
    have hrm : m ∉ [r] := by have := hr.ne; simpa using fun e => this e.symm
    refine .inr ⟨x, u, w', c', hmem, by rw [hrun, hv2, hkv key _ hkey x hx rfl], ⟨ha.kept hk hrm, strike_nodup hnd x, fun p hp => hin p (List.mem_filter.1 hp).1, D, _, hr', hat, ?_, fun l hl => hall l (by simp at hl; exact hl.1)⟩, hc, hk, by rw [hent, hv2, hkv key _ hkey x hx rfl]⟩
    intro z hz2
    rw [hl z hz2]
    by_cases e : z = x
    · subst e
      rw [lk_strike_same, WideAt.sameKey_self (ok.keyed.key (ok.of z hz2))]
      simp
    rw [lk_strike_other Rm e, Maps.sameKey_ne (fun h => e (ok.inj z x hz2 hx h))]
    simp
end Go.Hub
namespace Go.Hub
open Go.RowKit Go.WideShapes Go.ChangeMaps Go.WideElems
open Go.Maps (Keyed)
open Go.WideMaps (KeyLaw)
section
variable {M : MT} [DecidableEq M.K] {P : Program} {ops : Array Oper} {rest : List Oper} {a : Act} {w : World} {Q : Exit → Act → World → Prop} {n d m : Nat} {l : FL} {dst : Option Nat} {ty : TypeId} {ps : String} {af : Array Edge} {gd : Option (Nat × Bool)} {x y z : Operand} {t : TypeId} {Sw : World → Prop} {K : Act → World → Prop} {E : List (M.K × M.V)}
theorem E.lookA (f : Fr n a l) (h : IsAss M P w m E) (ok : M.Ok P) (ht : P.underlying t = some (.map M.k M.e)) {zv : Value} (hz : ∀ w, (zeroValue M.e).run P w = .ok zv w) (key : M.K) (hd : M.dom key) (hx : evl l x = some (.map (some m))) (hy : evl l y = some (M.kv key)) :
    (execOp a.eval ⟨dst, .lookup t x y false, ty, ps, af, gd⟩).run P w = .ok (.value (match lk E key with | some v => M.ev v | none => zv)) w := by
  simp only [execOp, f.ev hx, f.ev hy, Sem.run_bind, h.look ok ht (hz w) hd, Result.andThen, Sem.run_pure]
  try rfl
theorem E.lookOkA (f : Fr n a l) (h : IsAss M P w m E) (ok : M.Ok P) (ht : P.underlying t = some (.map M.k M.e)) {zv : Value} (hz : ∀ w, (zeroValue M.e).run P w = .ok zv w) (key : M.K) (hd : M.dom key) (hx : evl l x = some (.map (some m))) (hy : evl l y = some (M.kv key)) :
    (execOp a.eval ⟨dst, .lookup t x y true, ty, ps, af, gd⟩).run P w = .ok (.value (.tuple #[match lk E key with | some v => M.ev v | none => zv, .bool (lk E key).isSome])) w := by
  simp only [execOp, f.ev hx, f.ev hy, Sem.run_bind, h.look_ok ok ht (hz w) hd, Result.andThen, Sem.run_pure]
  try rfl
theorem mapPutA_run (f : Fr n a l) {w' : World} {key u : Value} (hx : evl l x = some (.map (some m))) (hy : evl l y = some key) (hz : evl l z = some u) (h : (Instr.mapUpdate t (.map (some m)) key u).run P w = .ok () w') :
    (execOp a.eval ⟨dst, .mapUpdate t x y z, ty, ps, af, gd⟩).run P w = .ok .skip w' := by
  simp [execOp, f.ev hx, f.ev hy, f.ev hz, h]
theorem O.mapPutA {q : Nat} (f : Fr n a l) (ho : ops[q]? = some ⟨none, .mapUpdate t x y z, ty, ps, af, gd⟩) (hw : Region.wanted ⟨none, .mapUpdate t x y z, ty, ps, af, gd⟩ (yielded ops a.tmps) = true) (h : IsAss M P w m E) (ok : M.Ok P) (ht : P.underlying t = some (.map M.k M.e)) (key : M.K) (hd : M.dom key) (u : M.V)
    (hx : evl l x = some (.map (some m))) (hy : evl l y = some (M.kv key)) (hz : evl l z = some (M.ev u)) (hE : E.length < maxLen) (hSw : ∀ w', IsAss M P w' m ((key, u) :: strike E key) → Kept [m] w w' → Sw w')
    (hK : ∀ a' w', IsAss M P w' m ((key, u) :: strike E key) → Kept [m] w w' → Fr n a' l → K a' w') : wpOp P ops Q q (fun a w => Sw w ∧ K a w) a w := by
  obtain ⟨w', hrun, r1, r2⟩ := h.put ok ht hd u hE
  exact O.act f ho rfl hw (mapPutA_run f hx hy hz hrun) (hSw w' r1 r2) fun a' f' => hK a' w' r1 r2 f'
theorem O.dropA {i : Nat} {o : Oper} {w' : World} {v : Value} (f : Fr n a l) (hi : ops[i]? = some o) (hd : o.dst = none) (hw : Region.wanted o (yielded ops a.tmps) = true)
    (hv : (execOp a.eval o).run P w = .ok (.value v) w') (hS : Sw w') (hK : ∀ a', Fr n a' l → K a' w') : wpOp P ops Q i (fun a w => Sw w ∧ K a w) a w := by
  unfold wpOp
  simp only [hi, hw, if_true]
  refine .inl ?_
  unfold Oper.wp
  rw [hv]
  simp only [Oper.upon, hd]
  exact ⟨hS, hK _ (f.putNone v)⟩
theorem O.mapDropA {q : Nat} {k : TypeId} (f : Fr n a l) (ho : ops[q]? = some ⟨none, .call { callee := .builtin .delete, args := #[x, y], argTypes := #[t, k] }, ty, ps, af, gd⟩) (hw : Region.wanted ⟨none, .call { callee := .builtin .delete, args := #[x, y], argTypes := #[t, k] }, ty, ps, af, gd⟩ (yielded ops a.tmps) = true) (h : IsAss M P w m E) (ok : M.Ok P) (ht : P.underlying t = some (.map M.k M.e)) (hk : M.k = k) (key : M.K) (hd : M.dom key)
    (hx : evl l x = some (.map (some m))) (hy : evl l y = some (M.kv key)) (hSw : ∀ w', IsAss M P w' m (strike E key) → Kept [m] w w' → Sw w')
    (hK : ∀ a' w', IsAss M P w' m (strike E key) → Kept [m] w w' → Fr n a' l → K a' w') : wpOp P ops Q q (fun a w => Sw w ∧ K a w) a w := by
  subst hk
  obtain ⟨w', hrun, r1, r2⟩ := h.drop ok ht hd ty
  exact O.dropA (v := .tuple #[]) f ho rfl hw (by simp [execOp, resolve, invoke, builtin, f.ev hx, f.ev hy, hrun]) (hSw w' r1 r2) fun a' f' => hK a' w' r1 r2 f'
def Ent (M : MT) [DecidableEq M.K] (P : Program) (t : TypeId) (w : World) (m : Nat) (E : List (M.K × M.V)) (key : M.K) (st : Nat) : Prop :=
  m < w.heap.size ∧ ∀ (w2 : World) (u : M.V), w2.heap[m]? = w.heap[m]? → ∃ w3, (Instr.entryStore t (.map (some m)) (goInt st) (M.ev u)).run P w2 = .ok () w3 ∧ IsAss M P w3 m ((key, u) :: strike E key) ∧ Kept [m] w2 w3
theorem IsAss.entry (h : IsAss M P w m E) (ok : M.Ok P) (KL : KeyLaw P M.k) (ht : P.underlying t = some (.map M.k M.e)) {zv : Value} (hz : ∀ w, (zeroValue M.e).run P w = .ok zv w) {key : M.K} (hd : M.dom key) (hE : E.length < maxLen) :
    ∃ v0, ∃ st : Nat, ∃ w', (Instr.mapEntry t (.map (some m)) (M.kv key)).run P w = .ok (.tuple #[v0, goInt st]) w' ∧ Kept [m] w w' ∧ Ent M P t w' m E key st := by
  have h0 := h
  obtain ⟨hnd, hdm, D, ho, hs, hrest⟩ := h
  obtain ⟨es, clock, hb, F, hsz, hD⟩ := ho
  obtain ⟨v0, st, es1, clock1, hrun, _, hst⟩ := entry_then_store KL ht hz hb F (ok.of key hd)
  have hb1 : (setBlock w m (.map es1 clock1)).heap[m]? = some (.map es1 clock1) := heap_setBlock_same hb _
  refine ⟨v0, st, _, hrun, turned_kept ⟨es, clock, es1, clock1, hb, rfl⟩, (Array.getElem?_eq_some_iff.1 hb1).1, fun w2 u hw2 => ?_⟩
  rw [hb1] at hw2
  obtain ⟨es', clock', r1, r2⟩ := hst w2 (M.ev u) hw2
  obtain ⟨w', hput, hass, _⟩ := h0.put ok ht hd u hE
  rw [r2] at hput
  injection hput with _ e
  subst e
  refine ⟨_, r1, hass.of_block ?_, turned_kept ⟨es1, clock1, es', clock', hw2, rfl⟩⟩
  rw [heap_setBlock_same hw2, heap_setBlock_same hb]
theorem O.entryStoreA {q : Nat} (f : Fr n a l) {s : Operand} (ho : ops[q]? = some ⟨none, .entryStore t x s z, ty, ps, af, gd⟩) (hw : Region.wanted ⟨none, .entryStore t x s z, ty, ps, af, gd⟩ (yielded ops a.tmps) = true) {key : M.K} {st : Nat} (h : Ent M P t w m E key st) (u : M.V)
    (hx : evl l x = some (.map (some m))) (hs : evl l s = some (.int .i64 (st : Nat))) (hz : evl l z = some (M.ev u)) (hSw : ∀ w', IsAss M P w' m ((key, u) :: strike E key) → Kept [m] w w' → Sw w')
    (hK : ∀ a' w', IsAss M P w' m ((key, u) :: strike E key) → Kept [m] w w' → Fr n a' l → K a' w') : wpOp P ops Q q (fun a w => Sw w ∧ K a w) a w := by
  obtain ⟨w', hrun, r1, r2⟩ := h.2 w u rfl
  exact O.act f ho rfl hw (by simp only [goInt] at hrun; simp [execOp, f.ev hx, f.ev hs, f.ev hz, hrun]) (hSw w' r1 r2) fun a' f' => hK a' w' r1 r2 f'
theorem L.rangeA (f : Fr n a l) (hw : Region.wanted ⟨some d, .range t x, ty, ps, af, gd⟩ (yielded ops a.tmps) = true) (hn : d < n) (h : IsAss M P w m E) (ok : M.Ok P) (ht : P.underlying t = some (.map M.k M.e)) (hx : evl l x = some (.map (some m)))
    (hK : ∀ a' w' g, InRange M P w' m g E E E.length → Kept [] w w' → w.heap.size ≤ g → Fr n a' ((d, .pointer (some ⟨g, 0, none⟩)) :: l) → wpList P ops Q rest a' w') : wpList P ops Q (⟨some d, .range t x, ty, ps, af, gd⟩ :: rest) a w := by
  obtain ⟨w', hrun, r1, r2, _⟩ := h.range ok ht
  exact L.val f hw rfl hn (by simp [execOp, f.ev hx, hrun]) fun a' f' => hK a' w' _ r1 r2 (Nat.le_refl _) f'
theorem L.nextA (f : Fr n a l) (hw : Region.wanted ⟨some d, .next x false, ty, ps, af, gd⟩ (yielded ops a.tmps) = true) (hn : d < n) {r c : Nat} {Rm : List (M.K × M.V)} (h : InRange M P w m r E Rm c) (ok : M.Ok P) (hkv : ∀ (v : Value) (l : Lit), keyOf P M.k v = some l → ∀ x, M.dom x → l = M.kl x → v = M.kv x) (hx : evl l x = some (.pointer (some ⟨r, 0, none⟩)))
    (hK0 : Rm = [] → ∀ a', Fr n a' ((d, .tuple #[.bool false]) :: l) → wpList P ops Q rest a' w)
    (hK1 : ∀ key u a' w' c', (key, u) ∈ Rm → InRange M P w' m r E (strike Rm key) c' → c' < c → Kept [r] w w' → (Instr.entry (.pointer (some ⟨r, 0, none⟩))).run P w' = .ok (.tuple #[M.kv key, M.ev u]) w' → Fr n a' ((d, .tuple #[.bool true, M.kv key, M.ev u]) :: l) → wpList P ops Q rest a' w') : wpList P ops Q (⟨some d, .next x false, ty, ps, af, gd⟩ :: rest) a w := by
  rcases h.next ok ty hkv with ⟨h0, hrun⟩ | ⟨key, u, w', c', hm, hrun, h1, hc, hk, hent⟩
  · exact L.val f hw rfl hn (by simp [execOp, f.ev hx, hrun]) fun a' f' => hK0 h0 a' f'
  exact L.val f hw rfl hn (by simp [execOp, f.ev hx, hrun]) fun a' f' => hK1 key u a' w' c' hm h1 hc hk hent f'
theorem E.entryA (f : Fr n a l) {r : Nat} {k v : Value} (h : (Instr.entry (.pointer (some ⟨r, 0, none⟩))).run P w = .ok (.tuple #[k, v]) w) (hx : evl l x = some (.pointer (some ⟨r, 0, none⟩))) : (execOp a.eval ⟨dst, .entry x, ty, ps, af, gd⟩).run P w = .ok (.value (.tuple #[k, v])) w := by
  simp [execOp, f.ev hx, h]
end
end Go.Hub
