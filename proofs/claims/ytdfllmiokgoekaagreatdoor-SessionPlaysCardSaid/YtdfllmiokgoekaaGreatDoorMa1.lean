/- Merged by program (shrink.py): contracts and plain laws that the claim's statement uses, part 1. -/
import Derived.ArgAppend
import Derived.BigQuiet
import Derived.Deep.AppendLies
import Derived.Deep.Draws
import Derived.Deep.Fields
import Derived.Deep.LoopGhost
import Derived.Deep.MidRow
import Derived.Deep.QuietTactic
import Derived.Deep.RegionHeld
import Derived.Deep.RegionHeld3
import Derived.Deep.RegionLaw
import Derived.Deep.Slices
import Derived.Deep.Upon
import Derived.DeepKeys4
import Derived.Great.BuildSlice
import Derived.IntWalk
import Derived.Laws.BytesArg
import Derived.Laws.Cover4
import Derived.Laws.IdiomCopy
import Derived.Laws.IdiomStrings
import Derived.Laws.RangeAny
import Derived.Laws.ResultCell
import Derived.Lib.AppendStr
import Derived.Lib.AppendZerosOnto
import Derived.Lib.LaidU8T
import Derived.Lib.MapLaws
import Derived.Lib.OthersKept
import Derived.Lib.Overlaps
import Derived.Maps.AppendAt
import Derived.Maps.OwnSet
import Derived.Maps.Range
import Derived.OpenShut
import Derived.OwnWalk
import Derived.ProofKit
import Derived.Shelf.SlSortCmp.NoneTotal
import Derived.Shelf.SlSortCmp.WholeK
import Derived.Shelf.Spec.DecodeRune
import Derived.Shelf.Spec.NilArms
import Derived.Shelf.Strings.Split
import Derived.Shelf.Vars
import Derived.SizedLaws
import Derived.StillTailTactics
import Derived.Test.YtdfllmiokgoekaaGreatDoorProg
import Derived.Test.YtdfllmiokgoekaaGreatDoorRows
import Derived.WalkKit
import Derived.WalkLawsBesides
import Derived.WalkSpells
import Derived.WideKeyEntry
set_option linter.all false
set_option maxRecDepth 100000
set_option maxHeartbeats 8000000

namespace Go.Hub
open Go.RowKit Go.Maps Go.ChangeMaps Go.MapKept
theorem hid {p : Prop} (h : p) : Hid p := h
structure Kept (L : List Nat) (w w' : World) : Prop where
  os : w'.os = w.os
  tape : w'.tape = w.tape
  output : w'.output = w.output
  size : w.heap.size ≤ w'.heap.size
  block : ∀ k, k < w.heap.size → k ∉ L → w'.heap[k]? = w.heap[k]?
section
variable {L L' : List Nat} {w w' w'' : World}
theorem Kept.refl (L : List Nat) (w : World) : Kept L w w := ⟨rfl, rfl, rfl, Nat.le_refl _, fun _ _ _ => rfl⟩
theorem Kept.trans (h : Kept L w w') (k : Kept L' w' w'') (hs : ∀ x ∈ L', x < w.heap.size → x ∈ L) : Kept L w w'' :=
  ⟨k.os.trans h.os, k.tape.trans h.tape, k.output.trans h.output, Nat.le_trans h.size k.size,
   fun i hi hn => (k.block i (Nat.lt_of_lt_of_le hi h.size) (fun hx => hn (hs i hx hi))).trans (h.block i hi hn)⟩
theorem Kept.mono (h : Kept L w w') (hs : ∀ x ∈ L, x < w.heap.size → x ∈ L') : Kept L' w w' :=
  ⟨h.os, h.tape, h.output, h.size, fun i hi hn => h.block i hi (fun hx => hn (hs i hx hi))⟩
theorem Kept.drewN (h : Kept L w w') (n : Nat) : Kept L w (w'.drewN n) := ⟨h.os, h.tape, h.output, h.size, h.block⟩
theorem Kept.of_drew (h : Kept L w.drew w') : Kept L w w' := ⟨h.os, h.tape, h.output, h.size, h.block⟩
theorem Kept.alloc (h : Kept L w w') (o : Obj) : Kept L w (w'.alloc o) :=
  h.trans (L' := []) ⟨rfl, rfl, rfl, by simp, fun k hk _ => Below.heap_alloc _ _ _ hk⟩ (by simp)
theorem Kept.setCell (h : Kept L w w') {p : Addr} (hp : p.block < w.heap.size → p.block ∈ L) (u : Value) : Kept L w (w'.setCell p u) :=
  h.trans (L' := [p.block]) ⟨rfl, rfl, rfl, by simp [World.setCell], fun k _ hn => Below.heap_setCell _ _ _ _ (by simpa using hn)⟩ (by simpa using hp)
theorem Kept.below (h : Kept L w w') {B : Nat} (hB : ∀ x ∈ L, B ≤ x) (hs : B ≤ w.heap.size) : Below B w w' :=
  ⟨h.os, h.tape, h.output, h.size, fun k hk => h.block k (by omega) (fun hx => by have := hB k hx; omega)⟩
theorem Kept.of_below (h : Below w.heap.size w w') (L : List Nat) : Kept L w w' := ⟨h.os, h.tape, h.output, h.size, fun k hk _ => h.block k hk⟩
theorem Kept.cell (h : Kept L w w') {p : Addr} (hp : p.block < w.heap.size) (hn : p.block ∉ L) : w'.cell? p = w.cell? p := World.cell?_of_block (w := w) (h.block p.block hp hn)
end
def Blk (w : World) (g : Nat) (t : TypeId) (cs : Array Value) : Prop := w.heap[g]? = some (.cells cs t (0, 0))
section
variable {w w' : World} {g : Nat} {t : TypeId} {cs : Array Value}
theorem Blk.lt (h : Blk w g t cs) : g < w.heap.size := by
  rcases Nat.lt_or_ge g w.heap.size with hlt | hge
  · exact hlt
  · unfold Blk at h; rw [Array.getElem?_eq_none hge] at h; cases h
theorem Blk.cell (h : Blk w g t cs) (i : Nat) : w.cell? ⟨g, i, none⟩ = cs[i]? := cell_of_row w g i cs t (0, 0) h
theorem Blk.cell_ (h : Blk w g t cs) {i : Nat} {v : Value} (hv : cs[i]? = some v) : w.cell? ⟨g, i, none⟩ = some v := (h.cell i).trans hv
theorem Blk.frozen (h : Blk w g t cs) (i : Nat) : w.frozen? ⟨g, i, none⟩ = false := by
  unfold Blk at h
  simp [World.frozen?, h]
theorem Blk.new (w : World) (t : TypeId) (cs : Array Value) : Blk (w.alloc (.cells cs t)) w.heap.size t cs := heap_alloc_new w _
theorem Blk.set_ (h : Blk w g t cs) (i : Nat) (u : Value) : Blk (w.setCell ⟨g, i, none⟩ u) g t (cs.setIfInBounds i u) := by
  unfold Blk at h ⊢
  simp [World.setCell, Array.getElem?_modify, h]
theorem Blk.kept {L : List Nat} (h : Blk w g t cs) (hk : Kept L w w') (hg : g ∉ L) : Blk w' g t cs := (hk.block g h.lt hg).trans h
end
section
variable {H : Type} {P : Program} {e : TypeId}
theorem plainElem_bool_inv (he : P.underlying e = some .bool) {v : Value} {z : DataW H × List MemPlace} (h : plainElem P e v = some z) : ∃ x, v = .bool x ∧ z = (.lit (.bool x), []) := by
  unfold plainElem at h
  rw [he] at h
  cases v <;> simp at h
  exact ⟨_, rfl, h.symm⟩
end
def IsSet (P : Program) (k e : TypeId) (w : World) (m : Nat) (S : List Int) : Prop :=
  S.Nodup ∧ ∃ (D : DataW Unit), w.ownsMap P k (plainElem P e) m S.length D ∧ Maps.size D = S.length ∧
    (∀ x : Int, Maps.has D (.int .i64 x) = decide (x ∈ S)) ∧ ∀ x : Int, D.atKey (.int .i64 x) (.lit (.bool false)) = .lit (.bool (decide (x ∈ S)))
section
variable {P : Program} {k e t : TypeId} {w w' : World} {m : Nat} {S : List Int}
theorem ownsMap_exact {H : Type} {R : Value → Option (DataW H × List MemPlace)} {b n n' : Nat} {D : DataW H} (h : w.ownsMap P k R b n D) (hn : Maps.size D ≤ n') : w.ownsMap P k R b n' D := by
  obtain ⟨es, clock, hb, F, hs, rfl⟩ := h
  refine ⟨es, clock, hb, F, ?_, rfl⟩
  simpa [Maps.size, length_sorted] using hn
theorem IsSet.lt (h : IsSet P k e w m S) : m < w.heap.size := by obtain ⟨_, D, ho, _⟩ := h; exact ho.lt
theorem IsSet.made (w : World) (P : Program) (k e : TypeId) : IsSet P k e (w.alloc (.map #[] 0)) w.heap.size [] :=
  ⟨List.nodup_nil, .map [], World.ownsMap_made w P k _, rfl, fun x => by simp [Maps.has], fun x => by simp [DataW.atKey]⟩
theorem IsSet.of_block (h : IsSet P k e w m S) (hb : w'.heap[m]? = w.heap[m]?) : IsSet P k e w' m S := by
  obtain ⟨hn, D, ⟨es, clock, h1, h2⟩, r⟩ := h
  exact ⟨hn, D, ⟨es, clock, hb.trans h1, h2⟩, r⟩
theorem IsSet.kept {L : List Nat} (h : IsSet P k e w m S) (hk : Kept L w w') (hm : m ∉ L) : IsSet P k e w' m S := h.of_block (hk.block m h.lt hm)
theorem IsSet.look (h : IsSet P k e w m S) (hk : P.underlying k = some (.int .i64)) (he : P.underlying e = some .bool) (ht : P.underlying t = some (.map k e)) (hz : (zeroValue e).run P w = .ok (.bool false) w)
    {x : Int} (hx : (Lit.int .i64 x).wf = true) : (Instr.lookup t (.map (some m)) (.int .i64 x) false).run P w = .ok (.bool (decide (x ∈ S))) w := by
  obtain ⟨_, D, ho, _, _, hat⟩ := h
  obtain ⟨v, ps, hrun, hv⟩ := ho.lookup (int_keyed hk) ht hz (plainElem_bool he false) (keyOf_int_mk hk hx)
  obtain ⟨y, rfl, hy⟩ := plainElem_bool_inv he hv
  rw [hat x] at hy
  simp only [Prod.mk.injEq, DataW.lit.injEq, Lit.bool.injEq] at hy
  rw [hrun, hy.1]
theorem IsSet.len (h : IsSet P k e w m S) (ht : P.underlying t = some (.map k e)) (ty : TypeId) : (Builtin.len_ #[t] ty #[.map (some m)]).run P w = .ok (.int .i64 S.length) w := by
  obtain ⟨_, D, ho, hs, _⟩ := h
  rw [ho.len ht ty, hs]
theorem turned_kept {b : Nat} (h : w.mapTurned w' b) : Kept [b] w w' := by
  obtain ⟨es, clock, es', clock', hb, rfl⟩ := h
  exact ⟨rfl, rfl, rfl, by simp [setBlock], fun i _ hi => heap_setBlock_other hb _ (by simpa using hi)⟩
theorem int_lit_inj {a b : Int} : (Lit.int .i64 a ≠ Lit.int .i64 b) ↔ a ≠ b := by simp
theorem IsSet.store (h : IsSet P k e w m S) (hk : P.underlying k = some (.int .i64)) (he : P.underlying e = some .bool) (ht : P.underlying t = some (.map k e))
    {x : Int} (hx : (Lit.int .i64 x).wf = true) (hS : S.length < maxLen) (hn : x ∉ S) :
    ∃ w', (Instr.mapUpdate t (.map (some m)) (.int .i64 x) (.bool true)).run P w = .ok () w' ∧ IsSet P k e w' m (x :: S) ∧ Kept [m] w w' := by
  obtain ⟨hnd, D, ho, hs, hhas, hat⟩ := h
  have hkey := keyOf_int_mk hk hx
  have K := int_keyed hk
  obtain ⟨w', hrun, ho', ht'⟩ := ho.store K ht hS hkey (plainElem_bool he true)
  have tidy := ho.tidy K
  refine ⟨w', hrun, ⟨List.nodup_cons.2 ⟨hn, hnd⟩, _, ho', ?_, ?_, ?_⟩, turned_kept ht'⟩
  · rw [Maps.size_put tidy, hhas x]
    simp [hn, hs]
  · intro y
    by_cases hy : y = x
    · subst hy
      rw [Maps.has_put_same ho.isMap (K.key hkey)]
      simp
    · rw [Maps.has_put_other (int_lit_inj.2 hy), hhas y]
      simp [hy]
  · intro y
    by_cases hy : y = x
    · subst hy
      rw [Maps.atKey_put_same ho.isMap (K.key hkey)]
      simp
    · rw [Maps.atKey_put_other (int_lit_inj.2 hy), hat y]
      simp [hy]
theorem IsSet.drop (h : IsSet P k e w m S) (hk : P.underlying k = some (.int .i64)) (ht : P.underlying t = some (.map k e))
    {x : Int} (hx : (Lit.int .i64 x).wf = true) (ty : TypeId) :
    ∃ w', (Builtin.delete_ #[t, k] ty #[.map (some m), .int .i64 x]).run P w = .ok (.tuple #[]) w' ∧ IsSet P k e w' m (S.erase x) ∧ Kept [m] w w' := by
  obtain ⟨hnd, D, ho, hs, hhas, hat⟩ := h
  have hkey := keyOf_int_mk hk hx
  have K := int_keyed hk
  obtain ⟨w', hrun, ho', ht'⟩ := ho.drop K ht hkey ty
  have tidy := ho.tidy K
  have hsz : Maps.size (D.del (.int .i64 x)) = (S.erase x).length := by
    have := Maps.size_del (k := .int .i64 x) tidy
    rw [hhas x, hs] at this
    by_cases hm : x ∈ S
    · simp [hm] at this
      rw [List.length_erase_of_mem hm]
      omega
    · simp [hm] at this
      rw [List.erase_of_not_mem hm]
      exact this
  refine ⟨w', hrun, ⟨hnd.erase x, _, ownsMap_exact ho' (by rw [hsz]; exact Nat.le_refl _), hsz, ?_, ?_⟩, turned_kept ht'⟩
  · intro y
    by_cases hy : y = x
    · subst hy
      rw [Maps.has_del_same]
      simp [hnd.mem_erase_iff]
    · rw [Maps.has_del_other (int_lit_inj.2 hy), hhas y]
      simp [hnd.mem_erase_iff, hy]
  · intro y
    by_cases hy : y = x
    · subst hy
      rw [Maps.atKey_del_same]
      simp [hnd.mem_erase_iff]
    · rw [Maps.atKey_del_other (int_lit_inj.2 hy), hat y]
      simp [hnd.mem_erase_iff, hy]
end
theorem add_none (b off i : Nat) : (Addr.mk b off none).add i = ⟨b, off + i, none⟩ := by
  unfold Addr.add
  split
  · rename_i h; simp_all
  · rfl
theorem bd_u8 {n : Int} (h : (Lit.int .u8 n).wf = true) : 0 ≤ n ∧ n ≤ 255 := by simpa [Lit.wf, IntKind.min, IntKind.max, IntKind.signed, IntKind.bits] using h
end Go.Hub
namespace Go.Hub
open Go.RowKit
def Rds (w : World) (B size : Nat) (A : Option Addr) (n : Nat) (xs : List Value) : Prop :=
  xs.length = n * size ∧ (0 < n → ∃ b off, A = some ⟨b, off, none⟩ ∧ b < B ∧ ∀ j u, xs[j]? = some u → w.cell? ⟨b, off + j, none⟩ = some u)
section
variable {w w' : World} {B B' size n : Nat} {A : Option Addr} {xs : List Value}
theorem Rds.nil (w : World) (B size : Nat) (A : Option Addr) : Rds w B size A 0 [] := ⟨by simp, fun h => absurd h (by omega)⟩
theorem Rds.cut (h : Rds w B size A n xs) {k cap : Nat} (hk : k ≤ n) (hc : n ≤ cap) :
    Rds w B size (if cap = k then A else A.map (·.add (k * size))) (n - k) (xs.drop (k * size)) := by
  refine ⟨by rw [List.length_drop, h.1, Nat.sub_mul], fun hn => ?_⟩
  obtain ⟨b, off, rfl, hb, hcell⟩ := h.2 (by omega)
  rw [if_neg (by omega)]
  refine ⟨b, off + k * size, by simp [add_none], hb, fun j u hu => ?_⟩
  rw [Nat.add_assoc]
  exact hcell _ u (by rw [← hu, List.getElem?_drop])
theorem Rds.drew (h : Rds w B size A n xs) : Rds w.drew B size A n xs := h
theorem grown_kept {row : Option Nat} (h : w.grownBy w' row) : Kept row.toList w w' :=
  ⟨h.os, h.tape, h.output, h.size, fun k hk hn => h.block k hk (fun e => hn (by rw [← e]; simp))⟩
end
section
variable {P : Program} (w : World)
theorem run_append_none (base : Nat) (t ty e : TypeId) (i : TypeInfo) (size : Nat) (ht : P.underlying t = some (.slice e)) (hi : P.info? e = some i)
    (v : Value) (n : Nat) (xs : List Value) (hown : w.ownsRow base e size v n xs) (c : Nat) : (Builtin.append_ #[t, t] ty #[v, .slice none 0 c]).run P w = .ok v w := by
  rcases hown.2 with ⟨rfl, rfl⟩ | ⟨g, cap, cur, rfl, _, _, hnc, _⟩
  · simp [Builtin.append_, run_underlying ht, sizeOf, typeInfo, hi, Builtin.lenOf, Builtin.firstCells]
  · simp [Builtin.append_, run_underlying ht, sizeOf, typeInfo, hi, Builtin.lenOf, Builtin.firstCells, hnc, storeCells]
theorem run_append_rds (base : Nat) (t ty e : TypeId) (i : TypeInfo) (z : Value) (size bytes : Nat) (ht : P.underlying t = some (.slice e)) (hi : P.info? e = some i) (hz : i.zero = some z)
    (hsize : i.size = size) (hby : i.bytes = bytes) (hzs : z.cells.size = size) (hsz : 0 < size)
    (v : Value) (n : Nat) (xs : List Value) (hown : w.ownsRow base e size v n xs)
    (B : Nat) (A : Option Addr) (m c : Nat) (news : List Value) (hr : Rds w B size A m news) (hA : m = 0 → A = none ∨ ∃ a, A = some a) (h1 : ∀ u ∈ news, u.oneCell' = true)
    (h63 : n + m ≤ maxLen) (hbytes : (n + m) * bytes ≤ 140737488355328) (hbase : base ≤ w.heap.size) :
    ∃ v' w', (Builtin.append_ #[t, t] ty #[v, .slice A m c]).run P w = .ok v' w' ∧ w'.ownsRow base e size v' (n + m) (xs ++ news) ∧ w.grownBy w' v.ownBlock ∧
      (v'.ownBlock = v.ownBlock ∨ v'.ownBlock = some w.heap.size) := by
  rcases A with _ | ad
  · have hm : m = 0 := by
      rcases Nat.eq_zero_or_pos m with h0 | h0
      · exact h0
      · obtain ⟨b, off, h, _⟩ := hr.2 h0
        cases h
    subst hm
    have hn : news = [] := List.eq_nil_of_length_eq_zero (by simpa using hr.1)
    subst hn
    exact ⟨v, w, run_append_none w base t ty e i size ht hi v n xs hown c, by simpa using hown, World.grownBy.refl w _, .inl rfl⟩
  · have hcells : ∀ j u, news[j]? = some u → w.cell? (ad.add j) = some u := by
      intro j u hu
      rcases Nat.eq_zero_or_pos m with h0 | h0
      · subst h0
        have hn : news = [] := List.eq_nil_of_length_eq_zero (by simpa using hr.1)
        subst hn
        simp at hu
      · obtain ⟨b, off, h, _, hc⟩ := hr.2 h0
        injection h with h
        subst h
        rw [add_none]
        exact hc j u hu
    obtain ⟨v', w', hrun, h2, h3, _, h5⟩ := run_append_own_at (P := P) w base t ty e i z size bytes ht hi hz hsize hby hzs hsz v n xs hown ad m c news hr.1 hcells h1 h63 hbytes hbase
    exact ⟨v', w', hrun, h2, h3, h5⟩
end
end Go.Hub
namespace Go.Hub
open Go.RowKit
theorem setCells_block (g : Nat) : ∀ (vs : List Value) (o : Nat) (w : World) (cur : Array Value) (e : TypeId) (f : Nat × Nat), w.heap[g]? = some (.cells cur e f) →
    ∃ cur' : Array Value, (w.setCells g o vs).heap[g]? = some (.cells cur' e f) ∧ cur'.size = cur.size ∧ (∀ j, j < o → cur'[j]? = cur[j]?) ∧ (∀ j u, vs[j]? = some u → o + j < cur.size → cur'[o + j]? = some u)
  | [], o, w, cur, e, f, h => ⟨cur, h, rfl, fun _ _ => rfl, fun j u hu => by simp at hu⟩
  | v :: r, o, w, cur, e, f, h => by
    have h1 : (w.setCell ⟨g, o, none⟩ v).heap[g]? = some (.cells (cur.setIfInBounds o v) e f) := by
      simp [World.setCell, Array.getElem?_modify, h]
    obtain ⟨cur', a1, a2, a3, a4⟩ := setCells_block g r (o + 1) (w.setCell ⟨g, o, none⟩ v) _ e f h1
    refine ⟨cur', a1, by rw [a2]; simp, fun j hj => ?_, fun j u hu hlt => ?_⟩
    · rw [a3 j (by omega), Array.getElem?_setIfInBounds]
      rw [if_neg (by omega)]
    · match j, hu with
      | 0, hu =>
        simp at hu
        subst hu
        rw [Nat.add_zero] at hlt ⊢
        rw [a3 o (by omega), Array.getElem?_setIfInBounds, if_pos rfl, if_pos hlt]
      | j + 1, hu =>
        have := a4 j u (by simpa using hu) (by simp; omega)
        rw [show o + (j + 1) = o + 1 + j from by omega]
        exact this
theorem setCells_other (g : Nat) : ∀ (vs : List Value) (o : Nat) (w : World) (k : Nat), k ≠ g → (w.setCells g o vs).heap[k]? = w.heap[k]?
  | [], _, _, _, _ => rfl
  | v :: r, o, w, k, h => (setCells_other g r (o + 1) (w.setCell ⟨g, o, none⟩ v) k h).trans (Below.heap_setCell _ _ _ _ h)
theorem setCells_facts (g : Nat) : ∀ (vs : List Value) (o : Nat) (w : World), (w.setCells g o vs).os = w.os ∧ (w.setCells g o vs).tape = w.tape ∧ (w.setCells g o vs).output = w.output ∧ (w.setCells g o vs).heap.size = w.heap.size
  | [], _, _ => ⟨rfl, rfl, rfl, rfl⟩
  | v :: r, o, w => by
    obtain ⟨a, b, c, d⟩ := setCells_facts g r (o + 1) (w.setCell ⟨g, o, none⟩ v)
    exact ⟨a, b, c, by rw [World.setCells, d]; simp [World.setCell]⟩
def Own (w : World) (e : TypeId) (size : Nat) (v : Value) (n : Nat) (xs : List Value) : Prop :=
  xs.length = n * size ∧ ((v = .slice none 0 0 ∧ n = 0) ∨
    ∃ g off cap cur, v = .slice (some ⟨g, off, none⟩) n cap ∧ w.heap[g]? = some (.cells cur e (0, 0)) ∧ n ≤ cap ∧ cap ≤ maxLen ∧ off + cap * size ≤ cur.size ∧ ∀ j u, xs[j]? = some u → cur[off + j]? = some u)
section
variable {w w' : World} {e : TypeId} {size : Nat} {v : Value} {n : Nat} {xs : List Value}
theorem Own.nil (w : World) (e : TypeId) (size : Nat) : Own w e size (.slice none 0 0) 0 [] := ⟨by simp, .inl ⟨rfl, rfl⟩⟩
theorem Own.of_row {base : Nat} (h : w.ownsRow base e size v n xs) : Own w e size v n xs := by
  refine ⟨h.1, ?_⟩
  rcases h.2 with hn | ⟨g, cap, cur, hv, _, hg, hnc, hcm, hcs, ht⟩
  · exact .inl hn
  · refine .inr ⟨g, 0, cap, cur, hv, hg, hnc, hcm, by omega, fun j u hu => ?_⟩
    rw [← ht] at hu
    rw [Nat.zero_add]
    have hj : j < n * size := by
      rcases Nat.lt_or_ge j (n * size) with hj | hj
      · exact hj
      · rw [List.getElem?_take, if_neg (by omega)] at hu; cases hu
    rw [List.getElem?_take, if_pos hj] at hu
    simpa using hu
theorem Own.form (h : Own w e size v n xs) : ∃ A c, v = .slice A n c ∧ n ≤ c ∧ c ≤ maxLen := by
  rcases h.2 with ⟨rfl, rfl⟩ | ⟨g, off, cap, cur, rfl, _, hn, hc, _⟩
  · exact ⟨none, 0, rfl, Nat.le_refl _, by simp [maxLen]⟩
  · exact ⟨_, _, rfl, hn, hc⟩
theorem Own.blk (h : Own w e size v n xs) : ∀ k, v.ownBlock = some k → k < w.heap.size ∧ ∃ cs, w.heap[k]? = some (.cells cs e (0, 0)) := by
  intro k hk
  rcases h.2 with ⟨rfl, rfl⟩ | ⟨g, off, cap, cur, rfl, hg, _⟩
  · simp [Value.ownBlock] at hk
  · simp [Value.ownBlock] at hk
    subst hk
    exact ⟨(Array.getElem?_eq_some_iff.1 hg).1, cur, hg⟩
theorem Own.of_eq (h : Own w e size v n xs) (hb : ∀ k, v.ownBlock = some k → w'.heap[k]? = w.heap[k]?) : Own w' e size v n xs := by
  refine ⟨h.1, ?_⟩
  rcases h.2 with hn | ⟨g, off, cap, cur, rfl, hg, r⟩
  · exact .inl hn
  · exact .inr ⟨g, off, cap, cur, rfl, (hb g rfl).trans hg, r⟩
theorem Own.kept {L : List Nat} (h : Own w e size v n xs) (hk : Kept L w w') (hn : ∀ k, v.ownBlock = some k → k ∉ L) : Own w' e size v n xs :=
  h.of_eq fun k hb => hk.block k (h.blk k hb).1 (hn k hb)
theorem Own.drew (h : Own w e size v n xs) : Own w.drew e size v n xs := h
theorem Own.rds {A : Option Addr} {c : Nat} (h : Own w e size (.slice A n c) n xs) : Rds w w.heap.size size A n xs := by
  refine ⟨h.1, fun hn => ?_⟩
  rcases h.2 with ⟨_, h0⟩ | ⟨g, off, cap, cur, hv, hg, _, _, _, hc⟩
  · omega
  · injection hv with hA
    refine ⟨g, off, hA, (Array.getElem?_eq_some_iff.1 hg).1, fun j u hu => ?_⟩
    rw [cell_of_row w g (off + j) cur e (0, 0) hg]
    exact hc j u hu
theorem Own.cut {A : Option Addr} {c : Nat} (h : Own w e size (.slice A n c) n xs) {k : Nat} (hk : k ≤ n) :
    Own w e size (.slice (if c = k then A else A.map (·.add (k * size))) (n - k) (c - k)) (n - k) (xs.drop (k * size)) := by
  refine ⟨by rw [List.length_drop, h.1, Nat.sub_mul], ?_⟩
  rcases h.2 with ⟨hv, h0⟩ | ⟨g, off, cap, cur, hv, hg, hnc, hcm, hcs, hc⟩
  · injection hv with h1 h2 h3
    subst h1 h2 h3
    exact .inl ⟨by simp, by omega⟩
  · injection hv with h1 h2 h3
    subst h1 h3
    by_cases hck : c = k
    · rw [if_pos hck]
      refine .inr ⟨g, off, c - k, cur, rfl, hg, by omega, by omega, ?_, fun j u hu => ?_⟩
      · rw [Nat.sub_mul]; omega
      · have : xs.drop (k * size) = [] := by
          apply List.drop_eq_nil_of_le
          rw [h.1]
          exact Nat.mul_le_mul_right _ (by omega)
        rw [this] at hu
        simp at hu
    · rw [if_neg hck]
      refine .inr ⟨g, off + k * size, c - k, cur, by simp [add_none], hg, by omega, by omega, ?_, fun j u hu => ?_⟩
      · rw [Nat.sub_mul]
        have : k * size ≤ c * size := Nat.mul_le_mul_right _ (by omega)
        omega
      · rw [Nat.add_assoc]
        exact hc _ u (by rw [← hu, List.getElem?_drop])
theorem Own.head {A : Option Addr} {c : Nat} (h : Own w e size (.slice A n c) n xs) {k : Nat} (hk : k ≤ n) : Own w e size (.slice A k c) k (xs.take (k * size)) := by
  have hkn : k * size ≤ n * size := Nat.mul_le_mul_right _ hk
  refine ⟨by rw [List.length_take, h.1, Nat.min_eq_left hkn], ?_⟩
  rcases h.2 with ⟨hv, h0⟩ | ⟨g, off, cap, cur, hv, hg, hnc, hcm, hcs, hc⟩
  · injection hv with h1 h2 h3
    subst h1 h3
    obtain rfl : k = 0 := by omega
    exact .inl ⟨rfl, rfl⟩
  · injection hv with h1 h2 h3
    subst h1 h3
    refine .inr ⟨g, off, c, cur, rfl, hg, by omega, hcm, hcs, fun j u hu => hc j u ?_⟩
    by_cases hj : j < k * size
    · rwa [List.getElem?_take, if_pos hj] at hu
    · rw [List.getElem?_take, if_neg hj] at hu; cases hu
end
section
variable {P : Program} (w : World)
theorem append_own (t ty e : TypeId) (i : TypeInfo) (z : Value) (size bytes : Nat) (ht : P.underlying t = some (.slice e)) (hi : P.info? e = some i) (hz : i.zero = some z)
    (hsize : i.size = size) (hby : i.bytes = bytes) (hzs : z.cells.size = size) (hsz : 0 < size)
    (v : Value) (n : Nat) (xs : List Value) (hown : Own w e size v n xs)
    (B : Nat) (A : Option Addr) (m c : Nat) (news : List Value) (hr : Rds w B size A m news) (h1 : ∀ u ∈ news, u.oneCell' = true)
    (h63 : n + m ≤ maxLen) (hbytes : (n + m) * bytes ≤ 140737488355328) :
    ∃ v' w', (Builtin.append_ #[t, t] ty #[v, .slice A m c]).run P w = .ok v' w' ∧ Own w' e size v' (n + m) (xs ++ news) ∧ Kept v.ownBlock.toList w w' ∧
      (∀ k, v'.ownBlock = some k → v.ownBlock = some k ∨ w.heap.size ≤ k) := by
  rcases hown.2 with ⟨rfl, rfl⟩ | ⟨g, off, cap, cur, rfl, hg, hnc, hcm, hcs, hc⟩
  · have hx : xs = [] := List.eq_nil_of_length_eq_zero (by simpa using hown.1)
    subst hx
    obtain ⟨v', w', hrun, ho, hgr, hat⟩ := run_append_rds (P := P) w w.heap.size t ty e i z size bytes ht hi hz hsize hby hzs hsz (.slice none 0 0) 0 [] (World.ownsRow_nil _ _ _ _) B A m c news hr (fun _ => by cases A <;> simp) h1 h63 hbytes (Nat.le_refl _)
    exact ⟨v', w', hrun, Own.of_row ho, grown_kept hgr, fun k hk => .inr (ho.lt k hk).1⟩
  · rcases A with _ | ad
    · have hm : m = 0 := by
        rcases Nat.eq_zero_or_pos m with h0 | h0
        · exact h0
        · obtain ⟨b, off, h, _⟩ := hr.2 h0
          cases h
      subst hm
      have hn : news = [] := List.eq_nil_of_length_eq_zero (by simpa using hr.1)
      subst hn
      refine ⟨_, w, ?_, by simpa using hown, Kept.refl _ _, fun k hk => .inl hk⟩
      simp [Builtin.append_, run_underlying ht, sizeOf, typeInfo, hi, Builtin.lenOf, Builtin.firstCells, hnc, storeCells]
    · have hnews : ∀ j u, news[j]? = some u → w.cell? (ad.add j) = some u := by
        intro j u hu
        rcases Nat.eq_zero_or_pos m with h0 | h0
        · subst h0
          have hn : news = [] := List.eq_nil_of_length_eq_zero (by simpa using hr.1)
          subst hn
          simp at hu
        · obtain ⟨b, off, h, _, hcc⟩ := hr.2 h0
          injection h with h
          subst h
          rw [add_none]
          exact hcc j u hu
      have hlen : news.length = m * size := hr.1
      by_cases hroom : n + m ≤ cap
      · have hmul : n * size + m * size ≤ cap * size := by rw [← Nat.add_mul]; exact Nat.mul_le_mul_right _ hroom
        subst hsize
        have hcell : ∀ j, j < news.length → w.cell? ⟨g, off + n * i.size + j, none⟩ = cur[off + n * i.size + j]? := fun j hj => cell_of_row w g _ cur e (0, 0) hg
        have hrun := run_append_room_cells (P := P) w t ty e i ht hi g off n cap ad m c news hlen hnews h1 hroom
          (fun j hj => by rw [hcell j hj, Array.getElem?_eq_getElem (by omega)]; rfl) (fun j hj => by simp [World.frozen?, hg])
        obtain ⟨cur', a1, a2, a3, a4⟩ := setCells_block g news (off + n * i.size) w cur e (0, 0) hg
        obtain ⟨b1, b2, b3, b4⟩ := setCells_facts g news (off + n * i.size) w
        refine ⟨_, _, hrun, ⟨by rw [List.length_append, hown.1, hlen, Nat.add_mul], .inr ⟨g, off, cap, cur', rfl, a1, hroom, hcm, by omega, fun j u hu => ?_⟩⟩,
          ⟨b1, b2, b3, by omega, fun k hk hn => setCells_other g _ _ w k (by simpa [Value.ownBlock] using hn)⟩, fun k hk => .inl hk⟩
        rcases Nat.lt_or_ge j xs.length with hj | hj
        · rw [List.getElem?_append_left hj] at hu
          rw [a3 _ (by have := hown.1; omega)]
          exact hc j u hu
        · rw [List.getElem?_append_right hj] at hu
          have hj2 : j - xs.length < news.length := by
            rcases Nat.lt_or_ge (j - xs.length) news.length with h | h
            · exact h
            · rw [List.getElem?_eq_none h] at hu; cases hu
          have := a4 (j - xs.length) u hu (by have := hown.1; omega)
          rw [show off + n * i.size + (j - xs.length) = off + j from by have := hown.1; omega] at this
          exact this
      · have holds : ∀ j u, xs[j]? = some u → w.cell? ((⟨g, off, none⟩ : Addr).add j) = some u := fun j u hu => by
          rw [add_none, cell_of_row w g (off + j) cur e (0, 0) hg]
          exact hc j u hu
        obtain ⟨v', w', hrun, ho, hgr⟩ := run_append_arg_grows (P := P) w t ty e i z size bytes ht hi hz hsize hby hzs hsz ⟨g, off, none⟩ n cap xs hown.1 holds ad m c news hlen hnews (by omega) h63 hbytes
        exact ⟨v', w', hrun, Own.of_row ho, (grown_kept hgr).mono (by simp), fun k hk => .inr (ho.lt k hk).1⟩
end
def Typ (w : World) (k : Nat) (E : List TypeId) : Prop := ∃ cs e f, w.heap[k]? = some (.cells cs e f) ∧ e ∈ E
structure Same (E : List TypeId) (B : Nat) (w w' : World) : Prop where
  os : w'.os = w.os
  tape : w'.tape = w.tape
  output : w'.output = w.output
  size : w.heap.size ≤ w'.heap.size
  block : ∀ k, k < w.heap.size → (k < B ∨ Typ w k E) → w'.heap[k]? = w.heap[k]?
section
variable {E : List TypeId} {B : Nat} {w w' w'' : World}
theorem Typ.of_eq {k : Nat} (h : Typ w k E) (hk : w'.heap[k]? = w.heap[k]?) : Typ w' k E := by obtain ⟨cs, e, f, h, he⟩ := h; exact ⟨cs, e, f, hk.trans h, he⟩
theorem Same.of_below (h : Below w.heap.size w w') : Same E B w w' := ⟨h.os, h.tape, h.output, h.size, fun k hk _ => h.block k hk⟩
theorem not_typ_of {k : Nat} {cs : Array Value} {e : TypeId} {f : Nat × Nat} (h : w.heap[k]? = some (.cells cs e f)) (he : e ∉ E) : ¬ Typ w k E := by
  rintro ⟨cs', e', f', h', he'⟩
  rw [h] at h'
  injection h' with h'
  injection h' with _ h2 _
  exact he (h2 ▸ he')
end
def u8 (x : UInt8) : Value := .int .u8 (x.toNat : Int)
def Bs (E : List TypeId) (B : Nat) (w : World) (A : Option Addr) (n : Nat) (l : List UInt8) : Prop :=
  l.length = n ∧ (0 < n → ∃ b off, A = some ⟨b, off, none⟩ ∧ b < w.heap.size ∧ (b < B ∨ Typ w b E) ∧ ∀ j x, l[j]? = some x → w.cell? ⟨b, off + j, none⟩ = some (u8 x))
section
variable {E : List TypeId} {B : Nat} {w w' : World} {A : Option Addr} {n : Nat} {l : List UInt8}
theorem Bs.nil (E : List TypeId) (B : Nat) (w : World) (A : Option Addr) : Bs E B w A 0 [] := ⟨rfl, fun h => absurd h (by omega)⟩
theorem Bs.same (h : Bs E B w A n l) (hs : Same E B w w') : Bs E B w' A n l :=
  ⟨h.1, fun hn => by
    obtain ⟨b, off, e, hb, ht, hc⟩ := h.2 hn
    have e1 := hs.block b hb ht
    refine ⟨b, off, e, Nat.lt_of_lt_of_le hb hs.size, ?_, fun j x hx => (World.cell?_of_block (w := w) (a := ⟨b, off + j, none⟩) e1).trans (hc j x hx)⟩
    rcases ht with ht | ht
    · exact .inl ht
    · exact .inr (ht.of_eq e1)⟩
theorem Bs.rds (h : Bs E B w A n l) : Rds w w.heap.size 1 A n (l.map u8) := by
  refine ⟨by simp [h.1], fun hn => ?_⟩
  obtain ⟨b, off, e, hb, _, hc⟩ := h.2 hn
  refine ⟨b, off, e, hb, fun j u hu => ?_⟩
  simp only [List.getElem?_map, Option.map_eq_some_iff] at hu
  obtain ⟨x, hx, rfl⟩ := hu
  exact hc j x hx
theorem Bs.of_own {e : TypeId} {c : Nat} (h : Own w e 1 (.slice A n c) n (l.map u8)) (he : e ∈ E) : Bs E B w A n l := by
  refine ⟨by have := h.1; simpa using this, fun hn => ?_⟩
  rcases h.2 with ⟨_, h0⟩ | ⟨g, off, cap, cur, hv, hg, _, _, _, hc⟩
  · omega
  · injection hv with hA
    refine ⟨g, off, hA, (Array.getElem?_eq_some_iff.1 hg).1, .inr ⟨cur, e, _, hg, he⟩, fun j x hx => ?_⟩
    rw [cell_of_row w g (off + j) cur e (0, 0) hg]
    exact hc j _ (by simp [hx])
theorem u8_one : ∀ u ∈ l.map u8, u.oneCell' = true := fun u hu => by
  simp at hu
  obtain ⟨x, _, rfl⟩ := hu
  rfl
theorem Bs.conv {P : Program} {src dst e : TypeId} {c : Nat} (h : Bs E B w A n l) (hs : P.underlying src = some (.slice e)) (he : P.underlying e = some (.int .u8)) (hd : P.underlying dst = some .string) :
    (convert src dst (.slice A n c)).run P w = .ok (.string ⟨l.toArray⟩) w := by
  have key : ∀ l : List UInt8, strOfNums (l.map fun x => (x.toNat : Int)) = ⟨l.toArray⟩ := fun l => by
    unfold strOfNums
    congr 1
    simp [List.map_map, Function.comp_def]
  rcases Nat.eq_zero_or_pos n with h0 | h0
  · subst h0
    have hl : l = [] := List.eq_nil_of_length_eq_zero h.1
    subst hl
    rw [run_convert_bytes_string w src dst e A 0 c hs he hd]
    cases A with
    | none => simp [Conv.bytesToString]; rfl
    | some a =>
      rw [run_bytesToString w a 0 c [] (by simp [loadCells, loadCellsFrom])]
      rfl
  · obtain ⟨b, off, rfl, _, _, hc⟩ := h.2 h0
    rw [run_convert_bytes_arg (P := P) w src e hs he b off n c (l.map fun x => (x.toNat : Int)) (by simp [h.1]) (fun i hi => ?_) dst hd, key]
    have hl : i < l.length := by have := h.1; omega
    rw [hc i l[i] (by simp [hl])]
    simp [u8, List.getD_eq_getElem?_getD, hl]
end
def Seq {M : Type} (size : Nat) (rel : List Value → M → Prop) (xs : List Value) (ms : List M) : Prop :=
  xs.length = ms.length * size ∧ ∀ i m, ms[i]? = some m → rel ((xs.drop (i * size)).take size) m
section
variable {M : Type} {size : Nat} {rel rel' : List Value → M → Prop} {xs ys : List Value} {ms ns : List M}
theorem Seq.nil (size : Nat) (rel : List Value → M → Prop) : Seq size rel [] [] := ⟨by simp, fun i m h => by simp at h⟩
theorem Seq.append (h : Seq size rel xs ms) (k : Seq size rel ys ns) : Seq size rel (xs ++ ys) (ms ++ ns) := by
  refine ⟨by rw [List.length_append, List.length_append, h.1, k.1, Nat.add_mul], fun i m hm => ?_⟩
  rcases Nat.lt_or_ge i ms.length with hi | hi
  · rw [List.getElem?_append_left hi] at hm
    have := h.2 i m hm
    have hle : i * size + size ≤ xs.length := by
      rw [h.1]
      calc i * size + size = (i + 1) * size := by rw [Nat.add_mul, Nat.one_mul]
        _ ≤ ms.length * size := Nat.mul_le_mul_right _ hi
    rw [List.drop_append_of_le_length (by omega), List.take_append_of_le_length (by rw [List.length_drop]; omega)]
    exact this
  · rw [List.getElem?_append_right hi] at hm
    have := k.2 _ m hm
    have e : (xs ++ ys).drop (i * size) = ys.drop ((i - ms.length) * size) := by
      rw [List.drop_append, List.drop_eq_nil_of_le (by rw [h.1]; exact Nat.mul_le_mul_right _ hi), List.nil_append, h.1, Nat.sub_mul]
    rw [e]
    exact this
theorem Seq.drop (h : Seq size rel xs ms) (k : Nat) : Seq size rel (xs.drop (k * size)) (ms.drop k) := by
  refine ⟨by rw [List.length_drop, List.length_drop, h.1, Nat.sub_mul], fun i m hm => ?_⟩
  rw [List.getElem?_drop] at hm
  have := h.2 _ m hm
  rw [List.drop_drop, ← Nat.add_mul]
  exact this
theorem Seq.one {cs : List Value} {m : M} (hl : cs.length = size) (h : rel cs m) : Seq size rel cs [m] :=
  ⟨by simp [hl], fun i n hn => by
    match i, hn with
    | 0, hn =>
      simp at hn
      subst hn
      simpa [← hl] using h⟩
end
section
variable {w w' : World} {g : Nat} {t : TypeId} {cs : Array Value}
theorem Blk.not_typ {E : List TypeId} (h : Blk w g t cs) (ht : t ∉ E) : ¬ Typ w g E := not_typ_of h ht
end
section
variable {P : Program} {fn : Func} {R : Ending → World → Prop} {a : Act} {w : World} {p u ty : Nat}
theorem ret_cell (h : fn.results = #[.cell p ty]) {g : Nat} {cs : Array Value} {t : TypeId} (d : TypeDesc) (hp : a.tmps.getD p undef = .pointer (some ⟨g, 0, none⟩)) (hg : Blk w g t cs)
    (hu : P.underlying ty = some d) (hd : (match d with | .struct _ | .array _ _ => true | _ => false) = true) (hi : (P.info? ty).map (·.size) = some cs.size) (hdef : a.defers = [])
    (hR : R (.returned (.agg cs)) w) : bodyPost P fn R .ret a w := by
  refine bodyPost_ret (v := .agg cs) ?_ hdef hR
  have hl := run_loadVar_row (P := P) w g t ty cs (0, 0) d hg hu hd hi
  have hp' : a.tmps[p]?.getD undef = .pointer (some ⟨g, 0, none⟩) := by simpa using hp
  simp [results, h, hp', asAddr, Sem.run_bind, Result.andThen, hl]
theorem ret_cell_tmp (h : fn.results = #[.cell p ty, .tmp u]) {g : Nat} {cs : Array Value} {t : TypeId} {v : Value} (d : TypeDesc) (hp : a.tmps.getD p undef = .pointer (some ⟨g, 0, none⟩)) (hv : a.tmps.getD u undef = v) (hg : Blk w g t cs)
    (hu : P.underlying ty = some d) (hd : (match d with | .struct _ | .array _ _ => true | _ => false) = true) (hi : (P.info? ty).map (·.size) = some cs.size) (hdef : a.defers = [])
    (hR : R (.returned (.tuple #[.agg cs, v])) w) : bodyPost P fn R .ret a w := by
  refine bodyPost_ret (v := .tuple #[.agg cs, v]) ?_ hdef hR
  have hl := run_loadVar_row (P := P) w g t ty cs (0, 0) d hg hu hd hi
  rw [results_cell_tmp h, hp, hv]
  simp [asAddr, Result.andThen, hl]
end
end Go.Hub
namespace Go.Hub
open Go.RowKit
abbrev FL := List (Nat × Value)
def look : FL → Nat → Option Value
  | [], _ => none
  | (i, v) :: r, j => bif i == j then some v else look r j
def evl (l : FL) : Operand → Option Value
  | .tmp t => look l t
  | .const v => some v
  | .global g => some (.pointer (some ⟨g, 0, none⟩))
  | .func f => some (.func (.func f) #[] #[])
structure Fr (n : Nat) (a : Act) (l : FL) : Prop where
  defers : a.defers = []
  size : a.tmps.size = n
  slot : ∀ i v, look l i = some v → a.tmps[i]? = some v
section
variable {n : Nat} {a : Act} {l : FL}
theorem Fr.ev (f : Fr n a l) {x : Operand} {v : Value} (h : evl l x = some v) : a.eval x = v := by
  cases x with
  | tmp t => simp only [Act.eval, Array.getD_eq_getD_getElem?, f.slot t v h, Option.getD_some]
  | const c => simpa [evl, Act.eval] using h
  | global g => simpa [evl, Act.eval] using h
  | func g => simpa [evl, Act.eval] using h
theorem Fr.get (f : Fr n a l) {i : Nat} {v : Value} (h : look l i = some v) : a.tmps.getD i undef = v := by
  rw [Array.getD_eq_getD_getElem?, f.slot i v h, Option.getD_some]
theorem Fr.put (f : Fr n a l) (d : Nat) (v : Value) (hd : d < n) : Fr n (a.put (some d) v) ((d, v) :: l) := by
  refine ⟨f.defers, by simp [Act.put, f.size], fun i u h => ?_⟩
  unfold look at h
  simp only [Act.put, Array.getElem?_setIfInBounds]
  by_cases hi : d = i
  · subst hi
    simp at h
    subst h
    rw [if_pos rfl, if_pos (by rw [f.size]; exact hd)]
  · have hb : (d == i) = false := by simp [hi]
    simp [hb] at h
    rw [if_neg hi]
    exact f.slot i u h
def sub (l : FL) : FL → Prop
  | [] => True
  | p :: r => look l p.1 = some p.2 ∧ sub l r
theorem sub_look {l l' : FL} (h : sub l l') : ∀ i v, look l' i = some v → look l i = some v := by
  induction l' with
  | nil => intro i v h; simp [look] at h
  | cons p r ih =>
    obtain ⟨h1, h2⟩ := h
    intro i v hv
    unfold look at hv
    by_cases hi : p.1 = i
    · subst hi
      simp at hv
      rw [← hv]; exact h1
    · have hb : (p.1 == i) = false := by simp [hi]
      simp [hb] at hv
      exact ih h2 i v hv
theorem sub_nil {l : FL} : sub l [] := trivial
theorem sub_cons {l : FL} {i : Nat} {v : Value} {r : FL} (h : look l i = some v) (h' : sub l r) : sub l ((i, v) :: r) := ⟨h, h'⟩
theorem Fr.sub {l' : FL} (f : Fr n a l) (h : sub l l') : Fr n a l' := ⟨f.defers, f.size, fun i v hv => f.slot i v (sub_look h i v hv)⟩
theorem Fr.as (f : Fr n a l) {i : Nat} {v v' : Value} (h : look l i = some v) (e : v = v') : Fr n a ((i, v') :: l) := by
  subst e
  refine ⟨f.defers, f.size, fun j u hu => ?_⟩
  unfold look at hu
  by_cases hi : i = j
  · subst hi
    simp at hu
    subst hu
    exact f.slot i v h
  · have hb : (i == j) = false := by simp [hi]
    simp [hb] at hu
    exact f.slot j u hu
theorem Fr.start (args : Array Value) (n : Nat) (h : args.size ≤ n) : Fr n { tmps := args ++ Array.replicate (n - args.size) undef, defers := [] } (args.toList.zipIdx.map fun p => (p.2, p.1)) := by
  refine ⟨rfl, by simp; omega, fun i v hv => ?_⟩
  have key : ∀ (xs : List Value) (k i : Nat) (v : Value), look ((xs.zipIdx k).map fun p => (p.2, p.1)) i = some v → k ≤ i ∧ xs[i - k]? = some v := by
    intro xs
    induction xs with
    | nil => intro k i v h; simp [look] at h
    | cons x r ih =>
      intro k i v h
      simp only [List.zipIdx_cons, List.map_cons, look] at h
      by_cases hi : k = i
      · subst hi
        simp at h
        subst h
        simp
      · have hb : (k == i) = false := by simp [hi]
        simp [hb] at h
        obtain ⟨h1, h2⟩ := ih (k + 1) i v h
        refine ⟨by omega, ?_⟩
        rw [show i - k = (i - (k + 1)) + 1 from by omega]
        simpa using h2
  obtain ⟨_, h2⟩ := key args.toList 0 i v hv
  have hlt : i < args.size := by
    rcases Nat.lt_or_ge i args.size with h | h
    · exact h
    · simp [h] at h2
  simp only [Array.getElem?_append_left hlt]
  simpa using h2
end
section
variable {P : Program} {ops : Array Oper} {rest : List Oper} {o : Oper} {a : Act} {w w' : World} {Q : Exit → Act → World → Prop} {n d : Nat} {l : FL} {v : Value}
theorem Fr.yield (f : Fr n a l) {j dj : Nat} {b : Bool} (hj : (ops[j]?).bind (·.dst) = some dj) (hb : look l dj = some (.bool b)) : yielded ops a.tmps j = some b := by
  unfold yielded
  rw [hj]
  simp [f.slot dj _ hb]
theorem L.val (f : Fr n a l) (hw : Region.wanted o (yielded ops a.tmps) = true) (hd : o.dst = some d) (hn : d < n) (h : (execOp a.eval o).run P w = .ok (.value v) w')
    (hK : ∀ a', Fr n a' ((d, v) :: l) → wpList P ops Q rest a' w') : wpList P ops Q (o :: rest) a w :=
  wpList_step fun K hK' => by
    rw [if_pos hw]
    unfold Oper.wp
    rw [h]
    show K (a.put o.dst v) w'
    rw [hd]
    exact hK' _ _ (hK _ (f.put d v hn))
theorem L.act (f : Fr n a l) (hw : Region.wanted o (yielded ops a.tmps) = true) (hd : o.dst = none) (h : (execOp a.eval o).run P w = .ok .skip w')
    (hK : ∀ a', Fr n a' l → wpList P ops Q rest a' w') : wpList P ops Q (o :: rest) a w :=
  wpList_step fun K hK' => by
    rw [if_pos hw]
    unfold Oper.wp
    rw [h]
    show K (a.put o.dst undef) w'
    rw [hd]
    exact hK' _ _ (hK _ f)
theorem L.drop (f : Fr n a l) (hw : Region.wanted o (yielded ops a.tmps) = true) (hd : o.dst = none) (h : (execOp a.eval o).run P w = .ok (.value v) w')
    (hK : ∀ a', Fr n a' l → wpList P ops Q rest a' w') : wpList P ops Q (o :: rest) a w :=
  wpList_step fun K hK' => by
    rw [if_pos hw]
    unfold Oper.wp
    rw [h]
    show K (a.put o.dst v) w'
    rw [hd]
    exact hK' _ _ (hK _ f)
theorem L.skip (f : Fr n a l) (hw : Region.wanted o (yielded ops a.tmps) = false) (hd : o.dst = some d) (hn : d < n)
    (hK : ∀ a', Fr n a' ((d, undef) :: l) → wpList P ops Q rest a' w) : wpList P ops Q (o :: rest) a w :=
  wpList_step fun K hK' => by
    rw [if_neg (by rw [hw]; simp), hd]
    exact hK' _ _ (hK _ (f.put d undef hn))
theorem L.skipN (f : Fr n a l) (hw : Region.wanted o (yielded ops a.tmps) = false) (hd : o.dst = none)
    (hK : ∀ a', Fr n a' l → wpList P ops Q rest a' w) : wpList P ops Q (o :: rest) a w :=
  wpList_step fun K hK' => by
    rw [if_neg (by rw [hw]; simp), hd]
    exact hK' _ _ (hK _ f)
theorem run_call {fn : Nat} {xs : Array Operand} {ats : Array TypeId} {dst : Option Nat} {ty : TypeId} {ps : String} {af : Array Edge} {g : Option (Nat × Bool)} {args : Array Value}
    (hc : ∀ args w, (callFunc fn args).run P w = .ok (.enter fn args) w) (hx : xs.map a.eval = args) :
    (execOp a.eval ⟨dst, .call { callee := .value (.func fn), args := xs, argTypes := ats }, ty, ps, af, g⟩).run P w = .ok (.enter fn args) w := by
  have e : execOp a.eval ⟨dst, .call { callee := .value (.func fn), args := xs, argTypes := ats }, ty, ps, af, g⟩ = callFunc fn (#[] ++ xs.map a.eval ++ #[]) := rfl
  rw [e, hx, hc]
  simp
theorem L.call (f : Fr n a l) (hw : Region.wanted o (yielded ops a.tmps) = true) (hd : o.dst = some d) (hn : d < n) {fn : Nat} {args : Array Value} (h : (execOp a.eval o).run P w = .ok (.enter fn args) w)
    {R : Ending → World → Prop} (hc : Calls P fn args w R) (hR : ∀ e w', R e w' → ∃ v, e = .returned v ∧ ∀ a', Fr n a' ((d, v) :: l) → wpList P ops Q rest a' w') : wpList P ops Q (o :: rest) a w :=
  wpList_step fun K hK' => by
    rw [if_pos hw]
    unfold Oper.wp
    rw [h]
    refine Calls.mono hc ?_
    intro e w' hr
    obtain ⟨v, rfl, hK⟩ := hR e w' hr
    show K (a.put o.dst v) w'
    rw [hd]
    exact hK' _ _ (hK _ (f.put d v hn))
theorem Fr.split {G : Prop} (f : Fr n a l) (i : Nat) {b : Bool} (h : look l i = some (.bool b)) (ht : b = true → Fr n a ((i, .bool true) :: l) → G) (hf : b = false → Fr n a ((i, .bool false) :: l) → G) : G := by
  cases hb : b
  · exact hf hb (f.as h (by rw [hb]))
  · exact ht hb (f.as h (by rw [hb]))
theorem Fr.splitD {G : Prop} (f : Fr n a l) (i : Nat) {p : Prop} {inst : Decidable p} (h : look l i = some (.bool (@decide p inst))) (ht : p → Fr n a ((i, .bool true) :: l) → G) (hf : ¬ p → Fr n a ((i, .bool false) :: l) → G) : G :=
  f.split i h (fun e => ht (of_decide_eq_true e)) (fun e => hf (of_decide_eq_false e))
theorem Fr.splitNB {G : Prop} (f : Fr n a l) (i : Nat) {b : Bool} (h : look l i = some (.bool (!b))) (ht : b = false → Fr n a ((i, .bool true) :: l) → G) (hf : b = true → Fr n a ((i, .bool false) :: l) → G) : G :=
  f.split i h (fun e => ht (by simpa using e)) (fun e => hf (by simpa using e))
theorem Fr.splitN {G : Prop} (f : Fr n a l) (i : Nat) {p : Prop} {inst : Decidable p} (h : look l i = some (.bool (!@decide p inst))) (ht : ¬ p → Fr n a ((i, .bool true) :: l) → G) (hf : p → Fr n a ((i, .bool false) :: l) → G) : G :=
  f.split i h (fun e => ht (by simpa using e)) (fun e => hf (by simpa using e))
end
section
variable {P : Program} {ops : Array Oper} {Q : Exit → Act → World → Prop} {md : Region.Mode} {S : World → Prop} {a : Act} {w w' : World} {n d : Nat} {l : FL} {v : Value} {o : Oper}
theorem R.begin {id : Nat} (hm : P.follows .mixedOrders = true) (hS : S (w.drewN 1))
    (h : wpAnyH P .any ops Q S ops.size (Array.replicate ops.size false) a (w.drewN 1)) : (Code.region id ops true).wp P Q a w := wp_region_held hm h
theorem R.take (i : Nat) {fuel : Nat} {listed : Array Bool} (f : Fr n a l) (hi : ops[i]? = some o) (hd : o.dst = some d) (hn : d < n) (hs : Region.noSelect ops = true) (hf : Region.free md ops listed i = true)
    (hr : (Region.ready md ops listed).contains i = true) (hQ : ∀ c (a : Act) (u : Value) w, Q (.panic c) (a.put (some d) u) w → Q (.panic c) a w) (hw : Region.wanted o (yielded ops a.tmps) = true) (hS : S w)
    (hv : ∀ w, S w → (execOp a.eval o).run P w = .ok (.value v) w)
    (hK : ∀ a', Fr n a' ((d, v) :: l) → wpAnyH P md ops Q S fuel (listed.setIfInBounds i true) a' w) : wpAnyH P md ops Q S (fuel + 1) listed a w := by
  refine wpAnyH_take hi hs hf hr (v := v) (fun c a w h => hQ c a v w (by rwa [hd] at h)) (.inl ⟨hw, hv⟩) hS ?_
  rw [hd]
  exact hK _ (f.put d v hn)
theorem R.takeSkip (i : Nat) {fuel : Nat} {listed : Array Bool} (f : Fr n a l) (hi : ops[i]? = some o) (hd : o.dst = some d) (hn : d < n) (hs : Region.noSelect ops = true) (hf : Region.free md ops listed i = true)
    (hr : (Region.ready md ops listed).contains i = true) (hQ : ∀ c (a : Act) (u : Value) w, Q (.panic c) (a.put (some d) u) w → Q (.panic c) a w) (hw : Region.wanted o (yielded ops a.tmps) = false) (hS : S w)
    (hK : ∀ a', Fr n a' ((d, undef) :: l) → wpAnyH P md ops Q S fuel (listed.setIfInBounds i true) a' w) : wpAnyH P md ops Q S (fuel + 1) listed a w := by
  refine wpAnyH_take hi hs hf hr (v := undef) (fun c a w h => hQ c a undef w (by rwa [hd] at h)) (.inr ⟨hw, rfl⟩) hS ?_
  rw [hd]
  exact hK _ (f.put d undef hn)
theorem R.call (i : Nat) {fuel : Nat} {listed : Array Bool} (f : Fr n a l) (hi : ops[i]? = some o) (hd : o.dst = some d) (hn : d < n) (hr : Region.ready md ops listed = [i]) (hw : Region.wanted o (yielded ops a.tmps) = true)
    {fn : Nat} {args : Array Value} (h : (execOp a.eval o).run P w = .ok (.enter fn args) w) {R : Ending → World → Prop} (hc : Calls P fn args w R)
    (hR : ∀ e w', R e w' → ∃ v, e = .returned v ∧ S w' ∧ ∀ a', Fr n a' ((d, v) :: l) → wpAnyH P md ops Q S fuel (listed.setIfInBounds i true) a' w') : wpAnyH P md ops Q S (fuel + 1) listed a w := by
  refine wpAnyH_all hr (by simp) ?_
  intro j hj
  simp only [List.mem_singleton] at hj
  subst hj
  unfold wpOp
  simp only [hi, hw, if_true]
  refine .inl ?_
  unfold Oper.wp
  rw [h]
  refine Calls.mono hc ?_
  intro e w' hr
  obtain ⟨v, rfl, hS, hK⟩ := hR e w' hr
  show S w' ∧ wpAnyH P md ops Q S fuel (listed.setIfInBounds j true) (a.put o.dst v) w'
  rw [hd]
  exact ⟨hS, hK _ (f.put d v hn)⟩
theorem R.done {fuel : Nat} {listed : Array Bool} (hr : Region.ready md ops listed = []) (h : Q .normal a w) : wpAnyH P md ops Q S fuel listed a w := wpAnyH_done hr h fuel
end
section
variable {P : Program} {Q : Exit → Act → World → Prop} {a : Act} {w : World} {n : Nat} {l : FL}
theorem C.region {id : Nat} {ops : List Oper} (h : wpList P ops.toArray Q ops a w) : (Code.region id ops.toArray false).wp P Q a w := wp_region_lit h
theorem C.condT (f : Fr n a l) {c : Operand} {x y : Code} (hc : evl l c = some (.bool true)) (h : x.wp P Q a w) : (Code.cond c x y).wp P Q a w := wp_cond_true (f.ev hc) h
theorem C.condF (f : Fr n a l) {c : Operand} {x y : Code} (hc : evl l c = some (.bool false)) (h : y.wp P Q a w) : (Code.cond c x y).wp P Q a w := wp_cond_false (f.ev hc) h
theorem C.cut {x y : Code} (J : Act → World → Prop) (h : x.wp P (Exit.then J Q) a w) (hr : ∀ a w, J a w → y.wp P Q a w) : (Code.seq x y).wp P Q a w :=
  wp_seq (Code.wp_mono (fun e a w q => by cases e <;> first | exact hr _ _ q | exact q) h)
theorem C.loop (I : Nat → Act → World → Prop) (n₀ : Nat) {c : Code} (h₀ : I n₀ a w)
    (round : ∀ n a w, I n a w → ∀ K : Act → World → Prop, (∀ a w k, k < n → I k a w → K a w) → c.wp P (Exit.then K Q) a w) : (Code.loop c).wp P Q a w :=
  wp_loop_ghost I n₀ h₀ fun n a w h => round n a w h _ fun a w k hk hI => ⟨k, hk, hI⟩
theorem C.enter {f : Nat} {fn : Func} {c : Code} {args : Array Value} {R : Ending → World → Prop} {n : Nat} (hf : P.funcs[f]? = some fn) (hb : fn.body = some c) (hn : fn.ntmps = n) (hs : Nat.ble args.size n = true)
    (h : ∀ a, Fr n a (args.toList.zipIdx.map fun p => (p.2, p.1)) → c.wp P (bodyPost P fn R) a w) : Calls P f args w R := by
  refine calls_of_wp hf hb (h _ ?_)
  rw [hn]
  exact Fr.start args n (Nat.le_of_ble_eq_true hs)
theorem C.ret {fn : Func} {R : Ending → World → Prop} (f : Fr n a l) {t : Tmp} (hr : fn.results = #[.tmp t]) {v : Value} (hv : look l t = some v) (h : R (.returned v) w) : bodyPost P fn R .ret a w :=
  bodyPost_ret (by rw [results_tmp hr, f.get hv]) f.defers h
theorem C.ret2 {fn : Func} {R : Ending → World → Prop} (f : Fr n a l) {t u : Tmp} (hr : fn.results = #[.tmp t, .tmp u]) {v v' : Value} (hv : look l t = some v) (hv' : look l u = some v') (h : R (.returned (.tuple #[v, v'])) w) : bodyPost P fn R .ret a w :=
  bodyPost_ret (by rw [results_tmp2 hr, f.get hv, f.get hv']) f.defers h
end
end Go.Hub
namespace Go.Hub
open Go.RowKit
theorem beqD {α : Type} [BEq α] [LawfulBEq α] [DecidableEq α] (a b : α) : (a == b) = decide (a = b) := by by_cases h : a = b <;> simp [h]
section
variable {P : Program} {a : Act} {w : World} {n : Nat} {l : FL} {dst : Option Nat} {ty : TypeId} {ps : String} {af : Array Edge} {g : Option (Nat × Bool)} {x y z : Operand} {t u : TypeId}
theorem E.move (f : Fr n a l) {v : Value} (hx : evl l x = some v) : (execOp a.eval ⟨dst, .move x, ty, ps, af, g⟩).run P w = .ok (.value v) w := by simp [execOp, f.ev hx]
theorem E.assign (f : Fr n a l) {v : Value} (hx : evl l x = some v) : (execOp a.eval ⟨dst, .assign x, ty, ps, af, g⟩).run P w = .ok (.value v) w := by simp [execOp, f.ev hx]
theorem E.pickT (f : Fr n a l) {v : Value} (hc : evl l x = some (.bool true)) (hv : evl l y = some v) : (execOp a.eval ⟨dst, .pick x y z, ty, ps, af, g⟩).run P w = .ok (.value v) w := by simp [execOp, f.ev hc, f.ev hv, asBool]
theorem E.pickF (f : Fr n a l) {v : Value} (hc : evl l x = some (.bool false)) (hv : evl l z = some v) : (execOp a.eval ⟨dst, .pick x y z, ty, ps, af, g⟩).run P w = .ok (.value v) w := by simp [execOp, f.ev hc, f.ev hv, asBool]
theorem E.add (f : Fr n a l) {k : IntKind} {i j r : Int} (hx : evl l x = some (.int k i)) (hy : evl l y = some (.int k j)) (hr : k.wrap (i + j) = r) : (execOp a.eval ⟨dst, .binOp .add t x y u, ty, ps, af, g⟩).run P w = .ok (.value (.int k r)) w := by
  simp [execOp, f.ev hx, f.ev hy, eqGuard, binOp, Op.intArith, hr]
theorem E.sub (f : Fr n a l) {k : IntKind} {i j r : Int} (hx : evl l x = some (.int k i)) (hy : evl l y = some (.int k j)) (hr : k.wrap (i - j) = r) : (execOp a.eval ⟨dst, .binOp .sub t x y u, ty, ps, af, g⟩).run P w = .ok (.value (.int k r)) w := by
  simp [execOp, f.ev hx, f.ev hy, eqGuard, binOp, Op.intArith, hr]
theorem E.quo (f : Fr n a l) {k : IntKind} {i j r : Int} (hx : evl l x = some (.int k i)) (hy : evl l y = some (.int k j)) (h0 : j ≠ 0) (hr : k.wrap (i.tdiv j) = r) : (execOp a.eval ⟨dst, .binOp .quo t x y u, ty, ps, af, g⟩).run P w = .ok (.value (.int k r)) w := by
  simp [execOp, f.ev hx, f.ev hy, eqGuard, binOp, Op.intDiv, h0, hr]
theorem E.rem (f : Fr n a l) {k : IntKind} {i j r : Int} (hx : evl l x = some (.int k i)) (hy : evl l y = some (.int k j)) (h0 : j ≠ 0) (hr : i.tmod j = r) : (execOp a.eval ⟨dst, .binOp .rem t x y u, ty, ps, af, g⟩).run P w = .ok (.value (.int k r)) w := by
  simp [execOp, f.ev hx, f.ev hy, eqGuard, binOp, Op.intDiv, h0, hr]
theorem E.eql (f : Fr n a l) {k : IntKind} {i j : Int} (hx : evl l x = some (.int k i)) (hy : evl l y = some (.int k j)) : (execOp a.eval ⟨dst, .binOp .eql t x y u, ty, ps, af, g⟩).run P w = .ok (.value (.bool (decide (i = j)))) w := by
  simp [execOp, f.ev hx, f.ev hy, eqGuard, binOp, Op.intCmp, beqD]
theorem E.neq (f : Fr n a l) {k : IntKind} {i j : Int} (hx : evl l x = some (.int k i)) (hy : evl l y = some (.int k j)) : (execOp a.eval ⟨dst, .binOp .neq t x y u, ty, ps, af, g⟩).run P w = .ok (.value (.bool (!decide (i = j)))) w := by
  simp [execOp, f.ev hx, f.ev hy, eqGuard, binOp, Op.intCmp, bne, beqD]
theorem E.lss (f : Fr n a l) {k : IntKind} {i j : Int} (hx : evl l x = some (.int k i)) (hy : evl l y = some (.int k j)) : (execOp a.eval ⟨dst, .binOp .lss t x y u, ty, ps, af, g⟩).run P w = .ok (.value (.bool (decide (i < j)))) w := by
  simp [execOp, f.ev hx, f.ev hy, eqGuard, binOp, Op.intCmp]
theorem E.leq (f : Fr n a l) {k : IntKind} {i j : Int} (hx : evl l x = some (.int k i)) (hy : evl l y = some (.int k j)) : (execOp a.eval ⟨dst, .binOp .leq t x y u, ty, ps, af, g⟩).run P w = .ok (.value (.bool (decide (i ≤ j)))) w := by
  simp [execOp, f.ev hx, f.ev hy, eqGuard, binOp, Op.intCmp]
theorem E.gtr (f : Fr n a l) {k : IntKind} {i j : Int} (hx : evl l x = some (.int k i)) (hy : evl l y = some (.int k j)) : (execOp a.eval ⟨dst, .binOp .gtr t x y u, ty, ps, af, g⟩).run P w = .ok (.value (.bool (decide (j < i)))) w := by
  simp [execOp, f.ev hx, f.ev hy, eqGuard, binOp, Op.intCmp]
theorem E.geq (f : Fr n a l) {k : IntKind} {i j : Int} (hx : evl l x = some (.int k i)) (hy : evl l y = some (.int k j)) : (execOp a.eval ⟨dst, .binOp .geq t x y u, ty, ps, af, g⟩).run P w = .ok (.value (.bool (decide (j ≤ i)))) w := by
  simp [execOp, f.ev hx, f.ev hy, eqGuard, binOp, Op.intCmp]
theorem toList_eq_iff {s r : ByteArray} : s.toList = r.toList ↔ s = r := by
  rw [ByteArray.toList_eq, ByteArray.toList_eq]
  constructor
  · intro h
    exact ByteArray.ext (Array.toList_inj.mp h)
  · intro h; rw [h]
theorem E.eqlS (f : Fr n a l) {s r : ByteArray} (hx : evl l x = some (.string s)) (hy : evl l y = some (.string r)) : (execOp a.eval ⟨dst, .binOp .eql t x y u, ty, ps, af, g⟩).run P w = .ok (.value (.bool (decide (s = r)))) w := by
  simp [execOp, f.ev hx, f.ev hy, eqGuard, binOp, Op.stringOp, beqD, toList_eq_iff]
theorem E.neqS (f : Fr n a l) {s r : ByteArray} (hx : evl l x = some (.string s)) (hy : evl l y = some (.string r)) : (execOp a.eval ⟨dst, .binOp .neq t x y u, ty, ps, af, g⟩).run P w = .ok (.value (.bool (!decide (s = r)))) w := by
  simp [execOp, f.ev hx, f.ev hy, eqGuard, binOp, Op.stringOp, beqD, toList_eq_iff]
theorem E.lssS (f : Fr n a l) {s r : ByteArray} (hx : evl l x = some (.string s)) (hy : evl l y = some (.string r)) : (execOp a.eval ⟨dst, .binOp .lss t x y u, ty, ps, af, g⟩).run P w = .ok (.value (.bool (Op.bytesLess s.toList r.toList))) w := by
  simp [execOp, f.ev hx, f.ev hy, eqGuard, binOp, Op.stringOp]
theorem E.addS (f : Fr n a l) {s r : ByteArray} (hx : evl l x = some (.string s)) (hy : evl l y = some (.string r)) (hb : s.size + r.size ≤ 9223372036854775807) : (execOp a.eval ⟨dst, .binOp .add t x y u, ty, ps, af, g⟩).run P w = .ok (.value (.string (s ++ r))) w := by
  have h : ¬ (((s.size + r.size : Nat) : Int) > IntKind.i64.max) := by
    have : IntKind.i64.max = 9223372036854775807 := by decide
    rw [this]; omega
  simp only [execOp, f.ev hx, f.ev hy, eqGuard, binOp, Op.stringOp]
  simp only [h, if_false]
  rfl
theorem E.eqlB (f : Fr n a l) {b c : Bool} (ht : P.underlying t = some .bool) (hx : evl l x = some (.bool b)) (hy : evl l y = some (.bool c)) : (execOp a.eval ⟨dst, .binOp .eql t x y u, ty, ps, af, g⟩).run P w = .ok (.value (.bool (b == c))) w := by
  simp [execOp, f.ev hx, f.ev hy, eqGuard, binOp, Op.equal, Op.maxDepth, run_equalIn_bool' w _ t b c ht]
theorem E.neqB (f : Fr n a l) {b c : Bool} (ht : P.underlying t = some .bool) (hx : evl l x = some (.bool b)) (hy : evl l y = some (.bool c)) : (execOp a.eval ⟨dst, .binOp .neq t x y u, ty, ps, af, g⟩).run P w = .ok (.value (.bool (b != c))) w := by
  simp [execOp, f.ev hx, f.ev hy, eqGuard, binOp, Op.equal, Op.maxDepth, run_equalIn_bool' w _ t b c ht, bne]
theorem E.eqlV (f : Fr n a l) {v v' : Value} {b : Bool} (hx : evl l x = some v) (hy : evl l y = some v') (h : ∀ w, (do eqGuard .eql t x y v v'; binOp .eql t v v' : Sem Value).run P w = .ok (.bool b) w) : (execOp a.eval ⟨dst, .binOp .eql t x y u, ty, ps, af, g⟩).run P w = .ok (.value (.bool b)) w := by
  have := h w
  simp only [execOp, f.ev hx, f.ev hy]
  rw [Sem.run_bind, this]
  rfl
theorem E.neqV (f : Fr n a l) {v v' : Value} {b : Bool} (hx : evl l x = some v) (hy : evl l y = some v') (h : ∀ w, (do eqGuard .neq t x y v v'; binOp .neq t v v' : Sem Value).run P w = .ok (.bool b) w) : (execOp a.eval ⟨dst, .binOp .neq t x y u, ty, ps, af, g⟩).run P w = .ok (.value (.bool b)) w := by
  have := h w
  simp only [execOp, f.ev hx, f.ev hy]
  rw [Sem.run_bind, this]
  rfl
theorem E.not (f : Fr n a l) {b : Bool} (hx : evl l x = some (.bool b)) : (execOp a.eval ⟨dst, .unOp .not t x, ty, ps, af, g⟩).run P w = .ok (.value (.bool (!b))) w := by simp [execOp, f.ev hx, Op.unary]
theorem E.conv (f : Fr n a l) {k k' : IntKind} {i r : Int} (ht : P.underlying t = some (.int k)) (hu : P.underlying u = some (.int k')) (hx : evl l x = some (.int k i)) (hr : k'.wrap i = r) : (execOp a.eval ⟨dst, .convert t u x, ty, ps, af, g⟩).run P w = .ok (.value (.int k' r)) w := by
  simp [execOp, f.ev hx, convert, run_underlying ht, run_underlying hu, Conv.intToInt, hr]
theorem E.convV (f : Fr n a l) {v v' : Value} {w' : World} (hx : evl l x = some v) (h : (convert t u v).run P w = .ok v' w') : (execOp a.eval ⟨dst, .convert t u x, ty, ps, af, g⟩).run P w = .ok (.value v') w' := by
  simp [execOp, f.ev hx, h]
theorem E.extract (f : Fr n a l) {vs : Array Value} {i : Nat} {v : Value} (hx : evl l x = some (.tuple vs)) (hi : vs[i]? = some v) : (execOp a.eval ⟨dst, .extract x i, ty, ps, af, g⟩).run P w = .ok (.value v) w := by
  simp [execOp, f.ev hx, Instr.extract, hi]
theorem E.nilCheck (f : Fr n a l) {ad : Addr} (hx : evl l x = some (.pointer (some ad))) : (execOp a.eval ⟨dst, .nilCheck x, ty, ps, af, g⟩).run P w = .ok (.value (.pointer (some ad))) w := by
  simp [execOp, f.ev hx]
theorem E.build (f : Fr n a l) {parts : Array (Nat × Operand)} {vs : List (Nat × Value)} {cs : Array Value} (hx : (parts.map fun p => (p.1, a.eval p.2)).toList = vs) (hb : P.built t vs = some cs) : (execOp a.eval ⟨dst, .build t parts, ty, ps, af, g⟩).run P w = .ok (.value (.agg cs)) w := by
  have hx' : (parts.map fun (i, x) => (i, a.eval x)).toList = vs := hx
  have hr := run_build (P := P) w t (parts.map fun (i, x) => (i, a.eval x)) cs (by rw [hx']; exact hb)
  simp only [execOp]
  rw [Sem.run_bind, hr]
  rfl
theorem E.lenS (f : Fr n a l) {s : ByteArray} (ht : P.underlying t = some .string) (hx : evl l x = some (.string s)) : (execOp a.eval ⟨dst, .call { callee := .builtin .len, args := #[x], argTypes := #[t] }, ty, ps, af, g⟩).run P w = .ok (.value (.int .i64 s.size)) w := by
  simp [execOp, resolve, invoke, builtin, f.ev hx, Builtin.len_, run_underlying ht, goInt]
theorem E.lenL (f : Fr n a l) {e : TypeId} {A : Option Addr} {m c : Nat} (ht : P.underlying t = some (.slice e)) (hx : evl l x = some (.slice A m c)) : (execOp a.eval ⟨dst, .call { callee := .builtin .len, args := #[x], argTypes := #[t] }, ty, ps, af, g⟩).run P w = .ok (.value (.int .i64 m)) w := by
  simp [execOp, resolve, invoke, builtin, f.ev hx, Builtin.len_, run_underlying ht, goInt]
theorem E.min (f : Fr n a l) {k : IntKind} {i j : Int} (hx : evl l x = some (.int k i)) (hy : evl l y = some (.int k j)) : (execOp a.eval ⟨dst, .call { callee := .builtin .min, args := #[x, y], argTypes := #[t, u] }, ty, ps, af, g⟩).run P w = .ok (.value (.int k (Min.min i j))) w := by
  have e : Min.min i j = if j < i then j else i := by rw [Int.min_def]; split <;> split <;> omega
  simp [execOp, resolve, invoke, builtin, f.ev hx, f.ev hy, Builtin.min_, Builtin.min2, e]
theorem E.max (f : Fr n a l) {k : IntKind} {i j : Int} (hx : evl l x = some (.int k i)) (hy : evl l y = some (.int k j)) : (execOp a.eval ⟨dst, .call { callee := .builtin .max, args := #[x, y], argTypes := #[t, u] }, ty, ps, af, g⟩).run P w = .ok (.value (.int k (Max.max i j))) w := by
  have e : Max.max i j = if i < j then j else i := by rw [Int.max_def]; split <;> split <;> omega
  simp [execOp, resolve, invoke, builtin, f.ev hx, f.ev hy, Builtin.max_, Builtin.max2, e]
theorem add_plain (b o k : Nat) : (⟨b, o, none⟩ : Addr).add k = ⟨b, o + k, none⟩ := Addr.add_mid b o k
theorem E.fieldAddr (f : Fr n a l) {fs : Array Field} {i : Nat} {fld : Field} {b o s : Nat} (ht : P.underlying t = some (.struct fs)) (hx : evl l x = some (.pointer (some ⟨b, o, none⟩))) (hi : fs[i]? = some fld)
    (hs : (P.info? fld.type).map (·.size) = some (s + 1)) : (execOp a.eval ⟨dst, .fieldAddr t x i, ty, ps, af, g⟩).run P w = .ok (.value (.pointer (some ⟨b, o + fld.offset, none⟩))) w := by
  cases hq : P.info? fld.type with
  | none => simp [hq] at hs
  | some i' =>
    have hs' : i'.size = s + 1 := by simpa [hq] using hs
    simp [execOp, f.ev hx, Instr.fieldAt, run_underlying ht, hi, Instr.sureAddr, fieldPlace, sizeOf, typeInfo, hq, hs', add_plain]
theorem E.indexAddr (f : Fr n a l) {e : TypeId} {b o m c s : Nat} {k : IntKind} {i : Int} (ht : P.underlying t = some (.slice e)) (hs : (P.info? e).map (·.size) = some s) (hx : evl l x = some (.slice (some ⟨b, o, none⟩) m c)) (hy : evl l y = some (.int k i))
    (h0 : 0 ≤ i) (h1 : i < m) : (execOp a.eval ⟨dst, .indexAddr t x y, ty, ps, af, g⟩).run P w = .ok (.value (.pointer (some ⟨b, o + i.toNat * s, none⟩))) w := by
  cases hq : P.info? e with
  | none => simp [hq] at hs
  | some i' =>
    have hs' : i'.size = s := by simpa [hq] using hs
    simp [execOp, f.ev hx, f.ev hy, Instr.indexAt, asIntOf, run_underlying ht, h0, h1, sizeOf, typeInfo, hq, hs', add_plain]
theorem E.load (f : Fr n a l) {ad : Addr} {v : Value} {d : TypeDesc} (ht : P.underlying t = some d) (hd : d.isRow = false) (hx : evl l x = some (.pointer (some ad))) (hc : w.cell? ad = some v) : (execOp a.eval ⟨dst, .load t x, ty, ps, af, g⟩).run P w = .ok (.value v) w := by
  have hagg : (isAgg t).run P w = .ok false w := by
    unfold isAgg
    rw [Sem.run_bind, run_underlying ht w]
    cases d <;> simp_all [TypeDesc.isRow]
  simp [execOp, f.ev hx, Instr.loadAt, Instr.sureAddr, loadVar, hagg, load, Sem.run, hc]
theorem E.loadR (f : Fr n a l) {b o s : Nat} {cs : List Value} {d : TypeDesc} (ht : P.underlying t = some d) (hd : d.isRow = true) (hi : (P.info? t).map (·.size) = some s) (hx : evl l x = some (.pointer (some ⟨b, o, none⟩))) (hc : w.rangeAt b o cs) (hl : cs.length = s) :
    (execOp a.eval ⟨dst, .load t x, ty, ps, af, g⟩).run P w = .ok (.value (.agg cs.toArray)) w := by
  subst hl
  simp only [execOp, f.ev hx]
  rw [Sem.run_bind, run_loadAt_mid w b o t cs d hc ht hd hi]
  rfl
theorem E.store (f : Fr n a l) {b o : Nat} {v old : Value} (hi : (P.info? t).map (·.size) = some 1) (hx : evl l x = some (.pointer (some ⟨b, o, none⟩))) (hy : evl l y = some v) (h1 : v.oneCell' = true) (hc : w.cell? ⟨b, o, none⟩ = some old) (hf : w.frozen? ⟨b, o, none⟩ = false) :
    (execOp a.eval ⟨dst, .store t x y, ty, ps, af, g⟩).run P w = .ok .skip (w.setCell ⟨b, o, none⟩ v) := by
  have hcs : v.cells = #[v] := by cases v <;> first | rfl | cases h1
  have := run_storeCells_cells (P := P) b o [v] 0 w (fun j hj => by simp at hj; subst hj; simp [hc]) (fun j hj => by simp at hj; subst hj; simpa using hf) (fun u hu => by simp at hu; subst hu; exact h1)
  cases hq : P.info? t with
  | none => simp [hq] at hi
  | some i =>
    have hs : i.size = 1 := by simpa [hq] using hi
    simp only [execOp, f.ev hx, f.ev hy]
    simp only [Nat.add_zero, World.setCells] at this
    simp [Instr.storeAt, Instr.sureAddr, storeVar, sizeOf, typeInfo, hq, hcs, hs, this]
theorem E.storeR (f : Fr n a l) {b o : Nat} {cs : Array Value} (hi : (P.info? t).map (·.size) = some cs.size) (hx : evl l x = some (.pointer (some ⟨b, o, none⟩))) (hy : evl l y = some (.agg cs)) (h1 : cs.all (·.oneCell') = true) (ht : w.there b o cs.size) :
    (execOp a.eval ⟨dst, .store t x y, ty, ps, af, g⟩).run P w = .ok .skip (w.setCells b o cs.toList) := by
  simp only [execOp, f.ev hx, f.ev hy]
  rw [Sem.run_bind, run_storeAt_mid w b o t cs ht hi h1]
  rfl
theorem E.alloc (f : Fr n a l) {z : Value} (hz : ∀ w, (zeroValue t).run P w = .ok z w) : (execOp a.eval ⟨dst, .alloc t, ty, ps, af, g⟩).run P w = .ok (.value (.pointer (some ⟨w.heap.size, 0, none⟩))) (w.alloc (.cells z.cells t)) := by
  simp only [execOp, Instr.alloc]
  rw [Sem.run_bind, Sem.run_bind, hz w]
  rfl
theorem E.box (f : Fr n a l) {v : Value} (hx : evl l x = some v) : (execOp a.eval ⟨dst, .box t x, ty, ps, af, g⟩).run P w = .ok (.value (.pointer (some ⟨w.heap.size, 0, none⟩))) (w.alloc (.cells v.cells t)) := by
  simp only [execOp, f.ev hx]
  rfl
theorem E.slS (f : Fr n a l) {s : ByteArray} {i j : Int} {ki kj : IntKind} (ht : P.underlying t = some .string) (hx : evl l x = some (.string s)) (hy : evl l y = some (.int ki i)) (hz : evl l z = some (.int kj j)) (h0 : 0 ≤ i) (h1 : i ≤ j) (h2 : j ≤ s.size) :
    (execOp a.eval ⟨dst, .slice t x (some y) (some z) none, ty, ps, af, g⟩).run P w = .ok (.value (.string (s.extract i.toNat j.toNat))) w := by
  have e1 : i ≤ ((j.toNat : Nat) : Int) := by omega
  simp [execOp, f.ev hx, f.ev hy, f.ev hz, Instr.sliceAt, Instr.slice, Instr.sliceBounds, Instr.sliceBound, asIntOf, run_underlying ht, h0, h2, e1, show 0 ≤ j by omega]
  intro hh
  omega
theorem E.slLlo (f : Fr n a l) {e : TypeId} {A : Option Addr} {m c s : Nat} {i : Int} {ki : IntKind} (ht : P.underlying t = some (.slice e)) (hs : (P.info? e).map (·.size) = some s) (hx : evl l x = some (.slice A m c)) (hy : evl l y = some (.int ki i)) (h0 : 0 ≤ i) (h1 : i ≤ m) :
    (execOp a.eval ⟨dst, .slice t x (some y) none none, ty, ps, af, g⟩).run P w = .ok (.value (.slice (if c = i.toNat then A else A.map (·.add (i.toNat * s))) (m - i.toNat) (c - i.toNat))) w := by
  cases hq : P.info? e with
  | none => simp [hq] at hs
  | some i' =>
    have hs' : i'.size = s := by simpa [hq] using hs
    simp [execOp, f.ev hx, f.ev hy, Instr.sliceAt, Instr.slice, Instr.sliceBounds, Instr.sliceBound, asIntOf, run_underlying ht, h0, h1, sizeOf, typeInfo, hq, hs']
theorem E.slLhi (f : Fr n a l) {e : TypeId} {A : Option Addr} {m c s : Nat} {i : Int} {ki : IntKind} (ht : P.underlying t = some (.slice e)) (hs : (P.info? e).map (·.size) = some s) (hx : evl l x = some (.slice A m c)) (hy : evl l y = some (.int ki i)) (h0 : 0 ≤ i) (h1 : i ≤ c) :
    (execOp a.eval ⟨dst, .slice t x none (some y) none, ty, ps, af, g⟩).run P w = .ok (.value (.slice A i.toNat c)) w := by
  cases hq : P.info? e with
  | none => simp [hq] at hs
  | some i' =>
    have hs' : i'.size = s := by simpa [hq] using hs
    have e0 : (A.map fun a => a.add 0) = A := by cases A with
      | none => rfl
      | some b => cases b with | mk b o s => simp [Addr.add]
    simp [execOp, f.ev hx, f.ev hy, Instr.sliceAt, Instr.slice, Instr.sliceBounds, Instr.sliceBound, asIntOf, run_underlying ht, h0, h1, sizeOf, typeInfo, hq, hs', e0]
theorem E.indexS (f : Fr n a l) {s : ByteArray} {i : Int} {ki : IntKind} {b : UInt8} (ht : P.underlying t = some .string) (hx : evl l x = some (.string s)) (hy : evl l y = some (.int ki i)) (h0 : 0 ≤ i) (hb : s[i.toNat]? = some b) :
    (execOp a.eval ⟨dst, .index t x y, ty, ps, af, g⟩).run P w = .ok (.value (.int .u8 b.toNat)) w := by
  simp [execOp, f.ev hx, f.ev hy, Instr.index, asIntOf, run_underlying ht, h0, hb]
end
section
variable {a : Act} {n : Nat} {l : FL}
theorem args0 (f : Fr n a l) : (#[] : Array Operand).map a.eval = #[] := by simp
theorem args1 (f : Fr n a l) {x0 : Operand} {v0 : Value} (h0 : evl l x0 = some v0) : #[x0].map a.eval = #[v0] := by simp [f.ev h0]
theorem args2 (f : Fr n a l) {x0 x1 : Operand} {v0 v1 : Value} (h0 : evl l x0 = some v0) (h1 : evl l x1 = some v1) : #[x0, x1].map a.eval = #[v0, v1] := by simp [f.ev h0, f.ev h1]
theorem args3 (f : Fr n a l) {x0 x1 x2 : Operand} {v0 v1 v2 : Value} (h0 : evl l x0 = some v0) (h1 : evl l x1 = some v1) (h2 : evl l x2 = some v2) : #[x0, x1, x2].map a.eval = #[v0, v1, v2] := by simp [f.ev h0, f.ev h1, f.ev h2]
theorem args4 (f : Fr n a l) {x0 x1 x2 x3 : Operand} {v0 v1 v2 v3 : Value} (h0 : evl l x0 = some v0) (h1 : evl l x1 = some v1) (h2 : evl l x2 = some v2) (h3 : evl l x3 = some v3) : #[x0, x1, x2, x3].map a.eval = #[v0, v1, v2, v3] := by simp [f.ev h0, f.ev h1, f.ev h2, f.ev h3]
theorem parts0 (f : Fr n a l) : ((#[] : Array (Nat × Operand)).map fun p => (p.1, a.eval p.2)).toList = [] := by simp
theorem parts1 (f : Fr n a l) {i0 : Nat} {x0 : Operand} {v0 : Value} (h0 : evl l x0 = some v0) : (#[(i0, x0)].map fun (p : Nat × Operand) => (p.1, a.eval p.2)).toList = [(i0, v0)] := by simp [f.ev h0]
theorem parts2 (f : Fr n a l) {i0 i1 : Nat} {x0 x1 : Operand} {v0 v1 : Value} (h0 : evl l x0 = some v0) (h1 : evl l x1 = some v1) : (#[(i0, x0), (i1, x1)].map fun (p : Nat × Operand) => (p.1, a.eval p.2)).toList = [(i0, v0), (i1, v1)] := by simp [f.ev h0, f.ev h1]
theorem parts3 (f : Fr n a l) {i0 i1 i2 : Nat} {x0 x1 x2 : Operand} {v0 v1 v2 : Value} (h0 : evl l x0 = some v0) (h1 : evl l x1 = some v1) (h2 : evl l x2 = some v2) : (#[(i0, x0), (i1, x1), (i2, x2)].map fun (p : Nat × Operand) => (p.1, a.eval p.2)).toList = [(i0, v0), (i1, v1), (i2, v2)] := by simp [f.ev h0, f.ev h1, f.ev h2]
theorem parts4 (f : Fr n a l) {i0 i1 i2 i3 : Nat} {x0 x1 x2 x3 : Operand} {v0 v1 v2 v3 : Value} (h0 : evl l x0 = some v0) (h1 : evl l x1 = some v1) (h2 : evl l x2 = some v2) (h3 : evl l x3 = some v3) : (#[(i0, x0), (i1, x1), (i2, x2), (i3, x3)].map fun (p : Nat × Operand) => (p.1, a.eval p.2)).toList = [(i0, v0), (i1, v1), (i2, v2), (i3, v3)] := by simp [f.ev h0, f.ev h1, f.ev h2, f.ev h3]
theorem parts6 (f : Fr n a l) {i0 i1 i2 i3 i4 i5 : Nat} {x0 x1 x2 x3 x4 x5 : Operand} {v0 v1 v2 v3 v4 v5 : Value} (h0 : evl l x0 = some v0) (h1 : evl l x1 = some v1) (h2 : evl l x2 = some v2) (h3 : evl l x3 = some v3) (h4 : evl l x4 = some v4) (h5 : evl l x5 = some v5) : (#[(i0, x0), (i1, x1), (i2, x2), (i3, x3), (i4, x4), (i5, x5)].map fun (p : Nat × Operand) => (p.1, a.eval p.2)).toList = [(i0, v0), (i1, v1), (i2, v2), (i3, v3), (i4, v4), (i5, v5)] := by simp [f.ev h0, f.ev h1, f.ev h2, f.ev h3, f.ev h4, f.ev h5]
theorem parts7 (f : Fr n a l) {i0 i1 i2 i3 i4 i5 i6 : Nat} {x0 x1 x2 x3 x4 x5 x6 : Operand} {v0 v1 v2 v3 v4 v5 v6 : Value} (h0 : evl l x0 = some v0) (h1 : evl l x1 = some v1) (h2 : evl l x2 = some v2) (h3 : evl l x3 = some v3) (h4 : evl l x4 = some v4) (h5 : evl l x5 = some v5) (h6 : evl l x6 = some v6) : (#[(i0, x0), (i1, x1), (i2, x2), (i3, x3), (i4, x4), (i5, x5), (i6, x6)].map fun (p : Nat × Operand) => (p.1, a.eval p.2)).toList = [(i0, v0), (i1, v1), (i2, v2), (i3, v3), (i4, v4), (i5, v5), (i6, v6)] := by simp [f.ev h0, f.ev h1, f.ev h2, f.ev h3, f.ev h4, f.ev h5, f.ev h6]
theorem parts10 (f : Fr n a l) {i0 i1 i2 i3 i4 i5 i6 i7 i8 i9 : Nat} {x0 x1 x2 x3 x4 x5 x6 x7 x8 x9 : Operand} {v0 v1 v2 v3 v4 v5 v6 v7 v8 v9 : Value} (h0 : evl l x0 = some v0) (h1 : evl l x1 = some v1) (h2 : evl l x2 = some v2) (h3 : evl l x3 = some v3) (h4 : evl l x4 = some v4) (h5 : evl l x5 = some v5) (h6 : evl l x6 = some v6) (h7 : evl l x7 = some v7) (h8 : evl l x8 = some v8) (h9 : evl l x9 = some v9) : (#[(i0, x0), (i1, x1), (i2, x2), (i3, x3), (i4, x4), (i5, x5), (i6, x6), (i7, x7), (i8, x8), (i9, x9)].map fun (p : Nat × Operand) => (p.1, a.eval p.2)).toList = [(i0, v0), (i1, v1), (i2, v2), (i3, v3), (i4, v4), (i5, v5), (i6, v6), (i7, v7), (i8, v8), (i9, v9)] := by simp [f.ev h0, f.ev h1, f.ev h2, f.ev h3, f.ev h4, f.ev h5, f.ev h6, f.ev h7, f.ev h8, f.ev h9]
end
end Go.Hub
namespace Go.Hub
open Go.RowKit
theorem wantedN {ops : Array Oper} {a : Act} {dst : Option Nat} {op : Op} {ty : TypeId} {ps : String} {af : Array Edge} : Region.wanted ⟨dst, op, ty, ps, af, none⟩ (yielded ops a.tmps) = true := rfl
theorem Fr.yes {n : Nat} {a : Act} {l : FL} {ops : Array Oper} (f : Fr n a l) {j dj : Nat} {b : Bool} {dst : Option Nat} {op : Op} {ty : TypeId} {ps : String} {af : Array Edge} (hj : (ops[j]?).bind (·.dst) = some dj) (hb : look l dj = some (.bool b)) :
    Region.wanted ⟨dst, op, ty, ps, af, some (j, b)⟩ (yielded ops a.tmps) = true := by simp [Region.wanted, f.yield hj hb]
theorem Fr.noT {n : Nat} {a : Act} {l : FL} {ops : Array Oper} (f : Fr n a l) {j dj : Nat} {dst : Option Nat} {op : Op} {ty : TypeId} {ps : String} {af : Array Edge} (hj : (ops[j]?).bind (·.dst) = some dj) (hb : look l dj = some (.bool false)) :
    Region.wanted ⟨dst, op, ty, ps, af, some (j, true)⟩ (yielded ops a.tmps) = false := by simp [Region.wanted, f.yield hj hb]
theorem Fr.noU {n : Nat} {a : Act} {l : FL} {ops : Array Oper} (f : Fr n a l) {j dj : Nat} {b : Bool} {dst : Option Nat} {op : Op} {ty : TypeId} {ps : String} {af : Array Edge} (hj : (ops[j]?).bind (·.dst) = some dj) (hb : look l dj = some undef) :
    Region.wanted ⟨dst, op, ty, ps, af, some (j, b)⟩ (yielded ops a.tmps) = false := by
  have hy : yielded ops a.tmps j = none := by
    unfold yielded
    rw [hj]
    simp [f.slot dj _ hb, undef]
  simp [Region.wanted, hy]
theorem Fr.noF {n : Nat} {a : Act} {l : FL} {ops : Array Oper} (f : Fr n a l) {j dj : Nat} {dst : Option Nat} {op : Op} {ty : TypeId} {ps : String} {af : Array Edge} (hj : (ops[j]?).bind (·.dst) = some dj) (hb : look l dj = some (.bool true)) :
    Region.wanted ⟨dst, op, ty, ps, af, some (j, false)⟩ (yielded ops a.tmps) = false := by simp [Region.wanted, f.yield hj hb]
theorem run_callV {P : Program} {a : Act} {w : World} {n : Nat} {l : FL} {fn : Nat} {x : Operand} {xs : Array Operand} {ats : Array TypeId} {dst : Option Nat} {ty : TypeId} {ps : String} {af : Array Edge} {g : Option (Nat × Bool)} {args cap : Array Value}
    (f : Fr n a l) (hf : evl l x = some (.func (.func fn) #[] cap)) (hc : ∀ args w, (callFunc fn args).run P w = .ok (.enter fn args) w) (hx : xs.map a.eval = args) :
    (execOp a.eval ⟨dst, .call { callee := .value x, args := xs, argTypes := ats }, ty, ps, af, g⟩).run P w = .ok (.enter fn (args ++ cap)) w := by
  simp [execOp, resolve, f.ev hf, Deferred.ofValue, invoke, hx, hc]
theorem cv1_0 {P : Program} {a : Act} {w : World} {n : Nat} {l : FL} {fn : Nat} {x : Operand} {ats : Array TypeId} {dst : Option Nat} {ty : TypeId} {ps : String} {af : Array Edge} {g : Option (Nat × Bool)} {x0 : Operand} {v0 : Value} (f : Fr n a l) (hf : evl l x = some (.func (.func fn) #[] #[])) (hc : ∀ args w, (callFunc fn args).run P w = .ok (.enter fn args) w) (h0 : evl l x0 = some v0) :
    (execOp a.eval ⟨dst, .call { callee := .value x, args := #[x0], argTypes := ats }, ty, ps, af, g⟩).run P w = .ok (.enter fn #[v0]) w := by
  have := run_callV (dst := dst) (ats := ats) (ty := ty) (ps := ps) (af := af) (g := g) (w := w) (xs := #[x0]) f hf hc rfl
  simpa [f.ev h0] using this
theorem cv1_1 {P : Program} {a : Act} {w : World} {n : Nat} {l : FL} {fn : Nat} {x : Operand} {ats : Array TypeId} {dst : Option Nat} {ty : TypeId} {ps : String} {af : Array Edge} {g : Option (Nat × Bool)} {x0 : Operand} {v0 : Value} {c0 : Value} (f : Fr n a l) (hf : evl l x = some (.func (.func fn) #[] #[c0])) (hc : ∀ args w, (callFunc fn args).run P w = .ok (.enter fn args) w) (h0 : evl l x0 = some v0) :
    (execOp a.eval ⟨dst, .call { callee := .value x, args := #[x0], argTypes := ats }, ty, ps, af, g⟩).run P w = .ok (.enter fn #[v0, c0]) w := by
  have := run_callV (dst := dst) (ats := ats) (ty := ty) (ps := ps) (af := af) (g := g) (w := w) (xs := #[x0]) f hf hc rfl
  simpa [f.ev h0] using this
section
variable {w w' : World} {g : Nat} {t : TypeId} {cs : Array Value} {L : List Nat}
theorem Blk.cl (h : Blk w g t cs) {i : Nat} {v : Value} (hv : cs.toList[i]? = some v) : w.cell? ⟨g, i, none⟩ = some v := h.cell_ (by simpa using hv)
theorem Blk.range (h : Blk w g t cs) : w.rangeAt g 0 cs.toList := fun j v hv => by
  rw [Nat.zero_add]
  exact h.cell_ (by simpa using hv)
theorem Blk.there (h : Blk w g t cs) {o n : Nat} (hn : o + n ≤ cs.size) : w.there g o n := fun j hj => by
  refine ⟨?_, h.frozen _⟩
  rw [h.cell]
  simp
  omega
structure Newb (w w' : World) (g : Nat) (t : TypeId) (cs : Array Value) : Prop where
  blk : Blk w' g t cs
  kept : Kept [] w w'
  lo : w.heap.size ≤ g
theorem newb (w : World) (t : TypeId) (cs : Array Value) : Newb w (w.alloc (.cells cs t)) w.heap.size t cs := ⟨Blk.new w t cs, (Kept.refl [] w).alloc _, Nat.le_refl _⟩
theorem setCells_blk (h : Blk w g t cs) (cs' : Array Value) (hs : cs'.size = cs.size) : Blk (w.setCells g 0 cs'.toList) g t cs' := by
  obtain ⟨cur, h1, h2, h3, h4⟩ := setCells_block g cs'.toList 0 w cs t (0, 0) h
  have : cur = cs' := by
    apply Array.ext (by omega)
    intro i hi hi'
    have := h4 i cs'[i] (by simp [hi']) (by omega)
    rw [Nat.zero_add] at this
    rw [Array.getElem?_eq_getElem hi] at this
    simpa using this
  rw [this] at h1
  exact h1
theorem setCells_kept (w : World) (g o : Nat) (vs : List Value) : Kept [g] w (w.setCells g o vs) := by
  obtain ⟨b1, b2, b3, b4⟩ := setCells_facts g vs o w
  exact ⟨b1, b2, b3, by omega, fun k hk hn => setCells_other g _ _ w k (by simpa using hn)⟩
theorem setCell_kept (w : World) (g o : Nat) (v : Value) : Kept [g] w (w.setCell ⟨g, o, none⟩ v) := (Kept.refl [g] w).setCell (p := ⟨g, o, none⟩) (by simp) v
end
section
variable {P : Program} {ops : Array Oper} {rest : List Oper} {a : Act} {w : World} {Q : Exit → Act → World → Prop} {n d : Nat} {l : FL} {v : Value} {dst : Option Nat} {ty : TypeId} {ps : String} {af : Array Edge} {gd : Option (Nat × Bool)} {x y : Operand} {t : TypeId}
theorem L.alloc (f : Fr n a l) (hw : Region.wanted ⟨some d, .alloc t, ty, ps, af, gd⟩ (yielded ops a.tmps) = true) (hn : d < n) {z : Value} (hz : ∀ w, (zeroValue t).run P w = .ok z w) {cs : Array Value} (hcs : z.cells = cs)
    (hK : ∀ a' w' g, Newb w w' g t cs → Fr n a' ((d, .pointer (some ⟨g, 0, none⟩)) :: l) → wpList P ops Q rest a' w') : wpList P ops Q (⟨some d, .alloc t, ty, ps, af, gd⟩ :: rest) a w :=
  L.val f hw rfl hn (E.alloc f hz) fun a' f' => hK a' _ _ (hcs ▸ newb w t _) f'
theorem L.box (f : Fr n a l) (hw : Region.wanted ⟨some d, .box t x, ty, ps, af, gd⟩ (yielded ops a.tmps) = true) (hn : d < n) (hx : evl l x = some v) {cs : Array Value} (hcs : v.cells = cs)
    (hK : ∀ a' w' g, Newb w w' g t cs → Fr n a' ((d, .pointer (some ⟨g, 0, none⟩)) :: l) → wpList P ops Q rest a' w') : wpList P ops Q (⟨some d, .box t x, ty, ps, af, gd⟩ :: rest) a w :=
  L.val f hw rfl hn (E.box f hx) fun a' f' => hK a' _ _ (hcs ▸ newb w t _) f'
theorem L.store (f : Fr n a l) (hw : Region.wanted ⟨none, .store t x y, ty, ps, af, gd⟩ (yielded ops a.tmps) = true) (hi : (P.info? t).map (·.size) = some 1) {g o : Nat} {e : TypeId} {cs : Array Value} (hx : evl l x = some (.pointer (some ⟨g, o, none⟩))) (hy : evl l y = some v) (h1 : v.oneCell' = true)
    (B : Blk w g e cs) (ho : o < cs.size) (hK : ∀ a' w', Fr n a' l → Blk w' g e (cs.setIfInBounds o v) → Kept [g] w w' → wpList P ops Q rest a' w') : wpList P ops Q (⟨none, .store t x y, ty, ps, af, gd⟩ :: rest) a w :=
  L.act f hw rfl (E.store f hi hx hy h1 (B.cell_ (Array.getElem?_eq_getElem ho)) (B.frozen o)) fun a' f' => hK a' _ f' (B.set_ o v) (setCell_kept w g o v)
theorem L.storeR (f : Fr n a l) (hw : Region.wanted ⟨none, .store t x y, ty, ps, af, gd⟩ (yielded ops a.tmps) = true) {g : Nat} {e : TypeId} {cs cs' : Array Value} {s : Nat} (hi : (P.info? t).map (·.size) = some s) (hx : evl l x = some (.pointer (some ⟨g, 0, none⟩))) (hy : evl l y = some (.agg cs')) (h1 : cs'.toList.all (·.oneCell') = true)
    (B : Blk w g e cs) (hs : cs'.size = cs.size) (hl : cs'.size = s) (hK : ∀ a' w', Fr n a' l → Blk w' g e cs' → Kept [g] w w' → wpList P ops Q rest a' w') : wpList P ops Q (⟨none, .store t x y, ty, ps, af, gd⟩ :: rest) a w :=
  L.act f hw rfl (E.storeR f (hl ▸ hi) hx hy (by simpa using h1) (B.there (by omega))) fun a' f' => hK a' _ f' (setCells_blk B cs' hs) (setCells_kept w g 0 _)
theorem E.loadB (f : Fr n a l) {g : Nat} {e : TypeId} {cs : Array Value} {d : TypeDesc} {s : Nat} (ht : P.underlying t = some d) (hd : d.isRow = true) (hi : (P.info? t).map (·.size) = some s) (hx : evl l x = some (.pointer (some ⟨g, 0, none⟩))) (B : Blk w g e cs) (hl : cs.size = s) :
    (execOp a.eval ⟨dst, .load t x, ty, ps, af, gd⟩).run P w = .ok (.value (.agg cs)) w := by
  have := E.loadR (P := P) (w := w) (dst := dst) (ty := ty) (ps := ps) (af := af) (g := gd) (t := t) f ht hd (cs := cs.toList) hi hx B.range (by simpa using hl)
  simpa using this
end
end Go.Hub
namespace Go.Hub
open Go.RowKit
def Sl (w : World) (A : Option Addr) (n size : Nat) (xs : List Value) : Prop :=
  xs.length = n * size ∧ (0 < n → ∃ b off, A = some ⟨b, off, none⟩ ∧ b < w.heap.size ∧ ∀ j u, xs[j]? = some u → w.cell? ⟨b, off + j, none⟩ = some u)
def Far (A : Option Addr) (L : List Nat) : Prop := ∀ a, A = some a → a.block ∉ L
section
variable {w w' : World} {A : Option Addr} {n size : Nat} {xs : List Value} {L : List Nat}
theorem Sl.nil (w : World) (A : Option Addr) (size : Nat) : Sl w A 0 size [] := ⟨by simp, fun h => absurd h (by omega)⟩
theorem Sl.keptF (h : Sl w A n size xs) (hk : Kept L w w') (hf : Far A L) : Sl w' A n size xs :=
  ⟨h.1, fun hn => by
    obtain ⟨b, off, e, hb, hc⟩ := h.2 hn
    refine ⟨b, off, e, Nat.lt_of_lt_of_le hb hk.size, fun j u hu => ?_⟩
    rw [hk.cell (p := ⟨b, off + j, none⟩) hb (hf ⟨b, off, none⟩ e)]
    exact hc j u hu⟩
theorem Far.nil (A : Option Addr) : Far A [] := fun _ _ => by simp
theorem Sl.kept (h : Sl w A n size xs) (hk : Kept [] w w') : Sl w' A n size xs := h.keptF hk (Far.nil A)
theorem Sl.of_own {e : TypeId} {c : Nat} (h : Own w e size (.slice A n c) n xs) : Sl w A n size xs := by
  refine ⟨h.1, fun hn => ?_⟩
  rcases h.2 with ⟨_, h0⟩ | ⟨g, off, cap, cur, hv, hg, _, _, _, hc⟩
  · omega
  · injection hv with hA
    refine ⟨g, off, hA, (Array.getElem?_eq_some_iff.1 hg).1, fun j x hx => ?_⟩
    rw [cell_of_row w g _ cur e (0, 0) hg]
    exact hc j _ hx
theorem Sl.rds (h : Sl w A n size xs) : Rds w w.heap.size size A n xs := ⟨h.1, h.2⟩
theorem Sl.of_rds (h : Rds w w.heap.size size A n xs) : Sl w A n size xs := ⟨h.1, h.2⟩
theorem Sl.addr (h : Sl w A n size xs) (hn : 0 < n) : ∃ b off, A = some ⟨b, off, none⟩ := by
  obtain ⟨b, off, e, _⟩ := h.2 hn
  exact ⟨b, off, e⟩
theorem Sl.cell (h : Sl w A n size xs) {b off j : Nat} {u : Value} (hn : 0 < n) (hA : A = some ⟨b, off, none⟩) (hu : xs[j]? = some u) : w.cell? ⟨b, off + j, none⟩ = some u := by
  obtain ⟨b', off', e, _, hc⟩ := h.2 hn
  rw [hA] at e
  injection e with e
  injection e with e1 e2
  subst e1 e2
  exact hc j u hu
theorem Sl.row (h : Sl w A n size xs) {b off i : Nat} {cs : List Value} (hn : 0 < n) (hA : A = some ⟨b, off, none⟩) (hu : ∀ j u, cs[j]? = some u → xs[i * size + j]? = some u) : w.rangeAt b (off + i * size) cs := fun j u hj => by
  rw [Nat.add_assoc]
  exact h.cell hn hA (hu j u hj)
end
section
variable {P : Program} {a : Act} {w : World} {n : Nat} {l : FL} {dst : Option Nat} {ty : TypeId} {ps : String} {af : Array Edge} {g : Option (Nat × Bool)} {x y : Operand} {t : TypeId}
theorem E.indexA (f : Fr n a l) {e : TypeId} {A : Option Addr} {b o m c s : Nat} {k : IntKind} {i : Int} (hA : A = some ⟨b, o, none⟩) (ht : P.underlying t = some (.slice e)) (hs : (P.info? e).map (·.size) = some s) (hx : evl l x = some (.slice A m c)) (hy : evl l y = some (.int k i))
    (h0 : 0 ≤ i) (h1 : i < m) : (execOp a.eval ⟨dst, .indexAddr t x y, ty, ps, af, g⟩).run P w = .ok (.value (.pointer (some ⟨b, o + i.toNat * s, none⟩))) w := by
  subst hA
  exact E.indexAddr f ht hs hx hy h0 h1
theorem E.makeFunc1 (f : Fr n a l) {fn : Fn} {v : Value} (hx : evl l x = some v) : (execOp a.eval ⟨dst, .makeFunc fn #[] #[x], ty, ps, af, g⟩).run P w = .ok (.value (.func fn #[] #[v])) w := by simp [execOp, Instr.makeFunc, f.ev hx]
end
section
variable {M : Type} (cell : M → List Value) (size : Nat) (hs : ∀ m, (cell m).length = size)
include hs
theorem flat_len (l : List M) : (l.flatMap cell).length = l.length * size := by
  induction l with
  | nil => simp
  | cons a r ih => simp [ih, hs, Nat.add_mul]; omega
theorem flat_at (l : List M) (i : Nat) (m : M) (h : l[i]? = some m) (j : Nat) (u : Value) (hu : (cell m)[j]? = some u) : (l.flatMap cell)[i * size + j]? = some u := by
  induction l generalizing i with
  | nil => simp at h
  | cons a r ih =>
    have hj : j < size := by
      have := (List.getElem?_eq_some_iff.1 hu).1
      rwa [hs] at this
    match i with
    | 0 =>
      simp at h
      subst h
      simp only [List.flatMap_cons, Nat.zero_mul, Nat.zero_add]
      rw [List.getElem?_append_left (by rw [hs]; exact hj)]
      exact hu
    | i + 1 =>
      have := ih i (by simpa using h)
      simp only [List.flatMap_cons]
      rw [List.getElem?_append_right (by rw [hs, Nat.add_mul]; omega), hs, Nat.add_mul, Nat.one_mul]
      rw [show i * size + size + j - size = i * size + j from by omega]
      exact this
end
end Go.Hub
namespace Go.Hub
open Go.RowKit
section
variable {P : Program} {ops : Array Oper} {Q : Exit → Act → World → Prop} {md : Region.Mode} {S : World → Prop} {a : Act} {w w' : World} {n d : Nat} {l : FL} {v : Value} {o : Oper} {K : Act → World → Prop}
theorem O.val {i : Nat} (f : Fr n a l) (hi : ops[i]? = some o) (hd : o.dst = some d) (hn : d < n) (hw : Region.wanted o (yielded ops a.tmps) = true)
    (hv : (execOp a.eval o).run P w = .ok (.value v) w') (hS : S w') (hK : ∀ a', Fr n a' ((d, v) :: l) → K a' w') : wpOp P ops Q i (fun a w => S w ∧ K a w) a w := by
  unfold wpOp
  simp only [hi, hw, if_true]
  refine .inl ?_
  unfold Oper.wp
  rw [hv]
  show S w' ∧ K (a.put o.dst v) w'
  rw [hd]
  exact ⟨hS, hK _ (f.put d v hn)⟩
theorem R.one (i : Nat) {fuel : Nat} {listed : Array Bool} (hr : Region.ready md ops listed = [i]) (h : wpOp P ops Q i (fun a w => S w ∧ wpAnyH P md ops Q S fuel (listed.setIfInBounds i true) a w) a w) : wpAnyH P md ops Q S (fuel + 1) listed a w :=
  wpAnyH_all hr (by simp) fun j hj => by
    simp only [List.mem_singleton] at hj
    subst hj
    exact h
theorem R.two (i j : Nat) {fuel : Nat} {listed : Array Bool} (hr : Region.ready md ops listed = [i, j]) (h : wpOp P ops Q i (fun a w => S w ∧ wpAnyH P md ops Q S fuel (listed.setIfInBounds i true) a w) a w)
    (h' : wpOp P ops Q j (fun a w => S w ∧ wpAnyH P md ops Q S fuel (listed.setIfInBounds j true) a w) a w) : wpAnyH P md ops Q S (fuel + 1) listed a w :=
  wpAnyH_all hr (by simp) fun k hk => by
    simp only [List.mem_cons, List.not_mem_nil, or_false] at hk
    rcases hk with rfl | rfl
    · exact h
    · exact h'
end
section
variable {P : Program} {ops : Array Oper} {rest : List Oper} {a : Act} {w : World} {Q : Exit → Act → World → Prop} {n d : Nat} {l : FL} {v : Value} {ty : TypeId} {ps : String} {af : Array Edge} {gd : Option (Nat × Bool)} {x y : Operand} {t : TypeId}
theorem E.eqlP {dst : Option Nat} (f : Fr n a l) {e : TypeId} {ad : Addr} {u : TypeId} (ht : P.underlying t = some (.pointer e)) (hx : evl l x = some (.pointer (some ad))) (hy : evl l y = some (.pointer none)) : (execOp a.eval ⟨dst, .binOp .eql t x y u, ty, ps, af, gd⟩).run P w = .ok (.value (.bool false)) w :=
  E.eqlV f hx hy fun w => by
    have : ∀ d, (Op.equalIn (d + 1) t (.pointer (some ad)) (.pointer none)).run P w = .ok false w := fun d => by simp [Op.equalIn, run_underlying ht]
    rw [Sem.run_bind]
    simp only [eqGuard, binOp]
    simp [Op.equal, Op.maxDepth, this 9999]
theorem E.eqlNil {dst : Option Nat} (f : Fr n a l) {e : TypeId} {A : Option Addr} {m c : Nat} {u : TypeId} (ht : P.underlying t = some (.slice e)) (hx : evl l x = some (.slice A m c)) (hy : evl l y = some (.slice none 0 0)) : (execOp a.eval ⟨dst, .binOp .eql t x y u, ty, ps, af, gd⟩).run P w = .ok (.value (.bool A.isNone)) w :=
  E.eqlV f hx hy fun w => by
    rw [Sem.run_bind]
    have := Lib.run_eql_slice_nil (P := P) w t e A m c 0 0 ht
    simp only [eqGuard]
    exact this
theorem E.buildSlice {dst : Option Nat} (f : Fr n a l) {parts : Array (Nat × Operand)} {vs : List (Nat × Value)} {e len sz : Nat} {cells : Array Value} {z : Value} (hx : (parts.map fun p => (p.1, a.eval p.2)).toList = vs) (hu : P.underlying t = some (.slice e))
    (hi : (P.info? e).map (fun i => (i.zero, i.size)) = some (some z, sz)) (hs : Nat.ble (len * sz) 16777216 = true) (hp : Nat.beq (len * sz) 0 = false) (hf : Instr.fill (fun i => some (i * sz, sz)) ((Array.range (len * sz)).map fun j => z.cells[j % z.cells.size]!) vs = some cells) :
    (execOp a.eval ⟨dst, .buildSlice t len parts, ty, ps, af, gd⟩).run P w = .ok (.value (.slice (some ⟨w.heap.size, 0, none⟩) len len)) (w.alloc (.cells cells e)) := by
  cases hq : P.info? e with
  | none => simp [hq] at hi
  | some ie =>
    simp [hq] at hi
    obtain ⟨h1, h2⟩ := hi
    subst h2
    have hx' : (parts.map fun (i, x) => (i, a.eval x)).toList = vs := hx
    have hle := Nat.le_of_ble_eq_true hs
    have hr := run_buildSlice (P := P) w t e len (parts.map fun (i, x) => (i, a.eval x)) cells ie z hu hq h1 (by omega) (fun h0 => by rw [h0] at hp; simp at hp) (by rw [hx']; exact hf)
    simp only [execOp]
    rw [Sem.run_bind, hr]
    rfl
theorem E.buildNone {dst : Option Nat} (f : Fr n a l) {e : TypeId} {sz : Nat} (hu : P.underlying t = some (.slice e)) (hi : (P.info? e).map (·.size) = some sz) :
    (execOp a.eval ⟨dst, .buildSlice t 0 #[], ty, ps, af, gd⟩).run P w = .ok (.value (.slice (some ⟨w.heap.size, 0, none⟩) 0 0)) (w.alloc (.cells #[] e)) := by
  cases hq : P.info? e with
  | none => simp [hq] at hi
  | some ie =>
    have e0 : ∀ z : Array Value, (Array.range 0).map (fun x => z[x % z.size]!) = #[] := fun z => by simp
    have e1 : (Array.range 0).map (fun _ => (default : Value)) = #[] := by simp [Array.range]
    simp [execOp, Instr.buildSlice, run_underlying hu, sizeOf, typeInfo, hq, Instr.fill, newRow]
    rw [e1]
theorem L.buildSlice (f : Fr n a l) {parts : Array (Nat × Operand)} {len : Nat} (hw : Region.wanted ⟨some d, .buildSlice t len parts, ty, ps, af, gd⟩ (yielded ops a.tmps) = true) (hn : d < n) {vs : List (Nat × Value)} {e sz : Nat} {cells : Array Value} {z : Value} (hx : (parts.map fun p => (p.1, a.eval p.2)).toList = vs) (hu : P.underlying t = some (.slice e))
    (hi : (P.info? e).map (fun i => (i.zero, i.size)) = some (some z, sz)) (hs : Nat.ble (len * sz) 16777216 = true) (hp : Nat.beq (len * sz) 0 = false) (hf : Instr.fill (fun i => some (i * sz, sz)) ((Array.range (len * sz)).map fun j => z.cells[j % z.cells.size]!) vs = some cells)
    (hK : ∀ a' w' g, Newb w w' g e cells → Fr n a' ((d, .slice (some ⟨g, 0, none⟩) len len) :: l) → wpList P ops Q rest a' w') : wpList P ops Q (⟨some d, .buildSlice t len parts, ty, ps, af, gd⟩ :: rest) a w :=
  L.val f hw rfl hn (E.buildSlice f hx hu hi hs hp hf) fun a' f' => hK a' _ _ (newb w e _) f'
theorem L.buildNone (f : Fr n a l) (hw : Region.wanted ⟨some d, .buildSlice t 0 #[], ty, ps, af, gd⟩ (yielded ops a.tmps) = true) (hn : d < n) {e : TypeId} {sz : Nat} (hu : P.underlying t = some (.slice e)) (hi : (P.info? e).map (·.size) = some sz)
    (hK : ∀ a' w' g, Newb w w' g e #[] → Fr n a' ((d, .slice (some ⟨g, 0, none⟩) 0 0) :: l) → wpList P ops Q rest a' w') : wpList P ops Q (⟨some d, .buildSlice t 0 #[], ty, ps, af, gd⟩ :: rest) a w :=
  L.val f hw rfl hn (E.buildNone f hu hi) fun a' f' => hK a' _ _ (newb w e _) f'
theorem Newb.own {w w' : World} {g : Nat} {e : TypeId} {cs : Array Value} (h : Newb w w' g e cs) {k size : Nat} (hs : cs.size = k * size) (hk : k ≤ maxLen) : Own w' e size (.slice (some ⟨g, 0, none⟩) k k) k cs.toList :=
  ⟨by simpa using hs, .inr ⟨g, 0, k, cs, rfl, h.blk, Nat.le_refl _, hk, by omega, fun j u hu => by rw [Nat.zero_add]; simpa using hu⟩⟩
structure App (w w' : World) (e : TypeId) (size : Nat) (A : Option Addr) (k c : Nat) (xs news : List Value) (m : Nat) (A' : Option Addr) (c' : Nat) : Prop where
  own : Own w' e size (.slice A' (k + m) c') (k + m) (xs ++ news)
  kept : Kept (Value.slice A k c).ownBlock.toList w w'
  where_ : ∀ b, A'.map (·.block) = some b → A.map (·.block) = some b ∨ w.heap.size ≤ b
theorem E.append {dst : Option Nat} (f : Fr n a l) {e size bytes k c m c2 : Nat} {z : Value} {A A2 : Option Addr} {xs news : List Value} (ht : P.underlying t = some (.slice e)) (hi : (P.info? e).map (fun i => (i.zero, i.size, i.bytes)) = some (some z, size, bytes)) (hzs : z.cells.size = size) (hsz : Nat.blt 0 size = true)
    (hx : evl l x = some (.slice A k c)) (hy : evl l y = some (.slice A2 m c2)) (hown : Own w e size (.slice A k c) k xs) (hr : Sl w A2 m size news) (h1 : ∀ u ∈ news, u.oneCell' = true) (h63 : k + m ≤ maxLen) (hb : (k + m) * bytes ≤ 140737488355328) :
    ∃ A' c' w', (execOp a.eval ⟨dst, .call { callee := .builtin .append, args := #[x, y], argTypes := #[t, t] }, ty, ps, af, gd⟩).run P w = .ok (.value (.slice A' (k + m) c')) w' ∧ App w w' e size A k c xs news m A' c' := by
  obtain ⟨ie, hie, h2, h3, h4⟩ := info_parts hi
  obtain ⟨v', w', hrun, ho, hk, hwh⟩ := append_own (P := P) w t ty e ie z size bytes ht hie h2 h3 h4 hzs (by simpa using hsz) (.slice A k c) k xs hown w.heap.size A2 m c2 news hr.rds h1 h63 hb
  obtain ⟨A', c', rfl, _⟩ := ho.form
  refine ⟨A', c', w', ?_, ho, hk, fun b hb => ?_⟩
  · simp only [execOp, resolve, invoke, builtin, Sem.run_bind, Sem.run_pure, Result.andThen_ok, List.map_toArray, List.map_cons, List.map_nil, f.ev hx, f.ev hy, hrun]
  · have := hwh b (by cases A' <;> simp_all [Value.ownBlock])
    rcases this with h | h
    · exact .inl (by cases A <;> simp_all [Value.ownBlock])
    · exact .inr h
theorem L.append (f : Fr n a l) (hw : Region.wanted ⟨some d, .call { callee := .builtin .append, args := #[x, y], argTypes := #[t, t] }, ty, ps, af, gd⟩ (yielded ops a.tmps) = true) (hn : d < n) {e size bytes k c m c2 : Nat} {z : Value} {A A2 : Option Addr} {xs news : List Value} (ht : P.underlying t = some (.slice e)) (hi : (P.info? e).map (fun i => (i.zero, i.size, i.bytes)) = some (some z, size, bytes)) (hzs : z.cells.size = size) (hsz : Nat.blt 0 size = true)
    (hx : evl l x = some (.slice A k c)) (hy : evl l y = some (.slice A2 m c2)) (hown : Own w e size (.slice A k c) k xs) (hr : Sl w A2 m size news) (h1 : ∀ u ∈ news, u.oneCell' = true) (h63 : k + m ≤ maxLen) (hb : (k + m) * bytes ≤ 140737488355328)
    (hK : ∀ a' w' A' c', App w w' e size A k c xs news m A' c' → Fr n a' ((d, .slice A' (k + m) c') :: l) → wpList P ops Q rest a' w') : wpList P ops Q (⟨some d, .call { callee := .builtin .append, args := #[x, y], argTypes := #[t, t] }, ty, ps, af, gd⟩ :: rest) a w := by
  obtain ⟨A', c', w', hrun, happ⟩ := E.append (dst := some d) (ty := ty) (ps := ps) (af := af) (gd := gd) f ht hi hzs hsz hx hy hown hr h1 h63 hb
  exact L.val f hw rfl hn hrun fun a' f' => hK a' w' A' c' happ f'
end
structure Fresh (w w' : World) (e size : Nat) (A : Option Addr) (n c : Nat) (xs : List Value) : Prop where
  own : Own w' e size (.slice A n c) n xs
  lo : ∀ b, A.map (·.block) = some b → w.heap.size ≤ b
section
variable {w w' w'' : World} {e size k c m c' n : Nat} {A A' : Option Addr} {xs news : List Value}
theorem Fresh.nil (w w' : World) (e size : Nat) : Fresh w w' e size none 0 0 [] := ⟨Own.nil _ _ _, fun b h => by simp at h⟩
theorem Fresh.sl (h : Fresh w w' e size A n c xs) : Sl w' A n size xs := Sl.of_own h.own
theorem own_block (A : Option Addr) (n c : Nat) (b : Nat) : (Value.slice A n c).ownBlock = some b ↔ A.map (·.block) = some b := by cases A <;> simp [Value.ownBlock]
theorem Fresh.kept {L : List Nat} (h : Fresh w w' e size A n c xs) (hk : Kept L w' w'') (hf : ∀ b, A.map (·.block) = some b → b ∉ L) : Fresh w w'' e size A n c xs :=
  ⟨h.own.kept hk fun b hb => hf b ((own_block A n c b).1 hb), h.lo⟩
theorem Fresh.kept0 (h : Fresh w w' e size A n c xs) (hk : Kept [] w' w'') : Fresh w w'' e size A n c xs := h.kept hk (by simp)
theorem Fresh.lower {w0 : World} (h : Fresh w w' e size A n c xs) (hs : w0.heap.size ≤ w.heap.size) : Fresh w0 w' e size A n c xs := ⟨h.own, fun b hb => Nat.le_trans hs (h.lo b hb)⟩
theorem App.next {w0 : World} (h : App w w' e size A k c xs news m A' c') (hf : Fresh w0 w e size A k c xs) (hs : w0.heap.size ≤ w.heap.size) : Fresh w0 w' e size A' (k + m) c' (xs ++ news) :=
  ⟨h.own, fun b hb => by
    rcases h.where_ b hb with h1 | h1
    · exact hf.lo b h1
    · omega⟩
theorem App.grow {w0 : World} {L : List Nat} (h : App w w' e size A k c xs news m A' c') (hf : Fresh w0 w e size A k c xs) (hk : Kept L w0 w) : Kept L w0 w' :=
  hk.trans h.kept fun x hx hlt => by
    have := hf.lo x ((own_block A k c x).1 (by simpa using hx))
    omega
end
section
variable {w w' : World} {e size n c : Nat} {A : Option Addr} {xs : List Value}
theorem Own.set_ (h : Own w e size (.slice A n c) n xs) {b off j : Nat} (hA : A = some ⟨b, off, none⟩) (hj : j < xs.length) (u : Value) :
    (∃ old, w.cell? ⟨b, off + j, none⟩ = some old) ∧ w.frozen? ⟨b, off + j, none⟩ = false ∧ Own (w.setCell ⟨b, off + j, none⟩ u) e size (.slice A n c) n (xs.set j u) := by
  obtain ⟨h1, h2⟩ := h
  rcases h2 with ⟨hv, h0⟩ | ⟨g, o, cap, cur, hv, hg, hnc, hcm, hcs, hc⟩
  · subst h0
    rw [h1, Nat.zero_mul] at hj
    omega
  · injection hv with e1 e2 e3
    subst e3
    rw [hA] at e1
    injection e1 with e1
    injection e1 with e4 e5
    subst e4 e5
    have hB : Blk w b e cur := hg
    have hlt : off + j < cur.size := by
      have : n * size ≤ c * size := Nat.mul_le_mul_right _ hnc
      omega
    refine ⟨⟨cur[off + j], hB.cell_ (Array.getElem?_eq_getElem hlt)⟩, hB.frozen _, by rw [List.length_set]; exact h1, .inr ⟨b, off, c, cur.setIfInBounds (off + j) u, by rw [hA], hB.set_ _ _, hnc, hcm, by simpa using hcs, fun i v hv => ?_⟩⟩
    rw [Array.getElem?_setIfInBounds]
    rw [List.getElem?_set] at hv
    by_cases hij : j = i
    · subst hij
      rw [if_pos rfl, if_pos hj] at hv
      rw [if_pos rfl, if_pos hlt]
      exact hv
    · rw [if_neg hij] at hv
      rw [if_neg (by omega)]
      exact hc i v hv
end
section
variable {P : Program} {ops : Array Oper} {Q : Exit → Act → World → Prop} {S : World → Prop} {a : Act} {w : World} {n d : Nat} {l : FL} {K : Act → World → Prop} {ty : TypeId} {ps : String} {af : Array Edge} {gd : Option (Nat × Bool)} {x y : Operand} {t : TypeId}
theorem O.append {i : Nat} (f : Fr n a l) (ho : ops[i]? = some ⟨some d, .call { callee := .builtin .append, args := #[x, y], argTypes := #[t, t] }, ty, ps, af, gd⟩) (hw : Region.wanted ⟨some d, .call { callee := .builtin .append, args := #[x, y], argTypes := #[t, t] }, ty, ps, af, gd⟩ (yielded ops a.tmps) = true) (hn : d < n) {e size bytes k c m c2 : Nat} {z : Value} {A A2 : Option Addr} {xs news : List Value} (ht : P.underlying t = some (.slice e)) (hi : (P.info? e).map (fun i => (i.zero, i.size, i.bytes)) = some (some z, size, bytes)) (hzs : z.cells.size = size) (hsz : Nat.blt 0 size = true)
    (hx : evl l x = some (.slice A k c)) (hy : evl l y = some (.slice A2 m c2)) (hown : Own w e size (.slice A k c) k xs) (hr : Sl w A2 m size news) (h1 : ∀ u ∈ news, u.oneCell' = true) (h63 : k + m ≤ maxLen) (hb : (k + m) * bytes ≤ 140737488355328)
    (hK : ∀ a' w' A' c', App w w' e size A k c xs news m A' c' → S w' ∧ (Fr n a' ((d, .slice A' (k + m) c') :: l) → K a' w')) : wpOp P ops Q i (fun a w => S w ∧ K a w) a w := by
  obtain ⟨A', c', w', hrun, happ⟩ := E.append (dst := some d) (ty := ty) (ps := ps) (af := af) (gd := gd) f ht hi hzs hsz hx hy hown hr h1 h63 hb
  exact O.val f ho rfl hn hw hrun (hK a w' A' c' happ).1 fun a' f' => (hK a' w' A' c' happ).2 f'
theorem O.buildSlice {i : Nat} (f : Fr n a l) {parts : Array (Nat × Operand)} {len : Nat} (ho : ops[i]? = some ⟨some d, .buildSlice t len parts, ty, ps, af, gd⟩) (hw : Region.wanted ⟨some d, .buildSlice t len parts, ty, ps, af, gd⟩ (yielded ops a.tmps) = true) (hn : d < n) {vs : List (Nat × Value)} {e sz : Nat} {cells : Array Value} {z : Value} (hx : (parts.map fun p => (p.1, a.eval p.2)).toList = vs) (hu : P.underlying t = some (.slice e))
    (hi : (P.info? e).map (fun i => (i.zero, i.size)) = some (some z, sz)) (hs : Nat.ble (len * sz) 16777216 = true) (hp : Nat.beq (len * sz) 0 = false) (hf : Instr.fill (fun i => some (i * sz, sz)) ((Array.range (len * sz)).map fun j => z.cells[j % z.cells.size]!) vs = some cells)
    (hS : ∀ w', Kept [] w w' → S w') (hK : ∀ a' w' g, Newb w w' g e cells → S w' → Fr n a' ((d, .slice (some ⟨g, 0, none⟩) len len) :: l) → K a' w') : wpOp P ops Q i (fun a w => S w ∧ K a w) a w :=
  O.val f ho rfl hn hw (E.buildSlice f hx hu hi hs hp hf) (hS _ (newb w e _).kept) fun a' f' => hK a' _ _ (newb w e _) (hS _ (newb w e _).kept) f'
theorem O.alloc {i : Nat} (f : Fr n a l) (ho : ops[i]? = some ⟨some d, .alloc t, ty, ps, af, gd⟩) (hw : Region.wanted ⟨some d, .alloc t, ty, ps, af, gd⟩ (yielded ops a.tmps) = true) (hn : d < n) {z : Value} (hz : ∀ w, (zeroValue t).run P w = .ok z w) {cs : Array Value} (hcs : z.cells = cs)
    (hS : ∀ w', Kept [] w w' → S w') (hK : ∀ a' w' g, Newb w w' g t cs → S w' → Fr n a' ((d, .pointer (some ⟨g, 0, none⟩)) :: l) → K a' w') : wpOp P ops Q i (fun a w => S w ∧ K a w) a w :=
  O.val f ho rfl hn hw (E.alloc f hz) (hS _ (newb w t _).kept) fun a' f' => hK a' _ _ (hcs ▸ newb w t _) (hS _ (newb w t _).kept) f'
end
end Go.Hub
namespace Go.Hub
open Go.RowKit
def setSeg : List Value → Nat → List Value → List Value
  | xs, _, [] => xs
  | xs, o, v :: r => setSeg (xs.set o v) (o + 1) r
theorem setSeg_at : ∀ (vs xs : List Value) (o i : Nat), o + vs.length ≤ xs.length → (setSeg xs o vs)[i]? = if o ≤ i ∧ i < o + vs.length then vs[i - o]? else xs[i]?
  | [], xs, o, i, _ => by
    have : ¬ (o ≤ i ∧ i < o + ([] : List Value).length) := by simp
    rw [if_neg this]
    rfl
  | v :: r, xs, o, i, h => by
    simp only [List.length_cons] at h
    rw [setSeg, setSeg_at r _ (o + 1) i (by rw [List.length_set]; omega)]
    by_cases h1 : o + 1 ≤ i ∧ i < o + 1 + r.length
    · rw [if_pos h1, if_pos (by simp; omega)]
      rw [show i - o = (i - (o + 1)) + 1 by omega]
      rfl
    · rw [if_neg h1, List.getElem?_set]
      by_cases h2 : o = i
      · subst h2
        rw [if_pos rfl, if_pos (by omega), if_pos (by simp)]
        simp
      · rw [if_neg h2, if_neg (by simp; omega)]
section
variable {M : Type} (cell : M → List Value) (size : Nat) (hs : ∀ m, (cell m).length = size)
include hs
theorem flat_get (l : List M) (i : Nat) : (l.flatMap cell)[i]? = (l[i / size]?).bind fun m => (cell m)[i % size]? := by
  induction l generalizing i with
  | nil => simp
  | cons a r ih =>
    simp only [List.flatMap_cons]
    rcases Nat.lt_or_ge i size with h | h
    · rw [List.getElem?_append_left (by rw [hs]; exact h), Nat.div_eq_of_lt h, Nat.mod_eq_of_lt h]
      rfl
    · rw [List.getElem?_append_right (by rw [hs]; exact h), hs, ih]
      rcases Nat.eq_zero_or_pos size with h0 | h0
      · subst h0
        have : ∀ m, cell m = [] := fun m => List.eq_nil_of_length_eq_zero (hs m)
        simp [this]
      · rw [Nat.div_eq_sub_div h0 h, Nat.mod_eq_sub_mod h]
        rfl
theorem flat_seg (h0 : 0 < size) (l : List M) (i : Nat) (m : M) (hi : i < l.length) : setSeg (l.flatMap cell) (i * size) (cell m) = (l.set i m).flatMap cell := by
  have hlen : (l.flatMap cell).length = l.length * size := flat_len cell size hs l
  have hle : i * size + size ≤ l.length * size := by
    calc i * size + size = (i + 1) * size := by rw [Nat.add_mul, Nat.one_mul]
      _ ≤ l.length * size := Nat.mul_le_mul_right _ hi
  apply List.ext_getElem?
  intro j
  rw [setSeg_at _ _ _ _ (by rw [hs, hlen]; exact hle), flat_get cell size hs, flat_get cell size hs, List.getElem?_set]
  by_cases hj : i * size ≤ j ∧ j < i * size + (cell m).length
  · rw [if_pos hj]
    rw [hs] at hj
    have e1 : j / size = i := by
      refine (Nat.div_eq_iff h0).2 ⟨hj.1, ?_⟩
      omega
    have e2 : j % size = j - i * size := by
      have := Nat.div_add_mod j size
      rw [e1, Nat.mul_comm] at this
      omega
    rw [e1, e2, if_pos rfl, if_pos hi]
    rfl
  · rw [if_neg hj]
    rw [hs] at hj
    have e1 : ¬ i = j / size := fun e => hj ⟨by rw [e]; exact Nat.div_mul_le_self j size, by rw [e]; have := Nat.lt_div_mul_add (a := j) h0; omega⟩
    rw [if_neg e1]
end
section
variable {w : World} {g : Nat} {t : TypeId}
theorem Blk.seg : ∀ (vs xs : List Value) (o : Nat) (w : World), Blk w g t xs.toArray → Blk (w.setCells g o vs) g t (setSeg xs o vs).toArray
  | [], _, _, _, h => h
  | v :: r, xs, o, w, h => by
    have := h.set_ o v
    simp only [List.setIfInBounds_toArray] at this
    exact Blk.seg r (xs.set o v) (o + 1) _ this
end
section
variable {P : Program} {ops : Array Oper} {rest : List Oper} {a : Act} {w : World} {Q : Exit → Act → World → Prop} {n d : Nat} {l : FL} {v : Value} {dst : Option Nat} {ty : TypeId} {ps : String} {af : Array Edge} {gd : Option (Nat × Bool)} {x y : Operand} {t : TypeId} {S : World → Prop} {K : Act → World → Prop}
theorem E.storeSeg (f : Fr n a l) {g o e s : Nat} {xs : List Value} {cs : Array Value} (hi : (P.info? t).map (·.size) = some s) (hx : evl l x = some (.pointer (some ⟨g, o, none⟩))) (hy : evl l y = some (.agg cs)) (h1 : cs.toList.all (·.oneCell') = true) (B : Blk w g e xs.toArray) (ho : o + cs.size ≤ xs.length) (hl : cs.size = s) :
    (execOp a.eval ⟨dst, .store t x y, ty, ps, af, gd⟩).run P w = .ok .skip (w.setCells g o cs.toList) :=
  E.storeR f (hl ▸ hi) hx hy (by simpa using h1) (B.there (by simpa using ho))
theorem O.act {i : Nat} {o : Oper} {w' : World} (f : Fr n a l) (hi : ops[i]? = some o) (hd : o.dst = none) (hw : Region.wanted o (yielded ops a.tmps) = true)
    (hv : (execOp a.eval o).run P w = .ok .skip w') (hS : S w') (hK : ∀ a', Fr n a' l → K a' w') : wpOp P ops Q i (fun a w => S w ∧ K a w) a w := by
  unfold wpOp
  simp only [hi, hw, if_true]
  refine .inl ?_
  unfold Oper.wp
  rw [hv]
  show S w' ∧ K (a.put o.dst undef) w'
  rw [hd]
  exact ⟨hS, hK _ f⟩
theorem O.storeSeg {i : Nat} (f : Fr n a l) (hio : ops[i]? = some ⟨none, .store t x y, ty, ps, af, gd⟩) (hw : Region.wanted ⟨none, .store t x y, ty, ps, af, gd⟩ (yielded ops a.tmps) = true) {g o e s : Nat} {xs : List Value} {cs : Array Value} (hi : (P.info? t).map (·.size) = some s) (hx : evl l x = some (.pointer (some ⟨g, o, none⟩))) (hy : evl l y = some (.agg cs)) (h1 : cs.toList.all (·.oneCell') = true) (B : Blk w g e xs.toArray) (ho : o + cs.size ≤ xs.length) (hl : cs.size = s)
    (hS : ∀ w', Kept [g] w w' → S w') (hK : ∀ a' w', Fr n a' l → Blk w' g e (setSeg xs o cs.toList).toArray → Kept [g] w w' → K a' w') : wpOp P ops Q i (fun a w => S w ∧ K a w) a w :=
  O.act f hio rfl hw (E.storeSeg f hi hx hy h1 B ho hl) (hS _ (setCells_kept w g o _)) fun a' f' => hK a' _ f' (B.seg cs.toList xs o w) (setCells_kept w g o _)
end
end Go.Hub
namespace Go.Hub
open Go.RowKit Go.Maps Go.ChangeMaps Go.MapKept
def insS (x : Int) (S : List Int) : List Int := if x ∈ S then S else x :: S
section
variable {P : Program} {k e t : TypeId} {w w' : World} {m : Nat} {S : List Int}
theorem IsSet.put (h : IsSet P k e w m S) (hk : P.underlying k = some (.int .i64)) (he : P.underlying e = some .bool) (ht : P.underlying t = some (.map k e)) {x : Int} (hx : (Lit.int .i64 x).wf = true) (hS : S.length < maxLen) :
    ∃ w', (Instr.mapUpdate t (.map (some m)) (.int .i64 x) (.bool true)).run P w = .ok () w' ∧ IsSet P k e w' m (insS x S) ∧ Kept [m] w w' := by
  by_cases hn : x ∈ S
  · obtain ⟨hnd, D, ho, hs, hhas, hat⟩ := h
    have hkey := keyOf_int_mk hk hx
    have K := int_keyed hk
    obtain ⟨w', hrun, ho', ht'⟩ := ho.store K ht hS hkey (plainElem_bool he true)
    have tidy := ho.tidy K
    have hsz : Maps.size (D.put (.int .i64 x) (.lit (.bool true))) = S.length := by
      rw [Maps.size_put tidy, hhas x]
      simp [hn, hs]
    refine ⟨w', hrun, ?_, turned_kept ht'⟩
    rw [insS, if_pos hn]
    refine ⟨hnd, _, ownsMap_exact ho' (by rw [hsz]; exact Nat.le_refl _), hsz, ?_, ?_⟩
    · intro y
      by_cases hy : y = x
      · subst hy
        rw [Maps.has_put_same ho.isMap (K.key hkey)]
        simp [hn]
      · rw [Maps.has_put_other (int_lit_inj.2 hy), hhas y]
    · intro y
      by_cases hy : y = x
      · subst hy
        rw [Maps.atKey_put_same ho.isMap (K.key hkey)]
        simp [hn]
      · rw [Maps.atKey_put_other (int_lit_inj.2 hy), hat y]
  · rw [insS, if_neg hn]
    exact h.store hk he ht hx hS hn
end
section
variable {P : Program} {ops : Array Oper} {rest : List Oper} {a : Act} {w : World} {Q : Exit → Act → World → Prop} {n d : Nat} {l : FL} {v : Value} {dst : Option Nat} {ty : TypeId} {ps : String} {af : Array Edge} {gd : Option (Nat × Bool)} {x y z : Operand} {t k e : TypeId} {Sw : World → Prop} {K : Act → World → Prop} {m : Nat} {S : List Int}
theorem E.makeMap (f : Fr n a l) : (execOp a.eval ⟨dst, .makeMap t none, ty, ps, af, gd⟩).run P w = .ok (.value (.map (some w.heap.size))) (w.alloc (.map #[] 0)) := by
  simp [execOp]
  rfl
theorem L.makeMap (f : Fr n a l) (hw : Region.wanted ⟨some d, .makeMap t none, ty, ps, af, gd⟩ (yielded ops a.tmps) = true) (hn : d < n) (k e : TypeId)
    (hK : ∀ a' w' g, IsSet P k e w' g [] → Kept [] w w' → w.heap.size ≤ g → Fr n a' ((d, .map (some g)) :: l) → wpList P ops Q rest a' w') : wpList P ops Q (⟨some d, .makeMap t none, ty, ps, af, gd⟩ :: rest) a w :=
  L.val f hw rfl hn (E.makeMap f) fun a' f' => hK a' _ _ (IsSet.made w P k e) ⟨rfl, rfl, rfl, by simp, fun i hi _ => (Go.MapKept.heap_alloc w _).2 i hi⟩ (Nat.le_refl _) f'
theorem E.look (f : Fr n a l) (h : IsSet P k e w m S) (hk : P.underlying k = some (.int .i64)) (he : P.underlying e = some .bool) (ht : P.underlying t = some (.map k e)) (hz : ∀ w, (zeroValue e).run P w = .ok (.bool false) w) {i : Int} (hx : evl l x = some (.map (some m))) (hy : evl l y = some (.int .i64 i)) (hi : (Lit.int .i64 i).wf = true) :
    (execOp a.eval ⟨dst, .lookup t x y false, ty, ps, af, gd⟩).run P w = .ok (.value (.bool (decide (i ∈ S)))) w := by
  simp [execOp, f.ev hx, f.ev hy, h.look hk he ht (hz w) hi]
theorem E.mapPut (f : Fr n a l) {w' : World} {i : Int} (hx : evl l x = some (.map (some m))) (hy : evl l y = some (.int .i64 i)) (hz : evl l z = some (.bool true)) (h : (Instr.mapUpdate t (.map (some m)) (.int .i64 i) (.bool true)).run P w = .ok () w') :
    (execOp a.eval ⟨dst, .mapUpdate t x y z, ty, ps, af, gd⟩).run P w = .ok .skip w' := by
  simp [execOp, f.ev hx, f.ev hy, f.ev hz, h]
theorem O.mapPut {q : Nat} (f : Fr n a l) (ho : ops[q]? = some ⟨none, .mapUpdate t x y z, ty, ps, af, gd⟩) (hw : Region.wanted ⟨none, .mapUpdate t x y z, ty, ps, af, gd⟩ (yielded ops a.tmps) = true) (h : IsSet P k e w m S) (hk : P.underlying k = some (.int .i64)) (he : P.underlying e = some .bool) (ht : P.underlying t = some (.map k e)) {i : Int} (hx : evl l x = some (.map (some m))) (hy : evl l y = some (.int .i64 i)) (hz : evl l z = some (.bool true)) (hi : (Lit.int .i64 i).wf = true) (hS : S.length < maxLen)
    (hSw : ∀ w', Kept [m] w w' → Sw w') (hK : ∀ a' w', IsSet P k e w' m (insS i S) → Kept [m] w w' → Fr n a' l → K a' w') : wpOp P ops Q q (fun a w => Sw w ∧ K a w) a w := by
  obtain ⟨w', hrun, r1, r2⟩ := h.put hk he ht hi hS
  exact O.act f ho rfl hw (E.mapPut f hx hy hz hrun) (hSw w' r2) fun a' f' => hK a' w' r1 r2 f'
theorem E.mapDrop (f : Fr n a l) {w' : World} {i : Int} (hx : evl l x = some (.map (some m))) (hy : evl l y = some (.int .i64 i)) (h : (Builtin.delete_ #[t, k] ty #[.map (some m), .int .i64 i]).run P w = .ok (.tuple #[]) w') :
    (execOp a.eval ⟨dst, .call { callee := .builtin .delete, args := #[x, y], argTypes := #[t, k] }, ty, ps, af, gd⟩).run P w = .ok (.value (.tuple #[])) w' := by
  simp [execOp, resolve, invoke, builtin, f.ev hx, f.ev hy, h]
theorem wf64 {i : Int} (h : -9223372036854775808 ≤ i ∧ i ≤ 9223372036854775807) : (Lit.int .i64 i).wf = true := by simpa [Lit.wf, IntKind.min, IntKind.max, IntKind.signed, IntKind.bits] using h
theorem L.mapDrop (f : Fr n a l) (hw : Region.wanted ⟨none, .call { callee := .builtin .delete, args := #[x, y], argTypes := #[t, k] }, ty, ps, af, gd⟩ (yielded ops a.tmps) = true) (h : IsSet P k e w m S) (hk : P.underlying k = some (.int .i64)) (ht : P.underlying t = some (.map k e)) {i : Int} (hx : evl l x = some (.map (some m))) (hy : evl l y = some (.int .i64 i)) (hi : (Lit.int .i64 i).wf = true)
    (hK : ∀ a' w', IsSet P k e w' m (S.erase i) → Kept [m] w w' → Fr n a' l → wpList P ops Q rest a' w') : wpList P ops Q (⟨none, .call { callee := .builtin .delete, args := #[x, y], argTypes := #[t, k] }, ty, ps, af, gd⟩ :: rest) a w := by
  obtain ⟨w', hrun, r1, r2⟩ := h.drop hk ht hi ty
  exact L.drop f hw rfl (E.mapDrop f hx hy hrun) fun a' f' => hK a' w' r1 r2 f'
theorem E.lenM (f : Fr n a l) (h : IsSet P k e w m S) (ht : P.underlying t = some (.map k e)) (hx : evl l x = some (.map (some m))) :
    (execOp a.eval ⟨dst, .call { callee := .builtin .len, args := #[x], argTypes := #[t] }, ty, ps, af, gd⟩).run P w = .ok (.value (.int .i64 S.length)) w := by
  simp [execOp, resolve, invoke, builtin, f.ev hx, h.len ht ty]
end
end Go.Hub
namespace Go.Hub
open Go.RowKit
section
variable {P : Program} {a : Act} {w : World} {n : Nat} {l : FL} {fn : Func} {R : Ending → World → Prop}
theorem C.retC (f : Fr n a l) {p : Tmp} {ty : TypeId} (hr : fn.results = #[.cell p ty]) {g : Nat} {cs : Array Value} {t : TypeId} {d : TypeDesc} (hp : look l p = some (.pointer (some ⟨g, 0, none⟩))) (B : Blk w g t cs)
    (hu : P.underlying ty = some d) (hd : (match d with | .struct _ | .array _ _ => true | _ => false) = true) (hi : (P.info? ty).map (·.size) = some cs.size) (h : R (.returned (.agg cs)) w) : bodyPost P fn R .ret a w :=
  ret_cell hr d (f.get hp) B hu hd hi f.defers h
theorem C.retCT (f : Fr n a l) {p u : Tmp} {ty : TypeId} (hr : fn.results = #[.cell p ty, .tmp u]) {g : Nat} {cs : Array Value} {t : TypeId} {d : TypeDesc} {v : Value} (hp : look l p = some (.pointer (some ⟨g, 0, none⟩))) (hv : look l u = some v) (B : Blk w g t cs)
    (hu : P.underlying ty = some d) (hd : (match d with | .struct _ | .array _ _ => true | _ => false) = true) (hi : (P.info? ty).map (·.size) = some cs.size) (h : R (.returned (.tuple #[.agg cs, v])) w) : bodyPost P fn R .ret a w :=
  ret_cell_tmp hr d (f.get hp) (f.get hv) B hu hd hi f.defers h
end
end Go.Hub
namespace Go.Hub
open Go.RowKit
def MapB (w : World) (k : Nat) : Prop := ∃ es c, w.heap[k]? = some (.map es c)
structure Mod (T : List TypeId) (M : List Nat) (B : Nat) (w w' : World) : Prop where
  os : w'.os = w.os
  tape : w'.tape = w.tape
  output : w'.output = w.output
  size : w.heap.size ≤ w'.heap.size
  block : ∀ k, k < w.heap.size → (k < B ∨ (¬ Typ w k T ∧ ¬ (MapB w k ∧ k ∈ M))) → w'.heap[k]? = w.heap[k]?
section
variable {T T' : List TypeId} {M M' : List Nat} {B B' : Nat} {w w' w'' w0 : World} {L : List Nat} {g : Nat} {t : TypeId} {cs : Array Value}
theorem MapB.of_eq {k : Nat} (h : MapB w k) (hk : w'.heap[k]? = w.heap[k]?) : MapB w' k := by obtain ⟨es, c, h⟩ := h; exact ⟨es, c, hk.trans h⟩
theorem Typ.not_map {k : Nat} (h : Typ w k T) : ¬ MapB w k := by
  obtain ⟨cs, e, f, h, _⟩ := h
  rintro ⟨es, c, h'⟩
  rw [h] at h'
  cases h'
theorem Typ.mono {k : Nat} (h : Typ w k T) (hs : ∀ t ∈ T, t ∈ T') : Typ w k T' := by obtain ⟨cs, e, f, h, he⟩ := h; exact ⟨cs, e, f, h, hs e he⟩
theorem Blk.typ (h : Blk w g t cs) (ht : t ∈ T) : Typ w g T := ⟨cs, t, _, h, ht⟩
theorem Blk.not_map (h : Blk w g t cs) : ¬ MapB w g := (h.typ (T := [t]) (by simp)).not_map
theorem IsSet.map {P : Program} {k e : TypeId} {m : Nat} {S : List Int} (h : IsSet P k e w m S) : MapB w m := by
  obtain ⟨hn, D, ⟨es, clock, h1, h2⟩, r⟩ := h
  exact ⟨es, clock, h1⟩
theorem Mod.refl (T : List TypeId) (M : List Nat) (B : Nat) (w : World) : Mod T M B w w := ⟨rfl, rfl, rfl, Nat.le_refl _, fun _ _ _ => rfl⟩
theorem Mod.mono (h : Mod T M B w w') (hT : ∀ t ∈ T, t ∈ T') (hM : ∀ m ∈ M, m ∈ M') (hB : B' ≤ B) : Mod T' M' B' w w' :=
  ⟨h.os, h.tape, h.output, h.size, fun k hk hc => h.block k hk (by
    rcases hc with hc | ⟨h1, h2⟩
    · exact .inl (by omega)
    · exact .inr ⟨fun ht => h1 (ht.mono hT), fun hm => h2 ⟨hm.1, hM _ hm.2⟩⟩)⟩
theorem Mod.trans (h : Mod T M B w w') (k : Mod T M B w' w'') : Mod T M B w w'' :=
  ⟨k.os.trans h.os, k.tape.trans h.tape, k.output.trans h.output, Nat.le_trans h.size k.size, fun i hi hc => by
    have e1 := h.block i hi hc
    refine (k.block i (Nat.lt_of_lt_of_le hi h.size) ?_).trans e1
    rcases hc with hc | ⟨h1, h2⟩
    · exact .inl hc
    · exact .inr ⟨fun ht => h1 (ht.of_eq e1.symm), fun hm => h2 ⟨hm.1.of_eq e1.symm, hm.2⟩⟩⟩
theorem Mod.step (h : Mod T M B w w') (k : Mod T' M' B' w' w'') (hT : ∀ t ∈ T', t ∈ T) (hM : ∀ m ∈ M', m ∈ M) (hB : B ≤ B') : Mod T M B w w'' := h.trans (k.mono hT hM hB)
theorem Mod.of_kept0 (hk : Kept [] w w') : Mod T M B w w' := ⟨hk.os, hk.tape, hk.output, hk.size, fun k h _ => hk.block k h (by simp)⟩
theorem Mod.of_kept (hk : Kept L w w') (hL : ∀ x ∈ L, x < w.heap.size → B ≤ x ∧ (Typ w x T ∨ (MapB w x ∧ x ∈ M))) : Mod T M B w w' :=
  ⟨hk.os, hk.tape, hk.output, hk.size, fun k h hc => hk.block k h fun hx => by
    obtain ⟨h1, h2⟩ := hL k hx h
    rcases hc with hc | ⟨h3, h4⟩
    · omega
    · exact h2.elim h3 h4⟩
theorem Mod.of_blk (hk : Kept [g] w w') (h : Blk w g t cs) (hB : B ≤ g) (ht : t ∈ T) : Mod T M B w w' := .of_kept hk fun x hx _ => by
  obtain rfl := List.mem_singleton.1 hx
  exact ⟨hB, .inl (h.typ ht)⟩
theorem Mod.of_blk1 (hk : Kept [g] w w') (h : Blk w g t cs) (hB : B ≤ g) : Mod [t] M B w w' := .of_blk hk h hB (by simp)
theorem Mod.kept_new (h : Mod T M B w0 w) (hk : Kept L w w') (hL : ∀ x ∈ L, w0.heap.size ≤ x) : Mod T M B w0 w' :=
  ⟨hk.os.trans h.os, hk.tape.trans h.tape, hk.output.trans h.output, Nat.le_trans h.size hk.size, fun k h' hc =>
    (hk.block k (Nat.lt_of_lt_of_le h' h.size) fun hx => by have := hL k hx; omega).trans (h.block k h' hc)⟩
theorem Blk.mod (h : Blk w g t cs) (hm : Mod T M B w w') (ht : t ∉ T) : Blk w' g t cs := (hm.block g h.lt (.inr ⟨h.not_typ ht, fun hx => h.not_map hx.1⟩)).trans h
theorem IsSet.mod {P : Program} {k e : TypeId} {m : Nat} {S : List Int} (h : IsSet P k e w m S) (hm : Mod T M B w w') (hM : m ∉ M) : IsSet P k e w' m S :=
  h.of_block (hm.block m h.lt (.inr ⟨fun ht => ht.not_map h.map, fun hx => hM hx.2⟩))
theorem Own.mod {e : TypeId} {size n : Nat} {v : Value} {xs : List Value} (h : Own w e size v n xs) (hm : Mod T M B w w') (he : e ∉ T) : Own w' e size v n xs := h.of_eq fun k hk => by
  obtain ⟨h1, cs, h2⟩ := h.blk k hk
  exact hm.block k h1 (.inr ⟨not_typ_of h2 he, fun hx => (Typ.not_map (T := [e]) ⟨cs, e, _, h2, by simp⟩) hx.1⟩)
theorem Fresh.mod {e : TypeId} {size n c : Nat} {A : Option Addr} {xs : List Value} (h : Fresh w0 w e size A n c xs) (hm : Mod T M B w w') (he : e ∉ T) : Fresh w0 w' e size A n c xs := ⟨h.own.mod hm he, h.lo⟩
theorem Bs.mod {E : List TypeId} {A : Option Addr} {n : Nat} {l : List UInt8} (h : Bs E B w A n l) (hm : Mod T M B w w') (hE : ∀ t ∈ E, t ∉ T) : Bs E B w' A n l :=
  ⟨h.1, fun hn => by
    obtain ⟨b, off, e, hb, ht, hc⟩ := h.2 hn
    have e1 := hm.block b hb (ht.imp_right fun ht => ⟨fun h' => by
      obtain ⟨cs, t, f, h1, h2⟩ := ht
      obtain ⟨cs', t', f', h1', h2'⟩ := h'
      rw [h1] at h1'
      injection h1' with h1'
      injection h1' with _ h3 _
      subst h3
      exact hE _ h2 h2', fun h' => ht.not_map h'.1⟩)
    exact ⟨b, off, e, Nat.lt_of_lt_of_le hb hm.size, ht.imp_right fun ht => ht.of_eq e1, fun j x hx => (World.cell?_of_block (w := w) (a := ⟨b, off + j, none⟩) e1).trans (hc j x hx)⟩⟩
theorem Bs.sl {E : List TypeId} {A : Option Addr} {n : Nat} {l : List UInt8} (h : Bs E B w A n l) : Sl w A n 1 (l.map u8) := Sl.of_rds h.rds
theorem own_typ {e : TypeId} {size n c k : Nat} {A : Option Addr} {xs : List Value} (h : Own w e size (.slice A n c) k xs) {b : Nat} (hb : A.map (·.block) = some b) (he : e ∈ T) : Typ w b T := by
  obtain ⟨_, cs, h2⟩ := h.blk b ((own_block A n c b).2 hb)
  exact ⟨cs, e, _, h2, he⟩
theorem Mod.of_app {e : TypeId} {size k c m c' : Nat} {A A' : Option Addr} {xs news : List Value} (h : App w w' e size A k c xs news m A' c') (ho : Own w e size (.slice A k c) k xs) (hB : ∀ a, A = some a → B ≤ a.block) (he : e ∈ T) : Mod T M B w w' := .of_kept h.kept fun x hx _ => by
  have hb := (own_block A k c x).1 (by simpa using hx)
  refine ⟨?_, .inl (own_typ ho hb he)⟩
  cases A with
  | none => simp at hb
  | some a => simp at hb; subst hb; exact hB a rfl
theorem App.from {e : TypeId} {size k c m c' : Nat} {A A' : Option Addr} {xs news : List Value} (h : App w w' e size A k c xs news m A' c') (hB : ∀ a, A = some a → B ≤ a.block) (hw : B ≤ w.heap.size) : ∀ a, A' = some a → B ≤ a.block := fun a ha => by
  rcases h.where_ a.block (by rw [ha]; rfl) with hb | hb
  · cases A with
    | none => simp at hb
    | some a' => simp at hb; rw [← hb]; exact hB a' rfl
  · omega
theorem Mod.app_new {e : TypeId} {size k c m c' : Nat} {A A' : Option Addr} {xs news : List Value} (hm : Mod T M B w0 w) (h : App w w' e size A k c xs news m A' c') (hf : Fresh w0 w e size A k c xs) : Mod T M B w0 w' := hm.kept_new h.kept fun x hx =>
  hf.lo x ((own_block A k c x).1 (by simpa using hx))
theorem Fresh.from {e : TypeId} {size n c : Nat} {A : Option Addr} {xs : List Value} (h : Fresh w0 w e size A n c xs) : ∀ a, A = some a → w0.heap.size ≤ a.block := fun a ha => h.lo a.block (by rw [ha]; rfl)
end
end Go.Hub
namespace Go.Hub
open Go.RowKit
def upto (m : Nat) (l : Array Bool) : Bool := (List.range m).all fun i => l.getD i true
def barrier (md : Region.Mode) (ops : Array Oper) (m : Nat) : Bool := (List.range ops.size).all fun j => Nat.blt j m || (List.range m).all fun i => match ops[j]? with | some o => o.after.any fun e => Region.binds md e && Nat.beq e.on i | none => true
def wpAnyB (P : Program) (md : Region.Mode) (ops : Array Oper) (Q : Exit → Act → World → Prop) (S : World → Prop) (m : Nat) : Nat → Array Bool → Act → World → Prop
  | 0, listed, a, w => Region.ready md ops listed = [] ∧ Q .normal a w
  | fuel + 1, listed, a, w => if upto m listed = true then wpAnyH P md ops Q (fun _ => True) (fuel + 1) listed a w else
    (Region.ready md ops listed = [] → Q .normal a w) ∧
    ∀ i ∈ Region.ready md ops listed, wpOp P ops Q i (fun a' w' => S w' ∧ wpAnyB P md ops Q S m fuel (listed.setIfInBounds i true) a' w') a w
section
variable {P : Program} {ops : Array Oper} {Q : Exit → Act → World → Prop} {md : Region.Mode} {S : World → Prop} {m : Nat}
theorem wpAny_of_B : ∀ (fuel : Nat) (listed : Array Bool) (a : Act) (w : World), wpAnyB P md ops Q S m fuel listed a w → wpAny P md ops Q fuel listed a w
  | 0, _, _, _, h => h
  | fuel + 1, listed, a, w, h => by
    unfold wpAnyB at h
    split at h
    · exact wpAny_of_held _ _ _ _ h
    · exact ⟨h.1, fun i hi => wpOp_mono (fun a' w' h' => wpAny_of_B fuel _ a' w' h'.2) (h.2 i hi)⟩
theorem upto_spec {l : Array Bool} (h : upto m l = true) {i : Nat} (hi : i < m) : l.getD i true = true := by
  unfold upto at h
  exact List.all_eq_true.1 h i (List.mem_range.2 hi)
theorem barrier_spec (h : barrier md ops m = true) {i j : Nat} {o : Oper} (hi : i < m) (hj : m ≤ j) (ho : ops[j]? = some o) : ∃ e ∈ o.after, Region.binds md e = true ∧ e.on = i := by
  unfold barrier at h
  have h1 := List.all_eq_true.1 h j (List.mem_range.2 (Array.getElem?_eq_some_iff.1 ho).1)
  have h2 : Nat.blt j m = false := by
    cases hb : Nat.blt j m
    · rfl
    · have := Nat.le_of_ble_eq_true hb
      omega
  rw [h2, Bool.false_or] at h1
  have h3 := List.all_eq_true.1 h1 i (List.mem_range.2 hi)
  rw [ho] at h3
  obtain ⟨e, he, hb⟩ := Array.any_eq_true'.1 h3
  rw [Bool.and_eq_true] at hb
  exact ⟨e, he, hb.1, Nat.eq_of_beq_eq_true hb.2⟩
theorem wpAnyB_first {i : Nat} {oi : Oper} {v : Value} (hi : ops[i]? = some oi) (hsel : ∀ (j : Nat) (o : Oper) cs b, ops[j]? = some o → o.op ≠ .select cs b)
    (hQ : ∀ c a w, Q (.panic c) (a.put oi.dst v) w → Q (.panic c) a w) (him : i < m) (hbar : barrier md ops m = true) :
    ∀ (fuel : Nat) (listed : Array Bool) (a : Act) (w : World),
      (∀ j oj, ops[j]? = some oj → j ≠ i → listed.getD j true = false → (∀ e ∈ oj.after, Region.binds md e = true → e.on ≠ i) → oi.apart ops oj = true) →
      i ∈ Region.ready md ops listed → YieldsIf P ops S oi v a → S w →
      wpAnyB P md ops Q S m fuel (listed.setIfInBounds i true) (a.put oi.dst v) w → wpAnyB P md ops Q S m (fuel + 1) listed a w := by
  intro fuel
  induction fuel with
  | zero =>
    intro listed a w _ hr hy hS H
    have hup : ¬ upto m listed = true := fun hu => by
      have h1 := upto_spec hu him
      rw [(mem_ready.1 hr).1] at h1
      cases h1
    unfold wpAnyB
    rw [if_neg hup]
    refine ⟨fun h => (by rw [h] at hr; cases hr), fun j hj => ?_⟩
    by_cases hji : j = i
    · subst hji; exact hy.wpOp hi hS ⟨hS, H⟩
    · have := ready_mono hj hji
      rw [H.1] at this
      cases this
  | succ fuel ih =>
    intro listed a w hfree hr hy hS H
    have hup : ¬ upto m listed = true := fun hu => by
      have h1 := upto_spec hu him
      rw [(mem_ready.1 hr).1] at h1
      cases h1
    unfold wpAnyB
    rw [if_neg hup]
    refine ⟨fun h => (by rw [h] at hr; cases hr), fun j hj => ?_⟩
    by_cases hji : j = i
    · subst hji; exact hy.wpOp hi hS ⟨hS, H⟩
    · obtain ⟨hjun, oj, hoj, hall⟩ := mem_ready.1 hj
      have hnot : ∀ e ∈ oj.after, Region.binds md e = true → e.on ≠ i := fun e he hb heq => by
        have h1 := hall e he hb
        have h0 := (mem_ready.1 hr).1
        rw [heq] at h1
        rcases Nat.lt_or_ge i listed.size with h' | h'
        · simp [h'] at h0 h1; rw [h0] at h1; cases h1
        · simp [Array.getElem?_eq_none h'] at h1
      have hjm : j < m := by
        rcases Nat.lt_or_ge j m with h | h
        · exact h
        · obtain ⟨e, he, hb, heq⟩ := barrier_spec hbar him h hoj
          exact absurd heq (hnot e he hb)
      have hup' : ¬ upto m (listed.setIfInBounds i true) = true := fun hu => by
        have h1 := upto_spec hu hjm
        rw [getD_set_ne true (Ne.symm hji), hjun] at h1
        cases h1
      unfold wpAnyB at H
      rw [if_neg hup'] at H
      have h1 := H.2 j (ready_mono hj hji)
      have h2 := wpOp_putIf hoj (hfree j oj hoj hji hjun hnot) (fun cs b => hsel i oi cs b hi) (fun cs b => hsel j oj cs b hoj) hQ hy h1
      have hfree' : ∀ k ok, ops[k]? = some ok → k ≠ i → (listed.setIfInBounds j true).getD k true = false →
          (∀ e ∈ ok.after, Region.binds md e = true → e.on ≠ i) → oi.apart ops ok = true := fun k ok hk hki hun hno => by
        refine hfree k ok hk hki ?_ hno
        by_cases hjk : j = k
        · subst hjk; exact hjun
        · rw [getD_set_ne true hjk] at hun; exact hun
      refine wpOp_mono (fun a' w' h3 => ⟨h3.2.1, ih (listed.setIfInBounds j true) a' w' hfree' (ready_mono hr (Ne.symm hji)) h3.1 h3.2.1 ?_⟩) h2
      rw [Array.setIfInBounds_comm _ _ hji]
      exact h3.2.2
theorem wpAnyB_take {i : Nat} {oi : Oper} {v : Value} {fuel : Nat} {listed : Array Bool} {a : Act} {w : World} (hi : ops[i]? = some oi) (hb : (Nat.blt i m && barrier md ops m) = true)
    (hs : Region.noSelect ops = true) (hf : Region.free md ops listed i = true) (hr : (Region.ready md ops listed).contains i = true)
    (hQ : ∀ c a w, Q (.panic c) (a.put oi.dst v) w → Q (.panic c) a w) (hy : YieldsIf P ops S oi v a) (hS : S w)
    (h : wpAnyB P md ops Q S m fuel (listed.setIfInBounds i true) (a.put oi.dst v) w) : wpAnyB P md ops Q S m (fuel + 1) listed a w :=
  wpAnyB_first hi (Region.noSelect_spec hs) hQ (Nat.le_of_ble_eq_true (Bool.and_eq_true _ _ ▸ hb).1) (Bool.and_eq_true _ _ ▸ hb).2 fuel listed a w (Region.free_spec hi hf) (by simpa using hr) hy hS h
theorem wpAnyB_all {rs : List Nat} {fuel : Nat} {listed : Array Bool} {a : Act} {w : World} (hu : upto m listed = false) (hr : Region.ready md ops listed = rs) (hne : rs ≠ [])
    (h : ∀ i ∈ rs, wpOp P ops Q i (fun a' w' => S w' ∧ wpAnyB P md ops Q S m fuel (listed.setIfInBounds i true) a' w') a w) : wpAnyB P md ops Q S m (fuel + 1) listed a w := by
  unfold wpAnyB
  rw [if_neg (by rw [hu]; simp)]
  exact ⟨fun h0 => absurd (hr ▸ h0) hne, hr ▸ h⟩
theorem RB.stop {fuel : Nat} {listed : Array Bool} {a : Act} {w : World} (hu : upto m listed = true) (h : wpAnyH P md ops Q (fun _ => True) (fuel + 1) listed a w) : wpAnyB P md ops Q S m (fuel + 1) listed a w := by
  unfold wpAnyB
  rw [if_pos hu]
  exact h
end
section
variable {P : Program} {ops : Array Oper} {Q : Exit → Act → World → Prop} {md : Region.Mode} {S : World → Prop} {a : Act} {w w' : World} {n d : Nat} {l : FL} {v : Value} {o : Oper} {m : Nat}
theorem RB.begin {id : Nat} (m : Nat) (hm : P.follows .mixedOrders = true) (hS : S (w.drewN 1))
    (h : wpAnyB P .any ops Q S m ops.size (Array.replicate ops.size false) a (w.drewN 1)) : (Code.region id ops true).wp P Q a w := wp_region_any hm (wpAny_of_B _ _ _ _ h)
theorem RB.take (i : Nat) {fuel : Nat} {listed : Array Bool} (f : Fr n a l) (hi : ops[i]? = some o) (hd : o.dst = some d) (hn : d < n) (hb : (Nat.blt i m && barrier md ops m) = true) (hs : Region.noSelect ops = true) (hf : Region.free md ops listed i = true)
    (hr : (Region.ready md ops listed).contains i = true) (hQ : ∀ c (a : Act) (u : Value) w, Q (.panic c) (a.put (some d) u) w → Q (.panic c) a w) (hw : Region.wanted o (yielded ops a.tmps) = true) (hS : S w)
    (hv : ∀ w, S w → (execOp a.eval o).run P w = .ok (.value v) w)
    (hK : ∀ a', Fr n a' ((d, v) :: l) → wpAnyB P md ops Q S m fuel (listed.setIfInBounds i true) a' w) : wpAnyB P md ops Q S m (fuel + 1) listed a w := by
  refine wpAnyB_take hi hb hs hf hr (v := v) (fun c a w h => hQ c a v w (by rwa [hd] at h)) (.inl ⟨hw, hv⟩) hS ?_
  rw [hd]
  exact hK _ (f.put d v hn)
theorem RB.call (i : Nat) {fuel : Nat} {listed : Array Bool} (f : Fr n a l) (hi : ops[i]? = some o) (hd : o.dst = some d) (hn : d < n) (hu : upto m listed = false) (hr : Region.ready md ops listed = [i]) (hw : Region.wanted o (yielded ops a.tmps) = true)
    {fn : Nat} {args : Array Value} (h : (execOp a.eval o).run P w = .ok (.enter fn args) w) {R : Ending → World → Prop} (hc : Calls P fn args w R)
    (hR : ∀ e w', R e w' → ∃ v, e = .returned v ∧ S w' ∧ ∀ a', Fr n a' ((d, v) :: l) → wpAnyB P md ops Q S m fuel (listed.setIfInBounds i true) a' w') : wpAnyB P md ops Q S m (fuel + 1) listed a w := by
  refine wpAnyB_all hu hr (by simp) ?_
  intro j hj
  simp only [List.mem_singleton] at hj
  subst hj
  unfold wpOp
  simp only [hi, hw, if_true]
  refine .inl ?_
  unfold Oper.wp
  rw [h]
  refine Calls.mono hc ?_
  intro e w' hr
  obtain ⟨v, rfl, hS, hK⟩ := hR e w' hr
  show S w' ∧ wpAnyB P md ops Q S m fuel (listed.setIfInBounds j true) (a.put o.dst v) w'
  rw [hd]
  exact ⟨hS, hK _ (f.put d v hn)⟩
theorem RB.one (i : Nat) {fuel : Nat} {listed : Array Bool} (hu : upto m listed = false) (hr : Region.ready md ops listed = [i]) (h : wpOp P ops Q i (fun a w => S w ∧ wpAnyB P md ops Q S m fuel (listed.setIfInBounds i true) a w) a w) : wpAnyB P md ops Q S m (fuel + 1) listed a w :=
  wpAnyB_all hu hr (by simp) fun j hj => by
    simp only [List.mem_singleton] at hj
    subst hj
    exact h
theorem RB.two (i j : Nat) {fuel : Nat} {listed : Array Bool} (hu : upto m listed = false) (hr : Region.ready md ops listed = [i, j]) (h : wpOp P ops Q i (fun a w => S w ∧ wpAnyB P md ops Q S m fuel (listed.setIfInBounds i true) a w) a w)
    (h' : wpOp P ops Q j (fun a w => S w ∧ wpAnyB P md ops Q S m fuel (listed.setIfInBounds j true) a w) a w) : wpAnyB P md ops Q S m (fuel + 1) listed a w :=
  wpAnyB_all hu hr (by simp) fun k hk => by
    simp only [List.mem_cons, List.not_mem_nil, or_false] at hk
    rcases hk with rfl | rfl
    · exact h
    · exact h'
end
section
variable {P : Program} {ops : Array Oper} {Q : Exit → Act → World → Prop} {a : Act} {w : World} {n d : Nat} {l : FL} {v : Value} {ty : TypeId} {ps : String} {af : Array Edge} {gd : Option (Nat × Bool)} {x y : Operand} {t : TypeId} {K : Act → World → Prop} {i : Nat}
theorem OT.store (f : Fr n a l) (hio : ops[i]? = some ⟨none, .store t x y, ty, ps, af, gd⟩) (hw : Region.wanted ⟨none, .store t x y, ty, ps, af, gd⟩ (yielded ops a.tmps) = true) (hi : (P.info? t).map (·.size) = some 1) {g o : Nat} {e : TypeId} {cs : Array Value} (hx : evl l x = some (.pointer (some ⟨g, o, none⟩))) (hy : evl l y = some v) (h1 : v.oneCell' = true)
    (B : Blk w g e cs) (ho : o < cs.size) (hK : ∀ a' w', Fr n a' l → Blk w' g e (cs.setIfInBounds o v) → Kept [g] w w' → K a' w') : wpOp P ops Q i (fun a w => True ∧ K a w) a w :=
  O.act (S := fun _ => True) f hio rfl hw (E.store f hi hx hy h1 (B.cell_ (Array.getElem?_eq_getElem ho)) (B.frozen o)) trivial fun a' f' => hK a' _ f' (B.set_ o v) (setCell_kept w g o v)
end
theorem Mod.of_own {T : List TypeId} {M : List Nat} {B : Nat} {w w' : World} {e : TypeId} {size n c : Nat} {A : Option Addr} {xs : List Value} (hk : Kept (Value.slice A n c).ownBlock.toList w w') (ho : Own w e size (.slice A n c) n xs) (hB : ∀ a, A = some a → B ≤ a.block) (he : e ∈ T) : Mod T M B w w' := .of_kept hk fun x hx _ => by
  have hb := (own_block A n c x).1 (by simpa using hx)
  refine ⟨?_, .inl (own_typ ho hb he)⟩
  cases A with
  | none => simp at hb
  | some a => simp at hb; subst hb; exact hB a rfl
theorem own_ne {w : World} {e t : TypeId} {size n c k g : Nat} {A : Option Addr} {xs : List Value} {cs : Array Value} (ho : Own w e size (.slice A n c) k xs) (h : Blk w g t cs) (hte : t ≠ e) : g ∉ (Value.slice A n c).ownBlock.toList := fun hx => by
  obtain ⟨_, cs', h2⟩ := ho.blk g (by simpa using hx)
  unfold Blk at h
  rw [h] at h2
  injection h2 with h2
  injection h2 with _ h3 _
  exact hte h3
theorem own_old {w : World} {e : TypeId} {size n c k g : Nat} {A : Option Addr} {xs : List Value} (ho : Own w e size (.slice A n c) k xs) (h : w.heap.size ≤ g) : g ∉ (Value.slice A n c).ownBlock.toList := fun hx => by
  have := (ho.blk g (by simpa using hx)).1
  omega
end Go.Hub
namespace Go.Hub
open Go.RowKit
theorem Mod.of_own1 {T : List TypeId} {M : List Nat} {B : Nat} {w w' : World} {e : TypeId} {size n c b off k : Nat} {A : Option Addr} {xs : List Value} (hA : A = some ⟨b, off, none⟩) (hk : Kept [b] w w') (ho : Own w e size (.slice A n c) k xs) (hB : ∀ a, A = some a → B ≤ a.block) (he : e ∈ T) : Mod T M B w w' := .of_kept hk fun x hx _ => by
  obtain rfl := List.mem_singleton.1 hx
  exact ⟨hB _ hA, .inl (own_typ ho (by rw [hA]; rfl) he)⟩
section
variable {P : Program} {ops : Array Oper} {rest : List Oper} {a : Act} {w : World} {Q : Exit → Act → World → Prop} {n d : Nat} {l : FL} {v : Value} {ty : TypeId} {ps : String} {af : Array Edge} {gd : Option (Nat × Bool)} {x y : Operand} {t : TypeId}
theorem L.storeO (f : Fr n a l) (hw : Region.wanted ⟨none, .store t x y, ty, ps, af, gd⟩ (yielded ops a.tmps) = true) (hi : (P.info? t).map (·.size) = some 1) {b off o j : Nat} {e : TypeId} {size k c : Nat} {A : Option Addr} {xs : List Value} (hA : A = some ⟨b, off, none⟩) (O : Own w e size (.slice A k c) k xs) (hx : evl l x = some (.pointer (some ⟨b, o, none⟩))) (ho : o = off + j) (hj : j < xs.length) (hy : evl l y = some v) (h1 : v.oneCell' = true)
    (hK : ∀ a' w', Fr n a' l → Own w' e size (.slice A k c) k (xs.set j v) → Kept [b] w w' → wpList P ops Q rest a' w') : wpList P ops Q (⟨none, .store t x y, ty, ps, af, gd⟩ :: rest) a w := by
  subst ho
  obtain ⟨⟨old, h2⟩, h3, h4⟩ := O.set_ hA hj v
  exact L.act f hw rfl (E.store f hi hx hy h1 h2 h3) fun a' f' => hK a' _ f' h4 (setCell_kept w b _ v)
end
section
variable {M : Type} (cell : M → List Value) (size : Nat) (hs : ∀ m, (cell m).length = size)
include hs
theorem flat_take : ∀ (l : List M) (i : Nat), (l.take i).flatMap cell = (l.flatMap cell).take (i * size)
  | [], i => by simp
  | a :: r, 0 => by simp
  | a :: r, i + 1 => by
    have h1 : (cell a).length ≤ (i + 1) * size := by rw [hs, Nat.add_mul]; omega
    have h2 : (i + 1) * size - (cell a).length = i * size := by rw [hs, Nat.add_mul]; omega
    rw [List.take_succ_cons, List.flatMap_cons, List.flatMap_cons, flat_take r i, List.take_append, h2, List.take_of_length_le h1]
theorem flat_drop : ∀ (l : List M) (i : Nat), (l.drop i).flatMap cell = (l.flatMap cell).drop (i * size)
  | [], i => by simp
  | a :: r, 0 => by simp
  | a :: r, i + 1 => by
    have h1 : (cell a).length ≤ (i + 1) * size := by rw [hs, Nat.add_mul]; omega
    have h2 : (i + 1) * size - (cell a).length = i * size := by rw [hs, Nat.add_mul]; omega
    rw [List.drop_succ_cons, List.flatMap_cons, flat_drop r i, List.drop_append, h2, List.drop_of_length_le h1, List.nil_append]
end
end Go.Hub
namespace Go.Hub
open Go.RowKit
section
variable {P : Program} {ops : Array Oper} {a : Act} {w : World} {Q : Exit → Act → World → Prop} {n d : Nat} {l : FL} {v : Value} {ty : TypeId} {ps : String} {af : Array Edge} {gd : Option (Nat × Bool)} {x y : Operand} {t k e : TypeId} {Sw : World → Prop} {K : Act → World → Prop} {m : Nat} {S : List Int}
theorem O.drop {i : Nat} {o : Oper} {w' : World} (f : Fr n a l) (hi : ops[i]? = some o) (hd : o.dst = none) (hw : Region.wanted o (yielded ops a.tmps) = true)
    (hv : (execOp a.eval o).run P w = .ok (.value v) w') (hS : Sw w') (hK : ∀ a', Fr n a' l → K a' w') : wpOp P ops Q i (fun a w => Sw w ∧ K a w) a w := by
  unfold wpOp
  simp only [hi, hw, if_true]
  refine .inl ?_
  unfold Oper.wp
  rw [hv]
  show Sw w' ∧ K (a.put o.dst v) w'
  rw [hd]
  exact ⟨hS, hK _ f⟩
theorem O.mapDrop {q : Nat} (f : Fr n a l) (ho : ops[q]? = some ⟨none, .call { callee := .builtin .delete, args := #[x, y], argTypes := #[t, k] }, ty, ps, af, gd⟩) (hw : Region.wanted ⟨none, .call { callee := .builtin .delete, args := #[x, y], argTypes := #[t, k] }, ty, ps, af, gd⟩ (yielded ops a.tmps) = true) (h : IsSet P k e w m S) (hk : P.underlying k = some (.int .i64)) (ht : P.underlying t = some (.map k e)) {i : Int} (hx : evl l x = some (.map (some m))) (hy : evl l y = some (.int .i64 i)) (hi : (Lit.int .i64 i).wf = true)
    (hSw : ∀ w', Kept [m] w w' → Sw w') (hK : ∀ a' w', IsSet P k e w' m (S.erase i) → Kept [m] w w' → Fr n a' l → K a' w') : wpOp P ops Q q (fun a w => Sw w ∧ K a w) a w := by
  obtain ⟨w', hrun, r1, r2⟩ := h.drop hk ht hi ty
  exact O.drop f ho rfl hw (E.mapDrop f hx hy hrun) (hSw w' r2) fun a' f' => hK a' w' r1 r2 f'
end
end Go.Hub
namespace Go.Hub
open Go.RowKit
section
variable {P : Program} (w : World)
theorem append_fit (t ty e : TypeId) (i : TypeInfo) (size : Nat) (ht : P.underlying t = some (.slice e)) (hi : P.info? e = some i) (hsize : i.size = size) (g off n cap k : Nat) (xs : List Value) (hown : Own w e size (.slice (some ⟨g, off, none⟩) n cap) n xs)
    (B : Nat) (A : Option Addr) (m c : Nat) (news : List Value) (hr : Rds w B size A m news) (h1 : ∀ u ∈ news, u.oneCell' = true) (hk : n + m = k) (hroom : k ≤ cap) :
    ∃ w', (Builtin.append_ #[t, t] ty #[.slice (some ⟨g, off, none⟩) n cap, .slice A m c]).run P w = .ok (.slice (some ⟨g, off, none⟩) k cap) w' ∧ Own w' e size (.slice (some ⟨g, off, none⟩) k cap) k (xs ++ news) ∧ Kept [g] w w' := by
  subst hk
  have hown0 := hown
  rcases hown.2 with ⟨hv, _⟩ | ⟨g', off', cap', cur, hv, hg, hnc, hcm, hcs, hc⟩
  · cases hv
  injection hv with e1 e2 e3
  injection e1 with e1
  injection e1 with e4 e5
  subst e4 e5 e3
  rcases A with _ | ad
  · have hm : m = 0 := by
      rcases Nat.eq_zero_or_pos m with h0 | h0
      · exact h0
      · obtain ⟨b, off, h, _⟩ := hr.2 h0
        cases h
    subst hm
    have hn : news = [] := List.eq_nil_of_length_eq_zero (by simpa using hr.1)
    subst hn
    refine ⟨w, ?_, by simpa using hown0, Kept.refl _ _⟩
    simp [Builtin.append_, run_underlying ht, sizeOf, typeInfo, hi, Builtin.lenOf, Builtin.firstCells, hnc, storeCells]
  · have hnews : ∀ j u, news[j]? = some u → w.cell? (ad.add j) = some u := by
      intro j u hu
      rcases Nat.eq_zero_or_pos m with h0 | h0
      · subst h0
        have hn : news = [] := List.eq_nil_of_length_eq_zero (by simpa using hr.1)
        subst hn
        simp at hu
      · obtain ⟨b, off, h, _, hcc⟩ := hr.2 h0
        injection h with h
        subst h
        rw [add_none]
        exact hcc j u hu
    have hlen : news.length = m * size := hr.1
    have hmul : n * size + m * size ≤ cap * size := by rw [← Nat.add_mul]; exact Nat.mul_le_mul_right _ hroom
    subst hsize
    have hcell : ∀ j, j < news.length → w.cell? ⟨g, off + n * i.size + j, none⟩ = cur[off + n * i.size + j]? := fun j hj => cell_of_row w g _ cur e (0, 0) hg
    have hrun := run_append_room_cells (P := P) w t ty e i ht hi g off n cap ad m c news hlen hnews h1 hroom
      (fun j hj => by rw [hcell j hj, Array.getElem?_eq_getElem (by omega)]; rfl) (fun j hj => by simp [World.frozen?, hg])
    obtain ⟨cur', a1, a2, a3, a4⟩ := setCells_block g news (off + n * i.size) w cur e (0, 0) hg
    obtain ⟨b1, b2, b3, b4⟩ := setCells_facts g news (off + n * i.size) w
    refine ⟨_, hrun, ⟨by rw [List.length_append, hown.1, hlen, Nat.add_mul], .inr ⟨g, off, cap, cur', rfl, a1, hroom, hcm, by omega, fun j u hu => ?_⟩⟩,
      ⟨b1, b2, b3, by omega, fun k hk hn => setCells_other g _ _ w k (by simpa using hn)⟩⟩
    rcases Nat.lt_or_ge j xs.length with hj | hj
    · rw [List.getElem?_append_left hj] at hu
      rw [a3 _ (by have := hown.1; omega)]
      exact hc j u hu
    · rw [List.getElem?_append_right hj] at hu
      have hj2 : j - xs.length < news.length := by
        rcases Nat.lt_or_ge (j - xs.length) news.length with h | h
        · exact h
        · rw [List.getElem?_eq_none h] at hu; cases hu
      have := a4 (j - xs.length) u hu (by have := hown.1; omega)
      rw [show off + n * i.size + (j - xs.length) = off + j from by have := hown.1; omega] at this
      exact this
theorem wp_append_fit {o : Oper} {a : Act} {K : Act → World → Prop} {Q : Exit → Act → World → Prop} (s x : Operand) (t : TypeId)
    (ho : o.op = .call { callee := .builtin .append, args := #[s, x], argTypes := #[t, t] })
    (e : TypeId) (i : TypeInfo) (size : Nat) (ht : P.underlying t = some (.slice e)) (hi : P.info? e = some i) (hsize : i.size = size) (g off n cap k : Nat) (xs : List Value) (hs : a.eval s = .slice (some ⟨g, off, none⟩) n cap)
    (hown : Own w e size (.slice (some ⟨g, off, none⟩) n cap) n xs)
    (B : Nat) (A : Option Addr) (m c : Nat) (news : List Value) (hx : a.eval x = .slice A m c) (hr : Rds w B size A m news) (h1 : ∀ u ∈ news, u.oneCell' = true) (hk : n + m = k) (hroom : k ≤ cap)
    (h : ∀ w', Own w' e size (.slice (some ⟨g, off, none⟩) k cap) k (xs ++ news) → Kept [g] w w' → K (a.put o.dst (.slice (some ⟨g, off, none⟩) k cap)) w') : o.wp P a w K Q := by
  obtain ⟨w', hrun, h2, h3⟩ := append_fit (P := P) w t o.type e i size ht hi hsize g off n cap k xs hown B A m c news hr h1 hk hroom
  unfold Oper.wp execOp
  simp only [ho, resolve, invoke, builtin, Sem.run_bind, Sem.run_pure, Result.andThen_ok, List.map_toArray, List.map_cons, List.map_nil, hs, hx, hrun]
  exact h w' h2 h3
theorem step_append_fit {ops : Array Oper} {o : Oper} {a : Act} {K : Act → World → Prop} {Q : Exit → Act → World → Prop} {E : Prop} (hgd : o.guard = none) (s x : Operand) (t : TypeId)
    (ho : o.op = .call { callee := .builtin .append, args := #[s, x], argTypes := #[t, t] })
    (e : TypeId) (i : TypeInfo) (size : Nat) (ht : P.underlying t = some (.slice e)) (hi : P.info? e = some i) (hsize : i.size = size) (g off n cap k : Nat) (xs : List Value) (hs : a.eval s = .slice (some ⟨g, off, none⟩) n cap)
    (hown : Own w e size (.slice (some ⟨g, off, none⟩) n cap) n xs)
    (B : Nat) (A : Option Addr) (m c : Nat) (news : List Value) (hx : a.eval x = .slice A m c) (hr : Rds w B size A m news) (h1 : ∀ u ∈ news, u.oneCell' = true) (hk : n + m = k) (hroom : k ≤ cap)
    (h : ∀ w', Own w' e size (.slice (some ⟨g, off, none⟩) k cap) k (xs ++ news) → Kept [g] w w' → K (a.put o.dst (.slice (some ⟨g, off, none⟩) k cap)) w') :
    if Region.wanted o (yielded ops a.tmps) = true then Oper.wp P o a w K Q else E := by
  have hw : Region.wanted o (yielded ops a.tmps) = true := by simp [Region.wanted, hgd]
  rw [if_pos hw]
  exact wp_append_fit w s x t ho e i size ht hi hsize g off n cap k xs hs hown B A m c news hx hr h1 hk hroom h
theorem run_clear_one (t e ty : TypeId) (z : Value) (ht : P.underlying t = some (.slice e)) (hv : ∀ w, (zeroValue e).run P w = .ok z w) (h1 : ∀ u ∈ z.cells.toList, u.oneCell' = true) (b o c : Nat)
    (hc : ∀ j, j < z.cells.size → (w.cell? ⟨b, o + j, none⟩).isSome = true) (hf : ∀ j, j < z.cells.size → w.frozen? ⟨b, o + j, none⟩ = false) :
    (Builtin.clear_ #[t] ty #[.slice (some ⟨b, o, none⟩) 1 c]).run P w = .ok (.tuple #[]) (w.setCells b o z.cells.toList) := by
  have hzc : (Builtin.zeroCells z.cells 1).toList = z.cells.toList := by
    simp only [Builtin.zeroCells, Nat.one_mul]
    apply List.ext_getElem
    · simp
    · intro i h1 h2
      simp at h2
      simp [Nat.mod_eq_of_lt h2, h2]
  have hst := run_storeCells_cells (P := P) b o z.cells.toList 0 w (by simpa using hc) (by simpa using hf) h1
  simp only [Nat.add_zero] at hst
  simp [Builtin.clear_, run_underlying ht, hv, hzc, hst]
end
section
variable {w : World} {e : TypeId} {size n c g off : Nat} {xs : List Value}
theorem Own.past (h : Own w e size (.slice (some ⟨g, off, none⟩) n c) n xs) {o : Nat} (ho : off + n * size ≤ o) (vs : List Value) :
    Own (w.setCells g o vs) e size (.slice (some ⟨g, off, none⟩) n c) n xs ∧ Kept [g] w (w.setCells g o vs) := by
  obtain ⟨b1, b2, b3, b4⟩ := setCells_facts g vs o w
  have K : Kept [g] w (w.setCells g o vs) := ⟨b1, b2, b3, by omega, fun k hk hn => setCells_other g _ _ w k (by simpa using hn)⟩
  refine ⟨⟨h.1, ?_⟩, K⟩
  rcases h.2 with ⟨hv, _⟩ | ⟨g', off', cap', cur, hv, hg, hnc, hcm, hcs, hc⟩
  · cases hv
  injection hv with e1 e2 e3
  injection e1 with e1
  injection e1 with e4 e5
  subst e4 e5 e3
  obtain ⟨cur', a1, a2, a3, a4⟩ := setCells_block g vs o w cur e (0, 0) hg
  refine .inr ⟨g, off, c, cur', rfl, a1, hnc, hcm, by omega, fun j u hu => ?_⟩
  have hj : j < xs.length := (List.getElem?_eq_some_iff.1 hu).1
  rw [a3 _ (by have := h.1; omega)]
  exact hc j u hu
theorem Own.room (h : Own w e size (.slice (some ⟨g, off, none⟩) n c) n xs) {j : Nat} (hj : j < c * size) : (w.cell? ⟨g, off + j, none⟩).isSome = true ∧ w.frozen? ⟨g, off + j, none⟩ = false := by
  rcases h.2 with ⟨hv, _⟩ | ⟨g', off', cap', cur, hv, hg, hnc, hcm, hcs, hc⟩
  · cases hv
  injection hv with e1 e2 e3
  injection e1 with e1
  injection e1 with e4 e5
  subst e4 e5 e3
  rw [cell_of_row w g _ cur e (0, 0) hg, Array.getElem?_eq_getElem (by omega)]
  exact ⟨rfl, by simp [World.frozen?, hg]⟩
end
end Go.Hub
namespace Go.Hub
open Go.RowKit Go.Lib
section
variable {P : Program} {ops : Array Oper} {rest : List Oper} {a : Act} {w : World} {Q : Exit → Act → World → Prop} {n d : Nat} {l : FL} {ty : TypeId} {ps : String} {af : Array Edge} {gd : Option (Nat × Bool)} {x y : Operand} {t u : TypeId}
theorem Sl.bs {A : Option Addr} {m : Nat} {b : List UInt8} (h : Sl w A m 1 (b.map u8)) : Bs [] w.heap.size w A m b := by
  refine ⟨by have := h.1; simpa using this, fun h0 => ?_⟩
  obtain ⟨g, off, e, hb, hc⟩ := h.2 h0
  exact ⟨g, off, e, hb, .inl hb, fun i x hx => hc i _ (by simp [hx])⟩
theorem E.toStr {dst : Option Nat} (f : Fr n a l) {A : Option Addr} {m c : Nat} {b : List UInt8} {e : TypeId} (hx : evl l x = some (.slice A m c)) (ht : P.underlying t = some (.slice e)) (he : P.underlying e = some (.int .u8)) (hu : P.underlying u = some .string) (h : Sl w A m 1 (b.map u8)) :
    (execOp a.eval ⟨dst, .convert t u x, ty, ps, af, gd⟩).run P w = .ok (.value (.string ⟨b.toArray⟩)) w := E.convV f hx (h.bs.conv ht he hu)
end
end Go.Hub
namespace Go.Hub
open Go.RowKit
section
variable {P : Program} {a : Act} {w : World} {n : Nat} {l : FL} {dst : Option Nat} {ty : TypeId} {ps : String} {af : Array Edge} {g : Option (Nat × Bool)} {x : Operand} {t : TypeId}
theorem E.fieldAddrN (off : Nat) (f : Fr n a l) {fs : Array Field} {i : Nat} {fld : Field} {b o s : Nat} (ht : P.underlying t = some (.struct fs)) (hx : evl l x = some (.pointer (some ⟨b, o, none⟩))) (hi : fs[i]? = some fld) (ho : fld.offset = off)
    (hs : (P.info? fld.type).map (·.size) = some (s + 1)) : (execOp a.eval ⟨dst, .fieldAddr t x i, ty, ps, af, g⟩).run P w = .ok (.value (.pointer (some ⟨b, o + off, none⟩))) w := by
  subst ho
  exact E.fieldAddr f ht hx hi hs
end
def gd (ops : Array Oper) (l : FL) : Option (Nat × Bool) → Option Bool
  | none => some true
  | some (j, b) => match (ops[j]?).bind (·.dst) with
    | none => none
    | some dj => match look l dj with
      | some (.bool c) => some (c == b)
      | some (.tuple _) => some false
      | _ => none
def simpleOp (l : FL) : Op → Option Value
  | .move x => evl l x
  | .assign x => evl l x
  | .pick c x y => match evl l c with
    | some (.bool true) => evl l x
    | some (.bool false) => evl l y
    | _ => none
  | .unOp .not _ x => match evl l x with
    | some (.bool true) => some (.bool false)
    | some (.bool false) => some (.bool true)
    | _ => none
  | _ => none
def stepS (ops : Array Oper) (n : Nat) (l : FL) (o : Oper) : Option FL :=
  match gd ops l o.guard with
  | none => none
  | some false => match o.dst with
    | none => some l
    | some d => bif Nat.blt d n then some ((d, undef) :: l) else none
  | some true => match simpleOp l o.op, o.dst with
    | some v, some d => bif Nat.blt d n then some ((d, v) :: l) else none
    | _, _ => none
def runS (ops : Array Oper) (n : Nat) : FL → List Oper → FL × List Oper
  | l, [] => (l, [])
  | l, o :: r => match stepS ops n l o with
    | some l' => runS ops n l' r
    | none => (l, o :: r)
section
variable {P : Program} {ops : Array Oper} {a : Act} {w : World} {Q : Exit → Act → World → Prop} {n : Nat} {l l' : FL} {o : Oper} {rest : List Oper}
theorem gd_spec (f : Fr n a l) {c : Bool} (h : gd ops l o.guard = some c) : Region.wanted o (yielded ops a.tmps) = c := by
  unfold gd at h
  unfold Region.wanted
  cases hg : o.guard with
  | none => rw [hg] at h; simpa using h
  | some p =>
    obtain ⟨j, b⟩ := p
    rw [hg] at h
    simp only at h ⊢
    cases hj : (ops[j]?).bind (·.dst) with
    | none => rw [hj] at h; cases h
    | some dj =>
      rw [hj] at h
      simp only at h
      split at h
      · rename_i c' hc
        rw [f.yield hj hc]
        simp at h
        rw [← h]
        simp
      · rename_i hc
        have hy : yielded ops a.tmps j = none := by
          unfold yielded
          rw [hj]
          simp [f.slot dj _ hc]
        rw [hy]
        simp at h
        simp [h]
      · cases h
theorem simpleOp_spec (f : Fr n a l) {v : Value} (h : simpleOp l o.op = some v) : (execOp a.eval o).run P w = .ok (.value v) w := by
  obtain ⟨dst, op, ty, ps, af, g⟩ := o
  simp only at h
  unfold simpleOp at h
  split at h
  · exact E.move f h
  · exact E.assign f h
  · rename_i c x y
    split at h
    · rename_i hc
      exact E.pickT f hc h
    · rename_i hc
      exact E.pickF f hc h
    · cases h
  · rename_i t x
    split at h
    · rename_i hc
      simp at h
      subst h
      exact E.not f hc
    · rename_i hc
      simp at h
      subst h
      exact E.not f hc
    · cases h
  · cases h
theorem L.stepRun (f : Fr n a l) (h : Go.Hub.stepS ops n l o = some l') (hK : ∀ a', Fr n a' l' → wpList P ops Q rest a' w) : wpList P ops Q (o :: rest) a w := by
  unfold Go.Hub.stepS at h
  split at h
  · cases h
  · rename_i hg
    have hw := gd_spec f hg
    split at h
    · rename_i hd
      cases h
      exact L.skipN f hw hd fun a' f' => hK a' f'
    · rename_i d hd
      cases hb : Nat.blt d n
      · rw [hb] at h; cases h
      · rw [hb] at h
        cases h
        exact L.skip f hw hd (by simpa [Nat.blt_eq] using hb) fun a' f' => hK a' f'
  · rename_i hg
    have hw := gd_spec f hg
    split at h
    · rename_i v d hv hd
      cases hb : Nat.blt d n
      · rw [hb] at h; cases h
      · rw [hb] at h
        cases h
        exact L.val f hw hd (by simpa [Nat.blt_eq] using hb) (simpleOp_spec f hv) fun a' f' => hK a' f'
    · cases h
theorem L.runAll : ∀ (rest : List Oper) (l : FL) (a : Act), Fr n a l → (∀ a', Fr n a' (runS ops n l rest).1 → wpList P ops Q (runS ops n l rest).2 a' w) → wpList P ops Q rest a w
  | [], l, a, f, hK => hK a f
  | o :: r, l, a, f, hK => by
    unfold runS at hK
    cases hs : Go.Hub.stepS ops n l o with
    | none =>
      rw [hs] at hK
      exact hK a f
    | some l' =>
      rw [hs] at hK
      exact L.stepRun f hs fun a' f' => L.runAll r l' a' f' hK
theorem L.run (f : Fr n a l) {rest' : List Oper} (h : (runS ops n l rest).2 = rest') (hK : ∀ a', Fr n a' (runS ops n l rest).1 → wpList P ops Q rest' a' w) : wpList P ops Q rest a w :=
  L.runAll rest l a f (by rw [h]; exact hK)
def dstIn (i : Nat) : List Oper → Bool
  | [] => false
  | o :: r => (match o.dst with | some d => Nat.beq d i | none => false) || dstIn i r
theorem runS_look (i : Nat) : ∀ (rest : List Oper) (l : FL), dstIn i rest = false → look (runS ops n l rest).1 i = look l i
  | [], l, _ => rfl
  | o :: r, l, h => by
    unfold dstIn at h
    rw [Bool.or_eq_false_iff] at h
    unfold runS
    cases hs : Go.Hub.stepS ops n l o with
    | none => rfl
    | some l' =>
      show look (runS ops n l' r).1 i = look l i
      rw [runS_look i r l' h.2]
      have key : ∀ d v, o.dst = some d → look ((d, v) :: l) i = look l i := fun d v hd => by
        have h1 := h.1
        rw [hd] at h1
        have hne : ¬ d = i := fun e => by
          subst e
          simp at h1
        have hb : (d == i) = false := by simp [hne]
        simp [look, hb]
      unfold Go.Hub.stepS at hs
      split at hs
      · cases hs
      · split at hs
        · cases hs; rfl
        · rename_i d hd
          cases hb : Nat.blt d n
          · rw [hb] at hs; cases hs
          · rw [hb] at hs; cases hs; exact key _ _ hd
      · split at hs
        · rename_i v d hv hd
          cases hb : Nat.blt d n
          · rw [hb] at hs; cases hs
          · rw [hb] at hs; cases hs; exact key _ _ hd
        · cases hs
theorem Fr.kept (f : Fr n a (runS ops n l rest).1) {i : Nat} {v : Value} (hd : dstIn i rest = false) (h : look l i = some v) : look (runS ops n l rest).1 i = some v := (runS_look i rest l hd).trans h
end
end Go.Hub
namespace Go.Hub
open Go.RowKit
def runD (md : Region.Mode) (ops : Array Oper) (n : Nat) : List Nat → FL → Array Bool → FL × Array Bool × Bool
  | [], l, listed => (l, listed, true)
  | i :: r, l, listed => match ops[i]? with
    | none => (l, listed, false)
    | some o => match o.dst, stepS ops n l o with
      | some _, some l' => bif Region.free md ops listed i && (Region.ready md ops listed).contains i then runD md ops n r l' (listed.setIfInBounds i true) else (l, listed, false)
      | _, _ => (l, listed, false)
section
variable {P : Program} {ops : Array Oper} {Q : Exit → Act → World → Prop} {md : Region.Mode} {S : World → Prop} {a : Act} {w : World} {n : Nat} {l : FL}
theorem R.runAll (hs : Region.noSelect ops = true) (hQ : ∀ c (a : Act) (x : Nat × Value) w, Q (.panic c) (a.put (some x.1) x.2) w → Q (.panic c) a w) (hS : S w) {fuel : Nat} : ∀ (is : List Nat) (l : FL) (listed : Array Bool) (a : Act), Fr n a l → (runD md ops n is l listed).2.2 = true →
    (∀ a', Fr n a' (runD md ops n is l listed).1 → wpAnyH P md ops Q S fuel (runD md ops n is l listed).2.1 a' w) → wpAnyH P md ops Q S (fuel + is.length) listed a w
  | [], l, listed, a, f, _, hK => hK a f
  | i :: r, l, listed, a, f, hd, hK => by
    unfold runD at hd hK
    cases ho : ops[i]? with
    | none => simp only [ho] at hd; cases hd
    | some o =>
      simp only [ho] at hd hK
      cases hdst : o.dst with
      | none => simp only [hdst] at hd; cases hd
      | some d =>
        cases hst : stepS ops n l o with
        | none => simp only [hdst, hst] at hd; cases hd
        | some l' =>
          simp only [hdst, hst] at hd hK
          cases hc : Region.free md ops listed i && (Region.ready md ops listed).contains i
          · simp only [hc] at hd; cases hd
          · simp only [hc, cond_true] at hd hK
            have hc' : Region.free md ops listed i = true ∧ (Region.ready md ops listed).contains i = true := by simpa using hc
            rw [List.length_cons, ← Nat.add_assoc]
            unfold stepS at hst
            split at hst
            · cases hst
            · rename_i hg
              rw [hdst] at hst
              simp only at hst
              cases hb : Nat.blt d n
              · rw [hb] at hst; cases hst
              · rw [hb] at hst
                cases hst
                exact R.takeSkip i f ho hdst (by simpa [Nat.blt_eq] using hb) hs hc'.1 hc'.2 (fun c a u w => hQ c a (d, u) w) (gd_spec f hg) hS fun a' f' => R.runAll hs hQ hS r _ _ a' f' hd hK
            · rename_i hg
              rw [hdst] at hst
              cases hv : simpleOp l o.op with
              | none => simp [hv] at hst
              | some v =>
                simp only [hv] at hst
                cases hb : Nat.blt d n
                · rw [hb] at hst; cases hst
                · rw [hb] at hst
                  cases hst
                  exact R.take i f ho hdst (by simpa [Nat.blt_eq] using hb) hs hc'.1 hc'.2 (fun c a u w => hQ c a (d, u) w) (gd_spec f hg) hS (fun w _ => simpleOp_spec f hv) fun a' f' => R.runAll hs hQ hS r _ _ a' f' hd hK
def dstInD (ops : Array Oper) (i : Nat) : List Nat → Bool
  | [] => false
  | j :: r => (match (ops[j]?).bind (·.dst) with | some d => Nat.beq d i | none => false) || dstInD ops i r
theorem stepS_look {o : Oper} {l' : FL} {i d : Nat} (hs : stepS ops n l o = some l') (hd : o.dst = some d) (hi : Nat.beq d i = false) : look l' i = look l i := by
  have key : ∀ v, look ((d, v) :: l) i = look l i := fun v => by
    have hne : ¬ d = i := fun e => by subst e; simp at hi
    have hb : (d == i) = false := by simp [hne]
    simp [look, hb]
  unfold stepS at hs
  split at hs
  · cases hs
  · rw [hd] at hs
    simp only at hs
    cases hb : Nat.blt d n
    · rw [hb] at hs; cases hs
    · rw [hb] at hs; cases hs; exact key _
  · rw [hd] at hs
    cases hv : simpleOp l o.op with
    | none => simp [hv] at hs
    | some v =>
      simp only [hv] at hs
      cases hb : Nat.blt d n
      · rw [hb] at hs; cases hs
      · rw [hb] at hs; cases hs; exact key _
theorem runD_look (i : Nat) : ∀ (is : List Nat) (l : FL) (listed : Array Bool), dstInD ops i is = false → look (runD md ops n is l listed).1 i = look l i
  | [], l, listed, _ => rfl
  | j :: r, l, listed, h => by
    unfold dstInD at h
    rw [Bool.or_eq_false_iff] at h
    unfold runD
    cases ho : ops[j]? with
    | none => rfl
    | some o =>
      simp only
      cases hdst : o.dst with
      | none => rfl
      | some d =>
        cases hst : stepS ops n l o with
        | none => rfl
        | some l' =>
          simp only
          cases hc : Region.free md ops listed j && (Region.ready md ops listed).contains j
          · rfl
          · simp only [cond_true]
            rw [runD_look i r l' _ h.2]
            have h1 := h.1
            rw [ho] at h1
            simp only [Option.bind_some, hdst] at h1
            exact stepS_look hst hdst h1
theorem R.run (is : List Nat) {listed : Array Bool} (listed' : Array Bool) {fuel : Nat} (f : Fr n a l) (hs : Region.noSelect ops = true) (hQ : ∀ c (a : Act) (x : Nat × Value) w, Q (.panic c) (a.put (some x.1) x.2) w → Q (.panic c) a w) (hS : S w)
    (h : ((runD md ops n is l listed).2.2 && ((runD md ops n is l listed).2.1 == listed')) = true) (hK : ∀ a', Fr n a' (runD md ops n is l listed).1 → wpAnyH P md ops Q S fuel listed' a' w) : wpAnyH P md ops Q S (fuel + is.length) listed a w := by
  rw [Bool.and_eq_true] at h
  refine R.runAll hs hQ hS is l listed a f h.1 ?_
  rw [eq_of_beq h.2]
  exact hK
theorem Fr.keptD {is : List Nat} {listed : Array Bool} (f : Fr n a (runD md ops n is l listed).1) {i : Nat} {v : Value} (hd : dstInD ops i is = false) (h : look l i = some v) : look (runD md ops n is l listed).1 i = some v := (runD_look i is l listed hd).trans h
end
end Go.Hub
namespace Go.Hub
open Go.RowKit
section
variable {P : Program} {ops : Array Oper} {Q : Exit → Act → World → Prop} {md : Region.Mode} {S : World → Prop} {a : Act} {w w' : World} {n d : Nat} {l : FL} {v : Value} {o : Oper} {K : Act → World → Prop}
theorem O.call {i : Nat} (f : Fr n a l) (hi : ops[i]? = some o) (hd : o.dst = some d) (hn : d < n) (hw : Region.wanted o (yielded ops a.tmps) = true)
    {fn : Nat} {args : Array Value} (h : (execOp a.eval o).run P w = .ok (.enter fn args) w) {R : Ending → World → Prop} (hc : Calls P fn args w R)
    (hR : ∀ e w', R e w' → ∃ v, e = .returned v ∧ S w' ∧ ∀ a', Fr n a' ((d, v) :: l) → K a' w') : wpOp P ops Q i (fun a w => S w ∧ K a w) a w := by
  unfold wpOp
  simp only [hi, hw, if_true]
  refine .inl ?_
  unfold Oper.wp
  rw [h]
  refine Calls.mono hc ?_
  intro e w' hr
  obtain ⟨v, rfl, hS, hK⟩ := hR e w' hr
  show S w' ∧ K (a.put o.dst v) w'
  rw [hd]
  exact ⟨hS, hK _ (f.put d v hn)⟩
end
end Go.Hub
namespace Go.Hub
open Go.RowKit
section
variable {P : Program} {ops : Array Oper} {rest : List Oper} {o : Oper} {a : Act} {w w' w'' : World} {Q : Exit → Act → World → Prop} {n d : Nat} {l : FL} {v : Value}
theorem L.va (f : Fr n a l) (h : (execOp a.eval o).run P w = .ok (.value v) w') (hK : ∀ a', Fr n a' ((d, v) :: l) → wpList P ops Q rest a' w')
    (hw : Region.wanted o (yielded ops a.tmps) = true := by exact wantedN) (hd : o.dst = some d := by rfl) (hn : d < n := by decide) : wpList P ops Q (o :: rest) a w := L.val f hw hd hn h hK
theorem L.sk (f : Fr n a l) (hw : Region.wanted o (yielded ops a.tmps) = false) (hK : ∀ a', Fr n a' ((d, undef) :: l) → wpList P ops Q rest a' w) (hd : o.dst = some d := by rfl) (hn : d < n := by decide) : wpList P ops Q (o :: rest) a w := L.skip f hw hd hn hK
theorem L.cl (f : Fr n a l) {fn : Nat} {args : Array Value} (h : (execOp a.eval o).run P w = .ok (.enter fn args) w) {R : Ending → World → Prop} (hc : Calls P fn args w R)
    (hR : ∀ e w', R e w' → ∃ v, e = .returned v ∧ ∀ a', Fr n a' ((d, v) :: l) → wpList P ops Q rest a' w') (hw : Region.wanted o (yielded ops a.tmps) = true := by exact wantedN) (hd : o.dst = some d := by rfl) (hn : d < n := by decide) : wpList P ops Q (o :: rest) a w := L.call f hw hd hn h hc hR
theorem sn {l : FL} : Go.Hub.sub l [] := trivial
theorem sc (i : Nat) {l : FL} {v : Value} {r : FL} (h' : Go.Hub.sub l r) (h : look l i = some v := by rfl) : Go.Hub.sub l ((i, v) :: r) := ⟨h, h'⟩
theorem then_of {J : Act → World → Prop} (h : J a w) : Exit.then J Q .normal a w := h
theorem Kept.nn {L : List Nat} {g : Nat} (h : Kept L w w') (k : Kept [g] w' w'') (hg : w.heap.size ≤ g) : Kept L w w'' := h.trans k fun x hx hlt => by
  obtain rfl := List.mem_singleton.1 hx
  omega
theorem Kept.z {L : List Nat} (h : Kept L w w') (k : Kept [] w' w'') : Kept L w w'' := h.trans k (by simp)
theorem Blk.z {g : Nat} {t : TypeId} {cs : Array Value} (h : Blk w g t cs) (k : Kept [] w w') : Blk w' g t cs := h.kept k (by simp)
theorem Blk.oo {g x : Nat} {t : TypeId} {cs : Array Value} (h : Blk w g t cs) (k : Kept [x] w w') (hx : g ≠ x := by omega) : Blk w' g t cs := h.kept k (by simpa using hx)
end
section
variable {P : Program} {ops : Array Oper} {Q : Exit → Act → World → Prop} {md : Region.Mode} {S : World → Prop} {a : Act} {w w' : World} {n d : Nat} {l : FL} {v : Value} {o : Oper}
theorem R.t (i : Nat) {fuel : Nat} {listed : Array Bool} (f : Fr n a l) (hi : ops[i]? = some o) (hS : S w) (hv : ∀ w, S w → (execOp a.eval o).run P w = .ok (.value v) w)
    (hK : ∀ a', Fr n a' ((d, v) :: l) → wpAnyH P md ops Q S fuel (listed.setIfInBounds i true) a' w) (hw : Region.wanted o (yielded ops a.tmps) = true := by exact wantedN) (hd : o.dst = some d := by rfl) (hn : d < n := by decide)
    (hs : Region.noSelect ops = true := by kernel_rfl) (hf : Region.free md ops listed i = true := by kernel_rfl) (hr : (Region.ready md ops listed).contains i = true := by kernel_rfl)
    (hQ : ∀ c (a : Act) (u : Value) w, Q (.panic c) (a.put (some d) u) w → Q (.panic c) a w := by exact fun _ _ _ _ h => h) : wpAnyH P md ops Q S (fuel + 1) listed a w := R.take i f hi hd hn hs hf hr hQ hw hS hv hK
theorem R.ts (i : Nat) {fuel : Nat} {listed : Array Bool} (f : Fr n a l) (hi : ops[i]? = some o) (hS : S w) (hw : Region.wanted o (yielded ops a.tmps) = false)
    (hK : ∀ a', Fr n a' ((d, undef) :: l) → wpAnyH P md ops Q S fuel (listed.setIfInBounds i true) a' w) (hd : o.dst = some d := by rfl) (hn : d < n := by decide)
    (hs : Region.noSelect ops = true := by kernel_rfl) (hf : Region.free md ops listed i = true := by kernel_rfl) (hr : (Region.ready md ops listed).contains i = true := by kernel_rfl)
    (hQ : ∀ c (a : Act) (u : Value) w, Q (.panic c) (a.put (some d) u) w → Q (.panic c) a w := by exact fun _ _ _ _ h => h) : wpAnyH P md ops Q S (fuel + 1) listed a w := R.takeSkip i f hi hd hn hs hf hr hQ hw hS hK
end
section
variable {P : Program} {a : Act} {w : World} {n : Nat} {l : FL} {dst : Option Nat} {ty : TypeId} {ps : String} {af : Array Edge} {g : Option (Nat × Bool)} {x y : Operand} {t u : TypeId}
theorem E.fa (off : Nat) (f : Fr n a l) {fs : Array Field} {i : Nat} {fld : Field} {b o s : Nat} (ht : P.underlying t = some (.struct fs)) (hi : fs[i]? = some fld) (hs : (P.info? fld.type).map (·.size) = some (s + 1)) (hx : evl l x = some (.pointer (some ⟨b, o, none⟩)) := by rfl) (ho : fld.offset = off := by rfl) :
    (execOp a.eval ⟨dst, .fieldAddr t x i, ty, ps, af, g⟩).run P w = .ok (.value (.pointer (some ⟨b, o + off, none⟩))) w := E.fieldAddrN off f ht hx hi ho hs
theorem E.ld (f : Fr n a l) {b : Nat} {o : Nat} {v : Value} {d : TypeDesc} {e : TypeId} {cs : Array Value} (ht : P.underlying t = some d) (B : Blk w b e cs) (hx : evl l x = some (.pointer (some ⟨b, o, none⟩)) := by rfl) (hc : cs.toList[o]? = some v := by rfl) (hd : d.isRow = false := by rfl) :
    (execOp a.eval ⟨dst, .load t x, ty, ps, af, g⟩).run P w = .ok (.value v) w := E.load f ht hd hx (B.cl hc)
theorem E.eq (f : Fr n a l) {k : IntKind} {i j : Int} (hx : evl l x = some (.int k i) := by rfl) (hy : evl l y = some (.int k j) := by rfl) : (execOp a.eval ⟨dst, .binOp .eql t x y u, ty, ps, af, g⟩).run P w = .ok (.value (.bool (decide (i = j)))) w := E.eql f hx hy
end
theorem ktr {L : List Nat} {g : Nat} {w : World} (h : w.heap.size ≤ g ∨ g ∈ L) : ∀ x ∈ [g], x < w.heap.size → x ∈ L := fun x hx hlt => by
  obtain rfl := List.mem_singleton.1 hx
  rcases h with h | h
  · omega
  · exact h
theorem z1 {α : Type} {xs : List α} {i : Nat} {a : α} : xs.toArray.setIfInBounds i a = (xs.set i a).toArray := List.setIfInBounds_toArray ..
theorem z2 {α : Type} {a b : α} {xs : List α} : (a :: xs).set 0 b = b :: xs := rfl
theorem z3 {α : Type} {a b : α} {xs : List α} {i : Nat} : (a :: xs).set (i + 1) b = a :: xs.set i b := rfl
end Go.Hub
namespace Go.Hub
open Go.RowKit
def readyAt (md : Region.Mode) (ops : Array Oper) (listed : Array Bool) (i : Nat) : Bool :=
  Nat.blt i ops.size && (!listed.getD i true && ((ops[i]?).map (·.after.all fun e => !Region.binds md e || listed.getD e.on false)).getD false)
def waits (md : Region.Mode) (o : Oper) (i : Nat) : Bool := o.after.any fun e => Region.binds md e && e.on == i
def tame (md : Region.Mode) (ops : Array Oper) : Bool := (List.range ops.size).all fun i => match ops[i]? with
  | none => false
  | some oi => (List.range ops.size).all fun j => j == i || match ops[j]? with
    | some oj => waits md oj i || waits md oi j || oi.apart ops oj
    | none => true
theorem readyAt_spec {md : Region.Mode} {ops : Array Oper} {listed : Array Bool} {i : Nat} (h : readyAt md ops listed i = true) : (Region.ready md ops listed).contains i = true := by
  unfold readyAt at h
  rw [Bool.and_eq_true] at h
  rw [List.contains_iff_mem]
  exact List.mem_filter.2 ⟨List.mem_range.2 (Nat.le_of_ble_eq_true h.1), h.2⟩
theorem free_of_tame {md : Region.Mode} {ops : Array Oper} {listed : Array Bool} {i : Nat} (ht : tame md ops = true) (h : readyAt md ops listed i = true) : Region.free md ops listed i = true := by
  unfold readyAt at h
  rw [Bool.and_eq_true, Bool.and_eq_true] at h
  obtain ⟨h1, h2, h3⟩ := h
  unfold Region.free
  have ht1 := List.all_eq_true.1 ht i (List.mem_range.2 (Nat.le_of_ble_eq_true h1))
  cases hi : ops[i]? with
  | none => rw [hi] at h3; simp at h3
  | some oi =>
    rw [hi] at ht1 h3
    simp only [Option.map_some, Option.getD_some] at h3
    simp only at ht1 ⊢
    refine List.all_eq_true.2 fun j hj => ?_
    have h4 := List.all_eq_true.1 ht1 j hj
    rw [Bool.or_eq_true] at h4
    rcases h4 with h4 | h4
    · simp [h4]
    · cases hoj : ops[j]? with
      | none => simp
      | some oj =>
        rw [hoj] at h4
        simp only [Bool.or_eq_true] at h4 ⊢
        rcases h4 with (h4 | h4) | h4
        · exact .inr (.inl h4)
        · refine .inl (.inr ?_)
          unfold waits at h4
          obtain ⟨e, he, hb⟩ := Array.any_eq_true'.1 h4
          rw [Bool.and_eq_true] at hb
          have h5 := Array.all_eq_true_iff_forall_mem.1 h3 e he
          have hon : e.on = j := by simpa using hb.2
          rw [hb.1, hon] at h5
          simp only [Bool.not_true, Bool.false_or] at h5
          rcases Nat.lt_or_ge j listed.size with hl | hl
          · simp [hl] at h5 ⊢; exact h5
          · simp [Array.getElem?_eq_none hl] at h5
        · exact .inr (.inr h4)
section
variable {P : Program} {ops : Array Oper} {Q : Exit → Act → World → Prop} {md : Region.Mode} {S : World → Prop} {a : Act} {w w' : World} {n d : Nat} {l : FL} {v : Value} {o : Oper}
theorem R.beginT {id : Nat} (hm : P.follows .mixedOrders = true) (hc : (Region.noSelect ops && tame .any ops) = true) (hS : S (w.drewN 1))
    (h : (Region.noSelect ops = true ∧ tame .any ops = true) → wpAnyH P .any ops Q S ops.size (Array.replicate ops.size false) a (w.drewN 1)) : (Code.region id ops true).wp P Q a w := R.begin hm hS (h (by simpa using hc))
theorem R.u (i : Nat) {fuel : Nat} {listed : Array Bool} (f : Fr n a l) (hi : ops[i]? = some o) (ht : Region.noSelect ops = true ∧ tame md ops = true) (hS : S w) (hv : ∀ w, S w → (execOp a.eval o).run P w = .ok (.value v) w)
    (hK : ∀ a', Fr n a' ((d, v) :: l) → wpAnyH P md ops Q S fuel (listed.setIfInBounds i true) a' w) (hw : Region.wanted o (yielded ops a.tmps) = true := by exact wantedN) (hd : o.dst = some d := by rfl) (hn : d < n := by decide)
    (hr : readyAt md ops listed i = true := by kernel_rfl)
    (hQ : ∀ c (a : Act) (u : Value) w, Q (.panic c) (a.put (some d) u) w → Q (.panic c) a w := by exact fun _ _ _ _ h => h) : wpAnyH P md ops Q S (fuel + 1) listed a w := R.take i f hi hd hn ht.1 (free_of_tame ht.2 hr) (readyAt_spec hr) hQ hw hS hv hK
theorem R.us (i : Nat) {fuel : Nat} {listed : Array Bool} (f : Fr n a l) (hi : ops[i]? = some o) (ht : Region.noSelect ops = true ∧ tame md ops = true) (hS : S w) (hw : Region.wanted o (yielded ops a.tmps) = false)
    (hK : ∀ a', Fr n a' ((d, undef) :: l) → wpAnyH P md ops Q S fuel (listed.setIfInBounds i true) a' w) (hd : o.dst = some d := by rfl) (hn : d < n := by decide)
    (hr : readyAt md ops listed i = true := by kernel_rfl)
    (hQ : ∀ c (a : Act) (u : Value) w, Q (.panic c) (a.put (some d) u) w → Q (.panic c) a w := by exact fun _ _ _ _ h => h) : wpAnyH P md ops Q S (fuel + 1) listed a w := R.takeSkip i f hi hd hn ht.1 (free_of_tame ht.2 hr) (readyAt_spec hr) hQ hw hS hK
end
def runT (md : Region.Mode) (ops : Array Oper) (n : Nat) : List Nat → FL → Array Bool → FL × Array Bool × Bool
  | [], l, listed => (l, listed, true)
  | i :: r, l, listed => match ops[i]? with
    | none => (l, listed, false)
    | some o => match o.dst, stepS ops n l o with
      | some _, some l' => bif readyAt md ops listed i then runT md ops n r l' (listed.setIfInBounds i true) else (l, listed, false)
      | _, _ => (l, listed, false)
section
variable {P : Program} {ops : Array Oper} {Q : Exit → Act → World → Prop} {md : Region.Mode} {S : World → Prop} {a : Act} {w : World} {n : Nat} {l : FL}
theorem R.runAllT (ht : Region.noSelect ops = true ∧ tame md ops = true) (hQ : ∀ c (a : Act) (x : Nat × Value) w, Q (.panic c) (a.put (some x.1) x.2) w → Q (.panic c) a w) (hS : S w) {fuel : Nat} : ∀ (is : List Nat) (l : FL) (listed : Array Bool) (a : Act), Fr n a l → (runT md ops n is l listed).2.2 = true →
    (∀ a', Fr n a' (runT md ops n is l listed).1 → wpAnyH P md ops Q S fuel (runT md ops n is l listed).2.1 a' w) → wpAnyH P md ops Q S (fuel + is.length) listed a w
  | [], l, listed, a, f, _, hK => hK a f
  | i :: r, l, listed, a, f, hd, hK => by
    unfold runT at hd hK
    cases ho : ops[i]? with
    | none => simp only [ho] at hd; cases hd
    | some o =>
      simp only [ho] at hd hK
      cases hdst : o.dst with
      | none => simp only [hdst] at hd; cases hd
      | some d =>
        cases hst : stepS ops n l o with
        | none => simp only [hdst, hst] at hd; cases hd
        | some l' =>
          simp only [hdst, hst] at hd hK
          cases hc : readyAt md ops listed i
          · simp only [hc] at hd; cases hd
          · simp only [hc, cond_true] at hd hK
            have hc' : Region.free md ops listed i = true ∧ (Region.ready md ops listed).contains i = true := ⟨free_of_tame ht.2 hc, readyAt_spec hc⟩
            rw [List.length_cons, ← Nat.add_assoc]
            unfold stepS at hst
            split at hst
            · cases hst
            · rename_i hg
              rw [hdst] at hst
              simp only at hst
              cases hb : Nat.blt d n
              · rw [hb] at hst; cases hst
              · rw [hb] at hst
                cases hst
                exact R.takeSkip i f ho hdst (by simpa [Nat.blt_eq] using hb) ht.1 hc'.1 hc'.2 (fun c a u w => hQ c a (d, u) w) (gd_spec f hg) hS fun a' f' => R.runAllT ht hQ hS r _ _ a' f' hd hK
            · rename_i hg
              rw [hdst] at hst
              cases hv : simpleOp l o.op with
              | none => simp [hv] at hst
              | some v =>
                simp only [hv] at hst
                cases hb : Nat.blt d n
                · rw [hb] at hst; cases hst
                · rw [hb] at hst
                  cases hst
                  exact R.take i f ho hdst (by simpa [Nat.blt_eq] using hb) ht.1 hc'.1 hc'.2 (fun c a u w => hQ c a (d, u) w) (gd_spec f hg) hS (fun w _ => simpleOp_spec f hv) fun a' f' => R.runAllT ht hQ hS r _ _ a' f' hd hK
theorem runT_look (i : Nat) : ∀ (is : List Nat) (l : FL) (listed : Array Bool), dstInD ops i is = false → look (runT md ops n is l listed).1 i = look l i
  | [], l, listed, _ => rfl
  | j :: r, l, listed, h => by
    unfold dstInD at h
    rw [Bool.or_eq_false_iff] at h
    unfold runT
    cases ho : ops[j]? with
    | none => rfl
    | some o =>
      simp only
      cases hdst : o.dst with
      | none => rfl
      | some d =>
        cases hst : stepS ops n l o with
        | none => rfl
        | some l' =>
          simp only
          cases hc : readyAt md ops listed j
          · rfl
          · simp only [cond_true]
            rw [runT_look i r l' _ h.2]
            have h1 := h.1
            rw [ho] at h1
            simp only [Option.bind_some, hdst] at h1
            exact stepS_look hst hdst h1
theorem R.runT (is : List Nat) {listed : Array Bool} (listed' : Array Bool) {fuel : Nat} (f : Fr n a l) (ht : Region.noSelect ops = true ∧ tame md ops = true) (hQ : ∀ c (a : Act) (x : Nat × Value) w, Q (.panic c) (a.put (some x.1) x.2) w → Q (.panic c) a w) (hS : S w)
    (h : ((runT md ops n is l listed).2.2 && ((runT md ops n is l listed).2.1 == listed')) = true) (hK : ∀ a', Fr n a' (runT md ops n is l listed).1 → wpAnyH P md ops Q S fuel listed' a' w) : wpAnyH P md ops Q S (fuel + is.length) listed a w := by
  rw [Bool.and_eq_true] at h
  refine R.runAllT ht hQ hS is l listed a f h.1 ?_
  rw [eq_of_beq h.2]
  exact hK
theorem Fr.keptT {is : List Nat} {listed : Array Bool} (f : Fr n a (runT md ops n is l listed).1) {i : Nat} {v : Value} (hd : dstInD ops i is = false) (h : look l i = some v) : look (runT md ops n is l listed).1 i = some v := (runT_look i is l listed hd).trans h
end
end Go.Hub
namespace Go.Hub
open Go.RowKit
def tf (n : Nat) (l : List Nat) : Array Bool := ((List.range n).map fun i => !l.contains i).toArray
section
variable {P : Program} {ops : Array Oper} {rest : List Oper} {a : Act} {w : World} {Q : Exit → Act → World → Prop} {n d : Nat} {l : FL} {v : Value} {ty t : TypeId} {ps : String} {af : Array Edge} {g : Option (Nat × Bool)} {x : Operand}
theorem L.mv (f : Fr n a l) (hK : ∀ a', Fr n a' ((d, v) :: l) → wpList P ops Q rest a' w) (hx : evl l x = some v := by rfl)
    (hw : Region.wanted ⟨some d, .move x, ty, ps, af, g⟩ (yielded ops a.tmps) = true := by exact wantedN) (hn : d < n := by decide) : wpList P ops Q (⟨some d, .move x, ty, ps, af, g⟩ :: rest) a w := L.val f hw rfl hn (E.move f hx) hK
theorem L.ag (f : Fr n a l) (hK : ∀ a', Fr n a' ((d, v) :: l) → wpList P ops Q rest a' w) (hx : evl l x = some v := by rfl)
    (hw : Region.wanted ⟨some d, .assign x, ty, ps, af, g⟩ (yielded ops a.tmps) = true := by exact wantedN) (hn : d < n := by decide) : wpList P ops Q (⟨some d, .assign x, ty, ps, af, g⟩ :: rest) a w := L.val f hw rfl hn (E.assign f hx) hK
theorem L.fa (off : Nat) (f : Fr n a l) {fs : Array Field} {i : Nat} {fld : Field} {b o s : Nat} (ht : P.underlying t = some (.struct fs)) (hi : fs[i]? = some fld) (hs : (P.info? fld.type).map (·.size) = some (s + 1))
    (hK : ∀ a', Fr n a' ((d, .pointer (some ⟨b, o + off, none⟩)) :: l) → wpList P ops Q rest a' w) (hx : evl l x = some (.pointer (some ⟨b, o, none⟩)) := by rfl) (ho : fld.offset = off := by rfl)
    (hw : Region.wanted ⟨some d, .fieldAddr t x i, ty, ps, af, g⟩ (yielded ops a.tmps) = true := by exact wantedN) (hn : d < n := by decide) : wpList P ops Q (⟨some d, .fieldAddr t x i, ty, ps, af, g⟩ :: rest) a w := L.val f hw rfl hn (E.fa off f ht hi hs hx ho) hK
theorem L.ld (f : Fr n a l) {b o : Nat} {td : TypeDesc} {e : TypeId} {cs : Array Value} (ht : P.underlying t = some td) (B : Blk w b e cs) (hK : ∀ a', Fr n a' ((d, v) :: l) → wpList P ops Q rest a' w)
    (hx : evl l x = some (.pointer (some ⟨b, o, none⟩)) := by rfl) (hc : cs.toList[o]? = some v := by rfl) (hd : td.isRow = false := by rfl)
    (hw : Region.wanted ⟨some d, .load t x, ty, ps, af, g⟩ (yielded ops a.tmps) = true := by exact wantedN) (hn : d < n := by decide) : wpList P ops Q (⟨some d, .load t x, ty, ps, af, g⟩ :: rest) a w := L.val f hw rfl hn (E.ld f ht B hx hc hd) hK
theorem scR {r : FL} {rest : List Oper} (f : Fr n a (runS ops n l rest).1) (i : Nat) (h' : Go.Hub.sub (runS ops n l rest).1 r) {v : Value} (hd : dstIn i rest = false := by kernel_rfl) (h : look l i = some v := by rfl) : Go.Hub.sub (runS ops n l rest).1 ((i, v) :: r) := ⟨Fr.kept f hd h, h'⟩
theorem wn {R : Act → World → Prop} {Q : Exit → Act → World → Prop} (hK : ∀ a w, R a w → Q .normal a w) (h : R a w) : wpList P ops Q [] a w := wpList_nil (hK _ _ h)
def pkL (l : FL) : List Nat → Option FL
  | [] => some []
  | i :: r => match look l i, pkL l r with
    | some v, some t => some ((i, v) :: t)
    | _, _ => none
theorem pkL_sub {l : FL} : ∀ (is : List Nat) (r : FL), pkL l is = some r → Go.Hub.sub l r
  | [], r, h => by
    injection h with h
    subst h
    exact trivial
  | i :: is, r, h => by
    unfold pkL at h
    split at h
    · next v t h1 h2 =>
      injection h with h
      subst h
      exact ⟨h1, pkL_sub is _ h2⟩
    · cases h
theorem pk_gen {l l' : FL} : ∀ (is : List Nat) (r : FL), (∀ i ∈ is, look l' i = look l i) → pkL l is = some r → Go.Hub.sub l' r
  | [], r, _, h => by
    injection h with h
    subst h
    exact trivial
  | i :: is, r, hk, h => by
    unfold pkL at h
    split at h
    · next v t h1 h2 =>
      injection h with h
      subst h
      exact ⟨(hk i (by simp)).trans h1, pk_gen is _ (fun j hj => hk j (by simp [hj])) h2⟩
    · cases h
theorem pkS {l : FL} (is : List Nat) {r : FL} (h : pkL l is = some r := by rfl) : Go.Hub.sub l r := pkL_sub is r h
theorem pkR {rest : List Oper} (f : Fr n a (runS ops n l rest).1) (is : List Nat) {r : FL} (hd : (is.all fun i => !dstIn i rest) = true := by kernel_rfl) (h : pkL l is = some r := by rfl) : Go.Hub.sub (runS ops n l rest).1 r :=
  pk_gen is r (fun i hi => runS_look i rest l (by simpa using List.all_eq_true.1 hd i hi)) h
theorem pkT {md : Region.Mode} {is : List Nat} {listed : Array Bool} (f : Fr n a (runT md ops n is l listed).1) (ks : List Nat) {r : FL} (hd : (ks.all fun i => !dstInD ops i is) = true := by kernel_rfl) (h : pkL l ks = some r := by rfl) : Go.Hub.sub (runT md ops n is l listed).1 r :=
  pk_gen ks r (fun i hi => runT_look i is l listed (by simpa using List.all_eq_true.1 hd i hi)) h
theorem pkD {md : Region.Mode} {is : List Nat} {listed : Array Bool} (f : Fr n a (runD md ops n is l listed).1) (ks : List Nat) {r : FL} (hd : (ks.all fun i => !dstInD ops i is) = true := by kernel_rfl) (h : pkL l ks = some r := by rfl) : Go.Hub.sub (runD md ops n is l listed).1 r :=
  pk_gen ks r (fun i hi => runD_look i is l listed (by simpa using List.all_eq_true.1 hd i hi)) h
theorem Fr.pk (f : Fr n a l) (is : List Nat) {r : FL} (h : pkL l is = some r := by rfl) : Fr n a r := f.sub (pkL_sub is r h)
theorem R.mv {md : Region.Mode} {S : World → Prop} (i : Nat) {fuel : Nat} {listed : Array Bool} (f : Fr n a l) {v : Value} {x : Operand} {ty : TypeId} {ps : String} {af : Array Edge} {g : Option (Nat × Bool)} (hi : ops[i]? = some ⟨some d, .move x, ty, ps, af, g⟩) (hS : S w)
    (hK : ∀ a', Fr n a' ((d, v) :: l) → wpAnyH P md ops Q S fuel (listed.setIfInBounds i true) a' w) (hx : evl l x = some v := by rfl) (hw : Region.wanted ⟨some d, .move x, ty, ps, af, g⟩ (yielded ops a.tmps) = true := by exact wantedN) (hn : d < n := by decide)
    (hs : Region.noSelect ops = true := by kernel_rfl) (hf : Region.free md ops listed i = true := by kernel_rfl) (hr : (Region.ready md ops listed).contains i = true := by kernel_rfl)
    (hQ : ∀ c (a : Act) (u : Value) w, Q (.panic c) (a.put (some d) u) w → Q (.panic c) a w := by exact fun _ _ _ _ h => h) : wpAnyH P md ops Q S (fuel + 1) listed a w := R.t i f hi hS (fun _ _ => E.move f hx) hK hw rfl hn hs hf hr hQ
theorem RB.tk {md : Region.Mode} {S : World → Prop} {o : Oper} {m : Nat} (i : Nat) {fuel : Nat} {listed : Array Bool} (f : Fr n a l) (hi : ops[i]? = some o) (hS : S w) (hv : ∀ w, S w → (execOp a.eval o).run P w = .ok (.value v) w)
    (hK : ∀ a', Fr n a' ((d, v) :: l) → wpAnyB P md ops Q S m fuel (listed.setIfInBounds i true) a' w) (hw : Region.wanted o (yielded ops a.tmps) = true := by exact wantedN) (hd : o.dst = some d := by rfl) (hn : d < n := by decide)
    (hb : (Nat.blt i m && barrier md ops m) = true := by kernel_rfl) (hs : Region.noSelect ops = true := by kernel_rfl) (hf : Region.free md ops listed i = true := by kernel_rfl) (hr : (Region.ready md ops listed).contains i = true := by kernel_rfl)
    (hQ : ∀ c (a : Act) (u : Value) w, Q (.panic c) (a.put (some d) u) w → Q (.panic c) a w := by exact fun _ _ _ _ h => h) : wpAnyB P md ops Q S m (fuel + 1) listed a w := RB.take i f hi hd hn hb hs hf hr hQ hw hS hv hK
theorem C.sk {id : Nat} {os : List Oper} {y : Code} (h : ∀ K : Act → World → Prop, (∀ a w, y.wp P Q a w → K a w) → wpList P os.toArray (Exit.then K Q) os a w) : (Code.seq (Code.region id os.toArray false) y).wp P Q a w := wp_seq_k fun K hK => C.region (h K hK)
theorem scT {md : Region.Mode} {r : FL} {is : List Nat} {listed : Array Bool} (f : Fr n a (runT md ops n is l listed).1) (i : Nat) (h' : Go.Hub.sub (runT md ops n is l listed).1 r) {v : Value} (hd : dstInD ops i is = false := by kernel_rfl) (h : look l i = some v := by rfl) : Go.Hub.sub (runT md ops n is l listed).1 ((i, v) :: r) := ⟨Fr.keptT f hd h, h'⟩
theorem sr {l r : FL} {i : Nat} {v : Value} (h : look l i = some v) (h' : Go.Hub.sub l r) : Go.Hub.sub l ((i, v) :: r) := ⟨h, h'⟩
theorem sv {l r : FL} (i : Nat) (v : Value) (h' : Go.Hub.sub l r) (h : look l i = some v := by kernel_rfl) : Go.Hub.sub l ((i, v) :: r) := ⟨h, h'⟩
theorem jK {a : Act} {w : World} (J : Act → World → Prop) (h : J a w) : Exit.then J (fun _ _ _ => True) .normal a w := h
theorem sx {l r : FL} {i : Nat} {v : Value} (h' : Go.Hub.sub l r) (h : look l i = some v := by rfl) : Go.Hub.sub l ((i, v) :: r) := ⟨h, h'⟩
theorem Own.z {w w' : World} {e : TypeId} {size n : Nat} {v : Value} {xs : List Value} (h : Own w e size v n xs) (hk : Kept [] w w') : Own w' e size v n xs := Own.kept h hk (by simp)
theorem xt {K : Act → World → Prop} {Q : Exit → Act → World → Prop} {a : Act} {w : World} : Exit.then K Q .ret a w = Q .ret a w := rfl
theorem xb {i k : Nat} {Q : Exit → Act → World → Prop} {a : Act} {w : World} : Exit.inBlock i Q .ret a w = Q .ret a w := rfl
end
section
variable {P : Program} {ops : Array Oper} {rest : List Oper} {a : Act} {w w' w'' : World} {Q : Exit → Act → World → Prop} {n d : Nat} {l : FL} {v : Value} {ty t : TypeId} {ps : String} {af : Array Edge} {g : Option (Nat × Bool)} {x : Operand} {dst : Option Nat} {op : Op} {j dj : Nat} {o : Oper}
theorem Fr.y {b : Bool} (f : Fr n a l) (hj : (ops[j]?).bind (·.dst) = some dj := by rfl) (hb : look l dj = some (.bool b) := by rfl) : Region.wanted ⟨dst, op, ty, ps, af, some (j, b)⟩ (yielded ops a.tmps) = true := f.yes hj hb
theorem Fr.nT (f : Fr n a l) (hj : (ops[j]?).bind (·.dst) = some dj := by rfl) (hb : look l dj = some (.bool false) := by rfl) : Region.wanted ⟨dst, op, ty, ps, af, some (j, true)⟩ (yielded ops a.tmps) = false := f.noT hj hb
theorem Fr.nF (f : Fr n a l) (hj : (ops[j]?).bind (·.dst) = some dj := by rfl) (hb : look l dj = some (.bool true) := by rfl) : Region.wanted ⟨dst, op, ty, ps, af, some (j, false)⟩ (yielded ops a.tmps) = false := f.noF hj hb
theorem Fr.nU {b : Bool} (f : Fr n a l) (hj : (ops[j]?).bind (·.dst) = some dj := by rfl) (hb : look l dj = some undef := by rfl) : Region.wanted ⟨dst, op, ty, ps, af, some (j, b)⟩ (yielded ops a.tmps) = false := f.noU hj hb
theorem R.p {md : Region.Mode} {S : World → Prop} (i : Nat) {fuel : Nat} {listed : Array Bool} (f : Fr n a l) (hi : ops[i]? = some o) (hS : S w) (hv : ∀ {w}, (execOp a.eval o).run P w = .ok (.value v) w)
    (hK : ∀ a', Fr n a' ((d, v) :: l) → wpAnyH P md ops Q S fuel (listed.setIfInBounds i true) a' w) (hw : Region.wanted o (yielded ops a.tmps) = true := by exact wantedN) (hd : o.dst = some d := by rfl) (hn : d < n := by decide)
    (hs : Region.noSelect ops = true := by kernel_rfl) (hf : Region.free md ops listed i = true := by kernel_rfl) (hr : (Region.ready md ops listed).contains i = true := by kernel_rfl)
    (hQ : ∀ c (a : Act) (u : Value) w, Q (.panic c) (a.put (some d) u) w → Q (.panic c) a w := by exact fun _ _ _ _ h => h) : wpAnyH P md ops Q S (fuel + 1) listed a w := R.t i f hi hS (fun _ _ => hv) hK hw hd hn hs hf hr hQ
theorem RB.p {md : Region.Mode} {S : World → Prop} {m : Nat} (i : Nat) {fuel : Nat} {listed : Array Bool} (f : Fr n a l) (hi : ops[i]? = some o) (hS : S w) (hv : ∀ {w}, (execOp a.eval o).run P w = .ok (.value v) w)
    (hK : ∀ a', Fr n a' ((d, v) :: l) → wpAnyB P md ops Q S m fuel (listed.setIfInBounds i true) a' w) (hw : Region.wanted o (yielded ops a.tmps) = true := by exact wantedN) (hd : o.dst = some d := by rfl) (hn : d < n := by decide)
    (hb : (Nat.blt i m && barrier md ops m) = true := by kernel_rfl) (hs : Region.noSelect ops = true := by kernel_rfl) (hf : Region.free md ops listed i = true := by kernel_rfl) (hr : (Region.ready md ops listed).contains i = true := by kernel_rfl)
    (hQ : ∀ c (a : Act) (u : Value) w, Q (.panic c) (a.put (some d) u) w → Q (.panic c) a w := by exact fun _ _ _ _ h => h) : wpAnyB P md ops Q S m (fuel + 1) listed a w := RB.tk i f hi hS (fun _ _ => hv) hK hw hd hn hb hs hf hr hQ
theorem R.cl {md : Region.Mode} {S : World → Prop} (i : Nat) {fuel : Nat} {listed : Array Bool} (f : Fr n a l) (hi : ops[i]? = some o) {fn : Nat} {args : Array Value} (h : (execOp a.eval o).run P w = .ok (.enter fn args) w) {R : Ending → World → Prop} (hc : Calls P fn args w R)
    (hR : ∀ e w', R e w' → ∃ v, e = .returned v ∧ S w' ∧ ∀ a', Fr n a' ((d, v) :: l) → wpAnyH P md ops Q S fuel (listed.setIfInBounds i true) a' w') (hw : Region.wanted o (yielded ops a.tmps) = true := by exact wantedN) (hd : o.dst = some d := by rfl) (hn : d < n := by decide)
    (hr : Region.ready md ops listed = [i] := by kernel_rfl) : wpAnyH P md ops Q S (fuel + 1) listed a w := Go.Hub.R.call i f hi hd hn hr hw h hc hR
theorem RB.cl {md : Region.Mode} {S : World → Prop} {m : Nat} (i : Nat) {fuel : Nat} {listed : Array Bool} (f : Fr n a l) (hi : ops[i]? = some o) {fn : Nat} {args : Array Value} (h : (execOp a.eval o).run P w = .ok (.enter fn args) w) {R : Ending → World → Prop} (hc : Calls P fn args w R)
    (hR : ∀ e w', R e w' → ∃ v, e = .returned v ∧ S w' ∧ ∀ a', Fr n a' ((d, v) :: l) → wpAnyB P md ops Q S m fuel (listed.setIfInBounds i true) a' w') (hw : Region.wanted o (yielded ops a.tmps) = true := by exact wantedN) (hd : o.dst = some d := by rfl) (hn : d < n := by decide)
    (hu : upto m listed = false := by kernel_rfl) (hr : Region.ready md ops listed = [i] := by kernel_rfl) : wpAnyB P md ops Q S m (fuel + 1) listed a w := RB.call i f hi hd hn hu hr hw h hc hR
theorem R.on {md : Region.Mode} {S : World → Prop} (i : Nat) {fuel : Nat} {listed : Array Bool} (h : wpOp P ops Q i (fun a w => S w ∧ wpAnyH P md ops Q S fuel (listed.setIfInBounds i true) a w) a w) (hr : Region.ready md ops listed = [i] := by kernel_rfl) : wpAnyH P md ops Q S (fuel + 1) listed a w := R.one i hr h
theorem Newb.al {cs : Array Value} {b : Nat} (h : Newb w w' b t cs) : Blk w' b t cs ∧ Kept [] w w' ∧ w.heap.size ≤ b ∧ b < w'.heap.size ∧ w.heap.size ≤ w'.heap.size := ⟨h.blk, h.kept, h.lo, h.blk.lt, h.kept.size⟩
theorem Blk.kn {cs : Array Value} {b c : Nat} (h : Blk w b t cs) (k : Kept [c] w w') (hn : b ≠ c := by omega) : Blk w' b t cs := h.kept k (by simpa using hn)
theorem Kept.lo {L : List Nat} {b : Nat} (h : Kept L w w') (k : w'.heap.size ≤ b) : w.heap.size ≤ b := Nat.le_trans h.size k
section
variable {fn : Nat} {ats : Array TypeId} {x0 x1 x2 x3 x4 : Operand} {v0 v1 v2 v3 v4 : Value}
theorem rc1 (f : Fr n a l) (hc : ∀ args w, (callFunc fn args).run P w = .ok (.enter fn args) w) (h0 : evl l x0 = some v0 := by rfl) : (execOp a.eval ⟨dst, .call { callee := .value (.func fn), args := #[x0], argTypes := ats }, ty, ps, af, g⟩).run P w = .ok (.enter fn #[v0]) w := run_call hc (args1 f h0)
theorem rc2 (f : Fr n a l) (hc : ∀ args w, (callFunc fn args).run P w = .ok (.enter fn args) w) (h0 : evl l x0 = some v0 := by rfl) (h1 : evl l x1 = some v1 := by rfl) : (execOp a.eval ⟨dst, .call { callee := .value (.func fn), args := #[x0, x1], argTypes := ats }, ty, ps, af, g⟩).run P w = .ok (.enter fn #[v0, v1]) w := run_call hc (args2 f h0 h1)
theorem rc3 (f : Fr n a l) (hc : ∀ args w, (callFunc fn args).run P w = .ok (.enter fn args) w) (h0 : evl l x0 = some v0 := by rfl) (h1 : evl l x1 = some v1 := by rfl) (h2 : evl l x2 = some v2 := by rfl) : (execOp a.eval ⟨dst, .call { callee := .value (.func fn), args := #[x0, x1, x2], argTypes := ats }, ty, ps, af, g⟩).run P w = .ok (.enter fn #[v0, v1, v2]) w := run_call hc (args3 f h0 h1 h2)
end
end
end Go.Hub
namespace Go.Proofs.YtdfllmiokgoekaaGreatDoor
abbrev U3 := @Tryz.underlying3
abbrev U4 := @Tryz.underlying4
abbrev U5 := @Tryz.underlying5
abbrev U9 := @Tryz.underlying9
abbrev U28 := @Tryz.underlying28
abbrev U30 := @Tryz.underlying30
abbrev U32 := @Tryz.underlying32
abbrev U33 := @Tryz.underlying33
abbrev U35 := @Tryz.underlying35
abbrev U37 := @Tryz.underlying37
abbrev U42 := @Tryz.underlying42
abbrev U57 := @Tryz.underlying57
abbrev U64 := @Tryz.underlying64
abbrev U66 := @Tryz.underlying66
abbrev U74 := @Tryz.underlying74
abbrev U76 := @Tryz.underlying76
abbrev U82 := @Tryz.underlying82
abbrev U88 := @Tryz.underlying88
abbrev U90 := @Tryz.underlying90
abbrev U97 := @Tryz.underlying97
end Go.Proofs.YtdfllmiokgoekaaGreatDoor
namespace Go.Proofs.YtdfllmiokgoekaaGreatDoor
open Go.RowKit Go.Hub
theorem wbl88_0_1_a (x0 : Option Nat) (x1 : Int) : Tryz.prog.built 88 [(0, .map x0), (1, .int .i64 x1)] = some #[.map x0, .int .i64 x1, (.int .i64 0)] := by kernel_rfl
theorem wsz54_a : (Tryz.prog.info? 54).map (·.size) = some 1 := by kernel_rfl
theorem wbl90_1_a (x0 : Int) : Tryz.prog.built 90 [(1, .int .i64 x0)] = some #[(.slice none 0 0), .int .i64 x0, (.int .i64 0)] := by kernel_rfl
theorem wsz74_a : (Tryz.prog.info? 74).map (·.size) = some 1 := by kernel_rfl
theorem wsz3_a : (Tryz.prog.info? 3).map (·.size) = some 1 := by kernel_rfl
structure IdsAt (w : World) (p im : Nat) (S : List Int) (most taken : Int) : Prop where
  top : Blk w p 88 #[.map (some im), .int .i64 most, .int .i64 taken]
  set : IsSet Tryz.prog 3 4 w im S
  ne : im ≠ p
theorem IdsAt.kept {w w' : World} {p im : Nat} {S : List Int} {most taken : Int} {L : List Nat} (h : IdsAt w p im S most taken) (hk : Kept L w w') (h1 : p ∉ L) (h2 : im ∉ L) : IdsAt w' p im S most taken := ⟨h.top.kept hk h1, h.set.kept hk h2, h.ne⟩
def mostI (most hi : Int) : Int := Min.min (Max.max most 0) hi
def nearI (x : Int) : Int := Min.min (Max.max x (-1099511627776)) 1099511627776
def IdsNewPost (most : Int) (w : World) (e : Ending) (w' : World) : Prop := ∃ p im, e = .returned (.pointer (some ⟨p, 0, none⟩)) ∧ Kept [] w w' ∧ IdsAt w' p im [] (mostI most 65535) 0 ∧ w.heap.size ≤ p ∧ w.heap.size ≤ im
def QuNewPost (most : Int) (w : World) (e : Ending) (w' : World) : Prop := ∃ q, e = .returned (.pointer (some ⟨q, 0, none⟩)) ∧ Kept [] w w' ∧ Blk w' q 90 #[.slice none 0 0, .int .i64 (mostI most 65536), .int .i64 0] ∧ w.heap.size ≤ q
theorem idsNew_any (most : Int) (w : World) : Calls Tryz.prog 15 #[.int .i64 most] w (IdsNewPost most w) := by
 have HK : Kept [] w w := Kept.refl [] w
 refine C.enter Tryz.func15 rfl Tryz.ntmps15 rfl ?_
 intro a0 f0
 have f1 : Fr 9 a0 [(0, .int .i64 most)] := f0
 refine C.sk fun K0 hK0 => ?_
 refine L.ag f1 fun a2 f2 => ?_
 have f3 := f2.pk [0, 2]
 refine wn hK0 (C.sk fun K1 hK1 => ?_)
 refine L.makeMap f3 wantedN (by decide) 3 4 fun a4 w1 g0 Ig0 kg0 log0 f4 => ?_
 have ltg0 := Ig0.lt
 have szw1 := kg0.size
 have frg0 : w.heap.size ≤ g0 := Nat.le_trans HK.size log0
 replace HK := HK.z kg0
 clear f0 f1 a0 f2 f3 kg0 a2
 refine L.mv f4 fun a5 f5 => ?_
 refine L.va f5 (E.max f5 rfl rfl) fun a6 f6 => ?_
 refine L.va f6 (E.min f6 rfl rfl) fun a7 f7 => ?_
 refine L.va f7 (E.build f7 (parts2 f7 rfl rfl) (wbl88_0_1_a _ _)) fun a8 f8 => ?_
 refine L.box f8 wantedN (by decide) rfl rfl fun a9 w2 g1 N1 f9 => ?_
 have Bg1 := N1.blk
 have kg1 := N1.kept
 have log1 := N1.lo
 have ltg1 := Bg1.lt
 have szw2 := kg1.size
 have frg1 : w.heap.size ≤ g1 := Nat.le_trans HK.size log1
 have neg0_g1 : g0 ≠ g1 := by have := Ig0.lt; omega
 replace HK := HK.z kg1
 replace Ig0 := Ig0.kept kg1 (by simp)
 clear f4 a4 f5 a5 f6 a6 f7 a7 N1 kg1
 refine L.ag f9 fun a10 f10 => ?_
 have f11 := f10.pk [2]
 refine wn hK1 (wp_ret ?_); (try simp only [xt, xb]); refine C.ret f11 rfl rfl ?_
 exact ⟨_, _, rfl, HK, ⟨Bg1, Ig0, neg0_g1⟩, frg1, frg0⟩
theorem idsFree_any (p im : Nat) (S : List Int) (most taken : Int) (x : Int) (w : World) (A : IdsAt w p im S most taken) (hx : (Lit.int .i64 x).wf = true) : Calls Tryz.prog 67 #[.pointer (some ⟨p, 0, none⟩), .int .i64 x] w (fun e w' => e = .returned (.bool (decide (x ∈ S))) ∧ Kept [im] w w' ∧ IdsAt w' p im (S.erase x) most taken) := by
 have BP := A.top
 have IS := A.set
 have hne := A.ne
 have hne2 : p ≠ im := fun h => hne h.symm
 have HK : Kept [im] w w := Kept.refl _ w
 refine C.enter Tryz.func67 rfl Tryz.ntmps67 rfl ?_
 intro a0 f0
 have f1 : Fr 18 a0 [(0, .pointer (some ⟨p, 0, none⟩)), (1, .int .i64 x)] := f0
 refine C.sk fun K0 hK0 => ?_
 refine L.ag f1 fun a2 f2 => ?_
 have f3 := f2.pk [0, 1, 4]
 refine wn hK0 (C.sk fun K1 hK1 => ?_)
 refine L.mv f3 fun a4 f4 => ?_
 refine L.va f4 (E.nilCheck f4 rfl) fun a5 f5 => ?_
 refine L.fa 0 f5 U88 rfl wsz54_a fun a6 f6 => ?_
 refine L.va f6 (E.load f6 Tryz.underlying54 rfl rfl ((BP).cl rfl)) fun a7 f7 => ?_
 refine L.mv f7 fun a8 f8 => ?_
 clear f0 f1 a0 f2 f3 a2 f4 a4 f5 a5 f6 a6 f7 a7
 refine L.va f8 (E.look f8 IS U3 U4 Tryz.underlying54 (fun _ => by kernel_rfl) rfl rfl (by assumption)) fun a9 f9 => ?_
 refine L.ag f9 fun a10 f10 => ?_
 have f11 := f10.pk [0, 1, 4, 5]
 refine wn hK1 (C.sk fun K2 hK2 => ?_)
 refine L.mv f11 fun a12 f12 => ?_
 refine L.va f12 (E.nilCheck f12 rfl) fun a13 f13 => ?_
 refine L.fa 0 f13 U88 rfl wsz54_a fun a14 f14 => ?_
 refine L.va f14 (E.load f14 Tryz.underlying54 rfl rfl ((BP).cl rfl)) fun a15 f15 => ?_
 refine L.mv f15 fun a16 f16 => ?_
 clear f8 a8 f9 a9 f10 f11 a10 f12 a12 f13 a13 f14 a14 f15 a15
 refine L.mapDrop f16 wantedN IS U3 Tryz.underlying54 rfl rfl (by assumption) fun a17 w1 IN ks f17 => ?_
 have szw1 := ks.size
 replace HK := HK.trans ks (by simp)
 replace BP := BP.kept ks (by simp; omega)
 replace IS := IN
 clear ks f16 a16
 have f18 := f17.pk [4, 5]
 refine wn hK2 (C.sk fun K3 hK3 => ?_)
 refine L.mv f18 fun a19 f19 => ?_
 refine L.ag f19 fun a20 f20 => ?_
 have f21 := f20.pk [4]
 refine wn hK3 (wp_ret ?_); (try simp only [xt, xb]); refine C.ret f21 rfl rfl ?_
 exact ⟨rfl, HK, ⟨BP, IS, hne⟩⟩
theorem quNew_any (most : Int) (w : World) : Calls Tryz.prog 16 #[.int .i64 most] w (QuNewPost most w) := by
 have HK : Kept [] w w := Kept.refl [] w
 refine C.enter Tryz.func16 rfl Tryz.ntmps16 rfl ?_
 intro a0 f0
 have f1 : Fr 8 a0 [(0, .int .i64 most)] := f0
 refine C.sk fun K0 hK0 => ?_
 refine L.ag f1 fun a2 f2 => ?_
 have f3 := f2.pk [0, 2]
 refine wn hK0 (C.sk fun K1 hK1 => ?_)
 refine L.mv f3 fun a4 f4 => ?_
 refine L.va f4 (E.max f4 rfl rfl) fun a5 f5 => ?_
 refine L.va f5 (E.min f5 rfl rfl) fun a6 f6 => ?_
 refine L.va f6 (E.build f6 (parts1 f6 rfl) (wbl90_1_a _)) fun a7 f7 => ?_
 refine L.box f7 wantedN (by decide) rfl rfl fun a8 w1 g0 N0 f8 => ?_
 have Bg0 := N0.blk
 have kg0 := N0.kept
 have log0 := N0.lo
 have ltg0 := Bg0.lt
 have szw1 := kg0.size
 have frg0 : w.heap.size ≤ g0 := Nat.le_trans HK.size log0
 replace HK := HK.z kg0
 clear f0 f1 a0 f2 f3 a2 f4 a4 f5 a5 f6 a6 N0 kg0
 refine L.ag f8 fun a9 f9 => ?_
 have f10 := f9.pk [2]
 refine wn hK1 (wp_ret ?_); (try simp only [xt, xb]); refine C.ret f10 rfl rfl ?_
 exact ⟨_, rfl, HK, Bg0, frg0⟩
theorem quLen_any (q : Nat) (A : Option Addr) (n c : Nat) (most lost : Int) (w : World) (BP : Blk w q 90 #[.slice A n c, .int .i64 most, .int .i64 lost]) : Calls Tryz.prog 39 #[.pointer (some ⟨q, 0, none⟩)] w (fun e w' => w = w' ∧ e = .returned (.int .i64 n)) := by
 refine C.enter Tryz.func39 rfl Tryz.ntmps39 rfl ?_
 intro a0 f0
 have f1 : Fr 8 a0 [(0, .pointer (some ⟨q, 0, none⟩))] := f0
 refine C.sk fun K0 hK0 => ?_
 refine L.ag f1 fun a2 f2 => ?_
 have f3 := f2.pk [0, 2]
 refine wn hK0 (C.sk fun K1 hK1 => ?_)
 refine L.mv f3 fun a4 f4 => ?_
 refine L.va f4 (E.nilCheck f4 rfl) fun a5 f5 => ?_
 refine L.fa 0 f5 U90 rfl wsz74_a fun a6 f6 => ?_
 refine L.va f6 (E.load f6 U74 rfl rfl ((BP).cl rfl)) fun a7 f7 => ?_
 refine L.va f7 (E.lenL f7 U74 rfl) fun a8 f8 => ?_
 clear f0 f1 a0 f2 f3 a2 f4 a4 f5 a5 f6 a6 f7 a7
 refine L.ag f8 fun a9 f9 => ?_
 have f10 := f9.pk [2]
 refine wn hK1 (wp_ret ?_); (try simp only [xt, xb]); refine C.ret f10 rfl rfl ?_
 exact ⟨rfl, rfl⟩
theorem quLost_any (q : Nat) (A : Option Addr) (n c : Nat) (most lost : Int) (w : World) (BP : Blk w q 90 #[.slice A n c, .int .i64 most, .int .i64 lost]) : Calls Tryz.prog 63 #[.pointer (some ⟨q, 0, none⟩)] w (fun e w' => w = w' ∧ e = .returned (.int .i64 lost)) := by
 refine C.enter Tryz.func63 rfl Tryz.ntmps63 rfl ?_
 intro a0 f0
 have f1 : Fr 7 a0 [(0, .pointer (some ⟨q, 0, none⟩))] := f0
 refine C.sk fun K0 hK0 => ?_
 refine L.ag f1 fun a2 f2 => ?_
 have f3 := f2.pk [0, 2]
 refine wn hK0 (C.sk fun K1 hK1 => ?_)
 refine L.mv f3 fun a4 f4 => ?_
 refine L.va f4 (E.nilCheck f4 rfl) fun a5 f5 => ?_
 refine L.fa 2 f5 U90 rfl wsz3_a fun a6 f6 => ?_
 refine L.va f6 (E.load f6 U3 rfl rfl ((BP).cl rfl)) fun a7 f7 => ?_
 refine L.ag f7 fun a8 f8 => ?_
 clear f0 f1 a0 f2 f3 a2 f4 a4 f5 a5 f6 a6 f7 a7
 have f9 := f8.pk [2]
 refine wn hK1 (wp_ret ?_); (try simp only [xt, xb]); refine C.ret f9 rfl rfl ?_
 exact ⟨rfl, rfl⟩
theorem near_any (x : Int) (w : World) : Calls Tryz.prog 45 #[.int .i64 x] w (fun e w' => w = w' ∧ e = .returned (.int .i64 (nearI x))) := by
 refine C.enter Tryz.func45 rfl Tryz.ntmps45 rfl ?_
 intro a0 f0
 have f1 : Fr 6 a0 [(0, .int .i64 x)] := f0
 refine C.sk fun K0 hK0 => ?_
 refine L.ag f1 fun a2 f2 => ?_
 have f3 := f2.pk [0, 2]
 refine wn hK0 (C.sk fun K1 hK1 => ?_)
 refine L.mv f3 fun a4 f4 => ?_
 refine L.va f4 (E.max f4 rfl rfl) fun a5 f5 => ?_
 refine L.va f5 (E.min f5 rfl rfl) fun a6 f6 => ?_
 refine L.ag f6 fun a7 f7 => ?_
 have f8 := f7.pk [2]
 refine wn hK1 (wp_ret ?_); (try simp only [xt, xb]); refine C.ret f8 rfl rfl ?_
 exact ⟨rfl, rfl⟩
end Go.Proofs.YtdfllmiokgoekaaGreatDoor
namespace Go.Ids
def stp (t : Int) : Int := t % 65535 + 1
def nxtG : Nat → List Int → Int → Option Int
  | 0, _, _ => none
  | k + 1, S, u => if u ∈ S then nxtG k S (stp u) else some u
def nxt (S : List Int) (t : Int) : Int := (nxtG 65535 S (stp t)).getD 0
theorem stp_bd (t : Int) (h : 0 ≤ t) : 1 ≤ stp t ∧ stp t ≤ 65535 := by unfold stp; omega
theorem nxtG_spec : ∀ (k : Nat) (S : List Int) (u r : Int), 1 ≤ u → u ≤ 65535 → nxtG k S u = some r → r ∉ S ∧ 1 ≤ r ∧ r ≤ 65535
  | 0, _, _, _, _, _, h => by simp [nxtG] at h
  | k + 1, S, u, r, h1, h2, h => by
    unfold nxtG at h
    split at h
    · exact nxtG_spec k S (stp u) r (stp_bd u (by omega)).1 (stp_bd u (by omega)).2 h
    rename_i hn
    obtain rfl : u = r := by simpa using h
    exact ⟨hn, h1, h2⟩
theorem nxtG_none : ∀ (k : Nat) (S : List Int) (u : Int), 1 ≤ u → u ≤ 65535 → nxtG k S u = none → ∀ i : Nat, i < k → ((u - 1 + i) % 65535 + 1) ∈ S
  | 0, _, _, _, _, _ => fun i hi => by omega
  | k + 1, S, u, h1, h2, h => by
    intro i hi
    unfold nxtG at h
    split at h
    · rename_i hu
      match i, hi with
      | 0, _ => rw [show (u - 1 + (0 : Nat)) % 65535 + 1 = u from by omega]; exact hu
      | i + 1, hi =>
        have := nxtG_none k S (stp u) (stp_bd u (by omega)).1 (stp_bd u (by omega)).2 h i (by omega)
        rw [show (stp u - 1 + i) % 65535 + 1 = (u - 1 + (i + 1 : Nat)) % 65535 + 1 from by unfold stp; omega] at this
        exact this
    cases h
theorem count_le : ∀ (n : Nat) (S : List Int), (∀ x : Nat, 1 ≤ x → x ≤ n → (x : Int) ∈ S) → n ≤ S.length
  | 0, _, _ => Nat.zero_le _
  | n + 1, S, h => by
    have hm := h (n + 1) (by omega) (by omega)
    have := count_le n (S.erase (n + 1 : Nat)) (fun x h1 h2 => (List.mem_erase_of_ne (by omega)).2 (h x h1 (by omega)))
    rw [List.length_erase_of_mem hm] at this
    have : 0 < S.length := List.length_pos_of_mem hm
    omega
theorem nxtG_some (S : List Int) (t : Int) (ht : 0 ≤ t) (hS : S.length < 65535) : nxtG 65535 S (stp t) = some (nxt S t) := by
  unfold nxt
  cases h : nxtG 65535 S (stp t) with
  | some r => rfl
  | none =>
    exfalso
    have hb := stp_bd t ht
    have := count_le 65535 S (fun x h1 h2 => by
      have := nxtG_none 65535 S (stp t) hb.1 hb.2 h (((x : Int) - stp t) % 65535).toNat (by omega)
      rw [show (stp t - 1 + ((((x : Int) - stp t) % 65535).toNat : Int)) % 65535 + 1 = (x : Int) from by omega] at this
      exact this)
    omega
theorem nxt_spec (S : List Int) (t : Int) (ht : 0 ≤ t) (hS : S.length < 65535) : nxt S t ∉ S ∧ 1 ≤ nxt S t ∧ nxt S t ≤ 65535 :=
  nxtG_spec _ _ _ _ (stp_bd t ht).1 (stp_bd t ht).2 (nxtG_some S t ht hS)
end Go.Ids
namespace Go.Proofs.YtdfllmiokgoekaaGreatDoor
open Go.RowKit Go.Hub
theorem wsz3_b : (Tryz.prog.info? 3).map (·.size) = some 1 := by kernel_rfl
theorem wsz54_b : (Tryz.prog.info? 54).map (·.size) = some 1 := by kernel_rfl
def TakePost (S : List Int) (most taken : Int) (p im : Nat) (w : World) (e : Ending) (w' : World) : Prop :=
  Kept [p, im] w w' ∧ if most ≤ S.length then e = .returned (.tuple #[.int .i64 0, .bool false]) ∧ IdsAt w' p im S most taken else e = .returned (.tuple #[.int .i64 (Go.Ids.nxt S taken), .bool true]) ∧ IdsAt w' p im (insS (Go.Ids.nxt S taken) S) most (Go.Ids.nxt S taken)
theorem nx_pos {k : Nat} {S : List Int} {u r : Int} (h : Go.Ids.nxtG k S u = some r) : 0 < k := by
  cases k with
  | zero => cases h
  | succ k => omega
theorem nx_step {k : Nat} {S : List Int} {u r : Int} (h : Go.Ids.nxtG k S u = some r) (hm : u ∈ S) : Go.Ids.nxtG (k - 1) S (Go.Ids.stp u) = some r := by
  cases k with
  | zero => cases h
  | succ k => simpa [Go.Ids.nxtG, hm] using h
theorem nx_done {k : Nat} {S : List Int} {u r : Int} (h : Go.Ids.nxtG k S u = some r) (hm : u ∉ S) : u = r := by
  cases k with
  | zero => cases h
  | succ k => simpa [Go.Ids.nxtG, hm] using h
theorem take_full {S : List Int} {most taken : Int} {p im : Nat} {w w' : World} (h : most ≤ S.length) (hk : Kept [p, im] w w') (A : IdsAt w' p im S most taken) : TakePost S most taken p im w (.returned (.tuple #[.int .i64 0, .bool false])) w' := by
  refine ⟨hk, ?_⟩
  rw [if_pos h]
  exact ⟨rfl, A⟩
theorem take_got {S : List Int} {most taken : Int} {p im : Nat} {w w' : World} (h : ¬ most ≤ S.length) (hk : Kept [p, im] w w') (A : IdsAt w' p im (insS (Go.Ids.nxt S taken) S) most (Go.Ids.nxt S taken)) : TakePost S most taken p im w (.returned (.tuple #[.int .i64 (Go.Ids.nxt S taken), .bool true])) w' := by
  refine ⟨hk, ?_⟩
  rw [if_neg h]
  exact ⟨rfl, A⟩
theorem take_any (p im : Nat) (S : List Int) (most taken : Int) (w : World) (A : IdsAt w p im S most taken) (ht : 0 ≤ taken) (hm : most ≤ 65535) : Calls Tryz.prog 65 #[.pointer (some ⟨p, 0, none⟩)] w (TakePost S most taken p im w) := by
 have BP := A.top
 have IS := A.set
 have hne := A.ne
 have hne2 : p ≠ im := fun h => hne h.symm
 have HK : Kept [p, im] w w := Kept.refl _ w
 refine C.enter Tryz.func65 rfl Tryz.ntmps65 rfl ?_
 intro a0 f0
 have f1 : Fr 53 a0 [(0, .pointer (some ⟨p, 0, none⟩))] := f0
 refine C.sk fun K0 hK0 => ?_
 refine L.ag f1 fun a2 f2 => ?_
 refine L.ag f2 fun a3 f3 => ?_
 refine wn hK0 ?_
 have f4 := f3.pk [0, 2, 3]
 refine wp_seq_k fun K1 hK1 => ?_
 refine wp_seq_k fun K2 hK2 => ?_
 refine R.begin (S := fun W => Kept [] w W) (by kernel_rfl) (by exact (Kept.refl _ _).drewN 1) ?_
 have hS1 : Kept [] w (w.drewN 1) := (Kept.refl _ _).drewN 1
 have hd1 : Kept [] w (w.drewN 1) := (Kept.refl _ _).drewN 1
 obtain ⟨w1, hww1⟩ : ∃ W, W = w.drewN 1 := ⟨_, rfl⟩
 rw [← hww1] at hS1 hd1 ⊢
 clear f0 f1 a0 f2 a2 f3 hww1
 have szw1 := hS1.size
 refine R.mv 0 f4 rfl hS1 fun a5 f5 => ?_
 refine R.t 1 f5 rfl hS1 (fun W hW => (E.nilCheck f5 rfl)) fun a6 f6 => ?_
 refine R.t 2 f6 rfl hS1 (fun W hW => (E.fa 0 f6 U88 rfl wsz54_b)) fun a7 f7 => ?_
 refine R.t 3 f7 rfl hS1 (fun W hW => (E.load f7 Tryz.underlying54 rfl rfl ((BP.z hW).cl rfl))) fun a8 f8 => ?_
 refine R.t 4 f8 rfl hS1 (fun W hW => (E.lenM f8 (IS.kept hW (by simp)) Tryz.underlying54 rfl)) fun a9 f9 => ?_
 refine R.mv 5 f9 rfl hS1 fun a10 f10 => ?_
 refine R.t 6 f10 rfl hS1 (fun W hW => (E.nilCheck f10 rfl)) fun a11 f11 => ?_
 clear f4 a3 f5 a5 f6 a6 f7 a7 f8 a8 f9 a9 f10 a10
 refine R.t 7 f11 rfl hS1 (fun W hW => (E.fa 1 f11 U88 rfl wsz3_b)) fun a12 f12 => ?_
 refine R.t 8 f12 rfl hS1 (fun W hW => (E.load f12 U3 rfl rfl ((BP.z hW).cl rfl))) fun a13 f13 => ?_
 refine R.t 9 f13 rfl hS1 (fun W hW => (E.geq f13 rfl rfl)) fun a14 f14 => ?_
 have szw1r := hS1.size
 replace HK := HK.trans hS1 (by simp)
 replace BP := BP.z hS1
 replace IS := IS.kept hS1 (by simp)
 clear f11 a11 f12 a12 f13 a13 hS1
 refine R.done (by kernel_rfl) (hK2 _ _ ?_)
 have f15 := f14.pk [0, 2, 3, 13]
 clear f14
 refine f15.splitD 13 rfl (fun h0 f16 => ?_) (fun h0 f16 => ?_)
 ·have hfull := h0
  refine C.condT f16 rfl ?_
  refine C.sk fun K3 hK3 => ?_
  refine L.ag f16 fun a17 f17 => ?_
  refine L.ag f17 fun a18 f18 => ?_
  have f19 := f18.pk [0, 2, 3]
  refine wn hK3 (wp_ret ?_); (try simp only [xt, xb]); refine C.ret2 f19 rfl rfl rfl ?_
  exact take_full hfull HK ⟨BP, IS, hne⟩
 have hroom := h0
 have hr := Go.Ids.nxtG_some S taken ht (by omega)
 have hb := Go.Ids.stp_bd taken ht
 refine C.condF f16 rfl ?_
 refine wp_skip (hK1 _ _ ?_)
 have f17 := f16.pk [0, 2, 3]
 refine C.sk fun K4 hK4 => ?_
 refine L.mv f17 fun a18 f18 => ?_
 refine L.mv f18 fun a19 f19 => ?_
 refine L.va f19 (E.nilCheck f19 rfl) fun a20 f20 => ?_
 refine L.fa 2 f20 U88 rfl wsz3_b fun a21 f21 => ?_
 refine L.va f21 (E.load f21 U3 rfl rfl ((BP).cl rfl)) fun a22 f22 => ?_
 refine L.va f22 (E.rem f22 rfl rfl (by omega) (Int.tmod_eq_emod_of_nonneg (by omega))) fun a23 f23 => ?_
 clear f15 f16 f17 a14 f18 a18 f19 a19 f20 a20 f21 a21 f22 a22
 refine L.va f23 (E.add f23 rfl rfl (IntWalk.i64_in _ (by omega))) fun a24 f24 => ?_
 refine L.va f24 (E.nilCheck f24 rfl) fun a25 f25 => ?_
 refine L.fa 2 f25 U88 rfl wsz3_b fun a26 f26 => ?_
 refine L.store f26 wantedN wsz3_b rfl rfl rfl BP (by (simp [Value.cells]; done)) fun a27 w2 f27 NB2 ks2 => ?_
 have szw2 := ks2.size
 replace HK := HK.trans ks2 (by simp)
 replace IS := IS.kept ks2 (by simp; omega)
 replace BP := NB2
 simp only [Value.cells, List.setIfInBounds_toArray, List.set_cons_zero, List.set_cons_succ, Nat.reduceAdd, Nat.zero_add] at BP
 clear f23 a23 f24 a24 f25 a25 ks2 f26 a26
 refine wn hK4 ?_
 have f28 := f27.pk [0, 2, 3]
 refine wp_seq_k fun K5 hK5 => ?_
 refine wp_block ?_
 clear f27
 refine C.loop (fun gk a W => ∃ u : Int, Go.Ids.nxtG gk S u = some (Go.Ids.nxt S taken) ∧ 1 ≤ u ∧ u ≤ 65535 ∧ Blk W p 88 #[.map (some im), .int .i64 most, .int .i64 u] ∧ IsSet Tryz.prog 3 4 W im S ∧ Kept [p, im] w W ∧ Fr 53 a [(0, .pointer (some ⟨p, 0, none⟩))]) (65535) ?_ ?_
 ·exact ⟨Go.Ids.stp taken, hr, hb.1, hb.2, BP, IS, HK, f28.sub (sx sn)⟩
 intro gk7 a29 w3 hI KL6 hKL6
 obtain ⟨u, hq, hu1, hu2, BP, IS, HK, f29⟩ := hI
 try clear f28
 have hg := nx_pos hq
 refine wp_seq_k fun K7 hK7 => ?_
 refine wp_seq_k fun K8 hK8 => ?_
 refine R.begin (S := fun W => Kept [] w3 W) (by kernel_rfl) (by exact (Kept.refl _ _).drewN 1) ?_
 have hS4 : Kept [] w3 (w3.drewN 1) := (Kept.refl _ _).drewN 1
 have hd4 : Kept [] w3 (w3.drewN 1) := (Kept.refl _ _).drewN 1
 obtain ⟨w4, hww4⟩ : ∃ W, W = w3.drewN 1 := ⟨_, rfl⟩
 rw [← hww4] at hS4 hd4 ⊢
 clear hww4
 have szw4 := hS4.size
 refine R.mv 0 f29 rfl hS4 fun a30 f30 => ?_
 refine R.t 1 f30 rfl hS4 (fun W hW => (E.nilCheck f30 rfl)) fun a31 f31 => ?_
 refine R.t 2 f31 rfl hS4 (fun W hW => (E.fa 0 f31 U88 rfl wsz54_b)) fun a32 f32 => ?_
 refine R.t 3 f32 rfl hS4 (fun W hW => (E.load f32 Tryz.underlying54 rfl rfl ((BP.z hW).cl rfl))) fun a33 f33 => ?_
 refine R.mv 4 f33 rfl hS4 fun a34 f34 => ?_
 refine R.t 5 f34 rfl hS4 (fun W hW => (E.nilCheck f34 rfl)) fun a35 f35 => ?_
 refine R.t 6 f35 rfl hS4 (fun W hW => (E.fa 2 f35 U88 rfl wsz3_b)) fun a36 f36 => ?_
 clear f29 a29 f30 a30 f31 a31 f32 a32 f33 a33 f34 a34 f35 a35
 refine R.t 7 f36 rfl hS4 (fun W hW => (E.load f36 U3 rfl rfl ((BP.z hW).cl rfl))) fun a37 f37 => ?_
 refine R.t 8 f37 rfl hS4 (fun W hW => (E.look f37 (IS.kept hW (by simp)) U3 U4 Tryz.underlying54 (fun _ => by kernel_rfl) rfl rfl (wf64 (by omega)))) fun a38 f38 => ?_
 have szw4r := hS4.size
 replace HK := HK.trans hS4 (by simp)
 replace BP := BP.z hS4
 replace IS := IS.kept hS4 (by simp)
 clear f36 a36 f37 a37 hS4
 refine R.done (by kernel_rfl) (hK8 _ _ ?_)
 have f39 := f38.pk [0, 23, 24, 25, 26, 27, 28, 29, 30, 31]
 clear f38
 refine f39.splitD 31 rfl (fun h1 f40 => ?_) (fun h1 f40 => ?_)
 ·have hin := h1
  refine C.condT f40 rfl ?_
  refine wp_skip (hK7 _ _ ?_)
  have f41 := f40.pk [0, 23, 24, 25, 26, 27, 28, 29, 30, 31]
  refine wp_block ?_
  refine C.region ?_
  refine L.mv f41 fun a42 f42 => ?_
  refine L.mv f42 fun a43 f43 => ?_
  refine L.va f43 (E.nilCheck f43 rfl) fun a44 f44 => ?_
  refine L.fa 2 f44 U88 rfl wsz3_b fun a45 f45 => ?_
  refine L.va f45 (E.load f45 U3 rfl rfl ((BP).cl rfl)) fun a46 f46 => ?_
  refine L.va f46 (E.rem f46 rfl rfl (by omega) (Int.tmod_eq_emod_of_nonneg (by omega))) fun a47 f47 => ?_
  clear f39 f40 f41 a38 f42 a42 f43 a43 f44 a44 f45 a45 f46 a46
  refine L.va f47 (E.add f47 rfl rfl (IntWalk.i64_in _ (by omega))) fun a48 f48 => ?_
  refine L.va f48 (E.nilCheck f48 rfl) fun a49 f49 => ?_
  refine L.fa 2 f49 U88 rfl wsz3_b fun a50 f50 => ?_
  refine L.store f50 wantedN wsz3_b rfl rfl rfl BP (by (simp [Value.cells]; done)) fun a51 w5 f51 NB5 ks5 => ?_
  have szw5 := ks5.size
  replace HK := HK.trans ks5 (by simp)
  replace IS := IS.kept ks5 (by simp; omega)
  replace BP := NB5
  simp only [Value.cells, List.setIfInBounds_toArray, List.set_cons_zero, List.set_cons_succ, Nat.reduceAdd, Nat.zero_add] at BP
  clear f47 a47 f48 a48 f49 a49 ks5 f50 a50
  refine wpList_nil (hKL6 _ _ (gk7 - 1) ?_ ?_)
  ·omega
  exact ⟨Go.Ids.stp u, nx_step hq hin, (Go.Ids.stp_bd u (by omega)).1, (Go.Ids.stp_bd u (by omega)).2, BP, IS, HK, f51.sub (sx sn)⟩
 have hout := h1
 obtain rfl := nx_done hq hout
 refine C.condF f40 rfl ?_
 refine wp_exit (hK5 _ _ ?_)
 have f41 := f40.pk [0]
 refine wp_seq_k fun K9 hK9 => ?_
 have KN := Kept.refl [] w4
 refine R.begin (S := fun W => Kept [im] w4 W) (by kernel_rfl) (by exact (Kept.refl _ _).drewN 1) ?_
 have hS6 : Kept [im] w4 (w4.drewN 1) := (Kept.refl _ _).drewN 1
 have hd6 : Kept [] w4 (w4.drewN 1) := (Kept.refl _ _).drewN 1
 obtain ⟨w5, hww5⟩ : ∃ W, W = w4.drewN 1 := ⟨_, rfl⟩
 rw [← hww5] at hS6 hd6 ⊢
 clear f39 f40 hww5
 have szw5 := hS6.size
 replace KN := KN.trans hd6 (by simp)
 refine R.mv 0 f41 rfl hS6 fun a42 f42 => ?_
 refine R.t 1 f42 rfl hS6 (fun W hW => (E.nilCheck f42 rfl)) fun a43 f43 => ?_
 refine R.t 2 f43 rfl hS6 (fun W hW => (E.fa 0 f43 U88 rfl wsz54_b)) fun a44 f44 => ?_
 refine R.t 3 f44 rfl hS6 (fun W hW => (E.load f44 Tryz.underlying54 rfl rfl ((BP.kept hW (by simp; omega)).cl rfl))) fun a45 f45 => ?_
 refine R.mv 4 f45 rfl hS6 fun a46 f46 => ?_
 refine R.t 5 f46 rfl hS6 (fun W hW => (E.nilCheck f46 rfl)) fun a47 f47 => ?_
 refine R.t 6 f47 rfl hS6 (fun W hW => (E.fa 2 f47 U88 rfl wsz3_b)) fun a48 f48 => ?_
 clear f41 a38 f42 a42 f43 a43 f44 a44 f45 a45 f46 a46 f47 a47
 refine R.t 7 f48 rfl hS6 (fun W hW => (E.load f48 U3 rfl rfl ((BP.kept hW (by simp; omega)).cl rfl))) fun a49 f49 => ?_
 refine R.one 8 (by kernel_rfl) ?_
 refine O.mapPut f49 rfl wantedN (IS.kept KN (by simp)) U3 U4 Tryz.underlying54 rfl rfl rfl (wf64 (by omega)) (by unfold maxLen; omega) (fun _ hk => hS6.trans hk (by simp)) fun a50 w6 IN ks f50 => ?_
 replace hS6 := hS6.trans ks (by simp)
 have szw6 := ks.size
 clear f48 a48 f49 a49 ks
 have szw6r := hS6.size
 replace HK := HK.trans hS6 (by simp)
 replace BP := BP.kept hS6 (by simp; omega)
 clear hS6
 refine R.done (by kernel_rfl) (hK9 _ _ ?_)
 have f51 := f50.pk [0]
 refine C.sk fun K10 hK10 => ?_
 refine L.mv f51 fun a52 f52 => ?_
 refine L.va f52 (E.nilCheck f52 rfl) fun a53 f53 => ?_
 refine L.fa 2 f53 U88 rfl wsz3_b fun a54 f54 => ?_
 refine L.va f54 (E.load f54 U3 rfl rfl ((BP).cl rfl)) fun a55 f55 => ?_
 refine L.ag f55 fun a56 f56 => ?_
 refine L.ag f56 fun a57 f57 => ?_
 have f58 := f57.pk [2, 3]
 clear f50 f51 a50 f52 a52 f53 a53 f54 a54 f55 a55 f56 a56 f57
 refine wn hK10 (wp_ret ?_); (try simp only [xt, xb]); refine C.ret2 f58 rfl rfl rfl ?_
 exact take_got (by omega) HK ⟨BP, IN, hne⟩
end Go.Proofs.YtdfllmiokgoekaaGreatDoor
