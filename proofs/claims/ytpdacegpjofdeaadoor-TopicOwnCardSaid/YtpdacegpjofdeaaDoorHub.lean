/- Helps of our own that name no program: which blocks a call may have changed ('Kept'), blocks known whole ('Blk'), and a set of ints kept in a map[int]bool ('IsSet'). -/
import Derived.WalkKit
import Derived.WalkSpells
import Derived.WalkLawsBesides
import Derived.Deep.LoopGhost
import Derived.Deep.QuietTactic
import Derived.BigQuiet
import Derived.Deep.Draws
import Derived.Maps.OwnSet
import Derived.StillTailTactics
set_option linter.all false
namespace Go.Hub
open Go.RowKit Go.Maps Go.ChangeMaps Go.MapKept

theorem hid {p : Prop} (h : p) : Hid p := h

/-- Of the blocks that w had, those in L alone may differ in w'. -/
structure Kept (L : List Nat) (w w' : World) : Prop where
  os : w'.os = w.os
  tape : w'.tape = w.tape
  output : w'.output = w.output
  size : w.heap.size ≤ w'.heap.size
  block : ∀ k, k < w.heap.size → k ∉ L → w'.heap[k]? = w.heap[k]?

section
variable {L L' : List Nat} {w w' w'' : World}
theorem Kept.refl (L : List Nat) (w : World) : Kept L w w := ⟨rfl, rfl, rfl, Nat.le_refl _, fun _ _ _ => rfl⟩
theorem Kept.trans (h : Kept L w w') (k : Kept L' w' w'') (hs : ∀ x ∈ L', x < w.heap.size → x ∈ L) : Kept L w w'' :=
  ⟨k.os.trans h.os, k.tape.trans h.tape, k.output.trans h.output, Nat.le_trans h.size k.size,
   fun i hi hn => (k.block i (Nat.lt_of_lt_of_le hi h.size) (fun hx => hn (hs i hx hi))).trans (h.block i hi hn)⟩
theorem Kept.mono (h : Kept L w w') (hs : ∀ x ∈ L, x < w.heap.size → x ∈ L') : Kept L' w w' :=
  ⟨h.os, h.tape, h.output, h.size, fun i hi hn => h.block i hi (fun hx => hn (hs i hx hi))⟩
theorem Kept.drew (h : Kept L w w') : Kept L w w'.drew := ⟨h.os, h.tape, h.output, h.size, h.block⟩
theorem Kept.drewN (h : Kept L w w') (n : Nat) : Kept L w (w'.drewN n) := ⟨h.os, h.tape, h.output, h.size, h.block⟩
theorem Kept.of_drewN {n : Nat} (h : Kept L (w.drewN n) w') : Kept L w w' := ⟨h.os, h.tape, h.output, h.size, h.block⟩
theorem Kept.of_drew (h : Kept L w.drew w') : Kept L w w' := ⟨h.os, h.tape, h.output, h.size, h.block⟩
theorem Kept.alloc (h : Kept L w w') (o : Obj) : Kept L w (w'.alloc o) :=
  h.trans (L' := []) ⟨rfl, rfl, rfl, by simp, fun k hk _ => Below.heap_alloc _ _ _ hk⟩ (by simp)
theorem Kept.setCell (h : Kept L w w') {p : Addr} (hp : p.block < w.heap.size → p.block ∈ L) (u : Value) : Kept L w (w'.setCell p u) :=
  h.trans (L' := [p.block]) ⟨rfl, rfl, rfl, by simp [World.setCell], fun k _ hn => Below.heap_setCell _ _ _ _ (by simpa using hn)⟩ (by simpa using hp)
theorem Kept.grown (h : Kept L w w') {row : Option Nat} (hg : w'.grownBy w'' row) (hr : ∀ k, row = some k → k < w.heap.size → k ∈ L) : Kept L w w'' :=
  ⟨hg.os.trans h.os, hg.tape.trans h.tape, hg.output.trans h.output, Nat.le_trans h.size hg.size,
   fun i hi hn => (hg.block i (Nat.lt_of_lt_of_le hi h.size) (fun e => hn (hr i e.symm hi))).trans (h.block i hi hn)⟩
theorem Kept.below (h : Kept L w w') {B : Nat} (hB : ∀ x ∈ L, B ≤ x) (hs : B ≤ w.heap.size) : Below B w w' :=
  ⟨h.os, h.tape, h.output, h.size, fun k hk => h.block k (by omega) (fun hx => by have := hB k hx; omega)⟩
theorem Kept.of_below (h : Below w.heap.size w w') (L : List Nat) : Kept L w w' := ⟨h.os, h.tape, h.output, h.size, fun k hk _ => h.block k hk⟩
theorem belowDrewN {B : Nat} (h : Below B w w') (n : Nat) : Below B w (w'.drewN n) := ⟨h.os, h.tape, h.output, h.size, h.block⟩
theorem Kept.cell (h : Kept L w w') {p : Addr} (hp : p.block < w.heap.size) (hn : p.block ∉ L) : w'.cell? p = w.cell? p := World.cell?_of_block (w := w) (h.block p.block hp hn)
end

/-- Block g is just these cells, none frozen. -/
def Blk (w : World) (g : Nat) (t : TypeId) (cs : Array Value) : Prop := w.heap[g]? = some (.cells cs t (0, 0))
section
variable {w w' : World} {g : Nat} {t : TypeId} {cs : Array Value}
theorem Blk.lt (h : Blk w g t cs) : g < w.heap.size := by
  rcases Nat.lt_or_ge g w.heap.size with hlt | hge
  · exact hlt
  · unfold Blk at h; rw [Array.getElem?_eq_none hge] at h; cases h
theorem Blk.cell (h : Blk w g t cs) (i : Nat) : w.cell? ⟨g, i, none⟩ = cs[i]? := cell_of_row w g i cs t (0, 0) h
theorem Blk.cell_ (h : Blk w g t cs) {i : Nat} {v : Value} (hv : cs[i]? = some v) : w.cell? ⟨g, i, none⟩ = some v := (h.cell i).trans hv
theorem Blk.frozen (h : Blk w g t cs) (i : Nat) : w.frozen? ⟨g, i, none⟩ = false := by
  unfold Blk at h
  simp [World.frozen?, h]
theorem Blk.new (w : World) (t : TypeId) (cs : Array Value) : Blk (w.alloc (.cells cs t)) w.heap.size t cs := heap_alloc_new w _
theorem Blk.alloc (h : Blk w g t cs) (o : Obj) : Blk (w.alloc o) g t cs := (Below.heap_alloc w o g h.lt).trans h
theorem Blk.set_ (h : Blk w g t cs) (i : Nat) (u : Value) : Blk (w.setCell ⟨g, i, none⟩ u) g t (cs.setIfInBounds i u) := by
  unfold Blk at h ⊢
  simp [World.setCell, Array.getElem?_modify, h]
theorem Blk.far (h : Blk w g t cs) {p : Addr} (hp : g ≠ p.block) (u : Value) : Blk (w.setCell p u) g t cs := (Below.heap_setCell w p u g hp).trans h
theorem Blk.kept {L : List Nat} (h : Blk w g t cs) (hk : Kept L w w') (hg : g ∉ L) : Blk w' g t cs := (hk.block g h.lt hg).trans h
theorem Blk.drewN (h : Blk w g t cs) (n : Nat) : Blk (w.drewN n) g t cs := h
theorem Blk.drew (h : Blk w g t cs) : Blk w.drew g t cs := h
end

/-! ### a set of ints in a map[int]bool -/
section
variable {H : Type} {P : Program} {e : TypeId}
theorem plainElem_bool_inv (he : P.underlying e = some .bool) {v : Value} {z : DataW H × List MemPlace} (h : plainElem P e v = some z) : ∃ x, v = .bool x ∧ z = (.lit (.bool x), []) := by
  unfold plainElem at h
  rw [he] at h
  cases v <;> simp at h
  exact ⟨_, rfl, h.symm⟩
end

/-- The map in block m holds true at just the members of S. -/
def IsSet (P : Program) (k e : TypeId) (w : World) (m : Nat) (S : List Int) : Prop :=
  S.Nodup ∧ ∃ (D : DataW Unit), w.ownsMap P k (plainElem P e) m S.length D ∧ Maps.size D = S.length ∧
    (∀ x : Int, Maps.has D (.int .i64 x) = decide (x ∈ S)) ∧ ∀ x : Int, D.atKey (.int .i64 x) (.lit (.bool false)) = .lit (.bool (decide (x ∈ S)))

section
variable {P : Program} {k e t : TypeId} {w w' : World} {m : Nat} {S : List Int}
theorem ownsMap_exact {H : Type} {R : Value → Option (DataW H × List MemPlace)} {b n n' : Nat} {D : DataW H} (h : w.ownsMap P k R b n D) (hn : Maps.size D ≤ n') : w.ownsMap P k R b n' D := by
  obtain ⟨es, clock, hb, F, hs, rfl⟩ := h
  refine ⟨es, clock, hb, F, ?_, rfl⟩
  simpa [Maps.size, length_sorted] using hn
theorem IsSet.lt (h : IsSet P k e w m S) : m < w.heap.size := by obtain ⟨_, D, ho, _⟩ := h; exact ho.lt
theorem IsSet.nodup (h : IsSet P k e w m S) : S.Nodup := h.1
theorem IsSet.made (w : World) (P : Program) (k e : TypeId) : IsSet P k e (w.alloc (.map #[] 0)) w.heap.size [] :=
  ⟨List.nodup_nil, .map [], World.ownsMap_made w P k _, rfl, fun x => by simp [Maps.has], fun x => by simp [DataW.atKey]⟩
theorem IsSet.of_block (h : IsSet P k e w m S) (hb : w'.heap[m]? = w.heap[m]?) : IsSet P k e w' m S := by
  obtain ⟨hn, D, ⟨es, clock, h1, h2⟩, r⟩ := h
  exact ⟨hn, D, ⟨es, clock, hb.trans h1, h2⟩, r⟩
theorem IsSet.kept {L : List Nat} (h : IsSet P k e w m S) (hk : Kept L w w') (hm : m ∉ L) : IsSet P k e w' m S := h.of_block (hk.block m h.lt hm)
theorem IsSet.alloc (h : IsSet P k e w m S) (o : Obj) : IsSet P k e (w.alloc o) m S := h.of_block (Below.heap_alloc w o m h.lt)
theorem IsSet.drewN (h : IsSet P k e w m S) (n : Nat) : IsSet P k e (w.drewN n) m S := h
theorem IsSet.drew (h : IsSet P k e w m S) : IsSet P k e w.drew m S := h
theorem IsSet.far (h : IsSet P k e w m S) {p : Addr} (hp : m ≠ p.block) (u : Value) : IsSet P k e (w.setCell p u) m S := h.of_block (Below.heap_setCell w p u m hp)
theorem IsSet.look (h : IsSet P k e w m S) (hk : P.underlying k = some (.int .i64)) (he : P.underlying e = some .bool) (ht : P.underlying t = some (.map k e)) (hz : (zeroValue e).run P w = .ok (.bool false) w)
    {x : Int} (hx : (Lit.int .i64 x).wf = true) : (Instr.lookup t (.map (some m)) (.int .i64 x) false).run P w = .ok (.bool (decide (x ∈ S))) w := by
  obtain ⟨_, D, ho, _, _, hat⟩ := h
  obtain ⟨v, ps, hrun, hv⟩ := ho.lookup (int_keyed hk) ht hz (plainElem_bool he false) (keyOf_int_mk hk hx)
  obtain ⟨y, rfl, hy⟩ := plainElem_bool_inv he hv
  rw [hat x] at hy
  simp only [Prod.mk.injEq, DataW.lit.injEq, Lit.bool.injEq] at hy
  rw [hrun, hy.1]
theorem IsSet.len (h : IsSet P k e w m S) (ht : P.underlying t = some (.map k e)) (ty : TypeId) : (Builtin.len_ #[t] ty #[.map (some m)]).run P w = .ok (.int .i64 S.length) w := by
  obtain ⟨_, D, ho, hs, _⟩ := h
  rw [ho.len ht ty, hs]
theorem turned_kept {b : Nat} (h : w.mapTurned w' b) : Kept [b] w w' := by
  obtain ⟨es, clock, es', clock', hb, rfl⟩ := h
  exact ⟨rfl, rfl, rfl, by simp [setBlock], fun i _ hi => heap_setBlock_other hb _ (by simpa using hi)⟩
theorem int_lit_inj {a b : Int} : (Lit.int .i64 a ≠ Lit.int .i64 b) ↔ a ≠ b := by simp
theorem IsSet.store (h : IsSet P k e w m S) (hk : P.underlying k = some (.int .i64)) (he : P.underlying e = some .bool) (ht : P.underlying t = some (.map k e))
    {x : Int} (hx : (Lit.int .i64 x).wf = true) (hS : S.length < maxLen) (hn : x ∉ S) :
    ∃ w', (Instr.mapUpdate t (.map (some m)) (.int .i64 x) (.bool true)).run P w = .ok () w' ∧ IsSet P k e w' m (x :: S) ∧ Kept [m] w w' := by
  obtain ⟨hnd, D, ho, hs, hhas, hat⟩ := h
  have hkey := keyOf_int_mk hk hx
  have K := int_keyed hk
  obtain ⟨w', hrun, ho', ht'⟩ := ho.store K ht hS hkey (plainElem_bool he true)
  have tidy := ho.tidy K
  refine ⟨w', hrun, ⟨List.nodup_cons.2 ⟨hn, hnd⟩, _, ho', ?_, ?_, ?_⟩, turned_kept ht'⟩
  · rw [Maps.size_put tidy, hhas x]
    simp [hn, hs]
  · intro y
    by_cases hy : y = x
    · subst hy
      rw [Maps.has_put_same ho.isMap (K.key hkey)]
      simp
    · rw [Maps.has_put_other (int_lit_inj.2 hy), hhas y]
      simp [hy]
  · intro y
    by_cases hy : y = x
    · subst hy
      rw [Maps.atKey_put_same ho.isMap (K.key hkey)]
      simp
    · rw [Maps.atKey_put_other (int_lit_inj.2 hy), hat y]
      simp [hy]
theorem IsSet.drop (h : IsSet P k e w m S) (hk : P.underlying k = some (.int .i64)) (ht : P.underlying t = some (.map k e))
    {x : Int} (hx : (Lit.int .i64 x).wf = true) (ty : TypeId) :
    ∃ w', (Builtin.delete_ #[t, k] ty #[.map (some m), .int .i64 x]).run P w = .ok (.tuple #[]) w' ∧ IsSet P k e w' m (S.erase x) ∧ Kept [m] w w' := by
  obtain ⟨hnd, D, ho, hs, hhas, hat⟩ := h
  have hkey := keyOf_int_mk hk hx
  have K := int_keyed hk
  obtain ⟨w', hrun, ho', ht'⟩ := ho.drop K ht hkey ty
  have tidy := ho.tidy K
  have hsz : Maps.size (D.del (.int .i64 x)) = (S.erase x).length := by
    have := Maps.size_del (k := .int .i64 x) tidy
    rw [hhas x, hs] at this
    by_cases hm : x ∈ S
    · simp [hm] at this
      rw [List.length_erase_of_mem hm]
      omega
    · simp [hm] at this
      rw [List.erase_of_not_mem hm]
      exact this
  refine ⟨w', hrun, ⟨hnd.erase x, _, ownsMap_exact ho' (by rw [hsz]; exact Nat.le_refl _), hsz, ?_, ?_⟩, turned_kept ht'⟩
  · intro y
    by_cases hy : y = x
    · subst hy
      rw [Maps.has_del_same]
      simp [hnd.mem_erase_iff]
    · rw [Maps.has_del_other (int_lit_inj.2 hy), hhas y]
      simp [hnd.mem_erase_iff, hy]
  · intro y
    by_cases hy : y = x
    · subst hy
      rw [Maps.atKey_del_same]
      simp [hnd.mem_erase_iff]
    · rw [Maps.atKey_del_other (int_lit_inj.2 hy), hat y]
      simp [hnd.mem_erase_iff, hy]
/-- The store after however many draws, all at once: to be laid ahead of a walk. -/
theorem IsSet.storeN (h : IsSet P k e w m S) (hk : P.underlying k = some (.int .i64)) (he : P.underlying e = some .bool) (ht : P.underlying t = some (.map k e))
    {x : Int} (hx : (Lit.int .i64 x).wf = true) (hS : S.length < maxLen) (hn : x ∉ S) :
    ∃ f : Nat → World, (∀ n, (Instr.mapUpdate t (.map (some m)) (.int .i64 x) (.bool true)).run P (w.drewN n) = .ok () (f n)) ∧ ∀ n, IsSet P k e (f n) m (x :: S) ∧ Kept [m] w (f n) := by
  have key : ∀ n, ∃ w', (Instr.mapUpdate t (.map (some m)) (.int .i64 x) (.bool true)).run P (w.drewN n) = .ok () w' ∧ IsSet P k e w' m (x :: S) ∧ Kept [m] w w' := fun n => by
    obtain ⟨w', h1, h2, h3⟩ := (h.drewN n).store hk he ht hx hS hn
    exact ⟨w', h1, h2, h3.of_drewN⟩
  exact ⟨fun n => Classical.choose (key n), fun n => (Classical.choose_spec (key n)).1, fun n => (Classical.choose_spec (key n)).2⟩
/-- 'm[x] = true' at the operation, x not yet in the set. -/
theorem wpList_set_store {ops : Array Oper} {rest : List Oper} {o : Oper} {a : Act} {Q : Exit → Act → World → Prop}
    (hg : o.guard = none) (mo xo vo : Operand) (hop : o.op = Op.mapUpdate t mo xo vo) (hk : P.underlying k = some (.int .i64)) (he : P.underlying e = some .bool) (ht : P.underlying t = some (.map k e))
    (hset : IsSet P k e w m S) (x : Int) (hm : a.eval mo = .map (some m)) (hx : a.eval xo = .int .i64 x) (hv : a.eval vo = .bool true) (hwf : (Lit.int .i64 x).wf = true) (hS : S.length < maxLen) (hn : x ∉ S)
    (hK : ∀ w', IsSet P k e w' m (x :: S) → Kept [m] w w' → wpList P ops Q rest (a.put o.dst undef) w') : wpList P ops Q (o :: rest) a w := by
  refine wpList_plain hg fun K' hK' => ?_
  obtain ⟨w', hrun, r1, r2⟩ := hset.store hk he ht hwf hS hn
  unfold Oper.wp
  simp [execOp, hop, hm, hx, hv, hrun, Result.andThen]
  exact hK' _ _ (hK w' r1 r2)
/-- 'delete(m, x)' at the operation. -/
theorem wpList_set_drop {ops : Array Oper} {rest : List Oper} {o : Oper} {a : Act} {Q : Exit → Act → World → Prop}
    (hg : o.guard = none) (mo xo : Operand) (hop : o.op = Op.call { callee := Callee.builtin Builtin.delete, args := #[mo, xo], argTypes := #[t, k] }) (hk : P.underlying k = some (.int .i64)) (ht : P.underlying t = some (.map k e))
    (hset : IsSet P k e w m S) (x : Int) (hm : a.eval mo = .map (some m)) (hx : a.eval xo = .int .i64 x) (hwf : (Lit.int .i64 x).wf = true)
    (hK : ∀ w', IsSet P k e w' m (S.erase x) → Kept [m] w w' → wpList P ops Q rest (a.put o.dst (.tuple #[])) w') : wpList P ops Q (o :: rest) a w := by
  refine wpList_plain hg fun K' hK' => ?_
  obtain ⟨w', hrun, r1, r2⟩ := hset.drop hk ht hwf o.type
  unfold Oper.wp
  simp [execOp, hop, resolve, invoke, builtin, hm, hx, hrun, Result.andThen]
  exact hK' _ _ (hK w' r1 r2)
end

/-! ### what an argument that is a slice of integers reads as -/
def IsRow (k : IntKind) (w : World) (a : Option Addr) (len cap : Nat) (zs : List Int) : Prop :=
  (a = none ∧ len = 0 ∧ cap = 0 ∧ zs = []) ∨
  ∃ x, a = some x ∧ len ≤ cap ∧ cap ≤ maxLen ∧ zs.length = cap ∧ (∀ i, i < zs.length → w.cell? (x.add i) = some (.int k (zs.getD i 0))) ∧ ∀ n ∈ zs, (Lit.int k n).wf = true
/-- The slice holds the numbers zs; all of it lies below block B. -/
def Ints (k : IntKind) (w : World) (B : Nat) (a : Option Addr) (len : Nat) (zs : List Int) : Prop :=
  zs.length = len ∧ len ≤ maxLen ∧ (∀ n ∈ zs, (Lit.int k n).wf = true) ∧
  (0 < len → ∃ b off, a = some ⟨b, off, none⟩ ∧ b < B ∧ ∀ i, i < len → w.cell? ⟨b, off + i, none⟩ = some (.int k (zs.getD i 0)))
theorem add_none (b off i : Nat) : (Addr.mk b off none).add i = ⟨b, off + i, none⟩ := by
  unfold Addr.add
  split
  · rename_i h; simp_all
  · rfl
theorem Ints.of_isRow {k : IntKind} {w : World} {a : Option Addr} {len cap : Nat} {zs : List Int} (h : IsRow k w a len cap zs) : Ints k w w.heap.size a len (zs.take len) := by
  rcases h with ⟨rfl, rfl, rfl, rfl⟩ | ⟨x, rfl, hl, hm, hz, hc, hw⟩
  · exact ⟨rfl, by simp [maxLen], by simp, fun h => absurd h (by omega)⟩
  · refine ⟨by simp; omega, by omega, fun n hn => hw n (List.mem_of_mem_take hn), fun hp => ?_⟩
    obtain ⟨b, off, s⟩ := x
    have h0 := hc 0 (by omega)
    have hs := World.cell?_spot h0
    have hs' : s = none := by simpa [Addr.add] using hs
    subst hs'
    refine ⟨b, off, rfl, ?_, fun i hi => ?_⟩
    · have := World.block_lt_of_cell? w _ h0
      simpa [Addr.add] using this
    · have := hc i (by omega)
      rw [add_none] at this
      rw [this]
      congr 2
      simp [List.getD_eq_getElem?_getD, List.getElem?_take, hi]
theorem Ints.at_ {k : IntKind} {w : World} {B : Nat} {a : Option Addr} {len : Nat} {zs : List Int} (h : Ints k w B a len zs) {i : Nat} (hi : i < len) : ∃ z, zs.getD i 0 = z ∧ (Lit.int k z).wf = true ∧ zs[i]? = some z :=
  have hl : i < zs.length := by have := h.1; omega
  ⟨zs[i], by simp [List.getD_eq_getElem?_getD, hl], h.2.2.1 _ (List.getElem_mem hl), by simp [hl]⟩
theorem Ints.below {k : IntKind} {w w' : World} {B : Nat} {a : Option Addr} {len : Nat} {zs : List Int} (h : Ints k w B a len zs) (hb : Below B w w') : Ints k w' B a len zs :=
  ⟨h.1, h.2.1, h.2.2.1, fun hp => by
    obtain ⟨b, off, e, hB, hc⟩ := h.2.2.2 hp
    exact ⟨b, off, e, hB, fun i hi => (hb.cell (p := ⟨b, off + i, none⟩) hB).trans (hc i hi)⟩⟩

theorem bd_u8 {n : Int} (h : (Lit.int .u8 n).wf = true) : 0 ≤ n ∧ n ≤ 255 := by simpa [Lit.wf, IntKind.min, IntKind.max, IntKind.signed, IntKind.bits] using h
theorem bd_u16 {n : Int} (h : (Lit.int .u16 n).wf = true) : 0 ≤ n ∧ n ≤ 65535 := by simpa [Lit.wf, IntKind.min, IntKind.max, IntKind.signed, IntKind.bits] using h
theorem bd_u32 {n : Int} (h : (Lit.int .u32 n).wf = true) : 0 ≤ n ∧ n ≤ 4294967295 := by simpa [Lit.wf, IntKind.min, IntKind.max, IntKind.signed, IntKind.bits] using h
theorem bd_i64 {n : Int} (h : (Lit.int .i64 n).wf = true) : -9223372036854775808 ≤ n ∧ n ≤ 9223372036854775807 := by simpa [Lit.wf, IntKind.min, IntKind.max, IntKind.signed, IntKind.bits] using h
end Go.Hub
