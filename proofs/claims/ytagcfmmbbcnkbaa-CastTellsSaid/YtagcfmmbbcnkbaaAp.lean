/- The step library: slices that are made and grown. -/
import Derived.Test.YtagcfmmbbcnkbaaSl
import Derived.Great.BuildSlice
set_option linter.all false
namespace Go.Hub
open Go.RowKit

section
variable {P : Program} {ops : Array Oper} {Q : Exit → Act → World → Prop} {md : Region.Mode} {S : World → Prop} {a : Act} {w w' : World} {n d : Nat} {l : FL} {v : Value} {o : Oper} {K : Act → World → Prop}
/-! ### one operation of a region that draws -/
theorem O.val {i : Nat} (f : Fr n a l) (hi : ops[i]? = some o) (hd : o.dst = some d) (hn : d < n) (hw : Region.wanted o (yielded ops a.tmps) = true)
    (hv : (execOp a.eval o).run P w = .ok (.value v) w') (hS : S w') (hK : ∀ a', Fr n a' ((d, v) :: l) → K a' w') : wpOp P ops Q i (fun a w => S w ∧ K a w) a w := by
  unfold wpOp
  simp only [hi, hw, if_true]
  refine .inl ?_
  unfold Oper.wp
  rw [hv]
  show S w' ∧ K (a.put o.dst v) w'
  rw [hd]
  exact ⟨hS, hK _ (f.put d v hn)⟩
theorem R.one (i : Nat) {fuel : Nat} {listed : Array Bool} (hr : Region.ready md ops listed = [i]) (h : wpOp P ops Q i (fun a w => S w ∧ wpAnyH P md ops Q S fuel (listed.setIfInBounds i true) a w) a w) : wpAnyH P md ops Q S (fuel + 1) listed a w :=
  wpAnyH_all hr (by simp) fun j hj => by
    simp only [List.mem_singleton] at hj
    subst hj
    exact h
theorem R.two (i j : Nat) {fuel : Nat} {listed : Array Bool} (hr : Region.ready md ops listed = [i, j]) (h : wpOp P ops Q i (fun a w => S w ∧ wpAnyH P md ops Q S fuel (listed.setIfInBounds i true) a w) a w)
    (h' : wpOp P ops Q j (fun a w => S w ∧ wpAnyH P md ops Q S fuel (listed.setIfInBounds j true) a w) a w) : wpAnyH P md ops Q S (fuel + 1) listed a w :=
  wpAnyH_all hr (by simp) fun k hk => by
    simp only [List.mem_cons, List.not_mem_nil, or_false] at hk
    rcases hk with rfl | rfl
    · exact h
    · exact h'
end

section
variable {P : Program} {ops : Array Oper} {rest : List Oper} {a : Act} {w : World} {Q : Exit → Act → World → Prop} {n d : Nat} {l : FL} {v : Value} {ty : TypeId} {ps : String} {af : Array Edge} {gd : Option (Nat × Bool)} {x y : Operand} {t : TypeId}
/-! ### a slice literal -/
theorem E.buildSlice {dst : Option Nat} (f : Fr n a l) {parts : Array (Nat × Operand)} {vs : List (Nat × Value)} {e len sz : Nat} {cells : Array Value} {z : Value} (hx : (parts.map fun p => (p.1, a.eval p.2)).toList = vs) (hu : P.underlying t = some (.slice e))
    (hi : (P.info? e).map (fun i => (i.zero, i.size)) = some (some z, sz)) (hs : Nat.ble (len * sz) 16777216 = true) (hp : Nat.beq (len * sz) 0 = false) (hf : Instr.fill (fun i => some (i * sz, sz)) ((Array.range (len * sz)).map fun j => z.cells[j % z.cells.size]!) vs = some cells) :
    (execOp a.eval ⟨dst, .buildSlice t len parts, ty, ps, af, gd⟩).run P w = .ok (.value (.slice (some ⟨w.heap.size, 0, none⟩) len len)) (w.alloc (.cells cells e)) := by
  cases hq : P.info? e with
  | none => simp [hq] at hi
  | some ie =>
    simp [hq] at hi
    obtain ⟨h1, h2⟩ := hi
    subst h2
    have hx' : (parts.map fun (i, x) => (i, a.eval x)).toList = vs := hx
    have hle := Nat.le_of_ble_eq_true hs
    have hr := run_buildSlice (P := P) w t e len (parts.map fun (i, x) => (i, a.eval x)) cells ie z hu hq h1 (by omega) (fun h0 => by rw [h0] at hp; simp at hp) (by rw [hx']; exact hf)
    simp only [execOp]
    rw [Sem.run_bind, hr]
    rfl
theorem E.buildNone {dst : Option Nat} (f : Fr n a l) {e : TypeId} {sz : Nat} (hu : P.underlying t = some (.slice e)) (hi : (P.info? e).map (·.size) = some sz) :
    (execOp a.eval ⟨dst, .buildSlice t 0 #[], ty, ps, af, gd⟩).run P w = .ok (.value (.slice (some ⟨w.heap.size, 0, none⟩) 0 0)) (w.alloc (.cells #[] e)) := by
  cases hq : P.info? e with
  | none => simp [hq] at hi
  | some ie =>
    have e0 : ∀ z : Array Value, (Array.range 0).map (fun x => z[x % z.size]!) = #[] := fun z => by simp
    have e1 : (Array.range 0).map (fun _ => (default : Value)) = #[] := by simp [Array.range]
    simp [execOp, Instr.buildSlice, run_underlying hu, sizeOf, typeInfo, hq, Instr.fill, newRow]
    rw [e1]
theorem L.buildSlice (f : Fr n a l) {parts : Array (Nat × Operand)} {len : Nat} (hw : Region.wanted ⟨some d, .buildSlice t len parts, ty, ps, af, gd⟩ (yielded ops a.tmps) = true) (hn : d < n) {vs : List (Nat × Value)} {e sz : Nat} {cells : Array Value} {z : Value} (hx : (parts.map fun p => (p.1, a.eval p.2)).toList = vs) (hu : P.underlying t = some (.slice e))
    (hi : (P.info? e).map (fun i => (i.zero, i.size)) = some (some z, sz)) (hs : Nat.ble (len * sz) 16777216 = true) (hp : Nat.beq (len * sz) 0 = false) (hf : Instr.fill (fun i => some (i * sz, sz)) ((Array.range (len * sz)).map fun j => z.cells[j % z.cells.size]!) vs = some cells)
    (hK : ∀ a' w' g, Newb w w' g e cells → Fr n a' ((d, .slice (some ⟨g, 0, none⟩) len len) :: l) → wpList P ops Q rest a' w') : wpList P ops Q (⟨some d, .buildSlice t len parts, ty, ps, af, gd⟩ :: rest) a w :=
  L.val f hw rfl hn (E.buildSlice f hx hu hi hs hp hf) fun a' f' => hK a' _ _ (newb w e _) f'
theorem L.buildNone (f : Fr n a l) (hw : Region.wanted ⟨some d, .buildSlice t 0 #[], ty, ps, af, gd⟩ (yielded ops a.tmps) = true) (hn : d < n) {e : TypeId} {sz : Nat} (hu : P.underlying t = some (.slice e)) (hi : (P.info? e).map (·.size) = some sz)
    (hK : ∀ a' w' g, Newb w w' g e #[] → Fr n a' ((d, .slice (some ⟨g, 0, none⟩) 0 0) :: l) → wpList P ops Q rest a' w') : wpList P ops Q (⟨some d, .buildSlice t 0 #[], ty, ps, af, gd⟩ :: rest) a w :=
  L.val f hw rfl hn (E.buildNone f hu hi) fun a' f' => hK a' _ _ (newb w e _) f'
theorem Newb.own {w w' : World} {g : Nat} {e : TypeId} {cs : Array Value} (h : Newb w w' g e cs) {k size : Nat} (hs : cs.size = k * size) (hk : k ≤ maxLen) : Own w' e size (.slice (some ⟨g, 0, none⟩) k k) k cs.toList :=
  ⟨by simpa using hs, .inr ⟨g, 0, k, cs, rfl, h.blk, Nat.le_refl _, hk, by omega, fun j u hu => by rw [Nat.zero_add]; simpa using hu⟩⟩
/-! ### append -/
/-- what an append comes to -/
structure App (w w' : World) (e : TypeId) (size : Nat) (A : Option Addr) (k c : Nat) (xs news : List Value) (m : Nat) (A' : Option Addr) (c' : Nat) : Prop where
  own : Own w' e size (.slice A' (k + m) c') (k + m) (xs ++ news)
  kept : Kept (Value.slice A k c).ownBlock.toList w w'
  where_ : ∀ b, A'.map (·.block) = some b → A.map (·.block) = some b ∨ w.heap.size ≤ b
theorem E.append {dst : Option Nat} (f : Fr n a l) {e size bytes k c m c2 : Nat} {z : Value} {A A2 : Option Addr} {xs news : List Value} (ht : P.underlying t = some (.slice e)) (hi : (P.info? e).map (fun i => (i.zero, i.size, i.bytes)) = some (some z, size, bytes)) (hzs : z.cells.size = size) (hsz : Nat.blt 0 size = true)
    (hx : evl l x = some (.slice A k c)) (hy : evl l y = some (.slice A2 m c2)) (hown : Own w e size (.slice A k c) k xs) (hr : Sl w A2 m size news) (h1 : ∀ u ∈ news, u.oneCell' = true) (h63 : k + m ≤ maxLen) (hb : (k + m) * bytes ≤ 140737488355328) :
    ∃ A' c' w', (execOp a.eval ⟨dst, .call { callee := .builtin .append, args := #[x, y], argTypes := #[t, t] }, ty, ps, af, gd⟩).run P w = .ok (.value (.slice A' (k + m) c')) w' ∧ App w w' e size A k c xs news m A' c' := by
  obtain ⟨ie, hie, h2, h3, h4⟩ := info_parts hi
  obtain ⟨v', w', hrun, ho, hk, hwh⟩ := append_own (P := P) w t ty e ie z size bytes ht hie h2 h3 h4 hzs (by simpa using hsz) (.slice A k c) k xs hown w.heap.size A2 m c2 news hr.rds h1 h63 hb
  obtain ⟨A', c', rfl, _⟩ := ho.form
  refine ⟨A', c', w', ?_, ho, hk, fun b hb => ?_⟩
  · simp only [execOp, resolve, invoke, builtin, Sem.run_bind, Sem.run_pure, Result.andThen_ok, List.map_toArray, List.map_cons, List.map_nil, f.ev hx, f.ev hy, hrun]
  · have := hwh b (by cases A' <;> simp_all [Value.ownBlock])
    rcases this with h | h
    · exact .inl (by cases A <;> simp_all [Value.ownBlock])
    · exact .inr h
theorem L.append (f : Fr n a l) (hw : Region.wanted ⟨some d, .call { callee := .builtin .append, args := #[x, y], argTypes := #[t, t] }, ty, ps, af, gd⟩ (yielded ops a.tmps) = true) (hn : d < n) {e size bytes k c m c2 : Nat} {z : Value} {A A2 : Option Addr} {xs news : List Value} (ht : P.underlying t = some (.slice e)) (hi : (P.info? e).map (fun i => (i.zero, i.size, i.bytes)) = some (some z, size, bytes)) (hzs : z.cells.size = size) (hsz : Nat.blt 0 size = true)
    (hx : evl l x = some (.slice A k c)) (hy : evl l y = some (.slice A2 m c2)) (hown : Own w e size (.slice A k c) k xs) (hr : Sl w A2 m size news) (h1 : ∀ u ∈ news, u.oneCell' = true) (h63 : k + m ≤ maxLen) (hb : (k + m) * bytes ≤ 140737488355328)
    (hK : ∀ a' w' A' c', App w w' e size A k c xs news m A' c' → Fr n a' ((d, .slice A' (k + m) c') :: l) → wpList P ops Q rest a' w') : wpList P ops Q (⟨some d, .call { callee := .builtin .append, args := #[x, y], argTypes := #[t, t] }, ty, ps, af, gd⟩ :: rest) a w := by
  obtain ⟨A', c', w', hrun, happ⟩ := E.append (dst := some d) (ty := ty) (ps := ps) (af := af) (gd := gd) f ht hi hzs hsz hx hy hown hr h1 h63 hb
  exact L.val f hw rfl hn hrun fun a' f' => hK a' w' A' c' happ f'
end
section
variable {w w' : World} {e size k c m c' : Nat} {A A' : Option Addr} {xs news : List Value}
theorem App.fresh (h : App w w' e size A k c xs news m A' c') (hA : A = none) : Kept [] w w' ∧ ∀ b, A'.map (·.block) = some b → w.heap.size ≤ b := by
  subst hA
  refine ⟨by simpa [Value.ownBlock] using h.kept, fun b hb => ?_⟩
  rcases h.where_ b hb with h | h
  · cases h
  · exact h
end
section
variable {P : Program} {ops : Array Oper} {Q : Exit → Act → World → Prop} {S : World → Prop} {a : Act} {w : World} {n d : Nat} {l : FL} {K : Act → World → Prop} {ty : TypeId} {ps : String} {af : Array Edge} {gd : Option (Nat × Bool)} {x y : Operand} {t : TypeId}
theorem O.append {i : Nat} (f : Fr n a l) (ho : ops[i]? = some ⟨some d, .call { callee := .builtin .append, args := #[x, y], argTypes := #[t, t] }, ty, ps, af, gd⟩) (hw : Region.wanted ⟨some d, .call { callee := .builtin .append, args := #[x, y], argTypes := #[t, t] }, ty, ps, af, gd⟩ (yielded ops a.tmps) = true) (hn : d < n) {e size bytes k c m c2 : Nat} {z : Value} {A A2 : Option Addr} {xs news : List Value} (ht : P.underlying t = some (.slice e)) (hi : (P.info? e).map (fun i => (i.zero, i.size, i.bytes)) = some (some z, size, bytes)) (hzs : z.cells.size = size) (hsz : Nat.blt 0 size = true)
    (hx : evl l x = some (.slice A k c)) (hy : evl l y = some (.slice A2 m c2)) (hown : Own w e size (.slice A k c) k xs) (hr : Sl w A2 m size news) (h1 : ∀ u ∈ news, u.oneCell' = true) (h63 : k + m ≤ maxLen) (hb : (k + m) * bytes ≤ 140737488355328)
    (hK : ∀ a' w' A' c', App w w' e size A k c xs news m A' c' → S w' ∧ (Fr n a' ((d, .slice A' (k + m) c') :: l) → K a' w')) : wpOp P ops Q i (fun a w => S w ∧ K a w) a w := by
  obtain ⟨A', c', w', hrun, happ⟩ := E.append (dst := some d) (ty := ty) (ps := ps) (af := af) (gd := gd) f ht hi hzs hsz hx hy hown hr h1 h63 hb
  exact O.val f ho rfl hn hw hrun (hK a w' A' c' happ).1 fun a' f' => (hK a' w' A' c' happ).2 f'
theorem O.buildSlice {i : Nat} (f : Fr n a l) {parts : Array (Nat × Operand)} {len : Nat} (ho : ops[i]? = some ⟨some d, .buildSlice t len parts, ty, ps, af, gd⟩) (hw : Region.wanted ⟨some d, .buildSlice t len parts, ty, ps, af, gd⟩ (yielded ops a.tmps) = true) (hn : d < n) {vs : List (Nat × Value)} {e sz : Nat} {cells : Array Value} {z : Value} (hx : (parts.map fun p => (p.1, a.eval p.2)).toList = vs) (hu : P.underlying t = some (.slice e))
    (hi : (P.info? e).map (fun i => (i.zero, i.size)) = some (some z, sz)) (hs : Nat.ble (len * sz) 16777216 = true) (hp : Nat.beq (len * sz) 0 = false) (hf : Instr.fill (fun i => some (i * sz, sz)) ((Array.range (len * sz)).map fun j => z.cells[j % z.cells.size]!) vs = some cells)
    (hS : ∀ w', Kept [] w w' → S w') (hK : ∀ a' w' g, Newb w w' g e cells → S w' → Fr n a' ((d, .slice (some ⟨g, 0, none⟩) len len) :: l) → K a' w') : wpOp P ops Q i (fun a w => S w ∧ K a w) a w :=
  O.val f ho rfl hn hw (E.buildSlice f hx hu hi hs hp hf) (hS _ (newb w e _).kept) fun a' f' => hK a' _ _ (newb w e _) (hS _ (newb w e _).kept) f'
theorem O.alloc {i : Nat} (f : Fr n a l) (ho : ops[i]? = some ⟨some d, .alloc t, ty, ps, af, gd⟩) (hw : Region.wanted ⟨some d, .alloc t, ty, ps, af, gd⟩ (yielded ops a.tmps) = true) (hn : d < n) {z : Value} (hz : ∀ w, (zeroValue t).run P w = .ok z w) {cs : Array Value} (hcs : z.cells = cs)
    (hS : ∀ w', Kept [] w w' → S w') (hK : ∀ a' w' g, Newb w w' g t cs → S w' → Fr n a' ((d, .pointer (some ⟨g, 0, none⟩)) :: l) → K a' w') : wpOp P ops Q i (fun a w => S w ∧ K a w) a w :=
  O.val f ho rfl hn hw (E.alloc f hz) (hS _ (newb w t _).kept) fun a' f' => hK a' _ _ (hcs ▸ newb w t _) (hS _ (newb w t _).kept) f'
end
end Go.Hub
