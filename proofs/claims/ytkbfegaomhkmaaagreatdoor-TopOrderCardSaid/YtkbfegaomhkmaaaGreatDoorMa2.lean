/- A part of the proof (merged texts; each one's first line says what it holds). -/
import Derived.Great.BuildSlice
import Derived.LoopN
import Derived.MapKept
import Derived.Laws.StructEq
import Derived.Maps.RangeRun
import Derived.Laws.RangeString
import Derived.Test.YtkbfegaomhkmaaaGreatDoorMa1
set_option linter.all false
section
/- The step library: slices that are made and grown. -/
set_option linter.all false
namespace Go.Hub
open Go.RowKit

section
variable {P : Program} {ops : Array Oper} {Q : Exit → Act → World → Prop} {md : Region.Mode} {S : World → Prop} {a : Act} {w w' : World} {n d : Nat} {l : FL} {v : Value} {o : Oper} {K : Act → World → Prop}
/-! ### one operation of a region that draws -/
theorem O.val {i : Nat} (f : Fr n a l) (hi : ops[i]? = some o) (hd : o.dst = some d) (hn : d < n) (hw : Region.wanted o (yielded ops a.tmps) = true)
    (hv : (execOp a.eval o).run P w = .ok (.value v) w') (hS : S w') (hK : ∀ a', Fr n a' ((d, v) :: l) → K a' w') : wpOp P ops Q i (fun a w => S w ∧ K a w) a w := by
  unfold wpOp
  simp only [hi, hw, if_true]
  refine .inl ?_
  unfold Oper.wp
  rw [hv]
  show S w' ∧ K (a.put o.dst v) w'
  rw [hd]
  exact ⟨hS, hK _ (f.put d v hn)⟩
theorem R.one (i : Nat) {fuel : Nat} {listed : Array Bool} (hr : Region.ready md ops listed = [i]) (h : wpOp P ops Q i (fun a w => S w ∧ wpAnyH P md ops Q S fuel (listed.setIfInBounds i true) a w) a w) : wpAnyH P md ops Q S (fuel + 1) listed a w :=
  wpAnyH_all hr (by simp) fun j hj => by
    simp only [List.mem_singleton] at hj
    subst hj
    exact h
theorem R.two (i j : Nat) {fuel : Nat} {listed : Array Bool} (hr : Region.ready md ops listed = [i, j]) (h : wpOp P ops Q i (fun a w => S w ∧ wpAnyH P md ops Q S fuel (listed.setIfInBounds i true) a w) a w)
    (h' : wpOp P ops Q j (fun a w => S w ∧ wpAnyH P md ops Q S fuel (listed.setIfInBounds j true) a w) a w) : wpAnyH P md ops Q S (fuel + 1) listed a w :=
  wpAnyH_all hr (by simp) fun k hk => by
    simp only [List.mem_cons, List.not_mem_nil, or_false] at hk
    rcases hk with rfl | rfl
    · exact h
    · exact h'
end

section
variable {P : Program} {ops : Array Oper} {rest : List Oper} {a : Act} {w : World} {Q : Exit → Act → World → Prop} {n d : Nat} {l : FL} {v : Value} {ty : TypeId} {ps : String} {af : Array Edge} {gd : Option (Nat × Bool)} {x y : Operand} {t : TypeId}
theorem E.eqlP {dst : Option Nat} (f : Fr n a l) {e : TypeId} {ad : Addr} {u : TypeId} (ht : P.underlying t = some (.pointer e)) (hx : evl l x = some (.pointer (some ad))) (hy : evl l y = some (.pointer none)) : (execOp a.eval ⟨dst, .binOp .eql t x y u, ty, ps, af, gd⟩).run P w = .ok (.value (.bool false)) w :=
  E.eqlV f hx hy fun w => by
    have : ∀ d, (Op.equalIn (d + 1) t (.pointer (some ad)) (.pointer none)).run P w = .ok false w := fun d => by simp [Op.equalIn, run_underlying ht]
    rw [Sem.run_bind]
    simp only [eqGuard, binOp]
    simp [Op.equal, Op.maxDepth, this 9999]
theorem E.eqlNil {dst : Option Nat} (f : Fr n a l) {e : TypeId} {A : Option Addr} {m c : Nat} {u : TypeId} (ht : P.underlying t = some (.slice e)) (hx : evl l x = some (.slice A m c)) (hy : evl l y = some (.slice none 0 0)) : (execOp a.eval ⟨dst, .binOp .eql t x y u, ty, ps, af, gd⟩).run P w = .ok (.value (.bool A.isNone)) w :=
  E.eqlV f hx hy fun w => by
    rw [Sem.run_bind]
    have := Lib.run_eql_slice_nil (P := P) w t e A m c 0 0 ht
    simp only [eqGuard]
    exact this
theorem E.neqNil {dst : Option Nat} (f : Fr n a l) {e : TypeId} {A : Option Addr} {m c : Nat} {u : TypeId} (ht : P.underlying t = some (.slice e)) (hx : evl l x = some (.slice A m c)) (hy : evl l y = some (.slice none 0 0)) : (execOp a.eval ⟨dst, .binOp .neq t x y u, ty, ps, af, gd⟩).run P w = .ok (.value (.bool (!A.isNone))) w :=
  E.neqV f hx hy fun w => by
    rw [Sem.run_bind]
    have := run_neq_slice_nil_any (P := P) w t e A m c 0 0 ht
    simp only [eqGuard]
    exact this
/-! ### a slice literal -/
theorem E.buildSlice {dst : Option Nat} (f : Fr n a l) {parts : Array (Nat × Operand)} {vs : List (Nat × Value)} {e len sz : Nat} {cells : Array Value} {z : Value} (hx : (parts.map fun p => (p.1, a.eval p.2)).toList = vs) (hu : P.underlying t = some (.slice e))
    (hi : (P.info? e).map (fun i => (i.zero, i.size)) = some (some z, sz)) (hs : Nat.ble (len * sz) 16777216 = true) (hp : Nat.beq (len * sz) 0 = false) (hf : Instr.fill (fun i => some (i * sz, sz)) ((Array.range (len * sz)).map fun j => z.cells[j % z.cells.size]!) vs = some cells) :
    (execOp a.eval ⟨dst, .buildSlice t len parts, ty, ps, af, gd⟩).run P w = .ok (.value (.slice (some ⟨w.heap.size, 0, none⟩) len len)) (w.alloc (.cells cells e)) := by
  cases hq : P.info? e with
  | none => simp [hq] at hi
  | some ie =>
    simp [hq] at hi
    obtain ⟨h1, h2⟩ := hi
    subst h2
    have hx' : (parts.map fun (i, x) => (i, a.eval x)).toList = vs := hx
    have hle := Nat.le_of_ble_eq_true hs
    have hr := run_buildSlice (P := P) w t e len (parts.map fun (i, x) => (i, a.eval x)) cells ie z hu hq h1 (by omega) (fun h0 => by rw [h0] at hp; simp at hp) (by rw [hx']; exact hf)
    simp only [execOp]
    rw [Sem.run_bind, hr]
    rfl
theorem E.buildNone {dst : Option Nat} (f : Fr n a l) {e : TypeId} {sz : Nat} (hu : P.underlying t = some (.slice e)) (hi : (P.info? e).map (·.size) = some sz) :
    (execOp a.eval ⟨dst, .buildSlice t 0 #[], ty, ps, af, gd⟩).run P w = .ok (.value (.slice (some ⟨w.heap.size, 0, none⟩) 0 0)) (w.alloc (.cells #[] e)) := by
  cases hq : P.info? e with
  | none => simp [hq] at hi
  | some ie =>
    have e0 : ∀ z : Array Value, (Array.range 0).map (fun x => z[x % z.size]!) = #[] := fun z => by simp
    have e1 : (Array.range 0).map (fun _ => (default : Value)) = #[] := by simp [Array.range]
    simp [execOp, Instr.buildSlice, run_underlying hu, sizeOf, typeInfo, hq, Instr.fill, newRow]
    rw [e1]
theorem L.buildSlice (f : Fr n a l) {parts : Array (Nat × Operand)} {len : Nat} (hw : Region.wanted ⟨some d, .buildSlice t len parts, ty, ps, af, gd⟩ (yielded ops a.tmps) = true) (hn : d < n) {vs : List (Nat × Value)} {e sz : Nat} {cells : Array Value} {z : Value} (hx : (parts.map fun p => (p.1, a.eval p.2)).toList = vs) (hu : P.underlying t = some (.slice e))
    (hi : (P.info? e).map (fun i => (i.zero, i.size)) = some (some z, sz)) (hs : Nat.ble (len * sz) 16777216 = true) (hp : Nat.beq (len * sz) 0 = false) (hf : Instr.fill (fun i => some (i * sz, sz)) ((Array.range (len * sz)).map fun j => z.cells[j % z.cells.size]!) vs = some cells)
    (hK : ∀ a' w' g, Newb w w' g e cells → Fr n a' ((d, .slice (some ⟨g, 0, none⟩) len len) :: l) → wpList P ops Q rest a' w') : wpList P ops Q (⟨some d, .buildSlice t len parts, ty, ps, af, gd⟩ :: rest) a w :=
  L.val f hw rfl hn (E.buildSlice f hx hu hi hs hp hf) fun a' f' => hK a' _ _ (newb w e _) f'
theorem L.buildNone (f : Fr n a l) (hw : Region.wanted ⟨some d, .buildSlice t 0 #[], ty, ps, af, gd⟩ (yielded ops a.tmps) = true) (hn : d < n) {e : TypeId} {sz : Nat} (hu : P.underlying t = some (.slice e)) (hi : (P.info? e).map (·.size) = some sz)
    (hK : ∀ a' w' g, Newb w w' g e #[] → Fr n a' ((d, .slice (some ⟨g, 0, none⟩) 0 0) :: l) → wpList P ops Q rest a' w') : wpList P ops Q (⟨some d, .buildSlice t 0 #[], ty, ps, af, gd⟩ :: rest) a w :=
  L.val f hw rfl hn (E.buildNone f hu hi) fun a' f' => hK a' _ _ (newb w e _) f'
theorem Newb.own {w w' : World} {g : Nat} {e : TypeId} {cs : Array Value} (h : Newb w w' g e cs) {k size : Nat} (hs : cs.size = k * size) (hk : k ≤ maxLen) : Own w' e size (.slice (some ⟨g, 0, none⟩) k k) k cs.toList :=
  ⟨by simpa using hs, .inr ⟨g, 0, k, cs, rfl, h.blk, Nat.le_refl _, hk, by omega, fun j u hu => by rw [Nat.zero_add]; simpa using hu⟩⟩
/-! ### append -/
/-- what an append comes to -/
structure App (w w' : World) (e : TypeId) (size : Nat) (A : Option Addr) (k c : Nat) (xs news : List Value) (m : Nat) (A' : Option Addr) (c' : Nat) : Prop where
  own : Own w' e size (.slice A' (k + m) c') (k + m) (xs ++ news)
  kept : Kept (Value.slice A k c).ownBlock.toList w w'
  where_ : ∀ b, A'.map (·.block) = some b → A.map (·.block) = some b ∨ w.heap.size ≤ b
theorem E.append {dst : Option Nat} (f : Fr n a l) {e size bytes k c m c2 : Nat} {z : Value} {A A2 : Option Addr} {xs news : List Value} (ht : P.underlying t = some (.slice e)) (hi : (P.info? e).map (fun i => (i.zero, i.size, i.bytes)) = some (some z, size, bytes)) (hzs : z.cells.size = size) (hsz : Nat.blt 0 size = true)
    (hx : evl l x = some (.slice A k c)) (hy : evl l y = some (.slice A2 m c2)) (hown : Own w e size (.slice A k c) k xs) (hr : Sl w A2 m size news) (h1 : ∀ u ∈ news, u.oneCell' = true) (h63 : k + m ≤ maxLen) (hb : (k + m) * bytes ≤ 140737488355328) :
    ∃ A' c' w', (execOp a.eval ⟨dst, .call { callee := .builtin .append, args := #[x, y], argTypes := #[t, t] }, ty, ps, af, gd⟩).run P w = .ok (.value (.slice A' (k + m) c')) w' ∧ App w w' e size A k c xs news m A' c' := by
  obtain ⟨ie, hie, h2, h3, h4⟩ := info_parts hi
  obtain ⟨v', w', hrun, ho, hk, hwh⟩ := append_own (P := P) w t ty e ie z size bytes ht hie h2 h3 h4 hzs (by simpa using hsz) (.slice A k c) k xs hown w.heap.size A2 m c2 news hr.rds h1 h63 hb
  obtain ⟨A', c', rfl, _⟩ := ho.form
  refine ⟨A', c', w', ?_, ho, hk, fun b hb => ?_⟩
  · simp only [execOp, resolve, invoke, builtin, Sem.run_bind, Sem.run_pure, Result.andThen_ok, List.map_toArray, List.map_cons, List.map_nil, f.ev hx, f.ev hy, hrun]
  · have := hwh b (by cases A' <;> simp_all [Value.ownBlock])
    rcases this with h | h
    · exact .inl (by cases A <;> simp_all [Value.ownBlock])
    · exact .inr h
theorem L.append (f : Fr n a l) (hw : Region.wanted ⟨some d, .call { callee := .builtin .append, args := #[x, y], argTypes := #[t, t] }, ty, ps, af, gd⟩ (yielded ops a.tmps) = true) (hn : d < n) {e size bytes k c m c2 : Nat} {z : Value} {A A2 : Option Addr} {xs news : List Value} (ht : P.underlying t = some (.slice e)) (hi : (P.info? e).map (fun i => (i.zero, i.size, i.bytes)) = some (some z, size, bytes)) (hzs : z.cells.size = size) (hsz : Nat.blt 0 size = true)
    (hx : evl l x = some (.slice A k c)) (hy : evl l y = some (.slice A2 m c2)) (hown : Own w e size (.slice A k c) k xs) (hr : Sl w A2 m size news) (h1 : ∀ u ∈ news, u.oneCell' = true) (h63 : k + m ≤ maxLen) (hb : (k + m) * bytes ≤ 140737488355328)
    (hK : ∀ a' w' A' c', App w w' e size A k c xs news m A' c' → Fr n a' ((d, .slice A' (k + m) c') :: l) → wpList P ops Q rest a' w') : wpList P ops Q (⟨some d, .call { callee := .builtin .append, args := #[x, y], argTypes := #[t, t] }, ty, ps, af, gd⟩ :: rest) a w := by
  obtain ⟨A', c', w', hrun, happ⟩ := E.append (dst := some d) (ty := ty) (ps := ps) (af := af) (gd := gd) f ht hi hzs hsz hx hy hown hr h1 h63 hb
  exact L.val f hw rfl hn hrun fun a' f' => hK a' w' A' c' happ f'
end
section
variable {w w' : World} {e size k c m c' : Nat} {A A' : Option Addr} {xs news : List Value}
theorem App.fresh (h : App w w' e size A k c xs news m A' c') (hA : A = none) : Kept [] w w' ∧ ∀ b, A'.map (·.block) = some b → w.heap.size ≤ b := by
  subst hA
  refine ⟨by simpa [Value.ownBlock] using h.kept, fun b hb => ?_⟩
  rcases h.where_ b hb with h | h
  · cases h
  · exact h
end
/-- a slice of the call's own -/
structure Fresh (w w' : World) (e size : Nat) (A : Option Addr) (n c : Nat) (xs : List Value) : Prop where
  own : Own w' e size (.slice A n c) n xs
  lo : ∀ b, A.map (·.block) = some b → w.heap.size ≤ b
section
variable {w w' w'' : World} {e size k c m c' n : Nat} {A A' : Option Addr} {xs news : List Value}
theorem Fresh.nil (w w' : World) (e size : Nat) : Fresh w w' e size none 0 0 [] := ⟨Own.nil _ _ _, fun b h => by simp at h⟩
theorem Fresh.sl (h : Fresh w w' e size A n c xs) : Sl w' A n size xs := Sl.of_own h.own
theorem own_block (A : Option Addr) (n c : Nat) (b : Nat) : (Value.slice A n c).ownBlock = some b ↔ A.map (·.block) = some b := by cases A <;> simp [Value.ownBlock]
theorem Fresh.kept {L : List Nat} (h : Fresh w w' e size A n c xs) (hk : Kept L w' w'') (hf : ∀ b, A.map (·.block) = some b → b ∉ L) : Fresh w w'' e size A n c xs :=
  ⟨h.own.kept hk fun b hb => hf b ((own_block A n c b).1 hb), h.lo⟩
theorem Fresh.kept0 (h : Fresh w w' e size A n c xs) (hk : Kept [] w' w'') : Fresh w w'' e size A n c xs := h.kept hk (by simp)
theorem Fresh.lower {w0 : World} (h : Fresh w w' e size A n c xs) (hs : w0.heap.size ≤ w.heap.size) : Fresh w0 w' e size A n c xs := ⟨h.own, fun b hb => Nat.le_trans hs (h.lo b hb)⟩
/-- what an append to a slice of the call's own comes to -/
theorem App.next {w0 : World} (h : App w w' e size A k c xs news m A' c') (hf : Fresh w0 w e size A k c xs) (hs : w0.heap.size ≤ w.heap.size) : Fresh w0 w' e size A' (k + m) c' (xs ++ news) :=
  ⟨h.own, fun b hb => by
    rcases h.where_ b hb with h1 | h1
    · exact hf.lo b h1
    · omega⟩
theorem App.grow {w0 : World} {L : List Nat} (h : App w w' e size A k c xs news m A' c') (hf : Fresh w0 w e size A k c xs) (hk : Kept L w0 w) : Kept L w0 w' :=
  hk.trans h.kept fun x hx hlt => by
    have := hf.lo x ((own_block A k c x).1 (by simpa using hx))
    omega
end
/-! ### a store into a slice of the call's own -/
section
variable {w w' : World} {e size n c : Nat} {A : Option Addr} {xs : List Value}
theorem Own.set_ (h : Own w e size (.slice A n c) n xs) {b off j : Nat} (hA : A = some ⟨b, off, none⟩) (hj : j < xs.length) (u : Value) :
    (∃ old, w.cell? ⟨b, off + j, none⟩ = some old) ∧ w.frozen? ⟨b, off + j, none⟩ = false ∧ Own (w.setCell ⟨b, off + j, none⟩ u) e size (.slice A n c) n (xs.set j u) := by
  obtain ⟨h1, h2⟩ := h
  rcases h2 with ⟨hv, h0⟩ | ⟨g, o, cap, cur, hv, hg, hnc, hcm, hcs, hc⟩
  · subst h0
    rw [h1, Nat.zero_mul] at hj
    omega
  · injection hv with e1 e2 e3
    subst e3
    rw [hA] at e1
    injection e1 with e1
    injection e1 with e4 e5
    subst e4 e5
    have hB : Blk w b e cur := hg
    have hlt : off + j < cur.size := by
      have : n * size ≤ c * size := Nat.mul_le_mul_right _ hnc
      omega
    refine ⟨⟨cur[off + j], hB.cell_ (Array.getElem?_eq_getElem hlt)⟩, hB.frozen _, by rw [List.length_set]; exact h1, .inr ⟨b, off, c, cur.setIfInBounds (off + j) u, by rw [hA], hB.set_ _ _, hnc, hcm, by simpa using hcs, fun i v hv => ?_⟩⟩
    rw [Array.getElem?_setIfInBounds]
    rw [List.getElem?_set] at hv
    by_cases hij : j = i
    · subst hij
      rw [if_pos rfl, if_pos hj] at hv
      rw [if_pos rfl, if_pos hlt]
      exact hv
    · rw [if_neg hij] at hv
      rw [if_neg (by omega)]
      exact hc i v hv
end
section
variable {P : Program} {ops : Array Oper} {rest : List Oper} {a : Act} {w w0 : World} {Q : Exit → Act → World → Prop} {n d : Nat} {l : FL} {v : Value} {ty : TypeId} {ps : String} {af : Array Edge} {gd : Option (Nat × Bool)} {x y : Operand} {t : TypeId} {dst : Option Nat}
theorem L.storeF (f : Fr n a l) (hw : Region.wanted ⟨none, .store t x y, ty, ps, af, gd⟩ (yielded ops a.tmps) = true) (hi : (P.info? t).map (·.size) = some 1) {b off j e size k c : Nat} {A : Option Addr} {xs : List Value} (hA : A = some ⟨b, off, none⟩) (F : Fresh w0 w e size A k c xs) (hx : evl l x = some (.pointer (some ⟨b, off + j, none⟩))) (hj : j < xs.length) (hy : evl l y = some v) (h1 : v.oneCell' = true)
    (hK : ∀ a' w', Fr n a' l → Fresh w0 w' e size A k c (xs.set j v) → Kept [b] w w' → w0.heap.size ≤ b → wpList P ops Q rest a' w') : wpList P ops Q (⟨none, .store t x y, ty, ps, af, gd⟩ :: rest) a w := by
  obtain ⟨⟨old, h2⟩, h3, h4⟩ := F.own.set_ hA hj v
  exact L.act f hw rfl (E.store f hi hx hy h1 h2 h3) fun a' f' => hK a' _ f' ⟨h4, F.lo⟩ (setCell_kept w b (off + j) v) (F.lo b (by rw [hA]; rfl))
end
section
variable {P : Program} {ops : Array Oper} {Q : Exit → Act → World → Prop} {S : World → Prop} {a : Act} {w : World} {n d : Nat} {l : FL} {K : Act → World → Prop} {ty : TypeId} {ps : String} {af : Array Edge} {gd : Option (Nat × Bool)} {x y : Operand} {t : TypeId}
theorem O.append {i : Nat} (f : Fr n a l) (ho : ops[i]? = some ⟨some d, .call { callee := .builtin .append, args := #[x, y], argTypes := #[t, t] }, ty, ps, af, gd⟩) (hw : Region.wanted ⟨some d, .call { callee := .builtin .append, args := #[x, y], argTypes := #[t, t] }, ty, ps, af, gd⟩ (yielded ops a.tmps) = true) (hn : d < n) {e size bytes k c m c2 : Nat} {z : Value} {A A2 : Option Addr} {xs news : List Value} (ht : P.underlying t = some (.slice e)) (hi : (P.info? e).map (fun i => (i.zero, i.size, i.bytes)) = some (some z, size, bytes)) (hzs : z.cells.size = size) (hsz : Nat.blt 0 size = true)
    (hx : evl l x = some (.slice A k c)) (hy : evl l y = some (.slice A2 m c2)) (hown : Own w e size (.slice A k c) k xs) (hr : Sl w A2 m size news) (h1 : ∀ u ∈ news, u.oneCell' = true) (h63 : k + m ≤ maxLen) (hb : (k + m) * bytes ≤ 140737488355328)
    (hK : ∀ a' w' A' c', App w w' e size A k c xs news m A' c' → S w' ∧ (Fr n a' ((d, .slice A' (k + m) c') :: l) → K a' w')) : wpOp P ops Q i (fun a w => S w ∧ K a w) a w := by
  obtain ⟨A', c', w', hrun, happ⟩ := E.append (dst := some d) (ty := ty) (ps := ps) (af := af) (gd := gd) f ht hi hzs hsz hx hy hown hr h1 h63 hb
  exact O.val f ho rfl hn hw hrun (hK a w' A' c' happ).1 fun a' f' => (hK a' w' A' c' happ).2 f'
theorem O.buildSlice {i : Nat} (f : Fr n a l) {parts : Array (Nat × Operand)} {len : Nat} (ho : ops[i]? = some ⟨some d, .buildSlice t len parts, ty, ps, af, gd⟩) (hw : Region.wanted ⟨some d, .buildSlice t len parts, ty, ps, af, gd⟩ (yielded ops a.tmps) = true) (hn : d < n) {vs : List (Nat × Value)} {e sz : Nat} {cells : Array Value} {z : Value} (hx : (parts.map fun p => (p.1, a.eval p.2)).toList = vs) (hu : P.underlying t = some (.slice e))
    (hi : (P.info? e).map (fun i => (i.zero, i.size)) = some (some z, sz)) (hs : Nat.ble (len * sz) 16777216 = true) (hp : Nat.beq (len * sz) 0 = false) (hf : Instr.fill (fun i => some (i * sz, sz)) ((Array.range (len * sz)).map fun j => z.cells[j % z.cells.size]!) vs = some cells)
    (hS : ∀ w', Kept [] w w' → S w') (hK : ∀ a' w' g, Newb w w' g e cells → S w' → Fr n a' ((d, .slice (some ⟨g, 0, none⟩) len len) :: l) → K a' w') : wpOp P ops Q i (fun a w => S w ∧ K a w) a w :=
  O.val f ho rfl hn hw (E.buildSlice f hx hu hi hs hp hf) (hS _ (newb w e _).kept) fun a' f' => hK a' _ _ (newb w e _) (hS _ (newb w e _).kept) f'
theorem O.alloc {i : Nat} (f : Fr n a l) (ho : ops[i]? = some ⟨some d, .alloc t, ty, ps, af, gd⟩) (hw : Region.wanted ⟨some d, .alloc t, ty, ps, af, gd⟩ (yielded ops a.tmps) = true) (hn : d < n) {z : Value} (hz : ∀ w, (zeroValue t).run P w = .ok z w) {cs : Array Value} (hcs : z.cells = cs)
    (hS : ∀ w', Kept [] w w' → S w') (hK : ∀ a' w' g, Newb w w' g t cs → S w' → Fr n a' ((d, .pointer (some ⟨g, 0, none⟩)) :: l) → K a' w') : wpOp P ops Q i (fun a w => S w ∧ K a w) a w :=
  O.val f ho rfl hn hw (E.alloc f hz) (hS _ (newb w t _).kept) fun a' f' => hK a' _ _ (hcs ▸ newb w t _) (hS _ (newb w t _).kept) f'
end
end Go.Hub
end
section
/- The step library: segments of a block; made slices; arrays. -/
set_option linter.all false
namespace Go.Hub
open Go.RowKit

/-! ### a segment that is written -/
def setSeg : List Value → Nat → List Value → List Value
  | xs, _, [] => xs
  | xs, o, v :: r => setSeg (xs.set o v) (o + 1) r
theorem setSeg_len : ∀ (vs xs : List Value) (o : Nat), (setSeg xs o vs).length = xs.length
  | [], _, _ => rfl
  | v :: r, xs, o => by rw [setSeg, setSeg_len r, List.length_set]
theorem setSeg_at : ∀ (vs xs : List Value) (o i : Nat), o + vs.length ≤ xs.length → (setSeg xs o vs)[i]? = if o ≤ i ∧ i < o + vs.length then vs[i - o]? else xs[i]?
  | [], xs, o, i, _ => by
    have : ¬ (o ≤ i ∧ i < o + ([] : List Value).length) := by simp
    rw [if_neg this]
    rfl
  | v :: r, xs, o, i, h => by
    simp only [List.length_cons] at h
    rw [setSeg, setSeg_at r _ (o + 1) i (by rw [List.length_set]; omega)]
    by_cases h1 : o + 1 ≤ i ∧ i < o + 1 + r.length
    · rw [if_pos h1, if_pos (by simp; omega)]
      rw [show i - o = (i - (o + 1)) + 1 by omega]
      rfl
    · rw [if_neg h1, List.getElem?_set]
      by_cases h2 : o = i
      · subst h2
        rw [if_pos rfl, if_pos (by omega), if_pos (by simp)]
        simp
      · rw [if_neg h2, if_neg (by simp; omega)]
section
variable {M : Type} (cell : M → List Value) (size : Nat) (hs : ∀ m, (cell m).length = size)
include hs
theorem flat_get (l : List M) (i : Nat) : (l.flatMap cell)[i]? = (l[i / size]?).bind fun m => (cell m)[i % size]? := by
  induction l generalizing i with
  | nil => simp
  | cons a r ih =>
    simp only [List.flatMap_cons]
    rcases Nat.lt_or_ge i size with h | h
    · rw [List.getElem?_append_left (by rw [hs]; exact h), Nat.div_eq_of_lt h, Nat.mod_eq_of_lt h]
      rfl
    · rw [List.getElem?_append_right (by rw [hs]; exact h), hs, ih]
      rcases Nat.eq_zero_or_pos size with h0 | h0
      · subst h0
        have : ∀ m, cell m = [] := fun m => List.eq_nil_of_length_eq_zero (hs m)
        simp [this]
      · rw [Nat.div_eq_sub_div h0 h, Nat.mod_eq_sub_mod h]
        rfl
theorem flat_seg (h0 : 0 < size) (l : List M) (i : Nat) (m : M) (hi : i < l.length) : setSeg (l.flatMap cell) (i * size) (cell m) = (l.set i m).flatMap cell := by
  have hlen : (l.flatMap cell).length = l.length * size := flat_len cell size hs l
  have hle : i * size + size ≤ l.length * size := by
    calc i * size + size = (i + 1) * size := by rw [Nat.add_mul, Nat.one_mul]
      _ ≤ l.length * size := Nat.mul_le_mul_right _ hi
  apply List.ext_getElem?
  intro j
  rw [setSeg_at _ _ _ _ (by rw [hs, hlen]; exact hle), flat_get cell size hs, flat_get cell size hs, List.getElem?_set]
  by_cases hj : i * size ≤ j ∧ j < i * size + (cell m).length
  · rw [if_pos hj]
    rw [hs] at hj
    have e1 : j / size = i := by
      refine (Nat.div_eq_iff h0).2 ⟨hj.1, ?_⟩
      omega
    have e2 : j % size = j - i * size := by
      have := Nat.div_add_mod j size
      rw [e1, Nat.mul_comm] at this
      omega
    rw [e1, e2, if_pos rfl, if_pos hi]
    rfl
  · rw [if_neg hj]
    rw [hs] at hj
    have e1 : ¬ i = j / size := fun e => hj ⟨by rw [e]; exact Nat.div_mul_le_self j size, by rw [e]; have := Nat.lt_div_mul_add (a := j) h0; omega⟩
    rw [if_neg e1]
end
section
variable {w : World} {g : Nat} {t : TypeId}
theorem Blk.seg : ∀ (vs xs : List Value) (o : Nat) (w : World), Blk w g t xs.toArray → Blk (w.setCells g o vs) g t (setSeg xs o vs).toArray
  | [], _, _, _, h => h
  | v :: r, xs, o, w, h => by
    have := h.set_ o v
    simp only [List.setIfInBounds_toArray] at this
    exact Blk.seg r (xs.set o v) (o + 1) _ this
end
section
variable {P : Program} {ops : Array Oper} {rest : List Oper} {a : Act} {w : World} {Q : Exit → Act → World → Prop} {n d : Nat} {l : FL} {v : Value} {dst : Option Nat} {ty : TypeId} {ps : String} {af : Array Edge} {gd : Option (Nat × Bool)} {x y : Operand} {t : TypeId} {S : World → Prop} {K : Act → World → Prop}
/-- a struct stored into a row of structs -/
theorem E.storeSeg (f : Fr n a l) {g o e s : Nat} {xs : List Value} {cs : Array Value} (hi : (P.info? t).map (·.size) = some s) (hx : evl l x = some (.pointer (some ⟨g, o, none⟩))) (hy : evl l y = some (.agg cs)) (h1 : cs.toList.all (·.oneCell') = true) (B : Blk w g e xs.toArray) (ho : o + cs.size ≤ xs.length) (hl : cs.size = s) :
    (execOp a.eval ⟨dst, .store t x y, ty, ps, af, gd⟩).run P w = .ok .skip (w.setCells g o cs.toList) :=
  E.storeR f (hl ▸ hi) hx hy (by simpa using h1) (B.there (by simpa using ho))
theorem L.storeSeg (f : Fr n a l) (hw : Region.wanted ⟨none, .store t x y, ty, ps, af, gd⟩ (yielded ops a.tmps) = true) {g o e s : Nat} {xs : List Value} {cs : Array Value} (hi : (P.info? t).map (·.size) = some s) (hx : evl l x = some (.pointer (some ⟨g, o, none⟩))) (hy : evl l y = some (.agg cs)) (h1 : cs.toList.all (·.oneCell') = true) (B : Blk w g e xs.toArray) (ho : o + cs.size ≤ xs.length) (hl : cs.size = s)
    (hK : ∀ a' w', Fr n a' l → Blk w' g e (setSeg xs o cs.toList).toArray → Kept [g] w w' → wpList P ops Q rest a' w') : wpList P ops Q (⟨none, .store t x y, ty, ps, af, gd⟩ :: rest) a w :=
  L.act f hw rfl (E.storeSeg f hi hx hy h1 B ho hl) fun a' f' => hK a' _ f' (B.seg cs.toList xs o w) (setCells_kept w g o _)
theorem O.act {i : Nat} {o : Oper} {w' : World} (f : Fr n a l) (hi : ops[i]? = some o) (hd : o.dst = none) (hw : Region.wanted o (yielded ops a.tmps) = true)
    (hv : (execOp a.eval o).run P w = .ok .skip w') (hS : S w') (hK : ∀ a', Fr n a' l → K a' w') : wpOp P ops Q i (fun a w => S w ∧ K a w) a w := by
  unfold wpOp
  simp only [hi, hw, if_true]
  refine .inl ?_
  unfold Oper.wp
  rw [hv]
  show S w' ∧ K (a.put o.dst undef) w'
  rw [hd]
  exact ⟨hS, hK _ f⟩
theorem O.storeSeg {i : Nat} (f : Fr n a l) (hio : ops[i]? = some ⟨none, .store t x y, ty, ps, af, gd⟩) (hw : Region.wanted ⟨none, .store t x y, ty, ps, af, gd⟩ (yielded ops a.tmps) = true) {g o e s : Nat} {xs : List Value} {cs : Array Value} (hi : (P.info? t).map (·.size) = some s) (hx : evl l x = some (.pointer (some ⟨g, o, none⟩))) (hy : evl l y = some (.agg cs)) (h1 : cs.toList.all (·.oneCell') = true) (B : Blk w g e xs.toArray) (ho : o + cs.size ≤ xs.length) (hl : cs.size = s)
    (hS : ∀ w', Kept [g] w w' → S w') (hK : ∀ a' w', Fr n a' l → Blk w' g e (setSeg xs o cs.toList).toArray → Kept [g] w w' → K a' w') : wpOp P ops Q i (fun a w => S w ∧ K a w) a w :=
  O.act f hio rfl hw (E.storeSeg f hi hx hy h1 B ho hl) (hS _ (setCells_kept w g o _)) fun a' f' => hK a' _ f' (B.seg cs.toList xs o w) (setCells_kept w g o _)
theorem O.store {i : Nat} (f : Fr n a l) (hio : ops[i]? = some ⟨none, .store t x y, ty, ps, af, gd⟩) (hw : Region.wanted ⟨none, .store t x y, ty, ps, af, gd⟩ (yielded ops a.tmps) = true) {g o e : Nat} {xs : List Value} (hi : (P.info? t).map (·.size) = some 1) (hx : evl l x = some (.pointer (some ⟨g, o, none⟩))) (hy : evl l y = some v) (h1 : v.oneCell' = true) (B : Blk w g e xs.toArray) (ho : o < xs.length)
    (hS : ∀ w', Kept [g] w w' → S w') (hK : ∀ a' w', Fr n a' l → Blk w' g e (xs.set o v).toArray → Kept [g] w w' → K a' w') : wpOp P ops Q i (fun a w => S w ∧ K a w) a w :=
  O.act f hio rfl hw (E.store f hi hx hy h1 (B.cell_ (v := xs[o]) (by simp [ho])) (B.frozen o)) (hS _ (setCell_kept w g o v)) fun a' f' => hK a' _ f' (by have := B.set_ o v; simpa only [List.setIfInBounds_toArray] using this) (setCell_kept w g o v)
/-! ### arrays -/
theorem E.indexArr (f : Fr n a l) {e : TypeId} {b o m s : Nat} {k : IntKind} {i : Int} (ht : P.underlying t = some (.array m e)) (hs : (P.info? e).map (·.size) = some s) (hx : evl l x = some (.pointer (some ⟨b, o, none⟩))) (hy : evl l y = some (.int k i)) (h0 : 0 ≤ i) (h1 : i < m) :
    (execOp a.eval ⟨dst, .indexAddr t x y, ty, ps, af, gd⟩).run P w = .ok (.value (.pointer (some ⟨b, o + i.toNat * s, none⟩))) w := by
  cases hq : P.info? e with
  | none => simp [hq] at hs
  | some i' =>
    have hs' : i'.size = s := by simpa [hq] using hs
    simp [execOp, f.ev hx, f.ev hy, Instr.indexAt, asIntOf, run_underlying ht, Instr.sureAddr, h0, h1, sizeOf, typeInfo, hq, hs', add_plain]
/-! ### a slice that is made -/
theorem made_flat {M : Type} (cell : M → List Value) (size : Nat) (hs : ∀ m, (cell m).length = size) (h0 : 0 < size) (z : M) (k : Nat) : madeCells (cell z).toArray (k * size) = ((List.replicate k z).flatMap cell).toArray := by
  have hz : (cell z).toArray.size = size := by simp [hs]
  apply Array.ext'
  apply List.ext_getElem?
  intro j
  rw [flat_get cell size hs, List.getElem?_replicate]
  have hd : (j / size < k) ↔ j < k * size := Nat.div_lt_iff_lt_mul h0
  unfold madeCells
  by_cases hj : j < k * size
  · rw [if_pos (hd.2 hj)]
    have hm : j % size < (cell z).length := by rw [hs]; exact Nat.mod_lt _ h0
    simp [hj, hs]
    rw [List.getElem?_eq_getElem hm]
    simp
  · rw [if_neg (fun h => hj (hd.1 h))]
    simp [hj]
theorem L.make (f : Fr n a l) (hw : Region.wanted ⟨some d, .makeSlice t x y, ty, ps, af, gd⟩ (yielded ops a.tmps) = true) (hn : d < n) {e size bytes : Nat} {z : Value} {kl kc : IntKind} {i j : Int} (ht : P.underlying t = some (.slice e)) (hi : (P.info? e).map (fun i => (i.zero, i.size, i.bytes)) = some (some z, size, bytes))
    (hx : evl l x = some (.int kl i)) (hy : evl l y = some (.int kc j)) (h0 : 0 ≤ i) (h1 : i ≤ j) (hb : (bytes : Int) * j ≤ 281474976710656) (h63 : j ≤ 9223372036854775807)
    (hK : ∀ a' w' g, Newb w w' g e (madeCells z.cells (j.toNat * size)) → Fr n a' ((d, .slice (some ⟨g, 0, none⟩) i.toNat j.toNat) :: l) → wpList P ops Q rest a' w') : wpList P ops Q (⟨some d, .makeSlice t x y, ty, ps, af, gd⟩ :: rest) a w := by
  obtain ⟨ie, hie, h2, h3, h4⟩ := info_parts hi
  subst h3 h4
  have hr := run_make (P := P) w t e ie z ht hie h2 kl kc i j h0 h1 hb h63
  refine L.val f hw rfl hn (v := .slice (some ⟨w.heap.size, 0, none⟩) i.toNat j.toNat) (w' := w.alloc (.cells (madeCells z.cells (j.toNat * ie.size)) e)) ?_ fun a' f' => hK a' _ _ (newb w e _) f'
  simp only [execOp, f.ev hx, f.ev hy]
  rw [Sem.run_bind, hr]
  rfl
end
section
variable {P : Program} {fn : Func} {R : Ending → World → Prop} {n : Nat} {a : Act} {l : FL} {w : World}
theorem C.ret3 (f : Fr n a l) {t u s : Tmp} (hr : fn.results = #[.tmp t, .tmp u, .tmp s]) {v v' v'' : Value} (hv : look l t = some v) (hv' : look l u = some v') (hv'' : look l s = some v'') (h : R (.returned (.tuple #[v, v', v''])) w) : bodyPost P fn R .ret a w :=
  bodyPost_ret (by simp [results, hr, ← Array.getD_eq_getD_getElem?, f.get hv, f.get hv', f.get hv'']) f.defers h
end
end Go.Hub
end
section
/- Operations on memory by codes, part 2: rows that are built, new blocks, lengths, places of elements. -/
set_option linter.all false
namespace Go.Ev
open Go Go.RowKit Go.Hub
variable {P : Program} {N : Nat} {pl : List Value} {dst : Option Nat} {ty : TypeId} {ps : String} {af : Array Edge} {gd : Option (Nat × Bool)} {x y z : Operand} {t u : TypeId}
variable {φ : Nat → Tr → Nat → Prop} {pb : Kb} {pn : Nat → Option Obj} {G G' : Gh} {h h' : Tr} {nx nm : Nat} {w w' : World}

/-! ### rows that are built -/
/-- n places, then others -/
def catR (n c d : Nat) : Nat := Nat.lor c (Nat.shiftLeft d (Nat.mul 96 n))
theorem tb_cat (n c d j : Nat) : (catR n c d).testBit j = (c.testBit j || (decide (96 * n ≤ j) && d.testBit (j - 96 * n))) := by
  have : catR n c d = c ||| (d <<< (96 * n)) := rfl
  rw [this, Nat.testBit_or, Nat.testBit_shiftLeft]
theorem getS_cat {n c d : Nat} (hc : c < 2 ^ (96 * n)) (i : Nat) : getS (catR n c d) i = if i < n then getS c i else getS d (i - n) := by
  apply Nat.eq_of_testBit_eq
  intro k
  rw [getS_eq, tb_sub, tb_cat]
  by_cases hk : k < 96 * 1
  · by_cases hi : i < n
    · rw [if_pos hi, getS_eq, tb_sub, decide_eq_false (show ¬ 96 * n ≤ 96 * i + k by omega)]
      simp
    · rw [if_neg hi, getS_eq, tb_sub, tb_big hc (by omega), decide_eq_true (show 96 * n ≤ 96 * i + k by omega), show 96 * i + k - 96 * n = 96 * (i - n) + k from by omega]
      simp
  · rw [decide_eq_false hk, Bool.false_and]
    by_cases hi : i < n
    · rw [if_pos hi, getS_eq, tb_sub, decide_eq_false hk, Bool.false_and]
    · rw [if_neg hi, getS_eq, tb_sub, decide_eq_false hk, Bool.false_and]
theorem cat_lt {n m c d : Nat} (hc : c < 2 ^ (96 * n)) (hd : d < 2 ^ (96 * m)) : catR n c d < 2 ^ (96 * (n + m)) := by
  refine Nat.lt_pow_two_of_testBit _ fun j hj => ?_
  rw [tb_cat, tb_big hc (by omega), tb_big hd (by omega)]
  simp
theorem getS_0' {c : Nat} (hc : c < 2 ^ 96) : getS c 0 = c := by
  apply Nat.eq_of_testBit_eq
  intro j
  rw [getS_eq, tb_sub, Nat.mul_zero, Nat.zero_add]
  by_cases hj : j < 96 * 1
  · simp [hj]
  · rw [decide_eq_false hj, Bool.false_and, tb_big hc (by omega)]
def rowL : List Nat → Nat
  | [] => 0
  | c :: r => catR 1 c (rowL r)
theorem rowL_lt : ∀ (l : List Nat), (∀ c ∈ l, c < 2 ^ 96) → rowL l < 2 ^ (96 * l.length) := by
  intro l
  induction l with
  | nil => intro _; simp [rowL]
  | cons c r ih =>
    intro h
    have := cat_lt (n := 1) (m := r.length) (c := c) (d := rowL r) (by simpa using h c (by simp)) (ih fun c hc => h c (by simp [hc]))
    rw [List.length_cons, Nat.add_comm]
    exact this
theorem getS_rowL : ∀ (l : List Nat), (∀ c ∈ l, c < 2 ^ 96) → ∀ i, getS (rowL l) i = l.getD i 0 := by
  intro l
  induction l with
  | nil => intro _ i; simp [rowL, getS_0]
  | cons c r ih =>
    intro h i
    have hc := h c (by simp)
    show getS (catR 1 c (rowL r)) i = _
    rw [getS_cat (by simpa using hc)]
    cases i with
    | zero => rw [if_pos (by omega), getS_0' hc]; rfl
    | succ i => rw [if_neg (by omega), ih (fun c hc => h c (by simp [hc]))]; simp
/-- the code of a cell that nobody has written yet (0: none is known) -/
noncomputable def zcode : Value → Nat
  | .bool b => cB b
  | .int k n => Bool.rec 0 (cI k n) (inI k n)
  | .string s => Bool.rec 0 16 (Nat.beq s.data.size 0)
  | .pointer none => 4
  | .slice none 0 0 => 6
  | .map none => 8
  | .nilFunc => 10
  | .nilIface => 14
  | _ => 0
theorem zcode_ok {v : Value} (h : zcode v ≠ 0) : (∀ G, VRel G (zcode v) v) ∧ v.oneCell' = true := by
  unfold zcode at h ⊢
  split at h
  · exact ⟨fun G => .bool _, rfl⟩
  · rename_i k n
    cases hb : inI k n
    · rw [hb] at h; exact absurd rfl h
    · simp only [inI, Bool.and_eq_true, decide_eq_true_eq] at hb
      exact ⟨fun G => .int k n hb, rfl⟩
  · rename_i s
    cases hb : Nat.beq s.data.size 0
    · rw [hb] at h; exact absurd rfl h
    · have hs : s = ⟨#[]⟩ := by
        have h0 : s.data.size = 0 := Nat.eq_of_beq_eq_true hb
        have : s.data = #[] := Array.eq_empty_of_size_eq_zero h0
        cases s; simp at this; rw [this]
      rw [hs]
      exact ⟨fun G => .str0, rfl⟩
  · exact ⟨fun G => .nilp, rfl⟩
  · exact ⟨fun G => .nils, rfl⟩
  · exact ⟨fun G => .nilm, rfl⟩
  · exact ⟨fun G => .nilf, rfl⟩
  · exact ⟨fun G => .nili, rfl⟩
  · exact absurd rfl h
noncomputable def zrow (l : List Value) : Nat := rowL (l.map zcode)
noncomputable def okZ : List Value → Bool
  | [] => true
  | v :: r => Bool.rec (okZ r) false (Nat.beq (zcode v) 0)
theorem okZ_mem : ∀ {l : List Value}, okZ l = true → ∀ v ∈ l, zcode v ≠ 0 := by
  intro l
  induction l with
  | nil => intro _ v hv; cases hv
  | cons a r ih =>
    intro h v hv
    unfold okZ at h
    cases hb : Nat.beq (zcode a) 0
    · rw [hb] at h
      rcases List.mem_cons.1 hv with rfl | hv
      · intro e; rw [e] at hb; cases hb
      · exact ih h v hv
    · rw [hb] at h; cases h
theorem zrow_ok {l : List Value} (h : okZ l = true) (G : Gh) : zrow l < 2 ^ (96 * l.length) ∧ ∀ i, i < l.length → VRel G (getS (zrow l) i) (l.getD i undef) ∧ (l.getD i undef).oneCell' = true := by
  have hm := okZ_mem h
  have hlt : ∀ c ∈ l.map zcode, c < 2 ^ 96 := fun c hc => by
    obtain ⟨v, hv, rfl⟩ := List.mem_map.1 hc
    exact ((zcode_ok (hm v hv)).1 (fun _ => none)).lt
  refine ⟨by have := rowL_lt _ hlt; unfold zrow; simpa using this, fun i hi => ?_⟩
  unfold zrow
  rw [getS_rowL _ hlt]
  have e1 : (l.map zcode).getD i 0 = zcode (l.getD i undef) := by
    simp [List.getD_eq_getElem?_getD, List.getElem?_eq_getElem hi]
  rw [e1]
  have hmem : l.getD i undef ∈ l := by
    rw [List.getD_eq_getElem?_getD, List.getElem?_eq_getElem hi]
    exact List.getElem_mem hi
  have := zcode_ok (hm _ hmem)
  exact ⟨this.1 G, this.2⟩
def zeroOf (P : Program) (t : Nat) : Option Value := (P.info? t).bind (·.zero)
theorem zeroOf_run {z : Value} (hz : zeroOf P t = some z) (w : World) : (zeroValue t).run P w = .ok z w := by
  unfold zeroOf at hz
  cases hi : P.info? t with
  | none => rw [hi] at hz; cases hz
  | some i =>
    rw [hi] at hz
    have hz : i.zero = some z := hz
    simp [zeroValue, typeInfo, hi, hz]

/-! ### new blocks -/
theorem newRow_rel {G' : Gh} {cs : Array Value} {el sz c b nm : Nat} {w' : World} (hG : G' nm = some (.blk b 0 cs.size sz)) (hw : w'.heap[b]? = some (.cells cs el (0, 0))) (hsz : szOf P el = some sz) (hc : ∀ i, i < cs.size → VRel G' (getS c i) (cs.getD i undef) ∧ (cs.getD i undef).oneCell' = true) :
    ORel P G' nm w' (.row true 0 el cs.size c) :=
  ⟨b, 0, cs.size, sz, cs, 0, 0, hG, hw, rfl, by omega, fun _ => by omega, .inl (by omega), hsz, fun i hi => by rw [Nat.zero_add]; exact hc i hi⟩
theorem cP0_rel {G' : Gh} {b tot sz nm : Nat} (hG : G' nm = some (.blk b 0 tot sz)) (hn : nm < 16777216) : VRel G' (5 + 32 * nm) (.pointer (some ⟨b, 0, none⟩)) := by
  have := VRel.ptr (G := G') nm 0 b 0 tot sz hG hn (by decide)
  simpa [cP] using this
noncomputable def allocV (el n c : Nat) : V := fun _ _ => .blk 5 (.row true 0 el n c)
theorem alloc_ok {zv : Value} {sz : Nat} (hz : zeroOf P t = some zv) (ho : okZ zv.cells.toList = true) (hs : szOf P t = some sz) : VS P N pl ⟨dst, .alloc t, ty, ps, af, gd⟩ (allocV t zv.cells.size (zrow zv.cells.toList)) := by
  intro pb pn G h nx w e a R EE
  refine ⟨_, .cells zv.cells t, _, 0, zv.cells.size, sz, E.alloc EE.fr (zeroOf_run hz), ⟨rfl, rfl, rfl⟩, rfl, fun G' nm w' hg hG hn hw => ⟨cP0_rel hG hn, newRow_rel hG hw hs fun i hi => ?_⟩⟩
  have := (zrow_ok ho G').2 i (by simpa using hi)
  simpa [List.getD_eq_getElem?_getD, Array.getD_eq_getD_getElem?] using this
noncomputable def box1 (el : Nat) (x : Nat → Nat) : V := fun e _ => rif (oneT (x e)) (.blk 5 (.row true 0 el 1 (x e)))
theorem cells_one {v : Value} (h : v.oneCell' = true) : v.cells = #[v] := by cases v <;> first | rfl | cases h
theorem box1_ok {sz : Nat} (hs : szOf P t = some sz) : VS P N pl ⟨dst, .box t x, ty, ps, af, gd⟩ (box1 t (cO pl x)) := by
  intro pb pn G h nx w e a R EE
  refine ROk.rif fun hone => ?_
  have hv := EE.val x (by simp [Op.operands])
  have h1c := oneT_ok hv hone
  have := E.box (P := P) (a := a) (w := w) (dst := dst) (ty := ty) (ps := ps) (af := af) (g := gd) (t := t) (x := .const (a.eval x)) EE.fr rfl
  rw [cells_one h1c] at this
  refine ⟨_, .cells #[a.eval x] t, _, 0, 1, sz, this, ⟨rfl, rfl, rfl⟩, rfl, fun G' nm w' hg hG hn hw => ⟨cP0_rel hG hn, newRow_rel (cs := #[a.eval x]) hG hw hs fun i hi => ?_⟩⟩
  have : i = 0 := by simpa using hi
  subst this
  rw [getS_0' hv.lt]
  exact ⟨hv.mono hg, h1c⟩
noncomputable def boxA (el : Nat) (x : Nat → Nat) : V := fun e h => rif (isT 12 (x e)) (rdI Res.no (h.get (adN (x e))) fun n r => .blk 5 (.row true 0 el n r))
theorem ROk.rdI {S : Sem Next} {k : Nat → Nat → Res} (R : Rel P pb pn G h nx w) {cs : Array Value} (hG : G nm = some (.val (.agg cs)))
    (H : ∀ n r, cs.size = n → r < 2 ^ (96 * n) → (∀ i, i < n → VRel G (getS r i) (cs.getD i undef) ∧ (cs.getD i undef).oneCell' = true) → ROk P G w S (k n r)) : ROk P G w S (rdI Res.no (h.get nm) k) := by
  cases ho : h.get nm with
  | imm n r =>
    obtain ⟨h1, h2, h3⟩ := R.immO hG ho
    exact H n r h1 h2 h3
  | _ => trivial
theorem boxA_ok {sz : Nat} (hs : szOf P t = some sz) : VS P N pl ⟨dst, .box t x, ty, ps, af, gd⟩ (boxA t (cO pl x)) := by
  intro pb pn G h nx w e a R EE
  refine ROk.rif fun ht => ?_
  obtain ⟨nm, cs, hv, hc, hG, hn⟩ := (EE.val x (by simp [Op.operands])).inv_agg (isT_ok ht)
  rw [hc, adN_A hn]
  refine ROk.rdI R hG fun n r e1 e2 e3 => ?_
  subst e1
  have := E.box (P := P) (a := a) (w := w) (dst := dst) (ty := ty) (ps := ps) (af := af) (g := gd) (t := t) (x := .const (.agg cs)) EE.fr rfl
  refine ⟨_, .cells cs t, w.alloc (.cells cs t), 0, cs.size, sz, ?_, ⟨rfl, rfl, rfl⟩, rfl, fun G' nm w' hg hG hn hw => ⟨cP0_rel hG hn, newRow_rel hG hw hs fun i hi => ⟨(e3 i hi).1.mono hg, (e3 i hi).2⟩⟩⟩
  refine Eq.trans ?_ this
  simp only [execOp, hv]
  rfl

/-! ### parts of what a call yields -/
theorem adN_T {nm : Nat} (h : nm < 16777216) : adN (cT nm) = nm := by show (cT nm) / 32 % 16777216 = nm; unfold cT; omega
theorem ROk.rdT {S : Sem Next} {k : Nat → Nat → Res} (R : Rel P pb pn G h nx w) {cs : Array Value} (hG : G nm = some (.val (.tuple cs)))
    (H : ∀ n r, cs.size = n → (∀ i, i < n → VRel G (getS r i) (cs.getD i undef)) → ROk P G w S (k n r)) : ROk P G w S (rdT Res.no (h.get nm) k) := by
  cases ho : h.get nm with
  | tup n r =>
    have hO := R.obj nm (by rw [hG]; simp)
    rw [ho] at hO
    obtain ⟨cs', g1, g2, g4⟩ := hO
    rw [hG] at g1
    injection g1 with g1
    injection g1 with g1
    injection g1 with g1
    subst g1
    exact H n r g2 g4
  | _ => trivial
noncomputable def extV (i : Nat) (x : Nat → Nat) : V := fun e h => rif (isT 13 (x e)) (rdT Res.no (h.get (adN (x e))) fun n r => rif (Nat.blt i n) (.val (getS r i)))
theorem ext_ok {i : Nat} : VS P N pl ⟨dst, .extract x i, ty, ps, af, gd⟩ (extV i (cO pl x)) := by
  intro pb pn G h nx w e a R EE
  refine ROk.rif fun ht => ?_
  obtain ⟨nm, cs, hv, hc, hG, hn⟩ := (EE.val x (by simp [Op.operands])).inv_tup (isT_ok ht)
  rw [hc, adN_T hn]
  refine ROk.rdT R hG fun n r e1 e3 => ROk.rif fun hlt => ?_
  have hlt := blt_ok hlt
  refine ⟨cs.getD i undef, ?_, e3 i hlt⟩
  have := E.extract (P := P) (a := a) (w := w) (dst := dst) (ty := ty) (ps := ps) (af := af) (g := gd) (x := .const (.tuple cs)) (i := i) (v := cs.getD i undef) EE.fr rfl (by rw [Array.getD_eq_getD_getElem?, Array.getElem?_eq_getElem (by omega)]; rfl)
  rw [← this]
  simp only [execOp, hv]
  rfl

/-! ### slices' parts, indices -/
def slN (c : Nat) : Nat := Nat.mod (Nat.div c 32) 16777216
def slO (c : Nat) : Nat := Nat.mod (Nat.div c 536870912) 1048576
def slL (c : Nat) : Nat := Nat.mod (Nat.div c 562949953421312) 1048576
def slC (c : Nat) : Nat := Nat.div c 590295810358705651712
theorem sl_parts {nm off len cc : Nat} (h1 : nm < 16777216) (h2 : off < 1048576) (h3 : len < 1048576) : slN (cL nm off len cc) = nm ∧ slO (cL nm off len cc) = off ∧ slL (cL nm off len cc) = len ∧ slC (cL nm off len cc) = cc := by
  refine ⟨?_, ?_, ?_, ?_⟩
  · show (cL nm off len cc) / 32 % 16777216 = nm
    unfold cL; omega
  · show (cL nm off len cc) / 536870912 % 1048576 = off
    unfold cL; omega
  · show (cL nm off len cc) / 562949953421312 % 1048576 = len
    unfold cL; omega
  · show (cL nm off len cc) / 590295810358705651712 = cc
    unfold cL; omega
/-- an index: a number that is not less than 0 -/
noncomputable def idx {α : Type} (z : α) (d : Nat) (k : Nat → α) : α := Bool.rec (Bool.rec (Bool.rec z (k (py d)) (isN .u64 d)) (k (py d)) (isN .u8 d)) (Bool.rec z (k (Nat.sub (py d) 9223372036854775808)) (Nat.ble 9223372036854775808 (py d))) (isN .i64 d)
theorem idx_cases {α : Type} {z : α} {d : Nat} {k : Nat → α} {v : Value} (hv : VRel G d v) : idx z d k = z ∨ ∃ (kk : IntKind) (n : Nat), v = .int kk (n : Int) ∧ idx z d k = k n := by
  unfold idx
  cases h1 : isN .i64 d
  · cases h2 : isN .u8 d
    · cases h3 : isN .u64 d
      · exact .inl rfl
      · obtain ⟨n, p, rfl, rfl, e, l⟩ := hv.num (isN_ok h3)
        rw [py_eq]
        refine .inr ⟨.u64, p, ?_, rfl⟩
        have : n = (p : Int) := by simp [bias] at e; exact e
        rw [this]
    · obtain ⟨n, p, rfl, rfl, e, l⟩ := hv.num (isN_ok h2)
      rw [py_eq]
      refine .inr ⟨.u8, p, ?_, rfl⟩
      have : n = (p : Int) := by simp [bias] at e; exact e
      rw [this]
  · cases hle : Nat.ble 9223372036854775808 (py d)
    · exact .inl rfl
    · obtain ⟨n, p, rfl, rfl, e, l⟩ := hv.num (isN_ok h1)
      rw [py_eq] at hle ⊢
      have hle : 9223372036854775808 ≤ p := Nat.le_of_ble_eq_true hle
      refine .inr ⟨.i64, p - 9223372036854775808, ?_, rfl⟩
      have : n = ((p - 9223372036854775808 : Nat) : Int) := by simp only [bias] at e; omega
      rw [this]
theorem ROk.idx {S : Sem Next} {d : Nat} {k : Nat → Res} {v : Value} (hv : VRel G d v) (H : ∀ (kk : IntKind) (n : Nat), v = .int kk (n : Int) → ROk P G w S (k n)) : ROk P G w S (idx Res.no d k) := by
  rcases idx_cases (z := Res.no) (k := k) hv with h | ⟨kk, n, h1, h2⟩
  · rw [h]; trivial
  · rw [h2]; exact H kk n h1
noncomputable def iaV (sz : Nat) (x y : Nat → Nat) : V := fun e _ => rif (isT 7 (x e)) (idx Res.no (y e) fun i => rif (Nat.blt i (slL (x e))) (rif (Nat.blt (Nat.add (slO (x e)) (Nat.mul i sz)) 1048576) (.val (cP (slN (x e)) (Nat.add (slO (x e)) (Nat.mul i sz))))))
theorem ia_ok {el sz : Nat} (ht : P.underlying t = some (.slice el)) (hs : szOf P el = some sz) : VS P N pl ⟨dst, .indexAddr t x y, ty, ps, af, gd⟩ (iaV sz (cO pl x) (cO pl y)) := by
  intro pb pn G h nx w e a R EE
  refine ROk.rif fun ht7 => ROk.idx (EE.val y (by simp [Op.operands])) fun kk i hi => ROk.rif fun hlt => ROk.rif fun hbd => ?_
  obtain ⟨nm, off, len, cc, cap, b, s, tot, sz', hv, hc, hG, hn, ho, hl, hcc, hcap, hlc⟩ := (EE.val x (by simp [Op.operands])).inv_sl (isT_ok ht7)
  obtain ⟨p1, p2, p3, p4⟩ := sl_parts (cc := cc) hn ho hl
  rw [hc] at hlt hbd ⊢
  rw [p3] at hlt
  rw [p2] at hbd
  rw [p1, p2]
  have hlt := blt_ok hlt
  have hbd : off + i * sz < 1048576 := blt_ok hbd
  have := E.indexAddr (P := P) (a := a) (w := w) (dst := dst) (ty := ty) (ps := ps) (af := af) (g := gd) (x := .const (.slice (some ⟨b, s + off, none⟩) len cap)) (y := .const (.int kk (i : Int))) EE.fr ht hs rfl rfl (by omega) (by omega)
  refine ⟨.pointer (some ⟨b, s + (off + i * sz), none⟩), ?_, .ptr nm _ b s tot sz' hG hn hbd⟩
  rw [Int.toNat_natCast] at this
  rw [← Nat.add_assoc, ← this]
  simp only [execOp, hv, hi]
  rfl
noncomputable def iarV (m sz : Nat) (x y : Nat → Nat) : V := fun e _ => rif (isT 5 (x e)) (idx Res.no (y e) fun i => rif (Nat.blt i m) (rif (Nat.blt (Nat.add (adO (x e)) (Nat.mul i sz)) 1048576) (.val (cP (adN (x e)) (Nat.add (adO (x e)) (Nat.mul i sz))))))
theorem iar_ok {el sz m : Nat} (ht : P.underlying t = some (.array m el)) (hs : szOf P el = some sz) : VS P N pl ⟨dst, .indexAddr t x y, ty, ps, af, gd⟩ (iarV m sz (cO pl x) (cO pl y)) := by
  intro pb pn G h nx w e a R EE
  refine ROk.rif fun ht5 => ROk.idx (EE.val y (by simp [Op.operands])) fun kk i hi => ROk.rif fun hlt => ROk.rif fun hbd => ?_
  obtain ⟨nm, off, b, s, tot, sz', hv, hc, hG, hn, ho⟩ := (EE.val x (by simp [Op.operands])).inv_ptr (isT_ok ht5)
  rw [hc] at hbd ⊢
  rw [adO_P hn] at hbd
  rw [adN_P hn, adO_P hn]
  have hlt := blt_ok hlt
  have hbd : off + i * sz < 1048576 := blt_ok hbd
  have := E.indexArr (P := P) (a := a) (w := w) (dst := dst) (ty := ty) (ps := ps) (af := af) (gd := gd) (x := .const (.pointer (some ⟨b, s + off, none⟩))) (y := .const (.int kk (i : Int))) EE.fr ht hs rfl rfl (by omega) (by omega)
  refine ⟨.pointer (some ⟨b, s + (off + i * sz), none⟩), ?_, .ptr nm _ b s tot sz' hG hn hbd⟩
  rw [Int.toNat_natCast] at this
  rw [← Nat.add_assoc, ← this]
  simp only [execOp, hv, hi]
  rfl
end Go.Ev
end
section
/- Lengths, least and greatest, comparisons of other kinds by codes. -/
set_option linter.all false
namespace Go.Ev
open Go Go.RowKit Go.Hub
variable {P : Program} {N : Nat} {pl : List Value} {dst : Option Nat} {ty : TypeId} {ps : String} {af : Array Edge} {gd : Option (Nat × Bool)} {x y z : Operand} {t u : TypeId}
variable {φ : Nat → Tr → Nat → Prop} {pb : Kb} {pn : Nat → Option Obj} {G G' : Gh} {h h' : Tr} {nx nm : Nat} {w w' : World}

/-! ### lengths -/
/-- the code of a length -/
def nI (n : Nat) : Nat := Nat.add (tk .i64) (Nat.mul 256 (Nat.add 9223372036854775808 n))
theorem nI_ok {G : Gh} {n : Nat} (h : n < 9223372036854775808) : VRel G (nI n) (.int .i64 (n : Int)) := by
  have : nI n = cI .i64 (n : Int) := by
    show tk .i64 + 256 * (9223372036854775808 + n) = cI .i64 n
    unfold cI tk
    simp only [bias]
    omega
  rw [this]
  exact .int .i64 n (by simp only [bias, modu]; omega)
noncomputable def isSl (c : Nat) : Bool := Bool.rec (Bool.rec (Nat.beq c 17) true (Nat.beq c 6)) true (isT 7 c)
theorem VRel.inv_sl0 {G : Gh} {c : Nat} {v : Value} (h : VRel G c v) (hc : c = 17) : ∃ A cap, v = .slice (some A) 0 cap := by
  cases h <;> first
    | exact ⟨_, _, rfl⟩
    | (exfalso; rcases cB_val _ with e | e <;> rw [e] at hc <;> omega)
    | (exfalso; omega)
    | (exfalso; simp only [cI, cS, cP, cL, cM, cF, cA, cT, cC] at hc; omega)
theorem isSl_ok {c : Nat} {v : Value} (h : isSl c = true) (hv : VRel G c v) : ∃ A cap, v = .slice A (slL c) cap ∧ slL c < 1048576 ∧ (A = none ↔ c = 6) ∧ slL c ≤ cap := by
  unfold isSl at h
  cases h7 : isT 7 c
  · rw [h7] at h
    cases h6 : Nat.beq c 6
    · rw [h6] at h
      have : c = 17 := Nat.eq_of_beq_eq_true h
      subst this
      obtain ⟨A, cap, rfl⟩ := hv.inv_sl0 rfl
      exact ⟨some A, cap, rfl, by decide, by simp, Nat.zero_le _⟩
    · have : c = 6 := Nat.eq_of_beq_eq_true h6
      subst this
      obtain ⟨rfl, _⟩ := hv.inv_nils rfl
      exact ⟨none, 0, rfl, by decide, by simp, Nat.le_refl _⟩
  · obtain ⟨nm, off, len, cc, cap, b, s, tot, sz, rfl, rfl, hG, hn, ho, hl, hc, h1, h2⟩ := hv.inv_sl (isT_ok h7)
    obtain ⟨_, _, e, _⟩ := sl_parts (cc := cc) hn ho hl
    rw [e]
    exact ⟨_, cap, rfl, hl, by simp only [reduceCtorEq, false_iff]; unfold cL; omega, h2⟩
theorem lenL_ok {el : TypeId} (ht : P.underlying t = some (.slice el)) : VS P N pl ⟨dst, .call { callee := .builtin .len, args := #[x], argTypes := #[t] }, ty, ps, af, gd⟩ (v1 (cO pl x) isSl fun c => nI (slL c)) := by
  refine v1_ok (hx := by simp [Op.operands, Call.operands]) (ho := fun a w G c v hv rv hh => ?_)
  obtain ⟨A, cap, rfl, hl, _, _⟩ := isSl_ok hh rv
  refine ⟨.int .i64 (slL c), ?_, nI_ok (by omega)⟩
  simp [execOp, resolve, invoke, builtin, hv, Builtin.len_, run_underlying ht, goInt]
theorem VRel.inv_16 {G : Gh} {c : Nat} {v : Value} (h : VRel G c v) (hc : c = 16) : v = .string ⟨#[]⟩ := by
  cases h <;> first
    | rfl
    | (exfalso; rcases cB_val _ with e | e <;> rw [e] at hc <;> omega)
    | (exfalso; omega)
    | (exfalso; simp only [cI, cS, cP, cL, cM, cF, cA, cT, cC] at hc; omega)
/-- a text's name and length: the empty text, or one that is told -/
noncomputable def txtR {α : Type} (z : α) (h : Tr) (c : Nat) (k : Nat → Nat → α) : α := Bool.rec (Bool.rec z (k 0 0) (Nat.beq c 16)) (rdS z (h.get (adN c)) k) (isT 3 c)
theorem adN_S {nm : Nat} (h : nm < 16777216) : adN (cS nm) = nm := by show (cS nm) / 32 % 16777216 = nm; unfold cS; omega
theorem txt_cases {α : Type} {z : α} {c : Nat} {v : Value} {k : Nat → Nat → α} (R : Rel P pb pn G h nx w) (hv : VRel G c v) : txtR z h c k = z ∨ ∃ bs : ByteArray, v = .string bs ∧ txtR z h c k = k bs.size (rowB bs.data.toList) := by
  unfold txtR
  cases h3 : isT 3 c
  · cases h16 : Nat.beq c 16
    · exact .inl rfl
    · have : c = 16 := Nat.eq_of_beq_eq_true h16
      subst this
      have := hv.inv_16 rfl
      subst this
      exact .inr ⟨_, rfl, rfl⟩
  · obtain ⟨nm, bs, rfl, rfl, hG, hn⟩ := hv.inv_str (isT_ok h3)
    rw [adN_S hn]
    cases ho : h.get nm with
    | txt n r =>
      have hO := R.obj nm (by rw [hG]; simp)
      rw [ho] at hO
      obtain ⟨bs', g1, g2, g3⟩ := hO
      rw [hG] at g1
      injection g1 with g1
      injection g1 with g1
      injection g1 with g1
      subst g1 g2 g3
      exact .inr ⟨bs, rfl, rfl⟩
    | _ => exact .inl rfl
theorem ROk.txt {S : Sem Next} {c : Nat} {v : Value} {k : Nat → Nat → Res} (R : Rel P pb pn G h nx w) (hv : VRel G c v) (H : ∀ bs : ByteArray, v = .string bs → ROk P G w S (k bs.size (rowB bs.data.toList))) : ROk P G w S (txtR Res.no h c k) := by
  rcases txt_cases (z := Res.no) (k := k) R hv with e | ⟨bs, e1, e2⟩
  · rw [e]; trivial
  · rw [e2]; exact H bs e1
noncomputable def lenSV (x : Nat → Nat) : V := fun e h => txtR Res.no h (x e) fun n _ => rif (Nat.blt n 9223372036854775808) (.val (nI n))
theorem lenS_ok (ht : P.underlying t = some .string) : VS P N pl ⟨dst, .call { callee := .builtin .len, args := #[x], argTypes := #[t] }, ty, ps, af, gd⟩ (lenSV (cO pl x)) := by
  intro pb pn G h nx w e a R EE
  refine ROk.txt R (EE.val x (by simp [Op.operands, Call.operands])) fun bs hv => ROk.rif fun hb => ⟨.int .i64 bs.size, ?_, nI_ok (blt_ok hb)⟩
  simp [execOp, resolve, invoke, builtin, hv, Builtin.len_, run_underlying ht, goInt]
/-- a capacity that is known -/
noncomputable def capV (x : Nat → Nat) : V := fun e _ => Bool.rec (rif (isT 7 (x e)) (rif (Nat.blt 0 (slC (x e))) (.val (nI (Nat.sub (slC (x e)) 1))))) (.val (nI 0)) (Nat.beq (x e) 6)
theorem cap_ok {el : TypeId} (ht : P.underlying t = some (.slice el)) : VS P N pl ⟨dst, .call { callee := .builtin .cap, args := #[x], argTypes := #[t] }, ty, ps, af, gd⟩ (capV (cO pl x)) := by
  intro pb pn G h nx w e a R EE
  have hx := EE.val x (by simp [Op.operands, Call.operands])
  unfold capV
  cases h6 : Nat.beq (cO pl x e) 6
  · refine ROk.rif fun h7 => ROk.rif fun h0 => ?_
    obtain ⟨nm, off, len, cc, cap, b, s, tot, sz, hv, hc, hG, hn, ho, hl, hcc, h1, h2⟩ := hx.inv_sl (isT_ok h7)
    obtain ⟨_, _, _, e4⟩ := sl_parts (cc := cc) hn ho hl
    rw [hc, e4] at h0 ⊢
    have h0 : 0 < cc := blt_ok h0
    rw [if_neg (by omega)] at h1
    have e5 : Nat.sub cc 1 = cap := by show cc - 1 = cap; omega
    rw [e5]
    refine ⟨.int .i64 cap, ?_, nI_ok (by omega)⟩
    simp [execOp, resolve, invoke, builtin, hv, Builtin.cap_, run_underlying ht, goInt]
  · rw [Nat.eq_of_beq_eq_true h6] at hx
    obtain ⟨hv, _⟩ := hx.inv_nils rfl
    refine ⟨.int .i64 ((0 : Nat) : Int), ?_, nI_ok (by decide)⟩
    simp [execOp, resolve, invoke, builtin, hv, Builtin.cap_, run_underlying ht, goInt]
/-! ### least, greatest -/
noncomputable def rMin (c d : Nat) : Nat := Bool.rec d c (Nat.ble c d)
noncomputable def rMax (c d : Nat) : Nat := Bool.rec c d (Nat.ble c d)
theorem min_ok (k : IntKind) : VS P N pl ⟨dst, .call { callee := .builtin .min, args := #[x, y], argTypes := #[t, u] }, ty, ps, af, gd⟩ (v2 (cO pl x) (cO pl y) (both k) rMin) := by
  refine v2_ok (hx := by simp [Op.operands, Call.operands]) (hy := by simp [Op.operands, Call.operands]) (ho := fun a w G c d v u' hv hu rv ru hh => ?_)
  obtain ⟨t1, t2⟩ := both_ok hh
  have rv0 := rv
  have ru0 := ru
  obtain ⟨n, p, rfl, rfl, e1, l1⟩ := rv.num t1
  obtain ⟨m, q, rfl, rfl, e2, l2⟩ := ru.num t2
  refine ⟨.int k (Min.min n m), ?_, ?_⟩
  · have e : Min.min n m = if m < n then m else n := by rw [Int.min_def]; split <;> split <;> omega
    simp [execOp, resolve, invoke, builtin, hv, hu, Builtin.min_, Builtin.min2, e]
  · unfold rMin
    rw [bleN]
    by_cases hle : tk k + 256 * p ≤ tk k + 256 * q
    · rw [decide_eq_true hle, Int.min_eq_left (((num_cmp e1 e2).2.2).2 hle)]; exact rv0
    · rw [decide_eq_false hle, Int.min_eq_right (by omega)]; exact ru0
theorem max_ok (k : IntKind) : VS P N pl ⟨dst, .call { callee := .builtin .max, args := #[x, y], argTypes := #[t, u] }, ty, ps, af, gd⟩ (v2 (cO pl x) (cO pl y) (both k) rMax) := by
  refine v2_ok (hx := by simp [Op.operands, Call.operands]) (hy := by simp [Op.operands, Call.operands]) (ho := fun a w G c d v u' hv hu rv ru hh => ?_)
  obtain ⟨t1, t2⟩ := both_ok hh
  have rv0 := rv
  have ru0 := ru
  obtain ⟨n, p, rfl, rfl, e1, l1⟩ := rv.num t1
  obtain ⟨m, q, rfl, rfl, e2, l2⟩ := ru.num t2
  refine ⟨.int k (Max.max n m), ?_, ?_⟩
  · have e : Max.max n m = if n < m then m else n := by rw [Int.max_def]; split <;> split <;> omega
    simp [execOp, resolve, invoke, builtin, hv, hu, Builtin.max_, Builtin.max2, e]
  · unfold rMax
    rw [bleN]
    by_cases hle : tk k + 256 * p ≤ tk k + 256 * q
    · rw [decide_eq_true hle, Int.max_eq_right (((num_cmp e1 e2).2.2).2 hle)]; exact ru0
    · rw [decide_eq_false hle, Int.max_eq_left (by omega)]; exact rv0
/-! ### comparisons -/
theorem neqB_ok (ht : P.underlying t = some .bool) : VS P N pl ⟨dst, .binOp .neq t x y u, ty, ps, af, gd⟩ (v2 (cO pl x) (cO pl y) bothB (cmpR fNe)) := by
  refine v2_ok (ho := fun a w G c d v u' hv hu rv ru hh => ?_)
  obtain ⟨h1, h2⟩ := bothB_ok hh
  rcases h1 with rfl | rfl <;> rcases h2 with rfl | rfl
  · cases rv.b33; cases ru.b33
    exact ⟨.bool false, by simp [execOp, hv, hu, eqGuard, binOp, Op.equal, Op.maxDepth, run_equalIn_bool' w _ t _ _ ht, bne], vFalse⟩
  · cases rv.b33; cases ru.b1
    exact ⟨.bool true, by simp [execOp, hv, hu, eqGuard, binOp, Op.equal, Op.maxDepth, run_equalIn_bool' w _ t _ _ ht, bne], vTrue⟩
  · cases rv.b1; cases ru.b33
    exact ⟨.bool true, by simp [execOp, hv, hu, eqGuard, binOp, Op.equal, Op.maxDepth, run_equalIn_bool' w _ t _ _ ht, bne], vTrue⟩
  · cases rv.b1; cases ru.b1
    exact ⟨.bool false, by simp [execOp, hv, hu, eqGuard, binOp, Op.equal, Op.maxDepth, run_equalIn_bool' w _ t _ _ ht, bne], vFalse⟩
/-- a slice against nil -/
noncomputable def slNil (c d : Nat) : Bool := Bool.rec false (isSl c) (Nat.beq d 6)
theorem slNil_ok {c d : Nat} (h : slNil c d = true) : isSl c = true ∧ d = 6 := by
  unfold slNil at h
  cases h1 : Nat.beq d 6
  · rw [h1] at h; cases h
  · rw [h1] at h; exact ⟨h, Nat.eq_of_beq_eq_true h1⟩
theorem eqlNil_ok {el : TypeId} (ht : P.underlying t = some (.slice el)) : VS P N pl ⟨dst, .binOp .eql t x y u, ty, ps, af, gd⟩ (v2 (cO pl x) (cO pl y) slNil (cmpR Nat.beq)) := by
  refine v2_ok (ho := fun a w G c d v u' hv hu rv ru hh => ?_)
  obtain ⟨h1, rfl⟩ := slNil_ok hh
  obtain ⟨A, cap, rfl, _, hA, _⟩ := isSl_ok h1 rv
  obtain ⟨rfl, _⟩ := ru.inv_nils rfl
  have hr : (execOp a.eval ⟨dst, .binOp .eql t x y u, ty, ps, af, gd⟩).run P w = .ok (.value (.bool A.isNone)) w := by
    have := Lib.run_eql_slice_nil (P := P) w t el A (slL c) cap 0 0 ht
    simp only [execOp, hv, hu, eqGuard]
    simp [Sem.run_bind, this]
  refine ⟨_, hr, ?_⟩
  unfold cmpR
  rw [beqN]
  have : A.isNone = decide (c = 6) := by
    rw [← Bool.coe_iff_coe]
    simp only [Option.isNone_iff_eq_none, decide_eq_true_eq]
    exact hA
  rw [this]
  exact .bool _
theorem neqNil_ok {el : TypeId} (ht : P.underlying t = some (.slice el)) : VS P N pl ⟨dst, .binOp .neq t x y u, ty, ps, af, gd⟩ (v2 (cO pl x) (cO pl y) slNil (cmpR fNe)) := by
  refine v2_ok (ho := fun a w G c d v u' hv hu rv ru hh => ?_)
  obtain ⟨h1, rfl⟩ := slNil_ok hh
  obtain ⟨A, cap, rfl, _, hA, _⟩ := isSl_ok h1 rv
  obtain ⟨rfl, _⟩ := ru.inv_nils rfl
  have hr : (execOp a.eval ⟨dst, .binOp .neq t x y u, ty, ps, af, gd⟩).run P w = .ok (.value (.bool (!A.isNone))) w := by
    have := run_neq_slice_nil_any (P := P) w t el A (slL c) cap 0 0 ht
    simp only [execOp, hv, hu, eqGuard]
    simp [Sem.run_bind, this]
  refine ⟨_, hr, ?_⟩
  unfold cmpR fNe
  rw [beqN]
  have : A.isNone = decide (c = 6) := by
    rw [← Bool.coe_iff_coe]
    simp only [Option.isNone_iff_eq_none, decide_eq_true_eq]
    exact hA
  rw [this]
  exact .bool _
end Go.Ev
end
section
/- Texts by codes: equality, bytes, parts, sums; bytes into texts and back. -/
set_option linter.all false
namespace Go.Ev
open Go Go.RowKit Go.Hub
variable {P : Program} {N : Nat} {pl : List Value} {dst : Option Nat} {ty : TypeId} {ps : String} {af : Array Edge} {gd : Option (Nat × Bool)} {x y z : Operand} {t u : TypeId}
variable {φ : Nat → Tr → Nat → Prop} {pb : Kb} {pn : Nat → Option Obj} {G G' : Gh} {h h' : Tr} {nx nm : Nat} {w w' : World}

theorem cI8 (b : UInt8) : cI .u8 b.toNat = 130 + 256 * b.toNat := by
  unfold cI
  simp only [kx, bias]
  omega
theorem cI8_lt (b : UInt8) : cI .u8 b.toNat < 65792 := by
  rw [cI8]
  have := b.toNat_lt
  omega
theorem rowB_inj : ∀ (l l' : List UInt8), l.length = l'.length → rowB l = rowB l' → l = l' := by
  intro l
  induction l with
  | nil => intro l' h _; cases l' with
    | nil => rfl
    | cons => simp at h
  | cons b l ih =>
    intro l' h e
    cases l' with
    | nil => simp at h
    | cons b' l' =>
      unfold rowB at e
      have h1 := cI8_lt b
      have h2 := cI8_lt b'
      have e1 : cI .u8 b.toNat = cI .u8 b'.toNat := by omega
      have e2 : rowB l = rowB l' := by omega
      rw [cI8, cI8] at e1
      have : b = b' := UInt8.toNat_inj.1 (by omega)
      rw [this, ih l' (by simpa using h) e2]
theorem rowB_lt : ∀ (l : List UInt8), rowB l < 2 ^ (96 * l.length) := by
  intro l
  induction l with
  | nil => simp [rowB]
  | cons b l ih =>
    have h1 := cI8_lt b
    have e : 2 ^ (96 * (b :: l).length) = 79228162514264337593543950336 * 2 ^ (96 * l.length) := by
      rw [List.length_cons, Nat.mul_add, Nat.pow_add, Nat.mul_comm]
    rw [e]
    unfold rowB
    omega
theorem rowB_cat (b : UInt8) (l : List UInt8) : rowB (b :: l) = catR 1 (cI .u8 b.toNat) (rowB l) := by
  have h1 := cI8_lt b
  show cI .u8 b.toNat + 79228162514264337593543950336 * rowB l = cI .u8 b.toNat ||| (rowB l <<< (96 * 1))
  rw [Nat.or_comm, ← Nat.shiftLeft_add_eq_or_of_lt (by have : (2:Nat) ^ (96 * 1) = 79228162514264337593543950336 := by decide
                                                       rw [this]; omega), Nat.shiftLeft_eq]
  have : (2:Nat) ^ (96 * 1) = 79228162514264337593543950336 := by decide
  rw [this]
  omega
theorem getS_rowB : ∀ (l : List UInt8) (i : Nat), getS (rowB l) i = ((l[i]?).map fun b => cI .u8 b.toNat).getD 0 := by
  intro l
  induction l with
  | nil => intro i; simp [rowB, getS_0]
  | cons b l ih =>
    intro i
    have h1 := cI8_lt b
    have h96 : cI .u8 b.toNat < 2 ^ 96 := by
      have : (2:Nat) ^ 96 = 79228162514264337593543950336 := by decide
      rw [this]; omega
    rw [rowB_cat, getS_cat (by simpa using h96)]
    cases i with
    | zero => rw [if_pos (by omega), getS_0' h96]; rfl
    | succ i => rw [if_neg (by omega), Nat.add_sub_cancel, ih]; simp
/-! ### equality -/
noncomputable def eqT (n r m s : Nat) : Bool := Bool.rec false (Nat.beq r s) (Nat.beq n m)
theorem eqT_ok (a b : ByteArray) : eqT a.size (rowB a.data.toList) b.size (rowB b.data.toList) = decide (a = b) := by
  unfold eqT
  rw [beqN, beqN]
  by_cases h : a = b
  · subst h; simp
  · rw [decide_eq_false h]
    by_cases hs : a.size = b.size
    · rw [decide_eq_true hs]
      show decide _ = false
      refine decide_eq_false fun e => h ?_
      have := rowB_inj a.data.toList b.data.toList (by simpa using hs) e
      exact ByteArray.ext (Array.toList_inj.1 this)
    · rw [decide_eq_false hs]
noncomputable def eqTV (f : Bool → Bool) (x y : Nat → Nat) : V := fun e h => txtR Res.no h (x e) fun n r => txtR Res.no h (y e) fun m s => .val (cB (f (eqT n r m s)))
theorem eqlT_ok : VS P N pl ⟨dst, .binOp .eql t x y u, ty, ps, af, gd⟩ (eqTV (fun b => b) (cO pl x) (cO pl y)) := by
  intro pb pn G h nx w e a R EE
  refine ROk.txt R (EE.val x (by simp [Op.operands])) fun s hs => ROk.txt R (EE.val y (by simp [Op.operands])) fun r hr => ?_
  rw [eqT_ok]
  exact ⟨.bool (decide (s = r)), by simp [execOp, hs, hr, eqGuard, binOp, Op.stringOp, Go.Hub.beqD, Go.Hub.toList_eq_iff], .bool _⟩
theorem neqT_ok : VS P N pl ⟨dst, .binOp .neq t x y u, ty, ps, af, gd⟩ (eqTV (fun b => not b) (cO pl x) (cO pl y)) := by
  intro pb pn G h nx w e a R EE
  refine ROk.txt R (EE.val x (by simp [Op.operands])) fun s hs => ROk.txt R (EE.val y (by simp [Op.operands])) fun r hr => ?_
  rw [eqT_ok]
  exact ⟨.bool (!decide (s = r)), by simp [execOp, hs, hr, eqGuard, binOp, Op.stringOp, Go.Hub.beqD, Go.Hub.toList_eq_iff], .bool _⟩
/-! ### bytes -/
noncomputable def ixTV (x y : Nat → Nat) : V := fun e h => txtR Res.no h (x e) fun n r => idx Res.no (y e) fun i => rif (Nat.blt i n) (.val (getS r i))
theorem ixT_ok (ht : P.underlying t = some .string) : VS P N pl ⟨dst, .index t x y, ty, ps, af, gd⟩ (ixTV (cO pl x) (cO pl y)) := by
  intro pb pn G h nx w e a R EE
  refine ROk.txt R (EE.val x (by simp [Op.operands])) fun s hs => ROk.idx (EE.val y (by simp [Op.operands])) fun kk i hi => ROk.rif fun hlt => ?_
  have hlt := blt_ok hlt
  have hb : s.data.toList[i]? = some s.data[i] := by
    rw [List.getElem?_eq_getElem (by simpa using hlt)]
    simp
  have := E.indexS (P := P) (a := a) (w := w) (dst := dst) (ty := ty) (ps := ps) (af := af) (g := gd) (x := .const (.string s)) (y := .const (.int kk (i : Int))) (b := s.data[i]) EE.fr ht rfl rfl (by omega) (by rw [Int.toNat_natCast]; exact getElem?_pos s i hlt)
  refine ⟨.int .u8 s.data[i].toNat, ?_, ?_⟩
  · rw [← this]
    simp only [execOp, Option.map_some, hs, hi]
    rfl
  · rw [getS_rowB, hb]
    exact .int .u8 _ (by have := s.data[i].toNat_lt; simp only [bias, modu]; omega)
/-! ### parts -/
noncomputable def cutT (n r i j : Nat) : Res := rif (Nat.ble i j) (rif (Nat.ble j n) (Bool.rec (.imm 3 (.txt (Nat.sub j i) (sub r i (Nat.sub j i)))) (.val 16) (Nat.beq i j)))
theorem extract_list (s : ByteArray) (i j : Nat) : (s.extract i j).data.toList = (s.data.toList.drop i).take (j - i) := by
  simp [ByteArray.data_extract, List.extract_eq_take_drop]
theorem rowB_cut {l : List UInt8} {i m : Nat} (h : i + m ≤ l.length) : sub (rowB l) i m = rowB ((l.drop i).take m) := by
  have hl : ((l.drop i).take m).length = m := by simp; omega
  have := rowB_lt ((l.drop i).take m)
  rw [hl] at this
  refine row_ext (sub_lt _ _ _) this fun k hk => ?_
  rw [getS_sub, if_pos hk, getS_rowB, getS_rowB, List.getElem?_take_of_lt hk, List.getElem?_drop]
theorem cutT_ok {S : Sem Next} {s : ByteArray} {i j : Nat} (h : i ≤ j → j ≤ s.size → S.run P w = .ok (.value (.string (s.extract i j))) w) : ROk P G w S (cutT s.size (rowB s.data.toList) i j) := by
  refine ROk.rif fun h1 => ROk.rif fun h2 => ?_
  have h1 : i ≤ j := Nat.le_of_ble_eq_true h1
  have h2 : j ≤ s.size := Nat.le_of_ble_eq_true h2
  have hr := h h1 h2
  cases he : Nat.beq i j
  · have hlen : (s.extract i j).size = j - i := by simp; omega
    refine ⟨_, hr, rfl, fun G' nm hg hG hn => ⟨.str nm _ hG hn, fun w' => ⟨_, hG, hlen, ?_⟩⟩⟩
    rw [extract_list]
    exact rowB_cut (by have : s.data.toList.length = s.size := by simp
                       show i + (j - i) ≤ _
                       omega)
  · have : i = j := Nat.eq_of_beq_eq_true he
    subst this
    refine ⟨_, hr, ?_⟩
    have : s.extract i i = ⟨#[]⟩ := ByteArray.ext (by simp)
    rw [this]
    exact .str0
noncomputable def slTV (x y z : Nat → Nat) : V := fun e h => txtR Res.no h (x e) fun n r => idx Res.no (y e) fun i => idx Res.no (z e) fun j => cutT n r i j
theorem slT_ok (ht : P.underlying t = some .string) : VS P N pl ⟨dst, .slice t x (some y) (some z) none, ty, ps, af, gd⟩ (slTV (cO pl x) (cO pl y) (cO pl z)) := by
  intro pb pn G h nx w e a R EE
  refine ROk.txt R (EE.val x (by simp [Op.operands])) fun s hs => ROk.idx (EE.val y (by simp [Op.operands])) fun k1 i hi => ROk.idx (EE.val z (by simp [Op.operands])) fun k2 j hj => cutT_ok fun h1 h2 => ?_
  have := E.slS (P := P) (a := a) (w := w) (dst := dst) (ty := ty) (ps := ps) (af := af) (g := gd) (x := .const (.string s)) (y := .const (.int k1 (i : Int))) (z := .const (.int k2 (j : Int))) EE.fr ht rfl rfl rfl (by omega) (by omega) (by omega)
  rw [Int.toNat_natCast, Int.toNat_natCast] at this
  rw [← this]
  simp only [execOp, Option.map_some, hs, hi, hj]
  rfl
noncomputable def slTloV (x y : Nat → Nat) : V := fun e h => txtR Res.no h (x e) fun n r => idx Res.no (y e) fun i => cutT n r i n
theorem slTlo_ok (ht : P.underlying t = some .string) : VS P N pl ⟨dst, .slice t x (some y) none none, ty, ps, af, gd⟩ (slTloV (cO pl x) (cO pl y)) := by
  intro pb pn G h nx w e a R EE
  refine ROk.txt R (EE.val x (by simp [Op.operands])) fun s hs => ROk.idx (EE.val y (by simp [Op.operands])) fun k1 i hi => cutT_ok fun h1 h2 => ?_
  have := E.slSlo (P := P) (a := a) (w := w) (dst := dst) (ty := ty) (ps := ps) (af := af) (g := gd) (x := .const (.string s)) (y := .const (.int k1 (i : Int))) EE.fr ht rfl rfl (by omega) (by omega)
  rw [Int.toNat_natCast] at this
  rw [← this]
  simp only [execOp, Option.map_some, hs, hi]
  rfl
noncomputable def slThiV (x y : Nat → Nat) : V := fun e h => txtR Res.no h (x e) fun n r => idx Res.no (y e) fun i => cutT n r 0 i
theorem slThi_ok (ht : P.underlying t = some .string) : VS P N pl ⟨dst, .slice t x none (some y) none, ty, ps, af, gd⟩ (slThiV (cO pl x) (cO pl y)) := by
  intro pb pn G h nx w e a R EE
  refine ROk.txt R (EE.val x (by simp [Op.operands])) fun s hs => ROk.idx (EE.val y (by simp [Op.operands])) fun k1 i hi => cutT_ok fun h1 h2 => ?_
  have := E.slShi (P := P) (a := a) (w := w) (dst := dst) (ty := ty) (ps := ps) (af := af) (g := gd) (x := .const (.string s)) (y := .const (.int k1 (i : Int))) EE.fr ht rfl rfl (by omega) (by omega)
  rw [Int.toNat_natCast] at this
  rw [← this]
  simp only [execOp, Option.map_some, hs, hi]
  rfl
/-! ### sums -/
noncomputable def addTV (x y : Nat → Nat) : V := fun e h => txtR Res.no h (x e) fun n r => txtR Res.no h (y e) fun m s => rif (Nat.blt (Nat.add n m) 1000000) (Bool.rec (.imm 3 (.txt (Nat.add n m) (catR n r s))) (.val 16) (Nat.beq (Nat.add n m) 0))
theorem addT_ok : VS P N pl ⟨dst, .binOp .add t x y u, ty, ps, af, gd⟩ (addTV (cO pl x) (cO pl y)) := by
  intro pb pn G h nx w e a R EE
  refine ROk.txt R (EE.val x (by simp [Op.operands])) fun s hs => ROk.txt R (EE.val y (by simp [Op.operands])) fun r hr => ROk.rif fun hlt => ?_
  have hlt : s.size + r.size < 1000000 := blt_ok hlt
  have := E.addS (P := P) (a := a) (w := w) (dst := dst) (t := t) (u := u) (ty := ty) (ps := ps) (af := af) (g := gd) (x := .const (.string s)) (y := .const (.string r)) EE.fr rfl rfl (by omega)
  have hrun : (execOp a.eval ⟨dst, .binOp .add t x y u, ty, ps, af, gd⟩).run P w = .ok (.value (.string (s ++ r))) w := by
    rw [← this]
    simp only [execOp, hs, hr]
    rfl
  have hsz : (s ++ r).size = s.size + r.size := by simp
  have hlist : (s ++ r).data.toList = s.data.toList ++ r.data.toList := by simp
  cases he : Nat.beq (Nat.add s.size r.size) 0
  · refine ⟨_, hrun, rfl, fun G' nm hg hG hn => ⟨.str nm _ hG hn, fun w' => ⟨_, hG, hsz, ?_⟩⟩⟩
    rw [hlist]
    have l1 : s.data.toList.length = s.size := by simp
    have l2 : r.data.toList.length = r.size := by simp
    have b1 := rowB_lt s.data.toList
    have b2 := rowB_lt r.data.toList
    have b3 := rowB_lt (s.data.toList ++ r.data.toList)
    rw [List.length_append] at b3
    rw [l1] at b1 b3
    rw [l2] at b2 b3
    refine row_ext (cat_lt b1 b2) b3 fun i hi => ?_
    rw [getS_cat b1, getS_rowB, getS_rowB, getS_rowB]
    split
    · rw [List.getElem?_append_left (by omega)]
    · rw [List.getElem?_append_right (by omega), l1]
  · have h0 : s.size + r.size = 0 := Nat.eq_of_beq_eq_true he
    have : s ++ r = ⟨#[]⟩ := by
      have h1 : (s ++ r).data = #[] := Array.eq_empty_of_size_eq_zero (by show (s ++ r).size = 0; rw [hsz, h0])
      exact ByteArray.ext h1
    refine ⟨_, hrun, ?_⟩
    rw [this]
    exact .str0
end Go.Ev
end
section
/- Parts of slices by codes. -/
set_option linter.all false
namespace Go.Ev
open Go Go.RowKit Go.Hub
variable {P : Program} {N : Nat} {pl : List Value} {dst : Option Nat} {ty : TypeId} {ps : String} {af : Array Edge} {gd : Option (Nat × Bool)} {x y z v3 : Operand} {t u : TypeId}
variable {φ : Nat → Tr → Nat → Prop} {pb : Kb} {pn : Nat → Option Obj} {G G' : Gh} {h h' : Tr} {nx nm : Nat} {w w' : World}

/-- it is not above the capacity, for sure -/
noncomputable def capOk (c j : Nat) : Bool := Bool.rec (Nat.blt j (slC c)) true (Nat.ble j (slL c))
noncomputable def mkL (sz c i j cc : Nat) : Res := rif (Nat.blt (Nat.add (slO c) (Nat.mul i sz)) 1048576) (.val (cL (slN c) (Nat.add (slO c) (Nat.mul i sz)) (Nat.sub j i) cc))
noncomputable def slcU (sz c i j : Nat) (ok : Bool) : Res := rif ok (Bool.rec (Bool.rec (.val 17) (mkL sz c i j 0) (Nat.beq i 0)) (mkL sz c i j 0) (Nat.blt i (slL c)))
noncomputable def slcK (sz c i j : Nat) : Res := Bool.rec (mkL sz c i j (Nat.sub (slC c) i)) (.val (cL (slN c) (slO c) 0 1)) (Nat.beq (slC c) (Nat.add i 1))
noncomputable def slcM (sz c i j k : Nat) : Res := rif (Nat.ble j k) (rif (capOk c k) (Bool.rec (rif (Nat.blt (Nat.add (Nat.sub k i) 1) 1048576) (mkL sz c i j (Nat.add (Nat.sub k i) 1))) (.val (cL (slN c) (slO c) 0 1)) (Nat.beq k i)))
noncomputable def slc7 (sz c i j kc : Nat) (ok : Bool) : Res := rif (Nat.ble i j) (rif (capOk c j) (Bool.rec (slcM sz c i j (Nat.sub kc 1)) (Bool.rec (slcK sz c i j) (slcU sz c i j ok) (Nat.beq (slC c) 0)) (Nat.beq kc 0)))
noncomputable def slc6 (c i j kc : Nat) : Res := rif (Nat.beq (Nat.add i j) 0) (rif (Nat.ble kc 1) (.val c))
noncomputable def slcR (sz c i j kc : Nat) (ok : Bool) : Res := Bool.rec (rif (isSl c) (slc6 c i j kc)) (slc7 sz c i j kc ok) (isT 7 c)
/-- what the machine says -/
def SlRun (P : Program) (w : World) (S : Sem Next) (v : Value) (sz i j kc : Nat) : Prop := ∀ A len cap, v = .slice A len cap → i ≤ j → j ≤ (if kc = 0 then cap else kc - 1) → (if kc = 0 then cap else kc - 1) ≤ cap →
  S.run P w = .ok (.value (.slice (if (if kc = 0 then cap else kc - 1) = i then A else A.map (·.add (i * sz))) (j - i) ((if kc = 0 then cap else kc - 1) - i))) w
theorem slcR_ok {S : Sem Next} {c sz i j kc : Nat} {v : Value} {ok : Bool} (hv : VRel G c v) (hsz : ok = true → ∀ nm b s tot z, c % 32 = 7 → G nm = some (.blk b s tot z) → slN c = nm → z = sz) (hS : SlRun P w S v sz i j kc) : ROk P G w S (slcR sz c i j kc ok) := by
  unfold slcR
  cases h7 : isT 7 c
  · refine ROk.rif fun hs => ROk.rif fun hij => ROk.rif fun hk => ?_
    have hij : i + j = 0 := Nat.eq_of_beq_eq_true hij
    have hk : kc ≤ 1 := Nat.le_of_ble_eq_true hk
    have e1 : i = 0 := by omega
    have e2 : j = 0 := by omega
    subst e1 e2
    unfold isSl at hs
    rw [h7] at hs
    cases h6 : Nat.beq c 6
    · rw [h6] at hs
      have : c = 17 := Nat.eq_of_beq_eq_true hs
      subst this
      obtain ⟨A, cap, rfl⟩ := hv.inv_sl0 rfl
      have := hS _ _ _ rfl (Nat.le_refl _) (Nat.zero_le _) (by split <;> omega)
      refine ⟨_, this, ?_⟩
      generalize (if kc = 0 then cap else kc - 1) = m
      obtain ⟨A', e⟩ : ∃ A', (if m = 0 then some A else (some A).map (·.add (0 * sz))) = some A' := by split <;> exact ⟨_, rfl⟩
      rw [e]
      exact .sl0 _ _
    · have : c = 6 := Nat.eq_of_beq_eq_true h6
      subst this
      obtain ⟨rfl, _⟩ := hv.inv_nils rfl
      have := hS _ _ _ rfl (Nat.le_refl _) (Nat.zero_le _) (by split <;> omega)
      have e3 : (if kc = 0 then 0 else kc - 1) = 0 := by split <;> omega
      rw [e3] at this
      exact ⟨_, this, .nils⟩
  · have ht := isT_ok h7
    obtain ⟨nm, off, len, cc, cap, b, s, tot, z, rfl, rfl, hG, hn, ho, hl, hc, hcap, hlc⟩ := hv.inv_sl ht
    obtain ⟨p1, p2, p3, p4⟩ := sl_parts (cc := cc) hn ho hl
    have cok : ∀ {k : Nat}, capOk (cL nm off len cc) k = true → k ≤ cap := fun {k} hk => by
      unfold capOk at hk
      rw [p3, p4] at hk
      cases h1 : Nat.ble k len
      · rw [h1] at hk
        have := blt_ok hk
        rw [if_neg (by omega)] at hcap
        omega
      · have := Nat.le_of_ble_eq_true h1
        omega
    refine ROk.rif fun hij => ROk.rif fun hj => ?_
    have hij : i ≤ j := Nat.le_of_ble_eq_true hij
    have hj0 := hj
    have hjc := cok hj
    have mk : ∀ {m cc' : Nat}, S.run P w = .ok (.value (.slice ((some ⟨b, s + off, none⟩ : Option Addr).map (·.add (i * sz))) (j - i) (m - i))) w → j ≤ m → j - i < 1048576 → cc' < 1048576 → (if cc' = 0 then s + (off + i * sz) + (m - i) * z = tot else m - i + 1 = cc') → ROk P G w S (mkL sz (cL nm off len cc) i j cc') := by
      intro m cc' hr hjm hji hcc hm
      unfold mkL
      rw [p1, p2]
      refine ROk.rif fun hb => ?_
      have hb : off + i * sz < 1048576 := blt_ok hb
      refine ⟨_, hr, ?_⟩
      have e1 : (some (⟨b, s + off, none⟩ : Addr)).map (·.add (i * sz)) = some ⟨b, s + (off + i * sz), none⟩ := by
        simp [add_plain, Nat.add_assoc]
      rw [e1]
      exact .sl nm _ _ cc' _ b s tot z hG hn hb hji hcc hm (by show j - i ≤ m - i; omega)
    have at0 : S.run P w = .ok (.value (.slice (some ⟨b, s + off, none⟩) 0 0)) w → ROk P G w S (.val (cL nm off 0 1)) := fun hr => ⟨_, hr, .sl nm off 0 1 0 b s tot z hG hn ho (by omega) (by omega) (by simp) (Nat.le_refl _)⟩
    cases hk : Nat.beq kc 0
    · have hk0 : kc ≠ 0 := fun e => by subst e; cases hk
      simp only [SlRun, if_neg hk0] at hS
      refine ROk.rif fun hjk => ROk.rif fun hck => ?_
      have hjk : j ≤ kc - 1 := Nat.le_of_ble_eq_true hjk
      have hck : kc - 1 ≤ cap := cok hck
      have hr := hS _ _ _ rfl hij hjk hck
      cases he : Nat.beq (Nat.sub kc 1) i
      · have hne : kc - 1 ≠ i := fun e => by have e : Nat.sub kc 1 = i := e; rw [e] at he; simp at he
        rw [if_neg hne] at hr
        refine ROk.rif fun hlt => ?_
        have hlt : kc - 1 - i + 1 < 1048576 := blt_ok hlt
        exact mk (m := kc - 1) (cc' := kc - 1 - i + 1) hr hjk (by omega) hlt (by rw [if_neg (by omega)])
      · have he : kc - 1 = i := Nat.eq_of_beq_eq_true he
        rw [if_pos he] at hr
        rw [p1, p2]
        refine at0 ?_
        rw [hr]
        have : j - i = 0 := by omega
        rw [this, he, Nat.sub_self]
    · have hk0 : kc = 0 := Nat.eq_of_beq_eq_true hk
      simp only [SlRun, if_pos hk0] at hS
      have hr := hS _ _ _ rfl hij hjc (Nat.le_refl _)
      rw [p4]
      cases hc0 : Nat.beq cc 0
      · have hcc : cc ≠ 0 := fun e => by subst e; cases hc0
        rw [if_neg hcc] at hcap
        unfold slcK
        rw [p4]
        cases he : Nat.beq cc (Nat.add i 1)
        · have hne : cap ≠ i := fun e => by
            have e : cc = Nat.add i 1 := by show cc = i + 1; omega
            rw [e] at he; simp at he
          rw [if_neg hne] at hr
          exact mk (m := cap) (cc' := cc - i) hr hjc (by omega) (by omega) (by rw [if_neg (by omega)]; omega)
        · have he : cc = i + 1 := Nat.eq_of_beq_eq_true he
          have he2 : cap = i := by omega
          rw [if_pos he2] at hr
          rw [p1, p2]
          refine at0 ?_
          rw [hr]
          have : j - i = 0 := by omega
          rw [this, he2, Nat.sub_self]
      · have hcc : cc = 0 := Nat.eq_of_beq_eq_true hc0
        subst hcc
        rw [if_pos rfl] at hcap
        have hjl : j ≤ len := by
          unfold capOk at hj0
          rw [p3, p4] at hj0
          cases h1 : Nat.ble j len
          · rw [h1] at hj0
            have := blt_ok hj0
            omega
          · exact Nat.le_of_ble_eq_true h1
        unfold slcU
        rw [p3]
        refine ROk.rif fun hok => ?_
        have hz : z = sz := hsz hok nm b s tot z ht hG p1
        subst hz
        have key : i * z + (cap - i) * z = cap * z := by rw [← Nat.add_mul]; congr 1; omega
        have fit : ∀ {r : Option Addr}, r = (some (⟨b, s + off, none⟩ : Addr)).map (·.add (i * z)) → S.run P w = .ok (.value (.slice r (j - i) (cap - i))) w → ROk P G w S (mkL z (cL nm off len 0) i j 0) := fun e hr => by
          subst e
          exact mk (m := cap) (cc' := 0) hr hjc (by omega) (by omega) (by rw [if_pos rfl]; omega)
        cases hil : Nat.blt i len
        · have hge : ¬ i < len := fun e => by
            have h2 : Nat.blt i len = true := Nat.ble_eq_true_of_le e
            rw [h2] at hil; cases hil
          cases hi0 : Nat.beq i 0
          · refine ⟨_, hr, ?_⟩
            have hji : j - i = 0 := by omega
            rw [hji]
            obtain ⟨A', e⟩ : ∃ A', (if cap = i then some (⟨b, s + off, none⟩ : Addr) else (some (⟨b, s + off, none⟩ : Addr)).map (·.add (i * z))) = some A' := by split <;> exact ⟨_, rfl⟩
            rw [e]
            exact .sl0 _ _
          · have : i = 0 := Nat.eq_of_beq_eq_true hi0
            subst this
            refine fit ?_ hr
            split
            · simp [add_plain]
            · rfl
        · have hlt : i < len := blt_ok hil
          refine fit ?_ hr
          rw [if_neg (by omega)]
/-- the type of a row's elements, and one more -/
noncomputable def elR (o : Obj) : Nat := Obj.rec 0 (fun _ _ el _ _ => Nat.succ el) (fun el _ _ => Nat.succ el) (fun _ _ => 0) (fun _ _ => 0) (fun _ _ => 0) (fun _ _ _ _ _ => 0) (fun _ _ _ _ => 0) (fun _ _ => 0) (fun _ _ _ _ _ => 0) o
noncomputable def isEl (h : Tr) (c el : Nat) : Bool := Nat.beq (elR (h.get (slN c))) (Nat.succ el)
theorem isEl_ok (R : Rel P pb pn G h nx w) {c el sz : Nat} (hs : szOf P el = some sz) (hb : isEl h c el = true) : ∀ nm b s tot z, c % 32 = 7 → G nm = some (.blk b s tot z) → slN c = nm → z = sz := by
  intro nm b s tot z _ hG hn
  unfold isEl at hb
  have hb := Nat.eq_of_beq_eq_true hb
  rw [hn] at hb
  have hO := R.obj nm (by rw [hG]; simp)
  cases ho : h.get nm with
  | row cl fz el' n c =>
    rw [ho] at hb hO
    obtain ⟨b', s', tot', sz', cs, lo, hi, h1, h2, h3, h4, h5, h6, h7, h8⟩ := hO
    rw [hG] at h1
    injection h1 with h1
    injection h1 with e1 e2 e3 e4
    subst e1 e2 e3 e4
    have : el' = el := Nat.succ.inj hb
    subst this
    rw [hs] at h7
    exact (Option.some.inj h7).symm
  | rom el' n c =>
    rw [ho] at hb hO
    obtain ⟨b', s', tot', sz', cs, fr, h1, h2, h3, h4, h7, h8⟩ := hO
    rw [hG] at h1
    injection h1 with h1
    injection h1 with e1 e2 e3 e4
    subst e1 e2 e3 e4
    have : el' = el := Nat.succ.inj hb
    subst this
    rw [hs] at h7
    exact (Option.some.inj h7).symm
  | _ => rw [ho] at hb; cases hb
noncomputable def slLV (el sz : Nat) (x y z : Nat → Nat) : V := fun e h => idx Res.no (y e) fun i => idx Res.no (z e) fun j => slcR sz (x e) i j 0 (isEl h (x e) el)
theorem slL_ok {el sz : Nat} (ht : P.underlying t = some (.slice el)) (hs : szOf P el = some sz) : VS P N pl ⟨dst, .slice t x (some y) (some z) none, ty, ps, af, gd⟩ (slLV el sz (cO pl x) (cO pl y) (cO pl z)) := by
  intro pb pn G h nx w e a R EE
  refine ROk.idx (EE.val y (by simp [Op.operands])) fun k1 i hi => ROk.idx (EE.val z (by simp [Op.operands])) fun k2 j hj => slcR_ok (EE.val x (by simp [Op.operands])) (isEl_ok R hs) ?_
  intro A len cap hv h1 h2 h3
  have := E.slL (P := P) (a := a) (w := w) (dst := dst) (ty := ty) (ps := ps) (af := af) (g := gd) (x := .const (.slice A len cap)) (y := .const (.int k1 (i : Int))) (z := .const (.int k2 (j : Int))) EE.fr ht hs rfl rfl rfl (by omega) (by omega) (by simp at h2; omega)
  rw [Int.toNat_natCast, Int.toNat_natCast] at this
  simp only [if_true]
  rw [← this]
  simp only [execOp, Option.map_some, hv, hi, hj]
  rfl
noncomputable def slLloV (el sz : Nat) (x y : Nat → Nat) : V := fun e h => rif (isSl (x e)) (idx Res.no (y e) fun i => slcR sz (x e) i (slL (x e)) 0 (isEl h (x e) el))
theorem slLlo_ok {el sz : Nat} (ht : P.underlying t = some (.slice el)) (hs : szOf P el = some sz) : VS P N pl ⟨dst, .slice t x (some y) none none, ty, ps, af, gd⟩ (slLloV el sz (cO pl x) (cO pl y)) := by
  intro pb pn G h nx w e a R EE
  have hx := EE.val x (by simp [Op.operands])
  refine ROk.rif fun hsl => ROk.idx (EE.val y (by simp [Op.operands])) fun k1 i hi => slcR_ok hx (isEl_ok R hs) ?_
  intro A len cap hv h1 h2 h3
  obtain ⟨A', cap', hv', hl, _, _⟩ := isSl_ok hsl hx
  rw [hv] at hv'
  injection hv' with e1 e2 e3
  rw [← e2] at h1 ⊢
  have := E.slLlo (P := P) (a := a) (w := w) (dst := dst) (ty := ty) (ps := ps) (af := af) (g := gd) (x := .const (.slice A len cap)) (y := .const (.int k1 (i : Int))) EE.fr ht hs rfl rfl (by omega) (by omega)
  rw [Int.toNat_natCast] at this
  simp only [if_true]
  rw [← this]
  simp only [execOp, Option.map_some, hv, hi]
  rfl
noncomputable def slLhiV (el sz : Nat) (x y : Nat → Nat) : V := fun e h => idx Res.no (y e) fun j => slcR sz (x e) 0 j 0 (isEl h (x e) el)
theorem slLhi_ok {el sz : Nat} (ht : P.underlying t = some (.slice el)) (hs : szOf P el = some sz) : VS P N pl ⟨dst, .slice t x none (some y) none, ty, ps, af, gd⟩ (slLhiV el sz (cO pl x) (cO pl y)) := by
  intro pb pn G h nx w e a R EE
  refine ROk.idx (EE.val y (by simp [Op.operands])) fun k1 j hj => slcR_ok (EE.val x (by simp [Op.operands])) (isEl_ok R hs) ?_
  intro A len cap hv h1 h2 h3
  have := E.slLhi (P := P) (a := a) (w := w) (dst := dst) (ty := ty) (ps := ps) (af := af) (g := gd) (x := .const (.slice A len cap)) (y := .const (.int k1 (j : Int))) EE.fr ht hs rfl rfl (by omega) (by simp at h2; omega)
  rw [Int.toNat_natCast] at this
  have e0 : (if cap = 0 then A else A.map (·.add (0 * sz))) = A := by
    split
    · rfl
    · cases A with
      | none => rfl
      | some b => cases b with | mk b o s => simp [Addr.add]
  simp only [if_true, e0, Nat.sub_zero]
  rw [← this]
  simp only [execOp, Option.map_some, hv, hj]
  rfl
end Go.Ev
end
section
/- Pointers against nil by codes; texts into bytes and back. -/
set_option linter.all false
namespace Go.Ev
open Go Go.RowKit Go.Hub
variable {P : Program} {N : Nat} {pl : List Value} {dst : Option Nat} {ty : TypeId} {ps : String} {af : Array Edge} {gd : Option (Nat × Bool)} {x y z v3 : Operand} {t u : TypeId}
variable {φ : Nat → Tr → Nat → Prop} {pb : Kb} {pn : Nat → Option Obj} {G G' : Gh} {h h' : Tr} {nx nm : Nat} {w w' : World}

/-! ### pointers, one of them nil -/
noncomputable def ptrNil (c d : Nat) : Bool := Bool.rec (Bool.rec false (isT 5 c) (Nat.beq d 4)) (Bool.rec (isT 5 d) true (Nat.beq d 4)) (Nat.beq c 4)
theorem ptrNil_ok {c d : Nat} {v v' : Value} (hv : VRel G c v) (hv' : VRel G d v') (h : ptrNil c d = true) : ∃ p q, v = .pointer p ∧ v' = .pointer q ∧ (p = none ∨ q = none) ∧ decide (c = d) = (p.isNone && q.isNone) := by
  unfold ptrNil at h
  cases h1 : Nat.beq c 4
  · rw [h1] at h
    cases h2 : Nat.beq d 4
    · rw [h2] at h; cases h
    · rw [h2] at h
      have : d = 4 := Nat.eq_of_beq_eq_true h2
      subst this
      obtain ⟨rfl, _⟩ := hv'.inv_nilp rfl
      have ht := isT_ok h
      obtain ⟨nm, off, b, s, tot, sz, rfl, hc, _⟩ := hv.inv_ptr ht
      exact ⟨_, none, rfl, rfl, .inr rfl, by simp; omega⟩
  · rw [h1] at h
    have : c = 4 := Nat.eq_of_beq_eq_true h1
    subst this
    obtain ⟨rfl, _⟩ := hv.inv_nilp rfl
    cases h2 : Nat.beq d 4
    · rw [h2] at h
      have ht := isT_ok h
      obtain ⟨nm, off, b, s, tot, sz, rfl, hc, _⟩ := hv'.inv_ptr ht
      exact ⟨none, _, rfl, rfl, .inl rfl, by simp; omega⟩
    · have : d = 4 := Nat.eq_of_beq_eq_true h2
      subst this
      obtain ⟨rfl, _⟩ := hv'.inv_nilp rfl
      exact ⟨none, none, rfl, rfl, .inl rfl, rfl⟩
theorem run_equal_nilp {el : TypeId} (ht : P.underlying t = some (.pointer el)) {p q : Option Addr} (h : p = none ∨ q = none) (d : Nat) : (Op.equalIn (d + 1) t (.pointer p) (.pointer q)).run P w = .ok (p.isNone && q.isNone) w := by
  rcases h with rfl | rfl
  · simp [Op.equalIn, run_underlying ht]
  · cases p with
    | none => simp [Op.equalIn, run_underlying ht]
    | some a => simp [Op.equalIn, run_underlying ht]
theorem eqlP_ok {el : TypeId} (ht : P.underlying t = some (.pointer el)) : VS P N pl ⟨dst, .binOp .eql t x y u, ty, ps, af, gd⟩ (v2 (cO pl x) (cO pl y) ptrNil (cmpR Nat.beq)) := by
  refine v2_ok (ho := fun a w G c d v u' hv hu rv ru hh => ?_)
  obtain ⟨p, q, rfl, rfl, hpq, he⟩ := ptrNil_ok rv ru hh
  refine ⟨.bool (p.isNone && q.isNone), ?_, ?_⟩
  · simp [execOp, hv, hu, eqGuard, binOp, Op.equal, Op.maxDepth, run_equal_nilp ht hpq 9999]
  · unfold cmpR
    rw [beqN, he]
    exact .bool _
theorem neqP_ok {el : TypeId} (ht : P.underlying t = some (.pointer el)) : VS P N pl ⟨dst, .binOp .neq t x y u, ty, ps, af, gd⟩ (v2 (cO pl x) (cO pl y) ptrNil (cmpR fNe)) := by
  refine v2_ok (ho := fun a w G c d v u' hv hu rv ru hh => ?_)
  obtain ⟨p, q, rfl, rfl, hpq, he⟩ := ptrNil_ok rv ru hh
  refine ⟨.bool (!(p.isNone && q.isNone)), ?_, ?_⟩
  · simp [execOp, hv, hu, eqGuard, binOp, Op.equal, Op.maxDepth, run_equal_nilp ht hpq 9999]
  · unfold cmpR fNe
    rw [beqN, he]
    exact .bool _
end Go.Ev
end
section
/- Values of several cells that are built. -/
set_option linter.all false
namespace Go.Ev
open Go Go.RowKit Go.Hub
variable {P : Program} {N : Nat} {pl : List Value} {dst : Option Nat} {ty : TypeId} {ps : String} {af : Array Edge} {gd : Option (Nat × Bool)} {x y z v3 : Operand} {t u : TypeId}
variable {φ : Nat → Tr → Nat → Prop} {pb : Kb} {pn : Nat → Option Obj} {G G' : Gh} {h h' : Tr} {nx nm : Nat} {w w' : World}

theorem foldl_set (off : Nat) : ∀ (l : List Value) (k : Nat) (cs : Array Value), off + k + l.length ≤ cs.size →
    ((l.zipIdx k).foldl (fun cs (p : Value × Nat) => cs.setIfInBounds (off + p.2) p.1) cs).size = cs.size ∧
    ∀ j, ((l.zipIdx k).foldl (fun cs (p : Value × Nat) => cs.setIfInBounds (off + p.2) p.1) cs).getD j undef = if off + k ≤ j ∧ j < off + k + l.length then l.getD (j - (off + k)) undef else cs.getD j undef := by
  intro l
  induction l with
  | nil => intro k cs _; exact ⟨rfl, fun j => by rw [if_neg (by simp)]; rfl⟩
  | cons v l ih =>
    intro k cs hb
    rw [List.length_cons] at hb
    rw [List.zipIdx_cons, List.foldl_cons]
    obtain ⟨h1, h2⟩ := ih (k + 1) (cs.setIfInBounds (off + k) v) (by simp; omega)
    refine ⟨by rw [h1]; simp, fun j => ?_⟩
    rw [h2 j, List.length_cons]
    by_cases hj : off + (k + 1) ≤ j ∧ j < off + (k + 1) + l.length
    · rw [if_pos hj, if_pos (by omega), show j - (off + k) = (j - (off + (k + 1))) + 1 from by omega]
      simp
    · rw [if_neg hj]
      by_cases hjk : j = off + k
      · subst hjk
        rw [if_pos (by omega)]
        simp only [Array.getD_eq_getD_getElem?, Nat.sub_self]
        rw [Array.getElem?_setIfInBounds, if_pos rfl, if_pos (by omega)]
        rfl
      · rw [if_neg (by omega)]
        simp only [Array.getD_eq_getD_getElem?]
        rw [Array.getElem?_setIfInBounds, if_neg (by omega)]
/-- the cells of a value -/
noncomputable def cellsR (h : Tr) (c : Nat) (k : Nat → Nat → Res) : Res := Bool.rec (rif (isT 12 c) (rdI Res.no (h.get (adN c)) k)) (k 1 c) (oneT c)
/-- a row's cells are told -/
structure CellsR (G : Gh) (n r : Nat) (cs : Array Value) : Prop where
  size : cs.size = n
  lt : r < 2 ^ (96 * n)
  rel : ∀ i, i < n → VRel G (getS r i) (cs.getD i undef) ∧ (cs.getD i undef).oneCell' = true
theorem ROk.cells {S : Sem Next} {k : Nat → Nat → Res} {c : Nat} {v : Value} (R : Rel P pb pn G h nx w) (hv : VRel G c v) (H : ∀ n r, CellsR G n r v.cells → ROk P G w S (k n r)) : ROk P G w S (cellsR h c k) := by
  unfold cellsR
  cases h1 : oneT c
  · refine ROk.rif fun ht => ?_
    obtain ⟨nm, cs, rfl, rfl, hG, hn⟩ := hv.inv_agg (isT_ok ht)
    rw [adN_A hn]
    exact ROk.rdI R hG fun n r e1 e2 e3 => H n r ⟨e1, e2, e3⟩
  · have h1c := oneT_ok hv h1
    refine H 1 c ⟨by rw [cells_one h1c]; rfl, by simpa using hv.lt, fun i hi => ?_⟩
    have : i = 0 := by omega
    subst this
    rw [getS_0' hv.lt, cells_one h1c]
    exact ⟨hv, h1c⟩
noncomputable def fillR (place : Nat → Option (Nat × Nat)) (n : Nat) (e : Nat) (h : Tr) (pl : List Value) (k : Nat → Res) : List (Nat × Operand) → Nat → Res
  | [], r => k r
  | (i, x) :: l, r => match place i with
    | none => .no
    | some (off, size) => cellsR h (cO pl x e) fun m rv => rif (Nat.beq m size) (rif (Nat.ble (Nat.add off m) n) (fillR place n e h pl k l (put r off m rv)))
theorem fillR_ok {S : Sem Next} {place : Nat → Option (Nat × Nat)} {n e : Nat} {a : Act} {k : Nat → Res} (R : Rel P pb pn G h nx w) : ∀ (l : List (Nat × Operand)) (r : Nat) (cs : Array Value), (∀ p ∈ l, VRel G (cO pl p.2 e) (a.eval p.2)) → CellsR G n r cs →
    (∀ r' cs', CellsR G n r' cs' → Instr.fill place cs (l.map fun p => (p.1, a.eval p.2)) = some cs' → ROk P G w S (k r')) → ROk P G w S (fillR place n e h pl k l r) := by
  intro l
  induction l with
  | nil => intro r cs _ hc H; exact H r cs hc rfl
  | cons p l ih =>
    obtain ⟨i, x⟩ := p
    intro r cs hl hc H
    unfold fillR
    cases hp : place i with
    | none => trivial
    | some os =>
      obtain ⟨off, size⟩ := os
      refine ROk.cells R (hl (i, x) (by simp)) fun m rv hv => ROk.rif fun hm => ROk.rif fun hb => ?_
      have hm : m = size := Nat.eq_of_beq_eq_true hm
      have hb : off + m ≤ n := Nat.le_of_ble_eq_true hb
      have hsz : (a.eval x).cells.size = m := hv.size
      obtain ⟨f1, f2⟩ := foldl_set off (a.eval x).cells.toList 0 cs (by rw [hc.size]; simp; omega)
      have hlen : (a.eval x).cells.toList.length = m := by simp [hsz]
      rw [hlen] at f2
      refine ih (put r off m rv) _ (fun p hp => hl p (by simp [hp])) ⟨f1.trans hc.size, put_lt hv.lt hc.lt hb, fun j hj => ?_⟩ fun r' cs' hc' hf => H r' cs' hc' ?_
      · rw [f2 j, getS_put hv.lt]
        simp only [Nat.add_zero]
        by_cases hjo : off ≤ j ∧ j < off + m
        · rw [if_pos hjo, if_pos hjo]
          have := hv.rel (j - off) (by omega)
          simpa [List.getD_eq_getElem?_getD, Array.getD_eq_getD_getElem?] using this
        · rw [if_neg hjo, if_neg hjo]
          exact hc.rel j hj
      · show Instr.fill place cs ((i, a.eval x) :: l.map fun p => (p.1, a.eval p.2)) = some cs'
        unfold Instr.fill
        rw [hp]
        simp only
        have hcs := hc.size
        rw [if_neg (by
          rw [Bool.or_eq_true, decide_eq_true_eq, decide_eq_true_eq]
          rintro (h1 | h1)
          · exact h1 (hsz.trans hm)
          · rw [hsz, hcs] at h1; omega)]
        rw [← hf]
        congr 1
        rw [← Array.foldl_toList, Array.toList_zipIdx]
noncomputable def buildV (pl : List Value) (place : Nat → Option (Nat × Nat)) (n z : Nat) (parts : List (Nat × Operand)) : V := fun e h => fillR place n e h pl (fun r => .imm 12 (.imm n r)) parts z
theorem CellsR.zero {zs : List Value} (h : okZ zs = true) : CellsR G zs.length (zrow zs) zs.toArray :=
  ⟨by simp, (zrow_ok h G).1, fun i hi => by
    have := (zrow_ok h G).2 i hi
    simpa [List.getD_eq_getElem?_getD, Array.getD_eq_getD_getElem?] using this⟩
theorem build_ok {parts : Array (Nat × Operand)} {place : Nat → Option (Nat × Nat)} {zs : List Value} (hb : ∀ vs, P.built t vs = Instr.fill place zs.toArray vs) (ho : okZ zs = true) :
    VS P N pl ⟨dst, .build t parts, ty, ps, af, gd⟩ (buildV pl place zs.length (zrow zs) parts.toList) := by
  intro pb pn G h nx w e a R EE
  refine fillR_ok R parts.toList _ zs.toArray (fun p hp => EE.val p.2 (by simp only [Op.operands]; exact List.mem_map.2 ⟨p, hp, rfl⟩)) (CellsR.zero ho) fun r cs hc hf => ?_
  have hr : (execOp a.eval ⟨dst, .build t parts, ty, ps, af, gd⟩).run P w = .ok (.value (.agg cs)) w := E.build (P := P) (a := a) (w := w) EE.fr (vs := parts.toList.map fun p => (p.1, a.eval p.2)) (by rw [Array.toList_map]) (by rw [hb, hf])
  refine ⟨.agg cs, hr, rfl, fun G' nm hg hG hn => ⟨.agg nm cs hG hn, fun w' => ⟨cs, hG, hc.size, hc.lt, fun i hi => ⟨(hc.rel i hi).1.mono hg, (hc.rel i hi).2⟩⟩⟩⟩
/-! ### slices that are built -/
noncomputable def bslV (pl : List Value) (el sz len n z : Nat) (parts : List (Nat × Operand)) : V := fun e h => rif (Nat.blt len 1000000) (fillR (fun i => some (i * sz, sz)) n e h pl (fun r => .blk (cL 0 0 len (Nat.succ len)) (.row true 0 el n r)) parts z)
theorem bsl_ok {parts : Array (Nat × Operand)} {el sz len : Nat} {zv : Value} {zs : List Value} (ht : P.underlying t = some (.slice el)) (hi : (P.info? el).map (fun i => (i.zero, i.size)) = some (some zv, sz)) (hs : Nat.ble (len * sz) 16777216 = true) (hp : Nat.beq (len * sz) 0 = false)
    (hzs : ((Array.range (len * sz)).map fun j => zv.cells[j % zv.cells.size]!) = zs.toArray) (ho : okZ zs = true) : VS P N pl ⟨dst, .buildSlice t len parts, ty, ps, af, gd⟩ (bslV pl el sz len zs.length (zrow zs) parts.toList) := by
  intro pb pn G h nx w e a R EE
  refine ROk.rif fun hlt => ?_
  have hlt : len < 1000000 := blt_ok hlt
  refine fillR_ok R parts.toList _ zs.toArray (fun p hp => EE.val p.2 (by simp only [Op.operands]; exact List.mem_map.2 ⟨p, hp, rfl⟩)) (CellsR.zero ho) fun r cs hc hf => ?_
  have hr := E.buildSlice (P := P) (a := a) (w := w) (dst := dst) (ty := ty) (ps := ps) (af := af) (gd := gd) EE.fr (parts := parts) (vs := parts.toList.map fun p => (p.1, a.eval p.2)) (by rw [Array.toList_map]) ht hi hs hp (by rw [hzs]; exact hf)
  have hsz : szOf P el = some sz := by
    unfold szOf
    cases hq : P.info? el with
    | none => simp [hq] at hi
    | some i => simp [hq] at hi; simp [hi.2]
  have hn : zs.length = len * sz := by
    have := congrArg Array.size hzs
    simpa using this.symm
  refine ⟨_, .cells cs el, _, 0, zs.length, sz, hr, ⟨rfl, rfl, rfl⟩, rfl, fun G' nm w' hg hG hnm hw => ⟨?_, ?_⟩⟩
  · have e1 : cL 0 0 len (Nat.succ len) + 32 * nm = cL nm 0 len (len + 1) := by unfold cL; omega
    rw [e1]
    have := VRel.sl (G := G') nm 0 len (len + 1) len w.heap.size 0 zs.length sz hG hnm (by omega) (by omega) (by omega) (by simp) (Nat.le_refl _)
    simpa using this
  · have := newRow_rel (cs := cs) (by rw [hc.size]; exact hG) hw hsz fun i hi => ⟨(hc.rel i (by rw [hc.size] at hi; exact hi)).1.mono hg, (hc.rel i (by rw [hc.size] at hi; exact hi)).2⟩
    rw [hc.size] at this
    exact this
end Go.Ev
end
section
/- Maps by codes: made, their length. -/
set_option linter.all false
namespace Go.Ev
open Go Go.RowKit Go.Hub
variable {P : Program} {N : Nat} {pl : List Value} {dst : Option Nat} {ty : TypeId} {ps : String} {af : Array Edge} {gd : Option (Nat × Bool)} {x y z v3 : Operand} {t u : TypeId}
variable {φ : Nat → Tr → Nat → Prop} {pb : Kb} {pn : Nat → Option Obj} {G G' : Gh} {h h' : Tr} {nx nm : Nat} {w w' : World}

noncomputable def mkMapV : V := fun _ _ => .blk 9 (.map false 0 0 0)
theorem mkMap_ok : VS P N pl ⟨dst, .makeMap t none, ty, ps, af, gd⟩ mkMapV := by
  intro pb pn G h nx w e a R EE
  have hr : (execOp a.eval ⟨dst, .makeMap t none, ty, ps, af, gd⟩).run P w = .ok (.value (.map (some w.heap.size))) (w.alloc (.map #[] 0)) := rfl
  exact ⟨_, .map #[] 0, _, 0, 0, 0, hr, ⟨rfl, rfl, rfl⟩, rfl, fun G' nm w' hg hG hn hw => ⟨.map nm _ 0 0 0 hG hn, _, 0, 0, 0, #[], hG, hw, rfl, fun i e he => by simp at he⟩⟩
theorem adN_M {nm : Nat} (h : nm < 16777216) : adN (cM nm) = nm := by show (cM nm) / 32 % 16777216 = nm; unfold cM; omega
/-- a map that is told: its length -/
noncomputable def lenMV (x : Nat → Nat) : V := fun e h => Bool.rec (rif (isT 9 (x e)) (rdM Res.no (h.get (adN (x e))) fun _ n _ => rif (Nat.blt n 1000000) (.val (nI n)))) (.val (nI 0)) (Nat.beq (x e) 8)
theorem lenM_ok {k e : TypeId} (ht : P.underlying t = some (.map k e)) : VS P N pl ⟨dst, .call { callee := .builtin .len, args := #[x], argTypes := #[t] }, ty, ps, af, gd⟩ (lenMV (cO pl x)) := by
  intro pb pn G h nx w e' a R EE
  have hx := EE.val x (by simp [Op.operands, Call.operands])
  unfold lenMV
  cases h8 : Nat.beq (cO pl x e') 8
  · refine ROk.rif fun h9 => ?_
    obtain ⟨nm, b, s, tot, sz, hv, hc, hG, hn⟩ := hx.inv_map (isT_ok h9)
    rw [hc, adN_M hn]
    cases ho : h.get nm with
    | map ck n c =>
      refine ROk.rif fun hlt => ?_
      have hlt := blt_ok hlt
      have hO := R.obj nm (by rw [hG]; simp)
      rw [ho] at hO
      obtain ⟨b', s', tot', sz', es, g1, g2, g3, g4⟩ := hO
      rw [hG] at g1
      injection g1 with g1
      injection g1 with e1 e2 e3 e4
      subst e1 e2 e3 e4
      subst g3
      refine ⟨.int .i64 es.size, ?_, nI_ok (by omega)⟩
      simp [execOp, resolve, invoke, builtin, hv, Builtin.len_, run_underlying ht, goInt, getObj, Sem.run, g2]
    | _ => trivial
  · rw [Nat.eq_of_beq_eq_true h8] at hx
    obtain ⟨hv, _⟩ := hx.inv_nilm rfl
    refine ⟨.int .i64 ((0 : Nat) : Int), ?_, nI_ok (by decide)⟩
    simp [execOp, resolve, invoke, builtin, hv, Builtin.len_, run_underlying ht, goInt]
end Go.Ev
end
section
/- Rows of one code, many times. -/
set_option linter.all false
namespace Go.Ev
open Go Go.RowKit Go.Hub

/-- one, at n places -/
def ones (n : Nat) : Nat := Nat.div (Nat.sub (Nat.pow 2 (Nat.mul 96 n)) 1) 79228162514264337593543950335
def onesR : Nat → Nat
  | 0 => 0
  | n + 1 => 1 + 79228162514264337593543950336 * onesR n
theorem onesR_mul : ∀ n, 79228162514264337593543950335 * onesR n + 1 = 2 ^ (96 * n) := by
  intro n
  induction n with
  | zero => rfl
  | succ n ih =>
    have e : (2 : Nat) ^ (96 * (n + 1)) = 79228162514264337593543950336 * 2 ^ (96 * n) := by
      rw [Nat.mul_add, Nat.pow_add, Nat.mul_comm]
    have e2 : onesR (n + 1) = 1 + 79228162514264337593543950336 * onesR n := rfl
    rw [e, ← ih, e2]
    omega
theorem ones_eq (n : Nat) : ones n = onesR n := by
  show (2 ^ (96 * n) - 1) / 79228162514264337593543950335 = onesR n
  rw [← onesR_mul n, Nat.add_sub_cancel]
  exact Nat.mul_div_cancel_left _ (by decide)
theorem cat1 {c d : Nat} (h : c < 2 ^ 96) : catR 1 c d = c + 79228162514264337593543950336 * d := by
  show c ||| (d <<< (96 * 1)) = _
  rw [Nat.or_comm, ← Nat.shiftLeft_add_eq_or_of_lt (by simpa using h), Nat.shiftLeft_eq]
  have : (2 : Nat) ^ (96 * 1) = 79228162514264337593543950336 := by decide
  rw [this]
  omega
theorem rep_rowL {c : Nat} (h : c < 2 ^ 96) : ∀ n, Nat.mul c (ones n) = rowL (List.replicate n c) := by
  intro n
  rw [ones_eq]
  induction n with
  | zero => rfl
  | succ n ih =>
    rw [List.replicate_succ]
    show c * onesR (n + 1) = catR 1 c (rowL (List.replicate n c))
    rw [← ih, cat1 h]
    show c * (1 + 79228162514264337593543950336 * onesR n) = c + 79228162514264337593543950336 * (c * onesR n)
    rw [Nat.mul_add, Nat.mul_one, Nat.mul_left_comm]
theorem rep_lt {c : Nat} (h : c < 2 ^ 96) (n : Nat) : Nat.mul c (ones n) < 2 ^ (96 * n) := by
  rw [rep_rowL h]
  have := rowL_lt (List.replicate n c) fun d hd => by rw [(List.mem_replicate.1 hd).2]; exact h
  simpa using this
theorem getS_rep {c : Nat} (h : c < 2 ^ 96) (n i : Nat) : getS (Nat.mul c (ones n)) i = if i < n then c else 0 := by
  rw [rep_rowL h, getS_rowL _ fun d hd => by rw [(List.mem_replicate.1 hd).2]; exact h]
  by_cases hi : i < n
  · rw [if_pos hi]; simp [List.getD_eq_getElem?_getD, hi]
  · rw [if_neg hi]; simp [List.getD_eq_getElem?_getD, hi]
/-- every place of a row holds a byte's code -/
noncomputable def allB (n r : Nat) : Bool := Nat.beq (Nat.land r (Nat.mul 255 (ones n))) (Nat.mul 130 (ones n))
theorem getS_land (a b i : Nat) : getS (Nat.land a b) i = Nat.land (getS a i) (getS b i) := by
  apply Nat.eq_of_testBit_eq
  intro k
  show (getS (a &&& b) i).testBit k = (getS a i &&& getS b i).testBit k
  rw [Nat.testBit_and, getS_eq, getS_eq, getS_eq, tb_sub, tb_sub, tb_sub, Nat.testBit_and]
  cases decide (k < 96 * 1) <;> simp
theorem allB_ok {n r : Nat} (h : allB n r = true) : ∀ i, i < n → isN .u8 (getS r i) = true := by
  intro i hi
  have h := congrArg (fun v => getS v i) (Nat.eq_of_beq_eq_true h)
  simp only [getS_land] at h
  rw [getS_rep (by decide), getS_rep (by decide), if_pos hi, if_pos hi] at h
  have h : getS r i &&& 255 = 130 := h
  rw [show (255 : Nat) = 2 ^ 8 - 1 from rfl, Nat.and_two_pow_sub_one_eq_mod] at h
  show Nat.beq (getS r i % 256) (tk .u8) = true
  rw [show (256 : Nat) = 2 ^ 8 from rfl, h]
  rfl
end Go.Ev
end
section
/- The evaluator's control: rows of operations, branches, loops, calls, results. -/
set_option linter.all false
namespace Go.Ev
open Go Go.RowKit Go.Hub
variable {P : Program} {N : Nat} {pl : List Value}

abbrev K := Nat → Tr → Nat → T
/-- a call: the function, how many arguments, these as the frame's first slots -/
abbrev CL := Nat → Nat → Nat → Tr → Nat → KV → T
abbrev X := CL → Nat → Tr → Nat → K → T
structure Box where
  f : X
abbrev Comp := Nat → Array Oper → Oper → Box
/-- go on, with the frame's number made plain -/
noncomputable def goM (h : Tr) (nx : Nat) (k : K) (m : Nat) (_ : T) : T := k m h nx
noncomputable def go (e : Nat) (h : Tr) (nx : Nat) (k : K) : T := Nat.rec T.fail (goM h nx k) (Nat.add e 1)
theorem go_eq (e : Nat) (h : Tr) (nx : Nat) (k : K) : go e h nx k = k e h nx := rfl
variable {φ : Nat → Tr → Nat → Prop} {pb : Kb} {pn : Nat → Option Obj} {G G' : Gh} {h h' : Tr} {nx nm : Nat} {w w' : World}
/-- what goes on is right -/
def KS (P : Program) (N : Nat) (pl : List Value) (φ : Nat → Tr → Nat → Prop) (pb : Kb) (pn : Nat → Option Obj) (G : Gh) (k : K) (Q : Act → World → Prop) : Prop :=
  ∀ G' h' nx' w' e' a', Gle G G' → Rel P pb pn G' h' nx' w' → ERel pl G' N e' a' → Tall φ (k e' h' nx') → Q a' w'
theorem KS.mono {k : K} {Q : Act → World → Prop} (h : KS P N pl φ pb pn G k Q) (hg : Gle G G') : KS P N pl φ pb pn G' k Q := fun G2 h' nx' w' e' a' g => h G2 h' nx' w' e' a' (hg.trans g)
/-- a call's evaluation is right -/
def CLS (P : Program) (pl : List Value) (cl : CL) : Prop := ∀ φ pb pn G h nx w f e0 (args : Array Value) kv (R : Ending → World → Prop), Rel P pb pn G h nx w → Pool pl G → (∀ i, i < args.size → VRel G (gF e0 i) (args.getD i undef)) → (∀ i, args.size ≤ i → gF e0 i = 0) →
  Tall φ (cl f args.size e0 h nx kv) → (∀ G' h' nx' w' c v, Gle G G' → Rel P pb pn G' h' nx' w' → VRel G' c v → Tall φ (kv c h' nx') → R (.returned v) w') → Calls P f args w R
/-! ### operations into a region's steps -/
/-- an operation that does more than to yield a value: it hands a code on -/
abbrev CV := CL → Nat → Tr → Nat → KV → T
/-- all that an operation looks at: its operands, the slot of its guard -/
def looks (ops : Array Oper) (o : Oper) : List Operand := o.op.operands.toList ++ (match o.guard with | none => [] | some (j, _) => match (ops[j]?).bind (·.dst) with | some gs => [.tmp gs] | none => [])
def VG (P : Program) (N : Nat) (pl : List Value) (ops : Array Oper) (o : Oper) (f : V) : Prop := ∀ pb pn G h nx w e a, Rel P pb pn G h nx w → EOp pl G N (fun x => cO pl x e) a (looks ops o) →
  ROk P G w (if Region.wanted o (yielded ops a.tmps) then execOp a.eval o else pure (.value undef)) (f e h)
def XG (P : Program) (N : Nat) (pl : List Value) (ops : Array Oper) (o : Oper) (f : CV) : Prop := ∀ cl φ pb pn G h nx w e a kv (K : Act → World → Prop) (Q : Exit → Act → World → Prop), CLS P pl cl → Rel P pb pn G h nx w → EOp pl G N (fun x => cO pl x e) a (looks ops o) →
  Tall φ (f cl e h nx kv) → (∀ G' h' nx' w' c v, Gle G G' → Rel P pb pn G' h' nx' w' → VRel G' c v → Tall φ (kv c h' nx') → K (a.put o.dst v) w') → if Region.wanted o (yielded ops a.tmps) then o.wp P a w K Q else K (a.put o.dst undef) w
/-- .. without its guard -/
def XS (P : Program) (N : Nat) (pl : List Value) (o : Oper) (f : CV) : Prop := ∀ cl φ pb pn G h nx w e a kv (K : Act → World → Prop) (Q : Exit → Act → World → Prop), CLS P pl cl → Rel P pb pn G h nx w → EOp pl G N (fun x => cO pl x e) a o.op.operands.toList →
  Tall φ (f cl e h nx kv) → (∀ G' h' nx' w' c v, Gle G G' → Rel P pb pn G' h' nx' w' → VRel G' c v → Tall φ (kv c h' nx') → K (a.put o.dst v) w') → o.wp P a w K Q
noncomputable def aX (f : A) : CV := fun _ e h nx kv => f e h nx fun h nx => kv 0 h nx
theorem AS.xs {o : Oper} {f : A} (hf : AS P N pl o f) : XS P N pl o (aX f) := by
  intro cl φ pb pn G h nx w e a kv K Q C R EE H HK
  obtain ⟨w', G', h', nx', h1, hg, R', H⟩ := hf φ pb pn G h nx w e a _ R EE H
  unfold Oper.wp
  rw [h1]
  exact HK G' h' nx' w' 0 undef hg R' (.unk _) H
/-- an entry: an operation that yields a value, one that does more -/
inductive Ent where
  | no
  | v (f : V)
  | x (f : CV)
def EntS (P : Program) (N : Nat) (pl : List Value) (ops : Array Oper) (o : Oper) : Ent → Prop
  | .no => True
  | .v f => VG P N pl ops o f
  | .x f => XG P N pl ops o f
/-- .. without its guard -/
def EntO (P : Program) (N : Nat) (pl : List Value) (o : Oper) : Ent → Prop
  | .no => True
  | .v f => VS P N pl o f
  | .x f => XS P N pl o f
noncomputable def gV (gs : Nat) (want : Bool) (f : V) : V := fun e h => Bool.rec (Bool.rec (rif (Nat.beq (gF e gs) 18) (.val 18)) (Bool.rec (f e h) (.val 18) want) (Nat.beq (gF e gs) 1)) (Bool.rec (.val 18) (f e h) want) (Nat.beq (gF e gs) 33)
noncomputable def gX (gs : Nat) (want : Bool) (f : CV) : CV := fun cl e h nx kv => Bool.rec (Bool.rec (chk (Nat.beq (gF e gs) 18) (kv 18 h nx)) (Bool.rec (f cl e h nx kv) (kv 18 h nx) want) (Nat.beq (gF e gs) 1)) (Bool.rec (kv 18 h nx) (f cl e h nx kv) want) (Nat.beq (gF e gs) 33)
noncomputable def gE (gs : Nat) (want : Bool) (E : Ent) : Ent := Ent.rec .no (fun f => .v (gV gs want f)) (fun f => .x (gX gs want f)) E
/-- an operation's entry, with its guard -/
noncomputable def gEnt (N : Nat) (ops : Array Oper) (o : Oper) (E : Ent) : Ent := match o.guard with
  | none => E
  | some (j, want) => match (ops[j]?).bind (·.dst) with
    | some gs => cond (Nat.blt gs N) (gE gs want E) .no
    | none => .no
theorem EOp.sub {G : Gh} {c : Operand → Nat} {a : Act} {xs ys : List Operand} (EE : EOp pl G N c a xs) (h : ∀ y ∈ ys, y ∈ xs) : EOp pl G N c a ys := ⟨EE.pool, EE.size, EE.defers, fun x hx => EE.val x (h x hx)⟩
theorem EOp.mono {G G' : Gh} {c : Operand → Nat} {a : Act} {xs : List Operand} (EE : EOp pl G N c a xs) (hg : Gle G G') : EOp pl G' N c a xs := ⟨EE.pool.mono hg, EE.size, EE.defers, fun x hx => (EE.val x hx).mono hg⟩
variable {ops : Array Oper} {o : Oper}
theorem gEnt_ok {E : Ent} (hE : EntO P N pl o E) : EntS P N pl ops o (gEnt N ops o E) := by
  unfold gEnt
  cases hg : o.guard with
  | none =>
    have hw : ∀ a : Act, Region.wanted o (yielded ops a.tmps) = true := fun a => by unfold Region.wanted; rw [hg]
    have hl : ∀ y ∈ o.op.operands.toList, y ∈ looks ops o := fun y hy => by unfold looks; simp only [List.mem_append]; exact .inl hy
    cases E with
    | no => trivial
    | v f =>
      intro pb pn G h nx w e a R EE
      rw [if_pos (hw a)]
      exact hE pb pn G h nx w e a R (EE.sub hl)
    | x f =>
      intro cl φ pb pn G h nx w e a kv K Q C R EE H HK
      rw [if_pos (hw a)]
      exact hE cl φ pb pn G h nx w e a kv K Q C R (EE.sub hl) H HK
  | some p =>
    obtain ⟨j, want⟩ := p
    cases hj : (ops[j]?).bind (·.dst) with
    | none => simp only [hj]; trivial
    | some gs =>
      simp only [hj]
      cases hb : Nat.blt gs N with
      | false => trivial
      | true =>
        have hgs : gs < N := blt_ok hb
        have hl : ∀ y ∈ o.op.operands.toList, y ∈ looks ops o := fun y hy => by unfold looks; simp only [List.mem_append]; exact .inl hy
        have hgl : Operand.tmp gs ∈ looks ops o := by unfold looks; rw [hg]; simp [hj]
        have hyu : ∀ (a : Act), a.tmps.size = N → a.tmps.getD gs undef = undef → Region.wanted o (yielded ops a.tmps) = false := fun a hs hb => by
          have : yielded ops a.tmps j = none := by
            unfold yielded
            rw [hj]
            have : a.tmps[gs]? = some undef := by
              rw [Array.getD_eq_getD_getElem?, Array.getElem?_eq_getElem (by rw [hs]; exact hgs)] at hb
              rw [Array.getElem?_eq_getElem (by rw [hs]; exact hgs)]
              simpa using hb
            simp [this]
            rfl
          unfold Region.wanted
          rw [hg]
          simp [this]
        have hy : ∀ (a : Act) (b : Bool), a.tmps.size = N → a.tmps.getD gs undef = .bool b → Region.wanted o (yielded ops a.tmps) = (b == want) := fun a b hs hb => by
          have : yielded ops a.tmps j = some b := by
            unfold yielded
            rw [hj]
            have : a.tmps[gs]? = some (.bool b) := by
              rw [Array.getD_eq_getD_getElem?, Array.getElem?_eq_getElem (by rw [hs]; exact hgs)] at hb
              rw [Array.getElem?_eq_getElem (by rw [hs]; exact hgs)]
              simpa using hb
            simp [this]
          unfold Region.wanted
          rw [hg]
          simp [this]
        cases E with
        | no => trivial
        | v f =>
          intro pb pn G h nx w e a R EE
          have hs : VRel G (gF e gs) (a.tmps.getD gs undef) := EE.val _ hgl
          show ROk P G w _ (gV gs want f e h)
          unfold gV
          cases h1 : Nat.beq (gF e gs) 33 with
          | true =>
            rw [Nat.eq_of_beq_eq_true h1] at hs
            rw [hy a true EE.size hs.b33]
            cases want
            · exact ⟨undef, rfl, .und⟩
            · exact hE pb pn G h nx w e a R (EE.sub hl)
          | false =>
            cases h2 : Nat.beq (gF e gs) 1 with
            | false =>
              refine ROk.rif fun h3 => ?_
              rw [Nat.eq_of_beq_eq_true h3] at hs
              rw [hyu a EE.size (hs.inv_und rfl)]
              exact ⟨undef, rfl, .und⟩
            | true =>
              rw [Nat.eq_of_beq_eq_true h2] at hs
              rw [hy a false EE.size hs.b1]
              cases want
              · exact hE pb pn G h nx w e a R (EE.sub hl)
              · exact ⟨undef, rfl, .und⟩
        | x f =>
          intro cl φ pb pn G h nx w e a kv K Q C R EE H HK
          have hs : VRel G (gF e gs) (a.tmps.getD gs undef) := EE.val _ hgl
          have H : Tall φ (Bool.rec (Bool.rec (chk (Nat.beq (gF e gs) 18) (kv 18 h nx)) (Bool.rec (f cl e h nx kv) (kv 18 h nx) want) (Nat.beq (gF e gs) 1)) (Bool.rec (kv 18 h nx) (f cl e h nx kv) want) (Nat.beq (gF e gs) 33)) := H
          cases h1 : Nat.beq (gF e gs) 33 with
          | true =>
            rw [h1] at H
            have e1 := Nat.eq_of_beq_eq_true h1
            rw [e1] at hs
            rw [hy a true EE.size hs.b33]
            cases want
            · exact HK G h nx w 18 undef Gle.rfl R .und H
            · exact hE cl φ pb pn G h nx w e a kv K Q C R (EE.sub hl) H HK
          | false =>
            rw [h1] at H
            cases h2 : Nat.beq (gF e gs) 1 with
            | true =>
              rw [h2] at H
              have e1 := Nat.eq_of_beq_eq_true h2
              rw [e1] at hs
              rw [hy a false EE.size hs.b1]
              cases want
              · exact hE cl φ pb pn G h nx w e a kv K Q C R (EE.sub hl) H HK
              · exact HK G h nx w 18 undef Gle.rfl R .und H
            | false =>
              rw [h2] at H
              obtain ⟨h3, H⟩ := Tall.chk H
              rw [Nat.eq_of_beq_eq_true h3] at hs
              rw [hyu a EE.size (hs.inv_und rfl)]
              exact HK G h nx w 18 undef Gle.rfl R .und H

/-- what an operation came to, into slot d, or to nobody -/
noncomputable def rVal (d e : Nat) (h : Tr) (nx : Nat) (k : K) (c : Nat) : T := go (sF e d c) h nx k
noncomputable def rImm (d e : Nat) (h : Tr) (nx : Nat) (k : K) (t : Nat) (o : Obj) : T := chk (Nat.blt nx 16000000) (go (sF e d (Nat.add t (Nat.mul 32 nx))) (h.set nx o) (Nat.add nx 1) k)
noncomputable def resT (d e : Nat) (h : Tr) (nx : Nat) (k : K) (r : Res) : T := Res.rec T.fail (rVal d e h nx k) (rImm d e h nx k) (rImm d e h nx k) r
theorem nxOk {nx : Nat} (h : Nat.blt nx 16000000 = true) : nx + 1 < 16777216 := by
  have : nx < 16000000 := Nat.le_of_ble_eq_true h
  omega
theorem ROk.goes {d e : Nat} {a : Act} {k : K} {s : Sem Next} {r : Res} (hd : d < N) (R : Rel P pb pn G h nx w) (EE : ERel pl G N e a) (hr : ROk P G w s r) (H : Tall φ (resT d e h nx k r)) :
    ∃ v w' G' e' h' nx', s.run P w = .ok (.value v) w' ∧ Gle G G' ∧ Rel P pb pn G' h' nx' w' ∧ ERel pl G' N e' (a.put (some d) v) ∧ Tall φ (k e' h' nx') := by
  have hN : G nx = none := R.fresh nx (Nat.le_refl _)
  cases r with
  | no => exact H.elim
  | val c =>
    obtain ⟨v, h1, h2⟩ := hr
    exact ⟨v, w, G, sF e d c, h, nx, h1, Gle.rfl, R, EE.put hd h2, H⟩
  | imm t o =>
    obtain ⟨v, h1, h2, h3⟩ := hr
    obtain ⟨hnx, H⟩ := Tall.chk H
    have hg : Gle G (Gup G nx (.val v)) := Gup.le hN
    have g3 := h3 _ nx hg (Gup.at _ _ _) R.nxb
    exact ⟨v, w, Gup G nx (.val v), _, h.set nx o, nx + 1, h1, hg, R.newV h2 (nxOk hnx) (g3.2 w), (EE.mono hg).put hd g3.1, H⟩
  | blk t o =>
    obtain ⟨v, O, w2, s', tot, sz, h1, ⟨hp, hlk⟩, h2, h3⟩ := hr
    obtain ⟨hnx, H⟩ := Tall.chk H
    have hg : Gle G (Gup G nx (.blk w.heap.size s' tot sz)) := Gup.le hN
    have g3 := h3 _ nx w2 hg (Gup.at _ _ _) R.nxb (by rw [hp]; simp)
    exact ⟨v, w2, Gup G nx (.blk w.heap.size s' tot sz), _, h.set nx o, nx + 1, h1, hg, R.newB (O := O) hp h2 (nxOk hnx) g3.2 hlk, (EE.mono hg).put hd g3.1, H⟩
/-- an operation's evaluation in a plain region is right -/
def OpS (P : Program) (N : Nat) (pl : List Value) (ops : Array Oper) (o : Oper) (x : X) : Prop := ∀ cl φ pb pn G h nx w e a k (K : Act → World → Prop) (Q : Exit → Act → World → Prop), CLS P pl cl → Rel P pb pn G h nx w → ERel pl G N e a → Tall φ (x cl e h nx k) → KS P N pl φ pb pn G k K →
  if Region.wanted o (yielded ops a.tmps) then o.wp P a w K Q else K (a.put o.dst undef) w
noncomputable def xFailX : X := fun _ _ _ _ _ => .fail
noncomputable def vX (d : Nat) (f : V) : X := fun _ e h nx k => resT d e h nx k (f e h)
noncomputable def xKV (d e : Nat) (k : K) : KV := fun c h nx => go (sF e d c) h nx k
noncomputable def xX (d : Nat) (f : CV) : X := fun cl e h nx k => f cl e h nx (xKV d e k)
noncomputable def xKN (e : Nat) (k : K) : KV := fun _ h nx => k e h nx
noncomputable def xN (f : CV) : X := fun cl e h nx k => f cl e h nx (xKN e k)
noncomputable def entX (N : Nat) (dst : Option Nat) (E : Ent) : X :=
  Option.rec (Ent.rec xFailX (fun _ => xFailX) xN E) (fun d => Bool.rec xFailX (Ent.rec xFailX (vX d) (xX d) E) (Nat.blt d N)) dst
theorem entX_ok {E : Ent} (hE : EntS P N pl ops o E) : OpS P N pl ops o (entX N o.dst E) := by
  intro cl φ pb pn G h nx w e a k K Q C R EE H HK
  cases hd : o.dst with
  | none =>
    rw [hd] at H
    cases E with
    | no => exact H.elim
    | v f => exact H.elim
    | x f =>
      have := hE cl φ pb pn G h nx w e a _ K Q C R (EE.op _) H (fun G' h' nx' w' c v hg R' hv H' => by
        rw [hd]
        exact HK G' h' nx' w' e _ hg R' (EE.mono hg) H')
      rw [hd] at this
      exact this
  | some d =>
    rw [hd] at H
    have H : Tall φ ((Bool.rec xFailX (Ent.rec xFailX (vX d) (xX d) E) (Nat.blt d N) : X) cl e h nx k) := H
    cases hb : Nat.blt d N with
    | false => rw [hb] at H; exact H.elim
    | true =>
      rw [hb] at H
      have hdN : d < N := blt_ok hb
      cases E with
      | no => exact H.elim
      | v f =>
        have hr := hE pb pn G h nx w e a R (EE.op _)
        obtain ⟨v, w', G', e', h', nx', h1, hg, R', EE', H⟩ := ROk.goes hdN R EE hr H
        split
        · rename_i hw
          rw [if_pos hw] at h1
          unfold Oper.wp
          rw [h1]
          show K (a.put o.dst v) w'
          rw [hd]
          exact HK G' h' nx' w' _ _ hg R' EE' H
        · rename_i hw
          rw [if_neg hw] at h1
          have h1 : (Result.ok (Next.value undef) w : Result Next) = .ok (.value v) w' := h1
          injection h1 with h1 h2
          injection h1 with h1
          subst h1 h2
          exact HK G' h' nx' _ _ _ hg R' EE' H
      | x f =>
        have := hE cl φ pb pn G h nx w e a _ K Q C R (EE.op _) H (fun G' h' nx' w' c v hg R' hv H' => by
          rw [hd]
          exact HK G' h' nx' w' _ _ hg R' ((EE.mono hg).put hdN hv) H')
        rw [hd] at this
        exact this

/-! ### a row of operations -/
noncomputable def nilX : X := fun _ e h nx k => k e h nx
noncomputable def opK (ih : X) (cl : CL) (k : K) : K := fun e h nx => ih cl e h nx k
noncomputable def boxM (cl : CL) (e : Nat) (h : Tr) (nx : Nat) (ih : X) (k : K) (f : X) : T := f cl e h nx (opK ih cl k)
noncomputable def consX (comp : Oper → Box) (o : Oper) (_ : List Oper) (ih : X) : X := fun cl e h nx k => Box.rec (boxM cl e h nx ih k) (comp o)
noncomputable def runL (comp : Oper → Box) (l : List Oper) : X := List.rec nilX (consX comp) l
theorem runL_ok {comp : Oper → Box} (hc : ∀ o, OpS P N pl ops o (comp o).f) : ∀ (l : List Oper) cl φ pb pn G h nx w e a k (Q : Exit → Act → World → Prop), CLS P pl cl → Rel P pb pn G h nx w → ERel pl G N e a → Tall φ (runL comp l cl e h nx k) → KS P N pl φ pb pn G k (Q .normal) → wpList P ops Q l a w := by
  intro l
  induction l with
  | nil => intro cl φ pb pn G h nx w e a k Q C R EE H HK; exact HK G h nx w e a Gle.rfl R EE H
  | cons o l ih =>
    intro cl φ pb pn G h nx w e a k Q C R EE H HK
    have H : Tall φ ((comp o).f cl e h nx (opK (runL comp l) cl k)) := H
    have := hc o cl φ pb pn G h nx w e a _ (wpList P ops Q l) Q C R EE H (fun G' h' nx' w' e' a' g R' EE' H' => ih cl φ pb pn G' h' nx' w' e' a' k Q C R' EE' H' (HK.mono g))
    show if _ then _ else _
    split
    · rename_i hw; rw [if_pos hw] at this; exact .inl this
    · rename_i hw; rw [if_neg hw] at this; exact this

/-! ### code -/
abbrev Y := CL → Nat → Tr → Nat → K → (Nat → K) → K → T
def CS (P : Program) (N : Nat) (pl : List Value) (c : Code) (y : Y) : Prop := ∀ cl φ pb pn G h nx w e a k x r (Q : Exit → Act → World → Prop), CLS P pl cl → Rel P pb pn G h nx w → ERel pl G N e a → Tall φ (y cl e h nx k x r) →
  KS P N pl φ pb pn G k (Q .normal) → (∀ id, KS P N pl φ pb pn G (x id) (Q (.exit id))) → KS P N pl φ pb pn G r (Q .ret) → c.wp P Q a w
noncomputable def yFail : Y := fun _ _ _ _ _ _ _ => .fail
noncomputable def ySkip : Y := fun _ e h nx k _ _ => k e h nx
noncomputable def yRet : Y := fun _ e h nx _ _ r => r e h nx
noncomputable def yExit (id : Nat) : Y := fun _ e h nx _ x _ => x id e h nx
noncomputable def seqK (y : Y) (cl : CL) (k : K) (x : Nat → K) (r : K) : K := fun e h nx => y cl e h nx k x r
noncomputable def ySeq (y1 y2 : Y) : Y := fun cl e h nx k x r => y1 cl e h nx (seqK y2 cl k x r) x r
noncomputable def yCond (c : Nat) (y1 y2 : Y) : Y := fun cl e h nx k x r => bif3 (gF e c) (y1 cl e h nx k x r) (y2 cl e h nx k x r)
noncomputable def blockK (id : Nat) (k : K) (x : Nat → K) : Nat → K := fun j => Bool.rec (x j) k (Nat.beq j id)
noncomputable def yBlock (id : Nat) (y : Y) : Y := fun cl e h nx k x r => y cl e h nx k (blockK id k x) r
noncomputable def yReg (f : X) : Y := fun cl e h nx k _ _ => f cl e h nx k
theorem ySkip_ok : CS P N pl .skip ySkip := fun cl φ pb pn G h nx w e a k x r Q C R EE H hk hx hr => wp_skip (hk G h nx w e a Gle.rfl R EE H)
theorem yRet_ok : CS P N pl .ret yRet := fun cl φ pb pn G h nx w e a k x r Q C R EE H hk hx hr => wp_ret (hr G h nx w e a Gle.rfl R EE H)
theorem yExit_ok {id : Nat} : CS P N pl (.exit id) (yExit id) := fun cl φ pb pn G h nx w e a k x r Q C R EE H hk hx hr => wp_exit (hx id G h nx w e a Gle.rfl R EE H)
theorem ySeq_ok {c1 c2 : Code} {y1 y2 : Y} (h1 : CS P N pl c1 y1) (h2 : CS P N pl c2 y2) : CS P N pl (.seq c1 c2) (ySeq y1 y2) := by
  intro cl φ pb pn G h nx w e a k x r Q C R EE H hk hx hr
  refine wp_seq (h1 cl φ pb pn G h nx w e a _ x r _ C R EE H ?_ ?_ ?_)
  · intro G' h' nx' w' e' a' g R' EE' H'
    exact h2 cl φ pb pn G' h' nx' w' e' a' k x r Q C R' EE' H' (hk.mono g) (fun id => (hx id).mono g) (hr.mono g)
  · intro id G' h' nx' w' e' a' g R' EE' H'
    exact hx id G' h' nx' w' e' a' g R' EE' H'
  · intro G' h' nx' w' e' a' g R' EE' H'
    exact hr G' h' nx' w' e' a' g R' EE' H'
theorem yCond_ok {c : Nat} {c1 c2 : Code} {y1 y2 : Y} (h1 : CS P N pl c1 y1) (h2 : CS P N pl c2 y2) : CS P N pl (.cond (.tmp c) c1 c2) (yCond c y1 y2) := by
  intro cl φ pb pn G h nx w e a k x r Q C R EE H hk hx hr
  have hs := EE.slot c
  rcases Tall.bif3 H with ⟨e1, H⟩ | ⟨e1, H⟩
  · rw [e1] at hs
    exact wp_cond_true hs.b33 (h1 cl φ pb pn G h nx w e a k x r Q C R EE H hk hx hr)
  · rw [e1] at hs
    exact wp_cond_false hs.b1 (h2 cl φ pb pn G h nx w e a k x r Q C R EE H hk hx hr)
theorem yBlock_ok {id : Nat} {c : Code} {y : Y} (h1 : CS P N pl c y) : CS P N pl (.block id c) (yBlock id y) := by
  intro cl φ pb pn G h nx w e a k x r Q C R EE H hk hx hr
  refine wp_block (h1 cl φ pb pn G h nx w e a k _ r _ C R EE H hk ?_ hr)
  intro j G' h' nx' w' e' a' g R' EE' H'
  show if j = id then _ else _
  unfold blockK at H'
  by_cases hj : j = id
  · rw [if_pos hj]
    subst hj
    rw [show Nat.beq j j = true from by simp] at H'
    exact hk G' h' nx' w' e' a' g R' EE' H'
  · rw [if_neg hj]
    rw [show Nat.beq j id = false from by rw [beqN]; exact decide_eq_false hj] at H'
    exact hx j G' h' nx' w' e' a' g R' EE' H'
theorem yReg_ok {id : Nat} {comp : Oper → Box} (hc : ∀ o, OpS P N pl ops o (comp o).f) : CS P N pl (.region id ops false) (yReg (runL comp ops.toList)) := by
  intro cl φ pb pn G h nx w e a k x r Q C R EE H hk hx hr
  exact wp_region_list (runL_ok hc ops.toList cl φ pb pn G h nx w e a k Q C R EE H hk)
noncomputable def loopK (ihf : Code → Y) (b : Code) (cl : CL) (k : K) (x : Nat → K) (r : K) : K := fun e h nx => ihf (.loop b) cl e h nx k x r
noncomputable def yLoop (ihf : Code → Y) (b : Code) (y : Y) : Y := fun cl e h nx k x r => y cl e h nx (loopK ihf b cl k x r) x r
/-- a loop's rounds -/
def LS (P : Program) (N : Nat) (pl : List Value) (b : Code) (n : Nat) (y : Y) : Prop := ∀ cl φ pb pn G h nx w e a k x r (Q : Exit → Act → World → Prop), CLS P pl cl → Rel P pb pn G h nx w → ERel pl G N e a → Tall φ (y cl e h nx k x r) →
  KS P N pl φ pb pn G k (Q .normal) → (∀ id, KS P N pl φ pb pn G (x id) (Q (.exit id))) → KS P N pl φ pb pn G r (Q .ret) → Code.rounds P b Q n a w
theorem LS.loop {b : Code} {n : Nat} {y : Y} (h : LS P N pl b n y) : CS P N pl (.loop b) y := fun cl φ pb pn G h' nx w e a k x r Q C R EE H hk hx hr => wp_loop_rounds n (h cl φ pb pn G h' nx w e a k x r Q C R EE H hk hx hr)
theorem yLoop_ok {ihf : Code → Y} {b : Code} {n : Nat} {y : Y} (hl : LS P N pl b n (ihf (.loop b))) (hy : CS P N pl b y) : LS P N pl b (n + 1) (yLoop ihf b y) := by
  intro cl φ pb pn G h nx w e a k x r Q C R EE H hk hx hr
  rw [rounds_succ]
  refine hy cl φ pb pn G h nx w e a _ x r _ C R EE H ?_ ?_ ?_
  · intro G' h' nx' w' e' a' g R' EE' H'
    exact hl cl φ pb pn G' h' nx' w' e' a' k x r Q C R' EE' H' (hk.mono g) (fun id => (hx id).mono g) (hr.mono g)
  · intro id G' h' nx' w' e' a' g R' EE' H'
    exact hx id G' h' nx' w' e' a' g R' EE' H'
  · intro G' h' nx' w' e' a' g R' EE' H'
    exact hr G' h' nx' w' e' a' g R' EE' H'
end Go.Ev
end
section
/- Append by codes: the runs of append, whatever is appended; the entry. -/
set_option linter.all false
namespace Go.Ev
open Go Go.RowKit Go.Hub
variable {P : Program} {N : Nat} {pl : List Value} {dst : Option Nat} {ty : TypeId} {ps : String} {af : Array Edge} {gd : Option (Nat × Bool)} {x y z : Operand} {t u : TypeId}
variable {φ : Nat → Tr → Nat → Prop} {pb : Kb} {pn : Nat → Option Obj} {G G' : Gh} {h h' : Tr} {nx nm : Nat} {w w' : World}

theorem fc_run {A : Option Addr} {size n len cap : Nat} {l : List Value} (hl : l.length = n * size) (hc : ∀ j u, l[j]? = some u → ∃ a, A = some a ∧ w.cell? (a.add j) = some u) : (Builtin.firstCells size n (.slice A len cap)).run P w = .ok l.toArray w := by
  cases A with
  | none =>
    have : l = [] := by
      cases l with
      | nil => rfl
      | cons u r => obtain ⟨a, h, _⟩ := hc 0 u rfl; cases h
    subst this; rfl
  | some a => exact run_firstCells_some w size n a len cap l hl (fun j u h => by obtain ⟨a', h1, h2⟩ := hc j u h; injection h1 with h1; subst h1; exact h2)
/-- what an append's run comes to, whatever is appended -/
structure AppRun (P : Program) (w : World) (S : Sem Value) (A : Option Addr) (len cap m : Nat) (news : List Value) (el size : Nat) : Prop where
  hlen : news.length = m * size
  one : ∀ u ∈ news, u.oneCell' = true
  noth : m = 0 → len ≤ cap → S.run P w = .ok (.slice A len cap) w
  room : ∀ b off, A = some ⟨b, off, none⟩ → len + m ≤ cap → w.there b (off + len * size) (m * size) → S.run P w = .ok (.slice A (len + m) cap) (w.setCells b (off + len * size) news)
  grow : cap < len + m → len + m < 1048576 → ∀ olds : List Value, olds.length = len * size → (∀ j u, olds[j]? = some u → ∃ a, A = some a ∧ w.cell? (a.add j) = some u) →
    ∃ c' rest, S.run P w = .ok (.slice (some ⟨w.heap.size, 0, none⟩) (len + m) c') (w.drew.alloc (.cells (olds.toArray ++ news.toArray ++ rest) el)) ∧ len + m ≤ c' ∧ rest.size = (c' - (len + m)) * size
theorem fits {need old bytes : Nat} (h : old < need) (hn : need < 1048576) (hb : bytes ≤ 10000) : Builtin.nextslicecap need old * bytes ≤ 281474976710656 := by
  refine growslice_fits h ?_
  have : need * bytes ≤ 1048576 * 10000 := Nat.mul_le_mul (by omega) hb
  omega
section
variable {el : TypeId} {i : TypeInfo} {z : Value} {A A2 : Option Addr} {len cap m c2 : Nat} {news : List Value}
theorem AppRun.slice {el2 : TypeId} (ht : P.underlying t = some (.slice el)) (hu : P.underlying u = some (.slice el2)) (hi : P.info? el = some i) (hz : i.zero = some z) (hzs : z.cells.size = i.size) (hb : i.bytes ≤ 10000)
    (hl : news.length = m * i.size) (h1 : ∀ u ∈ news, u.oneCell' = true) (hc : ∀ j u, news[j]? = some u → ∃ a, A2 = some a ∧ w.cell? (a.add j) = some u) :
    AppRun P w (Builtin.append_ #[t, u] ty #[.slice A len cap, .slice A2 m c2]) A len cap m news el i.size where
  hlen := hl
  one := h1
  noth hm hle := by
    subst hm
    have hf := fc_run (P := P) (w := w) (A := A2) (size := i.size) (n := 0) (len := 0) (cap := c2) hl hc
    have hn : news = [] := List.eq_nil_of_length_eq_zero (by simpa using hl)
    subst hn
    cases A <;> simp [Builtin.append_, run_underlying ht, run_underlying hu, sizeOf, typeInfo, hi, Builtin.lenOf, hle, hf, storeCells]
  room b off hA hroom hth := by
    subst hA
    have hf := fc_run (P := P) (w := w) (A := A2) (size := i.size) (n := m) (len := m) (cap := c2) hl hc
    have hst := run_storeCells_cells (P := P) b (off + len * i.size) news 0 w (by rw [hl]; simpa using fun j hj => (hth j hj).1) (by rw [hl]; simpa using fun j hj => (hth j hj).2) h1
    simp only [Nat.add_zero] at hst
    simp [Builtin.append_, run_underlying ht, run_underlying hu, sizeOf, typeInfo, hi, Builtin.lenOf, hroom, hf, Addr.add_lit, hst]
  grow hg h63 olds hlo ho := by
    have hn : ¬ (len + m ≤ cap) := by omega
    have h63' : ¬ (9223372036854775807 < ((len : Int) + (m : Int))) := by omega
    have h48 := fits hg h63 hb
    have h48' : ¬ (281474976710656 < Builtin.nextslicecap (len + m) cap * i.bytes) := by omega
    have hf := fc_run (P := P) (w := w.drew) (A := A2) (size := i.size) (n := m) (len := m) (cap := c2) hl (by simpa using hc)
    have hfo := fc_run (P := P) (w := w.drew) (A := A) (size := i.size) (n := len) (len := len) (cap := cap) hlo (by simpa using ho)
    refine ⟨grownCap w (len + m) cap el, Builtin.zeroCells z.cells (grownCap w (len + m) cap el - (len + m)), ?_, grownCap_ge _ _ _ _, by rw [size_zeroCells, hzs]⟩
    simp [Builtin.append_, run_underlying ht, run_underlying hu, sizeOf, typeInfo, zeroValue, hi, hz, Builtin.lenOf, hn, h63', h48', Question.forced, hf, hfo, newRow, grownCap]
    congr 2
    apply Array.ext'
    simp [List.append_assoc]
def strC (s : ByteArray) : List Value := s.data.toList.map fun b => Value.int .u8 b.toNat
theorem strC_len (s : ByteArray) : (strC s).length = s.size := by
  rw [strC, List.length_map, Array.length_toList]
  rfl
theorem fc_str {size : Nat} (s : ByteArray) : (Builtin.firstCells size s.size (.string s)).run P w = .ok (strC s).toArray w := by
  simp [Builtin.firstCells, strC]
  apply Array.ext'
  simp
theorem strC_one (s : ByteArray) : ∀ u ∈ strC s, u.oneCell' = true := by
  intro u hu
  simp only [strC, List.mem_map] at hu
  obtain ⟨b, _, rfl⟩ := hu
  rfl
theorem AppRun.string {s : ByteArray} (ht : P.underlying t = some (.slice el)) (hu : P.underlying u = some .string) (hi : P.info? el = some i) (hz : i.zero = some z) (hzs : z.cells.size = i.size) (hb : i.bytes ≤ 10000) (h1s : i.size = 1) :
    AppRun P w (Builtin.append_ #[t, u] ty #[.slice A len cap, .string s]) A len cap s.size (strC s) el i.size where
  hlen := by rw [strC_len, h1s, Nat.mul_one]
  one := strC_one s
  noth hm hle := by
    have hf := fc_str (P := P) (w := w) (size := i.size) s
    have hn : strC s = [] := List.eq_nil_of_length_eq_zero (by rw [strC_len, hm])
    rw [hn] at hf
    rw [hm] at hf
    cases A <;> simp [Builtin.append_, run_underlying ht, run_underlying hu, sizeOf, typeInfo, hi, Builtin.lenOf, hle, hf, hm, storeCells]
  room b off hA hroom hth := by
    subst hA
    have hf := fc_str (P := P) (w := w) (size := i.size) s
    have hst := run_storeCells_cells (P := P) b (off + len * i.size) (strC s) 0 w (by rw [strC_len]; rw [h1s] at hth ⊢; simpa using fun j hj => (hth j (by omega)).1) (by rw [strC_len]; rw [h1s] at hth ⊢; simpa using fun j hj => (hth j (by omega)).2) (strC_one s)
    simp only [Nat.add_zero] at hst
    simp [Builtin.append_, run_underlying ht, run_underlying hu, sizeOf, typeInfo, hi, Builtin.lenOf, hroom, hf, Addr.add_lit, hst]
  grow hg h63 olds hlo ho := by
    have hn : ¬ (len + s.size ≤ cap) := by omega
    have h63' : ¬ (9223372036854775807 < ((len : Int) + (s.size : Int))) := by omega
    have h48 := fits hg h63 hb
    have h48' : ¬ (281474976710656 < Builtin.nextslicecap (len + s.size) cap * i.bytes) := by omega
    have hf := fc_str (P := P) (w := w.drew) (size := i.size) s
    have hfo := fc_run (P := P) (w := w.drew) (A := A) (size := i.size) (n := len) (len := len) (cap := cap) hlo (by simpa using ho)
    refine ⟨grownCap w (len + s.size) cap el, Builtin.zeroCells z.cells (grownCap w (len + s.size) cap el - (len + s.size)), ?_, grownCap_ge _ _ _ _, by rw [size_zeroCells, hzs]⟩
    simp [Builtin.append_, run_underlying ht, run_underlying hu, sizeOf, typeInfo, zeroValue, hi, hz, Builtin.lenOf, hn, h63', h48', Question.forced, hf, hfo, newRow, grownCap]
    congr 2
    apply Array.ext'
    simp [List.append_assoc]
/-- a made count of elements of one cell -/
theorem AppRun.made {k : IntKind} (ht : P.underlying t = some (.slice el)) (hu : P.underlying u = some (.int k)) (hi : P.info? el = some i) (hz : i.zero = some z) (hz1 : z.cells = #[z]) (hb : i.bytes ≤ 10000) (h1s : i.size = 1) (ho1 : z.oneCell' = true) (hm : m < 1048576) (hp : 0 < m) :
    AppRun P w (Builtin.append_ #[t, u] ty #[.slice A len cap, .int .i64 (m : Int)]) A len cap m (List.replicate m z) el i.size := by
  have hw : IntKind.i64.wrap (m : Int) = m := by
    simp [IntKind.wrap, IntKind.bits, IntKind.signed]
    omega
  have hneg : ¬ ((m : Int) < 0) := by omega
  have h0 : ¬ m = 0 := by omega
  have hbig : ¬ ((281474976710656 : Int) < (m : Int) * (i.bytes : Int)) := by
    have : m * i.bytes ≤ 1048576 * 10000 := Nat.mul_le_mul (by omega) hb
    have h2 : (m : Int) * (i.bytes : Int) = ((m * i.bytes : Nat) : Int) := by push_cast; rfl
    rw [h2]; omega
  have hzc : (Builtin.zeroCells z.cells m).toList = List.replicate m z := by
    rw [hz1]
    apply List.ext_getElem
    · simp [Builtin.zeroCells]
    · intro j h1 h2
      simp [Builtin.zeroCells, Nat.mod_one]
  have hzc' : (Builtin.zeroCells #[z] m) = (List.replicate m z).toArray := by
    rw [← hzc, hz1]
  refine ⟨by simp [h1s], fun u hu => by rw [List.eq_of_mem_replicate hu]; exact ho1, fun h0' => absurd h0' h0, fun b off hA hroom hth => ?_, fun hg h63 olds hlo ho => ?_⟩
  · subst hA
    have hst := run_storeCells_cells (P := P) b (off + len * i.size) (List.replicate m z) 0 w (by simp; rw [h1s] at hth ⊢; simpa using fun j hj => (hth j (by omega)).1) (by simp; rw [h1s] at hth ⊢; simpa using fun j hj => (hth j (by omega)).2) (fun u hu => by rw [List.eq_of_mem_replicate hu]; exact ho1)
    simp only [Nat.add_zero] at hst
    rw [h1s] at hst ⊢
    simp [Builtin.append_, run_underlying ht, run_underlying hu, sizeOf, typeInfo, zeroValue, hi, hz, hz1, hzc', hroom, Addr.add_lit, hst, hw, asInt, asIntOf, hneg, hbig, h0, h1s]
    simp at hst
    simp [hst]
  · have hn : ¬ (len + m ≤ cap) := by omega
    have h63' : ¬ (9223372036854775807 < ((len : Int) + (m : Int))) := by omega
    have h63'' : ¬ (9223372036854775807 < ((len : Int) + max (m : Int) 0)) := by omega
    have h48 := fits hg h63 hb
    have h48' : ¬ (281474976710656 < Builtin.nextslicecap (len + m) cap * i.bytes) := by omega
    have hfo := fc_run (P := P) (w := w.drew) (A := A) (size := i.size) (n := len) (len := len) (cap := cap) hlo (by simpa using ho)
    refine ⟨grownCap w (len + m) cap el, Builtin.zeroCells z.cells (grownCap w (len + m) cap el - (len + m)), ?_, grownCap_ge _ _ _ _, by rw [size_zeroCells, hz1, h1s]; rfl⟩
    rw [h1s] at hfo
    simp [Builtin.append_, run_underlying ht, run_underlying hu, sizeOf, typeInfo, zeroValue, hi, hz, hz1, hzc', hw, asInt, asIntOf, hneg, hbig, h0, hn, h63', h63'', h48', Question.forced, hfo, newRow, grownCap, h1s]
end
end Go.Ev
end
section
/- Append by codes: the entries. -/
set_option linter.all false
namespace Go.Ev
open Go Go.RowKit Go.Hub
variable {P : Program} {N : Nat} {pl : List Value} {dst : Option Nat} {ty : TypeId} {ps : String} {af : Array Edge} {gd : Option (Nat × Bool)} {x y z : Operand} {t u : TypeId}
variable {φ : Nat → Tr → Nat → Prop} {pb : Kb} {pn : Nat → Option Obj} {G G' : Gh} {h h' : Tr} {nx nm : Nat} {w w' : World}

theorem Tall.rdR {o : Obj} {k : Nat → Nat → T} (H : Tall φ (rdR T.fail o k)) : ∃ n c, ((∃ cl fz el, o = .row cl fz el n c) ∨ ∃ el, o = .rom el n c) ∧ Tall φ (k n c) := by
  cases o <;> first | exact H.elim | exact ⟨_, _, .inl ⟨_, _, _, rfl⟩, H⟩ | exact ⟨_, _, .inr ⟨_, rfl⟩, H⟩
theorem Tall.cases {b : Bool} {t1 t2 : T} (H : Tall φ (Bool.rec t1 t2 b)) : (b = false ∧ Tall φ t1) ∨ (b = true ∧ Tall φ t2) := by
  cases b
  · exact .inl ⟨rfl, H⟩
  · exact .inr ⟨rfl, H⟩
/-- cells by their codes -/
structure Cel (G : Gh) (n d : Nat) (l : List Value) : Prop where
  len : l.length = n
  lt : d < 2 ^ (96 * n)
  rel : ∀ i, i < n → VRel G (getS d i) (l.getD i undef) ∧ (l.getD i undef).oneCell' = true
theorem Cel.mono {n d : Nat} {l : List Value} (h : Cel G n d l) (hg : Gle G G') : Cel G' n d l := ⟨h.len, h.lt, fun i hi => ⟨(h.rel i hi).1.mono hg, (h.rel i hi).2⟩⟩
theorem Cel.cat {n m d e : Nat} {l r : List Value} (h : Cel G n d l) (h' : Cel G m e r) : Cel G (n + m) (catR n d e) (l ++ r) := by
  refine ⟨by rw [List.length_append, h.len, h'.len], cat_lt h.lt h'.lt, fun i hi => ?_⟩
  rw [getS_cat h.lt]
  by_cases hn : i < n
  · rw [if_pos hn, List.getD_eq_getElem?_getD, List.getElem?_append_left (by rw [h.len]; exact hn), ← List.getD_eq_getElem?_getD]
    exact h.rel i hn
  · rw [if_neg hn, List.getD_eq_getElem?_getD, List.getElem?_append_right (by rw [h.len]; omega), h.len, ← List.getD_eq_getElem?_getD]
    exact h'.rel (i - n) (by omega)
theorem Cel.one_of {n d : Nat} {l : List Value} (h : Cel G n d l) : ∀ u ∈ l, u.oneCell' = true := by
  intro u hu
  obtain ⟨i, hi, rfl⟩ := List.mem_iff_getElem.1 hu
  have := (h.rel i (by rw [← h.len]; exact hi)).2
  rw [List.getD_eq_getElem?_getD, List.getElem?_eq_getElem hi] at this
  exact this
/-- the cells that a row tells, from a place on -/
theorem RowAt.cel {b s n r : Nat} {cs : Array Value} {el : Nat} {fr : Nat × Nat} (RA : RowAt P G w b s n r cs el fr) {off m : Nat} (hb : off + m ≤ n) :
    ∃ l, Cel G m (sub r off m) l ∧ ∀ j u, l[j]? = some u → w.cell? ⟨b, s + off + j, none⟩ = some u := by
  refine ⟨(List.range m).map fun j => cs.getD (s + off + j) undef, ⟨by simp, sub_lt _ _ _, fun i hi => ?_⟩, fun j u hj => ?_⟩
  · have e1 : ((List.range m).map fun j => cs.getD (s + off + j) undef).getD i undef = cs.getD (s + (off + i)) undef := by
      simp only [List.getD_eq_getElem?_getD, List.getElem?_map, List.getElem?_range hi, Option.map_some, Option.getD_some]
      rw [Nat.add_assoc]
    rw [e1, getS_sub, if_pos hi]
    exact RA.rel (off + i) (by omega)
  · have hj2 : j < m := by
      rcases Nat.lt_or_ge j m with h | h
      · exact h
      · rw [List.getElem?_eq_none (by simpa using h)] at hj; cases hj
    have : u = cs.getD (s + off + j) undef := by
      simp only [List.getElem?_map, List.getElem?_range hj2, Option.map_some, Option.some.injEq] at hj
      exact hj.symm
    subst this
    rw [Nat.add_assoc]
    exact RA.cell (by omega)
/-! ### what is appended -/
noncomputable def z0 (c : Nat) : Bool := Bool.rec false (Nat.beq (slL c) 0) (isSl c)
noncomputable def srcS (sz : Nat) (h : Tr) (c : Nat) (k : Nat → Nat → T) : T :=
  Bool.rec (chk (isT 7 c) (rdR T.fail (h.get (slN c)) fun n r => chk (Nat.ble (Nat.add (slO c) (Nat.mul (slL c) sz)) n) (k (slL c) (sub r (slO c) (Nat.mul (slL c) sz))))) (k 0 0) (z0 c)
theorem srcS_ok {sz c : Nat} {v : Value} {k : Nat → Nat → T} (R : Rel P pb pn G h nx w) (hv : VRel G c v) (H : Tall φ (srcS sz h c k)) :
    ∃ A m c2 d l, v = .slice A m c2 ∧ Tall φ (k m d) ∧ Cel G (m * sz) d l ∧ ∀ j u, l[j]? = some u → ∃ a, A = some a ∧ w.cell? (a.add j) = some u := by
  rcases Tall.cases H with ⟨h0, H⟩ | ⟨h0, H⟩
  · obtain ⟨h7, H⟩ := Tall.chk H
    obtain ⟨nm, off, len, cc, cap, b, s, tot, z, rfl, rfl, hG, hn, ho, hl, hc, h1, h2⟩ := hv.inv_sl (isT_ok h7)
    obtain ⟨e1, e2, e3, e4⟩ := sl_parts (cc := cc) hn ho hl
    rw [e1, e2, e3] at H
    obtain ⟨n, r, hob, H⟩ := Tall.rdR H
    obtain ⟨hle, H⟩ := Tall.chk H
    have hle : off + len * sz ≤ n := Nat.le_of_ble_eq_true hle
    obtain ⟨cs, el, fr, RA, _, _⟩ := R.row hG hob
    obtain ⟨l, hl1, hl2⟩ := RA.cel hle
    exact ⟨_, len, cap, _, l, rfl, H, hl1, fun j u hu => ⟨_, rfl, by rw [Addr.add_mid]; exact hl2 j u hu⟩⟩
  · unfold z0 at h0
    cases hs : isSl c
    · rw [hs] at h0; cases h0
    · rw [hs] at h0
      obtain ⟨A, cap, rfl, _⟩ := isSl_ok hs hv
      have h0 : slL c = 0 := Nat.eq_of_beq_eq_true h0
      rw [h0]
      exact ⟨A, 0, cap, 0, [], rfl, H, ⟨by simp, by simp, fun i hi => by simp at hi⟩, fun j u hu => by simp at hu⟩
noncomputable def newR (fz el n r : Nat) (h : Tr) (nx len : Nat) (kv : KV) : T := chk (Nat.blt nx 16000000) (kv (cL nx 0 len 0) (h.set nx (.row false fz el n r)) (Nat.add nx 1))
noncomputable def apMove (el sz off len : Nat) (nm fz r : Nat) (h : Tr) (nx m d : Nat) (kv : KV) : T := newR (Nat.sub fz off) el (Nat.mul (Nat.add len m) sz) (catR (Nat.mul len sz) (sub r off (Nat.mul len sz)) d) (h.set nm .none) nx (Nat.add len m) kv
noncomputable def apIn (sz off len cc nm : Nat) (cl : Bool) (fz el n r : Nat) (h : Tr) (nx m d : Nat) (kv : KV) : T := chk (Nat.ble fz (Nat.add off (Nat.mul len sz))) (kv (cL nm off (Nat.add len m) cc) (h.set nm (.row cl fz el n (put r (Nat.add off (Nat.mul len sz)) (Nat.mul m sz) d))) nx)
noncomputable def apKnown (el sz off len cc nm : Nat) (h : Tr) (nx m d : Nat) (kv : KV) : T :=
  Bool.rec (rdR T.fail (h.get nm) fun n r => chk (Nat.ble (Nat.add off (Nat.mul len sz)) n) (newR 0 el (Nat.mul (Nat.add len m) sz) (catR (Nat.mul len sz) (sub r off (Nat.mul len sz)) d) h nx (Nat.add len m) kv))
    (wrR T.fail (h.get nm) fun cl fz el' n r => chk (Nat.ble (Nat.add off (Nat.mul (Nat.add len m) sz)) n) (apIn sz off len cc nm cl fz el' n r h nx m d kv)) (Nat.blt (Nat.add len m) cc)
noncomputable def apUn (el sz off len nm : Nat) (h : Tr) (nx m d : Nat) (kv : KV) : T :=
  wrR T.fail (h.get nm) fun cl fz el' n r => chk (Nat.beq el' el) (chk (Nat.ble (Nat.add off (Nat.mul len sz)) n) (Bool.rec (chk (Nat.ble fz (Nat.add off (Nat.mul len sz))) (apMove el sz off len nm fz r h nx m d kv)) (apIn sz off len 0 nm cl fz el' n r h nx m d kv) (Nat.ble (Nat.add off (Nat.mul (Nat.add len m) sz)) n)))
noncomputable def apS (el sz off len cc nm : Nat) (h : Tr) (nx m d : Nat) (kv : KV) : T := Bool.rec (apKnown el sz off len cc nm h nx m d kv) (apUn el sz off len nm h nx m d kv) (Nat.beq cc 0)
noncomputable def apT (el sz c : Nat) (h : Tr) (nx : Nat) (kv : KV) (m d : Nat) : T :=
  chk (isSl c) (Bool.rec (chk (Nat.blt (Nat.add (slL c) m) 1048576) (Bool.rec (chk (isT 7 c) (apS el sz (slO c) (slL c) (slC c) (slN c) h nx m d kv)) (newR 0 el (Nat.mul m sz) d h nx m kv) (Nat.beq c 6))) (kv c h nx) (Nat.beq m 0))
/-- a row that is built anew -/
theorem newR_ok {fz el sz n r len c' : Nat} {rest : Array Value} {l : List Value} {kv : KV} (hs : szOf P el = some sz) (R : Rel P pb pn G h nx w) (hl : Cel G n r l) (hn : n = len * sz) (hlen : len < 1048576) (hc : len ≤ c') (hr : rest.size = (c' - len) * sz) (H : Tall φ (newR fz el n r h nx len kv)) :
    ∃ G' h' nx' c, Gle G G' ∧ Rel P pb pn G' h' nx' (w.drew.alloc (.cells (l.toArray ++ rest) el)) ∧ VRel G' c (.slice (some ⟨w.heap.size, 0, none⟩) len c') ∧ Tall φ (kv c h' nx') := by
  obtain ⟨hnx, H⟩ := Tall.chk H
  have hN : G nx = none := R.fresh nx (Nat.le_refl _)
  have R1 : Rel P pb pn G h nx w.drew := R.world rfl
  have hsum : len * sz + (c' - len) * sz = c' * sz := by rw [← Nat.add_mul]; congr 1; omega
  have hsz : (l.toArray ++ rest).size = c' * sz := by rw [Array.size_append, hr]; simp only [List.size_toArray]; rw [hl.len]; omega
  have hg : Gle G (Gup G nx (.blk w.heap.size 0 (c' * sz) sz)) := Gup.le hN
  refine ⟨_, _, _, _, hg, R1.newB (o := .row false fz el n r) (s := 0) (tot := c' * sz) (sz := sz) (O := .cells (l.toArray ++ rest) el) rfl rfl (nxOk hnx) ⟨w.heap.size, 0, c' * sz, sz, l.toArray ++ rest, 0, 0, Gup.at _ _ _, ?_, hsz, ?_, (fun h => by cases h), .inl rfl, hs, fun i hi => ?_⟩, ?_, H⟩
  · show (w.heap.push _)[w.heap.size]? = _
    simp
  · omega
  · have := hl.rel i hi
    have e : (l.toArray ++ rest).getD (0 + i) undef = l.getD i undef := by
      rw [Nat.zero_add, Array.getD_eq_getD_getElem?, Array.getElem?_append_left (by simp only [List.size_toArray]; rw [hl.len]; exact hi), List.getD_eq_getElem?_getD]
      simp
    rw [e]
    exact ⟨this.1.mono hg, this.2⟩
  · exact .sl nx 0 len 0 c' w.heap.size 0 (c' * sz) sz (Gup.at _ _ _) R.nxb (by omega) hlen (by omega) (by rw [if_pos rfl]; omega) hc
theorem Rel.there' (R : Rel P pb pn G h nx w) {b s tot sz : Nat} (hG : G nm = some (.blk b s tot sz)) {cl : Bool} {fz el n c : Nat} (ho : h.get nm = .row cl fz el n c) {off m : Nat} (hb : s + off + m ≤ tot) (hf : fz ≤ off) : w.there b (s + off) m := by
  have hO := R.obj nm (by rw [hG]; simp)
  rw [ho] at hO
  obtain ⟨b', s', tot', sz', cs, lo, hi, h1, h2, h3, h4, h5, h6, h7, h8⟩ := hO
  rw [hG] at h1
  injection h1 with h1
  injection h1 with e1 e2 e3 e4
  subst e1 e2 e3 e4
  intro j hj
  unfold World.cell? World.frozen?
  simp only [h2]
  refine ⟨?_, ?_⟩
  · simp only [Option.isSome_none, Bool.false_eq_true, if_false]
    rw [Array.getElem?_eq_getElem (by omega)]
    rfl
  · simp; omega
/-- a name goes -/
theorem Rel.kill (R : Rel P pb pn G h nx w) (hG : G nm ≠ none) : Rel P pb pn G (h.set nm .none) nx w := by
  have hlt : nm < 1000000000 := Nat.lt_trans (R.lt hG) (Nat.lt_trans R.nxb (by decide))
  have gt : ∀ k, (h.set nm .none).get k = if k = nm then .none else h.get k := fun k => Tr.get_set _ _ _ hlt
  have f : ∀ k, isBlk ((h.set nm .none).get k) = true → isBlk (h.get k) = true := fun k hk => by
    rw [gt] at hk
    by_cases e : k = nm
    · rw [if_pos e] at hk; cases hk
    · rw [if_neg e] at hk; exact hk
  refine ⟨fun k hg => ?_, fun n1 n2 b s1 t1 z1 s2 t2 z2 g1 g2 m1 m2 => R.inj n1 n2 _ _ _ _ _ _ _ g1 g2 (f _ m1) (f _ m2), fun b o e => ⟨(R.pb b o e).1, fun k s t z g => ?_⟩, fun k o e => ?_, R.fresh, R.bd, R.nxb, fun k hk => by rw [gt, if_neg (by have := R.lt hG; omega)]; exact R.non k hk, R.oo⟩
  · rw [gt]
    by_cases hk : k = nm
    · rw [if_pos hk]; trivial
    · rw [if_neg hk]; exact R.obj k hg
  · rw [gt]
    by_cases hk : k = nm
    · rw [if_pos hk]; rfl
    · rw [if_neg hk]; exact (R.pb b o e).2 k _ _ _ g
  · obtain ⟨h1, h2, h3⟩ := R.pn k o e
    have hk : k ≠ nm := fun e2 => by subst e2; exact hG h2
    rw [gt, if_neg hk]
    exact ⟨h1, h2, h3⟩
theorem getD_list (l : List Value) (i : Nat) : l.toArray.getD i undef = l.getD i undef := by simp [Array.getD_eq_getD_getElem?, List.getD_eq_getElem?_getD]
/-- the entry is right, whatever is appended -/
theorem apT_ok {S : Sem Value} {el sz c m d : Nat} {v : Value} {news : List Value} {kv : KV} (hs : szOf P el = some sz) (hpos : 0 < sz) (R : Rel P pb pn G h nx w) (hv : VRel G c v) (hl : Cel G (m * sz) d news)
    (hS : ∀ A len cap, v = .slice A len cap → AppRun P w S A len cap m news el sz) (H : Tall φ (apT el sz c h nx kv m d)) :
    ∃ v' w' G' h' nx' c', S.run P w = .ok v' w' ∧ Gle G G' ∧ Rel P pb pn G' h' nx' w' ∧ VRel G' c' v' ∧ Tall φ (kv c' h' nx') := by
  obtain ⟨his, H⟩ := Tall.chk H
  obtain ⟨A0, cap0, hv0, hl0, hA0, hle0⟩ := isSl_ok his hv
  have AR0 := hS _ _ _ hv0
  rcases Tall.cases H with ⟨hm, H⟩ | ⟨hm, H⟩
  · obtain ⟨hbd0, H⟩ := Tall.chk H
    have hbd : slL c + m < 1048576 := blt_ok hbd0
    clear hbd0
    have hm0 : m ≠ 0 := fun e => by subst e; cases hm
    rcases Tall.cases H with ⟨h6, H⟩ | ⟨h6, H⟩
    · obtain ⟨h7, H⟩ := Tall.chk H
      obtain ⟨nm, off, len, cc, cap, b, s, tot, z, hv1, rfl, hG, hn, ho, hlb, hcb, h1, h2⟩ := hv.inv_sl (isT_ok h7)
      obtain ⟨e1, e2, e3, e4⟩ := sl_parts (cc := cc) hn ho hlb
      rw [e1, e2, e3, e4] at H
      rw [e3] at hbd
      have AR := hS _ _ _ hv1
      clear hv0 hA0 his hl0 hle0 AR0
      have hcs : (len + m) * sz = len * sz + m * sz := Nat.add_mul _ _ _
      -- in place
      have inpl : ∀ (cl : Bool) (fz el' n r : Nat), h.get nm = .row cl fz el' n r → len + m ≤ cap → (if cc = 0 then s + off + cap * z = tot else cap + 1 = cc) → off + (len + m) * sz ≤ n → Tall φ (apIn sz off len cc nm cl fz el' n r h nx m d kv) →
          ∃ v' w' G' h' nx' c', S.run P w = .ok v' w' ∧ Gle G G' ∧ Rel P pb pn G' h' nx' w' ∧ VRel G' c' v' ∧ Tall φ (kv c' h' nx') := by
        intro cl fz el' n r hob hroom hcc hfit H
        obtain ⟨hfz, H⟩ := Tall.chk H
        have hfz : fz ≤ off + len * sz := Nat.le_of_ble_eq_true hfz
        have hth := R.there hG hob (off := off + len * sz) (m := m * sz) (by omega) hfz
        rw [← Nat.add_assoc] at hth
        have hrun := AR.room b (s + off) rfl hroom hth
        have RR := R.setCells hG hob (off := off + len * sz) (vs := news) (d := d) (by rw [hl.len]; exact hl.lt) (by rw [hl.len]; omega) (fun i hi => hl.rel i (by rw [← hl.len]; exact hi))
        rw [hl.len, ← Nat.add_assoc] at RR
        exact ⟨_, _, G, _, nx, _, hrun, Gle.rfl, RR, .sl nm off (len + m) cc cap b s tot z hG hn ho (by omega) hcb hcc hroom, H⟩
      -- a new row
      have anew : ∀ n r, ((∃ cl fz el, h.get nm = .row cl fz el n r) ∨ ∃ el, h.get nm = .rom el n r) → off + len * sz ≤ n → cap < len + m → ∀ (f0 : Nat) (h1 : Tr), Rel P pb pn G h1 nx w → Tall φ (newR f0 el ((len + m) * sz) (catR (len * sz) (sub r off (len * sz)) d) h1 nx (len + m) kv) →
          ∃ v' w' G' h' nx' c', S.run P w = .ok v' w' ∧ Gle G G' ∧ Rel P pb pn G' h' nx' w' ∧ VRel G' c' v' ∧ Tall φ (kv c' h' nx') := by
        intro n r hob hle hgr f0 h1' R1 H
        obtain ⟨cs, el', fr, RA, _, _⟩ := R.row hG hob
        obtain ⟨l, hl1, hl2⟩ := RA.cel hle
        obtain ⟨c', rest, hrun, hc', hrest⟩ := AR.grow hgr hbd l hl1.len (fun j u hu => ⟨_, rfl, by rw [Addr.add_mid]; exact hl2 j u hu⟩)
        have hcat := hl1.cat hl
        rw [← hcs] at hcat
        obtain ⟨G', h', nx', c'', a1, a2, a3, a4⟩ := newR_ok hs R1 hcat rfl hbd hc' hrest H
        rw [← List.append_toArray] at a2
        exact ⟨_, _, G', h', nx', c'', hrun, a1, a2, a3, a4⟩
      rcases Tall.cases H with ⟨hcc, H⟩ | ⟨hcc, H⟩
      · have hcc : cc ≠ 0 := fun e => by subst e; cases hcc
        rw [if_neg hcc] at h1
        rcases Tall.cases H with ⟨hrm, H⟩ | ⟨hrm, H⟩
        · obtain ⟨n, r, hob, H⟩ := Tall.rdR H
          obtain ⟨hle, H⟩ := Tall.chk H
          have hrm : ¬ (len + m < cc) := fun hlt => by
            have : Nat.blt (len + m) cc = true := Nat.ble_eq_true_of_le hlt
            rw [show Nat.blt (Nat.add len m) cc = true from this] at hrm
            cases hrm
          exact anew n r hob (Nat.le_of_ble_eq_true hle) (by omega) 0 h R H
        · have hrm : len + m < cc := blt_ok hrm
          obtain ⟨cl, fz, el', n, r, hob, H⟩ := Tall.wrR H
          obtain ⟨hfit, H⟩ := Tall.chk H
          exact inpl cl fz el' n r hob (by omega) (by rw [if_neg hcc]; exact h1) (Nat.le_of_ble_eq_true hfit) H
      · have hcc : cc = 0 := Nat.eq_of_beq_eq_true hcc
        subst hcc
        rw [if_pos rfl] at h1
        obtain ⟨cl, fz, el', n, r, hob, H⟩ := Tall.wrR H
        obtain ⟨hel, H⟩ := Tall.chk H
        have hel : el' = el := Nat.eq_of_beq_eq_true hel
        subst hel
        obtain ⟨hle, H⟩ := Tall.chk H
        have hle : off + len * sz ≤ n := Nat.le_of_ble_eq_true hle
        have hO := R.obj nm (by rw [hG]; simp)
        rw [hob] at hO
        obtain ⟨b', s', tot', sz', cs, lo, hi, g1, g2, g3, g4, g5, g6, g7, g8⟩ := hO
        rw [hG] at g1
        injection g1 with g1
        injection g1 with q1 q2 q3 q4
        subst q1 q2 q3 q4
        have hz : z = sz := by rw [hs] at g7; exact (Option.some.inj g7).symm
        subst hz
        rcases Tall.cases H with ⟨hft, H⟩ | ⟨hft, H⟩
        · obtain ⟨hfz, H⟩ := Tall.chk H
          have hfz : fz ≤ off + len * z := Nat.le_of_ble_eq_true hfz
          by_cases hroom : len + m ≤ cap
          · obtain ⟨hnx, H⟩ := Tall.chk H
            have hmul : (len + m) * z ≤ cap * z := Nat.mul_le_mul_right _ hroom
            have hth := R.there' hG hob (off := off + len * z) (m := m * z) (by omega) hfz
            rw [← Nat.add_assoc] at hth
            have hrun := AR.room b (s + off) rfl hroom hth
            obtain ⟨cs', k1, k2, k3, k4, k5⟩ := setCells_heap (b := b) news (s + off + len * z) w cs el' (lo, hi) g2
            have hN : G nx = none := R.fresh nx (Nat.le_refl _)
            have hg : Gle G (Gup G nx (.blk b (s + off) tot z)) := Gup.le hN
            have hcel : Cel G (len * z) (sub r off (len * z)) ((List.range (len * z)).map fun j => cs.getD (s + off + j) undef) := ⟨by simp, sub_lt _ _ _, fun i hi => by
              have e1 : ((List.range (len * z)).map fun j => cs.getD (s + off + j) undef).getD i undef = cs.getD (s + (off + i)) undef := by
                simp only [List.getD_eq_getElem?_getD, List.getElem?_map, List.getElem?_range hi, Option.map_some, Option.getD_some]
                rw [Nat.add_assoc]
              rw [e1, getS_sub, if_pos hi]
              exact g8 (off + i) (by omega)⟩
            have hcat := (hcel.cat hl).mono hg
            refine ⟨_, _, _, _, _, _, hrun, hg, R.move (o := .row false (fz - off) el' ((len + m) * z) (catR (len * z) (sub r off (len * z)) d)) hG (by rw [hob]; rfl) rfl k4 k5 (nxOk hnx) ⟨b, s + off, tot, z, cs', lo, hi, Gup.at _ _ _, k1, by rw [k2, g3], by show s + off + (len + m) * z ≤ tot; omega, (fun h => by cases h), ?_, hs, fun i hi => ?_⟩ (setCells_lk _ _ _), .sl nx 0 (len + m) 0 cap b (s + off) tot z (Gup.at _ _ _) R.nxb (by omega) hbd (by omega) (by rw [if_pos rfl]; omega) hroom, H⟩
            · exact g6
            · have hi : i < (len + m) * z := hi
              have := hcat.rel i (by omega)
              have e : cs'.getD (s + off + i) undef = (((List.range (len * z)).map fun j => cs.getD (s + off + j) undef) ++ news).getD i undef := by
                rw [k3 _ (by omega), hl.len]
                by_cases hq : i < len * z
                · rw [if_neg (by omega), List.getD_eq_getElem?_getD, List.getElem?_append_left (by simpa using hq)]
                  simp [hq]
                · rw [if_pos (by omega), show s + off + i - (s + off + len * z) = i - len * z from by omega, List.getD_eq_getElem?_getD, List.getD_eq_getElem?_getD, List.getElem?_append_right (by simp; omega)]
                  simp
              rw [e]
              exact this
          · have hN : G nm ≠ none := by rw [hG]; simp
            exact anew n r (.inl ⟨cl, fz, el', hob⟩) hle (by omega) _ (h.set nm .none) (R.kill hN) H
        · have hft : off + (len + m) * z ≤ n := Nat.le_of_ble_eq_true hft
          have hroom : len + m ≤ cap := by
            have h3 : (len + m) * z ≤ cap * z := by omega
            exact Nat.le_of_mul_le_mul_right h3 hpos
          exact inpl cl fz el' n r hob hroom (by rw [if_pos rfl]; exact h1) hft H
    · have h6 : c = 6 := Nat.eq_of_beq_eq_true h6
      subst h6
      have z6 : slL 6 = 0 := by decide
      rw [z6, Nat.zero_add] at hbd
      obtain ⟨rfl, _⟩ := hv.inv_nils rfl
      have AR := hS _ _ _ rfl
      obtain ⟨c', rest, hrun, hc', hrest⟩ := AR.grow (by omega) (by simpa using hbd) [] (by simp) (by simp)
      obtain ⟨G', h', nx', c'', a1, a2, a3, a4⟩ := newR_ok (len := m) (c' := c') hs R hl rfl (by omega) (by omega) (by simpa using hrest) H
      simp only [Nat.zero_add] at hrun
      exact ⟨_, _, G', h', nx', c'', hrun, a1, by simpa using a2, a3, a4⟩
  · have hm : m = 0 := Nat.eq_of_beq_eq_true hm
    subst hm
    exact ⟨_, w, G, h, nx, c, AR0.noth rfl hle0, Gle.rfl, R, by rw [← hv0]; exact hv, H⟩
end Go.Ev
end
section
/- Append, copy, clear by codes: the entries. -/
set_option linter.all false
namespace Go.Ev
open Go Go.RowKit Go.Hub
variable {P : Program} {N : Nat} {pl : List Value} {dst : Option Nat} {ty : TypeId} {ps : String} {af : Array Edge} {gd : Option (Nat × Bool)} {x y z : Operand} {t u : TypeId}
variable {φ : Nat → Tr → Nat → Prop} {pb : Kb} {pn : Nat → Option Obj} {G G' : Gh} {h h' : Tr} {nx nm : Nat} {w w' : World}

theorem xs_run {o : Oper} {f : CV} (hf : ∀ cl φ pb pn G h nx w e a kv, Rel P pb pn G h nx w → EOp pl G N (fun x => cO pl x e) a o.op.operands.toList → Tall φ (f cl e h nx kv) →
    ∃ v' w' G' h' nx' c', (execOp a.eval o).run P w = .ok (.value v') w' ∧ Gle G G' ∧ Rel P pb pn G' h' nx' w' ∧ VRel G' c' v' ∧ Tall φ (kv c' h' nx')) : XS P N pl o f := by
  intro cl φ pb pn G h nx w e a kv K Q C R EE H HK
  obtain ⟨v', w', G', h', nx', c', h1, hg, R', hv, H⟩ := hf cl φ pb pn G h nx w e a kv R EE H
  unfold Oper.wp
  rw [h1]
  exact HK G' h' nx' w' c' v' hg R' hv H
theorem Cel.text (s : ByteArray) : Cel G s.size (rowB s.data.toList) (strC s) := by
  have hl : s.data.toList.length = s.size := by rw [Array.length_toList]; rfl
  refine ⟨strC_len s, by rw [← hl]; exact rowB_lt _, fun i hi => ?_⟩
  rw [getS_rowB]
  have hi' : i < s.data.toList.length := by rw [hl]; exact hi
  have e1 : (strC s).getD i undef = .int .u8 (s.data.toList[i]'hi').toNat := by
    unfold strC
    rw [List.getD_eq_getElem?_getD, List.getElem?_map, List.getElem?_eq_getElem hi']
    rfl
  rw [e1, List.getElem?_eq_getElem hi']
  refine ⟨.int .u8 _ ?_, rfl⟩
  have := (s.data.toList[i]'hi').toNat_lt
  simp only [bias, modu]
  omega
theorem Cel.rep {v : Value} (h : zcode v ≠ 0) (m : Nat) : Cel G m (Nat.mul (zcode v) (ones m)) (List.replicate m v) := by
  obtain ⟨h1, h2⟩ := zcode_ok h
  have hlt := (h1 G).lt
  refine ⟨by simp, rep_lt hlt m, fun i hi => ?_⟩
  rw [getS_rep hlt, if_pos hi]
  have : (List.replicate m v).getD i undef = v := by simp [List.getD_eq_getElem?_getD, hi]
  rw [this]
  exact ⟨h1 G, h2⟩
noncomputable def apSX (el sz : Nat) (x y : Nat → Nat) : CV := fun _ e h nx kv => srcS sz h (y e) (apT el sz (x e) h nx kv)
section
variable {el : TypeId} {i : TypeInfo} {zv : Value}
theorem apS_ok {el2 : TypeId} (ht : P.underlying t = some (.slice el)) (hu : P.underlying u = some (.slice el2)) (hi : P.info? el = some i) (hz : i.zero = some zv) (hzs : zv.cells.size = i.size) (hb : i.bytes ≤ 10000) (hpos : 0 < i.size) :
    XS P N pl ⟨dst, .call { callee := .builtin .append, args := #[x, y], argTypes := #[t, u] }, ty, ps, af, gd⟩ (apSX el i.size (cO pl x) (cO pl y)) := by
  refine xs_run fun cl φ pb pn G h nx w e a kv R EE H => ?_
  obtain ⟨A, m, c2, d, l, hv, H, hl, hc⟩ := srcS_ok R (EE.val y (by simp [Op.operands, Call.operands])) H
  obtain ⟨v', w', G', h', nx', c', h1, hg, R', hv', H⟩ := apT_ok (S := Builtin.append_ #[t, u] ty #[a.eval x, a.eval y]) (by unfold szOf; rw [hi]; rfl) hpos R (EE.val x (by simp [Op.operands, Call.operands])) hl (fun A' len cap hx => by
    rw [hx, hv]
    exact AppRun.slice ht hu hi hz hzs hb hl.len hl.one_of hc) H
  exact ⟨v', w', G', h', nx', c', by simp only [execOp, resolve, invoke, builtin, Sem.run_bind, Sem.run_pure, Result.andThen_ok, List.map_toArray, List.map_cons, List.map_nil, h1], hg, R', hv', H⟩
noncomputable def apTX (el : Nat) (x y : Nat → Nat) : CV := fun _ e h nx kv => txtR T.fail h (y e) (apT el 1 (x e) h nx kv)
theorem apTx_ok (ht : P.underlying t = some (.slice el)) (hu : P.underlying u = some .string) (hi : P.info? el = some i) (hz : i.zero = some zv) (hzs : zv.cells.size = i.size) (hb : i.bytes ≤ 10000) (h1s : i.size = 1) :
    XS P N pl ⟨dst, .call { callee := .builtin .append, args := #[x, y], argTypes := #[t, u] }, ty, ps, af, gd⟩ (apTX el (cO pl x) (cO pl y)) := by
  refine xs_run fun cl φ pb pn G h nx w e a kv R EE H => ?_
  rcases txt_cases (z := T.fail) (k := apT el 1 (cO pl x e) h nx kv) R (EE.val y (by simp [Op.operands, Call.operands])) with hf | ⟨bs, hv, hf⟩
  · have H : Tall φ (txtR T.fail h (cO pl y e) (apT el 1 (cO pl x e) h nx kv)) := H
    rw [hf] at H; exact H.elim
  · have H : Tall φ (txtR T.fail h (cO pl y e) (apT el 1 (cO pl x e) h nx kv)) := H
    rw [hf] at H
    obtain ⟨v', w', G', h', nx', c', h1, hg, R', hv', H⟩ := apT_ok (S := Builtin.append_ #[t, u] ty #[a.eval x, a.eval y]) (m := bs.size) (d := rowB bs.data.toList) (news := strC bs) (sz := 1) (by unfold szOf; rw [hi]; simp [h1s]) (by omega) R (EE.val x (by simp [Op.operands, Call.operands])) (by rw [Nat.mul_one]; exact Cel.text bs) (fun A' len cap hx => by
      rw [hx, hv]
      have := AppRun.string (P := P) (w := w) (ty := ty) (A := A') (len := len) (cap := cap) (s := bs) ht hu hi hz hzs hb h1s
      rw [h1s] at this
      exact this) H
    exact ⟨v', w', G', h', nx', c', by simp only [execOp, resolve, invoke, builtin, Sem.run_bind, Sem.run_pure, Result.andThen_ok, List.map_toArray, List.map_cons, List.map_nil, h1], hg, R', hv', H⟩
noncomputable def apMX (el zc : Nat) (x y : Nat → Nat) : CV := fun _ e h nx kv => chk (isN .i64 (y e)) (chk (Nat.blt 9223372036854775808 (py (y e))) (chk (Nat.blt (py (y e)) 9223372036855824384) (apT el 1 (x e) h nx kv (Nat.sub (py (y e)) 9223372036854775808) (Nat.mul zc (ones (Nat.sub (py (y e)) 9223372036854775808))))))
theorem apM_ok {k : IntKind} (ht : P.underlying t = some (.slice el)) (hu : P.underlying u = some (.int k)) (hi : P.info? el = some i) (hz : i.zero = some zv) (hz1 : zv.cells = #[zv]) (hb : i.bytes ≤ 10000) (h1s : i.size = 1) (hc : zcode zv ≠ 0) :
    XS P N pl ⟨dst, .call { callee := .builtin .append, args := #[x, y], argTypes := #[t, u] }, ty, ps, af, gd⟩ (apMX el (zcode zv) (cO pl x) (cO pl y)) := by
  refine xs_run fun cl φ pb pn G h nx w e a kv R EE H => ?_
  obtain ⟨h1, H⟩ := Tall.chk H
  obtain ⟨h2, H⟩ := Tall.chk H
  obtain ⟨h3, H⟩ := Tall.chk H
  obtain ⟨n, p, hv, hp, e1, l1⟩ := (EE.val y (by simp [Op.operands, Call.operands])).num (isN_ok h1)
  rw [hp, py_eq] at h2 h3 H
  have h2 := blt_ok h2
  have h3 := blt_ok h3
  have hn : n = ((p - 9223372036854775808 : Nat) : Int) := by simp only [bias] at e1; omega
  rw [hn] at hv
  obtain ⟨v', w', G', h', nx', c', h1, hg, R', hv', H⟩ := apT_ok (S := Builtin.append_ #[t, u] ty #[a.eval x, a.eval y]) (m := p - 9223372036854775808) (d := Nat.mul (zcode zv) (ones (p - 9223372036854775808))) (news := List.replicate (p - 9223372036854775808) zv) (sz := 1) (by unfold szOf; rw [hi]; simp [h1s]) (by omega) R (EE.val x (by simp [Op.operands, Call.operands])) (by rw [Nat.mul_one]; exact Cel.rep hc _) (fun A' len cap hx => by
    rw [hx, hv]
    have := AppRun.made (P := P) (w := w) (ty := ty) (A := A') (len := len) (cap := cap) (m := p - 9223372036854775808) ht hu hi hz hz1 hb h1s (zcode_ok hc).2 (by omega) (by omega)
    rw [h1s] at this
    exact this) H
  exact ⟨v', w', G', h', nx', c', by simp only [execOp, resolve, invoke, builtin, Sem.run_bind, Sem.run_pure, Result.andThen_ok, List.map_toArray, List.map_cons, List.map_nil, h1], hg, R', hv', H⟩
/-! ### copy -/
noncomputable def rMn (c d : Nat) : Nat := Bool.rec d c (Nat.ble c d)
theorem rMn_eq (c d : Nat) : rMn c d = Nat.min c d := by
  unfold rMn
  cases h : Nat.ble c d
  · have : ¬ c ≤ d := fun hle => by rw [Nat.ble_eq_true_of_le hle] at h; cases h
    show d = min c d
    omega
  · have : c ≤ d := Nat.le_of_ble_eq_true h
    show c = min c d
    omega
noncomputable def cpN (sz c d : Nat) (h : Tr) (nx : Nat) (kv : KV) (n : Nat) : T :=
  Bool.rec (chk (isT 7 c) (chk (isT 7 d) (rdR T.fail (h.get (slN d)) fun m r => chk (Nat.ble (Nat.add (slO d) (Nat.mul n sz)) m) (wrR T.fail (h.get (slN c)) fun cl fz el' m' r' => chk (Nat.ble (Nat.add (slO c) (Nat.mul n sz)) m') (chk (Nat.ble fz (slO c))
    (kv (nI n) (h.set (slN c) (.row cl fz el' m' (put r' (slO c) (Nat.mul n sz) (sub r (slO d) (Nat.mul n sz))))) nx)))))) (kv (nI 0) h nx) (Nat.beq n 0)
noncomputable def cpX (sz : Nat) (x y : Nat → Nat) : CV := fun _ e h nx kv => chk (isSl (x e)) (chk (isSl (y e)) (cpN sz (x e) (y e) h nx kv (rMn (slL (y e)) (slL (x e)))))
theorem cp_ok (ht : P.underlying t = some (.slice el)) (hi : P.info? el = some i) :
    XS P N pl ⟨dst, .call { callee := .builtin .copy, args := #[x, y], argTypes := #[t, u] }, ty, ps, af, gd⟩ (cpX i.size (cO pl x) (cO pl y)) := by
  refine xs_run fun cl φ pb pn G h nx w e a kv R EE H => ?_
  obtain ⟨h1, H⟩ := Tall.chk H
  obtain ⟨h2, H⟩ := Tall.chk H
  rw [rMn_eq] at H
  have rx := EE.val x (by simp [Op.operands, Call.operands])
  have ry := EE.val y (by simp [Op.operands, Call.operands])
  obtain ⟨A, cap, hx, hlx, _, _⟩ := isSl_ok h1 rx
  obtain ⟨A2, cap2, hy, hly, _, _⟩ := isSl_ok h2 ry
  rcases Tall.cases H with ⟨hn, H⟩ | ⟨hn, H⟩
  · obtain ⟨h7, H⟩ := Tall.chk H
    obtain ⟨h7', H⟩ := Tall.chk H
    obtain ⟨nm, off, len, cc, c1, b, s, tot, z, hx', hc, hG, hnm, ho, hlb, hcb, q1, q2⟩ := rx.inv_sl (isT_ok h7)
    obtain ⟨nm', off', len', cc', c1', b', s', tot', z', hy', hc', hG', hnm', ho', hlb', hcb', q1', q2'⟩ := ry.inv_sl (isT_ok h7')
    obtain ⟨e1, e2, e3, e4⟩ := sl_parts (cc := cc) hnm ho hlb
    obtain ⟨e1', e2', e3', e4'⟩ := sl_parts (cc := cc') hnm' ho' hlb'
    rw [hc, hc'] at H
    simp only [e1, e2, e3, e4, e1', e2', e3', e4'] at H
    obtain ⟨m, r, hob, H⟩ := Tall.rdR H
    obtain ⟨hle, H⟩ := Tall.chk H
    have hle : off' + Nat.min len' len * i.size ≤ m := Nat.le_of_ble_eq_true hle
    obtain ⟨cs, el', fr, RA, _, _⟩ := R.row hG' hob
    obtain ⟨l, hl1, hl2⟩ := RA.cel hle
    obtain ⟨cl', fz, el2, m', r', hob', H⟩ := Tall.wrR H
    obtain ⟨hfit, H⟩ := Tall.chk H
    obtain ⟨hfz, H⟩ := Tall.chk H
    have hfit : off + Nat.min len' len * i.size ≤ m' := Nat.le_of_ble_eq_true hfit
    have hfz : fz ≤ off := Nat.le_of_ble_eq_true hfz
    have hth := R.there hG hob' hfit hfz
    have hf := fc_run (P := P) (w := w) (A := some ⟨b', s' + off', none⟩) (size := i.size) (n := Nat.min len' len) (len := len') (cap := c1') hl1.len (fun j u hu => ⟨_, rfl, by rw [Addr.add_mid]; exact hl2 j u hu⟩)
    have hst := run_storeCells_cells (P := P) b (s + off) l 0 w (by rw [hl1.len]; simpa using fun j hj => (hth j hj).1) (by rw [hl1.len]; simpa using fun j hj => (hth j hj).2) hl1.one_of
    simp only [Nat.add_zero] at hst
    have RR := R.setCells hG hob' (off := off) (vs := l) (by rw [hl1.len]; exact hl1.lt) (by rw [hl1.len]; exact hfit) (fun i hi => hl1.rel i (by rw [← hl1.len]; exact hi))
    rw [hl1.len] at RR
    have hmin : Nat.min len' len < 9223372036854775808 := by
      have : Nat.min len' len ≤ len := Nat.min_le_right _ _
      omega
    refine ⟨.int .i64 ((Nat.min len' len : Nat) : Int), w.setCells b (s + off) l, G, _, nx, _, ?_, Gle.rfl, RR, nI_ok hmin, H⟩
    simp [execOp, resolve, invoke, builtin, hx', hy', Builtin.copy_, run_underlying ht, sizeOf, typeInfo, hi, Builtin.lenOf, hf, hst, goInt]
  · have h0 : Nat.min (slL (cO pl y e)) (slL (cO pl x e)) = 0 := Nat.eq_of_beq_eq_true hn
    have hf := fc_run (P := P) (w := w) (A := A2) (size := i.size) (n := 0) (len := slL (cO pl y e)) (cap := cap2) (l := []) (by simp) (by simp)
    refine ⟨.int .i64 ((0 : Nat) : Int), w, G, h, nx, _, ?_, Gle.rfl, R, nI_ok (by omega), H⟩
    cases A <;> simp [execOp, resolve, invoke, builtin, hx, hy, Builtin.copy_, run_underlying ht, sizeOf, typeInfo, hi, Builtin.lenOf, h0, hf, goInt, storeCells]
end
/-! ### clear -/
/-- a piece, m times -/
def repR (sz d : Nat) (m : Nat) : Nat := Nat.rec 0 (fun _ r => catR sz d r) m
theorem Cel.pat {sz d : Nat} {zs : List Value} (hz : Cel G sz d zs) : ∀ m, Cel G (m * sz) (repR sz d m) (List.replicate m zs).flatten := by
  intro m
  induction m with
  | zero => exact ⟨by simp, by show (0 : Nat) < _; simp, fun i hi => by simp at hi⟩
  | succ m ih =>
    have := hz.cat ih
    rw [show sz + m * sz = (m + 1) * sz from by rw [Nat.succ_mul]; omega] at this
    rw [List.replicate_succ, List.flatten_cons]
    exact this
theorem zeroCells_flat (zs : Array Value) : ∀ m, (Builtin.zeroCells zs m).toList = (List.replicate m zs.toList).flatten := by
  intro m
  apply List.ext_getElem?
  intro j
  by_cases hj : j < m * zs.size
  · have h0 : 0 < zs.size := by
      rcases Nat.eq_zero_or_pos zs.size with h | h
      · rw [h, Nat.mul_zero] at hj; omega
      · exact h
    have e1 : (Builtin.zeroCells zs m).toList[j]? = some zs[j % zs.size]! := by
      simp [Builtin.zeroCells, hj]
    rw [e1]
    clear e1
    induction m generalizing j with
    | zero => simp at hj
    | succ m ih =>
      rw [List.replicate_succ, List.flatten_cons]
      by_cases hq : j < zs.size
      · rw [List.getElem?_append_left (by simpa using hq), Nat.mod_eq_of_lt hq]
        simp [hq]
      · rw [List.getElem?_append_right (by simpa using hq)]
        have hk := ih (j - zs.size) (by rw [Nat.succ_mul] at hj; omega)
        rw [Array.length_toList, ← hk, Nat.mod_eq_sub_mod (by omega)]
  · have hl : (List.replicate m zs.toList).flatten.length = m * zs.size := by simp
    rw [List.getElem?_eq_none (by simp [Builtin.zeroCells]; omega), List.getElem?_eq_none (by rw [hl]; omega)]
noncomputable def clA (sz d : Nat) (x : Nat → Nat) : CV := fun _ e h nx kv => Bool.rec (chk (isT 7 (x e)) (wrR T.fail (h.get (slN (x e))) fun cl fz el' n r => chk (Nat.ble (Nat.add (slO (x e)) (Nat.mul (slL (x e)) sz)) n) (chk (Nat.ble fz (slO (x e)))
  (kv 0 (h.set (slN (x e)) (.row cl fz el' n (put r (slO (x e)) (Nat.mul (slL (x e)) sz) (repR sz d (slL (x e)))))) nx)))) (kv 0 h nx) (z0 (x e))
theorem cl_ok {el : TypeId} {zv : Value} {zs : List Value} (ht : P.underlying t = some (.slice el)) (hz : zeroOf P el = some zv) (hzs : zv.cells = zs.toArray) (ho : okZ zs = true) :
    XS P N pl ⟨dst, .call { callee := .builtin .clear, args := #[x], argTypes := #[t] }, ty, ps, af, gd⟩ (clA zs.length (zrow zs) (cO pl x)) := by
  refine xs_run fun cl φ pb pn G h nx w e a kv R EE H => ?_
  have rx := EE.val x (by simp [Op.operands, Call.operands])
  rcases Tall.cases H with ⟨h0, H⟩ | ⟨h0, H⟩
  · obtain ⟨h7, H⟩ := Tall.chk H
    obtain ⟨nm, off, len, cc, c1, b, s, tot, z, hx, hc, hG, hnm, ho', hlb, hcb, q1, q2⟩ := rx.inv_sl (isT_ok h7)
    obtain ⟨e1, e2, e3, e4⟩ := sl_parts (cc := cc) hnm ho' hlb
    have hlen : len ≠ 0 := fun e0 => by
      have : z0 (cO pl x e) = true := by
        unfold z0
        have : isSl (cO pl x e) = true := by unfold isSl; rw [h7]
        rw [this, hc, e3, e0]
        rfl
      rw [this] at h0; cases h0
    rw [hc] at H
    simp only [e1, e2, e3, e4] at H
    obtain ⟨cl', fz, el2, n, r, hob, H⟩ := Tall.wrR H
    obtain ⟨hfit, H⟩ := Tall.chk H
    obtain ⟨hfz, H⟩ := Tall.chk H
    have hfit : off + len * zs.length ≤ n := Nat.le_of_ble_eq_true hfit
    have hfz : fz ≤ off := Nat.le_of_ble_eq_true hfz
    have hth := R.there hG hob hfit hfz
    obtain ⟨z1, z2⟩ := zrow_ok ho G
    have hcel : Cel G (len * zs.length) (repR zs.length (zrow zs) len) (Builtin.zeroCells zv.cells len).toList := by
      rw [zeroCells_flat, hzs]
      exact Cel.pat (G := G) (zs := zs) ⟨rfl, z1, z2⟩ len
    have hst := run_storeCells_cells (P := P) b (s + off) (Builtin.zeroCells zv.cells len).toList 0 w (by rw [hcel.len]; simpa using fun j hj => (hth j hj).1) (by rw [hcel.len]; simpa using fun j hj => (hth j hj).2) hcel.one_of
    simp only [Nat.add_zero] at hst
    have RR := R.setCells hG hob (off := off) (vs := (Builtin.zeroCells zv.cells len).toList) (by rw [hcel.len]; exact hcel.lt) (by rw [hcel.len]; exact hfit) (fun i hi => hcel.rel i (by rw [← hcel.len]; exact hi))
    rw [hcel.len] at RR
    obtain ⟨m, rfl⟩ : ∃ m, len = m + 1 := ⟨len - 1, by omega⟩
    refine ⟨.tuple #[], w.setCells b (s + off) (Builtin.zeroCells zv.cells (m + 1)).toList, G, _, nx, 0, ?_, Gle.rfl, RR, .unk _, H⟩
    simp [execOp, resolve, invoke, builtin, hx, Builtin.clear_, run_underlying ht, zeroOf_run hz, hst]
  · unfold z0 at h0
    cases hs : isSl (cO pl x e)
    · rw [hs] at h0; cases h0
    · rw [hs] at h0
      obtain ⟨A, cap, hx, _⟩ := isSl_ok hs rx
      have h0 : slL (cO pl x e) = 0 := Nat.eq_of_beq_eq_true h0
      rw [h0] at hx
      refine ⟨.tuple #[], w, G, h, nx, 0, ?_, Gle.rfl, R, .unk _, H⟩
      cases A <;> simp [execOp, resolve, invoke, builtin, hx, Builtin.clear_, run_underlying ht]
end Go.Ev
end
section
/- Keys: values of one cell, flat structs of such; what finding them comes to. -/
set_option linter.all false
namespace Go.Ev
open Go Go.RowKit Go.Hub
variable {P : Program} {w : World} {t : TypeId}

def plD : TypeDesc → Bool
  | .bool | .int _ | .string => true
  | _ => false
abbrev IsK := MapKept.IsKey
theorem eq_plain {d : TypeDesc} {x y : Value} (hd : P.underlying t = some d) (hx : IsK d x) (hy : IsK d y) (n : Nat) : ∃ r, (Op.equalIn (n + 1) t x y).run P w = .ok r w ∧ (r = true ↔ x = y) := by
  cases d <;> first
    | (exfalso; cases x <;> exact hx)
    | (cases x <;> first
      | (exfalso; exact hx)
      | (cases y <;> first
        | (exfalso; exact hy)
        | simp_all [MapKept.IsKey, Op.equalIn, run_underlying hd, MapKept.bytes_beq]))
inductive KD where
  | pl (d : TypeDesc)
  | fl (ds : List TypeDesc)
def isK : KD → Value → Prop
  | .pl d, v => IsK d v
  | .fl ds, v => ∃ xs : Array Value, v = .agg xs ∧ xs.size = ds.length ∧ ∀ i d, ds[i]? = some d → IsK d (xs.getD i undef)
/-- fields one behind the other -/
def FieldsT (P : Program) (F : TypeId → List TypeDesc → Prop) : List Field → Nat → List TypeDesc → Prop
  | [], _, ds => ds = []
  | f :: l, off, ds => ∃ d1 d2, ds = d1 ++ d2 ∧ f.name ≠ "_" ∧ f.offset = off ∧ szOf P f.type = some d1.length ∧ F f.type d1 ∧ FieldsT P F l (off + d1.length) d2
/-- a type of one cell, or a struct of such types, cell by cell -/
def FlatT (P : Program) : Nat → TypeId → List TypeDesc → Prop
  | 0, _, _ => False
  | n + 1, t, ds => (∃ d, P.underlying t = some d ∧ plD d = true ∧ ds = [d]) ∨ ∃ fs, P.underlying t = some (.struct fs) ∧ P.stoodInHeld t = false ∧ FieldsT P (FlatT P n) fs.toList 0 ds
def KeyT (P : Program) (t : TypeId) : KD → Prop
  | .pl d => P.underlying t = some d ∧ plD d = true
  | .fl ds => ∃ fs, P.underlying t = some (.struct fs) ∧ P.stoodInHeld t = false ∧ FieldsT P (FlatT P 8) fs.toList 0 ds
theorem part_plain {e : TypeId} {d : TypeDesc} {xs : Array Value} {off : Nat} (hu : P.underlying e = some d) (hd : plD d = true) (hx : off < xs.size) : (part e xs off).run P w = .ok (xs.getD off undef) w := by
  obtain ⟨v, h1⟩ : ∃ v, xs[off]? = some v := ⟨_, Array.getElem?_eq_getElem hx⟩
  have h2 : xs.getD off undef = v := by rw [Array.getD_eq_getD_getElem?, h1]; rfl
  rw [h2]
  cases d <;> simp [plD] at hd <;> simp [part, isAgg, run_underlying hu, h1]
/-- cells of these types from a place on -/
def CellsK (xs : Array Value) (o : Nat) (ds : List TypeDesc) : Prop := o + ds.length ≤ xs.size ∧ ∀ i d, ds[i]? = some d → IsK d (xs.getD (o + i) undef)
theorem CellsK.app {xs : Array Value} {o : Nat} {d1 d2 : List TypeDesc} (h : CellsK xs o (d1 ++ d2)) : CellsK xs o d1 ∧ CellsK xs (o + d1.length) d2 := by
  obtain ⟨h1, h2⟩ := h
  rw [List.length_append] at h1
  refine ⟨⟨by omega, fun i d hd => h2 i d (by rw [List.getElem?_append_left (List.getElem?_eq_some_iff.1 hd).1]; exact hd)⟩, ⟨by omega, fun i d hd => ?_⟩⟩
  have := h2 (d1.length + i) d (by rw [List.getElem?_append_right (by omega), Nat.add_sub_cancel_left]; exact hd)
  rwa [← Nat.add_assoc] at this
theorem CellsK.cut {xs : Array Value} {o : Nat} {ds : List TypeDesc} (h : CellsK xs o ds) : CellsK (xs.extract o (o + ds.length)) 0 ds := by
  obtain ⟨h1, h2⟩ := h
  have hs : (xs.extract o (o + ds.length)).size = ds.length := by rw [Array.size_extract]; omega
  refine ⟨by omega, fun i d hd => ?_⟩
  have hi := (List.getElem?_eq_some_iff.1 hd).1
  have := h2 i d hd
  rw [Array.getD_eq_getD_getElem?] at this ⊢
  rw [Array.getElem?_extract, Nat.zero_add]
  rw [if_pos (by omega)]
  exact this
theorem cut_get {xs : Array Value} {o n i : Nat} (hi : i < n) (h : o + n ≤ xs.size) : (xs.extract o (o + n)).getD i undef = xs.getD (o + i) undef := by
  rw [Array.getD_eq_getD_getElem?, Array.getD_eq_getD_getElem?, Array.getElem?_extract, if_pos (by omega)]
/-- equality, key's look: cell by cell -/
def EqP (P : Program) (D : Nat) (F : TypeId → List TypeDesc → Prop) : Prop := ∀ t ds, F t ds → szOf P t = some ds.length → ∀ (w : World) (xs ys : Array Value) (o : Nat), CellsK xs o ds → CellsK ys o ds →
  ∃ vx vy r, (part t xs o).run P w = .ok vx w ∧ (part t ys o).run P w = .ok vy w ∧ (Op.equalIn D t vx vy).run P w = .ok r w ∧ (r = true ↔ ∀ i, i < ds.length → xs.getD (o + i) undef = ys.getD (o + i) undef)
def CkP (P : Program) (D : Nat) (F : TypeId → List TypeDesc → Prop) : Prop := ∀ t ds, F t ds → szOf P t = some ds.length → ∀ (w : World) (em : Bool) (xs : Array Value) (o : Nat), CellsK xs o ds →
  ∃ vx, (part t xs o).run P w = .ok vx w ∧ (Instr.checkKey em D t vx).run P w = .ok () w
theorem eqFields_ok {F : TypeId → List TypeDesc → Prop} {D : Nat} (hF : EqP P D F) (xs ys : Array Value) : ∀ (l : List Field) (ds : List TypeDesc) (o : Nat), FieldsT P F l o ds → CellsK xs o ds → CellsK ys o ds →
    ∃ r, (Op.eqFields D xs ys l).run P w = .ok r w ∧ (r = true ↔ ∀ i, i < ds.length → xs.getD (o + i) undef = ys.getD (o + i) undef) := by
  intro l
  induction l with
  | nil =>
    intro ds o h _ _
    have h : ds = [] := h
    subst h
    exact ⟨true, rfl, by simp⟩
  | cons f l ih =>
    intro ds o h hx hy
    obtain ⟨d1, d2, rfl, h1, h2, h3, h4, h5⟩ := h
    obtain ⟨x1, x2⟩ := hx.app
    obtain ⟨y1, y2⟩ := hy.app
    obtain ⟨vx, vy, r, p1, p2, p3, hiff⟩ := hF f.type d1 h4 h3 w xs ys o x1 y1
    obtain ⟨r', hr', hiff'⟩ := ih d2 (o + d1.length) h5 x2 y2
    have e1 : (Op.eqFields D xs ys (f :: l)).run P w = .ok (r && r') w := by
      unfold Op.eqFields
      rw [if_pos h1, h2]
      simp only [Sem.run_bind, p1, p2, p3, Result.andThen_ok]
      cases r <;> simp [hr']
    refine ⟨r && r', e1, ?_⟩
    rw [Bool.and_eq_true, hiff, hiff', List.length_append]
    constructor
    · rintro ⟨q1, q2⟩ i hi
      rcases Nat.lt_or_ge i d1.length with q | q
      · exact q1 i q
      · have := q2 (i - d1.length) (by omega)
        rw [show o + d1.length + (i - d1.length) = o + i from by omega] at this
        exact this
    · intro q
      refine ⟨fun i hi => q i (by omega), fun i hi => ?_⟩
      have := q (d1.length + i) (by omega)
      rw [← Nat.add_assoc] at this
      exact this
theorem part_struct {xs : Array Value} {o n : Nat} {fs : Array Field} (hu : P.underlying t = some (.struct fs)) (hs : szOf P t = some n) : (part t xs o).run P w = .ok (.agg (xs.extract o (o + n))) w := by
  obtain ⟨j, hj, hjs⟩ : ∃ j, P.info? t = some j ∧ j.size = n := by
    unfold szOf at hs
    cases hi : P.info? t with
    | none => rw [hi] at hs; cases hs
    | some j => rw [hi] at hs; exact ⟨j, rfl, Option.some.inj hs⟩
  simp [part, isAgg, run_underlying hu, sizeOf, typeInfo, hj, hjs]
theorem eqP_flat : ∀ (n k : Nat), EqP P (n + k) (FlatT P n) := by
  intro n
  induction n with
  | zero => intro k t ds h; exact h.elim
  | succ n ih =>
    intro k t ds h hs w xs ys o hx hy
    rw [show n + 1 + k = (n + k) + 1 from by omega]
    rcases h with ⟨d, hu, hp, rfl⟩ | ⟨fs, hu, hst, hf⟩
    · have kx := hx.2 0 d rfl
      have ky := hy.2 0 d rfl
      rw [Nat.add_zero] at kx ky
      have b1 := hx.1
      have b2 := hy.1
      simp only [List.length_singleton] at b1 b2
      obtain ⟨r, hr, hiff⟩ := eq_plain (w := w) hu kx ky (n + k)
      refine ⟨_, _, r, part_plain hu hp (by omega), part_plain hu hp (by omega), hr, ?_⟩
      rw [hiff]
      constructor
      · intro q i hi
        have : i = 0 := by simpa using hi
        subst this; exact q
      · intro q; exact q 0 (by simp)
    · have hfs : P.fieldsOf t = fs := by simp [Program.fieldsOf, hu]
      obtain ⟨r, hr, hiff⟩ := eqFields_ok (w := w) (ih k) (xs.extract o (o + ds.length)) (ys.extract o (o + ds.length)) fs.toList ds 0 hf hx.cut hy.cut
      have hrun := run_equalIn_struct (P := P) w (n + k) t (xs.extract o (o + ds.length)) (ys.extract o (o + ds.length)) (by rw [hfs]; exact hu) hst
      rw [hfs] at hrun
      refine ⟨_, _, r, part_struct hu hs, part_struct hu hs, by rw [hrun]; exact hr, ?_⟩
      rw [hiff]
      constructor
      · intro q i hi
        have := q i hi
        rw [Nat.zero_add, cut_get hi hx.1, cut_get hi hy.1] at this
        exact this
      · intro q i hi
        rw [Nat.zero_add, cut_get hi hx.1, cut_get hi hy.1]
        exact q i hi
theorem agg_ext {xs ys : Array Value} (h1 : xs.size = ys.size) : (∀ i, i < xs.size → xs.getD i undef = ys.getD i undef) ↔ Value.agg xs = Value.agg ys := by
  constructor
  · intro h
    congr 1
    apply Array.ext h1
    intro i hi hi'
    have := h i hi
    rw [Array.getD_eq_getD_getElem?, Array.getD_eq_getD_getElem?, Array.getElem?_eq_getElem hi, Array.getElem?_eq_getElem hi'] at this
    simpa using this
  · intro h
    injection h with h
    rw [h]
    exact fun i _ => rfl
theorem key_eq {kd : KD} (hk : KeyT P t kd) {x y : Value} (hx : isK kd x) (hy : isK kd y) : ∃ r, (Op.equal t x y).run P w = .ok r w ∧ (r = true ↔ x = y) := by
  cases kd with
  | pl d => exact eq_plain hk.1 hx hy 9999
  | fl ds =>
    obtain ⟨fs, h1, h3, h4⟩ := hk
    obtain ⟨xs, rfl, x1, x2⟩ := hx
    obtain ⟨ys, rfl, y1, y2⟩ := hy
    have hf : P.fieldsOf t = fs := by simp [Program.fieldsOf, h1]
    have hrun := run_equalIn_struct (P := P) w 9999 t xs ys (by rw [hf]; exact h1) h3
    rw [hf] at hrun
    obtain ⟨r, hr, hiff⟩ := eqFields_ok (w := w) (eqP_flat (P := P) 8 9991) xs ys fs.toList ds 0 h4 ⟨by omega, fun i d hd => by rw [Nat.zero_add]; exact x2 i d hd⟩ ⟨by omega, fun i d hd => by rw [Nat.zero_add]; exact y2 i d hd⟩
    refine ⟨r, by show (Op.equalIn (9999 + 1) t (.agg xs) (.agg ys)).run P w = _; rw [hrun]; exact hr, ?_⟩
    rw [hiff, ← agg_ext (by omega), x1]
    simp
theorem checkKey_plain {d : TypeDesc} {x : Value} (hd : P.underlying t = some d) (hx : IsK d x) (em : Bool) (n : Nat) : (Instr.checkKey em (n + 1) t x).run P w = .ok () w := MapKept.run_checkKey hd hx em n
theorem ckFields_ok {F : TypeId → List TypeDesc → Prop} {D : Nat} {em : Bool} (hF : CkP P D F) (xs : Array Value) : ∀ (l : List Field) (ds : List TypeDesc) (o : Nat), FieldsT P F l o ds → CellsK xs o ds →
    (forIn l PUnit.unit fun f r => if f.name ≠ "_" then do
        let a ← part f.type xs f.offset
        Instr.checkKey em D f.type a
        pure (ForInStep.yield PUnit.unit)
      else pure (ForInStep.yield PUnit.unit) : Sem PUnit).run P w = .ok () w := by
  intro l
  induction l with
  | nil => intro ds o _ _; rfl
  | cons f l ih =>
    intro ds o h hx
    obtain ⟨d1, d2, rfl, h1, h2, h3, h4, h5⟩ := h
    obtain ⟨x1, x2⟩ := hx.app
    obtain ⟨vx, p1, p2⟩ := hF f.type d1 h4 h3 w em xs o x1
    have p3 := ih d2 (o + d1.length) h5 x2
    simp only [List.forIn_cons, Sem.run_bind, Sem.run_ite]
    rw [if_pos h1, h2]
    simp only [Sem.run_bind, p1, p2, Result.andThen_ok, Sem.run_pure]
    exact p3
theorem ckP_flat : ∀ (n k : Nat), CkP P (n + k) (FlatT P n) := by
  intro n
  induction n with
  | zero => intro k t ds h; exact h.elim
  | succ n ih =>
    intro k t ds h hs w em xs o hx
    rw [show n + 1 + k = (n + k) + 1 from by omega]
    rcases h with ⟨d, hu, hp, rfl⟩ | ⟨fs, hu, hst, hf⟩
    · have kx := hx.2 0 d rfl
      rw [Nat.add_zero] at kx
      have b1 := hx.1
      simp only [List.length_singleton] at b1
      exact ⟨_, part_plain hu hp (by omega), checkKey_plain hu kx em (n + k)⟩
    · refine ⟨_, part_struct hu hs, ?_⟩
      unfold Instr.checkKey
      simp only [Sem.run_bind, run_underlying hu, Result.andThen_ok]
      rw [← Array.forIn_toList, ckFields_ok (ih k) (xs.extract o (o + ds.length)) fs.toList ds 0 hf hx.cut]
      rfl
theorem key_check {kd : KD} (hk : KeyT P t kd) {x : Value} (hx : isK kd x) (em : Bool) : (Instr.checkKey em 10000 t x).run P w = .ok () w := by
  cases kd with
  | pl d => exact checkKey_plain hk.1 hx em 9999
  | fl ds =>
    obtain ⟨fs, h1, h3, h4⟩ := hk
    obtain ⟨xs, rfl, x1, x2⟩ := hx
    show (Instr.checkKey em (9999 + 1) t (.agg xs)).run P w = _
    unfold Instr.checkKey
    simp only [Sem.run_bind, run_underlying h1, Result.andThen_ok]
    rw [← Array.forIn_toList, ckFields_ok (ckP_flat (P := P) 8 9991) xs fs.toList ds 0 h4 ⟨by omega, fun i d hd => by rw [Nat.zero_add]; exact x2 i d hd⟩]
    rfl
theorem key_same {kd : KD} {x : Value} (hx : isK kd x) : Instr.sameBits 10000 x x = true := by
  cases kd with
  | pl d => exact MapKept.sameBits_self hx 10000
  | fl ds =>
    obtain ⟨xs, rfl, x1, x2⟩ := hx
    show Instr.sameBits (9999 + 1) (.agg xs) (.agg xs) = true
    simp only [Instr.sameBits, beq_self_eq_true, Bool.true_and, List.all_eq_true]
    intro p hp
    obtain ⟨i, hi, e⟩ := List.getElem_of_mem hp
    rw [List.getElem_zip] at e
    rw [← e]
    have hi' : i < xs.size := by simpa using hi
    have := x2 i ds[i] (List.getElem?_eq_getElem (by omega))
    rw [Array.getD_eq_getD_getElem?, Array.getElem?_eq_getElem hi'] at this
    simp only [Array.getElem_toList]
    exact MapKept.sameBits_self this 9999
/-- not one of these -/
def NoK (kd : KD) (x : Value) (l : List MapEntry) : Prop := ∀ e ∈ l, isK kd e.key ∧ e.key ≠ x
theorem findNow_pre {d : TypeDesc} {x : Value} (hx : IsK d x) : ∀ (l r : List MapEntry) (i : Nat), NoK (.pl d) x l → Instr.findNow d x (l ++ r) i = Instr.findNow d x r (i + l.length) := by
  intro l
  induction l with
  | nil => intro r i _; rfl
  | cons e l ih =>
    intro r i h
    obtain ⟨h1, h2⟩ := h e (by simp)
    obtain ⟨b, hb, hiff⟩ := MapKept.sameNow_of_keys hx h1
    have : b = false := by
      cases b
      · rfl
      · exact absurd (hiff.1 rfl).symm h2
    subst this
    show Instr.findNow d x (e :: (l ++ r)) i = _
    simp only [Instr.findNow, hb]
    rw [ih r (i + 1) fun e he => h e (by simp [he])]
    simp [Nat.add_assoc, Nat.add_comm 1]
theorem findAsk_pre {kd : KD} (hk : KeyT P t kd) {x : Value} (hx : isK kd x) : ∀ (l r : List MapEntry) (i : Nat), NoK kd x l → (Instr.findAsking t x (l ++ r) i).run P w = (Instr.findAsking t x r (i + l.length)).run P w := by
  intro l
  induction l with
  | nil => intro r i _; rfl
  | cons e l ih =>
    intro r i h
    obtain ⟨h1, h2⟩ := h e (by simp)
    obtain ⟨b, hb, hiff⟩ := key_eq (w := w) hk hx h1
    have : b = false := by
      cases b
      · rfl
      · exact absurd (hiff.1 rfl).symm h2
    subst this
    show (Instr.findAsking t x (e :: (l ++ r)) i).run P w = _
    simp only [Instr.findAsking, Sem.run_bind, hb, Result.andThen_ok, Bool.false_eq_true, if_false]
    rw [ih r (i + 1) fun e he => h e (by simp [he])]
    simp [Nat.add_assoc, Nat.add_comm 1]
theorem find_none {kd : KD} (hk : KeyT P t kd) {x : Value} (hx : isK kd x) {l : List MapEntry} (h : NoK kd x l) : (Instr.findKey t x l).run P w = .ok none w := by
  cases kd with
  | pl d =>
    have := findNow_pre hx l [] 0 h
    rw [List.append_nil] at this
    simp [Instr.findKey, run_underlying hk.1, this, Instr.findNow]
  | fl ds =>
    have h1 := findAsk_pre (w := w) hk hx l [] 0 h
    rw [List.append_nil] at h1
    obtain ⟨fs, hu, _⟩ := hk
    cases l with
    | nil => simp [Instr.findKey, run_underlying hu, Instr.findNow]
    | cons e l =>
      have : Instr.findNow (.struct fs) x (e :: l) 0 = none := by simp [Instr.findNow, Instr.sameNow]
      simp only [Instr.findKey, Sem.run_bind, run_underlying hu, Result.andThen_ok, this]
      rw [h1]; rfl
theorem find_some {kd : KD} (hk : KeyT P t kd) {x : Value} (hx : isK kd x) {l r : List MapEntry} {e : MapEntry} (h : NoK kd x l) (he : e.key = x) : (Instr.findKey t x (l ++ e :: r)).run P w = .ok (some (l.length, e.val)) w := by
  cases kd with
  | pl d =>
    have h1 := findNow_pre hx l (e :: r) 0 h
    obtain ⟨b, hb, hiff⟩ := MapKept.sameNow_of_keys hx (show IsK d e.key by rw [he]; exact hx)
    have : b = true := hiff.2 he.symm
    subst this
    simp [Instr.findKey, run_underlying hk.1, h1, Instr.findNow, hb]
  | fl ds =>
    have h1 := findAsk_pre (w := w) hk hx l (e :: r) 0 h
    obtain ⟨b, hb, hiff⟩ := key_eq (w := w) hk hx (show isK (.fl ds) e.key by rw [he]; exact hx)
    have : b = true := hiff.2 he.symm
    subst this
    obtain ⟨fs, hu, _⟩ := hk
    have h2 : Instr.findNow (.struct fs) x (l ++ e :: r) 0 = none := by
      cases l <;> simp [Instr.findNow, Instr.sameNow]
    simp only [Instr.findKey, Sem.run_bind, run_underlying hu, Result.andThen_ok, h2]
    rw [h1]
    simp [Instr.findAsking, hb]
end Go.Ev
end
section
/- Maps by codes: keys held against each other; look-up, update, delete. -/
set_option linter.all false
namespace Go.Ev
open Go Go.RowKit Go.Hub
variable {P : Program} {N : Nat} {pl : List Value} {dst : Option Nat} {ty : TypeId} {ps : String} {af : Array Edge} {gd : Option (Nat × Bool)} {x y z : Operand} {t u : TypeId}
variable {φ : Nat → Tr → Nat → Prop} {pb : Kb} {pn : Nat → Option Obj} {G G' : Gh} {h h' : Tr} {nx nm : Nat} {w w' : World}

noncomputable def eqP {α : Type} (z : α) (d : TypeDesc) (h : Tr) (c c' : Nat) (k : Bool → α) : α := match d with
  | .int kk => Bool.rec z (k (Nat.beq c c')) (both kk c c')
  | .bool => Bool.rec z (k (Nat.beq c c')) (bothB c c')
  | .string => txtR z h c fun n r => txtR z h c' fun m s => k (eqT n r m s)
  | _ => z
theorem eqP_cases {α : Type} {z : α} {d : TypeDesc} {c c' : Nat} {x y : Value} {k : Bool → α} (R : Rel P pb pn G h nx w) (hx : VRel G c x) (hy : VRel G c' y) :
    eqP z d h c c' k = z ∨ (IsK d x ∧ IsK d y ∧ ∃ b, eqP z d h c c' k = k b ∧ (b = true ↔ x = y)) := by
  cases d with
  | int kk =>
    have e0 : eqP z (.int kk) h c c' k = Bool.rec z (k (Nat.beq c c')) (both kk c c') := rfl
    rw [e0]
    cases hb : both kk c c' with
    | false => exact .inl rfl
    | true =>
      obtain ⟨t1, t2⟩ := both_ok hb
      obtain ⟨n, p, rfl, rfl, e1, l1⟩ := hx.num t1
      obtain ⟨m, q, rfl, rfl, e2, l2⟩ := hy.num t2
      refine .inr ⟨rfl, rfl, Nat.beq (tk kk + 256 * p) (tk kk + 256 * q), rfl, ?_⟩
      rw [beqN, decide_eq_true_eq]
      constructor
      · intro h
        have : n = m := by omega
        rw [this]
      · intro h
        injection h with _ h
        omega
  | bool =>
    have e0 : eqP z .bool h c c' k = Bool.rec z (k (Nat.beq c c')) (bothB c c') := rfl
    rw [e0]
    cases hb : bothB c c' with
    | false => exact .inl rfl
    | true =>
      obtain ⟨t1, t2⟩ := bothB_ok hb
      obtain ⟨b1, rfl, rfl⟩ := hx.inv_bool (by omega)
      obtain ⟨b2, rfl, rfl⟩ := hy.inv_bool (by omega)
      refine .inr ⟨trivial, trivial, Nat.beq (cB b1) (cB b2), rfl, ?_⟩
      cases b1 <;> cases b2 <;> simp [cB]
  | string =>
    have e0 : eqP z .string h c c' k = txtR z h c fun n r => txtR z h c' fun m s => k (eqT n r m s) := rfl
    rw [e0]
    rcases txt_cases (z := z) (k := fun n r => txtR z h c' fun m s => k (eqT n r m s)) R hx with e | ⟨bs, rfl, e⟩
    · exact .inl e
    · rw [e]
      rcases txt_cases (z := z) (k := fun m s => k (eqT bs.size (rowB bs.data.toList) m s)) R hy with e' | ⟨bs', rfl, e'⟩
      · exact .inl e'
      · refine .inr ⟨trivial, trivial, _, e', ?_⟩
        rw [eqT_ok, decide_eq_true_eq]
        exact ⟨fun h => by rw [h], fun h => by injection h⟩
  | _ => exact .inl rfl
noncomputable def eqF {α : Type} (z : α) (h : Tr) (r s : Nat) (k : Bool → α) (ds : List TypeDesc) : Nat → Bool → α :=
  List.rec (fun _ b => k b) (fun d _ ih i b => eqP z d h (getS r i) (getS s i) fun b' => ih (Nat.add i 1) (Bool.rec false b' b)) ds
theorem eqF_cases {α : Type} {z : α} {k : Bool → α} {r s : Nat} {xs ys : Array Value} (R : Rel P pb pn G h nx w) : ∀ (ds : List TypeDesc) (i : Nat) (b : Bool), i + ds.length ≤ xs.size → i + ds.length ≤ ys.size →
    (∀ j, j < xs.size → VRel G (getS r j) (xs.getD j undef)) → (∀ j, j < ys.size → VRel G (getS s j) (ys.getD j undef)) →
    eqF z h r s k ds i b = z ∨ ((∀ j d, ds[j]? = some d → IsK d (xs.getD (i + j) undef) ∧ IsK d (ys.getD (i + j) undef)) ∧ ∃ b', eqF z h r s k ds i b = k b' ∧ (b' = true ↔ b = true ∧ ∀ j, j < ds.length → xs.getD (i + j) undef = ys.getD (i + j) undef)) := by
  intro ds
  induction ds with
  | nil => intro i b _ _ _ _; exact .inr ⟨fun j d h => by simp at h, b, rfl, by simp⟩
  | cons d ds ih =>
    intro i b h1 h2 hx hy
    have e : eqF z h r s k (d :: ds) i b = eqP z d h (getS r i) (getS s i) fun b' => eqF z h r s k ds (i + 1) (Bool.rec false b' b) := rfl
    rw [e]
    simp only [List.length_cons] at h1 h2
    rcases eqP_cases (z := z) (d := d) (k := fun b' => eqF z h r s k ds (i + 1) (Bool.rec false b' b)) R (hx i (by omega)) (hy i (by omega)) with e1 | ⟨k1, k2, b1, e1, q1⟩
    · exact .inl e1
    · rw [e1]
      rcases ih (i + 1) (Bool.rec false b1 b) (by omega) (by omega) hx hy with e2 | ⟨k3, b2, e2, q2⟩
      · exact .inl e2
      · refine .inr ⟨fun j d' hj => ?_, b2, e2, ?_⟩
        · cases j with
          | zero =>
            have : d' = d := by simpa using hj.symm
            subst this
            exact ⟨k1, k2⟩
          | succ j =>
            have := k3 j d' (by simpa using hj)
            rw [show i + (j + 1) = i + 1 + j from by omega]
            exact this
        · rw [q2]
          have hb : ((Bool.rec false b1 b : Bool) = true) ↔ (b = true ∧ b1 = true) := by cases b <;> simp
          rw [hb, q1]
          constructor
          · rintro ⟨⟨a1, a2⟩, a3⟩
            refine ⟨a1, fun j hj => ?_⟩
            cases j with
            | zero => exact a2
            | succ j =>
              have := a3 j (by simpa using hj)
              rw [show i + (j + 1) = i + 1 + j from by omega]
              exact this
          · rintro ⟨a1, a2⟩
            refine ⟨⟨a1, a2 0 (by simp)⟩, fun j hj => ?_⟩
            have := a2 (j + 1) (by simpa using hj)
            rw [show i + (j + 1) = i + 1 + j from by omega] at this
            exact this
noncomputable def eqK {α : Type} (z : α) (kd : KD) (h : Tr) (c c' : Nat) (k : Bool → α) : α :=
  KD.rec (fun d => eqP z d h c c' k) (fun ds => Bool.rec z (Bool.rec z (rdI z (h.get (adN c)) fun n r => rdI z (h.get (adN c')) fun m s => Bool.rec z (Bool.rec z (eqF z h r s k ds 0 true) (Nat.beq m ds.length)) (Nat.beq n ds.length)) (isT 12 c')) (isT 12 c)) kd
theorem eqK_cases {α : Type} {z : α} {kd : KD} {c c' : Nat} {x y : Value} {k : Bool → α} (R : Rel P pb pn G h nx w) (hx : VRel G c x) (hy : VRel G c' y) :
    eqK z kd h c c' k = z ∨ (isK kd x ∧ isK kd y ∧ ∃ b, eqK z kd h c c' k = k b ∧ (b = true ↔ x = y)) := by
  cases kd with
  | pl d => exact eqP_cases R hx hy
  | fl ds =>
    unfold eqK
    cases h1 : isT 12 c with
    | false => exact .inl rfl
    | true =>
      cases h2 : isT 12 c' with
      | false => exact .inl rfl
      | true =>
        obtain ⟨n1, xs, rfl, rfl, hG, hn⟩ := hx.inv_agg (isT_ok h1)
        obtain ⟨n2, ys, rfl, rfl, hG2, hn2⟩ := hy.inv_agg (isT_ok h2)
        simp only [adN_A hn, adN_A hn2]
        cases ho : h.get n1 with
        | imm n r =>
          cases ho2 : h.get n2 with
          | imm m s =>
            show (Bool.rec z (Bool.rec z (eqF z h r s k ds 0 true) (Nat.beq m ds.length)) (Nat.beq n ds.length) : α) = z ∨ _ ∧ _ ∧ ∃ b, (Bool.rec z (Bool.rec z (eqF z h r s k ds 0 true) (Nat.beq m ds.length)) (Nat.beq n ds.length) : α) = _ ∧ _
            cases hb1 : Nat.beq n ds.length with
            | false => exact .inl rfl
            | true =>
              cases hb2 : Nat.beq m ds.length with
              | false => exact .inl rfl
              | true =>
                have hb1 := Nat.eq_of_beq_eq_true hb1
                have hb2 := Nat.eq_of_beq_eq_true hb2
                obtain ⟨g1, g2, g3⟩ := R.immO hG ho
                obtain ⟨g1', g2', g3'⟩ := R.immO hG2 ho2
                rcases eqF_cases (z := z) (k := k) (r := r) (s := s) (xs := xs) (ys := ys) R ds 0 true (by omega) (by omega) (fun j hj => (g3 j (by omega)).1) (fun j hj => (g3' j (by omega)).1) with e | ⟨a1, b, e, a2⟩
                · exact .inl e
                · refine .inr ⟨⟨xs, rfl, by omega, fun i d hd => ?_⟩, ⟨ys, rfl, by omega, fun i d hd => ?_⟩, b, e, ?_⟩
                  · have := (a1 i d hd).1; rwa [Nat.zero_add] at this
                  · have := (a1 i d hd).2; rwa [Nat.zero_add] at this
                  · rw [a2, ← agg_ext (by omega), g1, hb1]
                    simp
          | _ => exact .inl rfl
        | _ => exact .inl rfl
noncomputable def findE {α : Type} (z : α) (kd : KD) (h : Tr) (kc c : Nat) (k : Nat → α) (m : Nat) : Nat → α :=
  Nat.rec (fun _ => k 0) (fun _ ih i => eqK z kd h kc (getS c (Nat.mul 3 i)) fun b => Bool.rec (ih (Nat.add i 1)) (k (Nat.add i 1)) b) m
theorem findE_cases {α : Type} {z : α} {kd : KD} {kc c : Nat} {x : Value} {k : Nat → α} (R : Rel P pb pn G h nx w) (hx : VRel G kc x) : ∀ (es : List MapEntry) (i : Nat), (∀ j e, es[j]? = some e → VRel G (getS c (3 * (i + j))) e.key) →
    findE z kd h kc c k es.length i = z ∨ (NoK kd x es ∧ findE z kd h kc c k es.length i = k 0) ∨ ∃ l e r, es = l ++ e :: r ∧ NoK kd x l ∧ e.key = x ∧ findE z kd h kc c k es.length i = k (i + l.length + 1) := by
  intro es
  induction es with
  | nil => intro i _; exact .inr (.inl ⟨fun e he => by simp at he, rfl⟩)
  | cons e es ih =>
    intro i h1
    have eq1 : findE z kd h kc c k (e :: es).length i = eqK z kd h kc (getS c (3 * i)) fun b => Bool.rec (findE z kd h kc c k es.length (i + 1)) (k (i + 1)) b := rfl
    rw [eq1]
    have h10 := h1 0 e rfl
    rw [Nat.add_zero] at h10
    rcases eqK_cases (z := z) (kd := kd) (k := fun b => Bool.rec (findE z kd h kc c k es.length (i + 1)) (k (i + 1)) b) R hx h10 with e1 | ⟨k1, k2, b, e1, q⟩
    · exact .inl e1
    · rw [e1]
      cases b with
      | true => exact .inr (.inr ⟨[], e, es, rfl, fun e he => by simp at he, (q.1 rfl).symm, rfl⟩)
      | false =>
        have hne : e.key ≠ x := fun h => by have := q.2 h.symm; cases this
        rcases ih (i + 1) (fun j e' hj => by
          have := h1 (j + 1) e' (by simpa using hj)
          rw [show i + (j + 1) = i + 1 + j from by omega] at this
          exact this) with e2 | ⟨a1, e2⟩ | ⟨l, e', r, a1, a2, a3, e2⟩
        · exact .inl e2
        · refine .inr (.inl ⟨fun y hy => ?_, e2⟩)
          rcases List.mem_cons.1 hy with rfl | hy
          · exact ⟨k2, hne⟩
          · exact a1 y hy
        · refine .inr (.inr ⟨e :: l, e', r, by rw [a1]; rfl, fun y hy => ?_, a3, ?_⟩)
          · rcases List.mem_cons.1 hy with rfl | hy
            · exact ⟨k2, hne⟩
            · exact a2 y hy
          · show findE z kd h kc c k es.length (i + 1) = _
            rw [e2]
            congr 1
            simp only [List.length_cons]
            omega
noncomputable def fK {α : Type} (z : α) (kd : KD) (h : Tr) (kc c n : Nat) (k : Nat → α) : α := eqK z kd h kc kc fun _ => findE z kd h kc c k n 0
theorem fK_cases {α : Type} {z : α} {kd : KD} {kc c n : Nat} {x : Value} {k : Nat → α} {es : Array MapEntry} (R : Rel P pb pn G h nx w) (hx : VRel G kc x) (hn : es.size = n) (he : ∀ i e, es[i]? = some e → VRel G (getS c (3 * i)) e.key) :
    fK z kd h kc c n k = z ∨ isK kd x ∧ ((NoK kd x es.toList ∧ fK z kd h kc c n k = k 0) ∨ ∃ l e r, es.toList = l ++ e :: r ∧ NoK kd x l ∧ e.key = x ∧ fK z kd h kc c n k = k (l.length + 1)) := by
  unfold fK
  rcases eqK_cases (z := z) (kd := kd) (k := fun _ => findE z kd h kc c k n 0) R hx hx with e1 | ⟨k1, _, b, e1, _⟩
  · exact .inl e1
  · rw [e1]
    have hl : es.toList.length = n := by simpa using hn
    rw [← hl]
    rcases findE_cases (z := z) (kd := kd) (k := k) R hx es.toList 0 (fun j e hj => by rw [Nat.zero_add]; exact he j e (by simpa using hj)) with e2 | ⟨a1, e2⟩ | ⟨l, e', r, a1, a2, a3, e2⟩
    · exact .inl e2
    · exact .inr ⟨k1, .inl ⟨a1, e2⟩⟩
    · exact .inr ⟨k1, .inr ⟨l, e', r, a1, a2, a3, by rw [e2, Nat.zero_add]⟩⟩
/-! ### look-up -/
theorem ROk.rdM {S : Sem Next} {k : Nat → Nat → Nat → Res} (R : Rel P pb pn G h nx w) {b s tot sz : Nat} (hG : G nm = some (.blk b s tot sz))
    (H : ∀ clock n c es, w.heap[b]? = some (.map es clock) → es.size = n → (∀ i e, es[i]? = some e → VRel G (getS c (3 * i)) e.key ∧ VRel G (getS c (3 * i + 1)) e.val ∧ getS c (3 * i + 2) = e.born) → ROk P G w S (k clock n c)) : ROk P G w S (rdM Res.no (h.get nm) k) := by
  cases ho : h.get nm with
  | map ro clock n c =>
    have hO := R.obj nm (by rw [hG]; simp)
    rw [ho] at hO
    obtain ⟨b', s', tot', sz', es, h1, h2, h3, h4⟩ := hO
    rw [hG] at h1
    injection h1 with h1
    injection h1 with e1 e2 e3 e4
    subst e1 e2 e3 e4
    exact H clock n c es h2 h3 h4
  | _ => trivial
noncomputable def lkR (ok : Bool) (c : Nat) (b : Bool) : Res := Bool.rec (.val c) (.imm 13 (.tup 2 (catR 1 c (cB b)))) ok
theorem lkR_ok {S : Sem Next} {ok b : Bool} {c : Nat} {v : Value} (hv : VRel G c v) (hS : S.run P w = .ok (.value (if ok then .tuple #[v, .bool b] else v)) w) : ROk P G w S (lkR ok c b) := by
  cases ok with
  | false => exact ⟨v, hS, hv⟩
  | true =>
    refine ⟨_, hS, rfl, fun G' nm hg hG hn => ⟨.tup nm _ hG hn, fun w' => ⟨#[v, .bool b], hG, rfl, fun i hi => ?_⟩⟩⟩
    have hc : c < 2 ^ (96 * 1) := by simpa using hv.lt
    have hb : VRel G' (cB b) (.bool b) := .bool b
    have h2 : i = 0 ∨ i = 1 := by omega
    rcases h2 with rfl | rfl
    · rw [getS_cat hc, if_pos (by omega), getS_0' (by simpa using hv.lt)]
      exact hv.mono hg
    · rw [getS_cat hc, if_neg (by omega), getS_0' hb.lt]
      exact hb
noncomputable def lkV (kd : KD) (zc : Nat) (ok : Bool) (x y : Nat → Nat) : V := fun e h => Bool.rec (rif (isT 9 (x e)) (rdM Res.no (h.get (adN (x e))) fun _ n c => fK Res.no kd h (y e) c n fun i => Nat.rec (lkR ok zc false) (fun j _ => lkR ok (getS c (Nat.add (Nat.mul 3 j) 1)) true) i))
  (eqK Res.no kd h (y e) (y e) fun _ => lkR ok zc false) (Nat.beq (x e) 8)
/-- two that are alike: what nobody has written yet -/
noncomputable def sameZ : Value → Value → Bool
  | .bool a, .bool b => a == b
  | .int k a, .int k' b => Nat.beq (kx k) (kx k') && decide (a = b)
  | .string a, .string b => Nat.beq a.data.size 0 && Nat.beq b.data.size 0
  | .pointer none, .pointer none => true
  | .slice none 0 0, .slice none 0 0 => true
  | .map none, .map none => true
  | .nilFunc, .nilFunc => true
  | .nilIface, .nilIface => true
  | _, _ => false
theorem sameZ_ok {a b : Value} (h : sameZ a b = true) : a = b := by
  unfold sameZ at h
  split at h
  · rw [beq_iff_eq.1 h]
  · simp only [Bool.and_eq_true, decide_eq_true_eq] at h
    rw [kx_inj (Nat.eq_of_beq_eq_true h.1), h.2]
  · rename_i a b
    simp only [Bool.and_eq_true] at h
    have ha : a.data = #[] := Array.eq_empty_of_size_eq_zero (Nat.eq_of_beq_eq_true h.1)
    have hb : b.data = #[] := Array.eq_empty_of_size_eq_zero (Nat.eq_of_beq_eq_true h.2)
    cases a; cases b
    simp at ha hb
    rw [ha, hb]
  all_goals first | rfl | cases h
noncomputable def sameL : List Value → List Value → Bool
  | [], [] => true
  | a :: l, b :: r => sameZ a b && sameL l r
  | _, _ => false
theorem sameL_ok : ∀ {l r : List Value}, sameL l r = true → l = r := by
  intro l
  induction l with
  | nil =>
    intro r h
    cases r with
    | nil => rfl
    | cons b r => cases h
  | cons a l ih =>
    intro r h
    cases r with
    | nil => cases h
    | cons b r =>
      have h : (sameZ a b && sameL l r) = true := h
      simp only [Bool.and_eq_true] at h
      rw [sameZ_ok h.1, ih h.2]
noncomputable def ixA (cs : List Value) : List Value → Nat → Nat
  | [], _ => 0
  | .agg r :: l, i => cond (sameL cs r.toList) (cA i) (ixA cs l (i + 1))
  | _ :: l, i => ixA cs l (i + 1)
theorem ixA_ok {cs : Array Value} {G : Gh} : ∀ (l : List Value) (i : Nat), (∀ j v, l[j]? = some v → G (i + j) = some (.val v)) → i + l.length < 16777216 → VRel G (ixA cs.toList l i) (.agg cs) := by
  intro l
  induction l with
  | nil => intro i _ _; exact .unk _
  | cons v l ih =>
    intro i h hb
    have next : VRel G (ixA cs.toList l (i + 1)) (.agg cs) := ih (i + 1) (fun j v hj => by have := h (j + 1) v (by simpa using hj); rw [show i + 1 + j = i + (j + 1) from by omega]; exact this) (by simp at hb; omega)
    cases v with
    | agg r =>
      show VRel G (cond (sameL cs.toList r.toList) (cA i) (ixA cs.toList l (i + 1))) _
      cases hc : sameL cs.toList r.toList
      · exact next
      · have e : cs = r := by
          have := sameL_ok hc
          exact Array.toList_inj.1 this
        subst e
        exact .agg i _ (by simpa using h 0 _ rfl) (by simp at hb; omega)
    | _ => exact next
noncomputable def zcA (pl : List Value) : Value → Nat
  | .agg cs => ixA cs.toList pl 0
  | _ => 0
theorem zcA_rel {G : Gh} (hp : Pool pl G) (v : Value) : VRel G (zcA pl v) v := by
  cases v with
  | agg cs => exact ixA_ok pl 0 (fun j v h => by rw [Nat.zero_add]; exact hp.2 j v h) (by have := hp.1; omega)
  | _ => exact .unk _
/-- the code of what nobody has written yet, structs by the pool -/
noncomputable def zcP (pl : List Value) (v : Value) : Nat := Bool.rec (zcode v) (zcA pl v) (Nat.beq (zcode v) 0)
theorem zcP_rel {G : Gh} (hp : Pool pl G) (v : Value) : VRel G (zcP pl v) v := by
  unfold zcP
  cases h : Nat.beq (zcode v) 0 with
  | true => exact zcA_rel hp v
  | false => exact (zcode_ok (fun e => by rw [e] at h; cases h)).1 G
theorem zc_rel (v : Value) (G : Gh) : VRel G (zcode v) v := by
  by_cases h : zcode v = 0
  · rw [h]; exact .unk _
  · exact (zcode_ok h).1 G
theorem lk_ok {kt el : TypeId} {kd : KD} {zv : Value} {ok : Bool} (ht : P.underlying t = some (.map kt el)) (hk : KeyT P kt kd) (hz : zeroOf P el = some zv) :
    VS P N pl ⟨dst, .lookup t x y ok, ty, ps, af, gd⟩ (lkV kd (zcP pl zv) ok (cO pl x) (cO pl y)) := by
  intro pb pn G h nx w e a R EE
  have rx := EE.val x (by simp [Op.operands])
  have ry := EE.val y (by simp [Op.operands])
  show ROk P G w _ (Bool.rec _ _ (Nat.beq (cO pl x e) 8))
  cases h8 : Nat.beq (cO pl x e) 8 with
  | true =>
    have h8 := Nat.eq_of_beq_eq_true h8
    rw [h8] at rx
    obtain ⟨hx, _⟩ := rx.inv_nilm rfl
    show ROk P G w _ (eqK Res.no kd h (cO pl y e) (cO pl y e) fun _ => lkR ok (zcP pl zv) false)
    rcases eqK_cases (z := Res.no) (kd := kd) (k := fun _ => lkR ok (zcP pl zv) false) R ry ry with e1 | ⟨k1, _, b, e1, _⟩
    · rw [e1]; trivial
    · rw [e1]
      refine lkR_ok (zcP_rel EE.pool zv) ?_
      have c1 := key_check (w := w) hk k1 true
      have c2 := find_none (w := w) hk k1 (l := []) (fun e he => by simp at he)
      simp [execOp, hx, Instr.lookup, run_underlying ht, c1, c2, zeroOf_run hz]
  | false =>
    refine ROk.rif fun h9 => ?_
    obtain ⟨nm, b, s, tot, sz, hx, hc, hG, hn⟩ := rx.inv_map (isT_ok h9)
    rw [hc, adN_M hn]
    refine ROk.rdM R hG fun clock n c es hb hs he => ?_
    have hget := MapKept.run_getObj_map (P := P) hb
    rcases fK_cases (z := Res.no) (kd := kd) (k := fun i => Nat.rec (lkR ok (zcP pl zv) false) (fun j _ => lkR ok (getS c (Nat.add (Nat.mul 3 j) 1)) true) i) R ry hs (fun i e hi => (he i e hi).1) with e1 | ⟨k1, ⟨n1, e1⟩ | ⟨l, e0, r, q1, q2, q3, e1⟩⟩
    · rw [e1]; trivial
    · rw [e1]
      refine lkR_ok (zcP_rel EE.pool zv) ?_
      have c1 := key_check (w := w) hk k1 es.isEmpty
      have c2 := find_none (w := w) hk k1 n1
      simp [execOp, hx, Instr.lookup, run_underlying ht, hget, c1, c2, zeroOf_run hz]
    · rw [e1]
      have hi : es[l.length]? = some e0 := by
        rw [← Array.getElem?_toList, q1]
        simp
      refine lkR_ok (he _ _ hi).2.1 ?_
      have c1 := key_check (w := w) hk k1 es.isEmpty
      have c2 := find_some (w := w) hk k1 (r := r) q2 q3
      simp [execOp, hx, Instr.lookup, run_underlying ht, hget, c1, q1, c2]
/-! ### update, delete -/
theorem Tall.wrM {o : Obj} {k : Nat → Nat → Nat → T} (H : Tall φ (wrM T.fail o k)) : ∃ clock n c, o = .map false clock n c ∧ Tall φ (k clock n c) := by
  cases o with
  | map ro clock n c =>
    cases ro with
    | false => exact ⟨_, _, _, rfl, H⟩
    | true => exact H.elim
  | _ => exact H.elim
theorem Rel.mapO (R : Rel P pb pn G h nx w) {b s tot sz clock n c : Nat} {ro : Bool} (hG : G nm = some (.blk b s tot sz)) (ho : h.get nm = .map ro clock n c) :
    ∃ es, w.heap[b]? = some (.map es clock) ∧ es.size = n ∧ ∀ i e, es[i]? = some e → VRel G (getS c (3 * i)) e.key ∧ VRel G (getS c (3 * i + 1)) e.val ∧ getS c (3 * i + 2) = e.born := by
  have hO := R.obj nm (by rw [hG]; simp)
  rw [ho] at hO
  obtain ⟨b', s', tot', sz', es, h1, h2, h3, h4⟩ := hO
  rw [hG] at h1
  injection h1 with h1
  injection h1 with e1 e2 e3 e4
  subst e1 e2 e3 e4
  exact ⟨es, h2, h3, h4⟩
theorem Rel.mapSet (R : Rel P pb pn G h nx w) {b s tot sz clock n c clock' n' c' : Nat} (hG : G nm = some (.blk b s tot sz)) (ho : h.get nm = .map false clock n c) {es' : Array MapEntry} (hs : es'.size = n')
    (he : ∀ i e, es'[i]? = some e → VRel G (getS c' (3 * i)) e.key ∧ VRel G (getS c' (3 * i + 1)) e.val ∧ getS c' (3 * i + 2) = e.born) :
    Rel P pb pn G (h.set nm (.map false clock' n' c')) nx { w with heap := w.heap.setIfInBounds b (.map es' clock') } := by
  have hb := R.bd _ _ _ _ _ hG
  refine R.upd hG (by rw [ho]; rfl) rfl (fun x hx => by simp [Ne.symm hx]) (by simp) ⟨b, s, tot, sz, es', hG, by simp [hb], hs, he⟩
noncomputable def muA (kd : KD) (x y z : Nat → Nat) : A := fun e h nx k => chk (isT 9 (x e)) (wrM T.fail (h.get (adN (x e))) fun clock n c => chk (Nat.blt clock 1000000) (fK T.fail kd h (y e) c n fun i =>
  Nat.rec (k (h.set (adN (x e)) (.map false (Nat.add clock 1) (Nat.add n 1) (setS (setS (setS c (Nat.mul 3 n) (y e)) (Nat.add (Nat.mul 3 n) 1) (z e)) (Nat.add (Nat.mul 3 n) 2) clock))) nx)
    (fun j _ => k (h.set (adN (x e)) (.map false clock n (setS (setS c (Nat.mul 3 j) (y e)) (Nat.add (Nat.mul 3 j) 1) (z e)))) nx) i))
theorem mu_run {kt el : TypeId} {kd : KD} (ht : P.underlying t = some (.map kt el)) (hk : KeyT P kt kd) (R : Rel P pb pn G h nx w) {cx cy cz : Nat} {vx vy vz : Value} (rx : VRel G cx vx) (ry : VRel G cy vy) (rz : VRel G cz vz) {k : Tr → Nat → T}
    (H : Tall φ (muA kd (fun _ => cx) (fun _ => cy) (fun _ => cz) 0 h nx k)) : ∃ w' h' nx', (Instr.mapUpdate t vx vy vz).run P w = .ok () w' ∧ Rel P pb pn G h' nx' w' ∧ Tall φ (k h' nx') := by
  obtain ⟨h9, H⟩ := Tall.chk H
  obtain ⟨nm, b, s, tot, sz, rfl, hc, hG, hn⟩ := rx.inv_map (isT_ok h9)
  simp only [hc, adN_M hn] at H
  obtain ⟨clock, n, c, ho, H⟩ := Tall.wrM H
  obtain ⟨hck, H⟩ := Tall.chk H
  have hck : clock < 1000000 := blt_ok hck
  obtain ⟨es, hb, hs, he⟩ := R.mapO hG ho
  have hget := MapKept.run_getObj_map (P := P) hb
  have lt3 : ∀ i d, getS (setS (setS (setS c (3 * n) cy) (3 * n + 1) cz) (3 * n + 2) clock) i = if 3 * n + 2 = i then clock else if 3 * n + 1 = i then cz else if 3 * n = i then cy else getS c i := fun i d => by
    rw [getS_set (by omega), getS_set rz.lt, getS_set ry.lt]
  rcases fK_cases (z := T.fail) (kd := kd) (k := fun i =>
      Nat.rec (k (h.set nm (.map false (Nat.add clock 1) (Nat.add n 1) (setS (setS (setS c (Nat.mul 3 n) cy) (Nat.add (Nat.mul 3 n) 1) cz) (Nat.add (Nat.mul 3 n) 2) clock))) nx)
        (fun j _ => k (h.set nm (.map false clock n (setS (setS c (Nat.mul 3 j) cy) (Nat.add (Nat.mul 3 j) 1) cz))) nx) i) R ry hs (fun i e hi => (he i e hi).1) with e1 | ⟨k1, ⟨n1, e1⟩ | ⟨l, e0, r, q1, q2, q3, e1⟩⟩
  · rw [e1] at H; exact H.elim
  · rw [e1] at H
    have c1 := key_check (w := w) hk k1 false
    have c2 := find_none (w := w) hk k1 n1
    have hset := MapKept.run_setObj_map (P := P) (.map (es.push { key := vy, val := vz, born := clock }) (clock + 1)) hb
    refine ⟨_, _, nx, by simp [Instr.mapUpdate, run_underlying ht, hget, c1, c2, hset], R.mapSet (es' := es.push { key := vy, val := vz, born := clock }) hG ho (by simp [hs]) (fun i e hi => ?_), H⟩
    show VRel G (getS (setS (setS (setS c (3 * n) cy) (3 * n + 1) cz) (3 * n + 2) clock) (3 * i)) e.key ∧ VRel G (getS (setS (setS (setS c (3 * n) cy) (3 * n + 1) cz) (3 * n + 2) clock) (3 * i + 1)) e.val ∧ getS (setS (setS (setS c (3 * n) cy) (3 * n + 1) cz) (3 * n + 2) clock) (3 * i + 2) = e.born
    have hck2 : clock < 2 ^ 96 := by omega
    rw [lt3 _ hck2, lt3 _ hck2, lt3 _ hck2]
    rw [Array.getElem?_push] at hi
    by_cases hq : i = es.size
    · rw [if_pos hq] at hi
      injection hi with hi
      subst hi
      rw [if_neg (by omega), if_neg (by omega), if_pos (by omega), if_neg (by omega), if_pos (by omega), if_pos (by omega)]
      exact ⟨ry, rz, rfl⟩
    · rw [if_neg hq] at hi
      have hlt : i < es.size := by
        rcases Nat.lt_or_ge i es.size with q | q
        · exact q
        · rw [Array.getElem?_eq_none q] at hi; cases hi
      rw [if_neg (by omega), if_neg (by omega), if_neg (by omega), if_neg (by omega), if_neg (by omega), if_neg (by omega), if_neg (by omega), if_neg (by omega), if_neg (by omega)]
      exact he i e hi
  · rw [e1] at H
    have hi0 : es[l.length]? = some e0 := by
      rw [← Array.getElem?_toList, q1]
      simp
    have c1 := key_check (w := w) hk k1 false
    have c2 := find_some (w := w) hk k1 (r := r) q2 q3
    have c3 : (Instr.keyThatStays e0.key vy).run P w = .ok vy w := by rw [q3]; simp [Instr.keyThatStays, key_same k1]
    have hset := MapKept.run_setObj_map (P := P) (.map (es.modify l.length fun e => { e with key := vy, val := vz }) clock) hb
    have lt2 : ∀ i, getS (setS (setS c (3 * l.length) cy) (3 * l.length + 1) cz) i = if 3 * l.length + 1 = i then cz else if 3 * l.length = i then cy else getS c i := fun i => by
      rw [getS_set rz.lt, getS_set ry.lt]
    refine ⟨_, _, nx, by simp [Instr.mapUpdate, run_underlying ht, hget, c1, q1, c2, hi0, c3, hset], R.mapSet (es' := es.modify l.length fun e => { e with key := vy, val := vz }) hG ho (by simp [hs]) (fun i e hi => ?_), H⟩
    show VRel G (getS (setS (setS c (3 * l.length) cy) (3 * l.length + 1) cz) (3 * i)) e.key ∧ VRel G (getS (setS (setS c (3 * l.length) cy) (3 * l.length + 1) cz) (3 * i + 1)) e.val ∧ getS (setS (setS c (3 * l.length) cy) (3 * l.length + 1) cz) (3 * i + 2) = e.born
    rw [lt2, lt2, lt2]
    rw [Array.getElem?_modify] at hi
    by_cases hq : l.length = i
    · rw [if_pos hq, ← hq, hi0] at hi
      simp only [Option.map_some, Option.some.injEq] at hi
      subst hi
      have := (he _ _ hi0).2.2
      rw [if_neg (by omega), if_pos (by omega), if_pos (by omega), if_neg (by omega), if_neg (by omega), ← hq]
      exact ⟨ry, rz, this⟩
    · rw [if_neg hq] at hi
      rw [if_neg (by omega), if_neg (by omega), if_neg (by omega), if_neg (by omega), if_neg (by omega), if_neg (by omega)]
      exact he i e hi
theorem mu_ok {kt el : TypeId} {kd : KD} (ht : P.underlying t = some (.map kt el)) (hk : KeyT P kt kd) : AS P N pl ⟨dst, .mapUpdate t x y z, ty, ps, af, gd⟩ (muA kd (cO pl x) (cO pl y) (cO pl z)) := by
  intro φ pb pn G h nx w e a k R EE H
  obtain ⟨w', h', nx', h1, R', H⟩ := mu_run ht hk R (EE.val x (by simp [Op.operands])) (EE.val y (by simp [Op.operands])) (EE.val z (by simp [Op.operands])) (k := k) H
  exact ⟨w', G, h', nx', by simp [execOp, h1], Gle.rfl, R', H⟩
theorem ins_ok {kt el : TypeId} {kd : KD} (ht : P.underlying t = some (.map kt el)) (hk : KeyT P kt kd) : AS P N pl ⟨dst, .insert t x y z, ty, ps, af, gd⟩ (muA kd (cO pl x) (cO pl y) (cO pl z)) := by
  intro φ pb pn G h nx w e a k R EE H
  obtain ⟨w', h', nx', h1, R', H⟩ := mu_run ht hk R (EE.val x (by simp [Op.operands])) (EE.val y (by simp [Op.operands])) (EE.val z (by simp [Op.operands])) (k := k) H
  exact ⟨w', G, h', nx', by simp [execOp, h1], Gle.rfl, R', H⟩
noncomputable def dlX (kd : KD) (x y : Nat → Nat) : CV := fun _ e h nx kv => chk (isT 9 (x e)) (wrM T.fail (h.get (adN (x e))) fun clock n c => fK T.fail kd h (y e) c n fun i =>
  Nat.rec (kv 0 h nx) (fun j _ => kv 0 (h.set (adN (x e)) (.map false clock (Nat.sub n 1) (catR (Nat.mul 3 j) (sub c 0 (Nat.mul 3 j)) (sub c (Nat.add (Nat.mul 3 j) 3) (Nat.mul 3 (Nat.sub (Nat.sub n 1) j)))))) nx) i)
theorem dl_ok {kt el : TypeId} {kd : KD} (ht : P.underlying t = some (.map kt el)) (hk : KeyT P kt kd) :
    XS P N pl ⟨dst, .call { callee := .builtin .delete, args := #[x, y], argTypes := #[t, u] }, ty, ps, af, gd⟩ (dlX kd (cO pl x) (cO pl y)) := by
  refine xs_run fun cl φ pb pn G h nx w e a kv R EE H => ?_
  have rx := EE.val x (by simp [Op.operands, Call.operands])
  have ry := EE.val y (by simp [Op.operands, Call.operands])
  obtain ⟨h9, H⟩ := Tall.chk H
  obtain ⟨nm, b, s, tot, sz, hx, hc, hG, hn⟩ := rx.inv_map (isT_ok h9)
  simp only [hc, adN_M hn] at H
  obtain ⟨clock, n, c, ho, H⟩ := Tall.wrM H
  obtain ⟨es, hb, hs, he⟩ := R.mapO hG ho
  have hget := MapKept.run_getObj_map (P := P) hb
  rcases fK_cases (z := T.fail) (kd := kd) (k := fun i =>
      Nat.rec (kv 0 h nx) (fun j _ => kv 0 (h.set nm (.map false clock (Nat.sub n 1) (catR (Nat.mul 3 j) (sub c 0 (Nat.mul 3 j)) (sub c (Nat.add (Nat.mul 3 j) 3) (Nat.mul 3 (Nat.sub (Nat.sub n 1) j)))))) nx) i) R ry hs (fun i e hi => (he i e hi).1) with e1 | ⟨k1, ⟨n1, e1⟩ | ⟨l, e0, r, q1, q2, q3, e1⟩⟩
  · rw [e1] at H; exact H.elim
  · rw [e1] at H
    have c1 := key_check (w := w) hk k1 es.isEmpty
    have c2 := find_none (w := w) hk k1 n1
    have hset := MapKept.run_setObj_map (P := P) (.map es clock) hb
    refine ⟨.tuple #[], { w with heap := w.heap.setIfInBounds b (.map es clock) }, G, h, nx, 0, by simp [execOp, resolve, invoke, builtin, hx, Builtin.delete_, run_underlying ht, hget, c1, c2, hset], Gle.rfl, R.world ?_, .unk _, H⟩
    apply Array.ext_getElem?
    intro i
    rw [Array.getElem?_setIfInBounds]
    by_cases hq : b = i
    · subst hq
      rw [if_pos rfl, hb, if_pos (Array.getElem?_eq_some_iff.1 hb).1]
    · rw [if_neg hq]
  · rw [e1] at H
    have hi0 : es[l.length]? = some e0 := by
      rw [← Array.getElem?_toList, q1]
      simp
    have hlt : l.length < es.size := (Array.getElem?_eq_some_iff.1 hi0).1
    have c1 := key_check (w := w) hk k1 es.isEmpty
    have c2 := find_some (w := w) hk k1 (r := r) q2 q3
    have hset := MapKept.run_setObj_map (P := P) (.map (es.eraseIdxIfInBounds l.length) clock) hb
    have hsz : (es.eraseIdxIfInBounds l.length).size = n - 1 := by unfold Array.eraseIdxIfInBounds; rw [dif_pos hlt, Array.size_eraseIdx, hs]
    refine ⟨.tuple #[], _, G, _, nx, 0, by simp [execOp, resolve, invoke, builtin, hx, Builtin.delete_, run_underlying ht, hget, c1, q1, c2, hset], Gle.rfl, R.mapSet (es' := es.eraseIdxIfInBounds l.length) hG ho hsz (fun i e hi => ?_), .unk _, H⟩
    have hi' : i < n - 1 := by
      rw [← hsz]
      exact (Array.getElem?_eq_some_iff.1 hi).1
    have hg : ∀ j, j < 3 * (n - 1) → getS (catR (3 * l.length) (sub c 0 (3 * l.length)) (sub c (3 * l.length + 3) (3 * (n - 1 - l.length)))) j = getS c (if j < 3 * l.length then j else j + 3) := fun j hj => by
      rw [getS_cat (sub_lt _ _ _)]
      by_cases hq : j < 3 * l.length
      · rw [if_pos hq, if_pos hq, getS_sub, if_pos hq, Nat.zero_add]
      · rw [if_neg hq, if_neg hq, getS_sub, if_pos (by omega)]
        congr 1
        omega
    have hg1 := hg (3 * i) (by omega)
    have hg2 := hg (3 * i + 1) (by omega)
    have hg3 := hg (3 * i + 2) (by omega)
    show VRel G (getS (catR (3 * l.length) (sub c 0 (3 * l.length)) (sub c (3 * l.length + 3) (3 * (n - 1 - l.length)))) (3 * i)) e.key ∧ VRel G (getS (catR (3 * l.length) (sub c 0 (3 * l.length)) (sub c (3 * l.length + 3) (3 * (n - 1 - l.length)))) (3 * i + 1)) e.val ∧ getS (catR (3 * l.length) (sub c 0 (3 * l.length)) (sub c (3 * l.length + 3) (3 * (n - 1 - l.length)))) (3 * i + 2) = e.born
    rw [hg1, hg2, hg3]
    have hi2 : es[if i < l.length then i else i + 1]? = some e := by
      rw [← hi]
      simp only [Array.eraseIdxIfInBounds, hlt, dif_pos]
      rw [Array.getElem?_eraseIdx]
      by_cases hq : i < l.length
      · rw [if_pos hq, if_pos hq]
      · rw [if_neg hq, if_neg hq]
    by_cases hq : i < l.length
    · rw [if_pos hq] at hi2
      rw [if_pos (by omega), if_pos (by omega), if_pos (by omega)]
      exact he i e hi2
    · rw [if_neg hq] at hi2
      rw [if_neg (by omega), if_neg (by omega), if_neg (by omega)]
      exact he (i + 1) e hi2
end Go.Ev
end
section
/- Iterating over texts and maps by codes. -/
set_option linter.all false
namespace Go.Ev
open Go Go.RowKit Go.Hub
variable {P : Program} {N : Nat} {pl : List Value} {dst : Option Nat} {ty : TypeId} {ps : String} {af : Array Edge} {gd : Option (Nat × Bool)} {x y z : Operand} {t u : TypeId}
variable {φ : Nat → Tr → Nat → Prop} {pb : Kb} {pn : Nat → Option Obj} {G G' : Gh} {h h' : Tr} {nx nm : Nat} {w w' : World}

/-! ### a tuple by a new name -/
noncomputable def newT (n r : Nat) (h : Tr) (nx : Nat) (kv : KV) : T := chk (Nat.blt nx 16000000) (kv (cT nx) (h.set nx (.tup n r)) (Nat.add nx 1))
theorem newT_ok {n r : Nat} {vs : Array Value} {kv : KV} (R : Rel P pb pn G h nx w) (hn : vs.size = n) (hv : ∀ i, i < n → VRel G (getS r i) (vs.getD i undef)) (H : Tall φ (newT n r h nx kv)) :
    ∃ G' h' nx' c, Gle G G' ∧ Rel P pb pn G' h' nx' w ∧ VRel G' c (.tuple vs) ∧ Tall φ (kv c h' nx') := by
  obtain ⟨hnx, H⟩ := Tall.chk H
  have hN : G nx = none := R.fresh nx (Nat.le_refl _)
  have hg : Gle G (Gup G nx (.val (.tuple vs))) := Gup.le hN
  exact ⟨_, _, _, _, hg, R.newV (v := .tuple vs) (o := .tup n r) rfl (nxOk hnx) ⟨vs, Gup.at _ _ _, hn, fun i hi => (hv i hi).mono hg⟩, .tup nx vs (Gup.at _ _ _) R.nxb, H⟩
theorem cat3 {a b c : Nat} {x y z : Value} (ha : VRel G a x) (hb : VRel G b y) (hc : VRel G c z) : ∀ i, i < 3 → VRel G (getS (catR 1 a (catR 1 b c)) i) (#[x, y, z].getD i undef) := by
  intro i hi
  have la : a < 2 ^ (96 * 1) := by simpa using ha.lt
  have lb : b < 2 ^ (96 * 1) := by simpa using hb.lt
  have h3 : i = 0 ∨ i = 1 ∨ i = 2 := by omega
  rcases h3 with rfl | rfl | rfl
  · rw [getS_cat la, if_pos (by omega), getS_0' ha.lt]; exact ha
  · rw [getS_cat la, if_neg (by omega), getS_cat lb, if_pos (by omega), getS_0' hb.lt]; exact hb
  · rw [getS_cat la, if_neg (by omega), getS_cat lb, if_neg (by omega), getS_0' hc.lt]; exact hc
theorem one1 {a : Nat} {x : Value} (ha : VRel G a x) : ∀ i, i < 1 → VRel G (getS a i) (#[x].getD i undef) := by
  intro i hi
  have : i = 0 := by omega
  subst this
  rw [getS_0' ha.lt]; exact ha
/-! ### texts -/
noncomputable def rgSV (x : Nat → Nat) : V := fun e _ => Bool.rec (rif (isT 3 (x e)) (.blk 5 (.sit (Nat.add (adN (x e)) 1) 0))) (.blk 5 (.sit 0 0)) (Nat.beq (x e) 16)
theorem rgS_ok (ht : P.underlying t = some .string) : VS P N pl ⟨dst, .range t x, ty, ps, af, gd⟩ (rgSV (cO pl x)) := by
  intro pb pn G h nx w e a R EE
  have rx := EE.val x (by simp [Op.operands])
  have hr : ∀ bs, (Instr.range t (.string bs)).run P w = .ok (.pointer (some ⟨w.heap.size, 0, none⟩)) (w.alloc (.stringIter bs 0)) := fun bs => by
    simp [Instr.range, run_underlying ht]
  have gen : ∀ bs st, a.eval x = .string bs → (∀ G', Gle G G' → if st = 0 then bs = ⟨#[]⟩ else G' (st - 1) = some (.val (.string bs))) → ROk P G w (execOp a.eval ⟨dst, .range t x, ty, ps, af, gd⟩) (.blk 5 (.sit st 0)) := fun bs st hx hst => by
    refine ⟨.pointer (some ⟨w.heap.size, 0, none⟩), .stringIter bs 0, w.alloc (.stringIter bs 0), 0, 0, 0, ?_, ⟨rfl, rfl, rfl⟩, rfl, fun G' nm w' hg hG hn hw => ⟨?_, w.heap.size, 0, 0, bs, hG, hw, hst G' hg⟩⟩
    · simp [execOp, hx, hr]
    · exact .ptr nm 0 w.heap.size 0 0 0 hG hn (by omega)
  show ROk P G w _ (Bool.rec _ _ (Nat.beq (cO pl x e) 16))
  cases h16 : Nat.beq (cO pl x e) 16 with
  | true =>
    have h16 := Nat.eq_of_beq_eq_true h16
    rw [h16] at rx
    have hx := rx.inv_16 rfl
    exact gen _ 0 hx fun G' hg => by rw [if_pos rfl]
  | false =>
    refine ROk.rif fun h3 => ?_
    obtain ⟨nm, bs, hx, hc, hG, hn⟩ := rx.inv_str (isT_ok h3)
    rw [hc, adN_S hn]
    exact gen bs (nm + 1) hx fun G' hg => by rw [if_neg (by omega)]; exact hg _ _ hG
noncomputable def sitR {α : Type} (z : α) (o : Obj) (k : Nat → Nat → α) : α := Obj.rec z (fun _ _ _ _ _ => z) (fun _ _ _ => z) (fun _ _ => z) (fun _ _ => z) (fun _ _ => z) (fun _ _ _ _ _ => z) (fun _ _ _ _ => z) k (fun _ _ _ _ _ => z) o
noncomputable def mitR {α : Type} (z : α) (o : Obj) (k : Nat → Nat → Nat → Nat → Nat → α) : α := Obj.rec z (fun _ _ _ _ _ => z) (fun _ _ _ => z) (fun _ _ => z) (fun _ _ => z) (fun _ _ => z) (fun _ _ _ _ _ => z) (fun _ _ _ _ => z) (fun _ _ => z) k o
theorem Tall.sitR {o : Obj} {k : Nat → Nat → T} (H : Tall φ (sitR T.fail o k)) : ∃ s p, o = .sit s p ∧ Tall φ (k s p) := by
  cases o <;> first | exact H.elim | exact ⟨_, _, rfl, H⟩
theorem Tall.mitR {o : Obj} {k : Nat → Nat → Nat → Nat → Nat → T} (H : Tall φ (mitR T.fail o k)) : ∃ m since n c last, o = .mit m since n c last ∧ Tall φ (k m since n c last) := by
  cases o <;> first | exact H.elim | exact ⟨_, _, _, _, _, rfl, H⟩
def c32 (b : Nat) : Nat := Nat.add (tk .i32) (Nat.mul 256 (Nat.add 2147483648 b))
theorem c32_ok {b : Nat} (h : b < 2147483648) : VRel G (c32 b) (.int .i32 (b : Int)) := by
  have : c32 b = cI .i32 (b : Int) := by
    show tk .i32 + 256 * (2147483648 + b) = cI .i32 b
    unfold cI tk
    simp only [bias]
    omega
  rw [this]
  exact .int .i32 b (by simp only [bias, modu]; omega)
noncomputable def nxS2 (it st p : Nat) (h : Tr) (nx : Nat) (kv : KV) (b : Nat) : T := chk (Nat.blt b 128) (newT 3 (catR 1 33 (catR 1 (nI p) (c32 b))) (h.set it (.sit st (Nat.add p 1))) nx kv)
noncomputable def nxS1 (it st p : Nat) (h : Tr) (nx : Nat) (kv : KV) (n r : Nat) : T := Bool.rec (newT 1 1 h nx kv) (chk (Nat.blt p 1000000) (nxS2 it st p h nx kv (py (getS r p)))) (Nat.blt p n)
noncomputable def nxSX (x : Nat → Nat) : CV := fun _ e h nx kv => chk (isT 5 (x e)) (chk (Nat.beq (adO (x e)) 0) (sitR T.fail (h.get (adN (x e))) fun st p =>
  Nat.rec (newT 1 1 h nx kv) (fun s' _ => rdS T.fail (h.get s') (nxS1 (adN (x e)) st p h nx kv)) st))
theorem nxS_ok : XS P N pl ⟨dst, .next x true, ty, ps, af, gd⟩ (nxSX (cO pl x)) := by
  refine xs_run fun cl φ pb pn G h nx w e a kv R EE H => ?_
  obtain ⟨h5, H⟩ := Tall.chk H
  obtain ⟨h0, H⟩ := Tall.chk H
  obtain ⟨nm, off, b, s, tot, sz, hx, hc, hG, hn, ho⟩ := (EE.val x (by simp [Op.operands])).inv_ptr (isT_ok h5)
  rw [hc, adO_P hn] at h0
  rw [hc, adN_P hn] at H
  have h0 := Nat.eq_of_beq_eq_true h0
  subst h0
  obtain ⟨st, p, hob, H⟩ := Tall.sitR H
  have hO := R.obj nm (by rw [hG]; simp)
  rw [hob] at hO
  obtain ⟨b', tot', sz', bs, g1, g2, g3⟩ := hO
  rw [hG] at g1
  injection g1 with g1
  injection g1 with e1 e2 e3 e4
  subst e1 e2 e3 e4
  have over : ¬ p < bs.size → Tall φ (newT 1 1 h nx kv) → ∃ v' w' G' h' nx' c', (execOp a.eval ⟨dst, .next x true, ty, ps, af, gd⟩).run P w = .ok (.value v') w' ∧ Gle G G' ∧ Rel P pb pn G' h' nx' w' ∧ VRel G' c' v' ∧ Tall φ (kv c' h' nx') := fun hp H => by
    obtain ⟨G', h', nx', c, a1, a2, a3, a4⟩ := newT_ok (vs := #[.bool false]) R rfl (one1 (.bool false)) H
    refine ⟨_, w, G', h', nx', c, ?_, a1, a2, a3, a4⟩
    simp [execOp, hx, Instr.next, getObj, Sem.run, g2, hp]
  cases st with
  | zero =>
    rw [if_pos rfl] at g3
    exact over (by rw [g3]; show ¬ p < 0; omega) H
  | succ s' =>
    rw [if_neg (by omega)] at g3
    have H : Tall φ (rdS T.fail (h.get s') (nxS1 nm (s' + 1) p h nx kv)) := H
    have g3 : G s' = some (.val (.string bs)) := g3
    cases ho : h.get s' with
    | txt n r =>
      rw [ho] at H
      have hO := R.obj s' (by rw [g3]; simp)
      rw [ho] at hO
      obtain ⟨bs', q1, q2, q3⟩ := hO
      rw [g3] at q1
      injection q1 with q1
      injection q1 with q1
      injection q1 with q1
      subst q1 q2 q3
      rcases Tall.cases H with ⟨hp, H⟩ | ⟨hp, H⟩
      · refine over (fun hlt => ?_) H
        have : Nat.blt p bs.size = true := Nat.ble_eq_true_of_le hlt
        rw [this] at hp; cases hp
      · have hp : p < bs.size := blt_ok hp
        obtain ⟨hpm, H⟩ := Tall.chk H
        have hpm : p < 1000000 := blt_ok hpm
        obtain ⟨hb, H⟩ := Tall.chk H
        have hb := blt_ok hb
        have hl : p < bs.data.toList.length := by rw [Array.length_toList]; exact hp
        have hby : py (getS (rowB bs.data.toList) p) = (bs[p]'hp).toNat := by
          rw [getS_rowB, List.getElem?_eq_getElem hl]
          show py (cI .u8 _) = _
          rw [cI8]
          exact py_eq (k := .u8)
        rw [hby] at hb H
        have hdec := decode_ascii bs p hp hb
        have hbd := R.bd _ _ _ _ _ hG
        have R1 : Rel P pb pn G (h.set nm (.sit (s' + 1) (p + 1))) nx { w with heap := w.heap.setIfInBounds b (.stringIter bs (p + 1)) } := by
          refine R.upd hG (by rw [hob]; rfl) rfl (fun x hx => by simp [Ne.symm hx]) (by simp) ⟨b, tot, sz, bs, hG, by simp [hbd], by rw [if_neg (by omega)]; exact g3⟩
        obtain ⟨G', h', nx', c, a1, a2, a3, a4⟩ := newT_ok (vs := #[.bool true, .int .i64 (p : Int), .int .i32 ((bs[p]'hp).toNat : Int)]) R1 rfl (cat3 (.bool true) (nI_ok (by omega)) (c32_ok (by omega))) H
        refine ⟨_, _, G', h', nx', c, ?_, a1, a2, a3, a4⟩
        simp [execOp, hx, Instr.next, getObj, setObj, Sem.run, g2, hp, hdec, goInt, Result.andThen]
    | _ => rw [ho] at H; exact H.elim
/-! ### maps -/
noncomputable def rgMV (x : Nat → Nat) : V := fun e h => Bool.rec (rif (isT 9 (x e)) (rdM Res.no (h.get (adN (x e))) fun clock _ _ => .blk 5 (.mit (Nat.add (adN (x e)) 1) clock 0 0 clock))) (.blk 5 (.mit 0 0 0 0 0)) (Nat.beq (x e) 8)
theorem rgM_ok {kt el : TypeId} (ht : P.underlying t = some (.map kt el)) : VS P N pl ⟨dst, .range t x, ty, ps, af, gd⟩ (rgMV (cO pl x)) := by
  intro pb pn G h nx w e a R EE
  have rx := EE.val x (by simp [Op.operands])
  show ROk P G w _ (Bool.rec _ _ (Nat.beq (cO pl x e) 8))
  cases h8 : Nat.beq (cO pl x e) 8 with
  | true =>
    have h8 := Nat.eq_of_beq_eq_true h8
    rw [h8] at rx
    obtain ⟨hx, _⟩ := rx.inv_nilm rfl
    refine ⟨.pointer (some ⟨w.heap.size, 0, none⟩), .mapIter none 0 #[] 0, w.alloc (.mapIter none 0 #[] 0), 0, 0, 0, ?_, ⟨rfl, rfl, rfl⟩, rfl, fun G' nm w' hg hG hn hw => ⟨.ptr nm 0 w.heap.size 0 0 0 hG hn (by omega), w.heap.size, 0, 0, none, #[], hG, hw, rfl, fun i hi => absurd hi (Nat.not_lt_zero _), by rw [if_pos rfl]⟩⟩
    simp [execOp, hx, Instr.range, run_underlying ht]
  | false =>
    refine ROk.rif fun h9 => ?_
    obtain ⟨nm, b, s, tot, sz, hx, hc, hG, hn⟩ := rx.inv_map (isT_ok h9)
    rw [hc, adN_M hn]
    refine ROk.rdM R hG fun clock n c es hb hs he => ?_
    have hget := MapKept.run_getObj_map (P := P) hb
    refine ⟨.pointer (some ⟨w.heap.size, 0, none⟩), .mapIter (some b) clock #[] clock, w.alloc (.mapIter (some b) clock #[] clock), 0, 0, 0, ?_, ⟨rfl, rfl, rfl⟩, rfl, fun G' nm' w' hg hG' hn' hw => ⟨.ptr nm' 0 w.heap.size 0 0 0 hG' hn' (by omega), w.heap.size, 0, 0, some b, #[], hG', hw, rfl, fun i hi => absurd hi (Nat.not_lt_zero _), ?_⟩⟩
    · simp [execOp, hx, Instr.range, run_underlying ht, hget]
    · show if nm + 1 = 0 then _ else _
      rw [if_neg (by omega)]
      exact ⟨b, s, tot, sz, rfl, hg _ _ hG⟩
/-- every entry is older -/
noncomputable def oldA (c since n : Nat) : Bool := Nat.rec true (fun j ih => Bool.rec false ih (Nat.blt (getS c (Nat.add (Nat.mul 3 j) 2)) since)) n
theorem oldA_ok {c since : Nat} : ∀ n, oldA c since n = true → ∀ j, j < n → getS c (3 * j + 2) < since := by
  intro n
  induction n with
  | zero => intro _ j hj; omega
  | succ n ih =>
    intro h j hj
    have h : Bool.rec false (oldA c since n) (Nat.blt (getS c (3 * n + 2)) since) = true := h
    cases hb : Nat.blt (getS c (3 * n + 2)) since with
    | false => rw [hb] at h; cases h
    | true =>
      rw [hb] at h
      rcases Nat.lt_or_ge j n with q | q
      · exact ih h j q
      · have : j = n := by omega
        subst this
        exact blt_ok hb
noncomputable def inS (s b k : Nat) : Bool := Nat.rec false (fun j ih => Bool.rec ih true (Nat.beq (getS s j) b)) k
theorem inS_ok {s b : Nat} : ∀ k, inS s b k = true ↔ ∃ j, j < k ∧ getS s j = b := by
  intro k
  induction k with
  | zero => exact ⟨fun h => (by cases h), fun ⟨j, hj, _⟩ => absurd hj (Nat.not_lt_zero _)⟩
  | succ k ih =>
    have e : inS s b (k + 1) = Bool.rec (inS s b k) true (Nat.beq (getS s k) b) := rfl
    rw [e]
    cases hb : Nat.beq (getS s k) b with
    | true =>
      have := Nat.eq_of_beq_eq_true hb
      exact ⟨fun _ => ⟨k, by omega, this⟩, fun _ => rfl⟩
    | false =>
      show inS s b k = true ↔ _
      rw [ih]
      constructor
      · rintro ⟨j, hj, ej⟩; exact ⟨j, by omega, ej⟩
      · rintro ⟨j, hj, ej⟩
        rcases Nat.lt_or_ge j k with q | q
        · exact ⟨j, q, ej⟩
        · have : j = k := by omega
          subst this
          rw [ej] at hb
          simp at hb
/-- the entries that are left -/
noncomputable def lefts (c s k m : Nat) : Nat → List Nat := Nat.rec (fun _ => []) (fun _ ih i => Bool.rec (i :: ih (Nat.add i 1)) (ih (Nat.add i 1)) (inS s (getS c (Nat.add (Nat.mul 3 i) 2)) k)) m
theorem lefts_ok {c s k : Nat} : ∀ m i j, j ∈ lefts c s k m i ↔ (i ≤ j ∧ j < i + m ∧ inS s (getS c (3 * j + 2)) k = false) := by
  intro m
  induction m with
  | zero => intro i j; exact ⟨fun h => (by cases h), fun h => (by omega)⟩
  | succ m ih =>
    intro i j
    have e : lefts c s k (m + 1) i = Bool.rec (i :: lefts c s k m (i + 1)) (lefts c s k m (i + 1)) (inS s (getS c (3 * i + 2)) k) := rfl
    rw [e]
    cases hb : inS s (getS c (3 * i + 2)) k with
    | false =>
      show j ∈ i :: lefts c s k m (i + 1) ↔ _
      rw [List.mem_cons, ih]
      constructor
      · rintro (rfl | ⟨a, b, d⟩)
        · exact ⟨by omega, by omega, hb⟩
        · exact ⟨by omega, by omega, d⟩
      · rintro ⟨a, b, d⟩
        rcases Nat.eq_or_lt_of_le a with q | q
        · exact .inl q.symm
        · exact .inr ⟨by omega, by omega, d⟩
    | true =>
      show j ∈ lefts c s k m (i + 1) ↔ _
      rw [ih]
      constructor
      · rintro ⟨a, b, d⟩; exact ⟨by omega, by omega, d⟩
      · rintro ⟨a, b, d⟩
        rcases Nat.eq_or_lt_of_le a with q | q
        · subst q; rw [hb] at d; cases d
        · exact ⟨by omega, by omega, d⟩
noncomputable def lenL : List Nat → Nat := List.rec 0 (fun _ _ n => Nat.add n 1)
noncomputable def atL (l : List Nat) : Nat → Nat := List.rec (fun _ => 0) (fun a _ ih i => Nat.rec a (fun j _ => ih j) i) l
theorem atL_mem : ∀ (l : List Nat) (a : Nat), a ∈ l → ∃ i, i < lenL l ∧ atL l i = a := by
  intro l
  induction l with
  | nil => intro a h; cases h
  | cons b l ih =>
    intro a h
    rcases List.mem_cons.1 h with rfl | h
    · exact ⟨0, Nat.succ_pos _, rfl⟩
    · obtain ⟨i, h1, h2⟩ := ih a h
      exact ⟨i + 1, Nat.succ_lt_succ h1, h2⟩
/-- one of these, whichever -/
noncomputable def askL (over : T) (step : Nat → T) (l : List Nat) : T := List.rec over (fun a r _ => List.rec (step a) (fun _ _ _ => .ask (lenL l) fun i => step (atL l i)) r) l
theorem askL_ok {over : T} {step : Nat → T} {l : List Nat} (H : Tall φ (askL over step l)) : (l = [] ∧ Tall φ over) ∨ (l ≠ [] ∧ ∀ a ∈ l, Tall φ (step a)) := by
  cases l with
  | nil => exact .inl ⟨rfl, H⟩
  | cons a r =>
    refine .inr ⟨by simp, fun b hb => ?_⟩
    cases r with
    | nil =>
      have : b = a := by simpa using hb
      subst this
      exact H
    | cons c r =>
      have H : ∀ i, i < lenL (a :: c :: r) → Tall φ (step (atL (a :: c :: r) i)) := H
      obtain ⟨i, h1, h2⟩ := atL_mem _ b hb
      rw [← h2]
      exact H i h1
noncomputable def nxM2 (it m since k s clock c : Nat) (h : Tr) (nx : Nat) (kv : KV) (i : Nat) : T :=
  newT 3 (catR 1 33 (catR 1 (getS c (Nat.mul 3 i)) (getS c (Nat.add (Nat.mul 3 i) 1)))) (h.set it (.mit m since (Nat.add k 1) (setS s k (getS c (Nat.add (Nat.mul 3 i) 2))) clock)) nx kv
noncomputable def nxMX (x : Nat → Nat) : CV := fun _ e h nx kv => chk (isT 5 (x e)) (chk (Nat.beq (adO (x e)) 0) (mitR T.fail (h.get (adN (x e))) fun m since k s last =>
  Nat.rec (newT 1 1 h nx kv) (fun m' _ => rdM T.fail (h.get m') fun clock n c => chk (Nat.ble since last) (chk (oldA c since n) (askL (newT 1 1 h nx kv) (nxM2 (adN (x e)) m since k s clock c h nx kv) (lefts c s k n 0)))) m))
theorem Tall.rdM {o : Obj} {k : Nat → Nat → Nat → T} (H : Tall φ (rdM T.fail o k)) : ∃ ro clock n c, o = .map ro clock n c ∧ Tall φ (k clock n c) := by
  cases o <;> first | exact H.elim | exact ⟨_, _, _, _, rfl, H⟩
theorem nxM_ok : XS P N pl ⟨dst, .next x false, ty, ps, af, gd⟩ (nxMX (cO pl x)) := by
  refine xs_run fun cl φ pb pn G h nx w e a kv R EE H => ?_
  obtain ⟨h5, H⟩ := Tall.chk H
  obtain ⟨h0, H⟩ := Tall.chk H
  obtain ⟨nm, off, b, s0, tot, sz, hx, hc, hG, hn, ho⟩ := (EE.val x (by simp [Op.operands])).inv_ptr (isT_ok h5)
  rw [hc, adO_P hn] at h0
  rw [hc, adN_P hn] at H
  have h0 := Nat.eq_of_beq_eq_true h0
  subst h0
  obtain ⟨m, since, k, s, last, hob, H⟩ := Tall.mitR H
  have hO := R.obj nm (by rw [hG]; simp)
  rw [hob] at hO
  obtain ⟨b', tot', sz', mo, seen, g1, g2, g3, g4, g5⟩ := hO
  rw [hG] at g1
  injection g1 with g1
  injection g1 with e1 e2 e3 e4
  subst e1 e2 e3 e4
  have over : (Instr.next (.pointer (some ⟨b, 0, none⟩)) false ty).run P w = .ok (.tuple #[.bool false]) w → Tall φ (newT 1 1 h nx kv) → ∃ v' w' G' h' nx' c', (execOp a.eval ⟨dst, .next x false, ty, ps, af, gd⟩).run P w = .ok (.value v') w' ∧ Gle G G' ∧ Rel P pb pn G' h' nx' w' ∧ VRel G' c' v' ∧ Tall φ (kv c' h' nx') := fun hrun H => by
    obtain ⟨G', h', nx', c, a1, a2, a3, a4⟩ := newT_ok (vs := #[.bool false]) R rfl (one1 (.bool false)) H
    refine ⟨_, w, G', h', nx', c, ?_, a1, a2, a3, a4⟩
    simp [execOp, hx, hrun]
  cases m with
  | zero =>
    rw [if_pos rfl] at g5
    subst g5
    exact over (by simp [Instr.next, getObj, Sem.run, g2]) H
  | succ m' =>
    rw [if_neg (by omega)] at g5
    obtain ⟨mb, s', t', z', rfl, hGm⟩ := g5
    have hGm : G m' = some (.blk mb s' t' z') := hGm
    obtain ⟨ro, clock, n, c, hom, H⟩ := Tall.rdM H
    obtain ⟨hsc, H⟩ := Tall.chk H
    obtain ⟨hold, H⟩ := Tall.chk H
    obtain ⟨es, q1, q2, q3⟩ := R.mapO hGm hom
    have hsc : since ≤ last := Nat.le_of_ble_eq_true hsc
    have hmem : ∀ e ∈ es.toList, ∃ i : Nat, i < n ∧ es[i]? = some e := fun e he => by
      obtain ⟨i, hi, e'⟩ := List.mem_iff_getElem.1 he
      have hi : i < es.size := by simpa using hi
      exact ⟨i, by omega, by rw [Array.getElem?_eq_getElem hi]; simpa using e'⟩
    have hold' : ∀ e ∈ es.toList, e.born < since := fun e he => by
      obtain ⟨i, hi, hei⟩ := hmem e he
      rw [← (q3 i e hei).2.2]
      exact oldA_ok n hold i hi
    have hseen : ∀ b, seen.contains b = inS s b k := fun b' => by
      rw [Bool.eq_iff_iff, inS_ok, Array.contains_iff_mem, Array.mem_iff_getElem]
      constructor
      · rintro ⟨j, hj, rfl⟩
        refine ⟨j, by omega, ?_⟩
        rw [g4 j (by omega)]
        simp [Array.getD_eq_getD_getElem?, hj]
      · rintro ⟨j, hj, rfl⟩
        refine ⟨j, by omega, ?_⟩
        rw [g4 j hj]
        have : j < seen.size := by omega
        simp [Array.getD_eq_getD_getElem?, this]
    have hleft : ∀ e, e ∈ (leftOf es seen).toList ↔ e ∈ es.toList ∧ inS s e.born k = false := fun e => by
      have hs' : ∀ b, b ∈ seen ↔ inS s b k = true := fun b => by rw [← hseen, Array.contains_iff_mem]
      unfold leftOf
      simp [hs']
    rcases run_next_at (P := P) w ty b mb since last seen es clock g2 q1 hold' hsc with ⟨h0, hrun⟩ | ⟨e1, he1, w1, hal, hrun⟩
    · rcases askL_ok H with ⟨_, H⟩ | ⟨hne, _⟩
      · exact over hrun H
      · exfalso
        obtain ⟨j, hj⟩ := List.exists_mem_of_ne_nil _ hne
        obtain ⟨_, j2, j3⟩ := (lefts_ok n 0 j).1 hj
        have hjn : j < es.size := by omega
        have hq := q3 j es[j] (Array.getElem?_eq_getElem hjn)
        have : es[j] ∈ (leftOf es seen).toList := (hleft _).2 ⟨by simp, by rw [← hq.2.2]; exact j3⟩
        have hz : (leftOf es seen) = #[] := Array.eq_empty_of_size_eq_zero h0
        rw [hz] at this
        simp at this
    · obtain ⟨m1, m2⟩ := (hleft e1).1 he1
      obtain ⟨i, hi, hei⟩ := hmem e1 m1
      have hq := q3 i e1 hei
      have hl : i ∈ lefts c s k n 0 := (lefts_ok n 0 i).2 ⟨by omega, by omega, by rw [hq.2.2]; exact m2⟩
      rcases askL_ok H with ⟨hnil, _⟩ | ⟨_, H⟩
      · rw [hnil] at hl; cases hl
      · have H := H i hl
        have R0 : Rel P pb pn G h nx w1 := by
          rcases hal with rfl | rfl
          · exact R
          · exact R.world rfl
        have hbd := R0.bd _ _ _ _ _ hG
        have R1 : Rel P pb pn G (h.set nm (.mit (m' + 1) since (k + 1) (setS s k (getS c (3 * i + 2))) clock)) nx (ChangeMaps.setBlock w1 b (.mapIter (some mb) since (seen.push e1.born) clock)) := by
          refine R0.upd hG (by rw [hob]; rfl) rfl (fun x hx => by simp [ChangeMaps.setBlock, Ne.symm hx]) (by simp [ChangeMaps.setBlock]) ⟨b, tot, sz, some mb, seen.push e1.born, hG, by simp [ChangeMaps.setBlock, hbd], by simp [g3], fun j hj => ?_, by rw [if_neg (by omega)]; exact ⟨mb, s', t', z', rfl, hGm⟩⟩
          rw [getS_set (getS_lt _ _)]
          by_cases hjk : k = j
          · subst hjk
            rw [if_pos rfl, hq.2.2, Array.getD_eq_getD_getElem?, Array.getElem?_push, if_pos g3.symm]
            rfl
          · rw [if_neg hjk, g4 j (by omega), Array.getD_eq_getD_getElem?, Array.getD_eq_getD_getElem?, Array.getElem?_push, if_neg (by omega)]
        obtain ⟨G', h', nx', c', a1, a2, a3, a4⟩ := newT_ok (vs := #[.bool true, e1.key, e1.val]) R1 rfl (cat3 (.bool true) hq.1 hq.2.1) H
        refine ⟨_, _, G', h', nx', c', ?_, a1, a2, a3, a4⟩
        simp [execOp, hx, hrun]
noncomputable def findB {α : Type} (z : α) (c b : Nat) (k : Nat → α) (m : Nat) : Nat → α := Nat.rec (fun _ => z) (fun _ ih i => Bool.rec (ih (Nat.add i 1)) (k i) (Nat.beq (getS c (Nat.add (Nat.mul 3 i) 2)) b)) m
theorem findB_cases {α : Type} {z : α} {c b : Nat} {k : Nat → α} : ∀ (es : List MapEntry) (i : Nat), (∀ j e, es[j]? = some e → getS c (3 * (i + j) + 2) = e.born) →
    findB z c b k es.length i = z ∨ ∃ j e, es.find? (·.born == b) = some e ∧ es[j]? = some e ∧ findB z c b k es.length i = k (i + j) := by
  intro es
  induction es with
  | nil => intro i _; exact .inl rfl
  | cons e es ih =>
    intro i h1
    have eq1 : findB z c b k (e :: es).length i = Bool.rec (findB z c b k es.length (i + 1)) (k i) (Nat.beq (getS c (3 * i + 2)) b) := rfl
    rw [eq1]
    have h10 : getS c (3 * i + 2) = e.born := h1 0 e rfl
    rw [h10]
    cases hb : Nat.beq e.born b with
    | true =>
      have hb := Nat.eq_of_beq_eq_true hb
      exact .inr ⟨0, e, by simp [List.find?, hb], rfl, rfl⟩
    | false =>
      have hne : (e.born == b) = false := by rw [beqN] at hb; simpa using hb
      rcases ih (i + 1) (fun j e' hj => by
        have := h1 (j + 1) e' (by simpa using hj)
        rw [show i + (j + 1) = i + 1 + j from by omega] at this
        exact this) with e2 | ⟨j, e', a1, a2, e2⟩
      · exact .inl e2
      · refine .inr ⟨j + 1, e', by simp [List.find?, hne, a1], by simpa using a2, ?_⟩
        show findB z c b k es.length (i + 1) = _
        rw [e2]
        congr 1
        omega
noncomputable def enV (x : Nat → Nat) : V := fun e h => rif (isT 5 (x e)) (rif (Nat.beq (adO (x e)) 0) (mitR Res.no (h.get (adN (x e))) fun m _ k s last => Nat.rec Res.no (fun m' _ => Nat.rec Res.no (fun k' _ =>
  rdM Res.no (h.get m') fun clock n c => rif (Nat.beq clock last) (findB Res.no c (getS s k') (fun i => .imm 13 (.tup 2 (catR 1 (getS c (Nat.mul 3 i)) (getS c (Nat.add (Nat.mul 3 i) 1))))) n 0)) k) m))
theorem en_ok : VS P N pl ⟨dst, .entry x, ty, ps, af, gd⟩ (enV (cO pl x)) := by
  intro pb pn G h nx w e a R EE
  refine ROk.rif fun h5 => ROk.rif fun h0 => ?_
  obtain ⟨nm, off, b, s0, tot, sz, hx, hc, hG, hn, ho⟩ := (EE.val x (by simp [Op.operands])).inv_ptr (isT_ok h5)
  rw [hc, adO_P hn] at h0
  rw [hc, adN_P hn]
  have h0 := Nat.eq_of_beq_eq_true h0
  subst h0
  cases hob : h.get nm with
  | mit m since k s last =>
    have hO := R.obj nm (by rw [hG]; simp)
    rw [hob] at hO
    obtain ⟨b', tot', sz', mo, seen, g1, g2, g3, g4, g5⟩ := hO
    rw [hG] at g1
    injection g1 with g1
    injection g1 with e1 e2 e3 e4
    subst e1 e2 e3 e4
    cases m with
    | zero => trivial
    | succ m' =>
      cases k with
      | zero => trivial
      | succ k' =>
        rw [if_neg (by omega)] at g5
        obtain ⟨mb, s', t', z', rfl, hGm⟩ := g5
        have hGm : G m' = some (.blk mb s' t' z') := hGm
        refine ROk.rdM R hGm fun clock n c es hb hs he => ROk.rif fun hcl => ?_
        have hcl := Nat.eq_of_beq_eq_true hcl
        subst hcl
        have hlast : seen.back? = some (getS s k') := by
          rw [g4 k' (by omega), Array.back?_eq_getElem?, g3]
          have : k' < seen.size := by omega
          simp [Array.getD_eq_getD_getElem?, this]
        have hl : es.toList.length = n := by simpa using hs
        rw [← hl]
        rcases findB_cases (z := Res.no) (c := c) (b := getS s k') (k := fun i => .imm 13 (.tup 2 (catR 1 (getS c (Nat.mul 3 i)) (getS c (Nat.add (Nat.mul 3 i) 1))))) es.toList 0 (fun j e hj => by rw [Nat.zero_add]; exact (he j e (by simpa using hj)).2.2) with e2 | ⟨j, e1, a1, a2, e2⟩
        · rw [e2]; trivial
        · rw [e2, Nat.zero_add]
          have hq := he j e1 (by simpa using a2)
          refine ⟨.tuple #[e1.key, e1.val], ?_, rfl, fun G' nm' hg hG' hn' => ⟨.tup nm' _ hG' hn', fun w' => ⟨#[e1.key, e1.val], hG', rfl, fun i hi => ?_⟩⟩⟩
          · rw [Array.find?_toList] at a1
            have hbb : ∀ f : MapEntry → Bool, f = (fun x => x.born == getS s k') → es.find? f = some e1 := fun f hf => by rw [hf]; exact a1
            simp [execOp, hx, Instr.entry, getObj, Sem.run, g2, hb, hlast, Result.andThen, a1]
          · have lk : getS c (3 * j) < 2 ^ (96 * 1) := by simpa using getS_lt c (3 * j)
            have h2 : i = 0 ∨ i = 1 := by omega
            rcases h2 with rfl | rfl
            · show VRel G' (getS (catR 1 (getS c (3 * j)) (getS c (3 * j + 1))) 0) e1.key
              rw [getS_cat lk, if_pos (by omega), getS_0' (getS_lt _ _)]
              exact hq.1.mono hg
            · show VRel G' (getS (catR 1 (getS c (3 * j)) (getS c (3 * j + 1))) 1) e1.val
              rw [getS_cat lk, if_neg (by omega), getS_0' (getS_lt _ _)]
              exact hq.2.1.mono hg
  | _ => trivial
end Go.Ev
end
