/- The step library: slices that are made and grown. -/
import Derived.Test.YtpdacegpjofdeaaDoorSl
import Derived.Great.BuildSlice
set_option linter.all false
namespace Go.Hub
open Go.RowKit

section
variable {P : Program} {ops : Array Oper} {Q : Exit → Act → World → Prop} {md : Region.Mode} {S : World → Prop} {a : Act} {w w' : World} {n d : Nat} {l : FL} {v : Value} {o : Oper} {K : Act → World → Prop}
/-! ### one operation of a region that draws -/
theorem O.val {i : Nat} (f : Fr n a l) (hi : ops[i]? = some o) (hd : o.dst = some d) (hn : d < n) (hw : Region.wanted o (yielded ops a.tmps) = true)
    (hv : (execOp a.eval o).run P w = .ok (.value v) w') (hS : S w') (hK : ∀ a', Fr n a' ((d, v) :: l) → K a' w') : wpOp P ops Q i (fun a w => S w ∧ K a w) a w := by
  unfold wpOp
  simp only [hi, hw, if_true]
  refine .inl ?_
  unfold Oper.wp
  rw [hv]
  show S w' ∧ K (a.put o.dst v) w'
  rw [hd]
  exact ⟨hS, hK _ (f.put d v hn)⟩
theorem R.one (i : Nat) {fuel : Nat} {listed : Array Bool} (hr : Region.ready md ops listed = [i]) (h : wpOp P ops Q i (fun a w => S w ∧ wpAnyH P md ops Q S fuel (listed.setIfInBounds i true) a w) a w) : wpAnyH P md ops Q S (fuel + 1) listed a w :=
  wpAnyH_all hr (by simp) fun j hj => by
    simp only [List.mem_singleton] at hj
    subst hj
    exact h
theorem R.two (i j : Nat) {fuel : Nat} {listed : Array Bool} (hr : Region.ready md ops listed = [i, j]) (h : wpOp P ops Q i (fun a w => S w ∧ wpAnyH P md ops Q S fuel (listed.setIfInBounds i true) a w) a w)
    (h' : wpOp P ops Q j (fun a w => S w ∧ wpAnyH P md ops Q S fuel (listed.setIfInBounds j true) a w) a w) : wpAnyH P md ops Q S (fuel + 1) listed a w :=
  wpAnyH_all hr (by simp) fun k hk => by
    simp only [List.mem_cons, List.not_mem_nil, or_false] at hk
    rcases hk with rfl | rfl
    · exact h
    · exact h'
end

section
variable {P : Program} {ops : Array Oper} {rest : List Oper} {a : Act} {w : World} {Q : Exit → Act → World → Prop} {n d : Nat} {l : FL} {v : Value} {ty : TypeId} {ps : String} {af : Array Edge} {gd : Option (Nat × Bool)} {x y : Operand} {t : TypeId}
theorem E.eqlP {dst : Option Nat} (f : Fr n a l) {e : TypeId} {ad : Addr} {u : TypeId} (ht : P.underlying t = some (.pointer e)) (hx : evl l x = some (.pointer (some ad))) (hy : evl l y = some (.pointer none)) : (execOp a.eval ⟨dst, .binOp .eql t x y u, ty, ps, af, gd⟩).run P w = .ok (.value (.bool false)) w :=
  E.eqlV f hx hy fun w => by
    have : ∀ d, (Op.equalIn (d + 1) t (.pointer (some ad)) (.pointer none)).run P w = .ok false w := fun d => by simp [Op.equalIn, run_underlying ht]
    rw [Sem.run_bind]
    simp only [eqGuard, binOp]
    simp [Op.equal, Op.maxDepth, this 9999]
theorem E.eqlNil {dst : Option Nat} (f : Fr n a l) {e : TypeId} {A : Option Addr} {m c : Nat} {u : TypeId} (ht : P.underlying t = some (.slice e)) (hx : evl l x = some (.slice A m c)) (hy : evl l y = some (.slice none 0 0)) : (execOp a.eval ⟨dst, .binOp .eql t x y u, ty, ps, af, gd⟩).run P w = .ok (.value (.bool A.isNone)) w :=
  E.eqlV f hx hy fun w => by
    rw [Sem.run_bind]
    have := Lib.run_eql_slice_nil (P := P) w t e A m c 0 0 ht
    simp only [eqGuard]
    exact this
theorem E.neqNil {dst : Option Nat} (f : Fr n a l) {e : TypeId} {A : Option Addr} {m c : Nat} {u : TypeId} (ht : P.underlying t = some (.slice e)) (hx : evl l x = some (.slice A m c)) (hy : evl l y = some (.slice none 0 0)) : (execOp a.eval ⟨dst, .binOp .neq t x y u, ty, ps, af, gd⟩).run P w = .ok (.value (.bool (!A.isNone))) w :=
  E.neqV f hx hy fun w => by
    rw [Sem.run_bind]
    have := run_neq_slice_nil_any (P := P) w t e A m c 0 0 ht
    simp only [eqGuard]
    exact this
/-! ### a slice literal -/
theorem E.buildSlice {dst : Option Nat} (f : Fr n a l) {parts : Array (Nat × Operand)} {vs : List (Nat × Value)} {e len sz : Nat} {cells : Array Value} {z : Value} (hx : (parts.map fun p => (p.1, a.eval p.2)).toList = vs) (hu : P.underlying t = some (.slice e))
    (hi : (P.info? e).map (fun i => (i.zero, i.size)) = some (some z, sz)) (hs : Nat.ble (len * sz) 16777216 = true) (hp : Nat.beq (len * sz) 0 = false) (hf : Instr.fill (fun i => some (i * sz, sz)) ((Array.range (len * sz)).map fun j => z.cells[j % z.cells.size]!) vs = some cells) :
    (execOp a.eval ⟨dst, .buildSlice t len parts, ty, ps, af, gd⟩).run P w = .ok (.value (.slice (some ⟨w.heap.size, 0, none⟩) len len)) (w.alloc (.cells cells e)) := by
  cases hq : P.info? e with
  | none => simp [hq] at hi
  | some ie =>
    simp [hq] at hi
    obtain ⟨h1, h2⟩ := hi
    subst h2
    have hx' : (parts.map fun (i, x) => (i, a.eval x)).toList = vs := hx
    have hle := Nat.le_of_ble_eq_true hs
    have hr := run_buildSlice (P := P) w t e len (parts.map fun (i, x) => (i, a.eval x)) cells ie z hu hq h1 (by omega) (fun h0 => by rw [h0] at hp; simp at hp) (by rw [hx']; exact hf)
    simp only [execOp]
    rw [Sem.run_bind, hr]
    rfl
theorem E.buildNone {dst : Option Nat} (f : Fr n a l) {e : TypeId} {sz : Nat} (hu : P.underlying t = some (.slice e)) (hi : (P.info? e).map (·.size) = some sz) :
    (execOp a.eval ⟨dst, .buildSlice t 0 #[], ty, ps, af, gd⟩).run P w = .ok (.value (.slice (some ⟨w.heap.size, 0, none⟩) 0 0)) (w.alloc (.cells #[] e)) := by
  cases hq : P.info? e with
  | none => simp [hq] at hi
  | some ie =>
    have e0 : ∀ z : Array Value, (Array.range 0).map (fun x => z[x % z.size]!) = #[] := fun z => by simp
    have e1 : (Array.range 0).map (fun _ => (default : Value)) = #[] := by simp [Array.range]
    simp [execOp, Instr.buildSlice, run_underlying hu, sizeOf, typeInfo, hq, Instr.fill, newRow]
    rw [e1]
theorem L.buildSlice (f : Fr n a l) {parts : Array (Nat × Operand)} {len : Nat} (hw : Region.wanted ⟨some d, .buildSlice t len parts, ty, ps, af, gd⟩ (yielded ops a.tmps) = true) (hn : d < n) {vs : List (Nat × Value)} {e sz : Nat} {cells : Array Value} {z : Value} (hx : (parts.map fun p => (p.1, a.eval p.2)).toList = vs) (hu : P.underlying t = some (.slice e))
    (hi : (P.info? e).map (fun i => (i.zero, i.size)) = some (some z, sz)) (hs : Nat.ble (len * sz) 16777216 = true) (hp : Nat.beq (len * sz) 0 = false) (hf : Instr.fill (fun i => some (i * sz, sz)) ((Array.range (len * sz)).map fun j => z.cells[j % z.cells.size]!) vs = some cells)
    (hK : ∀ a' w' g, Newb w w' g e cells → Fr n a' ((d, .slice (some ⟨g, 0, none⟩) len len) :: l) → wpList P ops Q rest a' w') : wpList P ops Q (⟨some d, .buildSlice t len parts, ty, ps, af, gd⟩ :: rest) a w :=
  L.val f hw rfl hn (E.buildSlice f hx hu hi hs hp hf) fun a' f' => hK a' _ _ (newb w e _) f'
theorem L.buildNone (f : Fr n a l) (hw : Region.wanted ⟨some d, .buildSlice t 0 #[], ty, ps, af, gd⟩ (yielded ops a.tmps) = true) (hn : d < n) {e : TypeId} {sz : Nat} (hu : P.underlying t = some (.slice e)) (hi : (P.info? e).map (·.size) = some sz)
    (hK : ∀ a' w' g, Newb w w' g e #[] → Fr n a' ((d, .slice (some ⟨g, 0, none⟩) 0 0) :: l) → wpList P ops Q rest a' w') : wpList P ops Q (⟨some d, .buildSlice t 0 #[], ty, ps, af, gd⟩ :: rest) a w :=
  L.val f hw rfl hn (E.buildNone f hu hi) fun a' f' => hK a' _ _ (newb w e _) f'
theorem Newb.own {w w' : World} {g : Nat} {e : TypeId} {cs : Array Value} (h : Newb w w' g e cs) {k size : Nat} (hs : cs.size = k * size) (hk : k ≤ maxLen) : Own w' e size (.slice (some ⟨g, 0, none⟩) k k) k cs.toList :=
  ⟨by simpa using hs, .inr ⟨g, 0, k, cs, rfl, h.blk, Nat.le_refl _, hk, by omega, fun j u hu => by rw [Nat.zero_add]; simpa using hu⟩⟩
/-! ### append -/
/-- what an append comes to -/
structure App (w w' : World) (e : TypeId) (size : Nat) (A : Option Addr) (k c : Nat) (xs news : List Value) (m : Nat) (A' : Option Addr) (c' : Nat) : Prop where
  own : Own w' e size (.slice A' (k + m) c') (k + m) (xs ++ news)
  kept : Kept (Value.slice A k c).ownBlock.toList w w'
  where_ : ∀ b, A'.map (·.block) = some b → A.map (·.block) = some b ∨ w.heap.size ≤ b
theorem E.append {dst : Option Nat} (f : Fr n a l) {e size bytes k c m c2 : Nat} {z : Value} {A A2 : Option Addr} {xs news : List Value} (ht : P.underlying t = some (.slice e)) (hi : (P.info? e).map (fun i => (i.zero, i.size, i.bytes)) = some (some z, size, bytes)) (hzs : z.cells.size = size) (hsz : Nat.blt 0 size = true)
    (hx : evl l x = some (.slice A k c)) (hy : evl l y = some (.slice A2 m c2)) (hown : Own w e size (.slice A k c) k xs) (hr : Sl w A2 m size news) (h1 : ∀ u ∈ news, u.oneCell' = true) (h63 : k + m ≤ maxLen) (hb : (k + m) * bytes ≤ 140737488355328) :
    ∃ A' c' w', (execOp a.eval ⟨dst, .call { callee := .builtin .append, args := #[x, y], argTypes := #[t, t] }, ty, ps, af, gd⟩).run P w = .ok (.value (.slice A' (k + m) c')) w' ∧ App w w' e size A k c xs news m A' c' := by
  obtain ⟨ie, hie, h2, h3, h4⟩ := info_parts hi
  obtain ⟨v', w', hrun, ho, hk, hwh⟩ := append_own (P := P) w t ty e ie z size bytes ht hie h2 h3 h4 hzs (by simpa using hsz) (.slice A k c) k xs hown w.heap.size A2 m c2 news hr.rds h1 h63 hb
  obtain ⟨A', c', rfl, _⟩ := ho.form
  refine ⟨A', c', w', ?_, ho, hk, fun b hb => ?_⟩
  · simp only [execOp, resolve, invoke, builtin, Sem.run_bind, Sem.run_pure, Result.andThen_ok, List.map_toArray, List.map_cons, List.map_nil, f.ev hx, f.ev hy, hrun]
  · have := hwh b (by cases A' <;> simp_all [Value.ownBlock])
    rcases this with h | h
    · exact .inl (by cases A <;> simp_all [Value.ownBlock])
    · exact .inr h
theorem L.append (f : Fr n a l) (hw : Region.wanted ⟨some d, .call { callee := .builtin .append, args := #[x, y], argTypes := #[t, t] }, ty, ps, af, gd⟩ (yielded ops a.tmps) = true) (hn : d < n) {e size bytes k c m c2 : Nat} {z : Value} {A A2 : Option Addr} {xs news : List Value} (ht : P.underlying t = some (.slice e)) (hi : (P.info? e).map (fun i => (i.zero, i.size, i.bytes)) = some (some z, size, bytes)) (hzs : z.cells.size = size) (hsz : Nat.blt 0 size = true)
    (hx : evl l x = some (.slice A k c)) (hy : evl l y = some (.slice A2 m c2)) (hown : Own w e size (.slice A k c) k xs) (hr : Sl w A2 m size news) (h1 : ∀ u ∈ news, u.oneCell' = true) (h63 : k + m ≤ maxLen) (hb : (k + m) * bytes ≤ 140737488355328)
    (hK : ∀ a' w' A' c', App w w' e size A k c xs news m A' c' → Fr n a' ((d, .slice A' (k + m) c') :: l) → wpList P ops Q rest a' w') : wpList P ops Q (⟨some d, .call { callee := .builtin .append, args := #[x, y], argTypes := #[t, t] }, ty, ps, af, gd⟩ :: rest) a w := by
  obtain ⟨A', c', w', hrun, happ⟩ := E.append (dst := some d) (ty := ty) (ps := ps) (af := af) (gd := gd) f ht hi hzs hsz hx hy hown hr h1 h63 hb
  exact L.val f hw rfl hn hrun fun a' f' => hK a' w' A' c' happ f'
end
section
variable {w w' : World} {e size k c m c' : Nat} {A A' : Option Addr} {xs news : List Value}
theorem App.fresh (h : App w w' e size A k c xs news m A' c') (hA : A = none) : Kept [] w w' ∧ ∀ b, A'.map (·.block) = some b → w.heap.size ≤ b := by
  subst hA
  refine ⟨by simpa [Value.ownBlock] using h.kept, fun b hb => ?_⟩
  rcases h.where_ b hb with h | h
  · cases h
  · exact h
end
/-- a slice of the call's own -/
structure Fresh (w w' : World) (e size : Nat) (A : Option Addr) (n c : Nat) (xs : List Value) : Prop where
  own : Own w' e size (.slice A n c) n xs
  lo : ∀ b, A.map (·.block) = some b → w.heap.size ≤ b
section
variable {w w' w'' : World} {e size k c m c' n : Nat} {A A' : Option Addr} {xs news : List Value}
theorem Fresh.nil (w w' : World) (e size : Nat) : Fresh w w' e size none 0 0 [] := ⟨Own.nil _ _ _, fun b h => by simp at h⟩
theorem Fresh.sl (h : Fresh w w' e size A n c xs) : Sl w' A n size xs := Sl.of_own h.own
theorem own_block (A : Option Addr) (n c : Nat) (b : Nat) : (Value.slice A n c).ownBlock = some b ↔ A.map (·.block) = some b := by cases A <;> simp [Value.ownBlock]
theorem Fresh.kept {L : List Nat} (h : Fresh w w' e size A n c xs) (hk : Kept L w' w'') (hf : ∀ b, A.map (·.block) = some b → b ∉ L) : Fresh w w'' e size A n c xs :=
  ⟨h.own.kept hk fun b hb => hf b ((own_block A n c b).1 hb), h.lo⟩
theorem Fresh.kept0 (h : Fresh w w' e size A n c xs) (hk : Kept [] w' w'') : Fresh w w'' e size A n c xs := h.kept hk (by simp)
theorem Fresh.lower {w0 : World} (h : Fresh w w' e size A n c xs) (hs : w0.heap.size ≤ w.heap.size) : Fresh w0 w' e size A n c xs := ⟨h.own, fun b hb => Nat.le_trans hs (h.lo b hb)⟩
/-- what an append to a slice of the call's own comes to -/
theorem App.next {w0 : World} (h : App w w' e size A k c xs news m A' c') (hf : Fresh w0 w e size A k c xs) (hs : w0.heap.size ≤ w.heap.size) : Fresh w0 w' e size A' (k + m) c' (xs ++ news) :=
  ⟨h.own, fun b hb => by
    rcases h.where_ b hb with h1 | h1
    · exact hf.lo b h1
    · omega⟩
theorem App.grow {w0 : World} {L : List Nat} (h : App w w' e size A k c xs news m A' c') (hf : Fresh w0 w e size A k c xs) (hk : Kept L w0 w) : Kept L w0 w' :=
  hk.trans h.kept fun x hx hlt => by
    have := hf.lo x ((own_block A k c x).1 (by simpa using hx))
    omega
end
/-! ### a store into a slice of the call's own -/
section
variable {w w' : World} {e size n c : Nat} {A : Option Addr} {xs : List Value}
theorem Own.set_ (h : Own w e size (.slice A n c) n xs) {b off j : Nat} (hA : A = some ⟨b, off, none⟩) (hj : j < xs.length) (u : Value) :
    (∃ old, w.cell? ⟨b, off + j, none⟩ = some old) ∧ w.frozen? ⟨b, off + j, none⟩ = false ∧ Own (w.setCell ⟨b, off + j, none⟩ u) e size (.slice A n c) n (xs.set j u) := by
  obtain ⟨h1, h2⟩ := h
  rcases h2 with ⟨hv, h0⟩ | ⟨g, o, cap, cur, hv, hg, hnc, hcm, hcs, hc⟩
  · subst h0
    rw [h1, Nat.zero_mul] at hj
    omega
  · injection hv with e1 e2 e3
    subst e3
    rw [hA] at e1
    injection e1 with e1
    injection e1 with e4 e5
    subst e4 e5
    have hB : Blk w b e cur := hg
    have hlt : off + j < cur.size := by
      have : n * size ≤ c * size := Nat.mul_le_mul_right _ hnc
      omega
    refine ⟨⟨cur[off + j], hB.cell_ (Array.getElem?_eq_getElem hlt)⟩, hB.frozen _, by rw [List.length_set]; exact h1, .inr ⟨b, off, c, cur.setIfInBounds (off + j) u, by rw [hA], hB.set_ _ _, hnc, hcm, by simpa using hcs, fun i v hv => ?_⟩⟩
    rw [Array.getElem?_setIfInBounds]
    rw [List.getElem?_set] at hv
    by_cases hij : j = i
    · subst hij
      rw [if_pos rfl, if_pos hj] at hv
      rw [if_pos rfl, if_pos hlt]
      exact hv
    · rw [if_neg hij] at hv
      rw [if_neg (by omega)]
      exact hc i v hv
end
section
variable {P : Program} {ops : Array Oper} {rest : List Oper} {a : Act} {w w0 : World} {Q : Exit → Act → World → Prop} {n d : Nat} {l : FL} {v : Value} {ty : TypeId} {ps : String} {af : Array Edge} {gd : Option (Nat × Bool)} {x y : Operand} {t : TypeId} {dst : Option Nat}
theorem L.storeF (f : Fr n a l) (hw : Region.wanted ⟨none, .store t x y, ty, ps, af, gd⟩ (yielded ops a.tmps) = true) (hi : (P.info? t).map (·.size) = some 1) {b off j e size k c : Nat} {A : Option Addr} {xs : List Value} (hA : A = some ⟨b, off, none⟩) (F : Fresh w0 w e size A k c xs) (hx : evl l x = some (.pointer (some ⟨b, off + j, none⟩))) (hj : j < xs.length) (hy : evl l y = some v) (h1 : v.oneCell' = true)
    (hK : ∀ a' w', Fr n a' l → Fresh w0 w' e size A k c (xs.set j v) → Kept [b] w w' → w0.heap.size ≤ b → wpList P ops Q rest a' w') : wpList P ops Q (⟨none, .store t x y, ty, ps, af, gd⟩ :: rest) a w := by
  obtain ⟨⟨old, h2⟩, h3, h4⟩ := F.own.set_ hA hj v
  exact L.act f hw rfl (E.store f hi hx hy h1 h2 h3) fun a' f' => hK a' _ f' ⟨h4, F.lo⟩ (setCell_kept w b (off + j) v) (F.lo b (by rw [hA]; rfl))
end
section
variable {P : Program} {ops : Array Oper} {Q : Exit → Act → World → Prop} {S : World → Prop} {a : Act} {w : World} {n d : Nat} {l : FL} {K : Act → World → Prop} {ty : TypeId} {ps : String} {af : Array Edge} {gd : Option (Nat × Bool)} {x y : Operand} {t : TypeId}
theorem O.append {i : Nat} (f : Fr n a l) (ho : ops[i]? = some ⟨some d, .call { callee := .builtin .append, args := #[x, y], argTypes := #[t, t] }, ty, ps, af, gd⟩) (hw : Region.wanted ⟨some d, .call { callee := .builtin .append, args := #[x, y], argTypes := #[t, t] }, ty, ps, af, gd⟩ (yielded ops a.tmps) = true) (hn : d < n) {e size bytes k c m c2 : Nat} {z : Value} {A A2 : Option Addr} {xs news : List Value} (ht : P.underlying t = some (.slice e)) (hi : (P.info? e).map (fun i => (i.zero, i.size, i.bytes)) = some (some z, size, bytes)) (hzs : z.cells.size = size) (hsz : Nat.blt 0 size = true)
    (hx : evl l x = some (.slice A k c)) (hy : evl l y = some (.slice A2 m c2)) (hown : Own w e size (.slice A k c) k xs) (hr : Sl w A2 m size news) (h1 : ∀ u ∈ news, u.oneCell' = true) (h63 : k + m ≤ maxLen) (hb : (k + m) * bytes ≤ 140737488355328)
    (hK : ∀ a' w' A' c', App w w' e size A k c xs news m A' c' → S w' ∧ (Fr n a' ((d, .slice A' (k + m) c') :: l) → K a' w')) : wpOp P ops Q i (fun a w => S w ∧ K a w) a w := by
  obtain ⟨A', c', w', hrun, happ⟩ := E.append (dst := some d) (ty := ty) (ps := ps) (af := af) (gd := gd) f ht hi hzs hsz hx hy hown hr h1 h63 hb
  exact O.val f ho rfl hn hw hrun (hK a w' A' c' happ).1 fun a' f' => (hK a' w' A' c' happ).2 f'
theorem O.buildSlice {i : Nat} (f : Fr n a l) {parts : Array (Nat × Operand)} {len : Nat} (ho : ops[i]? = some ⟨some d, .buildSlice t len parts, ty, ps, af, gd⟩) (hw : Region.wanted ⟨some d, .buildSlice t len parts, ty, ps, af, gd⟩ (yielded ops a.tmps) = true) (hn : d < n) {vs : List (Nat × Value)} {e sz : Nat} {cells : Array Value} {z : Value} (hx : (parts.map fun p => (p.1, a.eval p.2)).toList = vs) (hu : P.underlying t = some (.slice e))
    (hi : (P.info? e).map (fun i => (i.zero, i.size)) = some (some z, sz)) (hs : Nat.ble (len * sz) 16777216 = true) (hp : Nat.beq (len * sz) 0 = false) (hf : Instr.fill (fun i => some (i * sz, sz)) ((Array.range (len * sz)).map fun j => z.cells[j % z.cells.size]!) vs = some cells)
    (hS : ∀ w', Kept [] w w' → S w') (hK : ∀ a' w' g, Newb w w' g e cells → S w' → Fr n a' ((d, .slice (some ⟨g, 0, none⟩) len len) :: l) → K a' w') : wpOp P ops Q i (fun a w => S w ∧ K a w) a w :=
  O.val f ho rfl hn hw (E.buildSlice f hx hu hi hs hp hf) (hS _ (newb w e _).kept) fun a' f' => hK a' _ _ (newb w e _) (hS _ (newb w e _).kept) f'
theorem O.alloc {i : Nat} (f : Fr n a l) (ho : ops[i]? = some ⟨some d, .alloc t, ty, ps, af, gd⟩) (hw : Region.wanted ⟨some d, .alloc t, ty, ps, af, gd⟩ (yielded ops a.tmps) = true) (hn : d < n) {z : Value} (hz : ∀ w, (zeroValue t).run P w = .ok z w) {cs : Array Value} (hcs : z.cells = cs)
    (hS : ∀ w', Kept [] w w' → S w') (hK : ∀ a' w' g, Newb w w' g t cs → S w' → Fr n a' ((d, .pointer (some ⟨g, 0, none⟩)) :: l) → K a' w') : wpOp P ops Q i (fun a w => S w ∧ K a w) a w :=
  O.val f ho rfl hn hw (E.alloc f hz) (hS _ (newb w t _).kept) fun a' f' => hK a' _ _ (hcs ▸ newb w t _) (hS _ (newb w t _).kept) f'
end
end Go.Hub
