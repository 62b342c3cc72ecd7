/- The step library, maps from int to bool ('IsSet'): made, looked up, stored to, deleted from; plain, and one operation of a drawn region. -/
import Derived.Test.YtpdacegpjofdeaaDoorSeg
set_option linter.all false
namespace Go.Hub
open Go.RowKit Go.Maps Go.ChangeMaps Go.MapKept

def insS (x : Int) (S : List Int) : List Int := if x ∈ S then S else x :: S
theorem mem_insS {x y : Int} {S : List Int} : y ∈ insS x S ↔ y = x ∨ y ∈ S := by
  unfold insS
  split
  · constructor
    · exact .inr
    · rintro (rfl | h)
      · assumption
      · exact h
  · simp
theorem insS_len (x : Int) (S : List Int) : (insS x S).length ≤ S.length + 1 := by unfold insS; split <;> simp
section
variable {P : Program} {k e t : TypeId} {w w' : World} {m : Nat} {S : List Int}
/-- a store of true, whether or not the key was there -/
theorem IsSet.put (h : IsSet P k e w m S) (hk : P.underlying k = some (.int .i64)) (he : P.underlying e = some .bool) (ht : P.underlying t = some (.map k e)) {x : Int} (hx : (Lit.int .i64 x).wf = true) (hS : S.length < maxLen) :
    ∃ w', (Instr.mapUpdate t (.map (some m)) (.int .i64 x) (.bool true)).run P w = .ok () w' ∧ IsSet P k e w' m (insS x S) ∧ Kept [m] w w' := by
  by_cases hn : x ∈ S
  · obtain ⟨hnd, D, ho, hs, hhas, hat⟩ := h
    have hkey := keyOf_int_mk hk hx
    have K := int_keyed hk
    obtain ⟨w', hrun, ho', ht'⟩ := ho.store K ht hS hkey (plainElem_bool he true)
    have tidy := ho.tidy K
    have hsz : Maps.size (D.put (.int .i64 x) (.lit (.bool true))) = S.length := by
      rw [Maps.size_put tidy, hhas x]
      simp [hn, hs]
    refine ⟨w', hrun, ?_, turned_kept ht'⟩
    rw [insS, if_pos hn]
    refine ⟨hnd, _, ownsMap_exact ho' (by rw [hsz]; exact Nat.le_refl _), hsz, ?_, ?_⟩
    · intro y
      by_cases hy : y = x
      · subst hy
        rw [Maps.has_put_same ho.isMap (K.key hkey)]
        simp [hn]
      · rw [Maps.has_put_other (int_lit_inj.2 hy), hhas y]
    · intro y
      by_cases hy : y = x
      · subst hy
        rw [Maps.atKey_put_same ho.isMap (K.key hkey)]
        simp [hn]
      · rw [Maps.atKey_put_other (int_lit_inj.2 hy), hat y]
  · rw [insS, if_neg hn]
    exact h.store hk he ht hx hS hn
end
section
variable {P : Program} {ops : Array Oper} {rest : List Oper} {a : Act} {w : World} {Q : Exit → Act → World → Prop} {n d : Nat} {l : FL} {v : Value} {dst : Option Nat} {ty : TypeId} {ps : String} {af : Array Edge} {gd : Option (Nat × Bool)} {x y z : Operand} {t k e : TypeId} {Sw : World → Prop} {K : Act → World → Prop} {m : Nat} {S : List Int}
theorem E.makeMap (f : Fr n a l) : (execOp a.eval ⟨dst, .makeMap t none, ty, ps, af, gd⟩).run P w = .ok (.value (.map (some w.heap.size))) (w.alloc (.map #[] 0)) := by
  simp [execOp]
  rfl
theorem L.makeMap (f : Fr n a l) (hw : Region.wanted ⟨some d, .makeMap t none, ty, ps, af, gd⟩ (yielded ops a.tmps) = true) (hn : d < n) (k e : TypeId)
    (hK : ∀ a' w' g, IsSet P k e w' g [] → Kept [] w w' → w.heap.size ≤ g → Fr n a' ((d, .map (some g)) :: l) → wpList P ops Q rest a' w') : wpList P ops Q (⟨some d, .makeMap t none, ty, ps, af, gd⟩ :: rest) a w :=
  L.val f hw rfl hn (E.makeMap f) fun a' f' => hK a' _ _ (IsSet.made w P k e) ⟨rfl, rfl, rfl, by simp, fun i hi _ => (Go.MapKept.heap_alloc w _).2 i hi⟩ (Nat.le_refl _) f'
theorem E.look (f : Fr n a l) (h : IsSet P k e w m S) (hk : P.underlying k = some (.int .i64)) (he : P.underlying e = some .bool) (ht : P.underlying t = some (.map k e)) (hz : ∀ w, (zeroValue e).run P w = .ok (.bool false) w) {i : Int} (hx : evl l x = some (.map (some m))) (hy : evl l y = some (.int .i64 i)) (hi : (Lit.int .i64 i).wf = true) :
    (execOp a.eval ⟨dst, .lookup t x y false, ty, ps, af, gd⟩).run P w = .ok (.value (.bool (decide (i ∈ S)))) w := by
  simp [execOp, f.ev hx, f.ev hy, h.look hk he ht (hz w) hi]
theorem E.mapPut (f : Fr n a l) {w' : World} {i : Int} (hx : evl l x = some (.map (some m))) (hy : evl l y = some (.int .i64 i)) (hz : evl l z = some (.bool true)) (h : (Instr.mapUpdate t (.map (some m)) (.int .i64 i) (.bool true)).run P w = .ok () w') :
    (execOp a.eval ⟨dst, .mapUpdate t x y z, ty, ps, af, gd⟩).run P w = .ok .skip w' := by
  simp [execOp, f.ev hx, f.ev hy, f.ev hz, h]
theorem L.mapPut (f : Fr n a l) (hw : Region.wanted ⟨none, .mapUpdate t x y z, ty, ps, af, gd⟩ (yielded ops a.tmps) = true) (h : IsSet P k e w m S) (hk : P.underlying k = some (.int .i64)) (he : P.underlying e = some .bool) (ht : P.underlying t = some (.map k e)) {i : Int} (hx : evl l x = some (.map (some m))) (hy : evl l y = some (.int .i64 i)) (hz : evl l z = some (.bool true)) (hi : (Lit.int .i64 i).wf = true) (hS : S.length < maxLen)
    (hK : ∀ a' w', IsSet P k e w' m (insS i S) → Kept [m] w w' → Fr n a' l → wpList P ops Q rest a' w') : wpList P ops Q (⟨none, .mapUpdate t x y z, ty, ps, af, gd⟩ :: rest) a w := by
  obtain ⟨w', hrun, r1, r2⟩ := h.put hk he ht hi hS
  exact L.act f hw rfl (E.mapPut f hx hy hz hrun) fun a' f' => hK a' w' r1 r2 f'
theorem O.mapPut {q : Nat} (f : Fr n a l) (ho : ops[q]? = some ⟨none, .mapUpdate t x y z, ty, ps, af, gd⟩) (hw : Region.wanted ⟨none, .mapUpdate t x y z, ty, ps, af, gd⟩ (yielded ops a.tmps) = true) (h : IsSet P k e w m S) (hk : P.underlying k = some (.int .i64)) (he : P.underlying e = some .bool) (ht : P.underlying t = some (.map k e)) {i : Int} (hx : evl l x = some (.map (some m))) (hy : evl l y = some (.int .i64 i)) (hz : evl l z = some (.bool true)) (hi : (Lit.int .i64 i).wf = true) (hS : S.length < maxLen)
    (hSw : ∀ w', Kept [m] w w' → Sw w') (hK : ∀ a' w', IsSet P k e w' m (insS i S) → Kept [m] w w' → Fr n a' l → K a' w') : wpOp P ops Q q (fun a w => Sw w ∧ K a w) a w := by
  obtain ⟨w', hrun, r1, r2⟩ := h.put hk he ht hi hS
  exact O.act f ho rfl hw (E.mapPut f hx hy hz hrun) (hSw w' r2) fun a' f' => hK a' w' r1 r2 f'
theorem E.mapDrop (f : Fr n a l) {w' : World} {i : Int} (hx : evl l x = some (.map (some m))) (hy : evl l y = some (.int .i64 i)) (h : (Builtin.delete_ #[t, k] ty #[.map (some m), .int .i64 i]).run P w = .ok (.tuple #[]) w') :
    (execOp a.eval ⟨dst, .call { callee := .builtin .delete, args := #[x, y], argTypes := #[t, k] }, ty, ps, af, gd⟩).run P w = .ok (.value (.tuple #[])) w' := by
  simp [execOp, resolve, invoke, builtin, f.ev hx, f.ev hy, h]
theorem wf64 {i : Int} (h : -9223372036854775808 ≤ i ∧ i ≤ 9223372036854775807) : (Lit.int .i64 i).wf = true := by simpa [Lit.wf, IntKind.min, IntKind.max, IntKind.signed, IntKind.bits] using h
theorem L.mapDrop (f : Fr n a l) (hw : Region.wanted ⟨none, .call { callee := .builtin .delete, args := #[x, y], argTypes := #[t, k] }, ty, ps, af, gd⟩ (yielded ops a.tmps) = true) (h : IsSet P k e w m S) (hk : P.underlying k = some (.int .i64)) (ht : P.underlying t = some (.map k e)) {i : Int} (hx : evl l x = some (.map (some m))) (hy : evl l y = some (.int .i64 i)) (hi : (Lit.int .i64 i).wf = true)
    (hK : ∀ a' w', IsSet P k e w' m (S.erase i) → Kept [m] w w' → Fr n a' l → wpList P ops Q rest a' w') : wpList P ops Q (⟨none, .call { callee := .builtin .delete, args := #[x, y], argTypes := #[t, k] }, ty, ps, af, gd⟩ :: rest) a w := by
  obtain ⟨w', hrun, r1, r2⟩ := h.drop hk ht hi ty
  exact L.drop f hw rfl (E.mapDrop f hx hy hrun) fun a' f' => hK a' w' r1 r2 f'
theorem E.lenM (f : Fr n a l) (h : IsSet P k e w m S) (ht : P.underlying t = some (.map k e)) (hx : evl l x = some (.map (some m))) :
    (execOp a.eval ⟨dst, .call { callee := .builtin .len, args := #[x], argTypes := #[t] }, ty, ps, af, gd⟩).run P w = .ok (.value (.int .i64 S.length)) w := by
  simp [execOp, resolve, invoke, builtin, f.ev hx, h.len ht ty]
end
end Go.Hub
