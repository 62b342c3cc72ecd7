/- Helps of our own: '[]byte(s)', 'string(runes)'. -/
import Derived.Test.YtpdacegpjofdeaaDoorRng
import Derived.Laws.IdiomStrings
import Derived.Laws.Cover4
set_option linter.all false
namespace Go.Hub
open Go.RowKit Go.Lib

theorem getD_some' {l : List UInt8} {k : Nat} (h : k < l.length) : l[k]? = some (l.getD k 0) := by simp [List.getD, h]
/-- what '[]byte(s)' lays -/
theorem bs_conv (E : List TypeId) (B : Nat) (w : World) (s : ByteArray) (e : TypeId) (he : e ∈ E) (cap : Nat) (fr : Nat × Nat) :
    Bs E B (w.drew.alloc (.cells (bytesRow s cap) e fr)) (some ⟨w.heap.size, 0, none⟩) s.data.toList.length s.data.toList := by
  refine ⟨rfl, fun _ => ⟨w.heap.size, 0, rfl, by simp, .inr ⟨_, e, fr, heap_alloc_new w.drew _, he⟩, fun j x hx => ?_⟩⟩
  rw [Nat.zero_add]
  have hj : j < s.data.size := by
    have := (List.getElem?_eq_some_iff.1 hx).1
    simpa using this
  refine (World.cell?_alloc_mark w.drew _ _ _ _).trans ?_
  rw [bytesRow_at s cap j hj]
  have : x = s.data[j] := by
    have := (List.getElem?_eq_some_iff.1 hx).2
    simp at this
    exact this.symm
  rw [this]
  rfl
theorem toN (z : Int) (n : Nat) (h : z = n) : z.toNat.toUInt8 = UInt8.ofNat n := by
  subst h
  simp
set_option maxRecDepth 100000 in
theorem encode_bytes (r : Int) : Utf8.encode r = ⟨(encodeRune r).toArray⟩ := by
  unfold Utf8.encode encodeRune
  rw [validRune_eq, validRune]
  by_cases h1 : 0 ≤ r ∧ r ≤ 127
  · rw [encodeRuneZ_one h1.1 h1.2, decide_eq_true (by omega)]
    simp only [if_true, if_pos (show r.toNat < 128 by omega)]
    simp only [List.map_cons, List.map_nil]
  by_cases h2 : 128 ≤ r ∧ r ≤ 2047
  · rw [encodeRuneZ_two h2.1 h2.2, decide_eq_true (by omega)]
    simp only [if_true, if_neg (show ¬ r.toNat < 128 by omega), if_pos (show r.toNat < 2048 by omega)]
    simp only [List.map_cons, List.map_nil]
    rw [toN _ (192 + r.toNat / 64) (by omega), toN _ (128 + r.toNat % 64) (by omega)]
  by_cases h3 : (2048 ≤ r ∧ r < 55296) ∨ (57343 < r ∧ r ≤ 65535)
  · rw [encodeRuneZ_three h3, decide_eq_true (by omega)]
    simp only [if_true, if_neg (show ¬ r.toNat < 128 by omega), if_neg (show ¬ r.toNat < 2048 by omega), if_pos (show r.toNat < 65536 by omega)]
    simp only [List.map_cons, List.map_nil]
    rw [toN _ (224 + r.toNat / 4096) (by omega), toN _ (128 + r.toNat / 64 % 64) (by omega), toN _ (128 + r.toNat % 64) (by omega)]
  by_cases h4 : 65536 ≤ r ∧ r ≤ 1114111
  · rw [encodeRuneZ_four h4.1 h4.2, decide_eq_true (by omega)]
    simp only [if_true, if_neg (show ¬ r.toNat < 128 by omega), if_neg (show ¬ r.toNat < 2048 by omega), if_neg (show ¬ r.toNat < 65536 by omega)]
    simp only [List.map_cons, List.map_nil]
    rw [toN _ (240 + r.toNat / 262144) (by omega), toN _ (128 + r.toNat / 4096 % 64) (by omega), toN _ (128 + r.toNat / 64 % 64) (by omega), toN _ (128 + r.toNat % 64) (by omega)]
  · rw [encodeRuneZ_bad (by omega), decide_eq_false (by omega)]
    simp only [Bool.false_eq_true, if_false, Utf8.runeError]
    rfl
theorem foldl_enc : ∀ (ns : List Int) (r : ByteArray), ns.foldl (fun r n => r ++ Utf8.encode n) r = ⟨r.data ++ (encs ns).toArray⟩
  | [], r => by simp [encs]
  | n :: ns, r => by
    rw [List.foldl_cons, foldl_enc ns]
    apply ByteArray.ext
    rw [ByteArray.data_append, encode_bytes]
    simp [encs]
theorem runesBytes_eq (ns : List Int) : runesBytes ns = ⟨(encs ns).toArray⟩ := by
  unfold runesBytes
  rw [foldl_enc]
  apply ByteArray.ext
  show (#[] ++ (encs ns).toArray : Array UInt8) = _
  simp
/-- 'string(runes)' -/
theorem conv_runes {P : Program} {w : World} {src dst e : TypeId} {B : Nat} {A : Option Addr} {c : Nat} {ns : List Int} (h : Rds w B 1 A ns.length (ns.map (Value.int .i32))) (hs : P.underlying src = some (.slice e)) (he : P.underlying e = some (.int .i32)) (hd : P.underlying dst = some .string) :
    (convert src dst (.slice A ns.length c)).run P w = .ok (.string ⟨(encs ns).toArray⟩) w := by
  rcases A with _ | a
  · have hn : ns = [] := by
      rcases Nat.eq_zero_or_pos ns.length with h0 | h0
      · exact List.eq_nil_of_length_eq_zero h0
      · obtain ⟨b, off, he, _⟩ := h.2 h0
        cases he
    subst hn
    rw [run_convert_runes_string w src dst e _ _ _ hs he hd]
    rfl
  · have := run_convert_runes (P := P) w src dst e a ns.length c ns (Nat.le_refl _) hs he hd (fun j hj => by
      obtain ⟨b, off, he, _, hc⟩ := h.2 (by omega)
      cases he
      rw [add_none]
      refine hc j _ ?_
      simp [List.getD, hj])
    rw [this, List.take_length, runesBytes_eq]
end Go.Hub
