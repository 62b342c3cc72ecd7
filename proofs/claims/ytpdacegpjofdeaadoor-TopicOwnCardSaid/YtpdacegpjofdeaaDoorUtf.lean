/- Plain law: runes of bytes, over the model's own decoding: what they are in a prefix, in a rest, behind runes that were encoded. -/
import Derived.Lib.MapLaws
set_option linter.all false
namespace Go.Hub
open Go.Lib

/-! ### the runes of bytes, each with its width -/
def rwf : Nat → List UInt8 → List (Nat × Nat)
  | 0, _ => []
  | f + 1, l => if l = [] then [] else decodeL l :: rwf f (l.drop (decodeL l).2)
def rwl (l : List UInt8) : List (Nat × Nat) := rwf l.length l
theorem rwf_nil (f : Nat) : rwf f [] = [] := by cases f <;> simp [rwf]
theorem rwf_fuel : ∀ (n m : Nat) (l : List UInt8), l.length ≤ n → l.length ≤ m → rwf n l = rwf m l
  | 0, m, l, hn, _ => by
    have : l = [] := List.eq_nil_of_length_eq_zero (by omega)
    subst this
    rw [rwf_nil, rwf_nil]
  | n + 1, 0, l, _, hm => by
    have : l = [] := List.eq_nil_of_length_eq_zero (by omega)
    subst this
    rw [rwf_nil, rwf_nil]
  | n + 1, m + 1, l, hn, hm => by
    by_cases hne : l = []
    · subst hne; rw [rwf_nil, rwf_nil]
    · have hw := decodeL_width l
      have hl : 0 < l.length := List.length_pos_iff.2 hne
      simp only [rwf, if_neg hne]
      rw [rwf_fuel n m _ (by rw [List.length_drop]; omega) (by rw [List.length_drop]; omega)]
theorem rw_nil : rwl [] = [] := rfl
theorem rw_step (l : List UInt8) (hne : l ≠ []) : rwl l = decodeL l :: rwl (l.drop (decodeL l).2) := by
  have hw := decodeL_width l
  have hl : 0 < l.length := List.length_pos_iff.2 hne
  unfold rwl
  obtain ⟨n, hn⟩ : ∃ n, l.length = n + 1 := ⟨l.length - 1, by omega⟩
  rw [hn]
  simp only [rwf, if_neg hne]
  rw [rwf_fuel n _ _ (by rw [List.length_drop]; omega) (Nat.le_refl _)]
/-- induction along the runes -/
theorem rw_ind {P : List UInt8 → Prop} (h0 : P []) (h1 : ∀ l, l ≠ [] → P (l.drop (decodeL l).2) → P l) (l : List UInt8) : P l := by
  have : ∀ n (l : List UInt8), l.length ≤ n → P l := by
    intro n
    induction n with
    | zero => intro l hl; rw [List.eq_nil_of_length_eq_zero (by omega : l.length = 0)]; exact h0
    | succ n ih =>
      intro l hl
      by_cases hne : l = []
      · rw [hne]; exact h0
      · have hw := decodeL_width l
        have hp : 0 < l.length := List.length_pos_iff.2 hne
        exact h1 l hne (ih _ (by rw [List.length_drop]; omega))
  exact this _ l (Nat.le_refl _)

/-! ### what a prefix decodes to -/
set_option maxRecDepth 100000 in
set_option maxHeartbeats 4000000 in
theorem decodeN_cut (n k b0 b1 b2 b3 : Nat) (h1 : b1 < 256) (h2 : b2 < 256) (h3 : b3 < 256) (hk : 1 ≤ k) (hn : 1 ≤ n) (hkn : k ≤ n) (hw : (decodeN n b0 b1 b2 b3).2 ≤ k) :
    decodeN k b0 (if 1 < k then b1 else 0) (if 2 < k then b2 else 0) (if 3 < k then b3 else 0) = decodeN n b0 b1 b2 b3 := by
  rcases (show k = 1 ∨ k = 2 ∨ k = 3 ∨ 4 ≤ k by omega) with rfl | rfl | rfl | h4
  · simp only [decodeN] at hw ⊢
    simp
    repeat' split
    all_goals first | rfl | (exfalso; omega) | (exfalso; simp_all; done) | (simp_all; done) | (simp_all; omega)
  · simp only [decodeN] at hw ⊢
    simp
    repeat' split
    all_goals first | rfl | (exfalso; omega) | (exfalso; simp_all; done) | (simp_all; done) | (simp_all; omega)
  · simp only [decodeN] at hw ⊢
    simp
    repeat' split
    all_goals first | rfl | (exfalso; omega) | (exfalso; simp_all; done) | (simp_all; done) | (simp_all; omega)
  · rw [if_pos (by omega), if_pos (by omega), if_pos (by omega)]
    have e1 : (1 < k) = (1 < n) := propext ⟨fun _ => by omega, fun _ => by omega⟩
    have e2 : (2 < k) = (2 < n) := propext ⟨fun _ => by omega, fun _ => by omega⟩
    have e3 : (3 < k) = (3 < n) := propext ⟨fun _ => by omega, fun _ => by omega⟩
    simp only [decodeN, e1, e2, e3]
theorem getD_take0 (l : List UInt8) (k i : Nat) : ((l.take k).getD i 0).toNat = if i < k then (l.getD i 0).toNat else 0 := by
  by_cases h : i < k <;> simp [List.getD, List.getElem?_take, h]
theorem decodeL_take (l : List UInt8) (k : Nat) (hne : l ≠ []) (hw : (decodeL l).2 ≤ k) : decodeL (l.take k) = decodeL l := by
  have hk1 : 1 ≤ k := Nat.le_trans (decodeL_width l) hw
  by_cases hk : l.length ≤ k
  · rw [List.take_of_length_le hk]
  · have h1 := decodeL_width l
    have hl : 0 < l.length := List.length_pos_iff.2 hne
    have h1' := h1
    rw [decodeL_N] at hw ⊢
    rw [decodeL_N, getD_take0, getD_take0, getD_take0, getD_take0, if_pos (by omega), List.length_take, Nat.min_eq_left (by omega)]
    exact decodeN_cut _ _ _ _ _ _ (l.getD 1 0).toNat_lt (l.getD 2 0).toNat_lt (l.getD 3 0).toNat_lt hk1 hl (by omega) hw

/-! ### the first n runes' bytes -/
def wsum (n : Nat) (l : List UInt8) : Nat := (((rwl l).take n).map (·.2)).sum
theorem wsum_zero (l : List UInt8) : wsum 0 l = 0 := by simp [wsum]
theorem wsum_nil (n : Nat) : wsum n [] = 0 := by simp [wsum, rw_nil]
theorem wsum_succ (n : Nat) (l : List UInt8) (hne : l ≠ []) : wsum (n + 1) l = (decodeL l).2 + wsum n (l.drop (decodeL l).2) := by
  unfold wsum
  rw [rw_step l hne]
  simp
theorem wsum_le (l : List UInt8) : ∀ n, wsum n l ≤ l.length := by
  refine rw_ind (P := fun l => ∀ n, wsum n l ≤ l.length) (fun n => by simp [wsum_nil]) (fun l hne ih n => ?_) l
  cases n with
  | zero => simp [wsum_zero]
  | succ n =>
    have h := ih n
    have h2 := decodeL_le l hne
    rw [wsum_succ n l hne]
    rw [List.length_drop] at h
    omega
theorem rw_take (l : List UInt8) : ∀ n, rwl (l.take (wsum n l)) = (rwl l).take n := by
  refine rw_ind (P := fun l => ∀ n, rwl (l.take (wsum n l)) = (rwl l).take n) (fun n => by simp [rw_nil]) (fun l hne ih n => ?_) l
  cases n with
  | zero => simp [wsum_zero, rw_nil]
  | succ n =>
    have h2 := decodeL_le l hne
    have h1 := decodeL_width l
    have hs := wsum_succ n l hne
    have hd := decodeL_take l (wsum (n + 1) l) hne (by omega)
    have hne2 : l.take (wsum (n + 1) l) ≠ [] := by
      intro h
      have := congrArg List.length h
      simp at this
      rcases this with h | h
      · omega
      · exact hne h
    rw [rw_step _ hne2, hd, rw_step l hne]
    simp only [List.take_succ_cons]
    rw [List.drop_take, hs, Nat.add_sub_cancel_left, ih n]
theorem rw_drop (l : List UInt8) : ∀ n, rwl (l.drop (wsum n l)) = (rwl l).drop n := by
  refine rw_ind (P := fun l => ∀ n, rwl (l.drop (wsum n l)) = (rwl l).drop n) (fun n => by simp [rw_nil]) (fun l hne ih n => ?_) l
  cases n with
  | zero => simp [wsum_zero]
  | succ n =>
    rw [wsum_succ n l hne, rw_step l hne, List.drop_succ_cons, ← List.drop_drop, ih n]
theorem rw_len_le (l : List UInt8) : (rwl l).length ≤ l.length := by
  refine rw_ind (P := fun l => (rwl l).length ≤ l.length) (by simp [rw_nil]) (fun l hne ih => ?_) l
  have h2 := decodeL_le l hne
  have h1 := decodeL_width l
  rw [rw_step l hne, List.length_cons]
  rw [List.length_drop] at ih
  omega
/-- all runes' widths together are the bytes -/
theorem wsum_all (l : List UInt8) : ∀ n, (rwl l).length ≤ n → wsum n l = l.length := by
  refine rw_ind (P := fun l => ∀ n, (rwl l).length ≤ n → wsum n l = l.length) (fun n _ => by simp [wsum_nil]) (fun l hne ih n hn => ?_) l
  rw [rw_step l hne, List.length_cons] at hn
  have h2 := decodeL_le l hne
  cases n with
  | zero => omega
  | succ n =>
    rw [wsum_succ n l hne, ih n (by omega), List.length_drop]
    omega
theorem wsum_add (l : List UInt8) : ∀ n m, wsum (n + m) l = wsum n l + wsum m (l.drop (wsum n l)) := by
  intro n m
  unfold wsum
  have h := rw_drop l n
  unfold wsum at h
  rw [h, List.take_add, List.map_append, List.sum_append]

/-! ### the first n runes -/
def cutL (n : Nat) (l : List UInt8) : List UInt8 := l.take (wsum n l)
theorem rw_cut (n : Nat) (l : List UInt8) : rwl (cutL n l) = (rwl l).take n := rw_take l n
theorem cut_count (n : Nat) (l : List UInt8) : (rwl (cutL n l)).length = min n (rwl l).length := by rw [rw_cut, List.length_take]
theorem cut_len (n : Nat) (l : List UInt8) : (cutL n l).length = wsum n l := by
  rw [cutL, List.length_take, Nat.min_eq_left (wsum_le l n)]
theorem wsum_cut (n m : Nat) (l : List UInt8) : wsum m (cutL n l) = wsum (min m n) l := by
  unfold wsum
  rw [rw_cut, List.take_take]
theorem cut_less (n m : Nat) (l : List UInt8) (h : m ≤ n) : cutL m (cutL n l) = cutL m l := by
  have e := wsum_cut n m l
  rw [Nat.min_eq_left h] at e
  have hle : wsum m l ≤ wsum n l := by
    obtain ⟨k, rfl⟩ : ∃ k, n = m + k := ⟨n - m, by omega⟩
    rw [wsum_add]
    omega
  unfold cutL at e ⊢
  rw [e, List.take_take, Nat.min_eq_left hle]
theorem cut_more (n m : Nat) (l : List UInt8) (h : n ≤ m) : cutL m (cutL n l) = cutL n l := by
  have e := wsum_cut n m l
  rw [Nat.min_eq_right h] at e
  have e2 := cut_len n l
  unfold cutL at e e2 ⊢
  rw [e, List.take_of_length_le (by omega)]
theorem cut_all (n : Nat) (l : List UInt8) (h : (rwl l).length ≤ n) : cutL n l = l := by
  unfold cutL
  rw [wsum_all l n h, List.take_length]

/-! ### where they go wrong -/
/-- the bytes begin with none that is valid -/
def badL (l : List UInt8) : Bool := (decodeL l).1 == 65533 && (decodeL l).2 == 1
def chkf : Nat → Nat → List UInt8 → Int
  | 0, _, _ => -1
  | f + 1, i, l => if l = [] then -1 else if badL l || (decodeL l).1 == 0 then (i : Int) else chkf f (i + (decodeL l).2) (l.drop (decodeL l).2)
def chk (l : List UInt8) : Int := chkf l.length 0 l
/-- all are valid, none is 0 -/
def okL (l : List UInt8) : Bool := (rwl l).all fun x => !(x.1 == 65533 && x.2 == 1) && !(x.1 == 0)
theorem chkf_nil (f i : Nat) : chkf f i [] = -1 := by cases f <;> simp [chkf]
theorem chkf_ok : ∀ (f i : Nat) (l : List UInt8), l.length ≤ f → ((chkf f i l = -1 ∧ okL l = true) ∨ (0 ≤ chkf f i l ∧ okL l = false))
  | 0, i, l, h => by
    rw [List.eq_nil_of_length_eq_zero (by omega : l.length = 0)]
    exact .inl ⟨chkf_nil 0 i, rfl⟩
  | f + 1, i, l, h => by
    by_cases hne : l = []
    · subst hne; exact .inl ⟨chkf_nil _ _, rfl⟩
    · have hw := decodeL_width l
      have hp : 0 < l.length := List.length_pos_iff.2 hne
      have hs : okL l = ((!badL l && !((decodeL l).1 == 0)) && okL (l.drop (decodeL l).2)) := by
        unfold okL
        rw [rw_step l hne, List.all_cons]
        rfl
      simp only [chkf, if_neg hne]
      cases hb : (badL l || (decodeL l).1 == 0)
      · have hb' : (!badL l && !((decodeL l).1 == 0)) = true := by simpa using hb
        rw [hs, hb', Bool.true_and]
        simp only [Bool.false_eq_true, if_false]
        exact chkf_ok f _ _ (by rw [List.length_drop]; omega)
      · have hb' : (!badL l && !((decodeL l).1 == 0)) = false := by
          rw [Bool.or_eq_true] at hb
          rcases hb with hb | hb <;> simp [hb]
        rw [hs, hb', Bool.false_and]
        simp only [if_true]
        exact .inr ⟨by omega, trivial⟩
theorem chk_ok (l : List UInt8) : (chk l = -1 ∧ okL l = true) ∨ (0 ≤ chk l ∧ okL l = false) := chkf_ok _ 0 l (Nat.le_refl _)
theorem chk_neg (l : List UInt8) (h : chk l < 0) : okL l = true := by
  rcases chk_ok l with ⟨_, h1⟩ | ⟨h1, _⟩
  · exact h1
  · omega

/-! ### the bytes of runes -/
def encs (l : List Int) : List UInt8 := l.flatMap encodeRune
def runesL (l : List UInt8) : List Int := (rwl l).map fun x => (x.1 : Int)
/-- bytes that are whole come back -/
theorem enc_runes (l : List UInt8) : okL l = true → encs (runesL l) = l := by
  refine rw_ind (P := fun l => okL l = true → encs (runesL l) = l) (fun _ => by simp [encs, runesL, rw_nil]) (fun l hne ih h => ?_) l
  have hs : okL l = ((!badL l && !((decodeL l).1 == 0)) && okL (l.drop (decodeL l).2)) := by
    unfold okL
    rw [rw_step l hne, List.all_cons]
    rfl
  rw [hs] at h
  simp only [Bool.and_eq_true, Bool.not_eq_true'] at h
  have hb : ¬ ((decodeL l).1 = 65533 ∧ (decodeL l).2 = 1) := fun hc => by
    have := h.1.1
    simp [badL, hc.1, hc.2] at this
  have e := encode_decode l hne hb
  have ih := ih h.2
  unfold encs runesL at ih ⊢
  rw [rw_step l hne]
  simp only [List.map_cons, List.flatMap_cons]
  rw [ih, e, List.take_append_drop]
/-- what a number becomes as a rune -/
def cleanR (r : Int) : Nat := if (0 ≤ r ∧ r < 55296) ∨ (57343 < r ∧ r ≤ 1114111) then r.toNat else 65533
theorem getD_a (a : UInt8) (t : List UInt8) (n : Nat) : (a :: t).getD (n + 1) 0 = t.getD n 0 := by simp [List.getD]
theorem getD_z (a : UInt8) (t : List UInt8) : (a :: t).getD 0 0 = a := by simp [List.getD]
theorem toNat_u8 (z : Int) (h0 : 0 ≤ z) (h1 : z < 256) : (z.toNat.toUInt8).toNat = z.toNat := by
  simp
  omega
set_option maxRecDepth 100000 in
set_option maxHeartbeats 4000000 in
theorem decode_enc (r : Int) (t : List UInt8) : decodeL (encodeRune r ++ t) = (cleanR r, (encodeRune r).length) := by
  rw [decodeL_N]
  have hlen : (encodeRune r ++ t).length = (encodeRune r).length + t.length := by simp
  rw [hlen]
  unfold encodeRune
  by_cases h1 : 0 ≤ r ∧ r ≤ 127
  · rw [encodeRuneZ_one h1.1 h1.2]
    simp only [List.map_cons, List.map_nil, List.cons_append, List.nil_append, getD_a, getD_z, List.length_cons, List.length_nil]
    rw [toNat_u8 _ (by omega) (by omega)]
    unfold decodeN cleanR
    rw [if_pos (by omega), if_pos (by omega)]
  by_cases h2 : 128 ≤ r ∧ r ≤ 2047
  · rw [encodeRuneZ_two h2.1 h2.2]
    simp only [List.map_cons, List.map_nil, List.cons_append, List.nil_append, getD_a, getD_z, List.length_cons, List.length_nil]
    rw [toNat_u8 _ (by omega) (by omega), toNat_u8 _ (by omega) (by omega)]
    unfold decodeN cleanR
    rw [if_neg (by omega), if_pos (by omega), if_pos (by omega), if_pos (by omega)]
    apply Prod.ext <;> simp <;> omega
  by_cases h3 : (2048 ≤ r ∧ r < 55296) ∨ (57343 < r ∧ r ≤ 65535)
  · rw [encodeRuneZ_three h3]
    simp only [List.map_cons, List.map_nil, List.cons_append, List.nil_append, getD_a, getD_z, List.length_cons, List.length_nil]
    rw [toNat_u8 _ (by omega) (by omega), toNat_u8 _ (by omega) (by omega), toNat_u8 _ (by omega) (by omega)]
    unfold decodeN cleanR
    rw [if_neg (by omega), if_neg (by omega), if_pos (by omega), if_pos (by omega), if_pos (by omega)]
    apply Prod.ext <;> simp <;> omega
  by_cases h4 : 65536 ≤ r ∧ r ≤ 1114111
  · rw [encodeRuneZ_four h4.1 h4.2]
    simp only [List.map_cons, List.map_nil, List.cons_append, List.nil_append, getD_a, getD_z, List.length_cons, List.length_nil]
    rw [toNat_u8 _ (by omega) (by omega), toNat_u8 _ (by omega) (by omega), toNat_u8 _ (by omega) (by omega), toNat_u8 _ (by omega) (by omega)]
    unfold decodeN cleanR
    rw [if_neg (by omega), if_neg (by omega), if_neg (by omega), if_pos (by omega), if_pos (by omega), if_pos (by omega)]
    apply Prod.ext <;> simp <;> omega
  · rw [encodeRuneZ_bad (by omega)]
    simp only [List.map_cons, List.map_nil, List.cons_append, List.nil_append, getD_a, getD_z, List.length_cons, List.length_nil]
    rw [toNat_u8 _ (by omega) (by omega), toNat_u8 _ (by omega) (by omega), toNat_u8 _ (by omega) (by omega)]
    unfold decodeN cleanR
    rw [if_neg (by decide), if_neg (by omega), if_pos ⟨by decide, ⟨by omega, by decide⟩, by omega, by decide⟩, if_pos (by decide), if_neg (by omega)]
    rfl
theorem encodeRune_len (r : Int) : 1 ≤ (encodeRune r).length ∧ (encodeRune r).length ≤ 4 := by
  have := encodeRuneZ_length r
  simpa [encodeRune] using this
def rwz (r : Int) : Nat × Nat := (cleanR r, (encodeRune r).length)
theorem rw_enc (l : List Int) (t : List UInt8) : rwl (encs l ++ t) = l.map rwz ++ rwl t := by
  induction l with
  | nil => simp [encs]
  | cons r l ih =>
    have hl := encodeRune_len r
    have e : encs (r :: l) ++ t = encodeRune r ++ (encs l ++ t) := by simp [encs]
    have hne : encodeRune r ++ (encs l ++ t) ≠ [] := by
      intro h
      have := congrArg List.length h
      rw [List.length_append, List.length_nil] at this
      omega
    rw [e, rw_step _ hne, decode_enc, List.drop_left' rfl, ih]
    simp [rwz]
theorem wsum_enc (l : List Int) (t : List UInt8) : wsum l.length (encs l ++ t) = (encs l).length := by
  unfold wsum
  rw [rw_enc, List.take_left' (by simp)]
  induction l with
  | nil => rfl
  | cons r l ih =>
    simp only [List.map_cons, List.sum_cons]
    rw [ih]
    simp [encs, rwz]
theorem cut_enc (l : List Int) (t : List UInt8) : cutL l.length (encs l ++ t) = encs l := by
  unfold cutL
  rw [wsum_enc, List.take_left' rfl]
theorem runes_app (l : List Int) (t : List UInt8) : runesL (encs l ++ t) = runesL (encs l) ++ runesL t := by
  unfold runesL
  have h := rw_enc l []
  rw [List.append_nil, rw_nil, List.append_nil] at h
  rw [rw_enc, h, List.map_append]
theorem count_enc (l : List Int) (t : List UInt8) : (rwl (encs l ++ t)).length = l.length + (rwl t).length := by
  rw [rw_enc, List.length_append, List.length_map]
end Go.Hub
