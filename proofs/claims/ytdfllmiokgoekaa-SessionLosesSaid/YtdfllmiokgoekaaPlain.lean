/- The plain numbers of the ids: the next free one ('nxt'), and what one Take does ('takeF'). -/
set_option linter.all false
namespace Go.Ids

def stp (t : Int) : Int := t % 65535 + 1
def nxtG : Nat → List Int → Int → Option Int
  | 0, _, _ => none
  | k + 1, S, u => if u ∈ S then nxtG k S (stp u) else some u
def nxt (S : List Int) (t : Int) : Int := (nxtG 65535 S (stp t)).getD 0

theorem stp_bd (t : Int) (h : 0 ≤ t) : 1 ≤ stp t ∧ stp t ≤ 65535 := by unfold stp; omega
theorem nxtG_spec : ∀ (k : Nat) (S : List Int) (u r : Int), 1 ≤ u → u ≤ 65535 → nxtG k S u = some r → r ∉ S ∧ 1 ≤ r ∧ r ≤ 65535
  | 0, _, _, _, _, _, h => by simp [nxtG] at h
  | k + 1, S, u, r, h1, h2, h => by
    unfold nxtG at h
    split at h
    · exact nxtG_spec k S (stp u) r (stp_bd u (by omega)).1 (stp_bd u (by omega)).2 h
    · rename_i hn
      obtain rfl : u = r := by simpa using h
      exact ⟨hn, h1, h2⟩
theorem nxtG_none : ∀ (k : Nat) (S : List Int) (u : Int), 1 ≤ u → u ≤ 65535 → nxtG k S u = none → ∀ i : Nat, i < k → ((u - 1 + i) % 65535 + 1) ∈ S
  | 0, _, _, _, _, _ => fun i hi => by omega
  | k + 1, S, u, h1, h2, h => by
    intro i hi
    unfold nxtG at h
    split at h
    · rename_i hu
      match i, hi with
      | 0, _ => rw [show (u - 1 + (0 : Nat)) % 65535 + 1 = u from by omega]; exact hu
      | i + 1, hi =>
        have := nxtG_none k S (stp u) (stp_bd u (by omega)).1 (stp_bd u (by omega)).2 h i (by omega)
        rw [show (stp u - 1 + i) % 65535 + 1 = (u - 1 + (i + 1 : Nat)) % 65535 + 1 from by unfold stp; omega] at this
        exact this
    · cases h
theorem count_le : ∀ (n : Nat) (S : List Int), (∀ x : Nat, 1 ≤ x → x ≤ n → (x : Int) ∈ S) → n ≤ S.length
  | 0, _, _ => Nat.zero_le _
  | n + 1, S, h => by
    have hm := h (n + 1) (by omega) (by omega)
    have := count_le n (S.erase (n + 1 : Nat)) (fun x h1 h2 => (List.mem_erase_of_ne (by omega)).2 (h x h1 (by omega)))
    rw [List.length_erase_of_mem hm] at this
    have : 0 < S.length := List.length_pos_of_mem hm
    omega
theorem nxtG_some (S : List Int) (t : Int) (ht : 0 ≤ t) (hS : S.length < 65535) : nxtG 65535 S (stp t) = some (nxt S t) := by
  unfold nxt
  cases h : nxtG 65535 S (stp t) with
  | some r => rfl
  | none =>
    exfalso
    have hb := stp_bd t ht
    have := count_le 65535 S (fun x h1 h2 => by
      have := nxtG_none 65535 S (stp t) hb.1 hb.2 h (((x : Int) - stp t) % 65535).toNat (by omega)
      rw [show (stp t - 1 + ((((x : Int) - stp t) % 65535).toNat : Int)) % 65535 + 1 = (x : Int) from by omega] at this
      exact this)
    omega
theorem nxt_spec (S : List Int) (t : Int) (ht : 0 ≤ t) (hS : S.length < 65535) : nxt S t ∉ S ∧ 1 ≤ nxt S t ∧ nxt S t ≤ 65535 :=
  nxtG_spec _ _ _ _ (stp_bd t ht).1 (stp_bd t ht).2 (nxtG_some S t ht hS)
theorem nxt_free (S : List Int) (t : Int) (h : stp t ∉ S) : nxt S t = stp t := by
  unfold nxt nxtG
  rw [if_neg h]; rfl
theorem nxt_past (S : List Int) (t : Int) (h : stp t ∈ S) (h' : stp (stp t) ∉ S) : nxt S t = stp (stp t) := by
  unfold nxt nxtG
  rw [if_pos h]
  unfold nxtG
  rw [if_neg h']; rfl
end Go.Ids
