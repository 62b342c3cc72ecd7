/- The plain law of levels: the document's are the program's. -/
import Derived.Test.YtpdacegpjofdeaaDoorTj
set_option linter.all false
namespace Go.Proofs.YtpdacegpjofdeaaDoor
open Go.RowKit Go.Hub Go.Lib

def sp : List UInt8 → List (List UInt8)
  | [] => [[]]
  | b :: l => if b = 47 then [] :: sp l else match sp l with
    | h :: t => (b :: h) :: t
    | [] => [[b]]
def consH (x : List UInt8) : List (List UInt8) → List (List UInt8)
  | h :: t => (x ++ h) :: t
  | [] => []
theorem consH_nil (m : List (List UInt8)) : consH [] m = m := by cases m <;> rfl
theorem sp_ne (l : List UInt8) : ∃ h t, sp l = h :: t := by
  cases l with
  | nil => exact ⟨[], [], rfl⟩
  | cons b l =>
    rw [sp]
    split
    · exact ⟨_, _, rfl⟩
    · split <;> exact ⟨_, _, rfl⟩
theorem split_eq (l : List UInt8) : Lib.split (47 :: l) [47] = [] :: Lib.split l [47] := by
  have hix : index (47 :: l) [47] = ((0 : Nat) : Int) := by rw [index]; simp [List.isPrefixOf]
  unfold Lib.split
  rw [count_cons_eq, Nat.add_comm, splitK, hix]
  simp
theorem split_ne {b : UInt8} (l : List UInt8) (h : b ≠ 47) : Lib.split (b :: l) [47] = consH [b] (Lib.split l [47]) := by
  have hp : ([47] : List UInt8).isPrefixOf (b :: l) = false := by simp [List.isPrefixOf, Ne.symm h]
  have hix : index (b :: l) [47] = if index l [47] == -1 then -1 else index l [47] + 1 := by rw [index, hp]; simp
  unfold Lib.split
  rw [count_cons_ne b 47 l h]
  by_cases hm : index l [47] = -1
  · rw [count_miss hm]
    rfl
  · have hge := index_ge l [47]
    obtain ⟨j, hj⟩ : ∃ j : Nat, index l [47] = j := ⟨(index l [47]).toNat, by omega⟩
    have hix' : index (b :: l) [47] = ((j + 1 : Nat) : Int) := by rw [hix, if_neg (fun e => hm (beq_iff_eq.1 e)), hj]; omega
    rw [count_hit (by simp) hj, Nat.add_comm, splitK, splitK, hix', hj]
    rw [if_neg (by rw [beq_iff_eq]; omega), if_neg (by rw [beq_iff_eq]; omega)]
    simp only [Int.toNat_natCast, Nat.add_zero, List.length_cons, List.length_nil, Nat.zero_add, List.take_succ_cons, List.drop_succ_cons, consH, List.singleton_append]
theorem sp_split : ∀ l : List UInt8, sp l = Lib.split l [47]
  | [] => by rfl
  | b :: l => by
    by_cases h : b = 47
    · subst h
      rw [sp, if_pos rfl, split_eq, sp_split l]
    · obtain ⟨x, t, e⟩ := sp_ne l
      rw [sp, if_neg h, split_ne l h, ← sp_split l, e]
      rfl
theorem levGo_is : ∀ (l : List UInt8) (init : List ByteArray) (x : ByteArray), (levGo (init ++ [x]) l).map (·.data.toList) = init.map (·.data.toList) ++ consH x.data.toList (sp l)
  | [], init, x => by simp [levGo, sp, consH]
  | b :: l, init, x => by
    obtain ⟨h, t, e⟩ := sp_ne l
    by_cases hb : b = 47
    · rw [levGo, if_pos hb, levGo_is l (init ++ [x]) ⟨#[]⟩, sp, if_pos hb]
      simp [consH, e]
    · rw [levGo, if_neg hb]
      have e1 : (init ++ [x]).getD ((init ++ [x]).length - 1) ⟨#[]⟩ = x := by simp [List.getD]
      have e2 : (init ++ [x]).set ((init ++ [x]).length - 1) (x ++ ⟨#[b]⟩) = init ++ [x ++ ⟨#[b]⟩] := by simp
      rw [e1, e2, levGo_is l init (x ++ ⟨#[b]⟩), sp, if_neg hb, e]
      simp [consH, ByteArray.data_append]
theorem map_inj {l m : List ByteArray} (h : l.map (·.data.toList) = m.map (·.data.toList)) : l = m := by
  refine List.map_inj_right (f := fun s : ByteArray => s.data.toList) ?_ |>.1 h
  intro x y hxy
  exact ByteArray.ext (Array.toList_inj.1 hxy)
theorem lev2_is (s : ByteArray) : lev2 s = levelsL s := by
  apply map_inj
  have h := levGo_is s.data.toList [] ⟨#[]⟩
  unfold lev2 levelsL
  rw [splitB_data]
  rw [List.nil_append] at h
  rw [h]
  simp only [List.map_nil, List.nil_append]
  rw [consH_nil, sp_split]
  rfl
end Go.Proofs.YtpdacegpjofdeaaDoor
