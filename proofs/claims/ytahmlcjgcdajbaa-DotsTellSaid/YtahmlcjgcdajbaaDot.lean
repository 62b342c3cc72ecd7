/- Dots: lists of them in memory; the plain words on them. -/
import Derived.Test.YtahmlcjgcdajbaaSl
set_option linter.all false
namespace Go.Hub
open Go.RowKit

structure Dt where
  node : Int
  epoch : Int
  n : Int
deriving DecidableEq
abbrev dcell (d : Dt) : List Value := [.int .i64 d.node, .int .i64 d.epoch, .int .i64 d.n]
def dcells (l : List Dt) : List Value := l.flatMap dcell
theorem dcells_len (l : List Dt) : (dcells l).length = l.length * 3 := flat_len dcell 3 (fun _ => rfl) l
theorem dcells_at (l : List Dt) (i : Nat) (d : Dt) (h : l[i]? = some d) : ∀ j u, (dcell d)[j]? = some u → (dcells l)[i * 3 + j]? = some u := fun j u hu => flat_at dcell 3 (fun _ => rfl) l i d h j u hu
theorem dcells_one (l : List Dt) : ∀ u ∈ dcells l, u.oneCell' = true := fun u hu => by
  unfold dcells at hu
  simp at hu
  obtain ⟨d, _, rfl | rfl | rfl⟩ := hu <;> rfl
def Ds (w : World) (A : Option Addr) (l : List Dt) : Prop := Sl w A l.length 3 (dcells l)
section
variable {w w' : World} {A : Option Addr} {l : List Dt} {L : List Nat}
theorem Ds.kept (h : Ds w A l) (hk : Kept [] w w') : Ds w' A l := Sl.kept h hk
theorem Ds.keptF (h : Ds w A l) (hk : Kept L w w') (hf : Far A L) : Ds w' A l := Sl.keptF h hk hf
theorem Ds.row (h : Ds w A l) {b off i : Nat} {d : Dt} (hA : A = some ⟨b, off, none⟩) (hd : l[i]? = some d) : w.rangeAt b (off + i * 3) (dcell d) :=
  Sl.row h (by have := (List.getElem?_eq_some_iff.1 hd).1; omega) hA (dcells_at l i d hd)
theorem Ds.addr (h : Ds w A l) {i : Nat} (hi : i < l.length) : ∃ b off, A = some ⟨b, off, none⟩ := Sl.addr h (by omega)
theorem Ds.nil (w : World) (A : Option Addr) : Ds w A [] := Sl.nil w A 3
end
/-! ### the plain words -/
def cmpI (x y : Int) : Int := if x < y then -1 else if y < x then 1 else 0
def livesI (a b : Dt) : Int := if cmpI a.node b.node = 0 then cmpI a.epoch b.epoch else cmpI a.node b.node
def mayB (d : Dt) : Bool := decide (0 ≤ d.node) && decide (d.node < 16) && decide (1 ≤ d.epoch) && decide (1 ≤ d.n)
def nextOk (p : Option Dt) (d : Dt) : Bool := match p with | none => true | some q => decide (livesI q d < 0)
/-- a list from its k-th on may be, behind p -/
def rightFrom : Option Dt → List Dt → Bool
  | _, [] => true
  | p, d :: r => mayB d && nextOk p d && rightFrom (some d) r
def rightB (l : List Dt) : Bool := rightFrom none l
def topI (l : List Dt) (node epoch : Int) : Int := match l.find? fun x => decide (x.node = node) && decide (x.epoch = epoch) with | some x => x.n | none => 0
def prevD (l : List Dt) (k : Nat) : Option Dt := if k = 0 then none else l[k - 1]?
theorem right_step (l : List Dt) (k : Nat) (d : Dt) (h : l[k]? = some d) : rightFrom (prevD l k) (l.drop k) = (mayB d && nextOk (prevD l k) d && rightFrom (prevD l (k + 1)) (l.drop (k + 1))) := by
  have hk := (List.getElem?_eq_some_iff.1 h).1
  rw [List.drop_eq_getElem_cons hk]
  have e : l[k] = d := by rw [List.getElem?_eq_getElem hk] at h; simpa using h
  rw [e]
  have e2 : prevD l (k + 1) = some d := by simp [prevD, h]
  rw [e2]
  rfl
theorem prev_none {l : List Dt} {k : Nat} (d : Dt) (h : k = 0) : nextOk (prevD l k) d = true := by subst h; rfl
theorem prev_some {l : List Dt} {k : Nat} {q : Dt} (d : Dt) (h : 0 < k) (hq : l[Int.toNat ((k : Int) - 1)]? = some q) : nextOk (prevD l k) d = decide (livesI q d < 0) := by
  have e : Int.toNat ((k : Int) - 1) = k - 1 := by omega
  rw [e] at hq
  unfold prevD
  rw [if_neg (by omega), hq]
  rfl
end Go.Hub
