/- The kit's contracts laid at this dump (printed by lays2.py). -/
import Derived.Shelf.Strings.Split
import Derived.Test.YtpdacegpjofdeaaDoorProg
set_option linter.all false
namespace Go.Proofs.YtpdacegpjofdeaaDoor
open Go.Shelf
def spren : Ren := ⟨fun | 138 => 43 | 143 => 44 | 146 => 28 | 195 => 47 | 197 => 48 | 217 => 52 | 218 => 49 | 219 => 50 | 221 => 37 | 224 => 54 | 225 => 53 | 260 => 51 | 266 => 56 | 267 => 55 | 268 => 42 | 314 => 57 | n => n, fun | 31 => 26 | 46 => 49 | 51 => 58 | 105 => 42 | 119 => 53 | 138 => 55 | 139 => 56 | 146 => 59 | n => n, fun | 1 => 2 | 3 => 0 | 4 => 1 | n => n⟩
theorem splitL : Lays.n146 Tryd.prog spren := {
  mixed := by kernel_rfl
  f138 := by kernel_rfl
  f143 := by kernel_rfl
  f146 := by kernel_rfl
  f195 := by kernel_rfl
  f197 := by kernel_rfl
  f217 := by kernel_rfl
  f218 := by kernel_rfl
  f219 := by kernel_rfl
  f221 := by kernel_rfl
  f224 := by kernel_rfl
  f225 := by kernel_rfl
  f260 := by kernel_rfl
  f266 := by kernel_rfl
  f267 := by kernel_rfl
  f268 := by kernel_rfl
  f314 := by kernel_rfl
  t0 := by kernel_rfl
  a0 := fun _ => by kernel_rfl
  z0 := fun _ => by kernel_rfl
  v0 := fun _ => by kernel_rfl
  t3 := by kernel_rfl
  a3 := fun _ => by kernel_rfl
  z3 := fun _ => by kernel_rfl
  v3 := fun _ => by kernel_rfl
  t4 := by kernel_rfl
  a4 := fun _ => by kernel_rfl
  z4 := fun _ => by kernel_rfl
  v4 := fun _ => by kernel_rfl
  t5 := by kernel_rfl
  a5 := fun _ => by kernel_rfl
  z5 := fun _ => by kernel_rfl
  v5 := fun _ => by kernel_rfl
  t9 := by kernel_rfl
  a9 := fun _ => by kernel_rfl
  z9 := fun _ => by kernel_rfl
  v9 := fun _ => by kernel_rfl
  t21 := by kernel_rfl
  a21 := fun _ => by kernel_rfl
  z21 := fun _ => by kernel_rfl
  v21 := fun _ => by kernel_rfl
  t31 := by kernel_rfl
  a31 := fun _ => by kernel_rfl
  z31 := fun _ => by kernel_rfl
  v31 := fun _ => by kernel_rfl
  t46 := by kernel_rfl
  a46 := fun _ => by kernel_rfl
  z46 := fun _ => by kernel_rfl
  v46 := fun _ => by kernel_rfl
  t51 := by kernel_rfl
  a51 := fun _ => by kernel_rfl
  z51 := fun _ => by kernel_rfl
  v51 := fun _ => by kernel_rfl
  t105 := by kernel_rfl
  a105 := fun _ => by kernel_rfl
  z105 := fun _ => by kernel_rfl
  v105 := fun _ => by kernel_rfl
  t119 := by kernel_rfl
  a119 := fun _ => by kernel_rfl
  z119 := fun _ => by kernel_rfl
  t138 := by kernel_rfl
  a138 := fun _ => by kernel_rfl
  z138 := fun _ => by kernel_rfl
  v138 := fun _ => by kernel_rfl
  t139 := by kernel_rfl
  a139 := fun _ => by kernel_rfl
  z139 := fun _ => by kernel_rfl
  v139 := fun _ => by kernel_rfl
  t146 := by kernel_rfl
  a146 := fun _ => by kernel_rfl
  z146 := fun _ => by kernel_rfl
  v146 := fun _ => by kernel_rfl
  g1 := by kernel_rfl
  g3 := by kernel_rfl
  g4 := by kernel_rfl
}
end Go.Proofs.YtpdacegpjofdeaaDoor
