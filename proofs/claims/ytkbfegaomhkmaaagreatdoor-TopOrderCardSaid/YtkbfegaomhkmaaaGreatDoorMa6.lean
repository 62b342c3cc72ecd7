/- What the kit's contracts of slices.AppendSeq and of the iterators over a map's keys ask of this program. -/
import Derived.Test.YtkbfegaomhkmaaaGreatDoorMa3
import Derived.Test.YtkbfegaomhkmaaaGreatDoorMa5
set_option linter.all false
namespace Go.Ev
open Go Go.Proofs Go.Shelf
def renI : Ren := ⟨fun | 10 => 253 | 11 => 313 | n => n, fun | 3 => 233 | 23 => 159 | 24 => 31 | 26 => 3 | 27 => 253 | 28 => 254 | 33 => 72 | n => n, fun n => n⟩
def renS : Ren := ⟨fun | 10 => 343 | 11 => 403 | n => n, fun | 3 => 3 | 23 => 305 | 24 => 184 | 26 => 9 | 27 => 391 | 28 => 392 | 33 => 143 | n => n, fun n => n⟩
theorem layI10 : SlLaysZI.n10 Tryz.prog renI := {
  mixed := mixed
  f10 := ⟨ "maps.Keys[map[int]*hubbub/broker.conn,int,*hubbub/broker.conn]$1", by decide, by kernel_rfl⟩
  t0 := by kernel_rfl
  a0 := fun _ => by kernel_rfl
  z0 := fun _ => by kernel_rfl
  v0 := fun _ => by kernel_rfl
  t4 := by kernel_rfl
  a4 := fun _ => by kernel_rfl
  z4 := fun _ => by kernel_rfl
  v4 := fun _ => by kernel_rfl
  t23 := by kernel_rfl
  a23 := fun _ => by kernel_rfl
  z23 := fun _ => by kernel_rfl
  v23 := fun _ => by kernel_rfl
  t26 := by kernel_rfl
  a26 := fun _ => by kernel_rfl
  z26 := fun _ => by kernel_rfl
  v26 := fun _ => by kernel_rfl
  t33 := by kernel_rfl
  a33 := fun _ => by kernel_rfl
  z33 := fun _ => by kernel_rfl
  v33 := fun _ => by kernel_rfl
}
theorem layI11 : SlLaysZI.n11 Tryz.prog renI := {
  mixed := mixed
  f11 := ⟨ "slices.AppendSeq[[]int,int]", by decide, by kernel_rfl⟩
  t0 := by kernel_rfl
  a0 := fun _ => by kernel_rfl
  z0 := fun _ => by kernel_rfl
  v0 := fun _ => by kernel_rfl
  t24 := by kernel_rfl
  a24 := fun _ => by kernel_rfl
  z24 := fun _ => by kernel_rfl
  v24 := fun _ => by kernel_rfl
  t26 := by kernel_rfl
  a26 := fun _ => by kernel_rfl
  z26 := fun _ => by kernel_rfl
  v26 := fun _ => by kernel_rfl
  t28 := by kernel_rfl
  a28 := fun _ => by kernel_rfl
  z28 := fun _ => by kernel_rfl
  v28 := fun _ => by kernel_rfl
  i26 := by kernel_rfl
}
theorem layS10 : SlLaysZ.n10 Tryz.prog renS := {
  mixed := mixed
  f10 := ⟨ "maps.Keys[map[string]int,string,int]$1", by decide, by kernel_rfl⟩
  t0 := by kernel_rfl
  a0 := fun _ => by kernel_rfl
  z0 := fun _ => by kernel_rfl
  v0 := fun _ => by kernel_rfl
  t4 := by kernel_rfl
  a4 := fun _ => by kernel_rfl
  z4 := fun _ => by kernel_rfl
  v4 := fun _ => by kernel_rfl
  t23 := by kernel_rfl
  a23 := fun _ => by kernel_rfl
  z23 := fun _ => by kernel_rfl
  v23 := fun _ => by kernel_rfl
  t26 := by kernel_rfl
  a26 := fun _ => by kernel_rfl
  z26 := fun _ => by kernel_rfl
  v26 := fun _ => by kernel_rfl
  t33 := by kernel_rfl
  a33 := fun _ => by kernel_rfl
  z33 := fun _ => by kernel_rfl
  v33 := fun _ => by kernel_rfl
}
theorem layS11 : SlLaysZ.n11 Tryz.prog renS := {
  mixed := mixed
  f11 := ⟨ "slices.AppendSeq[[]string,string]", by decide, by kernel_rfl⟩
  t0 := by kernel_rfl
  a0 := fun _ => by kernel_rfl
  z0 := fun _ => by kernel_rfl
  v0 := fun _ => by kernel_rfl
  t24 := by kernel_rfl
  a24 := fun _ => by kernel_rfl
  z24 := fun _ => by kernel_rfl
  v24 := fun _ => by kernel_rfl
  t26 := by kernel_rfl
  a26 := fun _ => by kernel_rfl
  z26 := fun _ => by kernel_rfl
  v26 := fun _ => by kernel_rfl
  t28 := by kernel_rfl
  a28 := fun _ => by kernel_rfl
  z28 := fun _ => by kernel_rfl
  v28 := fun _ => by kernel_rfl
  i26 := by kernel_rfl
}
theorem extN_ok : ExtS Tryz.prog pool extN := by
  intro φ pb pn G h nx w f e0 args kv R hf RR hp ha hz H hk
  have hf : (Bool.rec (Nat.beq f 403) true (Nat.beq f 313) : Bool) = true := hf
  have H2 : Tall φ (Bool.rec (apq false 9 343 f args.size e0 h nx kv) (apq true 3 253 f args.size e0 h nx kv) (Nat.beq f 313)) := H
  cases hb : Nat.beq f 313 with
  | true =>
    rw [hb] at H2
    obtain rfl : f = 313 := Nat.eq_of_beq_eq_true hb
    exact apqI_ok layI10 layI11 RR ha H2 hk
  | false =>
    rw [hb] at H2 hf
    obtain rfl : f = 403 := Nat.eq_of_beq_eq_true hf
    exact apqS_ok layS10 layS11 RR ha H2 hk
end Go.Ev
