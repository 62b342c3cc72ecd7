/- The contracts of New, Split, side, Send. -/
import Derived.Test.YtmffkpcimddbpaaB
import Derived.Test.YtmffkpcimddbpaaPush
set_option linter.all false
namespace Go.Proofs.Ytmffkpcimddbpaa
open Go.RowKit Go.Hub

/-- the net: its struct in block b, what is under way in the row that the value v leads to, the mask -/
def IsN (B : Nat) (w : World) (b : Nat) (v : Value) (mask : Int) (ms : List F) : Prop :=
  Blk w b 44 #[v, .int .i64 mask] ∧ B ≤ b ∧ (∀ k, v.ownBlock = some k → B ≤ k) ∧ ∃ xs, Own w 33 3 v ms.length xs ∧ Seq 3 (relF [5] B w) xs ms
theorem relF_same {B : Nat} (w w' : World) (cs : List Value) (m : F) (hs : Same [5] B w w') (h : relF [5] B w cs m) : relF [5] B w' cs m := h.same hs
theorem relF_one {E : List TypeId} {B : Nat} {w : World} (cs : List Value) (m : F) (h : relF E B w cs m) : ∀ u ∈ cs, u.oneCell' = true := by
  obtain ⟨A, c, rfl, _⟩ := h
  simp [Value.oneCell']
def sideL (mask n : Int) : Int := if n < 0 ∨ 62 < n then 0 else bits .and .i64 (mask / 2 ^ n.toNat) 1

set_option maxHeartbeats 400000 in
theorem new_any (B : Nat) (w : World) (hB : B ≤ w.heap.size) :
    Calls Try.prog 6 #[] w fun e w' => e = .returned (.pointer (some ⟨w.heap.size,0,none⟩)) ∧ IsN B w' w.heap.size (.slice none 0 0) 0 [] ∧ Below w.heap.size w w' := by
  have key : IsN B (w.alloc (.cells #[.slice none 0 0, .int .i64 0] 44)) w.heap.size (.slice none 0 0) 0 [] ∧ Below w.heap.size w (w.alloc (.cells #[.slice none 0 0, .int .i64 0] 44)) :=
    ⟨⟨Blk.new _ _ _, hB, by simp [Value.ownBlock], [], Own.nil _ _ _, Seq.nil _ _⟩, (Below.refl _ _).alloc (Nat.le_refl _) _⟩
  have K := hid key; clear key
  go_enter Try.func6, Try.ntmps6
  go_wp2
  go_ret
  exact ⟨rfl, K.out⟩
set_option maxHeartbeats 400000 in
theorem side_any (B b : Nat) (v : Value) (mask n : Int) (ms : List F) (w : World) (h : IsN B w b v mask ms) :
    Calls Try.prog 17 #[.pointer (some ⟨b, 0, none⟩), .int .i64 n] w fun e w' => e = .returned (.int .i64 (sideL mask n)) ∧ w = w' := by
  have c0 := h.1.cell_ (i := 1) rfl
  clear h
  by_cases h1 : n < 0
  · rw [show sideL mask n = 0 from by unfold sideL; rw [if_pos (.inl h1)]]
    go_enter Try.func17, Try.ntmps17
    go_wp2
    go_ret
    exact ⟨rfl, rfl⟩
  · by_cases h2 : 62 < n
    · rw [show sideL mask n = 0 from by unfold sideL; rw [if_pos (.inr h2)]]
      go_enter Try.func17, Try.ntmps17
      go_wp2
      go_ret
      exact ⟨rfl, rfl⟩
    · rw [show sideL mask n = bits .and .i64 (mask / 2 ^ n.toNat) 1 from by unfold sideL; rw [if_neg (by omega)]]
      have h3 : n < 64 := by omega
      go_enter Try.func17, Try.ntmps17
      go_wp2
      go_ret
      exact ⟨rfl, rfl⟩
set_option maxHeartbeats 400000 in
theorem sideR_any (mask n : Int) (w : World) : Calls Try.prog 13 #[.int .i64 mask, .int .i64 n] w fun e w' => e = .returned (.int .i64 (sideL mask n)) ∧ w = w' := by
  by_cases h1 : n < 0
  · rw [show sideL mask n = 0 from by unfold sideL; rw [if_pos (.inl h1)]]
    go_enter Try.func13, Try.ntmps13
    go_wp2
    go_ret
    exact ⟨rfl, rfl⟩
  · by_cases h2 : 62 < n
    · rw [show sideL mask n = 0 from by unfold sideL; rw [if_pos (.inr h2)]]
      go_enter Try.func13, Try.ntmps13
      go_wp2
      go_ret
      exact ⟨rfl, rfl⟩
    · rw [show sideL mask n = bits .and .i64 (mask / 2 ^ n.toNat) 1 from by unfold sideL; rw [if_neg (by omega)]]
      have h3 : n < 64 := by omega
      go_enter Try.func13, Try.ntmps13
      go_wp2
      go_ret
      exact ⟨rfl, rfl⟩
set_option maxHeartbeats 400000 in
theorem split_any (B b : Nat) (v : Value) (mask mask' : Int) (ms : List F) (w : World) (h : IsN B w b v mask ms) (hB : B ≤ w.heap.size) :
    Calls Try.prog 9 #[.pointer (some ⟨b, 0, none⟩), .int .i64 mask'] w fun e w' => e = .returned (.tuple #[]) ∧ IsN B w' b v mask' ms ∧ Kept [b] w w' ∧ Same [5] B w w' := by
  have c0 := h.1.cell_ (i := 1) rfl
  have c1 := h.1.frozen 1
  have key : IsN B (w.setCell ⟨b, 1, none⟩ (.int .i64 mask')) b v mask' ms ∧ Kept [b] w (w.setCell ⟨b, 1, none⟩ (.int .i64 mask')) ∧ Same [5] B w (w.setCell ⟨b, 1, none⟩ (.int .i64 mask')) := by
    obtain ⟨hb, hb1, hb2, xs, ho, hs⟩ := h
    have K : Kept [b] w (w.setCell ⟨b, 1, none⟩ (.int .i64 mask')) := (Kept.refl _ _).setCell (by simp) _
    have S : Same [5] B w (w.setCell ⟨b, 1, none⟩ (.int .i64 mask')) := .of_kept K (fun x hx hlt => by
      simp at hx; subst hx
      exact ⟨hb1, hb.not_typ (by simp)⟩)
    refine ⟨⟨hb.set_ 1 _, hb1, hb2, xs, ho.kept K (fun k hk hx => ?_), hs.imp fun cs m h => h.same S⟩, K, S⟩
    obtain ⟨_, cs, hcs⟩ := ho.blk k hk
    exact row_ne_struct (t := 44) hcs hb (by decide) (by simpa using hx)
  have K := hid key
  clear key h
  go_enter Try.func9, Try.ntmps9
  go_wp2
  go_end0
  exact ⟨rfl, K.out⟩

set_option maxHeartbeats 1000000 in
theorem send_any (B b : Nat) (v : Value) (mask : Int) (ms : List F) (A : Option Addr) (c : Nat) (m : F) (w : World) (h : IsN B w b v mask ms) (hm : Bs [5] B w A m.b.length m.b) (hn : m.b.length ≤ 1000000)
    (hB : B ≤ w.heap.size) (hlen : ms.length ≤ 65536) :
    Calls Try.prog 8 #[.pointer (some ⟨b, 0, none⟩), .int .i64 m.f, .int .i64 m.t, .slice A m.b.length c] w fun e w' => e = .returned (.tuple #[]) ∧
      ∃ v', IsN B w' b v' mask (ms ++ [m]) ∧ Kept (b :: v.ownBlock.toList) w w' ∧ Same [5] B w w' ∧ (∀ k, v'.ownBlock = some k → v.ownBlock = some k ∨ w.heap.size ≤ k) := by
  obtain ⟨hb, hb1, hb2, xs, ho, hs⟩ := h
  obtain ⟨A0, c0, rfl, hc1, hc2⟩ := ho.form
  have bl := hb.lt
  have e0 := hb.cell_ (i := 0) rfl
  obtain ⟨i0, hi0, hz0, hz1, hz2⟩ := info_parts info33
  have HH := hid (And.intro (And.intro hb (And.intro hb1 hb2)) (And.intro (And.intro ho hs) hm))
  have nb : ∀ k, (Value.slice A0 ms.length c0).ownBlock = some k → k ≠ b := fun k hk => by
    obtain ⟨_, cs, hcs⟩ := HH.out.2.1.1.blk k hk
    exact row_ne_struct (t := 44) hcs HH.out.1.1 (by decide)
  have nx : ∀ k, (Value.slice A0 ms.length c0).ownBlock = some k → k < w.heap.size := fun k hk => (HH.out.2.1.1.blk k hk).1
  have hb63 : ms.length + 1 ≤ maxLen := by unfold maxLen; omega
  have hbytes : (ms.length + 1) * 40 ≤ 140737488355328 := by omega
  have g1 := hb.frozen 0
  clear hb ho hs hm hb1 hb2
  go_enter Try.func8, Try.ntmps8
  go_wp2
  go_region_law (first
    | (go_simp; go_at_call 16; refine (copied_any B _ _ m _ (HH.out.2.2.drew) hn (by simp; omega)).mono ?_; rintro e w1 ⟨A1, c1, rfl, hm1, hbel1⟩; have b1 := HH.out.1.1.drew.below hbel1 (by simp; omega); have o1 := ((HH.out.2.1.1.drew).kept (Kept.of_below hbel1 []) (by simp)).alloc (.cells #[Value.int .i64 m.f, Value.int .i64 m.t, Value.slice A1 m.b.length c1] 33); have r1 := Rds.boxed w1 #[Value.int .i64 m.f, Value.int .i64 m.t, Value.slice A1 m.b.length c1] 33 3 rfl; have y0 := b1.cell_ (i := 0) rfl; have y0a := (b1.alloc (.cells #[Value.int .i64 m.f, Value.int .i64 m.t, Value.slice A1 m.b.length c1] 33)).cell_ (i := 0) rfl)
    | (refine step_append_own _ rfl (.tmp 12) (.tmp 18) _ rfl 33 i0 _ 3 40 Try.underlying26 hi0 hz0 hz1 hz2 rfl (by omega) (.slice A0 ms.length c0) ms.length xs rfl o1 _ _ _ _ _ rfl r1 (by simp [Value.oneCell']) hb63 hbytes ?_; intro v2 w2 o2 k2 at2; obtain ⟨A2, c2, hv2, hc3, hc4⟩ := o2.form; subst hv2; have b2 := (b1.alloc (.cells #[Value.int .i64 m.f, Value.int .i64 m.t, Value.slice A1 m.b.length c1] 33)).kept k2 (fun hx => nb _ (by simpa using hx) rfl); have z0 := b2.cell_ (i := 0) rfl; have z1 := b2.frozen 0))
  all_goals go_wp2
  all_goals go_end0
  all_goals
    have k1 : Kept [] w (w1.alloc (.cells #[Value.int .i64 m.f, Value.int .i64 m.t, Value.slice A1 m.b.length c1] 33)) := ((Kept.of_below hbel1 []).of_drew).alloc _
    have P := push_parts (i := 0) (m := m) relF_same (by decide) HH.out.1.2.1 HH.out.1.2.2 HH.out.1.1 (by decide) (by decide) HH.out.2.1.1 HH.out.2.1.2 k1 o2 k2 at2 ⟨A1, c1, rfl, hm1.same (.of_below ((Below.refl _ _).alloc (Nat.le_refl _) _))⟩ rfl hB
    exact ⟨rfl, _, ⟨P.1, HH.out.1.2.1, P.2.1, _, P.2.2.1, P.2.2.2.1⟩, P.2.2.2.2.1, P.2.2.2.2.2.1, P.2.2.2.2.2.2⟩
end Go.Proofs.Ytmffkpcimddbpaa
