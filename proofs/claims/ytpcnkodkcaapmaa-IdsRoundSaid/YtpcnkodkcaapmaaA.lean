/- The contracts of ids.New, Take, Free, Has, Len and of the reference's NewIds, Take, Free. -/
import Derived.Test.YtpcnkodkcaapmaaRows
import Derived.Test.YtpcnkodkcaapmaaHub
import Derived.Test.YtpcnkodkcaapmaaPlain
set_option linter.all false
namespace Go.Proofs.Ytpcnkodkcaapmaa
open Go.RowKit Go.Hub Go.Ids

theorem zb (w : World) : (zeroValue 4).run Try.prog w = .ok (.bool false) w := by kernel_rfl

def IsIds (w : World) (b m : Nat) (most t : Int) (S : List Int) : Prop :=
  Blk w b 43 #[.map (some m), .int .i64 most, .int .i64 t] ∧ IsSet Try.prog 3 4 w m S ∧ b ≠ m
def IsRef (w : World) (b m : Nat) (most t : Int) (S : List Int) : Prop :=
  Blk w b 36 #[.int .i64 most, .int .i64 t, .map (some m)] ∧ IsSet Try.prog 3 4 w m S ∧ b ≠ m

theorem IsIds.kept {L : List Nat} {w w' : World} {b m : Nat} {most t : Int} {S : List Int} (h : IsIds w b m most t S) (hk : Kept L w w') (hb : b ∉ L) (hm : m ∉ L) : IsIds w' b m most t S :=
  ⟨h.1.kept hk hb, h.2.1.kept hk hm, h.2.2⟩
theorem IsRef.kept {L : List Nat} {w w' : World} {b m : Nat} {most t : Int} {S : List Int} (h : IsRef w b m most t S) (hk : Kept L w w') (hb : b ∉ L) (hm : m ∉ L) : IsRef w' b m most t S :=
  ⟨h.1.kept hk hb, h.2.1.kept hk hm, h.2.2⟩

def clamp (n : Int) : Int := min (max n 0) 65535
theorem clamp_bd (n : Int) : 0 ≤ clamp n ∧ clamp n ≤ 65535 := by unfold clamp; omega

set_option maxHeartbeats 400000 in
theorem newRef (n : Int) (w : World) :
    Calls Try.prog 9 #[.int .i64 n] w fun e w' => e = .returned (.pointer (some ⟨w.heap.size+1,0,none⟩)) ∧ IsRef w' (w.heap.size + 1) w.heap.size (clamp n) 0 [] ∧ Kept [] w w' := by
  have hmm := @run_makeMap Try.prog
  have key : ∀ k, k = clamp n → IsRef ((w.alloc (.map #[] 0)).alloc (.cells #[.int .i64 k, .int .i64 0, .map (some w.heap.size)] 36)) (w.heap.size + 1) w.heap.size (clamp n) 0 [] := by
    rintro k rfl
    refine ⟨?_, (IsSet.made w _ _ _).alloc _, by omega⟩
    have := Blk.new (w.alloc (.map #[] 0)) 36 #[.int .i64 (clamp n), .int .i64 0, .map (some w.heap.size)]
    rwa [World.size_alloc] at this
  have kk : ∀ o o', Kept [] w ((w.alloc o).alloc o') := fun o o' => ((Kept.refl _ _).alloc _).alloc _
  have K := hid (And.intro key kk); clear key kk
  go_enter Try.func9, Try.ntmps9
  go_wp2
  all_goals (go_ret; exact ⟨rfl, K.out.1 _ (by unfold clamp; omega), K.out.2 _ _⟩)
set_option maxHeartbeats 400000 in
theorem newIds (n : Int) (w : World) :
    Calls Try.prog 8 #[.int .i64 n] w fun e w' => e = .returned (.pointer (some ⟨w.heap.size+1,0,none⟩)) ∧ IsIds w' (w.heap.size + 1) w.heap.size (clamp n) 0 [] ∧ Kept [] w w' := by
  have hmm := @run_makeMap Try.prog
  have key : ∀ k, k = clamp n → IsIds ((w.alloc (.map #[] 0)).alloc (.cells #[.map (some w.heap.size), .int .i64 k, .int .i64 0] 43)) (w.heap.size + 1) w.heap.size (clamp n) 0 [] := by
    rintro k rfl
    refine ⟨?_, (IsSet.made w _ _ _).alloc _, by omega⟩
    have := Blk.new (w.alloc (.map #[] 0)) 43 #[.map (some w.heap.size), .int .i64 (clamp n), .int .i64 0]
    rwa [World.size_alloc] at this
  have kk : ∀ o o', Kept [] w ((w.alloc o).alloc o') := fun o o' => ((Kept.refl _ _).alloc _).alloc _
  have K := hid (And.intro key kk); clear key kk
  go_enter Try.func8, Try.ntmps8
  go_wp2
  all_goals (go_ret; exact ⟨rfl, K.out.1 _ (by unfold clamp; omega), K.out.2 _ _⟩)

theorem wfi {n : Int} (h : -9223372036854775808 ≤ n ∧ n ≤ 9223372036854775807) : (Lit.int .i64 n).wf = true := WalkArith.wf_i64 (by omega)

set_option maxHeartbeats 400000 in
theorem len_any (b m : Nat) (most t : Int) (S : List Int) (w : World) (h : IsIds w b m most t S) :
    Calls Try.prog 15 #[.pointer (some ⟨b, 0, none⟩)] w fun e w' => e = .returned (.int .i64 S.length) ∧ w = w' := by
  obtain ⟨hb, hm, hbm⟩ := h
  have c0 := hb.cell_ (i := 0) rfl
  have hl := hm.len Try.underlying34 3
  clear hb hm hbm
  go_enter Try.func15, Try.ntmps15
  go_wp2
  go_ret
  exact ⟨rfl, rfl⟩
set_option maxHeartbeats 400000 in
theorem has_any (b m : Nat) (most t : Int) (S : List Int) (x : Int) (hx : (Lit.int .i64 x).wf = true) (w : World) (h : IsIds w b m most t S) :
    Calls Try.prog 14 #[.pointer (some ⟨b, 0, none⟩), .int .i64 x] w fun e w' => e = .returned (.bool (decide (x ∈ S))) ∧ w = w' := by
  obtain ⟨hb, hm, hbm⟩ := h
  have c0 := hb.cell_ (i := 0) rfl
  have hl := hm.look Try.underlying3 Try.underlying4 Try.underlying34 (zb w) hx
  clear hb hm hbm
  go_enter Try.func14, Try.ntmps14
  go_wp2
  go_ret
  exact ⟨rfl, rfl⟩
set_option maxHeartbeats 400000 in
theorem free_any (b m : Nat) (most t : Int) (S : List Int) (x : Int) (hx : (Lit.int .i64 x).wf = true) (w : World) (h : IsIds w b m most t S) :
    Calls Try.prog 12 #[.pointer (some ⟨b, 0, none⟩), .int .i64 x] w fun e w' => e = .returned (.bool (decide (x ∈ S))) ∧ IsIds w' b m most t (S.erase x) ∧ Kept [b, m] w w' := by
  obtain ⟨hb, hm, hbm⟩ := h
  have c0 := hb.cell_ (i := 0) rfl
  have hl := hm.look Try.underlying3 Try.underlying4 Try.underlying34 (zb w) hx
  obtain ⟨w1, hd, hm1, hk⟩ := hm.drop Try.underlying3 Try.underlying34 hx 0
  have F : IsIds w1 b m most t (S.erase x) := ⟨hb.kept hk (by simpa using hbm), hm1, hbm⟩
  have K : Kept [b, m] w w1 := hk.mono (by simp)
  have FK := hid (And.intro F K)
  have hc1 : w1.cell? ⟨b, 0, none⟩ = some (.map (some m)) := F.1.cell_ (i := 0) rfl
  clear hb hm hbm hk hm1 F K
  go_enter Try.func12, Try.ntmps12
  go_wp2
  go_ret
  exact ⟨rfl, FK.out⟩
end Go.Proofs.Ytpcnkodkcaapmaa
