/- The contracts of bytes.Clone, net.copied. -/
import Derived.Test.YtmffkpcimddbpaaRows
import Derived.Test.YtmffkpcimddbpaaMem
set_option linter.all false
namespace Go.Proofs.Ytmffkpcimddbpaa
open Go.RowKit Go.Hub

/-- a flight -/
structure F where
  f : Int
  t : Int
  b : List UInt8
def relF (E : List TypeId) (B : Nat) (w : World) (cs : List Value) (m : F) : Prop :=
  ∃ A c, cs = [.int .i64 m.f, .int .i64 m.t, .slice A m.b.length c] ∧ Bs E B w A m.b.length m.b
theorem relF.same {E : List TypeId} {B : Nat} {w w' : World} {cs : List Value} {m : F} (h : relF E B w cs m) (hs : Same E B w w') : relF E B w' cs m := by
  obtain ⟨A, c, e, hb⟩ := h
  exact ⟨A, c, e, hb.same hs⟩

theorem info5 : (Try.prog.info? 5).map (fun i => (i.zero, i.size, i.bytes)) = some (some (.int .u8 0), 1, 1) := by kernel_rfl
theorem info33 : (Try.prog.info? 33).map (fun i => (i.zero, i.size, i.bytes)) = some (some (.agg #[.int .i64 0, .int .i64 0, .slice none 0 0]), 3, 40) := by kernel_rfl

theorem own_empty (w : World) (e : TypeId) : Own (w.alloc (.cells #[] e)) e 1 (.slice (some ⟨w.heap.size, 0, none⟩) 0 0) 0 [] :=
  ⟨rfl, .inr ⟨w.heap.size, 0, 0, #[], rfl, heap_alloc_new w _, Nat.le_refl _, by simp [maxLen], by simp, fun j u hu => by simp at hu⟩⟩

set_option maxHeartbeats 400000 in
theorem clone_any (B : Nat) (A : Option Addr) (n c : Nat) (l : List UInt8) (w : World) (h : Bs [5] B w A n l) (hn : n ≤ 1000000) :
    Calls Try.prog 19 #[.slice A n c] w fun e w' => ∃ A' c', e = .returned (.slice A' n c') ∧ Bs [5] B w' A' n l ∧ Below w.heap.size w w' := by
  obtain ⟨i0, hi0, hz0, hz1, hz2⟩ := info_parts info5
  have hq := fun (w : World) => Lib.run_eql_slice_nil (P := Try.prog) w 27 5 A n c 0 0 Try.underlying27
  rcases A with _ | a
  · have h0 : n = 0 := by
      rcases Nat.eq_zero_or_pos n with h0 | h0
      · exact h0
      · obtain ⟨b, off, e, _⟩ := h.2 h0
        cases e
    subst h0
    have key : ∃ A' c', Ending.returned (.slice none 0 0) = .returned (.slice A' 0 c') ∧ Bs [5] B w A' 0 l ∧ Below w.heap.size w w := ⟨none, 0, rfl, h, Below.refl _ _⟩
    have K := hid key
    clear key h
    go_enter Try.func19, Try.ntmps19
    go_wp2
    go_ret
    exact K.out
  · have hown := own_empty w 5
    have hr := h.rds
    have hr2 : Rds (w.alloc (.cells #[] 5)) w.heap.size 1 (some a) n (l.map u8) := hr.alloc (Nat.le_refl _) _
    have h1 := u8_one (l := l)
    have hb1 : 0 + n ≤ maxLen := by unfold maxLen; omega
    have hb2 : (0 + n) * 1 ≤ 140737488355328 := by omega
    clear h hr
    go_enter Try.func19, Try.ntmps19
    go_wp2_with (first
      | (at_builtin
         refine wpList_append_own' _ rfl (.tmp 5) (.tmp 6) _ rfl 5 i0 _ 1 1 Try.underlying27 hi0 hz0 hz1 hz2 rfl (by omega) (.slice (some ⟨w.heap.size, 0, none⟩) 0 0) 0 [] rfl hown _ _ _ _ _ rfl hr2 h1 hb1 hb2 ?_
         intro v1 w1 hown1 hk1 hb1))
    go_ret
    obtain ⟨A', c', hv, _⟩ := hown1.form
    rw [hv] at hown1
    refine ⟨A', c', by rw [← Nat.zero_add n]; exact congrArg _ hv, ?_, ?_⟩
    · exact Bs.of_own (by simpa using hown1) (by simp)
    · have : Kept [] w w1 := ((Kept.refl [] w).alloc _).trans hk1 (fun x hx hlt => by simp [Value.ownBlock] at hx; omega)
      exact this.below (by simp) (Nat.le_refl _)

theorem relF.old {E : List TypeId} {B : Nat} {w w' : World} {cs : List Value} {m : F} (h : relF E B w cs m) (hs : Below w.heap.size w w') : relF E B w' cs m := h.same (.of_below hs)

theorem sz33 : (Try.prog.info? 33).map (·.size) = some 3 := by kernel_rfl

set_option maxHeartbeats 400000 in
theorem copied_any (B : Nat) (A : Option Addr) (c : Nat) (m : F) (w : World) (h : Bs [5] B w A m.b.length m.b) (hn : m.b.length ≤ 1000000) (hB : B ≤ w.heap.size) :
    Calls Try.prog 16 #[.agg #[.int .i64 m.f, .int .i64 m.t, .slice A m.b.length c]] w fun e w' => ∃ A' c', e = .returned (.agg #[.int .i64 m.f, .int .i64 m.t, .slice A' m.b.length c']) ∧ Bs [5] B w' A' m.b.length m.b ∧ Below w.heap.size w w' := by
  go_enter Try.func16, Try.ntmps16
  go_wp2_with fail
  refine (clone_any B A _ c _ _ (h.same (.of_below (((Below.refl _ _).alloc (Nat.le_refl _) _).alloc (by simp) _))) hn).mono ?_
  rintro e w1 ⟨A', c', rfl, hb, hbel⟩
  have b1 := ((Blk.new w 33 #[Value.int .i64 m.f, Value.int .i64 m.t, Value.slice A m.b.length c]).alloc (Obj.cells #[Value.int IntKind.i64 0, Value.int IntKind.i64 0, Value.slice none 0 0] 33)).below hbel (by simp; omega)
  have b2 := (Blk.new (w.alloc (Obj.cells #[Value.int .i64 m.f, Value.int .i64 m.t, Value.slice A m.b.length c] 33)) 33 #[Value.int IntKind.i64 0, Value.int IntKind.i64 0, Value.slice none 0 0]).below hbel (by simp)
  rw [World.size_alloc] at b2
  have c0 := b1.cell_ (i := 0) rfl
  have c1 := b1.cell_ (i := 1) rfl
  have c2 := b1.cell_ (i := 2) rfl
  have d0 := b2.cell_ (i := 0) rfl
  have d1 := b2.cell_ (i := 1) rfl
  have d2 := b2.cell_ (i := 2) rfl
  have f1 : w1.frozen? ⟨w.heap.size, 2, none⟩ = false := b1.frozen 2
  have e0 : w1.frozen? ⟨w.heap.size + 1, 0, none⟩ = false := b2.frozen 0
  have e1 : w1.frozen? ⟨w.heap.size + 1, 1, none⟩ = false := b2.frozen 1
  have e2 : w1.frozen? ⟨w.heap.size + 1, 2, none⟩ = false := b2.frozen 2
  have F : Below w.heap.size w w1 := (((Below.refl _ _).alloc (Nat.le_refl _) _).alloc (by simp) _).trans (hbel.mono (by simp; omega))
  have sz : w.heap.size + 1 < w1.heap.size := by have := b2.lt; omega
  have H := hid (And.intro (And.intro hb F) (And.intro b1 b2))
  clear b1 b2 hb hbel F h
  go_wp2
  obtain ⟨⟨hb, F⟩, b1, b2⟩ := H.out
  clear c0 c1 c2 d0 d1 d2 f1 e0 e1 e2 H
  have K : Kept [w.heap.size, w.heap.size + 1] w1 _ := ((Kept.refl _ w1).setCell (p := ⟨w.heap.size, 2, none⟩) (by simp) (.slice A' m.b.length c')).set3 (g := w.heap.size + 1) (v0 := .int .i64 m.f) (v1 := .int .i64 m.t) (v2 := .slice A' m.b.length c') (by simp)
  refine ret_cell (g := w.heap.size + 1) rfl _ rfl (Blk.set3 (b2.far (p := ⟨w.heap.size, 2, none⟩) (by simp) _)) Try.underlying33 rfl sz33 rfl ⟨A', c', rfl, ?_, ?_⟩
  · refine hb.same (.of_kept K ?_)
    simp
    exact ⟨fun _ => ⟨hB, b1.not_typ (by simp)⟩, fun _ => ⟨by omega, b2.not_typ (by simp)⟩⟩
  · exact F.trans (K.below (by simp) (by omega))
end Go.Proofs.Ytmffkpcimddbpaa
