/- The contracts of Drop. -/
import Derived.Test.YtmffkpcimddbpaaC
import Derived.Test.YtmffkpcimddbpaaRet
set_option linter.all false
namespace Go.Proofs.Ytmffkpcimddbpaa
open Go.RowKit Go.Hub

def delL {α : Type} (ms : List α) (i : Nat) : List α := ms.take i ++ ms.drop (i + 1)
theorem delL_len {α : Type} (ms : List α) (i : Nat) (h : i < ms.length) : (delL ms i).length = ms.length - 1 := by
  unfold delL; simp; omega
theorem Seq.del {M : Type} {size : Nat} {rel : List Value → M → Prop} {xs : List Value} {ms : List M} (h : Seq size rel xs ms) {i : Nat} (hi : i < ms.length) : Seq size rel (xs.take (i * size) ++ xs.drop ((i + 1) * size)) (delL ms i) :=
  (h.take (by omega)).append (h.drop (i + 1))
theorem own_addr {w : World} {e : TypeId} {size n c : Nat} {A : Option Addr} {xs : List Value} (h : Own w e size (.slice A n c) n xs) (hn : 0 < n) : ∃ g off, A = some ⟨g, off, none⟩ := by
  rcases h.2 with ⟨_, h0⟩ | ⟨g, off, cap, cur, hv, _⟩
  · omega
  · injection hv with h1
    exact ⟨g, off, h1⟩

set_option maxHeartbeats 1000000 in
theorem drop_out (B b : Nat) (v : Value) (mask i : Int) (ms : List F) (w : World) (h : IsN B w b v mask ms) (hi : i < 0 ∨ (ms.length : Int) ≤ i) :
    Calls Try.prog 14 #[.pointer (some ⟨b, 0, none⟩), .int .i64 i] w fun e w' => e = .returned (.bool false) ∧ w = w' := by
  obtain ⟨hb, hb1, hb2, xs, ho, hs⟩ := h
  obtain ⟨A0, c0, rfl, hc1, hc2⟩ := ho.form
  have e0 := hb.cell_ (i := 0) rfl
  clear hb ho hs hb1 hb2
  by_cases h0 : i < 0
  · clear hi
    go_enter Try.func14, Try.ntmps14
    go_wp2
    go_ret
    exact ⟨rfl, rfl⟩
  · have h1 : (ms.length : Int) ≤ i := by omega
    have h2 : decide (i < 0) = false := by simp; omega
    clear hi
    go_enter Try.func14, Try.ntmps14
    go_wp2
    go_ret
    exact ⟨rfl, rfl⟩
set_option maxHeartbeats 1000000 in
theorem drop_in (B b : Nat) (v : Value) (mask : Int) (ms : List F) (i : Nat) (w : World) (h : IsN B w b v mask ms) (hi : i < ms.length) (hB : B ≤ w.heap.size) (hlen : ms.length ≤ 65536) :
    Calls Try.prog 14 #[.pointer (some ⟨b, 0, none⟩), .int .i64 i] w fun e w' => e = .returned (.bool true) ∧ ∃ v', IsN B w' b v' mask (delL ms i) ∧ Kept (b :: v.ownBlock.toList) w w' ∧ Same [5] B w w' ∧ (∀ k, v'.ownBlock = some k → v.ownBlock = some k) := by
  obtain ⟨hb, hb1, hb2, xs, ho, hs⟩ := h
  obtain ⟨A0, c0, rfl, hc1, hc2⟩ := ho.form
  obtain ⟨g, off, rfl⟩ := own_addr ho (by omega)
  have e0 := hb.cell_ (i := 0) rfl
  have h0 : decide ((i : Int) < 0) = false := by simp
  have h1 : ¬ (i : Int) < 0 := by omega
  have h2 : ¬ (ms.length : Int) ≤ (i : Int) := by omega
  have h3 : IntKind.i64.wrap ((i : Int) + 1) = (i : Int) + 1 := by rw [IntKind.wrap_i64]; omega
  have hone := Seq.all (by omega) hs relF_one
  have ngb : g ≠ b := by
    obtain ⟨_, cs, hcs⟩ := ho.blk g rfl
    exact row_ne_struct (t := 44) hcs hb (by decide)
  have HH := hid (And.intro (And.intro hb (And.intro hb1 hb2)) (And.intro ho hs))
  clear hb ho hs hb1 hb2
  go_enter Try.func14, Try.ntmps14
  go_wp2_with fail
  refine (del_any g off ms.length c0 i xs w HH.out.2.1 hone hi).mono ?_
  rintro e w1 ⟨rfl, ho1, hk1⟩
  have b1 := HH.out.1.1.kept hk1 (by simp; omega)
  have f0 := b1.cell_ (i := 0) rfl
  have f1 := b1.frozen 0
  have F : IsN B (w1.setCell ⟨b, 0, none⟩ (.slice (some ⟨g, off, none⟩) (ms.length - 1) c0)) b (.slice (some ⟨g, off, none⟩) (ms.length - 1) c0) mask (delL ms i) ∧ Kept [b, g] w (w1.setCell ⟨b, 0, none⟩ (.slice (some ⟨g, off, none⟩) (ms.length - 1) c0)) ∧
      Same [5] B w (w1.setCell ⟨b, 0, none⟩ (.slice (some ⟨g, off, none⟩) (ms.length - 1) c0)) := by
    obtain ⟨⟨hb, hb1, hb2⟩, ho, hs⟩ := HH.out
    have K : Kept [b, g] w (w1.setCell ⟨b, 0, none⟩ (.slice (some ⟨g, off, none⟩) (ms.length - 1) c0)) := (hk1.mono (L' := [b, g]) (by simp)).setCell (by simp) _
    have S : Same [5] B w (w1.setCell ⟨b, 0, none⟩ (.slice (some ⟨g, off, none⟩) (ms.length - 1) c0)) := .of_kept K (fun x hx hlt => by
      simp at hx
      rcases hx with rfl | rfl
      · exact ⟨hb1, hb.not_typ (by simp)⟩
      · obtain ⟨_, cs, hcs⟩ := ho.blk x rfl
        exact ⟨hb2 x rfl, not_typ_of hcs (by simp)⟩)
    refine ⟨⟨b1.set_ 0 _, hb1, fun k hk => hb2 k hk, _, ?_, (Seq.del hs hi).imp fun cs m h => h.same S⟩, K, S⟩
    rw [delL_len ms i hi]
    refine ho1.of_eq (fun k hk => Below.heap_setCell _ _ _ _ ?_)
    simp [Value.ownBlock] at hk
    simp; omega
  have HF := hid F
  clear F b1 ho1 hk1 hone
  go_wp2
  go_ret
  exact ⟨rfl, _, HF.out.1, HF.out.2.1.mono (by simp [Value.ownBlock]), HF.out.2.2, fun k hk => hk⟩
end Go.Proofs.Ytmffkpcimddbpaa
