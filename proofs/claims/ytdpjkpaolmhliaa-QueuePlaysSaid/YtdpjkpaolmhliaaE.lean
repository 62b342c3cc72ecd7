/- The contracts of Pop. -/
import Derived.Test.YtdpjkpaolmhliaaD
set_option linter.all false
namespace Go.Proofs.Ytdpjkpaolmhliaa
open Go.RowKit Go.Hub

/-- the head of a queue's row, cell by cell -/
theorem head_cells {B n c : Nat} {A0 : Option Addr} {m : M} {r : List M} {w : World} {xs : List Value} (hn : n = (m :: r).length) (ho : Own w 27 4 (.slice A0 n c) n xs) (hs : Seq 4 (relM [5] B w) xs (m :: r)) :
    ∃ g off A1 c1, A0 = some ⟨g, off, none⟩ ∧ g < w.heap.size ∧ w.cell? ⟨g, off, none⟩ = some (.string m.t) ∧ w.cell? ⟨g, off + 1, none⟩ = some (.slice A1 m.p.length c1) ∧ w.cell? ⟨g, off + 2, none⟩ = some (.int .i64 m.q) ∧ w.cell? ⟨g, off + 3, none⟩ = some (.bool m.r) ∧
      Bs [5] B w A1 m.p.length m.p ∧ ∃ cs, w.heap[g]? = some (.cells cs 27 (0, 0)) := by
  have hp : 0 < n := by rw [hn]; simp
  obtain ⟨cs, ⟨A1, c1, rfl, hb⟩, hc⟩ := hs.at_ (i := 0) (m := m) (by simp)
  obtain ⟨g, off, rfl, hg, hcell⟩ := ho.rds.2 hp
  obtain ⟨_, cur, hcur⟩ := ho.blk g rfl
  refine ⟨g, off, A1, c1, rfl, hg, ?_, ?_, ?_, ?_, hb, cur, hcur⟩
  · exact hcell 0 _ (by simpa using hc 0 _ rfl)
  · exact hcell 1 _ (by simpa using hc 1 _ rfl)
  · exact hcell 2 _ (by simpa using hc 2 _ rfl)
  · exact hcell 3 _ (by simpa using hc 3 _ rfl)

def zeroAgg : Value := .agg #[.string ⟨#[]⟩, .slice none 0 0, .int .i64 0, .bool false]

set_option maxHeartbeats 1000000 in
theorem pop_none (B b : Nat) (v : Value) (most lost : Int) (w : World) (h : IsQ B w b v most lost []) (hB : B ≤ w.heap.size) :
    Calls Try.prog 11 #[.pointer (some ⟨b, 0, none⟩)] w fun e w' => e = .returned (.tuple #[zeroAgg, .bool false]) ∧ IsQ B w' b v most lost [] ∧ Below w.heap.size w w' := by
  have h0 := h
  obtain ⟨hb, hb1, hb2, xs, ho, hs⟩ := h
  obtain ⟨A0, c0, rfl, hc1, hc2⟩ := ho.form
  have bl := hb.lt
  have e0 := hb.cell_ (i := 0) rfl
  have fin : ∀ w', Below w.heap.size w w' → IsQ B w' b (.slice A0 ([] : List M).length c0) most lost [] := fun w' hw => by
    refine ⟨hb.below hw bl, hb1, hb2, xs, ho.kept (Kept.of_below hw []) (by simp), hs.imp fun cs m h => h.old hw⟩
  have FF := hid fin
  clear hb ho hs hb1 hb2 fin h0
  go_enter Try.func11, Try.ntmps11
  go_wp2
  have hbel := ((Below.refl w.heap.size w).alloc (Nat.le_refl _) (.cells #[.string ⟨#[]⟩, .slice none 0 0, .int .i64 0, .bool false] 27))
  refine ret_cell_tmp (g := w.heap.size) rfl _ rfl rfl (Blk.new w 27 #[.string ⟨#[]⟩, .slice none 0 0, .int .i64 0, .bool false]) Try.underlying27 rfl sz27 rfl ⟨rfl, FF.out _ hbel, hbel⟩

def PopPost (B b : Nat) (v : Value) (most lost : Int) (m : M) (r : List M) (isr : Bool) (w : World) (e : Ending) (w' : World) : Prop :=
  (∃ A c, e = .returned (.tuple #[.agg #[.string m.t, .slice A m.p.length c, .int .i64 m.q, .bool m.r], .bool true]) ∧ Bs [5] B w' A m.p.length m.p) ∧
      ∃ v', (if isr then IsR B w' b v' most lost r else IsQ B w' b v' most lost r) ∧ Kept (b :: v.ownBlock.toList) w w' ∧ Same [5] B w w' ∧ (∀ k, v'.ownBlock = some k → v.ownBlock = some k ∨ w.heap.size ≤ k)

set_option maxHeartbeats 1000000 in
theorem pop_some (B b : Nat) (v : Value) (most lost : Int) (m : M) (r : List M) (w : World) (h : IsQ B w b v most lost (m :: r)) (hB : B ≤ w.heap.size) :
    Calls Try.prog 11 #[.pointer (some ⟨b, 0, none⟩)] w (PopPost B b v most lost m r false w) := by
  obtain ⟨hb, hb1, hb2, xs, ho, hs⟩ := h
  obtain ⟨A0, c0, rfl, hc1, hc2⟩ := ho.form
  obtain ⟨g, off, A1, c1, rfl, hg, x0, x1, x2, x3, hm, cur, hcur⟩ := head_cells rfl ho hs
  have bl := hb.lt
  have e0 := hb.cell_ (i := 0) rfl
  have f0 := hb.frozen 0
  have ngb : g ≠ b := row_ne_struct (t := 46) hcur hb (by decide)
  have fin : ∀ v' w', v' = .slice (if c0 = 1 then some ⟨g, off, none⟩ else some ⟨g, off + 4, none⟩) r.length (c0 - 1) → Kept [b] w w' → Blk w' b 46 #[v', .int .i64 most, .int .i64 lost] → IsQ B w' b v' most lost r ∧ Kept [b] w w' ∧ Same [5] B w w' ∧ (∀ k, v'.ownBlock = some k → (Value.slice (some ⟨g, off, none⟩) (m :: r).length c0).ownBlock = some k ∨ w.heap.size ≤ k) ∧ Bs [5] B w' A1 m.p.length m.p := by
    rintro v' w' hv' K hbw
    have S : Same [5] B w w' := .of_kept K (fun x hx _ => by
      simp at hx; subst hx
      exact ⟨hb1, hb.not_typ (by simp)⟩)
    have hcut := ho.cut (k := 1) (by simp)
    have hcut2 : Own w 27 4 v' r.length (xs.drop (1 * 4)) := by
      rw [hv']
      simpa [add_none] using hcut
    have hown : ∀ k, v'.ownBlock = some k → k = g := fun k hk => by
      rw [hv'] at hk
      by_cases hc : c0 = 1 <;> simp [Value.ownBlock, hc] at hk <;> omega
    refine ⟨⟨hbw, hb1, fun k hk => hb2 k (by rw [hown k hk]; rfl), _, hcut2.kept K (fun k hk hx => ?_), (hs.drop 1).imp fun cs m h => h.same S⟩, K, S, fun k hk => .inl (by rw [hown k hk]; rfl), hm.same S⟩
    simp at hx
    exact ngb (by rw [← hown k hk, hx])
  have CL : ∀ v', v' = .slice (if c0 = 1 then some ⟨g, off, none⟩ else some ⟨g, off + 4, none⟩) r.length (c0 - 1) →
      Blk (((w.setCell ⟨b, 0, none⟩ v').alloc (.cells #[.string m.t, .slice A1 m.p.length c1, .int .i64 m.q, .bool m.r] 27)).alloc (.cells #[.string m.t, .slice A1 m.p.length c1, .int .i64 m.q, .bool m.r] 27)) w.heap.size 27 #[.string m.t, .slice A1 m.p.length c1, .int .i64 m.q, .bool m.r] ∧
      PopPost B b (.slice (some ⟨g, off, none⟩) (m :: r).length c0) most lost m r false w (.returned (.tuple #[.agg #[.string m.t, .slice A1 m.p.length c1, .int .i64 m.q, .bool m.r], .bool true])) (((w.setCell ⟨b, 0, none⟩ v').alloc (.cells #[.string m.t, .slice A1 m.p.length c1, .int .i64 m.q, .bool m.r] 27)).alloc (.cells #[.string m.t, .slice A1 m.p.length c1, .int .i64 m.q, .bool m.r] 27)) := by
    intro v' hv'
    have K : Kept [b] w (((w.setCell ⟨b, 0, none⟩ v').alloc (.cells #[.string m.t, .slice A1 m.p.length c1, .int .i64 m.q, .bool m.r] 27)).alloc (.cells #[.string m.t, .slice A1 m.p.length c1, .int .i64 m.q, .bool m.r] 27)) := (((Kept.refl _ _).setCell (by simp) _).alloc _).alloc _
    have hbn := ((hb.set_ 0 v').alloc (.cells #[.string m.t, .slice A1 m.p.length c1, .int .i64 m.q, .bool m.r] 27)).alloc (.cells #[.string m.t, .slice A1 m.p.length c1, .int .i64 m.q, .bool m.r] 27)
    have P := fin v' _ hv' K hbn
    refine ⟨?_, ⟨A1, c1, rfl, P.2.2.2.2⟩, v', P.1, P.2.1.mono (fun x hx _ => by simp at hx; subst hx; simp), P.2.2.1, P.2.2.2.1⟩
    have := (Blk.new (w.setCell ⟨b, 0, none⟩ v') 27 #[.string m.t, .slice A1 m.p.length c1, .int .i64 m.q, .bool m.r]).alloc (.cells #[.string m.t, .slice A1 m.p.length c1, .int .i64 m.q, .bool m.r] 27)
    rwa [World.size_setCell] at this
  have FF := hid CL
  clear hb ho hs hb1 hb2 fin hm hcur CL
  have hcc : (1 : Int) ≤ (r.length : Int) + 1 := by omega
  have hc3 : 1 ≤ c0 := by have : (m :: r).length = r.length + 1 := rfl; omega
  go_enter Try.func11, Try.ntmps11
  go_wp2
  · have C := FF.out (.slice (some ⟨g, off, none⟩) r.length 0) (by simp [*])
    exact ret_cell_tmp (g := w.heap.size) rfl _ rfl rfl C.1 Try.underlying27 rfl sz27 rfl (by first | exact C.2 | simpa [*] using C.2)
  · have C := FF.out (.slice (some ⟨g, off + 4, none⟩) r.length (c0 - 1)) (by simp [*])
    exact ret_cell_tmp (g := w.heap.size) rfl _ rfl rfl C.1 Try.underlying27 rfl sz27 rfl C.2
end Go.Proofs.Ytdpjkpaolmhliaa
