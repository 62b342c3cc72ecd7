/- The contracts of the reference's Pop. -/
import Derived.Test.YtdpjkpaolmhliaaE
set_option linter.all false
namespace Go.Proofs.Ytdpjkpaolmhliaa
open Go.RowKit Go.Hub

set_option maxHeartbeats 1000000 in
theorem popR_none (B b : Nat) (v : Value) (most lost : Int) (w : World) (h : IsR B w b v most lost []) (hB : B ≤ w.heap.size) :
    Calls Try.prog 12 #[.pointer (some ⟨b, 0, none⟩)] w fun e w' => e = .returned (.tuple #[zeroAgg, .bool false]) ∧ IsR B w' b v most lost [] ∧ Below w.heap.size w w' := by
  obtain ⟨hb, hb1, hb2, xs, ho, hs⟩ := h
  obtain ⟨A0, c0, rfl, hc1, hc2⟩ := ho.form
  have bl := hb.lt
  have e0 := hb.cell_ (i := 2) rfl
  have fin : ∀ w', Below w.heap.size w w' → IsR B w' b (.slice A0 ([] : List M).length c0) most lost [] := fun w' hw => by
    refine ⟨hb.below hw bl, hb1, hb2, xs, ho.kept (Kept.of_below hw []) (by simp), hs.imp fun cs m h => h.old hw⟩
  have FF := hid fin
  clear hb ho hs hb1 hb2 fin
  go_enter Try.func12, Try.ntmps12
  go_wp2
  have hbel := ((Below.refl w.heap.size w).alloc (Nat.le_refl _) (.cells #[.string ⟨#[]⟩, .slice none 0 0, .int .i64 0, .bool false] 27))
  refine ret_cell_tmp (g := w.heap.size) rfl _ rfl rfl (Blk.new w 27 #[.string ⟨#[]⟩, .slice none 0 0, .int .i64 0, .bool false]) Try.underlying27 rfl sz27 rfl ⟨rfl, FF.out _ hbel, hbel⟩

theorem popR_close {B b g off c0 c1 c2 : Nat} {A1 A2 : Option Addr} {most lost : Int} {m : M} {r : List M} {w W w2 : World} {xs : List Value}
    (hb : Blk w b 40 #[.int .i64 most, .int .i64 lost, .slice (some ⟨g, off, none⟩) (m :: r).length c0]) (hb1 : B ≤ b) (hb2 : ∀ k, (Value.slice (some ⟨g, off, none⟩) (m :: r).length c0).ownBlock = some k → B ≤ k)
    (ho : Own w 27 4 (.slice (some ⟨g, off, none⟩) (m :: r).length c0) (m :: r).length xs) (hs : Seq 4 (relM [5] B w) xs (m :: r)) (kW : Kept [] w W) (hm : Bs [5] B w A1 m.p.length m.p)
    (z : Blk w2 b 40 #[.int .i64 most, .int .i64 lost, .slice (some ⟨g, off, none⟩) (m :: r).length c0]) (d : Blk w2 w.heap.size 27 #[.string ⟨#[]⟩, .slice none 0 0, .int .i64 0, .bool false])
    (o2 : Own w2 27 4 (.slice A2 (0 + r.length) c2) (0 + r.length) ([] ++ xs.drop 4)) (k2 : Kept (Value.slice none 0 0).ownBlock.toList W w2) (at2 : ∀ k, (Value.slice A2 (0 + r.length) c2).ownBlock = some k → (Value.slice none 0 0).ownBlock = some k ∨ W.heap.size ≤ k)
    (hB : B ≤ w.heap.size) (bl : b < w.heap.size) (lt : w.heap.size < W.heap.size) {fr : Array Value} (hf : fr.getD 2 undef = .pointer (some ⟨w.heap.size, 0, none⟩)) (hf3 : fr.getD 3 undef = .bool true) :
    bodyPost Try.prog Try.f12 (PopPost B b (.slice (some ⟨g, off, none⟩) (m :: r).length c0) most lost m r true w) Exit.ret { tmps := fr, defers := [] }
      (((((w2.setCell ⟨b, 2, none⟩ (.slice A2 r.length c2)).setCell ⟨w.heap.size, 0, none⟩ (.string m.t)).setCell ⟨w.heap.size, 1, none⟩ (.slice A1 m.p.length c1)).setCell ⟨w.heap.size, 2, none⟩ (.int .i64 m.q)).setCell ⟨w.heap.size, 3, none⟩ (.bool m.r)) := by
  have at2' : ∀ k, (Value.slice A2 r.length c2).ownBlock = some k → W.heap.size ≤ k := fun k hk => by
    rcases at2 k (by simpa [Value.ownBlock] using hk) with h | h
    · simp [Value.ownBlock] at h
    · exact h
  have k2' : Kept [] W w2 := k2
  have hWs := kW.size
  have K0 : Kept [b, w.heap.size] w w2 := ((kW.trans k2' (by simp)).mono (by simp))
  have K : Kept [b, w.heap.size] w _ := (K0.setCell (p := ⟨b, 2, none⟩) (by simp) (.slice A2 r.length c2)).set4 (g := w.heap.size) (v0 := .string m.t) (v1 := .slice A1 m.p.length c1) (v2 := .int .i64 m.q) (v3 := .bool m.r) (by simp)
  have S : Same [5] B w _ := .of_kept K (fun x hx hlt => by
    simp at hx
    rcases hx with rfl | rfl
    · exact ⟨hb1, hb.not_typ (by simp)⟩
    · omega)
  have s2 : Same [5] B w2 _ := .of_kept (L := [b, w.heap.size]) (((Kept.refl [b, w.heap.size] w2).setCell (p := ⟨b, 2, none⟩) (by simp) (.slice A2 r.length c2)).set4 (g := w.heap.size) (v0 := .string m.t) (v1 := .slice A1 m.p.length c1) (v2 := .int .i64 m.q) (v3 := .bool m.r) (by simp)) (fun x hx hlt => by
    simp at hx
    rcases hx with rfl | rfl
    · exact ⟨hb1, z.not_typ (by simp)⟩
    · exact ⟨hB, d.not_typ (by simp)⟩)
  have z' := z.set_ 2 (.slice A2 r.length c2)
  have z3 : Blk _ b 40 #[.int .i64 most, .int .i64 lost, .slice A2 r.length c2] := (((z'.far (p := ⟨w.heap.size, 0, none⟩) (by simp; omega) (.string m.t)).far (p := ⟨w.heap.size, 1, none⟩) (by simp; omega) (.slice A1 m.p.length c1)).far (p := ⟨w.heap.size, 2, none⟩) (by simp; omega) (.int .i64 m.q)).far (p := ⟨w.heap.size, 3, none⟩) (by simp; omega) (.bool m.r)
  have d3 := Blk.set4 (v0 := .string m.t) (v1 := .slice A1 m.p.length c1) (v2 := .int .i64 m.q) (v3 := .bool m.r) (d.far (p := ⟨b, 2, none⟩) (by simp; omega) (.slice A2 r.length c2))
  refine ret_cell_tmp (g := w.heap.size) rfl _ hf hf3 d3 Try.underlying27 rfl sz27 rfl ⟨⟨A1, c1, rfl, hm.same S⟩, .slice A2 r.length c2, ?_, ?_, S, fun k hk => .inr (by have := at2' k hk; omega)⟩
  · refine ⟨z3, hb1, fun k hk => by have := at2' k hk; omega, xs.drop (1 * 4), ?_, (hs.drop 1).imp fun cs m h => h.same S⟩
    have o3 : Own w2 27 4 (.slice A2 r.length c2) r.length (xs.drop (1 * 4)) := by simpa using o2
    refine o3.of_eq fun k hk => ?_
    have h1 := at2' k hk
    have nb : k ≠ b := by omega
    obtain ⟨_, cs, hcs⟩ := o3.blk k hk
    have nw : k ≠ w.heap.size := by
      rintro rfl
      have h2 := d
      unfold Blk at h2
      have hlt : w.heap.size < W.heap.size ∨ W.heap.size ≤ w.heap.size := by omega
      rcases hlt with h | h
      · omega
      · have : w.heap.size < W.heap.size := lt
        omega
    rw [Below.heap_setCell _ _ _ _ (by simpa using nw), Below.heap_setCell _ _ _ _ (by simpa using nw), Below.heap_setCell _ _ _ _ (by simpa using nw), Below.heap_setCell _ _ _ _ (by simpa using nw), Below.heap_setCell _ _ _ _ (by simpa using nb)]
  · refine (K.trans (L' := []) (Kept.refl _ _) (by simp)).mono (fun x hx hlt => ?_)
    simp at hx
    rcases hx with rfl | rfl
    · simp
    · omega

set_option maxHeartbeats 1000000 in
theorem popR_some (B b : Nat) (v : Value) (most lost : Int) (m : M) (r : List M) (w : World) (h : IsR B w b v most lost (m :: r)) (hB : B ≤ w.heap.size) (hr : r.length ≤ 65536) :
    Calls Try.prog 12 #[.pointer (some ⟨b, 0, none⟩)] w (PopPost B b v most lost m r true w) := by
  obtain ⟨hb, hb1, hb2, xs, ho, hs⟩ := h
  obtain ⟨A0, c0, rfl, hc1, hc2⟩ := ho.form
  obtain ⟨g, off, A1, c1, rfl, hg, x0, x1, x2, x3, hm, cur, hcur⟩ := head_cells rfl ho hs
  obtain ⟨i0, hi0, hz0, hz1, hz2⟩ := info_parts info27
  have bl := hb.lt
  have e0 := hb.cell_ (i := 2) rfl
  have hc3 : 1 ≤ c0 := by have : (m :: r).length = r.length + 1 := rfl; omega
  have hcc : (1 : Int) ≤ (r.length : Int) + 1 := by omega
  have hW : ∃ W, W = (w.alloc (.cells #[.string ⟨#[]⟩, .slice none 0 0, .int .i64 0, .bool false] 27)).alloc (.cells #[.string m.t, .slice A1 m.p.length c1, .int .i64 m.q, .bool m.r] 27) := ⟨_, rfl⟩
  obtain ⟨W, hW⟩ := hW
  have kW : Kept [] w W := by rw [hW]; exact ((Kept.refl _ _).alloc _).alloc _
  have b1 : Blk W w.heap.size 27 #[.string ⟨#[]⟩, .slice none 0 0, .int .i64 0, .bool false] := by rw [hW]; exact (Blk.new w 27 _).alloc _
  have b2 : Blk W (w.heap.size + 1) 27 #[.string m.t, .slice A1 m.p.length c1, .int .i64 m.q, .bool m.r] := by
    rw [hW]
    have := Blk.new (w.alloc (.cells #[.string ⟨#[]⟩, .slice none 0 0, .int .i64 0, .bool false] 27)) 27 #[.string m.t, .slice A1 m.p.length c1, .int .i64 m.q, .bool m.r]
    rwa [World.size_alloc] at this
  have tl : Rds W W.heap.size 4 (if c0 = 1 then some ⟨g, off, none⟩ else some ⟨g, off + 4, none⟩) r.length (xs.drop 4) := by
    have := (ho.kept kW (by simp)).rds.cut (k := 1) (by simp) hc1
    simpa [add_none] using this
  have one : ∀ u ∈ xs.drop 4, u.oneCell' = true := by
    intro u hu
    obtain ⟨j, hj⟩ := List.getElem?_of_mem hu
    rw [List.getElem?_drop] at hj
    have hl := hs.1
    have hlt : 4 + j < xs.length := by
      rcases Nat.lt_or_ge (4 + j) xs.length with h | h
      · exact h
      · rw [List.getElem?_eq_none h] at hj; cases hj
    obtain ⟨q, rr, hq, hrr⟩ : ∃ q rr, 4 + j = q * 4 + rr ∧ rr < 4 := ⟨(4 + j) / 4, (4 + j) % 4, by omega, by omega⟩
    have hq2 : q < (m :: r).length := by omega
    obtain ⟨cs, ⟨A', c', rfl, _⟩, hcs⟩ := hs.at_ (i := q) (m := (m :: r)[q]) (by simp [hq2])
    have : ∀ y, [Value.string (m :: r)[q].t, .slice A' (m :: r)[q].p.length c', .int .i64 (m :: r)[q].q, .bool (m :: r)[q].r][rr]? = some y → y.oneCell' = true := by
      intro y hy
      match rr, hrr, hy with
      | 0, _, hy => simp at hy; subst hy; rfl
      | 1, _, hy => simp at hy; subst hy; rfl
      | 2, _, hy => simp at hy; subst hy; rfl
      | 3, _, hy => simp at hy; subst hy; rfl
    have hget : ∃ y, [Value.string (m :: r)[q].t, .slice A' (m :: r)[q].p.length c', .int .i64 (m :: r)[q].q, .bool (m :: r)[q].r][rr]? = some y := ⟨_, List.getElem?_eq_getElem (by simpa using hrr)⟩
    obtain ⟨y, hy⟩ := hget
    have e := hcs rr y hy
    rw [← hq, hj] at e
    injection e with e
    rw [e]
    exact this y hy
  have h63 : 0 + r.length ≤ maxLen := by unfold maxLen; omega
  have hbytes : (0 + r.length) * 56 ≤ 140737488355328 := by omega
  have KK := hid (And.intro (And.intro hb (And.intro hb1 hb2)) (And.intro (And.intro (And.intro ho hs) (And.intro kW (And.intro hm hcur))) (And.intro b1 b2)))
  have HW := hid hW
  clear hb ho hs hb1 hb2 kW hm hcur b1 b2 hW
  rcases Classical.em (c0 = 1) with hcc1 | hcc1
  · subst hcc1
    rw [if_pos rfl] at tl
    have TL := hid (And.intro tl one)
    clear tl one
    go_enter Try.func12, Try.ntmps12
    go_wp2_with (first
      | (at_builtin; rw [← HW.out]
         refine wpList_append_own' _ rfl (.const (.slice none 0 0)) (.tmp 23) _ rfl 27 i0 _ 4 56 Try.underlying22 hi0 hz0 hz1 hz2 rfl (by omega) (.slice none 0 0) 0 [] rfl (Own.nil _ _ _) _ _ _ _ _ rfl TL.out.1 TL.out.2 h63 hbytes ?_
         intro v2 w2 o2 k2 at2
         obtain ⟨A2, c2, hv2, hc4, hc5⟩ := o2.form
         subst hv2
         have z := (KK.out.1.1.kept KK.out.2.1.2.1 (by simp)).kept k2 (by simp [Value.ownBlock])
         have z2 := z.cell_ (i := 2) rfl
         have f2 := z.frozen 2
         have d := KK.out.2.2.1.kept k2 (by simp [Value.ownBlock])
         have d' := KK.out.2.2.2.kept k2 (by simp [Value.ownBlock])
         have y0 := d'.cell_ (i := 0) rfl
         have y1 := d'.cell_ (i := 1) rfl
         have y2 := d'.cell_ (i := 2) rfl
         have y3 := d'.cell_ (i := 3) rfl
         have u0 := d.cell_ (i := 0) rfl
         have u1 := d.cell_ (i := 1) rfl
         have u2 := d.cell_ (i := 2) rfl
         have u3 := d.cell_ (i := 3) rfl
         have v0 := d.frozen 0
         have v1 := d.frozen 1
         have v2 := d.frozen 2
         have v3 := d.frozen 3))
    clear x0 x1 x2 x3 y0 y1 y2 y3 u0 u1 u2 u3 v0 v1 v2 v3 z2 f2 e0
    exact popR_close KK.out.1.1 KK.out.1.2.1 KK.out.1.2.2 KK.out.2.1.1.1 KK.out.2.1.1.2 KK.out.2.1.2.1 KK.out.2.1.2.2.1 z d o2 k2 at2 hB bl (by rw [HW.out]; simp; omega) rfl rfl
  · rw [if_neg hcc1] at tl
    have TL := hid (And.intro tl one)
    clear tl one
    go_enter Try.func12, Try.ntmps12
    go_wp2_with (first
      | (at_builtin; rw [← HW.out]
         refine wpList_append_own' _ rfl (.const (.slice none 0 0)) (.tmp 23) _ rfl 27 i0 _ 4 56 Try.underlying22 hi0 hz0 hz1 hz2 rfl (by omega) (.slice none 0 0) 0 [] rfl (Own.nil _ _ _) _ _ _ _ _ rfl TL.out.1 TL.out.2 h63 hbytes ?_
         intro v2 w2 o2 k2 at2
         obtain ⟨A2, c2, hv2, hc4, hc5⟩ := o2.form
         subst hv2
         have z := (KK.out.1.1.kept KK.out.2.1.2.1 (by simp)).kept k2 (by simp [Value.ownBlock])
         have z2 := z.cell_ (i := 2) rfl
         have f2 := z.frozen 2
         have d := KK.out.2.2.1.kept k2 (by simp [Value.ownBlock])
         have d' := KK.out.2.2.2.kept k2 (by simp [Value.ownBlock])
         have y0 := d'.cell_ (i := 0) rfl
         have y1 := d'.cell_ (i := 1) rfl
         have y2 := d'.cell_ (i := 2) rfl
         have y3 := d'.cell_ (i := 3) rfl
         have u0 := d.cell_ (i := 0) rfl
         have u1 := d.cell_ (i := 1) rfl
         have u2 := d.cell_ (i := 2) rfl
         have u3 := d.cell_ (i := 3) rfl
         have v0 := d.frozen 0
         have v1 := d.frozen 1
         have v2 := d.frozen 2
         have v3 := d.frozen 3))
    clear x0 x1 x2 x3 y0 y1 y2 y3 u0 u1 u2 u3 v0 v1 v2 v3 z2 f2 e0
    exact popR_close KK.out.1.1 KK.out.1.2.1 KK.out.1.2.2 KK.out.2.1.1.1 KK.out.2.1.1.2 KK.out.2.1.2.1 KK.out.2.1.2.2.1 z d o2 k2 at2 hB bl (by rw [HW.out]; simp; omega) rfl rfl
end Go.Proofs.Ytdpjkpaolmhliaa
