/- CastOthers: the walk. -/
import Derived.Test.YtagcfmmbbcnkbaaJ
import Derived.Test.YtagcfmmbbcnkbaaK
import Derived.Deep.Cut
import Derived.Deep.CutRange
import Derived.Deep.CutBlock
set_option linter.all false
namespace Go.Proofs.Ytagcfmmbbcnkbaa
open Go.RowKit Go.Hub

section
variable {P : Program} {ops : Array Oper} {rest : List Oper} {o : Oper} {a : Act} {w : World} {Q : Exit → Act → World → Prop}
/-- .. where the operation is guarded, and wanted -/
theorem wpList_load_rowG (hw : Region.wanted o (yielded ops a.tmps) = true) (ty : TypeId) (x : Operand) (ho : o.op = .load ty x)
    (g : Nat) (hx : a.eval x = .pointer (some ⟨g, 0, none⟩)) (t : TypeId) (cs : Array Value) (fr : Nat × Nat) (d : TypeDesc) (hg : w.heap[g]? = some (.cells cs t fr))
    (hu : P.underlying ty = some d) (hd : (match d with | .struct _ | .array _ _ => true | _ => false) = true) (hi : (P.info? ty).map (·.size) = some cs.size)
    (h : wpList P ops Q rest (a.put o.dst (.agg cs)) w) : wpList P ops Q (o :: rest) a w :=
  wpList_step fun K hK => by
    rw [if_pos hw]
    exact wp_load_row ty x ho g hx t cs fr d hg hu hd hi (hK _ _ h)
theorem wpList_build_noneG (hw : Region.wanted o (yielded ops a.tmps) = true) (t : TypeId) (ho : o.op = .build t #[]) (cs : Array Value)
    (hb : P.built t [] = some cs) (h : wpList P ops Q rest (a.put o.dst (.agg cs)) w) : wpList P ops Q (o :: rest) a w := by
  have e : (P.built t (((#[] : Array (Nat × Operand)).map fun (i, x) => (i, a.eval x))).toList) = some cs := by simpa using hb
  refine wpList_step fun K hK => ?_
  rw [if_pos hw]
  refine wp_build t #[] ho (by rw [e]; rfl) ?_
  rw [e]
  exact hK _ _ h
end
theorem built36 (p : Pk) (s : Ad) : Try.prog.built 36 [(0, .agg (p.cells s))] = some (p.cells s) := by kernel_rfl
/-- block g holds nine values that are none of the five -/
def Nine (w : World) (g : Nat) : Prop := ∀ i, i < 9 → ∃ x, w.cell? ⟨g, i, none⟩ = some x ∧ Other x ∧ NoMsg x
theorem Nine.old {w w' : World} {g : Nat} (h : Nine w g) (hg : g < w.heap.size) (hb : Below w.heap.size w w') : Nine w' g := fun i hi => by
  obtain ⟨x, h1, h2⟩ := h i hi
  exact ⟨x, (hb.cell (p := ⟨g, i, none⟩) hg).trans h1, h2⟩
theorem nine_new (w : World) (cs : Array Value) (h : ∀ i, i < 9 → ∃ x, cs[i]? = some x ∧ Other x ∧ NoMsg x) : Nine (w.alloc (.cells cs 20)) w.heap.size := fun i hi => by
  obtain ⟨x, h1, h2⟩ := h i hi
  exact ⟨x, by rw [World.cell?_alloc_new]; exact h1, h2⟩
theorem other_mk {t : TypeId} {v : Value} (h : (t != 62 && t != 37 && t != 63 && t != 55 && t != 56) = true) : Other (.iface t v) ∧ NoMsg (.iface t v) := by
  simp at h
  exact ⟨.inr ⟨t, v, rfl, h.1.1.1.1, h.1.1.1.2, h.1.1.2, h.1.2, h.2⟩, .inr ⟨t, v, rfl, h.1.1.1.2⟩⟩
theorem other_nil : Other .nilIface ∧ NoMsg .nilIface := ⟨.inl rfl, .inl rfl⟩

set_option maxRecDepth 100000 in
set_option maxHeartbeats 4000000 in
theorem others_any (st : ByteArray) (n : Int) (p : Pk) (s : Ad) (w : World) (h : p.Ok EP w.heap.size w s) (hm : p.subs.length ≤ maxLen) :
    Calls Try.prog 4 #[.string st, .int .i64 n, .agg (p.cells s)] w fun e w' => e = .returned (.bool true) ∧ Below w.heap.size w w' := by
  have b37 := built37 p s
  have b36 := built36 p s
  have t0 := Blk.new w 28 (p.cells s)
  have b0 : Below w.heap.size w (w.alloc (.cells (p.cells s) 28)) := (Below.refl _ _).alloc (Nat.le_refl _) _
  have o0 := h.old b0
  clear h
  go_enter Try.func4, Try.ntmps4
  go_wp2_with fail
  refine (known_any _).mono ?_
  rintro e w1 ⟨rfl, b1⟩
  have t1 := t0.below b1 t0.lt
  have o1 := o0.old b1
  have c1 := b0.trans (b1.mono b0.size)
  clear t0 b0 o0 b1
  by_cases hl : st.size ≤ 60
  · have hl2 : decide ((60 : Int) < (st.size : Int)) = false := by simp; omega
    have hl3 : ¬ ((60 : Int) < (st.size : Int)) := by omega
    go_wp2_with (first
      | (refine wpList_load_rowG (by first | rfl | simp [Region.wanted, yielded, go_sem]) 28 (.tmp 5) rfl w.heap.size rfl 28 (p.cells s) (0, 0) _ t1 Try.underlying28 rfl sz28 ?_)
      | fail)
    refine (light_any w.heap.size p s w1 o1 hm).mono ?_
    rintro e w2 ⟨⟨bb, rfl⟩, b2⟩
    have t2 := t1.below b2 t1.lt
    have c2 := c1.trans (b2.mono c1.size)
    clear t1 o1 c1 b2
    cases bb
    · have HB := hid c2
      clear t2 c2
      go_wp2
      go_ret
      exact ⟨rfl, HB.out⟩
    · have hsz : (p.cells s).size = 24 := rfl
      go_wp2_with (first
        | (refine wpList_load_row rfl 28 (.tmp 5) rfl w.heap.size rfl 28 (p.cells s) (0, 0) _ t2 Try.underlying28 rfl sz28 ?_)
        | (refine wpList_load_row rfl 28 (.tmp 5) rfl w.heap.size rfl 28 (p.cells s) (0, 0) _ (t2.alloc _) Try.underlying28 rfl sz28 ?_)
        | (refine wpList_load_row rfl 28 (.tmp 5) rfl w.heap.size rfl 28 (p.cells s) (0, 0) _ ((t2.alloc _).alloc _) Try.underlying28 rfl sz28 ?_)
        | (refine wpList_build_one rfl 37 (.tmp 30) rfl (p.cells s) rfl b37 ?_)
        | (refine wpList_build_one rfl 37 (.tmp 34) rfl (p.cells s) rfl b37 ?_)
        | (refine wpList_build_one rfl 36 (.tmp 38) rfl (p.cells s) rfl b36 ?_)
        | fail)
      go_loopg [44] 9 (fun g v wr => ∃ i : Nat, i + g = 9 ∧ v = .int .i64 i ∧ Hid (Nine wr (w2.heap.size + 1 + 1) ∧ Below w.heap.size w wr ∧ w2.heap.size + 1 + 1 < wr.heap.size))
      case atStart =>
        refine ⟨0, rfl, rfl, hid ⟨?_, ((c2.alloc c2.size _).alloc (by have := c2.size; simp; omega) _).alloc (by have := c2.size; simp; omega) _, by simp⟩⟩
        have e : ∀ (o o' : Obj), ((w2.alloc o).alloc o').heap.size = w2.heap.size + 1 + 1 := fun o o' => by simp
        rw [← e]
        refine nine_new _ _ (fun i hi => ?_)
        match i, hi with
        | 0, _ => exact ⟨_, rfl, other_nil⟩
        | 1, _ => exact ⟨_, rfl, other_mk (by decide)⟩
        | 2, _ => exact ⟨_, rfl, other_mk (by decide)⟩
        | 3, _ => exact ⟨_, rfl, other_mk (by decide)⟩
        | 4, _ => exact ⟨_, rfl, other_mk (by decide)⟩
        | 5, _ => exact ⟨_, rfl, other_mk (by decide)⟩
        | 6, _ => exact ⟨_, rfl, other_mk (by decide)⟩
        | 7, _ => exact ⟨_, rfl, other_mk (by decide)⟩
        | 8, _ => exact ⟨_, rfl, other_mk (by decide)⟩
      case round =>
        obtain ⟨i, hi, rfl, hR⟩ := hrel
        obtain ⟨wo, rfl⟩ : ∃ wo : World, wo = wr := ⟨_, rfl⟩
        clear t2 c2
        by_cases hlt : i < 9
        · obtain ⟨x, hx, hO, hM⟩ := hR.out.1 i hlt
          have hi2 : (i : Int) < 9 := by omega
          have HI := hid (And.intro hi (And.intro hO hM))
          clear hi hO hM
          go_wp2_with fail
          refine (packet_other x HI.out.2.1 wo).mono ?_
          rintro e w4 ⟨rfl, b4⟩
          have F5 := fresh_row w4 28 zeroPk rfl
          have d5 := b4.trans (F5.2.mono b4.size)
          have z5 := F5.1
          clear F5 b4 hx
          go_upto_region 9 with (first
            | (refine wpList_store_row rfl 28 (.tmp 9) (.tmp 51) rfl w4.heap.size zeroPk rfl rfl 28 zeroPk (Blk.new w4 28 zeroPk) sz28 rfl zeroPk_one ?_)
            | fail)
          obtain ⟨W5, hW5⟩ : ∃ W, W = (w4.alloc (.cells zeroPk 28)).setRow w4.heap.size zeroPk := ⟨_, rfl⟩
          rw [← hW5] at d5 z5 ⊢
          clear hW5
          go_wp2_with fail
          refine (try_other x HI.out.2.2 W5).mono ?_
          rintro e w6 ⟨rfl, b6⟩
          have z6 := z5.below b6 z5.lt
          have d6 := d5.trans (b6.mono d5.size)
          have F7 := fresh_row w6 37 zeroPk rfl
          have z7 := z6.below F7.2 z6.lt
          have y7 := F7.1
          have d7 := d6.trans (F7.2.mono d6.size)
          clear F7 b6 z6 d6 z5 d5
          go_upto_region 10 with (first
            | (refine wpList_store_row rfl 37 (.tmp 11) (.tmp 56) rfl w6.heap.size zeroPk rfl rfl 37 zeroPk (Blk.new w6 37 zeroPk) sz37 rfl zeroPk_one ?_)
            | fail)
          obtain ⟨W7, hW7⟩ : ∃ W, W = (w6.alloc (.cells zeroPk 37)).setRow w6.heap.size zeroPk := ⟨_, rfl⟩
          rw [← hW7] at d7 z7 y7 ⊢
          clear hW7
          go_wp2_with fail
          refine (name_other x HI.out.2.1 W7).mono ?_
          rintro e w8 ⟨rfl, b8⟩
          rw [show nameS 5 = ⟨#[110, 111, 110, 101]⟩ from rfl]
          have z8 := z7.below b8 z7.lt
          have y8 := y7.below b8 y7.lt
          have d8 := d7.trans (b8.mono d7.size)
          clear b8 z7 y7 d7
          go_wp2_with fail
          refine (id_other x HI.out.2.1 w8).mono ?_
          rintro e w9 ⟨rfl, rfl⟩
          go_wp2_with (first
            | (refine wpList_load_rowG (by first | rfl | simp [Region.wanted, yielded, go_sem]) 28 (.tmp 9) rfl w4.heap.size rfl 28 zeroPk (0, 0) _ z8 Try.underlying28 rfl sz28 ?_)
            | (refine wpList_build_noneG (by first | rfl | simp [Region.wanted, yielded, go_sem]) 28 rfl zeroC builtZ ?_)
            | fail)
          refine (same_zero w8).mono ?_
          rintro e w10 ⟨rfl, b10⟩
          have y10 := y8.below b10 y8.lt
          have d10 := d8.trans (b10.mono d8.size)
          clear b10 y8 d8 z8
          go_wp2_with (first
            | (refine wpList_load_rowG (by first | rfl | simp [Region.wanted, yielded, go_sem]) 28 (.tmp 79) rfl w6.heap.size rfl 37 zeroPk (0, 0) _ y10 Try.underlying28 rfl sz28 ?_)
            | (refine wpList_build_noneG (by first | rfl | simp [Region.wanted, yielded, go_sem]) 28 rfl zeroC builtZ ?_)
            | fail)
          refine (same_zero w10).mono ?_
          rintro e w11 ⟨rfl, b11⟩
          have d11 := d10.trans (b11.mono d10.size)
          have HF := hid (show Nine w11 (w2.heap.size + 1 + 1) ∧ Below w.heap.size w w11 ∧ w2.heap.size + 1 + 1 < w11.heap.size from ⟨hR.out.1.old hR.out.2.2 d11, hR.out.2.1.trans (d11.mono hR.out.2.1.size), Nat.lt_of_lt_of_le hR.out.2.2 d11.size⟩)
          clear b11 d10 d11 y10
          go_wp2
          go_roundg (gk - 1)
          case measure => have := HI.out.1; omega
          case rel => exact ⟨i + 1, by have := HI.out.1; omega, by go_num, HF⟩
        · have hi2 : ¬ (i : Int) < 9 := by omega
          clear hi
          go_wp2
          go_ret
          exact ⟨rfl, hR.out.2.1⟩
  · have hl2 : decide ((60 : Int) < (st.size : Int)) = true := by simp; omega
    have hl3 : (60 : Int) < (st.size : Int) := by omega
    have HB := hid c1
    clear t1 o1 c1
    go_wp2
    go_ret
    exact ⟨rfl, HB.out⟩
end Go.Proofs.Ytagcfmmbbcnkbaa
