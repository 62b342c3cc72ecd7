/- The contracts of Must and Try. -/
import Derived.Test.YtagcfmmbbcnkbaaF
import Derived.Defers
import Derived.Recover
import Derived.Laws.Pointers
set_option linter.all false
namespace Go.Proofs.Ytagcfmmbbcnkbaa
open Go.RowKit Go.Hub

set_option maxRecDepth 100000 in
set_option maxHeartbeats 4000000 in
theorem must_msg (B : Nat) (p : Pk) (s : Ad) (w : World) (h : p.Ok EP B w s) (hp : p.Small) (hB : B ≤ w.heap.size) : Calls Try.prog 22 #[boxed 1 (p.cells s)] w fun e w' => ∃ s', e = .returned (.agg (p.cells s')) ∧ p.Ok EP B w' s' ∧ Below w.heap.size w w' := by
  simp only [boxed]
  have y37 := fun (v : Value) (w : World) => ta_yes (P := Try.prog) Try.underlying37 20 v false w
  have z0 := Blk.new w 37 zeroPk
  have b0 : Below w.heap.size w (w.alloc (.cells zeroPk 37)) := (Below.refl _ _).alloc (Nat.le_refl _) _
  have F := fresh_row (w.alloc (.cells zeroPk 37)) 37 (p.cells s) rfl
  have zn := Blk.new (w.alloc (.cells zeroPk 37)) 37 zeroPk
  rw [World.size_alloc] at F zn
  have z1 := z0.below F.2 (by simp)
  have b1 := b0.trans (F.2.mono (by simp))
  have o1 := h.old b1
  clear h
  go_enter Try.func22, Try.ntmps22
  go_wp2_with (first
    | (refine wpList_store_row rfl 37 (.tmp 3) (.tmp 5) rfl (w.heap.size + 1) (p.cells s) rfl rfl 37 zeroPk zn sz37 rfl (p.cells_one s) ?_)
    | (refine wpList_load_row rfl 28 (.tmp 7) rfl (w.heap.size + 1) rfl 37 (p.cells s) (0, 0) _ F.1 Try.underlying28 rfl sz28 ?_)
    | (refine wpList_load_row rfl 28 (.tmp 6) rfl (w.heap.size + 1) rfl 37 (p.cells s) (0, 0) _ F.1 Try.underlying28 rfl sz28 ?_)
    | fail)
  refine (copy_any B p s _ o1 hp (by have := b1.size; omega)).mono ?_
  rintro e w2 ⟨s2, rfl, o2, b2⟩
  have z2 := z1.below b2 z1.lt
  have f2 := F.1.below b2 F.1.lt
  have bb := b1.trans (b2.mono b1.size)
  have K := ((Kept.refl [w.heap.size, w.heap.size + 1] w2).setRow (g := w.heap.size + 1) (by simp) (p.cells s2)).setRow (g := w.heap.size) (by simp) (p.cells s2)
  have f3 := f2.setRow (p.cells s2)
  have z3 := z2.kept ((Kept.refl [w.heap.size + 1] w2).setRow (g := w.heap.size + 1) (by simp) (p.cells s2)) (by simp)
  have S := Same.of_kept (E := EP) (B := B) K (fun x hx _ => by
    simp at hx
    rcases hx with rfl | rfl
    · exact ⟨hB, z2.not_typ (by decide)⟩
    · exact ⟨by omega, f2.not_typ (by decide)⟩)
  have HF := hid (And.intro (z3.setRow (p.cells s2)) (And.intro (o2.same S) (bb.trans (K.below (B := w.heap.size) (by simp) bb.size))))
  clear K S bb b2 o2 o1 b1 z1 F zn
  go_wp2_with (first
    | (refine wpList_store_row rfl 28 (.tmp 9) (.tmp 8) rfl (w.heap.size + 1) (p.cells s2) rfl rfl 37 (p.cells s) f2 sz28 rfl (p.cells_one s2) ?_)
    | (refine wpList_load_row rfl 37 (.tmp 3) rfl (w.heap.size + 1) rfl 37 (p.cells s2) (0, 0) _ f3 Try.underlying37 rfl sz37 ?_)
    | (refine wpList_store_row rfl 37 (.tmp 2) (.tmp 10) rfl w.heap.size (p.cells s2) rfl rfl 37 zeroPk z3 sz37 rfl (p.cells_one s2) ?_)
    | fail)
  exact ret_cell (g := w.heap.size) rfl _ rfl HF.out.1 Try.underlying37 rfl sz37 rfl ⟨s2, rfl, HF.out.2.1, HF.out.2.2⟩

/-- what is no message -/
def NoMsg (x : Value) : Prop := x = .nilIface ∨ ∃ t v, x = .iface t v ∧ t ≠ 37
theorem elem15 (w : World) : (elemOf 15).run Try.prog w = .ok 71 w := by kernel_rfl
theorem ta_panic (t : TypeId) (v : Value) (h : t ≠ 37) : ∃ o : Obj, ∀ w, (Instr.typeAssert (.iface t v) 20 37 false).run Try.prog w = .halt (.panic (.iface 15 (.pointer (some ⟨w.heap.size, 0, none⟩)))) (w.alloc o) := by
  refine ⟨.cells #[typeHandle Try.prog 20, typeHandle Try.prog t, typeHandle Try.prog 37, strVal ""] 71, fun w => ?_⟩
  simp [Instr.typeAssert, run_underlying Try.underlying37, h, runtimePanic]
  rw [elem15]
  rfl
theorem ta_panic0 : ∃ o : Obj, ∀ w, (Instr.typeAssert .nilIface 20 37 false).run Try.prog w = .halt (.panic (.iface 15 (.pointer (some ⟨w.heap.size, 0, none⟩)))) (w.alloc o) := by
  refine ⟨.cells #[typeHandle Try.prog 20, .pointer none, typeHandle Try.prog 37, strVal ""] 71, fun w => ?_⟩
  simp [Instr.typeAssert, run_underlying Try.underlying37, runtimePanic]
  rw [elem15]
  rfl
set_option maxRecDepth 100000 in
set_option maxHeartbeats 2000000 in
theorem must_other (x : Value) (hx : NoMsg x) (w : World) : Calls Try.prog 22 #[x] w fun e w' => (∃ u pv, e = .panicked [{ v := .iface u pv, recovered := false }]) ∧ Below w.heap.size w w' := by
  rcases hx with rfl | ⟨t, v, rfl, h1⟩
  · obtain ⟨oe, hp⟩ := ta_panic0
    have hb := fun (o o' : Obj) => ((Below.refl w.heap.size w).alloc (Nat.le_refl _) o).alloc (by simp) o'
    have HB := hid hb
    clear hb
    go_enter Try.func22, Try.ntmps22
    go_wp2
    exact ⟨rfl, ⟨_, _, rfl⟩, HB.out _ _⟩
  · obtain ⟨oe, hp⟩ := ta_panic t v h1
    have hb := fun (o o' : Obj) => ((Below.refl w.heap.size w).alloc (Nat.le_refl _) o).alloc (by simp) o'
    have HB := hid hb
    clear hb
    go_enter Try.func22, Try.ntmps22
    go_wp2
    exact ⟨rfl, ⟨_, _, rfl⟩, HB.out _ _⟩

theorem builtZ37 : Try.prog.built 37 [] = some zeroC := by kernel_rfl
theorem catch_panicking (g1 g2 : Nat) (cs0 : Array Value) (b0 : Bool) (u : TypeId) (pv : Value) (older : List PanicEntry) (w : World) (h1 : Blk w g1 37 cs0) (hsz : cs0.size = 24) (h2 : Blk w g2 4 #[.bool b0]) (hne : g1 ≠ g2) :
    CallsD Try.prog 21 #[.pointer (some ⟨g1, 0, none⟩), .pointer (some ⟨g2, 0, none⟩)] (.panicking ({ v := .iface u pv, recovered := false } :: older)) w fun e u' w' =>
      e = .returned (.tuple #[]) ∧ u' = .panicking ({ v := .iface u pv, recovered := true } :: older) ∧ w' = (w.setRow g1 zeroC).setCell ⟨g2, 0, none⟩ (.bool false) := by
  refine callsD_of_wpS Try.func21 rfl fun c₀ cs hu => ?_
  apply wpS_seq
  apply wpS_region
  simp [wpOpsS, go_sem, recoverD, hu, Try.ntmps21, Exit.thenS]
  refine wpS_cond (t := true) (by simp [Act.eval, Array.replicate]) ?_
  simp only [if_true]
  refine wpS_of_wp ?_
  have f2 := (h2.kept ((Kept.refl [g1] w).setRow (g := g1) (by simp) zeroC) (by simp; omega))
  have d0 := f2.cell_ (i := 0) rfl
  have d1 := f2.frozen 0
  change Code.wp _ _ _ { tmps := #[.pointer (some ⟨g1, 0, none⟩), .pointer (some ⟨g2, 0, none⟩), .iface u pv, .bool true, undef], defers := [] } w
  go_wp2_with (first
    | (refine wpList_build_none rfl 37 rfl zeroC builtZ37 ?_)
    | (refine wpList_store_row rfl 37 (.tmp 0) (.tmp 4) rfl g1 zeroC rfl rfl 37 cs0 h1 sz37 (by rw [hsz]; rfl) zeroC_one ?_)
    | fail)
  exact ⟨rfl, _, rfl, _, by simp [results, Try.results21], rfl, rfl, rfl⟩

theorem catch_idle (g1 g2 : Nat) (w : World) :
    CallsD Try.prog 21 #[.pointer (some ⟨g1, 0, none⟩), .pointer (some ⟨g2, 0, none⟩)] .returning w fun e u' w' => e = .returned (.tuple #[]) ∧ u' = .returning ∧ w' = w := by
  refine callsD_of_wpS Try.func21 rfl fun c₀ cs hu => ?_
  apply wpS_seq
  apply wpS_region
  simp [wpOpsS, go_sem, recoverD, hu, Try.ntmps21, Exit.thenS]
  refine wpS_cond (t := false) (by simp [Act.eval, Array.replicate]) ?_
  simp only [Bool.false_eq_true, if_false]
  refine wpS_of_wp (wp_skip ?_)
  cases c₀
  simp_all [bodyPostS, results, Try.results21]

theorem results_two {fn : Func} {p p2 : Nat} (h : fn.results = #[.cell p 37, .cell p2 4]) (tmps : Array Value) (w : World) {g g2 : Nat} {cs : Array Value} {b : Bool} (hp : tmps.getD p undef = .pointer (some ⟨g, 0, none⟩)) (hp2 : tmps.getD p2 undef = .pointer (some ⟨g2, 0, none⟩))
    (hg : Blk w g 37 cs) (hs : cs.size = 24) (hg2 : Blk w g2 4 #[.bool b]) : (results fn tmps).run Try.prog w = .ok (.tuple #[.agg cs, .bool b]) w := by
  have hl := run_loadVar_row (P := Try.prog) w g 37 37 cs (0, 0) _ hg Try.underlying37 rfl (by rw [hs]; exact sz37)
  have h2 : (loadVar 4 ⟨g2, 0, none⟩).run Try.prog w = .ok (.bool b) w := by
    have hc := hg2.cell_ (i := 0) rfl
    simp [loadVar, isAgg, run_underlying Try.underlying4, go_sem, hc]
  simp only [results, h]
  have hp' : tmps[p]?.getD undef = .pointer (some ⟨g, 0, none⟩) := by simpa using hp
  have hp2' : tmps[p2]?.getD undef = .pointer (some ⟨g2, 0, none⟩) := by simpa using hp2
  simp [hp', hp2', asAddr, Sem.run_bind, Result.andThen, hl, h2]
theorem makeF (fn : Fn) (first cap : Array Value) (w : World) : (Instr.makeFunc fn first cap).run Try.prog w = .ok (.func fn first cap) w := rfl

set_option maxRecDepth 100000 in
set_option maxHeartbeats 4000000 in
theorem try_msg (B : Nat) (p : Pk) (s : Ad) (w : World) (h : p.Ok EP B w s) (hp : p.Small) (hB : B ≤ w.heap.size) : Calls Try.prog 11 #[boxed 1 (p.cells s)] w fun e w' => ∃ s', e = .returned (.tuple #[.agg (p.cells s'), .bool true]) ∧ p.Ok EP B w' s' ∧ Below w.heap.size w w' := by
  have hmf := makeF
  have z0 := (Blk.new w 37 zeroPk).alloc (.cells #[.bool false] 4)
  have k0 := Blk.new (w.alloc (.cells zeroPk 37)) 4 #[.bool false]
  rw [World.size_alloc] at k0
  have b0 : Below w.heap.size w ((w.alloc (.cells zeroPk 37)).alloc (.cells #[.bool false] 4)) := ((Below.refl _ _).alloc (Nat.le_refl _) _).alloc (by simp) _
  obtain ⟨W, hW⟩ : ∃ W, W = (w.alloc (.cells zeroPk 37)).alloc (.cells #[.bool false] 4) := ⟨_, rfl⟩
  rw [← hW] at z0 k0 b0
  go_enter_defers Try.func11, Try.ntmps11
  go_wp2_with fail
  rw [← hW]
  clear hW
  refine (must_msg B p s W (h.old b0) hp (by have := b0.size; omega)).mono ?_
  rintro e w1 ⟨s1, rfl, o1, b1⟩
  have z1 := z0.below b1 z0.lt
  have k1 := k0.below b1 k0.lt
  have K1 := (Kept.refl [w.heap.size] w1).setRow (g := w.heap.size) (by simp) (p.cells s1)
  have z2 := z1.setRow (p.cells s1)
  have k2 := k1.kept K1 (by simp)
  have c0 := k2.cell_ (i := 0) rfl
  have f0 := k2.frozen 0
  have K2 := ((Kept.refl [w.heap.size, w.heap.size + 1] w1).setRow (g := w.heap.size) (by simp) (p.cells s1)).setCell (p := ⟨w.heap.size + 1, 0, none⟩) (by simp) (.bool true)
  have S := Same.of_kept (E := EP) (B := B) K2 (fun x hx _ => by
    simp at hx
    rcases hx with rfl | rfl
    · exact ⟨hB, z1.not_typ (by decide)⟩
    · exact ⟨by omega, k1.not_typ (by decide)⟩)
  have bb := b0.trans (b1.mono b0.size)
  have HF := hid (And.intro (And.intro (z2.far (p := ⟨w.heap.size + 1, 0, none⟩) (by simp) (.bool true)) (k2.set_ 0 (.bool true))) (And.intro (o1.same S) (bb.trans (K2.below (B := w.heap.size) (by simp) bb.size))))
  clear S K1 K2 bb o1 b1 b0 h z0 k0 k1 z2 k2
  go_wp2_with (first
    | (refine wpList_store_row rfl 37 (.tmp 2) (.tmp 6) rfl w.heap.size (p.cells s1) rfl rfl 37 zeroPk z1 sz37 rfl (p.cells_one s1) ?_)
    | fail)
  refine leaves_cons (f := 21) (args := #[.pointer (some ⟨w.heap.size, 0, none⟩), .pointer (some ⟨w.heap.size + 1, 0, none⟩)]) (by simp) (by simp [go_sem]) ?_
  refine (catch_idle w.heap.size (w.heap.size + 1) _).mono ?_
  rintro e u' w'' ⟨rfl, rfl, rfl⟩
  exact ⟨_, results_two rfl _ _ rfl rfl HF.out.1.1 rfl HF.out.1.2, s1, rfl, HF.out.2.1, HF.out.2.2⟩

set_option maxRecDepth 100000 in
set_option maxHeartbeats 4000000 in
theorem try_other (x : Value) (hx : NoMsg x) (w : World) : Calls Try.prog 11 #[x] w fun e w' => e = .returned (.tuple #[.agg zeroPk, .bool false]) ∧ Below w.heap.size w w' := by
  have hmf := makeF
  have z0 := (Blk.new w 37 zeroPk).alloc (.cells #[.bool false] 4)
  have k0 := Blk.new (w.alloc (.cells zeroPk 37)) 4 #[.bool false]
  rw [World.size_alloc] at k0
  have b0 : Below w.heap.size w ((w.alloc (.cells zeroPk 37)).alloc (.cells #[.bool false] 4)) := ((Below.refl _ _).alloc (Nat.le_refl _) _).alloc (by simp) _
  obtain ⟨W, hW⟩ : ∃ W, W = (w.alloc (.cells zeroPk 37)).alloc (.cells #[.bool false] 4) := ⟨_, rfl⟩
  rw [← hW] at z0 k0 b0
  go_enter_defers Try.func11, Try.ntmps11
  go_wp2_with fail
  rw [← hW]
  clear hW
  refine (must_other x hx W).mono ?_
  rintro e w1 ⟨⟨u, pv, rfl⟩, b1⟩
  have z1 := z0.below b1 z0.lt
  have k1 := k0.below b1 k0.lt
  have K2 := ((Kept.refl [w.heap.size, w.heap.size + 1] w1).setRow (g := w.heap.size) (by simp) zeroC).setCell (p := ⟨w.heap.size + 1, 0, none⟩) (by simp) (.bool false)
  have bb := b0.trans (b1.mono b0.size)
  have z2 := (z1.setRow zeroC).far (p := ⟨w.heap.size + 1, 0, none⟩) (by simp) (.bool false)
  have k2 := (k1.kept ((Kept.refl [w.heap.size] w1).setRow (g := w.heap.size) (by simp) zeroC) (by simp)).set_ 0 (.bool false)
  have HF := hid (And.intro (And.intro z2 k2) (bb.trans (K2.below (B := w.heap.size) (by simp) bb.size)))
  refine leaves_cons (f := 21) (args := #[.pointer (some ⟨w.heap.size, 0, none⟩), .pointer (some ⟨w.heap.size + 1, 0, none⟩)]) (by simp) (by simp [go_sem]) ?_
  refine (catch_panicking w.heap.size (w.heap.size + 1) zeroPk false u pv [] _ z1 rfl k1 (by omega)).mono ?_
  rintro e u' w'' ⟨rfl, rfl, rfl⟩
  exact ⟨_, results_two rfl _ _ rfl rfl HF.out.1.1 rfl HF.out.1.2, rfl, HF.out.2⟩
end Go.Proofs.Ytagcfmmbbcnkbaa
