/- Contracts: levels. -/
import Derived.Test.YtpdacegpjofdeaaDoorC
import Derived.Test.YtpdacegpjofdeaaDoorLs
import Derived.Test.YtpdacegpjofdeaaDoorTb
set_option linter.all false
namespace Go.Proofs.YtpdacegpjofdeaaDoor
open Go.RowKit Go.Hub Go.Lib Go.Shelf


/-- the package-level variables that the walks read -/
def Glob (w : World) : Prop := Tabs w ∧ ∃ m, w.cell? ⟨2, 0, none⟩ = some (.int .i64 m)
theorem Glob.kept {w w' : World} (h : Glob w) (hk : Kept [] w w') : Glob w' := ⟨h.1.old (hk.below (by simp) (Nat.le_refl _)), by
  obtain ⟨m, hm⟩ := h.2
  exact ⟨m, (hk.cell (p := ⟨2, 0, none⟩) (World.block_lt_of_cell? w _ hm) (by simp)).trans hm⟩⟩
def slash : ByteArray := ⟨#[47]⟩
def levelsL (s : ByteArray) : List ByteArray := Lib.splitB slash 0 (Lib.countB s slash) s
def LevPost (s : ByteArray) (w : World) (e : Ending) (w' : World) : Prop := Kept [] w w' ∧ ∃ A c, e = .returned (.slice A (levelsL s).length c) ∧ Ss w' A (levelsL s) ∧ (levelsL s).length ≤ c ∧ 1 ≤ (levelsL s).length ∧ (levelsL s).length ≤ s.size + 1
theorem lev_len (s : ByteArray) : (levelsL s).length = Lib.countB s slash + 1 := Lib.splitB_all slash (by decide) 0 _ s rfl
theorem cnt_le (s : ByteArray) : Lib.countB s slash ≤ s.size := Lib.countB_le slash (by decide) s.size s (Nat.le_refl _)
theorem split_any (s : ByteArray) (w : World) (G : Glob w) (hs : s.size ≤ 1000000) : Calls Tryd.prog 28 #[.string s, .string ⟨#[47]⟩] w (LevPost s w) := by
  obtain ⟨m, hm⟩ := G.2
  have h := Any.strings_Split splitL (by kernel_rfl) s slash m w (by omega) hm (by decide)
  refine Calls.mono h ?_
  rintro e w' ⟨rfl, rfl⟩
  refine ⟨(Kept.refl [] w).alloc _, some ⟨w.heap.size, 0, none⟩, Lib.countB s slash + 1, by rw [lev_len], ?_, by rw [lev_len]; exact Nat.le_refl _, by rw [lev_len]; omega, by rw [lev_len]; have := cnt_le s; omega⟩
  refine ⟨by simp, fun _ => ⟨w.heap.size, 0, rfl, by simp, fun j u hu => ?_⟩⟩
  rw [Nat.zero_add]
  refine (World.cell?_alloc_mark w _ _ _ _).trans ?_
  rw [← Array.getElem?_toList]
  exact hu

set_option maxHeartbeats 1000000 in
theorem levels_any (s : ByteArray) (w : World) (G : Glob w) (hs : s.size ≤ 1000000) : Calls Tryd.prog 17 #[.string s] w (LevPost s w) := by
  have HK : Kept [] w w := Kept.refl [] w
  refine C.enter Tryd.func17 rfl Tryd.ntmps17 rfl ?_
  intro a0 f0
  have f1 : Fr 5 a0 [(0, .string s)] := f0
  clear f0
  refine wp_seq_k fun K0 hK0 => ?_
  refine C.region ?_
  refine L.val f1 wantedN rfl (by decide) (E.assign f1 rfl) fun a2 f2 => ?_
  clear f1 a0
  refine wpList_nil (hK0 _ _ ?_)
  try clear hK0 K0
  have f3 := f2.sub (sub_cons (i := 0) rfl (sub_cons (i := 2) rfl sub_nil))
  clear f2
  refine wp_seq_k fun K1 hK1 => ?_
  refine C.region ?_
  refine L.val f3 wantedN rfl (by decide) (E.move f3 rfl) fun a4 f4 => ?_
  clear f3 a2
  refine L.call f4 wantedN rfl (by decide) (run_call Tryd.call28 (args2 f4 rfl rfl)) (split_any s _ G hs) ?_
  rintro e w1 ⟨kc1, A, c, rfl, h1, h2, h3, h4⟩
  refine ⟨_, rfl, fun a5 f5 => ?_⟩
  clear f4 a4
  have szw1 := kc1.size
  replace HK := HK.trans kc1 (by simp)
  clear kc1
  refine L.val f5 wantedN rfl (by decide) (E.assign f5 rfl) fun a6 f6 => ?_
  clear f5 a5
  refine wpList_nil (hK1 _ _ ?_)
  try clear hK1 K1
  have f7 := f6.sub (sub_cons (i := 2) rfl sub_nil)
  clear f6
  refine wp_ret ?_
  try simp only [Exit.inBlock, Exit.then]
  refine C.ret (P := Tryd.prog) (fn := Tryd.f17) f7 rfl rfl ?_
  exact ⟨HK, A, c, rfl, h1, h2, h3, h4⟩

end Go.Proofs.YtpdacegpjofdeaaDoor
