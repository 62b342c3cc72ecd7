/- The contract of LightPacket: it tells something. -/
import Derived.Test.YtagcfmmbbcnkbaaI
set_option linter.all false
namespace Go.Proofs.Ytagcfmmbbcnkbaa
open Go.RowKit Go.Hub

/-- it tells a Bool -/
def Tells (e : Ending) : Prop := ∃ b, e = .returned (.bool b)
theorem subCells_at (l : List (ByteArray × Int)) (i : Nat) (s : ByteArray × Int) (h : l[i]? = some s) : (subCells l)[i * 2]? = some (.string s.1) ∧ (subCells l)[i * 2 + 1]? = some (.int .i64 s.2) := by
  induction l generalizing i with
  | nil => simp at h
  | cons a r ih =>
    match i with
    | 0 => simp at h; subst h; simp [subCells]
    | i + 1 =>
      have := ih i (by simpa using h)
      have e1 : (i + 1) * 2 = i * 2 + 2 := by omega
      have e2 : subCells (a :: r) = .string a.1 :: .int .i64 a.2 :: subCells r := by simp [subCells]
      rw [e1, e2]
      simpa using this
set_option maxRecDepth 100000 in
set_option maxHeartbeats 4000000 in
theorem light_any (B : Nat) (p : Pk) (s : Ad) (w : World) (h : p.Ok EP B w s) (hm : p.subs.length ≤ maxLen) : Calls Try.prog 7 #[.agg (p.cells s)] w fun e w' => Tells e ∧ Below w.heap.size w w' := by
  have t0 := Blk.new w 28 (p.cells s)
  have b0 : Below w.heap.size w (w.alloc (.cells (p.cells s) 28)) := (Below.refl _ _).alloc (Nat.le_refl _) _
  have HS := hid (h.old b0)
  clear h
  obtain ⟨W, hW⟩ : ∃ W, W = w.alloc (.cells (p.cells s) 28) := ⟨_, rfl⟩
  rw [← hW] at t0 b0 HS
  go_enter Try.func7, Try.ntmps7
  go_upto_region 1 with fail
  rw [← hW]
  clear hW
  have c5 := t0.cell_ (i := 5) (v := .string p.topic) rfl
  have c6 := t0.cell_ (i := 6) (v := .slice s.pa p.pay.length s.pc) rfl
  have c8 := t0.cell_ (i := 8) (v := .string p.client) rfl
  have c12 := t0.cell_ (i := 12) (v := .string p.wt) rfl
  have c13 := t0.cell_ (i := 13) (v := .slice s.wa p.wp.length s.wc) rfl
  have c18 := t0.cell_ (i := 18) (v := .string p.user) rfl
  have c19 := t0.cell_ (i := 19) (v := .slice s.sa p.pass.length s.sc) rfl
  have c22 := t0.cell_ (i := 22) (v := .slice s.ua p.subs.length s.uc) rfl
  have c23 := t0.cell_ (i := 23) (v := .slice s.ca p.codes.length s.cc) rfl
  have HB := hid b0
  clear t0 b0
  go_cut [45] from 4 to 60 (fun s45 wx => (∃ b, s45 = .bool b) ∧ wx = W)
  case first =>
    by_cases h1 : (10 : Int) < (p.subs.length : Int)
    · have h1b : decide ((10 : Int) < (p.subs.length : Int)) = true := by simpa using h1
      go_wp2_with fail
      go_meet
      exact ⟨⟨_, rfl⟩, rfl⟩
    · have h1b : decide ((10 : Int) < (p.subs.length : Int)) = false := by simpa using h1
      by_cases h2 : (20 : Int) < (p.codes.length : Int)
      · have h2b : decide ((20 : Int) < (p.codes.length : Int)) = true := by simpa using h2
        go_wp2_with fail
        go_meet
        exact ⟨⟨_, rfl⟩, rfl⟩
      · have h2b : decide ((20 : Int) < (p.codes.length : Int)) = false := by simpa using h2
        go_wp2_with fail
        all_goals go_meet
        all_goals exact ⟨⟨_, rfl⟩, rfl⟩
  case rest =>
    obtain ⟨⟨b, rfl⟩, hwc⟩ := hcut
    subst hwc
    cases b
    · go_wp2_with fail
      go_loopg [3] p.subs.length (fun g v wr => ∃ i : Nat, i + g = p.subs.length ∧ v = .int .i64 i ∧ wc = wr)
      case atStart => exact ⟨0, by omega, rfl, rfl⟩
      case round =>
        obtain ⟨i, hi, rfl, rfl⟩ := hrel
        unfold maxLen at hm
        by_cases hlt : i < p.subs.length
        · obtain ⟨x, hx⟩ : ∃ x, p.subs[i]? = some x := ⟨p.subs[i], by simp [hlt]⟩
          obtain ⟨g, off, hua, hg, _, hc⟩ := HS.out.subs.2 (by omega)
          have hcell := hc _ _ (subCells_at p.subs i x hx).1
          have hi2 : (i : Int) < (p.subs.length : Int) := by omega
          rw [hua] at c22
          have HI := hid hi
          clear hc hx hi
          by_cases hf : (60 : Int) < (x.1.size : Int)
          · have hfb : decide ((60 : Int) < (x.1.size : Int)) = true := by simpa using hf
            go_wp2
            go_ret
            exact ⟨⟨_, rfl⟩, HB.out⟩
          · have hfb : decide ((60 : Int) < (x.1.size : Int)) = false := by simpa using hf
            go_wp2
            go_roundg (gk - 1)
            case measure => have := HI.out; omega
            case rel => exact ⟨i + 1, by have := HI.out; omega, by go_num, rfl⟩
        · have hi2 : ¬ (i : Int) < (p.subs.length : Int) := by omega
          clear hi
          go_wp2
          go_ret
          exact ⟨⟨_, rfl⟩, HB.out⟩
    · go_wp2
      go_ret
      exact ⟨⟨_, rfl⟩, HB.out⟩
end Go.Proofs.Ytagcfmmbbcnkbaa
