/- The contract of Count, of packets that have a kind alone. -/
import Derived.Test.YtagcfmmbbcnkbaaI
import Derived.Deep.MidRow
set_option linter.all false
namespace Go.Proofs.Ytagcfmmbbcnkbaa
open Go.RowKit Go.Hub

def pk (k : Int) : Pk := { kind := k }
def pkCells (ks : List Int) : List Value := ks.flatMap fun k => ((pk k).cells s0).toList
theorem pkCells_len (ks : List Int) : (pkCells ks).length = ks.length * 24 := by
  unfold pkCells
  induction ks with
  | nil => rfl
  | cons a r ih => rw [List.flatMap_cons, List.length_append, ih]; simp [Pk.cells]; omega
theorem pkCells_at (ks : List Int) (i : Nat) (k : Int) (h : ks[i]? = some k) (j : Nat) (v : Value) (hv : ((pk k).cells s0)[j]? = some v) : (pkCells ks)[i * 24 + j]? = some v := by
  induction ks generalizing i with
  | nil => simp at h
  | cons a r ih =>
    have e : pkCells (a :: r) = ((pk a).cells s0).toList ++ pkCells r := by simp [pkCells]
    rw [e]
    have hl : ((pk a).cells s0).toList.length = 24 := rfl
    match i with
    | 0 =>
      simp at h; subst h
      have hj : j < 24 := by
        have := (Array.getElem?_eq_some_iff.1 hv).1
        exact this
      rw [List.getElem?_append_left (by omega)]
      simpa using hv
    | i + 1 =>
      rw [List.getElem?_append_right (by omega), hl]
      have := ih i (by simpa using h)
      rw [show (i + 1) * 24 + j - 24 = i * 24 + j from by omega]
      exact this
/-- how many of the kinds are the n-th of the five -/
def cnt (ks : List Int) (n : Nat) : Int := (ks.countP fun k => kplace k == n : Nat)
theorem cnt_snoc (ks : List Int) (k : Int) (n : Nat) : cnt (ks ++ [k]) n = cnt ks n + if kplace k = n then 1 else 0 := by
  unfold cnt
  rw [List.countP_append]
  by_cases h : kplace k = n <;> simp [h]
def cntA (ks : List Int) : Array Value := #[.int .i64 (cnt ks 0), .int .i64 (cnt ks 1), .int .i64 (cnt ks 2), .int .i64 (cnt ks 3), .int .i64 (cnt ks 4)]
theorem wpList_load_midA {P : Program} {ops : Array Oper} {rest : List Oper} {op : Oper} {a : Act} {w : World} {Q : Exit → Act → World → Prop} (hgd : op.guard = none) (ty : TypeId) (x : Operand) (ho : op.op = .load ty x)
    (b o : Nat) (hx : a.eval x = .pointer (some ⟨b, o, none⟩)) (cs : Array Value) (d : TypeDesc) (hc : ∀ j v, cs[j]? = some v → w.cell? ⟨b, o + j, none⟩ = some v)
    (hu : P.underlying ty = some d) (hd : d.isRow = true) (hi : (P.info? ty).map (·.size) = some cs.size)
    (h : wpList P ops Q rest (a.put op.dst (.agg cs)) w) : wpList P ops Q (op :: rest) a w := by
  refine wpList_load_mid hgd ty x ho b o hx cs.toList d (fun j v hv => hc j v (by simpa using hv)) hu hd (by simpa using hi) ?_
  simpa using h
theorem sz51 : (Try.prog.info? 51).map (·.size) = some 5 := by kernel_rfl
theorem kplace_le (k : Int) : kplace k ≤ 5 := by unfold kplace; (repeat' split) <;> omega
theorem cnt_bd (ks : List Int) (n : Nat) : 0 ≤ cnt ks n ∧ cnt ks n ≤ ks.length := by
  unfold cnt
  have := List.countP_le_length (p := fun k => kplace k == n) (l := ks)
  omega

theorem cntA_set (ks : List Int) (k : Int) (m : Nat) (h : kplace k = m) (hm : m < 5) : (cntA ks).setIfInBounds m (.int .i64 (cnt ks m + 1)) = cntA (ks ++ [k]) := by
  rcases (show m = 0 ∨ m = 1 ∨ m = 2 ∨ m = 3 ∨ m = 4 by omega) with rfl | rfl | rfl | rfl | rfl <;> simp [cntA, cnt_snoc, h]
theorem cntA_none (ks : List Int) (k : Int) (h : kplace k = 5) : cntA (ks ++ [k]) = cntA ks := by
  simp [cntA, cnt_snoc, h]
theorem cntA_one (ks : List Int) : (cntA ks).all (·.oneCell') = true := by simp [cntA, Value.oneCell']
theorem cntA_at (ks : List Int) (m : Nat) (hm : m < 5) : (cntA ks)[m]? = some (.int .i64 (cnt ks m)) := by
  rcases (show m = 0 ∨ m = 1 ∨ m = 2 ∨ m = 3 ∨ m = 4 by omega) with rfl | rfl | rfl | rfl | rfl <;> rfl

set_option maxRecDepth 100000 in
set_option maxHeartbeats 4000000 in
theorem count_any (A : Option Addr) (n c : Nat) (ks : List Int) (w : World) (hn : n = ks.length) (hle : ks.length ≤ 1000) (h : Rds w w.heap.size 24 A n (pkCells ks)) :
    Calls Try.prog 16 #[.slice A n c] w fun e w' => e = .returned (.agg (cntA ks)) ∧ Below w.heap.size w w' := by
  subst hn
  have z2 := (Blk.new w 51 (cntA [])).alloc (.cells (cntA []) 51)
  have z3 := Blk.new (w.alloc (.cells (cntA []) 51)) 51 (cntA [])
  rw [World.size_alloc] at z3
  have b0 : Below w.heap.size w ((w.alloc (.cells (cntA []) 51)).alloc (.cells (cntA []) 51)) := ((Below.refl _ _).alloc (Nat.le_refl _) _).alloc (by simp) _
  have HS := hid (And.intro z2 (And.intro z3 b0))
  have HR := hid h
  clear z2 z3 b0 h
  go_enter Try.func16, Try.ntmps16
  go_wp2_with fail
  go_loopg [9] ks.length (fun g v wr => ∃ i : Nat, i + g = ks.length ∧ v = .int .i64 i ∧ Hid (Blk wr w.heap.size 51 (cntA []) ∧ Blk wr (w.heap.size + 1) 51 (cntA (ks.take i)) ∧ Below w.heap.size w wr))
  case atStart => exact ⟨0, by omega, rfl, HS⟩
  case round =>
    obtain ⟨i, hi, rfl, hR⟩ := hrel
    obtain ⟨wo, rfl⟩ : ∃ wo : World, wo = wr := ⟨_, rfl⟩
    clear HS
    by_cases hlt : i < ks.length
    · obtain ⟨k, hk⟩ : ∃ k, ks[i]? = some k := ⟨ks[i], by simp [hlt]⟩
      have hi2 : (i : Int) < (ks.length : Int) := by omega
      obtain ⟨g, off, rfl, hg, hcell⟩ := (HR.out.below hR.out.2.2).2 (by omega)
      have hrange : ∀ j v, ((pk k).cells s0)[j]? = some v → wo.cell? ⟨g, off + i * 24 + j, none⟩ = some v := fun j v hv => by
        rw [Nat.add_assoc]
        exact hcell _ v (pkCells_at ks i k hk j v hv)
      have HI := hid (And.intro hi hk)
      have hr2 := hid hrange
      clear hi hk hcell hrange
      have bz := Blk.new wo 28 zeroPk
      have F := fresh_row wo 28 ((pk k).cells s0) rfl
      go_wp2_with (first
        | (refine wpList_load_midA rfl 28 (.tmp 11) rfl g (off + i * 24) rfl ((pk k).cells s0) _ hr2.out Try.underlying28 rfl sz28 ?_)
        | (refine wpList_store_row rfl 28 (.tmp 5) (.tmp 12) rfl wo.heap.size ((pk k).cells s0) rfl rfl 28 zeroPk bz sz28 rfl ((pk k).cells_one s0) ?_)
        | (refine wpList_load_row rfl 28 (.tmp 5) rfl wo.heap.size rfl 28 ((pk k).cells s0) (0, 0) _ F.1 Try.underlying28 rfl sz28 ?_)
        | fail)
      have bF := F.2
      refine (any_any w.heap.size (pk k) s0 _ (ok0 (pk k) rfl rfl rfl rfl rfl _ _) (small0 (pk k) rfl rfl rfl rfl rfl) (Nat.le_trans hR.out.2.2.size bF.size)).mono ?_
      rw [show (pk k).kind = k from rfl]
      rintro e w2 ⟨s2, rfl, o2, b2⟩
      go_wp2_with fail
      refine (place_any (kplace k) (kplace_le k) _ w2).mono ?_
      rintro e w3 ⟨rfl, rfl⟩
      have bb : Below wo.heap.size wo w2 := bF.trans (b2.mono bF.size)
      have y2 := hR.out.1.below bb hR.out.1.lt
      have y3 := hR.out.2.1.below bb hR.out.2.1.lt
      have b3 := hR.out.2.2.trans (bb.mono hR.out.2.2.size)
      have htk : ks.take (i + 1) = ks.take i ++ [k] := by rw [List.take_succ, HI.out.2]; rfl
      have HT := hid htk
      clear o2 b2 bF F bz htk
      obtain ⟨m, hm⟩ : ∃ m, m = kplace k := ⟨_, rfl⟩
      rw [← hm]
      have hm5 := kplace_le k
      rw [← hm] at hm5
      have HM := hid hm
      clear hm
      by_cases hlt5 : m < 5
      · have hc := y3.cell_ (cntA_at (ks.take i) m hlt5)
        have hf := y3.frozen m
        obtain ⟨q, hq⟩ : ∃ q, q = cnt (ks.take i) m := ⟨_, rfl⟩
        have hqb := cnt_bd (ks.take i) m
        have hq2 : 0 ≤ q ∧ q ≤ 1000 := by rw [hq]; simp at hqb; omega
        rw [← hq] at hc
        have hd5 : decide ((m : Int) < 5) = true := by simp; omega
        have hd6 : (m : Int) < 5 := by omega
        have hF : Blk (w2.setCell ⟨w.heap.size + 1, m, none⟩ (.int .i64 (q + 1))) (w.heap.size + 1) 51 (cntA (ks.take (i + 1))) := by
          rw [HT.out, ← cntA_set (ks.take i) k m HM.out.symm hlt5, ← hq]
          exact y3.set_ m _
        have K := (Kept.refl [w.heap.size + 1] w2).setCell (p := ⟨w.heap.size + 1, m, none⟩) (by simp) (.int .i64 (q + 1))
        have HX := hid (show Blk (w2.setCell ⟨w.heap.size + 1, m, none⟩ (.int .i64 (q + 1))) w.heap.size 51 (cntA []) ∧ Blk (w2.setCell ⟨w.heap.size + 1, m, none⟩ (.int .i64 (q + 1))) (w.heap.size + 1) 51 (cntA (ks.take (i + 1))) ∧ Below w.heap.size w (w2.setCell ⟨w.heap.size + 1, m, none⟩ (.int .i64 (q + 1))) from
          ⟨y2.kept K (by simp), hF, b3.trans (K.below (B := w.heap.size) (by simp) b3.size)⟩)
        clear y2 y3 b3 hF K hq hqb bb
        go_wp2
        go_roundg (gk - 1)
        case measure => have := HI.out.1; omega
        case rel => exact ⟨i + 1, by have := HI.out.1; omega, by go_num, HX⟩
      · obtain rfl : m = 5 := by omega
        have HX := hid (show Blk w2 w.heap.size 51 (cntA []) ∧ Blk w2 (w.heap.size + 1) 51 (cntA (ks.take (i + 1))) ∧ Below w.heap.size w w2 from
          ⟨y2, by rw [HT.out, cntA_none _ _ HM.out.symm]; exact y3, b3⟩)
        clear y2 y3 b3 bb
        go_wp2
        go_roundg (gk - 1)
        case measure => have := HI.out.1; omega
        case rel => exact ⟨i + 1, by have := HI.out.1; omega, by go_num, HX⟩
    · have hi2 : ¬ (i : Int) < (ks.length : Int) := by omega
      obtain rfl : i = ks.length := by omega
      clear hi
      have hx := hR.out.2.1
      rw [List.take_length] at hx
      have K := (Kept.refl [w.heap.size] wo).setRow (g := w.heap.size) (by simp) (cntA ks)
      have HF := hid (And.intro (hR.out.1.setRow (cntA ks)) (hR.out.2.2.trans (K.below (B := w.heap.size) (by simp) hR.out.2.2.size)))
      clear K
      go_wp2_with (first
        | (refine wpList_load_row rfl 51 (.tmp 3) rfl (w.heap.size + 1) rfl 51 (cntA ks) (0, 0) _ hx Try.underlying51 rfl sz51 ?_)
        | (refine wpList_store_row rfl 51 (.tmp 2) (.tmp 24) rfl w.heap.size (cntA ks) rfl rfl 51 (cntA []) hR.out.1 sz51 rfl (cntA_one ks) ?_)
        | fail)
      exact ret_cell (g := w.heap.size) rfl _ rfl HF.out.1 Try.underlying51 rfl sz51 rfl ⟨rfl, HF.out.2⟩
end Go.Proofs.Ytagcfmmbbcnkbaa
