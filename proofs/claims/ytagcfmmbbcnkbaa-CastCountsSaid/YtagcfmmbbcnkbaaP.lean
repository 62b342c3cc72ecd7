/- CastCounts: the walk. -/
import Derived.Test.YtagcfmmbbcnkbaaO
import Derived.Test.YtagcfmmbbcnkbaaArgs
import Derived.Test.YtagcfmmbbcnkbaaPush
import Derived.Great.BuildSlice
import Derived.DeepKeys
import Derived.Deep.Cut
import Derived.Deep.CutRange
import Derived.Deep.CutBlock
set_option linter.all false
namespace Go.Proofs.Ytagcfmmbbcnkbaa
open Go.RowKit Go.Hub

theorem kl (a b c d e : Int) (ha : (Lit.int .i64 a).wf = true) (hb : (Lit.int .i64 b).wf = true) (hc : (Lit.int .i64 c).wf = true) (hd : (Lit.int .i64 d).wf = true) (he : (Lit.int .i64 e).wf = true) :
   Try.prog.keyLits 3 51 [.int .i64 a, .int .i64 b, .int .i64 c, .int .i64 d, .int .i64 e] = some [.int .i64 a, .int .i64 b, .int .i64 c, .int .i64 d, .int .i64 e] := by
  have c3 : Try.prog.cellsOf 3 = 1 := by kernel_rfl
  have c51 : Try.prog.cellsOf 51 = 5 := by kernel_rfl
  have r5 : List.range 5 = [0, 1, 2, 3, 4] := rfl
  simp [Program.keyLits, c51, r5, Try.underlying51, Try.underlying3, c3, ha, hb, hc, hd, he]

theorem run_eq5 (a b c d e : Int) (ha : (Lit.int .i64 a).wf = true) (hb : (Lit.int .i64 b).wf = true) (hc : (Lit.int .i64 c).wf = true) (hd : (Lit.int .i64 d).wf = true) (he : (Lit.int .i64 e).wf = true) (w : World) : (Op.equalIn 10000 51 (.agg #[.int .i64 a, .int .i64 b, .int .i64 c, .int .i64 d, .int .i64 e]) (.agg #[.int .i64 a, .int .i64 b, .int .i64 c, .int .i64 d, .int .i64 e])).run Try.prog w = .ok true w := by
  obtain ⟨r, hr, hi⟩ := run_equalIn_deep (P := Try.prog) 9990 10 51 (by kernel_rfl) w 3 3 (.agg #[.int .i64 a, .int .i64 b, .int .i64 c, .int .i64 d, .int .i64 e]) (.agg #[.int .i64 a, .int .i64 b, .int .i64 c, .int .i64 d, .int .i64 e])
    [.int .i64 a, .int .i64 b, .int .i64 c, .int .i64 d, .int .i64 e] [.int .i64 a, .int .i64 b, .int .i64 c, .int .i64 d, .int .i64 e] (by kernel_rfl) (by kernel_rfl) (kl a b c d e ha hb hc hd he) (kl a b c d e ha hb hc hd he)
  have h1 : r = true := hi.2 rfl
  rw [h1] at hr
  exact hr
theorem cnt_wf (ks : List Int) (n : Nat) (h : ks.length ≤ 1000) : (Lit.int .i64 (cnt ks n)).wf = true := by
  have := cnt_bd ks n
  simp [Lit.wf, IntKind.min, IntKind.max, IntKind.signed, IntKind.bits]
  omega
theorem info28 : (Try.prog.info? 28).map (fun i => (i.zero, i.size, i.bytes)) = some (some (.agg zeroPk), 24, 288) := by kernel_rfl
theorem builtK (k : Int) : Try.prog.built 28 [(0, .int .i64 k)] = some ((pk k).cells s0) := by kernel_rfl
theorem sliceK (k : Int) : Instr.fill (fun i => some (i * 24, 24)) ((Array.range (1 * 24)).map (zeroPk[· % zeroPk.size]!)) [(0, .agg ((pk k).cells s0))] = some ((pk k).cells s0) := by kernel_rfl
theorem pkCells_snoc (ks : List Int) (k : Int) : pkCells (ks ++ [k]) = pkCells ks ++ ((pk k).cells s0).toList := by simp [pkCells]
theorem pkCells_one (ks : List Int) : ∀ u ∈ pkCells ks, u.oneCell' = true := fun u hu => by
  unfold pkCells at hu
  simp only [List.mem_flatMap] at hu
  obtain ⟨k, _, hk⟩ := hu
  exact (Array.all_eq_true_iff_forall_mem.1 ((pk k).cells_one s0)) u (by simpa using hk)
def kd (x : UInt8) : Int := ((x.toNat % 17 : Nat) : Int)
def St (w wr : World) (b : Nat) (ks : List Int) (lv : Value) : Prop :=
  Own wr 28 24 lv ks.length (pkCells ks) ∧ (∀ k, lv.ownBlock = some k → w.heap.size ≤ k) ∧ Blk wr b 51 (cntA ks) ∧ Below w.heap.size w wr ∧ w.heap.size ≤ b
def names5 : Array Value := #[.string (nameS 0), .string (nameS 1), .string (nameS 2), .string (nameS 3), .string (nameS 4)]
theorem names5_at (j : Nat) (hj : j < 5) : names5[j]? = some (.string (nameS j)) := by
  rcases (show j = 0 ∨ j = 1 ∨ j = 2 ∨ j = 3 ∨ j = 4 by omega) with rfl | rfl | rfl | rfl | rfl <;> rfl
theorem name_ne (m j : Nat) (hm : m ≤ 5) (hj : j < 5) (h : m ≠ j) : ((nameS m).toList == (nameS j).toList) = false := by
  rcases (show j = 0 ∨ j = 1 ∨ j = 2 ∨ j = 3 ∨ j = 4 by omega) with rfl | rfl | rfl | rfl | rfl <;>
    rcases (show m = 0 ∨ m = 1 ∨ m = 2 ∨ m = 3 ∨ m = 4 ∨ m = 5 by omega) with rfl | rfl | rfl | rfl | rfl | rfl <;> first | (exact absurd rfl h) | decide +kernel
theorem wpList_build_kind {ops : Array Oper} {rest : List Oper} {o : Oper} {a : Act} {w : World} {Q : Exit → Act → World → Prop} (hg : o.guard = none) (x : Operand) (ho : o.op = .build 28 #[(0, x)]) (k : Int) (hx : a.eval x = .int .i64 k)
    (h : wpList Try.prog ops Q rest (a.put o.dst (.agg ((pk k).cells s0))) w) : wpList Try.prog ops Q (o :: rest) a w := by
  have e : (Try.prog.built 28 (((#[(0, x)] : Array (Nat × Operand)).map fun (i, x) => (i, a.eval x))).toList) = some ((pk k).cells s0) := by simpa [hx] using builtK k
  refine wpList_build hg 28 #[(0, x)] ho (by rw [e]; rfl) ?_
  rw [e]
  exact h
theorem wpList_slice_kind {ops : Array Oper} {rest : List Oper} {o : Oper} {a : Act} {w : World} {Q : Exit → Act → World → Prop} (hg : o.guard = none) (x : Operand) (ho : o.op = .buildSlice 32 1 #[(0, x)]) (k : Int) (hx : a.eval x = .agg ((pk k).cells s0))
    (h : wpList Try.prog ops Q rest (a.put o.dst (.slice (some ⟨w.heap.size, 0, none⟩) 1 1)) (w.alloc (.cells ((pk k).cells s0) 28))) : wpList Try.prog ops Q (o :: rest) a w := by
  obtain ⟨ie, h1, h2, h3, _⟩ := info_parts info28
  refine wpList_buildSlice hg 32 28 1 #[(0, x)] ho ((pk k).cells s0) ie (.agg zeroPk) Try.underlying32 h1 h2 (by rw [h3]; decide) (by rw [h3]; decide) ?_ h
  rw [h3]
  have e : (((#[(0, x)] : Array (Nat × Operand)).map fun (i, x) => (i, a.eval x))).toList = [(0, .agg ((pk k).cells s0))] := by simp [hx]
  rw [e]
  exact sliceK k

/-- what stands at the j-th name's head -/
structure In (w wr : World) (b : Nat) (ks : List Int) (k : Int) (j : Nat) (lv : Value) (t nb : Nat) : Prop where
  o : Own wr 28 24 lv (ks ++ [k]).length (pkCells (ks ++ [k]))
  a : ∀ x, lv.ownBlock = some x → w.heap.size ≤ x
  c : Blk wr b 51 (if kplace k < j then cntA (ks ++ [k]) else cntA ks)
  s : Below w.heap.size w wr
  b : w.heap.size ≤ b
  t : Blk wr t 28 ((pk k).cells s0)
  n : Blk wr nb 9 names5

set_option maxRecDepth 100000 in
set_option maxHeartbeats 4000000 in
theorem counts_any (A : Option Addr) (c : Nat) (l : List UInt8) (w : World) (hm : l.length ≤ maxLen) (h : Bs [5] w.heap.size w A l.length l) :
    Calls Try.prog 5 #[.slice A l.length c] w fun e w' => e = .returned (.bool true) ∧ Below w.heap.size w w' := by
  obtain ⟨i0, hi0, hz0, hz1, hz2⟩ := info_parts info28
  have HH := hid h
  clear h
  go_enter Try.func5, Try.ntmps5
  go_wp2_with fail
  refine (known_any w).mono ?_
  rintro e w1 ⟨rfl, hb1⟩
  by_cases hl : l.length ≤ 100
  · have hl2 : decide ((100 : Int) < (l.length : Int)) = false := by simp; omega
    have hl3 : ¬ ((100 : Int) < (l.length : Int)) := by omega
    have B2 : Blk (w1.alloc (.cells (cntA []) 51)) w1.heap.size 51 (cntA []) := Blk.new _ _ _
    have HS := hid (show St w (w1.alloc (.cells (cntA []) 51)) w1.heap.size [] (.slice none 0 0) from ⟨Own.nil _ _ _, by simp [Value.ownBlock], B2, hb1.alloc hb1.size _, hb1.size⟩)
    clear B2
    go_wp2_with fail
    obtain ⟨b, hb⟩ : ∃ b, b = w1.heap.size := ⟨_, rfl⟩
    rw [← hb] at HS ⊢
    go_loopg [3, 5] l.length (fun g lv iv wr => ∃ i : Nat, i + g = l.length ∧ iv = .int .i64 i ∧ Hid (St w wr b ((l.take i).map kd) lv))
    case atStart => exact ⟨0, by omega, rfl, HS⟩
    case round =>
      obtain ⟨i, hi, rfl, hst⟩ := hrel
      obtain ⟨ko, rfl⟩ : ∃ ko : Nat, ko = gk := ⟨_, rfl⟩
      obtain ⟨wo, rfl⟩ : ∃ wo : World, wo = wr := ⟨_, rfl⟩
      clear HS hb1 hb
      obtain ⟨lA, lc, rfl, hlc1, hlc2⟩ := hst.out.1.form
      by_cases hlt : i < l.length
      · have hrl : ((l.take i).map kd).length = i := by simp; omega
        rw [hrl] at hlc1 ⊢
        obtain ⟨x, hx⟩ : ∃ x, l[i]? = some x := ⟨l[i], by simp [hlt]⟩
        obtain ⟨g1, off1, rfl, _, _, hc1⟩ := (HH.out.same (Same.of_below hst.out.2.2.2.1)).2 (by omega)
        have hcx : wo.cell? ⟨g1, off1 + i, none⟩ = some (.int .u8 (x.toNat : Int)) := hc1 i x hx
        obtain ⟨z, hz⟩ : ∃ z : Int, z = (x.toNat : Int) := ⟨_, rfl⟩
        rw [← hz] at hcx
        have hzb : 0 ≤ z ∧ z < 256 := by have := x.toNat_lt; omega
        obtain ⟨k, hk⟩ : ∃ k : Int, z % 17 = k := ⟨_, rfl⟩
        have hkx : kd x = k := by unfold kd; omega
        have hk17 : 0 ≤ k ∧ k < 17 := by omega
        have hi2 : (i : Int) < (l.length : Int) := by omega
        have htk : (l.take (i + 1)).map kd = (l.take i).map kd ++ [k] := by rw [List.take_succ, hx]; simp [hkx]
        have HI := hid (And.intro hi htk)
        clear hi hc1 hx hz hkx htk
        have bz := Blk.new wo 28 zeroPk
        have F := fresh_row wo 28 ((pk k).cells s0) rfl
        go_upto_region 11 with (first
          | (refine wpList_build_kind rfl (.tmp 25) rfl k rfl ?_)
          | (refine wpList_store_row rfl 28 (.tmp 6) (.tmp 26) rfl wo.heap.size ((pk k).cells s0) rfl rfl 28 zeroPk bz sz28 rfl ((pk k).cells_one s0) ?_)
          | fail)
        have ho5 := (hst.out.1.kept (Kept.of_below F.2 []) (by simp))
        rw [hrl] at ho5
        have hc5 := hst.out.2.2.1.below F.2 hst.out.2.2.1.lt
        have d5 := hst.out.2.2.2.1.trans (F.2.mono hst.out.2.2.2.1.size)
        have t5 := F.1
        obtain ⟨W, hW⟩ : ∃ W, W = (wo.alloc (.cells zeroPk 28)).setRow wo.heap.size ((pk k).cells s0) := ⟨_, rfl⟩
        have hWs : wo.heap.size < W.heap.size := by rw [hW]; exact t5.lt
        rw [← hW] at ho5 hc5 d5 t5 ⊢
        clear hW F bz
        have r1 := Rds.boxed W ((pk k).cells s0) 28 24 rfl
        have hone : ∀ u ∈ ((pk k).cells s0).toList, u.oneCell' = true := fun u hu => (Array.all_eq_true_iff_forall_mem.1 ((pk k).cells_one s0)) u (by simpa using hu)
        have h63 : i + 1 ≤ maxLen := by unfold maxLen; omega
        have hby : (i + 1) * 288 ≤ 140737488355328 := by omega
        have ho6 := ho5.alloc (.cells ((pk k).cells s0) 28)
        have HQ := hid (And.intro hc5 (And.intro d5 t5))
        go_wp2_with (first
          | (refine wpList_load_row rfl 28 (.tmp 6) rfl wo.heap.size rfl 28 ((pk k).cells s0) (0, 0) _ t5 Try.underlying28 rfl sz28 ?_)
          | (refine wpList_slice_kind rfl (.tmp 28) rfl k rfl ?_)
          | (at_builtin
             refine wpList_append_own' _ rfl (.tmp 27) (.tmp 29) _ rfl 28 i0 _ 24 288 Try.underlying32 hi0 hz0 hz1 hz2 rfl (by omega) (.slice lA i lc) i _ rfl ho6 _ _ _ _ _ rfl r1 hone h63 hby ?_
             intro v7 w7 o7 k7 a7
             obtain ⟨A7, c7, hv7, _, _⟩ := o7.form
             subst hv7)
          | fail)
        have HIN : Hid (In w (w7.alloc (.cells names5 9)) b ((l.take i).map kd) k 0 (.slice A7 (i + 1) c7) wo.heap.size w7.heap.size) := by
          obtain ⟨hc5, d5, t5⟩ := HQ.out
          have ha := hst.out.2.1
          have hown := hst.out.1
          have kA : Below w.heap.size w (W.alloc (.cells ((pk k).cells s0) 28)) := d5.alloc d5.size _
          have hlt7 : ∀ x ∈ (Value.slice lA i lc).ownBlock.toList, w.heap.size ≤ x ∧ x < wo.heap.size ∧ x ≠ b := fun x hx => by
            have hx' : (Value.slice lA ((l.take i).map kd).length lc).ownBlock = some x := by
              have h0 : (Value.slice lA i lc).ownBlock = some x := by simpa using hx
              cases lA <;> simpa [Value.ownBlock] using h0
            obtain ⟨h1, cs, h2⟩ := hown.blk x hx'
            exact ⟨ha x hx', h1, row_ne_struct h2 hst.out.2.2.1 (by decide)⟩
          refine hid ⟨?_, fun x hx => ?_, ?_, ?_, hst.out.2.2.2.2, ?_, Blk.new _ _ _⟩
          · rw [show ((l.take i).map kd ++ [k]).length = i + 1 from by simp; omega, pkCells_snoc]
            exact o7.alloc _
          · rcases a7 x hx with h | h
            · exact (hlt7 x (by simpa using h)).1
            · have := kA.size; omega
          · rw [if_neg (by omega)]
            exact ((hc5.alloc _).kept k7 (fun hx => (hlt7 b hx).2.2 rfl)).alloc _
          · exact (kA.trans (k7.below (fun x hx => (hlt7 x hx).1) kA.size)).alloc (kA.trans (k7.below (fun x hx => (hlt7 x hx).1) kA.size)).size _
          · exact ((t5.alloc _).kept k7 (fun hx => by have := (hlt7 _ hx).2.1; omega)).alloc _
        clear o7 k7 a7 ho5 ho6 hc5 d5 t5 HQ r1 hone hcx
        go_wp2_with fail
        go_loopg [33] 5 (fun g v wr => ∃ j : Nat, j + g = 5 ∧ v = .int .i64 j ∧ Hid (In w wr b ((l.take i).map kd) k j (.slice A7 (i + 1) c7) wo.heap.size w7.heap.size))
        case atStart => exact ⟨0, rfl, rfl, HIN⟩
        case round =>
          obtain ⟨j, hj, rfl, hIn⟩ := hrel
          obtain ⟨wi, rfl⟩ : ∃ wi : World, wi = wr := ⟨_, rfl⟩
          clear HIN hst
          by_cases hj5 : j < 5
          · have x1 := hIn.out.n.cell_ (names5_at j hj5)
            have x2 := hIn.out.t.cell_ (i := 0) (v := .int .i64 k) rfl
            have hj2 : (j : Int) < 5 := by omega
            have HJ := hid hj
            clear hj
            go_wp2_with fail
            refine (name_any k wi).mono ?_
            rintro e w8 ⟨rfl, rfl⟩
            obtain ⟨m, hmk⟩ : ∃ m, m = kplace k := ⟨_, rfl⟩
            have hm5 := kplace_le k
            rw [← hmk] at hm5 ⊢
            have HM := hid hmk
            clear hmk
            by_cases hmj : m = j
            · subst hmj
              have hc0 := hIn.out.c
              rw [← HM.out, if_neg (by omega)] at hc0
              have hc := hc0.cell_ (cntA_at _ m hj5)
              have hf := hc0.frozen m
              obtain ⟨q, hq⟩ : ∃ q, q = cnt ((l.take i).map kd) m := ⟨_, rfl⟩
              have hqb := cnt_bd ((l.take i).map kd) m
              have hq2 : 0 ≤ q ∧ q ≤ 1000 := by
                have h1 := hqb.1
                have h2 := hqb.2
                rw [List.length_map, List.length_take] at h2
                rw [← hq] at h1 h2
                omega
              rw [← hq] at hc
              have hF : Blk (wi.setCell ⟨b, m, none⟩ (.int .i64 (q + 1))) b 51 (if m < m + 1 then cntA ((l.take i).map kd ++ [k]) else cntA ((l.take i).map kd)) := by
                rw [if_pos (by omega), ← cntA_set _ k m HM.out.symm hj5, ← hq]
                exact hc0.set_ m _
              have K := (Kept.refl [b] wi).setCell (p := ⟨b, m, none⟩) (by simp) (.int .i64 (q + 1))
              have HX : Hid (In w (wi.setCell ⟨b, m, none⟩ (.int .i64 (q + 1))) b ((l.take i).map kd) k (m + 1) (.slice A7 (i + 1) c7) wo.heap.size w7.heap.size) := by
                refine hid ⟨hIn.out.o.kept K (fun x hx hy => ?_), hIn.out.a, by rw [← HM.out]; exact hF, hIn.out.s.trans (K.below (by simp; exact hIn.out.b) hIn.out.s.size), hIn.out.b, hIn.out.t.kept K (fun hy => ?_), hIn.out.n.kept K (fun hy => ?_)⟩
                · obtain ⟨_, cs, hcs⟩ := hIn.out.o.blk x hx
                  exact row_ne_struct hcs hc0 (by decide) (by simpa using hy)
                · exact row_ne_struct hIn.out.t hc0 (by decide) (by simpa using hy)
                · exact row_ne_struct hIn.out.n hc0 (by decide) (by simpa using hy)
              clear hF K hc0 hq hqb
              go_wp2
              go_roundg (gk - 1)
              case measure => have := HJ.out; omega
              case rel => exact ⟨m + 1, by have := HJ.out; omega, by go_num, HX⟩
            · have e0 := name_ne m j hm5 hj5 hmj
              have HX : Hid (In w wi b ((l.take i).map kd) k (j + 1) (.slice A7 (i + 1) c7) wo.heap.size w7.heap.size) := by
                obtain ⟨i1, i2, i3, i4, i5, i6, i7⟩ := hIn.out
                refine hid ⟨i1, i2, ?_, i4, i5, i6, i7⟩
                rw [← HM.out] at i3 ⊢
                by_cases h1 : m < j
                · rw [if_pos h1] at i3; rw [if_pos (by omega)]; exact i3
                · rw [if_neg h1] at i3; rw [if_neg (by omega)]; exact i3
              clear hmj
              have e1 : ¬ (nameS m).toList = (nameS j).toList := by simpa using e0
              go_wp2
              go_roundg (gk - 1)
              case measure => have := HJ.out; omega
              case rel => exact ⟨j + 1, by have := HJ.out; omega, by go_num, HX⟩
          · have hj2 : ¬ (j : Int) < 5 := by omega
            obtain rfl : j = 5 := by omega
            clear hj
            have HX : Hid (St w wi b ((l.take (i + 1)).map kd) (.slice A7 (i + 1) c7)) := by
              obtain ⟨i1, i2, i3, i4, i5, i6, i7⟩ := hIn.out
              have e : (if kplace k < 5 then cntA ((l.take i).map kd ++ [k]) else cntA ((l.take i).map kd)) = cntA ((l.take i).map kd ++ [k]) := by
                by_cases h1 : kplace k < 5
                · rw [if_pos h1]
                · rw [if_neg h1, cntA_none _ _ (by have := kplace_le k; omega)]
              rw [e] at i3
              rw [HI.out.2]
              exact hid ⟨i1, i2, i3, i4, i5⟩
            go_wp2
            go_roundg (ko - 1)
            case measure => have := HI.out.1; omega
            case rel => exact ⟨i + 1, by have := HI.out.1; omega, by go_num, HX⟩
      · have hi2 : ¬ (i : Int) < (l.length : Int) := by omega
        obtain ⟨ks, hks⟩ : ∃ ks, ks = (l.take i).map kd := ⟨_, rfl⟩
        rw [← hks] at hst hlc1 ⊢
        have hle : ks.length ≤ 1000 := by rw [hks, List.length_map, List.length_take]; omega
        clear hks hi
        have hrd := hst.out.1.rds.drew
        have hbl := hst.out.2.2.1.lt
        have c0 := hst.out.2.2.1.cell_ (cntA_at ks 0 (by omega))
        have c1 := hst.out.2.2.1.cell_ (cntA_at ks 1 (by omega))
        have c2 := hst.out.2.2.1.cell_ (cntA_at ks 2 (by omega))
        have c3 := hst.out.2.2.1.cell_ (cntA_at ks 3 (by omega))
        have c4 := hst.out.2.2.1.cell_ (cntA_at ks 4 (by omega))
        have HRD := hid hrd
        clear hrd
        have heq := fun (w : World) => run_eq5 (cnt ks 0) (cnt ks 1) (cnt ks 2) (cnt ks 3) (cnt ks 4) (cnt_wf ks 0 hle) (cnt_wf ks 1 hle) (cnt_wf ks 2 hle) (cnt_wf ks 3 hle) (cnt_wf ks 4 hle) w
        go_wp2_with fail
        go_region_held3 (fun w' => w'.cell? ⟨b, 0, none⟩ = some (.int .i64 (cnt ks 0)) ∧ w'.cell? ⟨b, 1, none⟩ = some (.int .i64 (cnt ks 1)) ∧ w'.cell? ⟨b, 2, none⟩ = some (.int .i64 (cnt ks 2)) ∧ w'.cell? ⟨b, 3, none⟩ = some (.int .i64 (cnt ks 3)) ∧ w'.cell? ⟨b, 4, none⟩ = some (.int .i64 (cnt ks 4)))
          (first | go_keep | exact ⟨v0, v1, v2, v3, v4⟩)
          (first | (go_at_call 16; refine (count_any _ _ _ ks wo.drew rfl hle HRD.out).mono ?_; unfold cntA; rintro e w9 ⟨rfl, b9⟩; have v0 := (b9.cell (p := ⟨b, 0, none⟩) hbl).trans c0; have v1 := (b9.cell (p := ⟨b, 1, none⟩) hbl).trans c1; have v2 := (b9.cell (p := ⟨b, 2, none⟩) hbl).trans c2; have v3 := (b9.cell (p := ⟨b, 3, none⟩) hbl).trans c3; have v4 := (b9.cell (p := ⟨b, 4, none⟩) hbl).trans c4))
        have HB := hid (hst.out.2.2.2.1.trans ((⟨b9.os, b9.tape, b9.output, b9.size, b9.block⟩ : Below wo.heap.size wo w9).mono hst.out.2.2.2.1.size))
        clear b9
        go_wp2
        go_ret
        exact ⟨rfl, HB.out⟩
  · have hl2 : decide ((100 : Int) < (l.length : Int)) = true := by simp; omega
    have hl3 : (100 : Int) < (l.length : Int) := by omega
    clear HH
    go_wp2
    go_ret
    exact ⟨rfl, hb1⟩
def IsBytes (w : World) (v : Value) : Prop := ∃ A c l, v = .slice A (l : List UInt8).length c ∧ l.length ≤ maxLen ∧ Bs [5] w.heap.size w A l.length l
theorem counts_law (v : Value) (w : World) (h : IsBytes w v) : Calls Try.prog 5 #[v] w fun e w' => e = .returned (.bool true) ∧ Below w.heap.size w w' := by
  obtain ⟨A, c, l, rfl, h1, h2⟩ := h
  exact counts_any A c l w h1 h2
theorem open_raw {H : Type} {enc : TypeId × Value → H} {w : World} {spare : Nat → Bool} {held : Bool} {r : Reach} {b0 : Nat} {v : Value} {d : DataW H} {p : List MemPlace}
    (hv : Value.okWide Try.prog w r b0 22 v) (h : DataW.Trod enc Try.prog w 0 spare held 22 v d p) : IsBytes w v :=
  arg_bytes [5] Try.underlying22 Try.underlying5 (by kernel_rfl) hv h
end Go.Proofs.Ytagcfmmbbcnkbaa
