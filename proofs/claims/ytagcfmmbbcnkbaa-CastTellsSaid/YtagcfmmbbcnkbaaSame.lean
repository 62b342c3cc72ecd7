/- The contract of Same: two packets with the same content are the same. (printed by gen_same.py) -/
import Derived.Test.YtagcfmmbbcnkbaaK
import Derived.Deep.Cut
import Derived.Deep.CutRange
import Derived.Deep.CutBlock
set_option linter.all false
namespace Go.Proofs.Ytagcfmmbbcnkbaa
open Go.RowKit Go.Hub

theorem part0 (x y : Value) (w : World) : (part 9 #[x, y] 0).run Try.prog w = .ok x w := by kernel_rfl
theorem part1 (x y : Value) (w : World) : (part 3 #[x, y] 1).run Try.prog w = .ok y w := by kernel_rfl
theorem eqs (a : ByteArray) (d : Nat) (w : World) : (Op.equalIn (d + 1) 9 (.string a) (.string a)).run Try.prog w = .ok true w := by
  simp [Op.equalIn, run_underlying Try.underlying9]
  show ByteArray.beq a a = true
  simp [ByteArray.beq]
theorem eqi (a : Int) (d : Nat) (w : World) : (Op.equalIn (d + 1) 3 (.int .i64 a) (.int .i64 a)).run Try.prog w = .ok true w := by
  simp [Op.equalIn, run_underlying Try.underlying3]
theorem eq_sub (a : ByteArray) (b : Int) (w : World) : (Op.equalIn 10000 58 (.agg #[.string a, .int .i64 b]) (.agg #[.string a, .int .i64 b])).run Try.prog w = .ok true w := by
  show (Op.equalIn (9998 + 1 + 1) 58 _ _).run Try.prog w = _
  rw [Op.equalIn]
  simp [run_underlying Try.underlying58, part0, part1, eqs, eqi]
set_option maxHeartbeats 2000000 in
theorem will_same (E : List TypeId) (B : Nat) (t : ByteArray) (x : List UInt8) (q : Int) (r : Bool) (A A' : Option Addr) (c c' : Nat) (w : World) (h : Bs E B w A x.length x) (h' : Bs E B w A' x.length x) :
    Calls Try.prog 24 #[.agg #[.string t, .slice A x.length c, .int .i64 q, .bool r], .agg #[.string t, .slice A' x.length c', .int .i64 q, .bool r]] w fun e w' => e = .returned (.bool true) ∧ Below w.heap.size w w' := by
  have k1 := fun (o o' : Obj) => ((h.same (Same.refl E B w |>.alloc o)).same (Same.refl E B _ |>.alloc o')).conv (P := Try.prog) (c := c) Try.underlying22 Try.underlying5 Try.underlying9
  have k2 := fun (o o' : Obj) => ((h'.same (Same.refl E B w |>.alloc o)).same (Same.refl E B _ |>.alloc o')).conv (P := Try.prog) (c := c') Try.underlying22 Try.underlying5 Try.underlying9
  have hb := fun (o o' : Obj) => ((Below.refl w.heap.size w).alloc (Nat.le_refl _) o).alloc (by simp) o'
  have HB := hid hb
  clear hb h h'
  go_enter Try.func24, Try.ntmps24
  go_wp2
  go_ret
  exact ⟨rfl, HB.out _ _⟩

/-- the cells of one element -/
theorem sub_at {E : List TypeId} {B : Nat} {w : World} {A : Option Addr} {l : List (ByteArray × Int)} (h : Cs E B w A l.length 2 (subCells l)) {i : Nat} (hi : i < l.length) :
    ∃ g off, A = some ⟨g, off, none⟩ ∧ ∃ x : ByteArray × Int, l[i]? = some x ∧ w.cell? ⟨g, off + i * 2, none⟩ = some (.string x.1) ∧ w.cell? ⟨g, off + i * 2 + 1, none⟩ = some (.int .i64 x.2) := by
  obtain ⟨x, hx⟩ : ∃ x, l[i]? = some x := ⟨l[i], by simp [hi]⟩
  obtain ⟨g, off, e, _, _, hc⟩ := h.2 (by omega)
  exact ⟨g, off, e, x, hx, hc _ _ (subCells_at l i x hx).1, by rw [Nat.add_assoc]; exact hc _ _ (subCells_at l i x hx).2⟩
theorem code_at {E : List TypeId} {B : Nat} {w : World} {A : Option Addr} {l : List Int} (h : Cs E B w A l.length 1 (codeCells l)) {i : Nat} (hi : i < l.length) :
    ∃ g off, A = some ⟨g, off, none⟩ ∧ ∃ x : Int, l[i]? = some x ∧ w.cell? ⟨g, off + i, none⟩ = some (.int .i64 x) := by
  obtain ⟨x, hx⟩ : ∃ x, l[i]? = some x := ⟨l[i], by simp [hi]⟩
  obtain ⟨g, off, e, _, _, hc⟩ := h.2 (by omega)
  exact ⟨g, off, e, x, hx, hc _ _ (by simp [codeCells, hx])⟩
set_option maxRecDepth 100000 in
set_option maxHeartbeats 4000000 in
theorem same_any (B : Nat) (p : Pk) (s t : Ad) (w : World) (h : p.Ok EP B w s) (h' : p.Ok EP B w t) (hsm : p.Small) : Calls Try.prog 14 #[.agg (p.cells s), .agg (p.cells t)] w fun e w' => e = .returned (.bool true) ∧ Below w.heap.size w w' := by
  obtain ⟨W, hW⟩ : ∃ W, W = (w.alloc (.cells (p.cells s) 28)).alloc (.cells (p.cells t) 28) := ⟨_, rfl⟩
  have z0 : Blk W w.heap.size 28 (p.cells s) := by rw [hW]; exact (Blk.new w 28 (p.cells s)).alloc _
  have z1 : Blk W (w.heap.size + 1) 28 (p.cells t) := by
    have := Blk.new (w.alloc (.cells (p.cells s) 28)) 28 (p.cells t)
    rw [World.size_alloc] at this
    rw [hW]; exact this
  have b0 : Below w.heap.size w W := by rw [hW]; exact ((Below.refl _ _).alloc (Nat.le_refl _) _).alloc (by simp) _
  have o1 := h.old b0
  have o2 := h'.old b0
  have k1 := o1.pay.conv (P := Try.prog) (c := s.pc) Try.underlying22 Try.underlying5 Try.underlying9
  have k2 := o2.pay.conv (P := Try.prog) (c := t.pc) Try.underlying22 Try.underlying5 Try.underlying9
  have k3 := o1.pass.conv (P := Try.prog) (c := s.sc) Try.underlying22 Try.underlying5 Try.underlying9
  have k4 := o2.pass.conv (P := Try.prog) (c := t.sc) Try.underlying22 Try.underlying5 Try.underlying9
  have HB := hid (And.intro z0 (And.intro z1 (And.intro b0 (And.intro o1 o2))))
  have HS := hid hsm
  have y0 := z0
  have y1 := z1
  have p0 := y0.cell_ (i := 0) (v := .int .i64 p.kind) rfl
  have q0 := y1.cell_ (i := 0) (v := .int .i64 p.kind) rfl
  have p1 := y0.cell_ (i := 1) (v := .bool p.dup) rfl
  have q1 := y1.cell_ (i := 1) (v := .bool p.dup) rfl
  have p2 := y0.cell_ (i := 2) (v := .bool p.retain) rfl
  have q2 := y1.cell_ (i := 2) (v := .bool p.retain) rfl
  have p3 := y0.cell_ (i := 3) (v := .int .i64 p.qos) rfl
  have q3 := y1.cell_ (i := 3) (v := .int .i64 p.qos) rfl
  have p4 := y0.cell_ (i := 4) (v := .int .i64 p.id) rfl
  have q4 := y1.cell_ (i := 4) (v := .int .i64 p.id) rfl
  have p5 := y0.cell_ (i := 5) (v := .string p.topic) rfl
  have q5 := y1.cell_ (i := 5) (v := .string p.topic) rfl
  have p6 := y0.cell_ (i := 6) (v := .slice s.pa p.pay.length s.pc) rfl
  have q6 := y1.cell_ (i := 6) (v := .slice t.pa p.pay.length t.pc) rfl
  have p7 := y0.cell_ (i := 7) (v := .int .i64 p.level) rfl
  have q7 := y1.cell_ (i := 7) (v := .int .i64 p.level) rfl
  have p8 := y0.cell_ (i := 8) (v := .string p.client) rfl
  have q8 := y1.cell_ (i := 8) (v := .string p.client) rfl
  have p9 := y0.cell_ (i := 9) (v := .bool p.clean) rfl
  have q9 := y1.cell_ (i := 9) (v := .bool p.clean) rfl
  have p10 := y0.cell_ (i := 10) (v := .int .i64 p.keep) rfl
  have q10 := y1.cell_ (i := 10) (v := .int .i64 p.keep) rfl
  have p11 := y0.cell_ (i := 11) (v := .bool p.hasWill) rfl
  have q11 := y1.cell_ (i := 11) (v := .bool p.hasWill) rfl
  have p12 := y0.cell_ (i := 12) (v := .string p.wt) rfl
  have q12 := y1.cell_ (i := 12) (v := .string p.wt) rfl
  have p13 := y0.cell_ (i := 13) (v := .slice s.wa p.wp.length s.wc) rfl
  have q13 := y1.cell_ (i := 13) (v := .slice t.wa p.wp.length t.wc) rfl
  have p14 := y0.cell_ (i := 14) (v := .int .i64 p.wq) rfl
  have q14 := y1.cell_ (i := 14) (v := .int .i64 p.wq) rfl
  have p15 := y0.cell_ (i := 15) (v := .bool p.wr) rfl
  have q15 := y1.cell_ (i := 15) (v := .bool p.wr) rfl
  have p16 := y0.cell_ (i := 16) (v := .bool p.hasUser) rfl
  have q16 := y1.cell_ (i := 16) (v := .bool p.hasUser) rfl
  have p17 := y0.cell_ (i := 17) (v := .bool p.hasPass) rfl
  have q17 := y1.cell_ (i := 17) (v := .bool p.hasPass) rfl
  have p18 := y0.cell_ (i := 18) (v := .string p.user) rfl
  have q18 := y1.cell_ (i := 18) (v := .string p.user) rfl
  have p19 := y0.cell_ (i := 19) (v := .slice s.sa p.pass.length s.sc) rfl
  have q19 := y1.cell_ (i := 19) (v := .slice t.sa p.pass.length t.sc) rfl
  have p20 := y0.cell_ (i := 20) (v := .bool p.present) rfl
  have q20 := y1.cell_ (i := 20) (v := .bool p.present) rfl
  have p21 := y0.cell_ (i := 21) (v := .int .i64 p.code) rfl
  have q21 := y1.cell_ (i := 21) (v := .int .i64 p.code) rfl
  have p22 := y0.cell_ (i := 22) (v := .slice s.ua p.subs.length s.uc) rfl
  have q22 := y1.cell_ (i := 22) (v := .slice t.ua p.subs.length t.uc) rfl
  have p23 := y0.cell_ (i := 23) (v := .slice s.ca p.codes.length s.cc) rfl
  have q23 := y1.cell_ (i := 23) (v := .slice t.ca p.codes.length t.cc) rfl
  clear z0 z1 b0 o1 o2 h h' hsm y0 y1
  go_enter Try.func14, Try.ntmps14
  go_upto_region 1 with fail
  rw [← hW]
  clear hW
  go_wp2_with fail
  refine (will_same EP B p.wt p.wp p.wq p.wr s.wa t.wa s.wc t.wc W HB.out.2.2.2.1.wp HB.out.2.2.2.2.wp).mono ?_
  rintro e w1 ⟨rfl, b1⟩
  clear k1 k2 k3 k4 p0 q0 p1 q1 p2 q2 p3 q3 p4 q4 p5 q5 p6 q6 p7 q7 p8 q8 p9 q9 p10 q10 p11 q11 p12 q12 p13 q13 p14 q14 p15 q15 p16 q16 p17 q17 p18 q18 p19 q19 p20 q20 p21 q21 p22 q22 p23 q23
  have o1 := HB.out.2.2.2.1.old b1
  have o2 := HB.out.2.2.2.2.old b1
  have y0 := HB.out.1.below b1 HB.out.1.lt
  have y1 := HB.out.2.1.below b1 HB.out.2.1.lt
  have HE := hid (And.intro (HB.out.2.2.1.trans (b1.mono HB.out.2.2.1.size)) (And.intro o1 o2))
  have HY := hid (And.intro y0 y1)
  have p22 := y0.cell_ (i := 22) (v := .slice s.ua p.subs.length s.uc) rfl
  have q22 := y1.cell_ (i := 22) (v := .slice t.ua p.subs.length t.uc) rfl
  clear y0 y1 b1 o1 o2
  have hm1 : p.subs.length ≤ 1000000 := HS.out.2.2.2.1
  have hm2 : p.codes.length ≤ 1000000 := HS.out.2.2.2.2
  go_wp2_with fail
  go_loopg [5] p.subs.length (fun g v wr => ∃ i : Nat, i + g = p.subs.length ∧ v = .int .i64 i ∧ ∃ n, wr = w1.drewN n)
  case atStart => exact ⟨0, by omega, rfl, 0, rfl⟩
  case round =>
    obtain ⟨i, hi, rfl, n, rfl⟩ := hrel
    by_cases hlt : i < p.subs.length
    · have hd1 := HE.out.2.1.subs.same (E := EP) (B := B) ((Same.refl _ _ w1).drewN n)
      obtain ⟨g, off, e1, x, hx, c1, c2⟩ := sub_at HE.out.2.1.subs hlt
      obtain ⟨g', off', e2, x', hx', c1', c2'⟩ := sub_at HE.out.2.2.subs hlt
      obtain rfl : x = x' := Option.some.inj (hx.symm.trans hx')
      have heq := fun (w : World) => eq_sub x.1 x.2 w
      have hi2 : (i : Int) < (p.subs.length : Int) := by omega
      rw [e1] at p22
      rw [e2] at q22
      have d22 := hid p22
      have HI := hid hi
      clear hd1 hx hx' hi
      go_wp2
      go_quiet (fail)
      go_wp2
      go_roundg (gk - 1)
      case measure => have := HI.out; omega
      case rel => exact ⟨i + 1, by have := HI.out; omega, by go_num, _, rfl⟩
    · have hi2 : ¬ (i : Int) < (p.subs.length : Int) := by omega
      have p23 := HY.out.1.cell_ (i := 23) (v := .slice s.ca p.codes.length s.cc) rfl
      have q23 := HY.out.2.cell_ (i := 23) (v := .slice t.ca p.codes.length t.cc) rfl
      clear hi hlt
      go_wp2
      go_loopg [6] p.codes.length (fun g v wr => ∃ i : Nat, i + g = p.codes.length ∧ v = .int .i64 i ∧ ∃ n, wr = w1.drewN n)
      case atStart => exact ⟨0, by omega, rfl, _, rfl⟩
      case round =>
        obtain ⟨i, hi, rfl, n, rfl⟩ := hrel
        by_cases hlt : i < p.codes.length
        · obtain ⟨g, off, e1, x, hx, c1⟩ := code_at HE.out.2.1.codes hlt
          obtain ⟨g', off', e2, x', hx', c1'⟩ := code_at HE.out.2.2.codes hlt
          obtain rfl : x = x' := Option.some.inj (hx.symm.trans hx')
          have hi2 : (i : Int) < (p.codes.length : Int) := by omega
          rw [e1] at p23
          rw [e2] at q23
          have HI := hid hi
          clear hx hx' hi
          go_wp2
          go_quiet (fail)
          go_wp2
          go_roundg (gk - 1)
          case measure => have := HI.out; omega
          case rel => exact ⟨i + 1, by have := HI.out; omega, by go_num, _, rfl⟩
        · have hi2 : ¬ (i : Int) < (p.codes.length : Int) := by omega
          have p0 := HY.out.1.cell_ (i := 0) (v := .int .i64 p.kind) rfl
          have q0 := HY.out.2.cell_ (i := 0) (v := .int .i64 p.kind) rfl
          have p1 := HY.out.1.cell_ (i := 1) (v := .bool p.dup) rfl
          have q1 := HY.out.2.cell_ (i := 1) (v := .bool p.dup) rfl
          have p2 := HY.out.1.cell_ (i := 2) (v := .bool p.retain) rfl
          have q2 := HY.out.2.cell_ (i := 2) (v := .bool p.retain) rfl
          have p3 := HY.out.1.cell_ (i := 3) (v := .int .i64 p.qos) rfl
          have q3 := HY.out.2.cell_ (i := 3) (v := .int .i64 p.qos) rfl
          have p4 := HY.out.1.cell_ (i := 4) (v := .int .i64 p.id) rfl
          have q4 := HY.out.2.cell_ (i := 4) (v := .int .i64 p.id) rfl
          have p5 := HY.out.1.cell_ (i := 5) (v := .string p.topic) rfl
          have q5 := HY.out.2.cell_ (i := 5) (v := .string p.topic) rfl
          have p7 := HY.out.1.cell_ (i := 7) (v := .int .i64 p.level) rfl
          have q7 := HY.out.2.cell_ (i := 7) (v := .int .i64 p.level) rfl
          have p8 := HY.out.1.cell_ (i := 8) (v := .string p.client) rfl
          have q8 := HY.out.2.cell_ (i := 8) (v := .string p.client) rfl
          have p9 := HY.out.1.cell_ (i := 9) (v := .bool p.clean) rfl
          have q9 := HY.out.2.cell_ (i := 9) (v := .bool p.clean) rfl
          have p10 := HY.out.1.cell_ (i := 10) (v := .int .i64 p.keep) rfl
          have q10 := HY.out.2.cell_ (i := 10) (v := .int .i64 p.keep) rfl
          have p11 := HY.out.1.cell_ (i := 11) (v := .bool p.hasWill) rfl
          have q11 := HY.out.2.cell_ (i := 11) (v := .bool p.hasWill) rfl
          have p16 := HY.out.1.cell_ (i := 16) (v := .bool p.hasUser) rfl
          have q16 := HY.out.2.cell_ (i := 16) (v := .bool p.hasUser) rfl
          have p17 := HY.out.1.cell_ (i := 17) (v := .bool p.hasPass) rfl
          have q17 := HY.out.2.cell_ (i := 17) (v := .bool p.hasPass) rfl
          have p18 := HY.out.1.cell_ (i := 18) (v := .string p.user) rfl
          have q18 := HY.out.2.cell_ (i := 18) (v := .string p.user) rfl
          have p20 := HY.out.1.cell_ (i := 20) (v := .bool p.present) rfl
          have q20 := HY.out.2.cell_ (i := 20) (v := .bool p.present) rfl
          have p21 := HY.out.1.cell_ (i := 21) (v := .int .i64 p.code) rfl
          have q21 := HY.out.2.cell_ (i := 21) (v := .int .i64 p.code) rfl
          clear hi hlt
          go_wp2
          go_ret
          exact ⟨rfl, belowDrewN HE.out.1 _⟩
end Go.Proofs.Ytagcfmmbbcnkbaa
