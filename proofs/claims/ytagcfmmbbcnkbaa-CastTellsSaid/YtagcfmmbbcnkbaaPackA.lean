/- The contract of hubbubseat.Packet, the kinds of few fields: some packet, small. (printed by gen_pack.py) -/
import Derived.Test.YtagcfmmbbcnkbaaConn
set_option linter.all false
namespace Go.Proofs.Ytagcfmmbbcnkbaa
open Go.RowKit Go.Hub

theorem built1 (k : Int) : Try.prog.built 28 [(0, .int .i64 k)] = some (Pk.cells { kind := k } s0) := by kernel_rfl
theorem built2 (k i : Int) : Try.prog.built 28 [(0, .int .i64 k), (4, .int .i64 i)] = some (Pk.cells { kind := k, id := i } s0) := by kernel_rfl
theorem light0 (p : Pk) (h1 : p.pay = []) (h2 : p.wp = []) (h3 : p.pass = []) (h4 : p.subs = []) (h5 : p.codes = []) : Light p := by simp [Light, h1, h2, h3, h4, h5]
/-- what the last store leaves -/
theorem ret_row (B : Nat) (w : World) (p : Pk) (h1 : p.pay = []) (h2 : p.wp = []) (h3 : p.pass = []) (h4 : p.subs = []) (h5 : p.codes = []) :
    Blk ((w.alloc (.cells zeroPk 28)).setRow w.heap.size (p.cells s0)) w.heap.size 28 (p.cells s0) ∧ (p.Ok EP B ((w.alloc (.cells zeroPk 28)).setRow w.heap.size (p.cells s0)) s0 ∧ (Light p ∧ Below w.heap.size w ((w.alloc (.cells zeroPk 28)).setRow w.heap.size (p.cells s0)))) := by
  have F := fresh_row w 28 (p.cells s0) rfl
  exact ⟨F.1, ok0 p h1 h2 h3 h4 h5 _ _, light0 p h1 h2 h3 h4 h5, F.2⟩
set_option maxRecDepth 100000 in
set_option maxHeartbeats 2000000 in
theorem packet_8 (B : Nat) (k a b c : Int) (v : Value) (w : World) (hq : k % 15 = 8) (hk0 : 0 ≤ k) (hk1 : k ≤ 255) (hb0 : 0 ≤ b) (hb1 : b ≤ 255) (hc0 : 0 ≤ c) (hc1 : c ≤ 255) : Calls Try.prog 8 #[.int .u8 k, .int .u8 a, .int .u8 b, .int .u8 c, v] w (PkRet B w) := by
  have HF := hid (ret_row B w { kind := 4, id := b % 7 + 1 } rfl rfl rfl rfl rfl)
  have z := Blk.new w 28 zeroPk
  obtain ⟨cs, hcs⟩ : ∃ cs, cs = Pk.cells { kind := 4, id := b % 7 + 1 } s0 := ⟨_, rfl⟩
  have h1 : cs.all (·.oneCell') = true := by rw [hcs]; exact Pk.cells_one _ _
  have hz : zeroPk.size = cs.size := by rw [hcs]; rfl
  have hbt : Try.prog.built 28 [(0, .int .i64 4), (4, .int .i64 (b % 7 + 1))] = some cs := by rw [hcs]; exact built2 _ _
  have hsz : (Try.prog.info? 28).map (·.size) = some cs.size := by rw [hcs]; exact sz28
  rw [← hcs] at HF
  have HC := hid hcs
  clear hcs
  go_enter Try.func8, Try.ntmps8
  go_wp2_with (first
    | (refine wpList_build_any rfl 28 _ rfl [(0, .int .i64 4), (4, .int .i64 (b % 7 + 1))] rfl _ hbt ?_)
    | (refine wpList_store_row rfl 28 (.tmp 10) (.tmp 103) rfl w.heap.size cs rfl rfl 28 zeroPk z hsz hz h1 ?_)
    | fail)
  exact ret_cell (g := w.heap.size) rfl _ rfl HF.out.1 Try.underlying28 rfl hsz rfl ⟨{ kind := 4, id := b % 7 + 1 }, s0, by rw [HC.out], HF.out.2.1, HF.out.2.2.1, HF.out.2.2.2⟩
set_option maxRecDepth 100000 in
set_option maxHeartbeats 2000000 in
theorem packet_9 (B : Nat) (k a b c : Int) (v : Value) (w : World) (hq : k % 15 = 9) (hk0 : 0 ≤ k) (hk1 : k ≤ 255) (hb0 : 0 ≤ b) (hb1 : b ≤ 255) (hc0 : 0 ≤ c) (hc1 : c ≤ 255) : Calls Try.prog 8 #[.int .u8 k, .int .u8 a, .int .u8 b, .int .u8 c, v] w (PkRet B w) := by
  have HF := hid (ret_row B w { kind := 5, id := b % 7 + 1 } rfl rfl rfl rfl rfl)
  have z := Blk.new w 28 zeroPk
  obtain ⟨cs, hcs⟩ : ∃ cs, cs = Pk.cells { kind := 5, id := b % 7 + 1 } s0 := ⟨_, rfl⟩
  have h1 : cs.all (·.oneCell') = true := by rw [hcs]; exact Pk.cells_one _ _
  have hz : zeroPk.size = cs.size := by rw [hcs]; rfl
  have hbt : Try.prog.built 28 [(0, .int .i64 5), (4, .int .i64 (b % 7 + 1))] = some cs := by rw [hcs]; exact built2 _ _
  have hsz : (Try.prog.info? 28).map (·.size) = some cs.size := by rw [hcs]; exact sz28
  rw [← hcs] at HF
  have HC := hid hcs
  clear hcs
  go_enter Try.func8, Try.ntmps8
  go_wp2_with (first
    | (refine wpList_build_any rfl 28 _ rfl [(0, .int .i64 5), (4, .int .i64 (b % 7 + 1))] rfl _ hbt ?_)
    | (refine wpList_store_row rfl 28 (.tmp 10) (.tmp 107) rfl w.heap.size cs rfl rfl 28 zeroPk z hsz hz h1 ?_)
    | fail)
  exact ret_cell (g := w.heap.size) rfl _ rfl HF.out.1 Try.underlying28 rfl hsz rfl ⟨{ kind := 5, id := b % 7 + 1 }, s0, by rw [HC.out], HF.out.2.1, HF.out.2.2.1, HF.out.2.2.2⟩
set_option maxRecDepth 100000 in
set_option maxHeartbeats 2000000 in
theorem packet_10 (B : Nat) (k a b c : Int) (v : Value) (w : World) (hq : k % 15 = 10) (hk0 : 0 ≤ k) (hk1 : k ≤ 255) (hb0 : 0 ≤ b) (hb1 : b ≤ 255) (hc0 : 0 ≤ c) (hc1 : c ≤ 255) : Calls Try.prog 8 #[.int .u8 k, .int .u8 a, .int .u8 b, .int .u8 c, v] w (PkRet B w) := by
  have HF := hid (ret_row B w { kind := 7, id := b % 7 + 1 } rfl rfl rfl rfl rfl)
  have z := Blk.new w 28 zeroPk
  obtain ⟨cs, hcs⟩ : ∃ cs, cs = Pk.cells { kind := 7, id := b % 7 + 1 } s0 := ⟨_, rfl⟩
  have h1 : cs.all (·.oneCell') = true := by rw [hcs]; exact Pk.cells_one _ _
  have hz : zeroPk.size = cs.size := by rw [hcs]; rfl
  have hbt : Try.prog.built 28 [(0, .int .i64 7), (4, .int .i64 (b % 7 + 1))] = some cs := by rw [hcs]; exact built2 _ _
  have hsz : (Try.prog.info? 28).map (·.size) = some cs.size := by rw [hcs]; exact sz28
  rw [← hcs] at HF
  have HC := hid hcs
  clear hcs
  go_enter Try.func8, Try.ntmps8
  go_wp2_with (first
    | (refine wpList_build_any rfl 28 _ rfl [(0, .int .i64 7), (4, .int .i64 (b % 7 + 1))] rfl _ hbt ?_)
    | (refine wpList_store_row rfl 28 (.tmp 10) (.tmp 111) rfl w.heap.size cs rfl rfl 28 zeroPk z hsz hz h1 ?_)
    | fail)
  exact ret_cell (g := w.heap.size) rfl _ rfl HF.out.1 Try.underlying28 rfl hsz rfl ⟨{ kind := 7, id := b % 7 + 1 }, s0, by rw [HC.out], HF.out.2.1, HF.out.2.2.1, HF.out.2.2.2⟩
set_option maxRecDepth 100000 in
set_option maxHeartbeats 2000000 in
theorem packet_11 (B : Nat) (k a b c : Int) (v : Value) (w : World) (hq : k % 15 = 11) (hk0 : 0 ≤ k) (hk1 : k ≤ 255) (hb0 : 0 ≤ b) (hb1 : b ≤ 255) (hc0 : 0 ≤ c) (hc1 : c ≤ 255) : Calls Try.prog 8 #[.int .u8 k, .int .u8 a, .int .u8 b, .int .u8 c, v] w (PkRet B w) := by
  have HF := hid (ret_row B w { kind := 6, id := c % 5 + 1 } rfl rfl rfl rfl rfl)
  have z := Blk.new w 28 zeroPk
  obtain ⟨cs, hcs⟩ : ∃ cs, cs = Pk.cells { kind := 6, id := c % 5 + 1 } s0 := ⟨_, rfl⟩
  have h1 : cs.all (·.oneCell') = true := by rw [hcs]; exact Pk.cells_one _ _
  have hz : zeroPk.size = cs.size := by rw [hcs]; rfl
  have hbt : Try.prog.built 28 [(0, .int .i64 6), (4, .int .i64 (c % 5 + 1))] = some cs := by rw [hcs]; exact built2 _ _
  have hsz : (Try.prog.info? 28).map (·.size) = some cs.size := by rw [hcs]; exact sz28
  rw [← hcs] at HF
  have HC := hid hcs
  clear hcs
  go_enter Try.func8, Try.ntmps8
  go_wp2_with (first
    | (refine wpList_build_any rfl 28 _ rfl [(0, .int .i64 6), (4, .int .i64 (c % 5 + 1))] rfl _ hbt ?_)
    | (refine wpList_store_row rfl 28 (.tmp 10) (.tmp 118) rfl w.heap.size cs rfl rfl 28 zeroPk z hsz hz h1 ?_)
    | fail)
  exact ret_cell (g := w.heap.size) rfl _ rfl HF.out.1 Try.underlying28 rfl hsz rfl ⟨{ kind := 6, id := c % 5 + 1 }, s0, by rw [HC.out], HF.out.2.1, HF.out.2.2.1, HF.out.2.2.2⟩
set_option maxRecDepth 100000 in
set_option maxHeartbeats 2000000 in
theorem packet_12 (B : Nat) (k a b c : Int) (v : Value) (w : World) (hq : k % 15 = 12) (hk0 : 0 ≤ k) (hk1 : k ≤ 255) (hb0 : 0 ≤ b) (hb1 : b ≤ 255) (hc0 : 0 ≤ c) (hc1 : c ≤ 255) : Calls Try.prog 8 #[.int .u8 k, .int .u8 a, .int .u8 b, .int .u8 c, v] w (PkRet B w) := by
  have HF := hid (ret_row B w { kind := 12 } rfl rfl rfl rfl rfl)
  have z := Blk.new w 28 zeroPk
  obtain ⟨cs, hcs⟩ : ∃ cs, cs = Pk.cells { kind := 12 } s0 := ⟨_, rfl⟩
  have h1 : cs.all (·.oneCell') = true := by rw [hcs]; exact Pk.cells_one _ _
  have hz : zeroPk.size = cs.size := by rw [hcs]; rfl
  have hbt : Try.prog.built 28 [(0, .int .i64 12)] = some cs := by rw [hcs]; exact built1 _
  have hsz : (Try.prog.info? 28).map (·.size) = some cs.size := by rw [hcs]; exact sz28
  rw [← hcs] at HF
  have HC := hid hcs
  clear hcs
  go_enter Try.func8, Try.ntmps8
  go_wp2_with (first
    | (refine wpList_build_any rfl 28 _ rfl [(0, .int .i64 12)] rfl _ hbt ?_)
    | (refine wpList_store_row rfl 28 (.tmp 10) (.tmp 121) rfl w.heap.size cs rfl rfl 28 zeroPk z hsz hz h1 ?_)
    | fail)
  exact ret_cell (g := w.heap.size) rfl _ rfl HF.out.1 Try.underlying28 rfl hsz rfl ⟨{ kind := 12 }, s0, by rw [HC.out], HF.out.2.1, HF.out.2.2.1, HF.out.2.2.2⟩
set_option maxRecDepth 100000 in
set_option maxHeartbeats 2000000 in
theorem packet_14 (B : Nat) (k a b c : Int) (v : Value) (w : World) (hq : k % 15 = 14) (hk0 : 0 ≤ k) (hk1 : k ≤ 255) (hb0 : 0 ≤ b) (hb1 : b ≤ 255) (hc0 : 0 ≤ c) (hc1 : c ≤ 255) : Calls Try.prog 8 #[.int .u8 k, .int .u8 a, .int .u8 b, .int .u8 c, v] w (PkRet B w) := by
  have HF := hid (ret_row B w { kind := 14 } rfl rfl rfl rfl rfl)
  have z := Blk.new w 28 zeroPk
  obtain ⟨cs, hcs⟩ : ∃ cs, cs = Pk.cells { kind := 14 } s0 := ⟨_, rfl⟩
  have h1 : cs.all (·.oneCell') = true := by rw [hcs]; exact Pk.cells_one _ _
  have hz : zeroPk.size = cs.size := by rw [hcs]; rfl
  have hbt : Try.prog.built 28 [(0, .int .i64 14)] = some cs := by rw [hcs]; exact built1 _
  have hsz : (Try.prog.info? 28).map (·.size) = some cs.size := by rw [hcs]; exact sz28
  rw [← hcs] at HF
  have HC := hid hcs
  clear hcs
  go_enter Try.func8, Try.ntmps8
  go_wp2_with (first
    | (refine wpList_build_any rfl 28 _ rfl [(0, .int .i64 14)] rfl _ hbt ?_)
    | (refine wpList_store_row rfl 28 (.tmp 10) (.tmp 129) rfl w.heap.size cs rfl rfl 28 zeroPk z hsz hz h1 ?_)
    | fail)
  exact ret_cell (g := w.heap.size) rfl _ rfl HF.out.1 Try.underlying28 rfl hsz rfl ⟨{ kind := 14 }, s0, by rw [HC.out], HF.out.2.1, HF.out.2.2.1, HF.out.2.2.2⟩
set_option maxRecDepth 100000 in
set_option maxHeartbeats 2000000 in
theorem packet_13 (B : Nat) (k a b c : Int) (x : List UInt8) (A : Option Addr) (cx : Nat) (w : World) (hq : k % 15 = 13) (hk0 : 0 ≤ k) (hk1 : k ≤ 255) (ha : 0 ≤ a ∧ a ≤ 255) (hb : 0 ≤ b ∧ b ≤ 255) (hc : 0 ≤ c ∧ c ≤ 255) (hx : Bs EP B w A x.length x) (hl : x.length ≤ 60) (hB : B ≤ w.heap.size) :
    Calls Try.prog 8 #[.int .u8 k, .int .u8 a, .int .u8 b, .int .u8 c, .slice A x.length cx] w (PkRet B w) := by
  have z := Blk.new w 28 zeroPk
  have b0 : Below w.heap.size w (w.alloc (.cells zeroPk 28)) := (Below.refl _ _).alloc (Nat.le_refl _) _
  have HX := hid (hx.same (.of_below b0))
  have HH := hid (And.intro ha (And.intro hb hc))
  obtain ⟨hb0, hb1⟩ := hb
  clear hx ha hc
  go_enter Try.func8, Try.ntmps8
  go_wp2_with fail
  refine (connect_any B a b c x A cx _ HH.out.1 HH.out.2.1 HH.out.2.2 HX.out hl (by simp; omega)).mono ?_
  rintro e w1 ⟨p, s, rfl, o1, l1, b1⟩
  have z1 := z.below b1 z.lt
  have bb := b0.trans (b1.mono b0.size)
  have K := (Kept.refl [w.heap.size] w1).setRow (g := w.heap.size) (by simp) (p.cells s)
  have S := Same.of_kept (E := EP) (B := B) K (fun x hx _ => by
    simp at hx; subst hx
    exact ⟨hB, z1.not_typ (by decide)⟩)
  have HF := hid (And.intro (z1.setRow (p.cells s)) (And.intro (o1.same S) (bb.trans (K.below (B := w.heap.size) (by simp) bb.size))))
  clear K S bb b1 o1 z b0
  go_wp2_with (first
    | (refine wpList_store_row rfl 28 (.tmp 10) (.tmp 128) rfl w.heap.size (p.cells s) rfl rfl 28 zeroPk z1 sz28 rfl (p.cells_one s) ?_)
    | fail)
  exact ret_cell (g := w.heap.size) rfl _ rfl HF.out.1 Try.underlying28 rfl sz28 rfl ⟨p, s, rfl, HF.out.2.1, l1, HF.out.2.2⟩
end Go.Proofs.Ytagcfmmbbcnkbaa
