/- Contracts: texts of pieces, the seat's filters and topics, what is known. -/
import Derived.Test.YtpdacegpjofdeaaDoorTm
set_option linter.all false
namespace Go.Proofs.YtpdacegpjofdeaaDoor
open Go.RowKit Go.Hub Go.Lib
theorem wzi9_tn : (Tryd.prog.info? 9).map (fun i => (i.zero, i.size)) = some (some (.string ⟨#[]⟩), 1) := by kernel_rfl
theorem wbs26_13_tn (x0 : ByteArray) (x1 : ByteArray) (x2 : ByteArray) (x3 : ByteArray) (x4 : ByteArray) (x5 : ByteArray) (x6 : ByteArray) (x7 : ByteArray) (x8 : ByteArray) (x9 : ByteArray) (x10 : ByteArray) (x11 : ByteArray) (x12 : ByteArray) : Instr.fill (fun i => some (i * 1, 1)) ((Array.range (13 * 1)).map fun j => (Value.cells (.string ⟨#[]⟩))[j % (Value.cells (.string ⟨#[]⟩)).size]!) [(0, .string x0), (1, .string x1), (2, .string x2), (3, .string x3), (4, .string x4), (5, .string x5), (6, .string x6), (7, .string x7), (8, .string x8), (9, .string x9), (10, .string x10), (11, .string x11), (12, .string x12)] = some #[.string x0, .string x1, .string x2, .string x3, .string x4, .string x5, .string x6, .string x7, .string x8, .string x9, .string x10, .string x11, .string x12] := by kernel_rfl
theorem wsz5_tn : (Tryd.prog.info? 5).map (·.size) = some 1 := by kernel_rfl
theorem wsz9_tn : (Tryd.prog.info? 9).map (·.size) = some 1 := by kernel_rfl
theorem wbs26_10_tn (x0 : ByteArray) (x1 : ByteArray) (x2 : ByteArray) (x3 : ByteArray) (x4 : ByteArray) (x5 : ByteArray) (x6 : ByteArray) (x7 : ByteArray) (x8 : ByteArray) (x9 : ByteArray) : Instr.fill (fun i => some (i * 1, 1)) ((Array.range (10 * 1)).map fun j => (Value.cells (.string ⟨#[]⟩))[j % (Value.cells (.string ⟨#[]⟩)).size]!) [(0, .string x0), (1, .string x1), (2, .string x2), (3, .string x3), (4, .string x4), (5, .string x5), (6, .string x6), (7, .string x7), (8, .string x8), (9, .string x9)] = some #[.string x0, .string x1, .string x2, .string x3, .string x4, .string x5, .string x6, .string x7, .string x8, .string x9] := by kernel_rfl
theorem wbs26_7_tn (x0 : ByteArray) (x1 : ByteArray) (x2 : ByteArray) (x3 : ByteArray) (x4 : ByteArray) (x5 : ByteArray) (x6 : ByteArray) : Instr.fill (fun i => some (i * 1, 1)) ((Array.range (7 * 1)).map fun j => (Value.cells (.string ⟨#[]⟩))[j % (Value.cells (.string ⟨#[]⟩)).size]!) [(0, .string x0), (1, .string x1), (2, .string x2), (3, .string x3), (4, .string x4), (5, .string x5), (6, .string x6)] = some #[.string x0, .string x1, .string x2, .string x3, .string x4, .string x5, .string x6] := by kernel_rfl
def p13 : List ByteArray := [⟨#[97]⟩, ⟨#[98]⟩, ⟨#[47]⟩, ⟨#[43]⟩, ⟨#[35]⟩, ⟨#[36]⟩, ⟨#[195, 169]⟩, ⟨#[47]⟩, ⟨#[47]⟩, ⟨#[255]⟩, ⟨#[0]⟩, ⟨#[43, 47]⟩, ⟨#[47, 35]⟩]
def p10 : List ByteArray := [⟨#[97]⟩, ⟨#[35]⟩, ⟨#[97, 47, 43]⟩, ⟨#[43, 47, 98]⟩, ⟨#[97, 47, 35]⟩, ⟨#[98, 47, 99]⟩, ⟨#[36, 115, 47, 35]⟩, ⟨#[43]⟩, ⟨#[43, 47, 43]⟩, ⟨#[195, 169, 47, 35]⟩]
def p7 : List ByteArray := [⟨#[97]⟩, ⟨#[97, 47, 98]⟩, ⟨#[98, 47, 99]⟩, ⟨#[36, 115, 47, 97]⟩, ⟨#[97, 47, 47, 98]⟩, ⟨#[195, 169, 47, 97]⟩, ⟨#[99]⟩]

theorem list_at (l : List ByteArray) (m : Nat) (h : ∀ x ∈ l, x.size ≤ m) (i : Int) (hi : i.toNat < l.length) : ∃ x, l[i.toNat]? = some x ∧ x.size ≤ m := ⟨l[i.toNat], List.getElem?_eq_getElem hi, h _ (List.getElem_mem hi)⟩
theorem p13_at (b : UInt8) : ∃ x, p13[Int.toNat (((b.toNat : Nat) : Int) % 13)]? = some x ∧ x.size ≤ 2 := list_at p13 2 (by decide) _ (by show _ < 13; omega)
theorem p10_at (k : Int) (h : 0 ≤ k) : ∃ x, p10[Int.toNat (k % 10)]? = some x ∧ x.size ≤ 10 := list_at p10 10 (by decide) _ (by show _ < 10; omega)
theorem p7_at (k : Int) (h : 0 ≤ k) : ∃ x, p7[Int.toNat (k % 7)]? = some x ∧ x.size ≤ 10 := list_at p7 10 (by decide) _ (by show _ < 7; omega)
theorem ss_blk {w : World} {g t : Nat} {l : List ByteArray} (B : Blk w g t (l.map Value.string).toArray) : Ss w (some ⟨g, 0, none⟩) l :=
  ⟨by simp, fun _ => ⟨g, 0, rfl, B.lt, fun j u hu => by
    rw [Nat.zero_add]
    exact B.cell_ (by rw [← Array.getElem?_toList]; exact hu)⟩⟩
theorem ss_cellI {w : World} {A : Option Addr} {b off : Nat} {l : List ByteArray} {x : ByteArray} {i : Int} (h : Ss w A l) (hA : A = some ⟨b, off, none⟩) (hx : l[i.toNat]? = some x) : w.cell? ⟨b, off + i.toNat * 1, none⟩ = some (.string x) := by
  have := ss_cell h hA hx
  rwa [Int.toNat_natCast] at this
def Us (w : World) (A : Option Addr) (l : List UInt8) : Prop := Sl w A l.length 1 (l.map Go.Hub.u8)
theorem Us.kept {w w' : World} {A : Option Addr} {l : List UInt8} (h : Us w A l) (hk : Kept [] w w') : Us w' A l := Sl.kept h hk
theorem Us.addr {w : World} {A : Option Addr} {l : List UInt8} {k : Nat} (h : Us w A l) (hk : k < l.length) : ∃ b off, A = some ⟨b, off, none⟩ := Sl.addr h (by omega)
theorem Us.of_bs {E : List TypeId} {B : Nat} {w : World} {A : Option Addr} {l : List UInt8} (h : Bs E B w A l.length l) : Us w A l := Sl.of_rds h.rds
theorem us_cell {w : World} {A : Option Addr} {b off k : Nat} {l : List UInt8} {x : UInt8} (h : Us w A l) (hA : A = some ⟨b, off, none⟩) (hx : l[k]? = some x) : w.cell? ⟨b, off + Int.toNat (k : Int) * 1, none⟩ = some (.int .u8 ((x.toNat : Nat) : Int)) := by
  have hk := (List.getElem?_eq_some_iff.1 hx).1
  rw [Int.toNat_natCast, Nat.mul_one]
  exact Sl.cell h (by omega) hA (by simp [hx, Go.Hub.u8])

set_option maxHeartbeats 1000000 in
theorem pieces_any (us : List UInt8) (A : Option Addr) (c : Nat) (w : World) (A1 : Us w A us) (hl : us.length ≤ 1000) : Calls Tryd.prog 9 #[.slice A us.length c] w (fun e w' => Kept [] w w' ∧ ∃ t, e = .returned (.string t) ∧ t.size ≤ 2 * us.length) := by
  have HK : Kept [] w w := Kept.refl [] w
  refine C.enter Tryd.func9 rfl Tryd.ntmps9 rfl ?_
  intro a0 f0
  have f1 : Fr 22 a0 [(0, .slice A us.length c)] := f0
  clear f0
  refine wp_seq_k fun K0 hK0 => ?_
  refine C.region ?_
  refine L.val f1 wantedN rfl (by decide) (E.assign f1 rfl) fun a2 f2 => ?_
  clear f1 a0
  refine wpList_nil (hK0 _ _ ?_)
  try clear hK0 K0
  have f3 := f2.sub (sub_cons (i := 0) rfl (sub_cons (i := 2) rfl sub_nil))
  clear f2
  refine wp_seq_k fun K1 hK1 => ?_
  refine C.region ?_
  refine L.val f3 wantedN rfl (by decide) (E.assign f3 rfl) fun a4 f4 => ?_
  clear f3 a2
  refine wpList_nil (hK1 _ _ ?_)
  try clear hK1 K1
  have f5 := f4.sub (sub_cons (i := 0) rfl (sub_cons (i := 2) rfl (sub_cons (i := 3) rfl sub_nil)))
  clear f4
  refine wp_seq_k fun K2 hK2 => ?_
  refine wp_seq_k fun K3 hK3 => ?_
  refine C.region ?_
  refine L.val f5 wantedN rfl (by decide) (E.assign f5 rfl) fun a6 f6 => ?_
  clear f5 a4
  refine wpList_nil (hK3 _ _ ?_)
  try clear hK3 K3
  have f7 := f6.sub (sub_cons (i := 0) rfl (sub_cons (i := 2) rfl (sub_cons (i := 3) rfl (sub_cons (i := 4) rfl sub_nil))))
  clear f6
  refine wp_block ?_
  refine C.loop (fun gk a W => ∃ (k : Nat) (t : ByteArray), k + gk = us.length ∧ t.size ≤ 2 * k ∧ Kept [] w W ∧ Fr 22 a [(0, .slice A us.length c), (3, .string t), (4, .int .i64 k)]) (us.length) ?_ ?_
  · exact ⟨0, ⟨#[]⟩, by omega, by decide, HK, f7.sub (sub_cons rfl (sub_cons rfl (sub_cons rfl sub_nil)))⟩
  · intro gk5 a8 w1 hI KL4 hKL4
    obtain ⟨k, t, hk, ht, HK, f8⟩ := hI
    try clear f7
    refine wp_seq_k fun K5 hK5 => ?_
    refine wp_seq_k fun K6 hK6 => ?_
    refine C.region ?_
    refine L.val f8 wantedN rfl (by decide) (E.move f8 rfl) fun a9 f9 => ?_
    clear f8 a8
    refine L.val f9 wantedN rfl (by decide) (E.move f9 rfl) fun a10 f10 => ?_
    clear f9 a9
    refine L.val f10 wantedN rfl (by decide) (E.lenL f10 Tryd.underlying22 rfl) fun a11 f11 => ?_
    clear f10 a10
    refine L.val f11 wantedN rfl (by decide) (E.lss f11 rfl rfl) fun a12 f12 => ?_
    clear f11 a11
    refine wpList_nil (hK6 _ _ ?_)
    try clear hK6 K6
    have f13 := f12.sub (sub_cons (i := 0) rfl (sub_cons (i := 3) rfl (sub_cons (i := 4) rfl (sub_cons (i := 5) rfl (sub_cons (i := 6) rfl (sub_cons (i := 7) rfl (sub_cons (i := 8) rfl sub_nil)))))))
    clear f12
    first | refine f13.splitD 8 rfl (fun h0 f14 => ?_) (fun h0 f14 => ?_) | refine f13.splitN 8 rfl (fun h0 f14 => ?_) (fun h0 f14 => ?_) | refine f13.splitNB 8 rfl (fun h0 f14 => ?_) (fun h0 f14 => ?_) | refine f13.split 8 rfl (fun h0 f14 => ?_) (fun h0 f14 => ?_)
    · clear f13
      obtain ⟨b, hb⟩ : ∃ b, us[k]? = some b := ⟨us[k]'(by omega), List.getElem?_eq_getElem _⟩
      obtain ⟨b1, o1, hA⟩ := A1.addr (k := k) (by omega)
      obtain ⟨x, hx, hxs⟩ := p13_at b
      refine C.condT f14 rfl ?_
      refine wp_skip (hK5 _ _ ?_)
      try clear hK5 K5
      have f15 := f14.sub (sub_cons (i := 0) rfl (sub_cons (i := 3) rfl (sub_cons (i := 4) rfl (sub_cons (i := 5) rfl (sub_cons (i := 6) rfl (sub_cons (i := 7) rfl (sub_cons (i := 8) rfl sub_nil)))))))
      clear f14
      refine wp_seq_k fun K7 hK7 => ?_
      refine wp_block ?_
      refine C.region ?_
      refine L.val f15 wantedN rfl (by decide) (E.move f15 rfl) fun a16 f16 => ?_
      clear f15 a12
      refine L.buildSlice f16 wantedN (by decide) (parts13 f16 rfl rfl rfl rfl rfl rfl rfl rfl rfl rfl rfl rfl rfl) Tryd.underlying26 wzi9_tn rfl rfl (wbs26_13_tn _ _ _ _ _ _ _ _ _ _ _ _ _) fun a17 w2 g1 N1 f17 => ?_
      have SL := ss_blk (l := p13) N1.blk
      have Bg1 := N1.blk
      have kg1 := N1.kept
      have log1 := N1.lo
      have ltg1 := Bg1.lt
      have szw2 := kg1.size
      have frg1 : w.heap.size ≤ g1 := Nat.le_trans HK.size log1
      replace HK := HK.trans kg1 (by simp)
      clear N1 kg1
      clear f16 a16
      refine L.val f17 wantedN rfl (by decide) (E.move f17 rfl) fun a18 f18 => ?_
      clear f17 a17
      refine L.val f18 wantedN rfl (by decide) (E.move f18 rfl) fun a19 f19 => ?_
      clear f18 a18
      refine L.val f19 wantedN rfl (by decide) (E.indexA f19 (by first | rfl | assumption) Tryd.underlying22 wsz5_tn rfl rfl (by omega) (by omega)) fun a20 f20 => ?_
      clear f19 a19
      refine L.val f20 wantedN rfl (by decide) (by first | exact E.load f20 Tryd.underlying5 rfl rfl ((Bg1).cl rfl) | exact E.load f20 Tryd.underlying5 rfl rfl (us_cell (A1.kept HK) hA hb) | exact E.load f20 Tryd.underlying5 rfl rfl (ss_cellI SL rfl hx)) fun a21 f21 => ?_
      clear f20 a20
      refine L.val f21 wantedN rfl (by decide) (E.rem f21 rfl rfl (by omega) (Int.tmod_eq_emod_of_nonneg (by omega))) fun a22 f22 => ?_
      clear f21 a21
      refine L.val f22 wantedN rfl (by decide) (E.indexA f22 (by first | rfl | assumption) Tryd.underlying26 wsz9_tn rfl rfl (by omega) (by omega)) fun a23 f23 => ?_
      clear f22 a22
      refine L.val f23 wantedN rfl (by decide) (by first | exact E.load f23 Tryd.underlying9 rfl rfl ((Bg1).cl rfl) | exact E.load f23 Tryd.underlying9 rfl rfl (us_cell (A1.kept HK) hA hb) | exact E.load f23 Tryd.underlying9 rfl rfl (ss_cellI SL rfl hx)) fun a24 f24 => ?_
      clear f23 a23
      refine L.val f24 wantedN rfl (by decide) (E.addS f24 rfl rfl (by omega)) fun a25 f25 => ?_
      clear f24 a24
      refine L.val f25 wantedN rfl (by decide) (E.assign f25 rfl) fun a26 f26 => ?_
      clear f25 a25
      refine wpList_nil (hK7 _ _ ?_)
      try clear hK7 K7
      have f27 := f26.sub (sub_cons (i := 0) rfl (sub_cons (i := 3) rfl (sub_cons (i := 4) rfl (sub_cons (i := 5) rfl (sub_cons (i := 6) rfl (sub_cons (i := 7) rfl (sub_cons (i := 8) rfl (sub_cons (i := 11) rfl (sub_cons (i := 12) rfl (sub_cons (i := 13) rfl (sub_cons (i := 14) rfl (sub_cons (i := 15) rfl (sub_cons (i := 16) rfl (sub_cons (i := 17) rfl (sub_cons (i := 18) rfl (sub_cons (i := 19) rfl (sub_cons (i := 20) rfl sub_nil)))))))))))))))))
      clear f26
      refine C.region ?_
      refine L.val f27 wantedN rfl (by decide) (E.move f27 rfl) fun a28 f28 => ?_
      clear f27 a26
      refine L.val f28 wantedN rfl (by decide) (E.add f28 rfl rfl (IntWalk.i64_in _ (by omega))) fun a29 f29 => ?_
      clear f28 a28
      refine L.val f29 wantedN rfl (by decide) (E.assign f29 rfl) fun a30 f30 => ?_
      clear f29 a29
      refine wpList_nil (hKL4 _ _ (gk5 - 1) ?_ ?_)
      · omega
      · exact ⟨k + 1, t ++ x, by omega, by rw [ByteArray.size_append]; omega, HK, f30.sub (sub_cons rfl (sub_cons rfl (sub_cons rfl sub_nil)))⟩
    · clear f13
      refine C.condF f14 rfl ?_
      refine wp_exit (hK2 _ _ ?_)
      try clear hK2 K2
      have f15 := f14.sub (sub_cons (i := 3) rfl sub_nil)
      clear f14
      refine wp_seq_k fun K8 hK8 => ?_
      refine C.region ?_
      refine L.val f15 wantedN rfl (by decide) (E.move f15 rfl) fun a16 f16 => ?_
      clear f15 a12
      refine L.val f16 wantedN rfl (by decide) (E.assign f16 rfl) fun a17 f17 => ?_
      clear f16 a16
      refine wpList_nil (hK8 _ _ ?_)
      try clear hK8 K8
      have f18 := f17.sub (sub_cons (i := 2) rfl sub_nil)
      clear f17
      refine wp_ret ?_
      try simp only [Exit.inBlock, Exit.then]
      refine C.ret (P := Tryd.prog) (fn := Tryd.f9) f18 rfl rfl ?_
      exact ⟨HK, t, rfl, by omega⟩

set_option maxHeartbeats 1000000 in
theorem sfilter_any (k : Int) (w : World) (h0 : 0 ≤ k) (h1 : k < 256) : Calls Tryd.prog 10 #[.int .u8 k] w (fun e w' => Kept [] w w' ∧ ∃ t, e = .returned (.string t) ∧ t.size ≤ 10) := by
  have HK : Kept [] w w := Kept.refl [] w
  refine C.enter Tryd.func10 rfl Tryd.ntmps10 rfl ?_
  intro a0 f0
  have f1 : Fr 8 a0 [(0, .int .u8 k)] := f0
  clear f0
  refine wp_seq_k fun K0 hK0 => ?_
  refine C.region ?_
  refine L.val f1 wantedN rfl (by decide) (E.assign f1 rfl) fun a2 f2 => ?_
  clear f1 a0
  refine wpList_nil (hK0 _ _ ?_)
  try clear hK0 K0
  have f3 := f2.sub (sub_cons (i := 0) rfl (sub_cons (i := 2) rfl sub_nil))
  clear f2
  refine wp_seq_k fun K1 hK1 => ?_
  obtain ⟨x, hx, hxs⟩ := p10_at k h0
  refine C.region ?_
  refine L.buildSlice f3 wantedN (by decide) (parts10 f3 rfl rfl rfl rfl rfl rfl rfl rfl rfl rfl) Tryd.underlying26 wzi9_tn rfl rfl (wbs26_10_tn _ _ _ _ _ _ _ _ _ _) fun a4 w1 g0 N0 f4 => ?_
  have SL := ss_blk (l := p10) N0.blk
  have Bg0 := N0.blk
  have kg0 := N0.kept
  have log0 := N0.lo
  have ltg0 := Bg0.lt
  have szw1 := kg0.size
  have frg0 : w.heap.size ≤ g0 := Nat.le_trans HK.size log0
  replace HK := HK.trans kg0 (by simp)
  clear N0 kg0
  clear f3 a2
  refine L.val f4 wantedN rfl (by decide) (E.move f4 rfl) fun a5 f5 => ?_
  clear f4 a4
  refine L.val f5 wantedN rfl (by decide) (E.rem f5 rfl rfl (by omega) (Int.tmod_eq_emod_of_nonneg (by omega))) fun a6 f6 => ?_
  clear f5 a5
  refine L.val f6 wantedN rfl (by decide) (E.indexA f6 (by first | rfl | assumption) Tryd.underlying26 wsz9_tn rfl rfl (by omega) (by omega)) fun a7 f7 => ?_
  clear f6 a6
  refine L.val f7 wantedN rfl (by decide) (by first | exact E.load f7 Tryd.underlying9 rfl rfl ((Bg0).cl rfl) | exact E.load f7 Tryd.underlying9 rfl rfl (ss_cellI SL rfl hx)) fun a8 f8 => ?_
  clear f7 a7
  refine L.val f8 wantedN rfl (by decide) (E.assign f8 rfl) fun a9 f9 => ?_
  clear f8 a8
  refine wpList_nil (hK1 _ _ ?_)
  try clear hK1 K1
  have f10 := f9.sub (sub_cons (i := 2) rfl sub_nil)
  clear f9
  refine wp_ret ?_
  try simp only [Exit.inBlock, Exit.then]
  refine C.ret (P := Tryd.prog) (fn := Tryd.f10) f10 rfl rfl ?_
  exact ⟨HK, x, rfl, hxs⟩

set_option maxHeartbeats 1000000 in
theorem stopic_any (k : Int) (w : World) (h0 : 0 ≤ k) (h1 : k < 256) : Calls Tryd.prog 11 #[.int .u8 k] w (fun e w' => Kept [] w w' ∧ ∃ t, e = .returned (.string t) ∧ t.size ≤ 10) := by
  have HK : Kept [] w w := Kept.refl [] w
  refine C.enter Tryd.func11 rfl Tryd.ntmps11 rfl ?_
  intro a0 f0
  have f1 : Fr 8 a0 [(0, .int .u8 k)] := f0
  clear f0
  refine wp_seq_k fun K0 hK0 => ?_
  refine C.region ?_
  refine L.val f1 wantedN rfl (by decide) (E.assign f1 rfl) fun a2 f2 => ?_
  clear f1 a0
  refine wpList_nil (hK0 _ _ ?_)
  try clear hK0 K0
  have f3 := f2.sub (sub_cons (i := 0) rfl (sub_cons (i := 2) rfl sub_nil))
  clear f2
  refine wp_seq_k fun K1 hK1 => ?_
  obtain ⟨x, hx, hxs⟩ := p7_at k h0
  refine C.region ?_
  refine L.buildSlice f3 wantedN (by decide) (parts7 f3 rfl rfl rfl rfl rfl rfl rfl) Tryd.underlying26 wzi9_tn rfl rfl (wbs26_7_tn _ _ _ _ _ _ _) fun a4 w1 g0 N0 f4 => ?_
  have SL := ss_blk (l := p7) N0.blk
  have Bg0 := N0.blk
  have kg0 := N0.kept
  have log0 := N0.lo
  have ltg0 := Bg0.lt
  have szw1 := kg0.size
  have frg0 : w.heap.size ≤ g0 := Nat.le_trans HK.size log0
  replace HK := HK.trans kg0 (by simp)
  clear N0 kg0
  clear f3 a2
  refine L.val f4 wantedN rfl (by decide) (E.move f4 rfl) fun a5 f5 => ?_
  clear f4 a4
  refine L.val f5 wantedN rfl (by decide) (E.rem f5 rfl rfl (by omega) (Int.tmod_eq_emod_of_nonneg (by omega))) fun a6 f6 => ?_
  clear f5 a5
  refine L.val f6 wantedN rfl (by decide) (E.indexA f6 (by first | rfl | assumption) Tryd.underlying26 wsz9_tn rfl rfl (by omega) (by omega)) fun a7 f7 => ?_
  clear f6 a6
  refine L.val f7 wantedN rfl (by decide) (by first | exact E.load f7 Tryd.underlying9 rfl rfl ((Bg0).cl rfl) | exact E.load f7 Tryd.underlying9 rfl rfl (ss_cellI SL rfl hx)) fun a8 f8 => ?_
  clear f7 a7
  refine L.val f8 wantedN rfl (by decide) (E.assign f8 rfl) fun a9 f9 => ?_
  clear f8 a8
  refine wpList_nil (hK1 _ _ ?_)
  try clear hK1 K1
  have f10 := f9.sub (sub_cons (i := 2) rfl sub_nil)
  clear f9
  refine wp_ret ?_
  try simp only [Exit.inBlock, Exit.then]
  refine C.ret (P := Tryd.prog) (fn := Tryd.f11) f10 rfl rfl ?_
  exact ⟨HK, x, rfl, hxs⟩

set_option maxHeartbeats 1000000 in
theorem known_any (w : World) (G : Glob w) : Calls Tryd.prog 8 #[] w (fun e w' => Kept [] w w' ∧ e = .returned (.bool true)) := by
  have HK : Kept [] w w := Kept.refl [] w
  refine C.enter Tryd.func8 rfl Tryd.ntmps8 rfl ?_
  intro a0 f0
  have f1 : Fr 31 a0 [] := f0
  clear f0
  refine wp_seq_k fun K0 hK0 => ?_
  refine C.region ?_
  refine L.val f1 wantedN rfl (by decide) (E.assign f1 rfl) fun a2 f2 => ?_
  clear f1 a0
  refine wpList_nil (hK0 _ _ ?_)
  try clear hK0 K0
  have f3 := f2.sub (sub_cons (i := 0) rfl sub_nil)
  clear f2
  refine wp_seq_k fun K1 hK1 => ?_
  refine C.region ?_
  refine L.call f3 wantedN rfl (by decide) (run_call Tryd.call19 (args2 f3 rfl rfl)) (match_any ⟨#[43, 47, 98]⟩ ⟨#[97, 47, 98]⟩ w (G.kept HK) (by decide) (by decide)) ?_
  rintro e w1 ⟨kc1, rfl⟩
  refine ⟨_, rfl, fun a4 f4 => ?_⟩
  clear f3 a2
  have szw1 := kc1.size
  replace HK := HK.trans kc1 (by simp)
  clear kc1
  have f5 := f4.as (i := 1) (v' := .bool true) rfl (by kernel_rfl)
  clear f4
  refine L.val f5 wantedN rfl (by decide) (E.move f5 rfl) fun a6 f6 => ?_
  clear f5 a4
  refine L.call f6 (f6.yes rfl rfl) rfl (by decide) (run_call Tryd.call19 (args2 f6 rfl rfl)) (match_any ⟨#[97, 47, 35]⟩ ⟨#[97]⟩ w1 (G.kept HK) (by decide) (by decide)) ?_
  rintro e w2 ⟨kc2, rfl⟩
  refine ⟨_, rfl, fun a7 f7 => ?_⟩
  clear f6 a6
  have szw2 := kc2.size
  replace HK := HK.trans kc2 (by simp)
  clear kc2
  have f8 := f7.as (i := 3) (v' := .bool true) rfl (by kernel_rfl)
  clear f7
  refine L.val f8 wantedN rfl (by decide) (E.pickT f8 rfl rfl) fun a9 f9 => ?_
  clear f8 a7
  refine L.val f9 wantedN rfl (by decide) (E.move f9 rfl) fun a10 f10 => ?_
  clear f9 a9
  refine L.call f10 (f10.yes rfl rfl) rfl (by decide) (run_call Tryd.call19 (args2 f10 rfl rfl)) (match_any ⟨#[35]⟩ ⟨#[36, 115]⟩ w2 (G.kept HK) (by decide) (by decide)) ?_
  rintro e w3 ⟨kc3, rfl⟩
  refine ⟨_, rfl, fun a11 f11 => ?_⟩
  clear f10 a10
  have szw3 := kc3.size
  replace HK := HK.trans kc3 (by simp)
  clear kc3
  have f12 := f11.as (i := 6) (v' := .bool false) rfl (by kernel_rfl)
  clear f11
  refine L.val f12 (f12.yes rfl rfl) rfl (by decide) (E.not f12 rfl) fun a13 f13 => ?_
  clear f12 a11
  refine L.val f13 wantedN rfl (by decide) (E.pickT f13 rfl rfl) fun a14 f14 => ?_
  clear f13 a13
  refine L.val f14 wantedN rfl (by decide) (E.move f14 rfl) fun a15 f15 => ?_
  clear f14 a14
  refine L.call f15 (f15.yes rfl rfl) rfl (by decide) (run_call Tryd.call14 (args1 f15 rfl)) (filter_any ⟨#[97, 47, 43, 47, 35]⟩ w3 (G.kept HK) (by decide)) ?_
  rintro e w4 ⟨kc4, rfl⟩
  refine ⟨_, rfl, fun a16 f16 => ?_⟩
  clear f15 a15
  have szw4 := kc4.size
  replace HK := HK.trans kc4 (by simp)
  clear kc4
  have f17 := f16.as (i := 10) (v' := .bool true) rfl (by kernel_rfl)
  clear f16
  refine L.val f17 wantedN rfl (by decide) (E.pickT f17 rfl rfl) fun a18 f18 => ?_
  clear f17 a16
  refine L.val f18 wantedN rfl (by decide) (E.move f18 rfl) fun a19 f19 => ?_
  clear f18 a18
  refine L.call f19 (f19.yes rfl rfl) rfl (by decide) (run_call Tryd.call14 (args1 f19 rfl)) (filter_any ⟨#[97, 35]⟩ w4 (G.kept HK) (by decide)) ?_
  rintro e w5 ⟨kc5, rfl⟩
  refine ⟨_, rfl, fun a20 f20 => ?_⟩
  clear f19 a19
  have szw5 := kc5.size
  replace HK := HK.trans kc5 (by simp)
  clear kc5
  have f21 := f20.as (i := 13) (v' := .bool false) rfl (by kernel_rfl)
  clear f20
  refine L.val f21 (f21.yes rfl rfl) rfl (by decide) (E.not f21 rfl) fun a22 f22 => ?_
  clear f21 a20
  refine L.val f22 wantedN rfl (by decide) (E.pickT f22 rfl rfl) fun a23 f23 => ?_
  clear f22 a22
  refine L.val f23 wantedN rfl (by decide) (E.move f23 rfl) fun a24 f24 => ?_
  clear f23 a23
  refine L.call f24 (f24.yes rfl rfl) rfl (by decide) (run_call Tryd.call12 (args1 f24 rfl)) (name_any ⟨#[195, 169]⟩ w5 (G.kept HK) (by decide)) ?_
  rintro e w6 ⟨kc6, rfl⟩
  refine ⟨_, rfl, fun a25 f25 => ?_⟩
  clear f24 a24
  have szw6 := kc6.size
  replace HK := HK.trans kc6 (by simp)
  clear kc6
  have f26 := f25.as (i := 17) (v' := .bool true) rfl (by kernel_rfl)
  clear f25
  refine L.val f26 wantedN rfl (by decide) (E.pickT f26 rfl rfl) fun a27 f27 => ?_
  clear f26 a25
  refine L.val f27 wantedN rfl (by decide) (E.move f27 rfl) fun a28 f28 => ?_
  clear f27 a27
  refine L.call f28 (f28.yes rfl rfl) rfl (by decide) (run_call Tryd.call12 (args1 f28 rfl)) (name_any ⟨#[43]⟩ w6 (G.kept HK) (by decide)) ?_
  rintro e w7 ⟨kc7, rfl⟩
  refine ⟨_, rfl, fun a29 f29 => ?_⟩
  clear f28 a28
  have szw7 := kc7.size
  replace HK := HK.trans kc7 (by simp)
  clear kc7
  have f30 := f29.as (i := 20) (v' := .bool false) rfl (by kernel_rfl)
  clear f29
  refine L.val f30 (f30.yes rfl rfl) rfl (by decide) (E.not f30 rfl) fun a31 f31 => ?_
  clear f30 a29
  refine L.val f31 wantedN rfl (by decide) (E.pickT f31 rfl rfl) fun a32 f32 => ?_
  clear f31 a31
  refine L.val f32 wantedN rfl (by decide) (E.move f32 rfl) fun a33 f33 => ?_
  clear f32 a32
  refine L.call f33 (f33.yes rfl rfl) rfl (by decide) (run_call Tryd.call17 (args1 f33 rfl)) (levels_any ⟨#[47]⟩ w7 (G.kept HK) (by decide)) ?_
  rintro e w8 ⟨kc8, A, c, rfl, q1, q2, q3, q4⟩
  refine ⟨_, rfl, fun a34 f34 => ?_⟩
  clear f33 a33
  have szw8 := kc8.size
  replace HK := HK.trans kc8 (by simp)
  clear kc8
  refine L.val f34 (f34.yes rfl rfl) rfl (by decide) (E.lenL f34 Tryd.underlying26 rfl) fun a35 f35 => ?_
  clear f34 a34
  refine L.val f35 (f35.yes rfl rfl) rfl (by decide) (E.eql f35 rfl rfl) fun a36 f36 => ?_
  clear f35 a35
  have f37 := f36.as (i := 26) (v' := .bool true) rfl (by kernel_rfl)
  clear f36
  refine L.val f37 wantedN rfl (by decide) (E.pickT f37 rfl rfl) fun a38 f38 => ?_
  clear f37 a36
  refine L.val f38 wantedN rfl (by decide) (E.move f38 rfl) fun a39 f39 => ?_
  clear f38 a38
  refine L.call f39 (f39.yes rfl rfl) rfl (by decide) (run_call Tryd.call21 (args2 f39 rfl rfl)) (within_any ⟨#[97, 47, 43]⟩ ⟨#[97, 47, 35]⟩ w8 (G.kept HK) (by decide) (by decide)) ?_
  rintro e w9 ⟨kc9, rfl⟩
  refine ⟨_, rfl, fun a40 f40 => ?_⟩
  clear f39 a39
  have szw9 := kc9.size
  replace HK := HK.trans kc9 (by simp)
  clear kc9
  have f41 := f40.as (i := 29) (v' := .bool true) rfl (by kernel_rfl)
  clear f40
  refine L.val f41 wantedN rfl (by decide) (E.pickT f41 rfl rfl) fun a42 f42 => ?_
  clear f41 a40
  refine L.val f42 wantedN rfl (by decide) (E.assign f42 rfl) fun a43 f43 => ?_
  clear f42 a42
  refine wpList_nil (hK1 _ _ ?_)
  try clear hK1 K1
  have f44 := f43.sub (sub_cons (i := 0) rfl sub_nil)
  clear f43
  refine wp_ret ?_
  try simp only [Exit.inBlock, Exit.then]
  refine C.ret (P := Tryd.prog) (fn := Tryd.f8) f44 rfl rfl ?_
  exact ⟨HK, rfl⟩

end Go.Proofs.YtpdacegpjofdeaaDoor
