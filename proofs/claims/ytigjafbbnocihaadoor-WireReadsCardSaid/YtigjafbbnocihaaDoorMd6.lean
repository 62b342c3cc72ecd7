/- Merged by program (shrink.py): contracts and plain laws that the claim's statement uses, part 6. -/
import Derived.Test.YtigjafbbnocihaaDoorMd5
set_option linter.all false

namespace Go.Proofs.YtigjafbbnocihaaDoor
open Go.RowKit Go.Hub Go.Lib Go.Vl
theorem wzib70_xg : (Tryd.prog.info? 70).map (fun i => (i.zero, i.size, i.bytes)) = some (some (.agg #[(.string ⟨#[]⟩), (.int .i64 0)]), 2, 24) := by kernel_rfl
theorem wzi70_xg : (Tryd.prog.info? 70).map (fun i => (i.zero, i.size)) = some (some (.agg #[(.string ⟨#[]⟩), (.int .i64 0)]), 2) := by kernel_rfl
theorem wbs25_1_xg (x0_0 x0_1 : Value) : Instr.fill (fun i => some (i * 2, 2)) ((Array.range (1 * 2)).map fun j => (Value.cells (.agg #[(.string ⟨#[]⟩), (.int .i64 0)]))[j % (Value.cells (.agg #[(.string ⟨#[]⟩), (.int .i64 0)])).size]!) [(0, .agg #[x0_0, x0_1])] = some #[x0_0, x0_1] := by kernel_rfl
theorem wbs25_2_xg (x0_0 x0_1 : Value) (x1_0 x1_1 : Value) : Instr.fill (fun i => some (i * 2, 2)) ((Array.range (2 * 2)).map fun j => (Value.cells (.agg #[(.string ⟨#[]⟩), (.int .i64 0)]))[j % (Value.cells (.agg #[(.string ⟨#[]⟩), (.int .i64 0)])).size]!) [(0, .agg #[x0_0, x0_1]), (1, .agg #[x1_0, x1_1])] = some #[x0_0, x0_1, x1_0, x1_1] := by kernel_rfl
theorem wsz3_xg : (Tryd.prog.info? 3).map (·.size) = some 1 := by kernel_rfl
theorem wsz4_xg : (Tryd.prog.info? 4).map (·.size) = some 1 := by kernel_rfl
theorem wsz25_xg : (Tryd.prog.info? 25).map (·.size) = some 1 := by kernel_rfl
theorem wsz28_xg : (Tryd.prog.info? 28).map (·.size) = some 24 := by kernel_rfl
theorem wsz70_xg : (Tryd.prog.info? 70).map (·.size) = some 2 := by kernel_rfl
theorem wbl28_0_xg (x0 : Int) : Tryd.prog.built 28 [(0, .int .i64 x0)] = some #[.int .i64 x0, (.bool false), (.bool false), (.int .i64 0), (.int .i64 0), (.string ⟨#[]⟩), (.slice none 0 0), (.int .i64 0), (.string ⟨#[]⟩), (.bool false), (.int .i64 0), (.bool false), (.string ⟨#[]⟩), (.slice none 0 0), (.int .i64 0), (.bool false), (.bool false), (.bool false), (.string ⟨#[]⟩), (.slice none 0 0), (.bool false), (.int .i64 0), (.slice none 0 0), (.slice none 0 0)] := by kernel_rfl
theorem wbl28_0_4_xg (x0 : Int) (x1 : Int) : Tryd.prog.built 28 [(0, .int .i64 x0), (4, .int .i64 x1)] = some #[.int .i64 x0, (.bool false), (.bool false), (.int .i64 0), .int .i64 x1, (.string ⟨#[]⟩), (.slice none 0 0), (.int .i64 0), (.string ⟨#[]⟩), (.bool false), (.int .i64 0), (.bool false), (.string ⟨#[]⟩), (.slice none 0 0), (.int .i64 0), (.bool false), (.bool false), (.bool false), (.string ⟨#[]⟩), (.slice none 0 0), (.bool false), (.int .i64 0), (.slice none 0 0), (.slice none 0 0)] := by kernel_rfl
theorem wbl28_0_4_19_xg (x0 : Int) (x1 : Int) (x2 : Option Addr) (y2 z2 : Nat) : Tryd.prog.built 28 [(0, .int .i64 x0), (4, .int .i64 x1), (19, .slice x2 y2 z2)] = some #[.int .i64 x0, (.bool false), (.bool false), (.int .i64 0), .int .i64 x1, (.string ⟨#[]⟩), (.slice none 0 0), (.int .i64 0), (.string ⟨#[]⟩), (.bool false), (.int .i64 0), (.bool false), (.string ⟨#[]⟩), (.slice none 0 0), (.int .i64 0), (.bool false), (.bool false), (.bool false), (.string ⟨#[]⟩), (.slice none 0 0), (.bool false), (.int .i64 0), .slice x2 y2 z2, (.slice none 0 0)] := by kernel_rfl
theorem wbl28_0_5_6_3_2_xg (x0 : Int) (x1 : ByteArray) (x2 : Option Addr) (y2 z2 : Nat) (x3 : Int) (x4 : Bool) : Tryd.prog.built 28 [(0, .int .i64 x0), (5, .string x1), (6, .slice x2 y2 z2), (3, .int .i64 x3), (2, .bool x4)] = some #[.int .i64 x0, (.bool false), .bool x4, .int .i64 x3, (.int .i64 0), .string x1, .slice x2 y2 z2, (.int .i64 0), (.string ⟨#[]⟩), (.bool false), (.int .i64 0), (.bool false), (.string ⟨#[]⟩), (.slice none 0 0), (.int .i64 0), (.bool false), (.bool false), (.bool false), (.string ⟨#[]⟩), (.slice none 0 0), (.bool false), (.int .i64 0), (.slice none 0 0), (.slice none 0 0)] := by kernel_rfl
theorem wbl70_0_xg (x0 : ByteArray) : Tryd.prog.built 70 [(0, .string x0)] = some #[.string x0, (.int .i64 0)] := by kernel_rfl
theorem wbl70_0_1_xg (x0 : ByteArray) (x1 : Int) : Tryd.prog.built 70 [(0, .string x0), (1, .int .i64 x1)] = some #[.string x0, .int .i64 x1] := by kernel_rfl
def seatPub (a b c : Int) (x : List UInt8) : Pk := if 0 < b % 3 then { kind := 3, topic := topicS a, pay := x, qos := b % 3, retain := decide (c % 2 = 0), id := c % 5 + 1, dup := decide (c % 7 = 0) } else { kind := 3, topic := topicS a, pay := x, qos := b % 3, retain := decide (c % 2 = 0) }
def sub2 (c : Int) (l : List (ByteArray × Int)) : List (ByteArray × Int) := if c % 3 = 0 then l ++ [(filterS c, c % 2)] else l
def sub3 (c : Int) (l : List (ByteArray × Int)) : List (ByteArray × Int) := if c % 11 = 0 then l ++ [(⟨#[97, 35]⟩, 1)] else l
def unsL (a c : Int) : List (ByteArray × Int) := if c % 2 = 0 then [(filterS a, 0)] else [(filterS a, 0), (filterS c, 0)]
def seatP (k a b c : Int) (x : List UInt8) : Pk :=
  if k % 15 ≤ 3 then seatPub a b c x
  else if k % 15 ≤ 6 then { kind := 8, id := b % 7 + 1, subs := sub3 c (sub2 c [(filterS a, b % 3)]) }
  else if k % 15 = 7 then { kind := 10, id := b % 7 + 1, subs := unsL a c }
  else if k % 15 = 8 then { kind := 4, id := b % 7 + 1 }
  else if k % 15 = 9 then { kind := 5, id := b % 7 + 1 }
  else if k % 15 = 10 then { kind := 7, id := b % 7 + 1 }
  else if k % 15 = 11 then { kind := 6, id := c % 5 + 1 }
  else if k % 15 = 12 then { kind := 12 }
  else if k % 15 = 13 then seatCon a b c x
  else { kind := 14 }
section
variable {k a b c : Int} {x : List UInt8}
theorem seat_pub (h : k % 15 ≤ 3) : seatP k a b c x = if 0 < b % 3 then { kind := 3, topic := topicS a, pay := x, qos := b % 3, retain := decide (c % 2 = 0), id := c % 5 + 1, dup := decide (c % 7 = 0) } else { kind := 3, topic := topicS a, pay := x, qos := b % 3, retain := decide (c % 2 = 0) } := by unfold seatP; rw [if_pos h]; rfl
theorem seat_sub (h : 4 ≤ k % 15 ∧ k % 15 ≤ 6) : seatP k a b c x = { kind := 8, id := b % 7 + 1, subs := sub3 c (sub2 c [(filterS a, b % 3)]) } := by unfold seatP; rw [if_neg (by omega), if_pos h.2]
theorem seat_uns (h : k % 15 = 7) : seatP k a b c x = { kind := 10, id := b % 7 + 1, subs := unsL a c } := by unfold seatP; rw [if_neg (by omega), if_neg (by omega), if_pos h]
theorem seat_a (h : k % 15 = 8) : seatP k a b c x = { kind := 4, id := b % 7 + 1 } := by unfold seatP; rw [if_neg (by omega), if_neg (by omega), if_neg (by omega), if_pos h]
theorem seat_r (h : k % 15 = 9) : seatP k a b c x = { kind := 5, id := b % 7 + 1 } := by unfold seatP; rw [if_neg (by omega), if_neg (by omega), if_neg (by omega), if_neg (by omega), if_pos h]
theorem seat_p (h : k % 15 = 10) : seatP k a b c x = { kind := 7, id := b % 7 + 1 } := by unfold seatP; rw [if_neg (by omega), if_neg (by omega), if_neg (by omega), if_neg (by omega), if_neg (by omega), if_pos h]
theorem seat_l (h : k % 15 = 11) : seatP k a b c x = { kind := 6, id := c % 5 + 1 } := by unfold seatP; rw [if_neg (by omega), if_neg (by omega), if_neg (by omega), if_neg (by omega), if_neg (by omega), if_neg (by omega), if_pos h]
theorem seat_q (h : k % 15 = 12) : seatP k a b c x = { kind := 12 } := by unfold seatP; rw [if_neg (by omega), if_neg (by omega), if_neg (by omega), if_neg (by omega), if_neg (by omega), if_neg (by omega), if_neg (by omega), if_pos h]
theorem seat_con (h : k % 15 = 13) : seatP k a b c x = seatCon a b c x := by unfold seatP; rw [if_neg (by omega), if_neg (by omega), if_neg (by omega), if_neg (by omega), if_neg (by omega), if_neg (by omega), if_neg (by omega), if_neg (by omega), if_pos h]
theorem seat_d (h : 14 ≤ k % 15) : seatP k a b c x = { kind := 14 } := by unfold seatP; rw [if_neg (by omega), if_neg (by omega), if_neg (by omega), if_neg (by omega), if_neg (by omega), if_neg (by omega), if_neg (by omega), if_neg (by omega), if_neg (by omega)]
end
theorem uns_len (a c : Int) : (unsL a c).length = (1 + c % 2).toNat := by
  unfold unsL
  rcases (by omega : c % 2 = 0 ∨ c % 2 = 1) with h | h
  · rw [if_pos h, h]; rfl
  rw [if_neg (by omega), h]; rfl
theorem uns_sl {w : World} {g : Nat} {a c : Int} (B : Blk w g 70 #[.string (filterS a), .int .i64 0, .string (filterS c), .int .i64 0]) : Sl w (some ⟨g, 0, none⟩) (unsL a c).length 2 (subCells (unsL a c)) := by
  unfold unsL
  split
  · exact ⟨rfl, fun _ => ⟨g, 0, rfl, B.lt, fun j u hu => by
      rw [Nat.zero_add]
      refine B.cl ?_
      match j, hu with
      | 0, hu => exact hu
      | 1, hu => exact hu
      | n + 2, hu => simp [subCells] at hu⟩⟩
  exact B.slN (n := 2) (size := 2) rfl
theorem sub_cells (l : List (ByteArray × Int)) (x : ByteArray × Int) : subCells (l ++ [x]) = subCells l ++ [.string x.1, .int .i64 x.2] := by simp [subCells]
theorem su_one {w w1 w2 : World} {g : Nat} {s : ByteArray} {i : Int} (hs : w.heap.size ≤ w1.heap.size) (N : Newb w1 w2 g 70 #[.string s, .int .i64 i]) : Fresh w w2 70 2 (some ⟨g, 0, none⟩) ([(s, i)] : List (ByteArray × Int)).length 1 (subCells [(s, i)]) :=
  ⟨N.own (k := 1) (size := 2) rfl (by decide), fun b hb => by
    simp at hb
    subst hb
    exact Nat.le_trans hs N.lo⟩
set_option maxRecDepth 100000 in
set_option maxHeartbeats 8000000 in
theorem seat_any (k a0_ b c : Int) (x : List UInt8) (A : Option Addr) (cx : Nat) (w : World) (SX : Sl w A x.length 1 (x.map u8)) (hk : 0 ≤ k ∧ k < 256) (ha0_ : 0 ≤ a0_ ∧ a0_ < 256) (hb : 0 ≤ b ∧ b < 256) (hc : 0 ≤ c ∧ c < 256) : Calls Tryd.prog 15 #[.int .u8 k, .int .u8 a0_, .int .u8 b, .int .u8 c, .slice A x.length cx] w (SeatPost (seatP k a0_ b c x) w) := by
 have HK : Kept [] w w := Kept.refl [] w
 refine C.enter Tryd.func15 rfl Tryd.ntmps15 rfl ?_
 intro a0 f0
 have f1 : Fr 130 a0 [(0, .int .u8 k), (1, .int .u8 a0_), (2, .int .u8 b), (3, .int .u8 c), (4, .slice A x.length cx)] := f0
 refine wp_seq_k fun K0 hK0 => C.region ?_
 refine L.alloc f1 wantedN (by decide) (z := (.agg #[(.int .i64 0), (.bool false), (.bool false), (.int .i64 0), (.int .i64 0), (.string ⟨#[]⟩), (.slice none 0 0), (.int .i64 0), (.string ⟨#[]⟩), (.bool false), (.int .i64 0), (.bool false), (.string ⟨#[]⟩), (.slice none 0 0), (.int .i64 0), (.bool false), (.bool false), (.bool false), (.string ⟨#[]⟩), (.slice none 0 0), (.bool false), (.int .i64 0), (.slice none 0 0), (.slice none 0 0)])) (fun _ => by kernel_rfl) rfl fun a2 w1 g0 N0 f2 => ?_
 have Bg0 := N0.blk
 have kg0 := N0.kept
 have log0 := N0.lo
 have ltg0 := Bg0.lt
 have szw1 := kg0.size
 have frg0 : w.heap.size ≤ g0 := Nat.le_trans HK.size log0
 replace HK := HK.trans kg0 (by simp)
 clear f0 N0 kg0
 refine wpList_nil (hK0 _ _ ?_)
 have f3 := f2.sub (sc 0 (sc 1 (sc 2 (sc 3 (sc 4 (sc 10 sn))))))
 refine wp_seq_k fun K1 hK1 => C.region ?_
 refine L.mv f3 fun a4 f4 => ?_
 refine L.va f4 (E.rem f4 rfl rfl (by omega) (Int.tmod_eq_emod_of_nonneg (by omega))) fun a5 f5 => ?_
 refine L.va f5 (E.conv f5 U5 U3 rfl (IntWalk.i64_in _ (by omega))) fun a6 f6 => ?_
 refine L.va f6 (E.add f6 rfl rfl (IntWalk.i64_in _ (by omega))) fun a7 f7 => ?_
 refine L.ag f7 fun a8 f8 => ?_
 refine wpList_nil (hK1 _ _ ?_)
 have f9 := f8.sub (sc 0 (sc 1 (sc 2 (sc 3 (sc 4 (sc 10 (sc 11 sn)))))))
 clear f1 a0 f2 f3 a2 f4 a4 f5 a5 f6 a6 f7 a7 f8
 refine wp_seq_k fun K2 hK2 => ?_
 refine wp_seq_k fun K3 hK3 => C.region ?_
 refine L.mv f9 fun a10 f10 => ?_
 refine L.va f10 (E.rem f10 rfl rfl (by omega) (Int.tmod_eq_emod_of_nonneg (by omega))) fun a11 f11 => ?_
 refine wpList_nil (hK3 _ _ ?_)
 have f12 := f11.sub (sc 1 (sc 2 (sc 3 (sc 4 (sc 10 (sc 11 (sc 19 sn)))))))
 refine wp_block ?_
 obtain ⟨J7, hJ7⟩ : ∃ J : Act → World → Prop, J = fun a W => Kept [] w W ∧ Blk W g0 28 zeroPk ∧ Fr 130 a [(1, .int .u8 a0_), (2, .int .u8 b), (3, .int .u8 c), (4, .slice A x.length cx), (10, .pointer (some ⟨g0, 0, none⟩)), (11, .int .i64 (b % 7 + 1)), (19, .int .u8 (k % 15)), (20, .bool (decide (k % 15 ≤ 3)))] := ⟨_, rfl⟩
 clear f9 a8 f10 a10 f11
 refine C.cut J7 ?_ ?_
 ·skip
  refine wp_seq_k fun K4 hK4 => C.region ?_
  refine L.va f12 (E.eq f12) fun a13 f13 => ?_
  refine L.ag f13 fun a14 f14 => ?_
  refine wpList_nil (hK4 _ _ ?_)
  have f15 := f14.sub (sc 1 (sc 2 (sc 3 (sc 4 (sc 10 (sc 11 (sc 19 (sc 20 sn))))))))
  clear f12 a11 f13 a13 f14
  refine f15.splitD 20 rfl (fun h0 f16 => ?_) (fun h0 f16 => ?_)
  ·have hm := h0
   refine C.condT f16 rfl ?_
   exact wp_skip (then_of (J := J7) (Q := fun _ _ _ => True) (by rw [hJ7]; exact ⟨HK, Bg0, f16.sub (sub_cons rfl (sub_cons rfl (sub_cons rfl (sub_cons rfl (sub_cons rfl (sub_cons rfl (sub_cons rfl (sub_cons (by exact congrArg (fun t => some (Value.bool t)) (decide_eq_true (by omega : k % 15 ≤ 3)).symm) sn))))))))⟩))
  refine C.condF f16 rfl ?_
  refine wp_seq_k fun K5 hK5 => C.region ?_
  refine L.va f16 (E.eq f16) fun a17 f17 => ?_
  refine L.ag f17 fun a18 f18 => ?_
  refine wpList_nil (hK5 _ _ ?_)
  have f19 := f18.sub (sc 1 (sc 2 (sc 3 (sc 4 (sc 10 (sc 11 (sc 19 (sc 20 sn))))))))
  clear f15 f16 a14 f17 a17 f18
  refine f19.splitD 20 rfl (fun h1 f20 => ?_) (fun h1 f20 => ?_)
  ·have hm := h1
   refine C.condT f20 rfl ?_
   exact wp_skip (then_of (J := J7) (Q := fun _ _ _ => True) (by rw [hJ7]; exact ⟨HK, Bg0, f20.sub (sub_cons rfl (sub_cons rfl (sub_cons rfl (sub_cons rfl (sub_cons rfl (sub_cons rfl (sub_cons rfl (sub_cons (by exact congrArg (fun t => some (Value.bool t)) (decide_eq_true (by omega : k % 15 ≤ 3)).symm) sn))))))))⟩))
  refine C.condF f20 rfl ?_
  refine wp_seq_k fun K6 hK6 => C.region ?_
  refine L.va f20 (E.eq f20) fun a21 f21 => ?_
  refine L.ag f21 fun a22 f22 => ?_
  refine wpList_nil (hK6 _ _ ?_)
  have f23 := f22.sub (sc 1 (sc 2 (sc 3 (sc 4 (sc 10 (sc 11 (sc 19 (sc 20 sn))))))))
  clear f19 f20 a18 f21 a21 f22
  refine f23.splitD 20 rfl (fun h2 f24 => ?_) (fun h2 f24 => ?_)
  ·have hm := h2
   refine C.condT f24 rfl ?_
   exact wp_skip (then_of (J := J7) (Q := fun _ _ _ => True) (by rw [hJ7]; exact ⟨HK, Bg0, f24.sub (sub_cons rfl (sub_cons rfl (sub_cons rfl (sub_cons rfl (sub_cons rfl (sub_cons rfl (sub_cons rfl (sub_cons (by exact congrArg (fun t => some (Value.bool t)) (decide_eq_true (by omega : k % 15 ≤ 3)).symm) sn))))))))⟩))
  refine C.condF f24 rfl ?_
  refine C.region ?_
  refine L.va f24 (E.eq f24) fun a25 f25 => ?_
  refine L.ag f25 fun a26 f26 => ?_
  exact wpList_nil (then_of (J := J7) (Q := fun _ _ _ => True) (by rw [hJ7]; exact ⟨HK, Bg0, f26.sub (sub_cons rfl (sub_cons rfl (sub_cons rfl (sub_cons rfl (sub_cons rfl (sub_cons rfl (sub_cons rfl (sub_cons (by exact congrArg (fun t => some (Value.bool t)) (decide_eq_decide.2 (by omega))) sn))))))))⟩))
 intro a13 w2 hj
 rw [hJ7] at hj
 clear hJ7 J7
 obtain ⟨HK, Bg0, f13⟩ := hj
 try clear f12
 refine f13.splitD 20 rfl (fun h3 f14 => ?_) (fun h3 f14 => ?_)
 ·have hm := h3
  refine C.condT f14 rfl ?_
  refine wp_seq_k fun K7 hK7 => C.region ?_
  refine L.mv f14 fun a15 f15 => ?_
  refine L.cl f15 (run_call Tryd.call34 (args1 f15 rfl)) (topicS_any a0_ _ ha0_) ?_
  clear f13 f14 a13
  rintro e w3 ⟨kc3, rfl⟩
  refine ⟨_, rfl, fun a16 f16 => ?_⟩
  have szw3 := kc3.size
  replace HK := HK.trans kc3 (by simp)
  replace Bg0 := Bg0.kept kc3 (by simp)
  clear f15 a15 kc3
  refine L.mv f16 fun a17 f17 => ?_
  refine L.mv f17 fun a18 f18 => ?_
  refine L.va f18 (E.rem f18 rfl rfl (by omega) (Int.tmod_eq_emod_of_nonneg (by omega))) fun a19 f19 => ?_
  refine L.va f19 (E.conv f19 U5 U3 rfl (IntWalk.i64_in _ (by omega))) fun a20 f20 => ?_
  refine L.mv f20 fun a21 f21 => ?_
  refine L.va f21 (E.rem f21 rfl rfl (by omega) (Int.tmod_eq_emod_of_nonneg (by omega))) fun a22 f22 => ?_
  refine L.va f22 (E.eq f22) fun a23 f23 => ?_
  clear f16 a16 f17 a17 f18 a18 f19 a19 f20 a20 f21 a21 f22 a22
  refine L.va f23 (E.build f23 (parts5 f23 rfl rfl rfl rfl rfl) (wbl28_0_5_6_3_2_xg _ _ _ _ _ _ _)) fun a24 f24 => ?_
  refine L.alloc f24 wantedN (by decide) (z := (.agg #[(.int .i64 0), (.bool false), (.bool false), (.int .i64 0), (.int .i64 0), (.string ⟨#[]⟩), (.slice none 0 0), (.int .i64 0), (.string ⟨#[]⟩), (.bool false), (.int .i64 0), (.bool false), (.string ⟨#[]⟩), (.slice none 0 0), (.int .i64 0), (.bool false), (.bool false), (.bool false), (.string ⟨#[]⟩), (.slice none 0 0), (.bool false), (.int .i64 0), (.slice none 0 0), (.slice none 0 0)])) (fun _ => by kernel_rfl) rfl fun a25 w4 g3 N3 f25 => ?_
  have Bg3 := N3.blk
  have kg3 := N3.kept
  have log3 := N3.lo
  have ltg3 := Bg3.lt
  have szw4 := kg3.size
  have frg3 : w.heap.size ≤ g3 := Nat.le_trans HK.size log3
  have neg0_g3 : g0 ≠ g3 := by have := Bg0.lt; omega
  replace HK := HK.trans kg3 (by simp)
  replace Bg0 := Bg0.kept kg3 (by simp)
  clear f23 a23 N3 kg3
  refine L.storeR f25 wantedN wsz28_xg rfl rfl rfl Bg3 rfl rfl fun a26 w5 f26 NB5 ks5 => ?_
  have szw5 := ks5.size
  replace HK := HK.trans ks5 (ktr (by omega))
  replace Bg0 := Bg0.kept ks5 (by simp; omega)
  replace Bg3 := NB5
  clear f24 a24 ks5 f25 a25
  refine wpList_nil (hK7 _ _ ?_)
  have f27 := f26.sub (sc 3 (sc 10 (sc 12 sn)))
  refine wp_seq_k fun K8 hK8 => ?_
  refine wp_seq_k fun K9 hK9 => C.region ?_
  refine L.fa 3 f27 U28 rfl wsz3_xg fun a28 f28 => ?_
  refine L.ld f28 U3 Bg3 fun a29 f29 => ?_
  refine L.va f29 (E.gtr f29 rfl rfl) fun a30 f30 => ?_
  refine wpList_nil (hK9 _ _ ?_)
  have f31 := f30.sub (sc 3 (sc 10 (sc 12 (sc 37 sn))))
  clear f26 f27 a26 f28 a28 f29 a29 f30
  refine f31.splitD 37 rfl (fun h4 f32 => ?_) (fun h4 f32 => ?_)
  ·refine C.condT f32 rfl ?_
   refine C.region ?_
   refine L.mv f32 fun a33 f33 => ?_
   refine L.va f33 (E.rem f33 rfl rfl (by omega) (Int.tmod_eq_emod_of_nonneg (by omega))) fun a34 f34 => ?_
   refine L.va f34 (E.conv f34 U5 U3 rfl (IntWalk.i64_in _ (by omega))) fun a35 f35 => ?_
   refine L.va f35 (E.add f35 rfl rfl (IntWalk.i64_in _ (by omega))) fun a36 f36 => ?_
   refine L.mv f36 fun a37 f37 => ?_
   refine L.va f37 (E.rem f37 rfl rfl (by omega) (Int.tmod_eq_emod_of_nonneg (by omega))) fun a38 f38 => ?_
   refine L.va f38 (E.eq f38) fun a39 f39 => ?_
   clear f31 f32 a30 f33 a33 f34 a34 f35 a35 f36 a36 f37 a37 f38 a38
   refine L.fa 4 f39 U28 rfl wsz3_xg fun a40 f40 => ?_
   refine L.store f40 wantedN wsz3_xg rfl rfl rfl Bg3 (by (simp [Value.cells]; done)) fun a41 w6 f41 NB6 ks6 => ?_
   have szw6 := ks6.size
   replace HK := HK.trans ks6 (ktr (by omega))
   replace Bg0 := Bg0.kept ks6 (by simp; omega)
   replace Bg3 := NB6
   simp only [Value.cells, z1, z2, z3, Nat.reduceAdd, Nat.zero_add] at Bg3
   clear f39 a39 ks6 f40 a40
   refine L.fa 1 f41 U28 rfl wsz4_xg fun a42 f42 => ?_
   refine L.store f42 wantedN wsz4_xg rfl rfl rfl Bg3 (by (simp [Value.cells]; done)) fun a43 w7 f43 NB7 ks7 => ?_
   have szw7 := ks7.size
   replace HK := HK.trans ks7 (ktr (by omega))
   replace Bg0 := Bg0.kept ks7 (by simp; omega)
   replace Bg3 := NB7
   simp only [Value.cells, z1, z2, z3, Nat.reduceAdd, Nat.zero_add] at Bg3
   clear f41 a41 ks7 f42 a42
   refine wpList_nil (hK8 _ _ ?_)
   have f44 := f43.sub (sc 10 (sc 12 sn))
   refine wp_seq_k fun K10 hK10 => C.region ?_
   refine L.va f44 (by exact E.loadB f44 U28 rfl wsz28_xg rfl (Bg3) rfl) fun a45 f45 => ?_
   refine L.storeR f45 wantedN wsz28_xg rfl rfl rfl Bg0 rfl rfl fun a46 w8 f46 NB8 ks8 => ?_
   have szw8 := ks8.size
   replace HK := HK.trans ks8 (ktr (by omega))
   replace Bg3 := Bg3.kept ks8 (by simp; omega)
   replace Bg0 := NB8
   clear f43 f44 a43 ks8 f45 a45
   refine wpList_nil (hK10 _ _ ?_)
   have f47 := f46.sub (sc 10 sn)
   refine wp_ret ?_
   try simp only [Exit.inBlock, Exit.then]
   refine C.retC (P := Tryd.prog) (fn := Tryd.f15) f47 rfl rfl Bg0 U28 rfl wsz28_xg ?_
   exact ⟨{ s0 with pa := A, pc := cx }, by rw [seat_pub hm, if_pos (by assumption)]; rfl, HK, by rw [seat_pub hm, if_pos (by assumption)]; exact ⟨SX.kept HK, Sl.nil _ _ _, Sl.nil _ _ _, Sl.nil _ _ _, Sl.nil _ _ _⟩⟩
  refine C.condF f32 rfl ?_
  refine wp_skip (hK8 _ _ ?_)
  have f33 := f32.sub (sc 10 (sc 12 sn))
  refine wp_seq_k fun K11 hK11 => C.region ?_
  refine L.va f33 (by exact E.loadB f33 U28 rfl wsz28_xg rfl (Bg3) rfl) fun a34 f34 => ?_
  refine L.storeR f34 wantedN wsz28_xg rfl rfl rfl Bg0 rfl rfl fun a35 w6 f35 NB6 ks6 => ?_
  have szw6 := ks6.size
  replace HK := HK.trans ks6 (ktr (by omega))
  replace Bg3 := Bg3.kept ks6 (by simp; omega)
  replace Bg0 := NB6
  clear f31 f32 f33 a30 ks6 f34 a34
  refine wpList_nil (hK11 _ _ ?_)
  have f36 := f35.sub (sc 10 sn)
  refine wp_ret ?_
  try simp only [Exit.inBlock, Exit.then]
  refine C.retC (P := Tryd.prog) (fn := Tryd.f15) f36 rfl rfl Bg0 U28 rfl wsz28_xg ?_
  exact ⟨{ s0 with pa := A, pc := cx }, by rw [seat_pub hm, if_neg (by assumption)]; rfl, HK, by rw [seat_pub hm, if_neg (by assumption)]; exact ⟨SX.kept HK, Sl.nil _ _ _, Sl.nil _ _ _, Sl.nil _ _ _, Sl.nil _ _ _⟩⟩
 refine C.condF f14 rfl ?_
 obtain ⟨J14, hJ14⟩ : ∃ J : Act → World → Prop, J = fun a W => Kept [] w W ∧ Blk W g0 28 zeroPk ∧ Fr 130 a [(1, .int .u8 a0_), (2, .int .u8 b), (3, .int .u8 c), (4, .slice A x.length cx), (10, .pointer (some ⟨g0, 0, none⟩)), (11, .int .i64 (b % 7 + 1)), (19, .int .u8 (k % 15)), (48, .bool (decide (k % 15 ≤ 6)))] := ⟨_, rfl⟩
 clear f13
 refine C.cut J14 ?_ ?_
 ·skip
  refine wp_seq_k fun K12 hK12 => C.region ?_
  refine L.va f14 (E.eq f14) fun a15 f15 => ?_
  refine L.ag f15 fun a16 f16 => ?_
  refine wpList_nil (hK12 _ _ ?_)
  have f17 := f16.sub (sc 1 (sc 2 (sc 3 (sc 4 (sc 10 (sc 11 (sc 19 (sc 48 sn))))))))
  clear f14 a13 f15 a15 f16
  refine f17.splitD 48 rfl (fun h5 f18 => ?_) (fun h5 f18 => ?_)
  ·have hm : 4 ≤ k % 15 ∧ k % 15 ≤ 6 := by omega
   refine C.condT f18 rfl ?_
   exact wp_skip (then_of (J := J14) (Q := fun _ _ _ => True) (by rw [hJ14]; exact ⟨HK, Bg0, f18.sub (sub_cons rfl (sub_cons rfl (sub_cons rfl (sub_cons rfl (sub_cons rfl (sub_cons rfl (sub_cons rfl (sub_cons (by exact congrArg (fun t => some (Value.bool t)) (decide_eq_true (by omega : k % 15 ≤ 6)).symm) sn))))))))⟩))
  refine C.condF f18 rfl ?_
  refine wp_seq_k fun K13 hK13 => C.region ?_
  refine L.va f18 (E.eq f18) fun a19 f19 => ?_
  refine L.ag f19 fun a20 f20 => ?_
  refine wpList_nil (hK13 _ _ ?_)
  have f21 := f20.sub (sc 1 (sc 2 (sc 3 (sc 4 (sc 10 (sc 11 (sc 19 (sc 48 sn))))))))
  clear f17 f18 a16 f19 a19 f20
  refine f21.splitD 48 rfl (fun h6 f22 => ?_) (fun h6 f22 => ?_)
  ·have hm : 4 ≤ k % 15 ∧ k % 15 ≤ 6 := by omega
   refine C.condT f22 rfl ?_
   exact wp_skip (then_of (J := J14) (Q := fun _ _ _ => True) (by rw [hJ14]; exact ⟨HK, Bg0, f22.sub (sub_cons rfl (sub_cons rfl (sub_cons rfl (sub_cons rfl (sub_cons rfl (sub_cons rfl (sub_cons rfl (sub_cons (by exact congrArg (fun t => some (Value.bool t)) (decide_eq_true (by omega : k % 15 ≤ 6)).symm) sn))))))))⟩))
  refine C.condF f22 rfl ?_
  refine C.region ?_
  refine L.va f22 (E.eq f22) fun a23 f23 => ?_
  refine L.ag f23 fun a24 f24 => ?_
  exact wpList_nil (then_of (J := J14) (Q := fun _ _ _ => True) (by rw [hJ14]; exact ⟨HK, Bg0, f24.sub (sub_cons rfl (sub_cons rfl (sub_cons rfl (sub_cons rfl (sub_cons rfl (sub_cons rfl (sub_cons rfl (sub_cons (by exact congrArg (fun t => some (Value.bool t)) (decide_eq_decide.2 (by omega))) sn))))))))⟩))
 intro a15 w3 hj
 rw [hJ14] at hj
 clear hJ14 J14
 obtain ⟨HK, Bg0, f15⟩ := hj
 try clear f14
 refine f15.splitD 48 rfl (fun h7 f16 => ?_) (fun h7 f16 => ?_)
 ·have hm : 4 ≤ k % 15 ∧ k % 15 ≤ 6 := by omega
  refine C.condT f16 rfl ?_
  obtain ⟨J15, hJ15⟩ : ∃ J : Act → World → Prop, J = fun a W => ∃ (gq : Nat) (l : List (ByteArray × Int)) (Aq : Option Addr) (cq : Nat), l = [(filterS a0_, b % 3)] ∧ gq ≠ g0 ∧ w.heap.size ≤ gq ∧ Kept [] w W ∧ Blk W g0 28 zeroPk ∧ Blk W gq 28 (({ kind := 8, id := b % 7 + 1, subs := l } : Pk).cells { s0 with ua := Aq, uc := cq }) ∧ Fresh w W 70 2 Aq l.length cq (subCells l) ∧ Fr 130 a [(3, .int .u8 c), (10, .pointer (some ⟨g0, 0, none⟩)), (13, .pointer (some ⟨gq, 0, none⟩))] := ⟨_, rfl⟩
  clear f15
  refine C.cut J15 ?_ ?_
  ·skip
   refine C.region ?_
   refine L.mv f16 fun a17 f17 => ?_
   refine L.mv f17 fun a18 f18 => ?_
   refine L.cl f18 (run_call Tryd.call35 (args1 f18 rfl)) (filterS_any a0_ _ ha0_) ?_
   clear f16 a15 f17 a17
   rintro e w4 ⟨kc4, rfl⟩
   refine ⟨_, rfl, fun a19 f19 => ?_⟩
   have szw4 := kc4.size
   replace HK := HK.trans kc4 (by simp)
   replace Bg0 := Bg0.kept kc4 (by simp)
   clear f18 a18 kc4
   refine L.mv f19 fun a20 f20 => ?_
   refine L.va f20 (E.rem f20 rfl rfl (by omega) (Int.tmod_eq_emod_of_nonneg (by omega))) fun a21 f21 => ?_
   refine L.va f21 (E.conv f21 U5 U3 rfl (IntWalk.i64_in _ (by omega))) fun a22 f22 => ?_
   refine L.va f22 (E.build f22 (parts2 f22 rfl rfl) (wbl70_0_1_xg _ _)) fun a23 f23 => ?_
   refine L.buildSlice f23 wantedN (by decide) (parts1 f23 rfl) U25 wzi70_xg rfl rfl (wbs25_1_xg _ _) fun a24 w5 g4 N4 f24 => ?_
   have SU := su_one HK.size N4
   have Bg4 := N4.blk
   have kg4 := N4.kept
   have log4 := N4.lo
   have ltg4 := Bg4.lt
   have szw5 := kg4.size
   have frg4 : w.heap.size ≤ g4 := Nat.le_trans HK.size log4
   have neg0_g4 : g0 ≠ g4 := by have := Bg0.lt; omega
   replace HK := HK.trans kg4 (by simp)
   replace Bg0 := Bg0.kept kg4 (by simp)
   clear f19 a19 f20 a20 f21 a21 f22 a22 N4 kg4
   refine L.va f24 (E.build f24 (parts3 f24 rfl rfl rfl) (wbl28_0_4_19_xg _ _ _ _ _)) fun a25 f25 => ?_
   refine L.alloc f25 wantedN (by decide) (z := (.agg #[(.int .i64 0), (.bool false), (.bool false), (.int .i64 0), (.int .i64 0), (.string ⟨#[]⟩), (.slice none 0 0), (.int .i64 0), (.string ⟨#[]⟩), (.bool false), (.int .i64 0), (.bool false), (.string ⟨#[]⟩), (.slice none 0 0), (.int .i64 0), (.bool false), (.bool false), (.bool false), (.string ⟨#[]⟩), (.slice none 0 0), (.bool false), (.int .i64 0), (.slice none 0 0), (.slice none 0 0)])) (fun _ => by kernel_rfl) rfl fun a26 w6 g5 N5 f26 => ?_
   have Bg5 := N5.blk
   have kg5 := N5.kept
   have log5 := N5.lo
   have ltg5 := Bg5.lt
   have szw6 := kg5.size
   have frg5 : w.heap.size ≤ g5 := Nat.le_trans HK.size log5
   have neg0_g5 : g0 ≠ g5 := by have := Bg0.lt; omega
   have neg4_g5 : g4 ≠ g5 := by have := Bg4.lt; omega
   replace HK := HK.trans kg5 (by simp)
   replace Bg0 := Bg0.kept kg5 (by simp)
   replace Bg4 := Bg4.kept kg5 (by simp)
   replace SU := SU.kept0 kg5
   clear f23 a23 f24 a24 N5 kg5
   refine L.storeR f26 wantedN wsz28_xg rfl rfl rfl Bg5 rfl rfl fun a27 w7 f27 NB7 ks7 => ?_
   have szw7 := ks7.size
   replace HK := HK.trans ks7 (ktr (by omega))
   replace Bg0 := Bg0.kept ks7 (by simp; omega)
   replace Bg4 := Bg4.kept ks7 (by simp; omega)
   replace SU := fresh_blk SU ks7 Bg5 (by decide)
   replace Bg5 := NB7
   clear f25 a25 ks7 f26 a26
   exact wpList_nil (then_of (J := J15) (Q := fun _ _ _ => True) (by rw [hJ15]; exact ⟨g5, [(filterS a0_, b % 3)], some ⟨g4, 0, none⟩, 1, rfl, by omega, by omega, HK, Bg0, Bg5, SU, f27.sub (sub_cons rfl (sub_cons rfl (sub_cons rfl sn)))⟩))
  intro a17 w4 hj
  rw [hJ15] at hj
  clear hJ15 J15
  obtain ⟨gq, l, Aq, cq, hl, hne, hgq, HK, Bg0, BQ, SU, f17⟩ := hj
  try clear f16
  replace BQ : Blk w4 gq 28 #[.int .i64 8, .bool false, .bool false, .int .i64 0, .int .i64 (b % 7 + 1), .string em, .slice none 0 0, .int .i64 0, .string em, .bool false, .int .i64 0, .bool false, .string em, .slice none 0 0, .int .i64 0, .bool false, .bool false, .bool false, .string em, .slice none 0 0, .bool false, .int .i64 0, .slice Aq l.length cq, .slice none 0 0] := BQ
  have hne2 : g0 ≠ gq := fun e => hne e.symm
  have hll : l.length = 1 := by rw [hl]; rfl
  obtain ⟨J17, hJ17⟩ : ∃ J : Act → World → Prop, J = fun a W => ∃ (l2 : List (ByteArray × Int)) (A2 : Option Addr) (c2 : Nat), l2 = sub2 c l ∧ Kept [] w W ∧ Blk W g0 28 zeroPk ∧ Blk W gq 28 (({ kind := 8, id := b % 7 + 1, subs := l2 } : Pk).cells { s0 with ua := A2, uc := c2 }) ∧ Fresh w W 70 2 A2 l2.length c2 (subCells l2) ∧ Fr 130 a [(3, .int .u8 c), (10, .pointer (some ⟨g0, 0, none⟩)), (13, .pointer (some ⟨gq, 0, none⟩))] := ⟨_, rfl⟩
  refine C.cut J17 ?_ ?_
  ·skip
   refine wp_seq_k fun K14 hK14 => C.region ?_
   refine L.mv f17 fun a18 f18 => ?_
   refine L.va f18 (E.rem f18 rfl rfl (by omega) (Int.tmod_eq_emod_of_nonneg (by omega))) fun a19 f19 => ?_
   refine L.va f19 (E.eq f19) fun a20 f20 => ?_
   refine wpList_nil (hK14 _ _ ?_)
   have f21 := f20.sub (sc 3 (sc 10 (sc 13 (sc 63 sn))))
   clear f17 a17 f18 a18 f19 a19 f20
   refine f21.splitD 63 rfl (fun h8 f22 => ?_) (fun h8 f22 => ?_)
   ·refine C.condT f22 rfl ?_
    have hd16 : Kept [] w4 (w4.drewN 1) := (Kept.refl _ _).drewN 1
    refine R.beginT (S := fun _ => True) (by kernel_rfl) (by kernel_rfl) trivial fun ht => ?_
    obtain ⟨w5, hww5⟩ : ∃ W, W = w4.drewN 1 := ⟨_, rfl⟩
    rw [← hww5] at hd16 ⊢
    clear f21 hww5
    have szw5 := hd16.size
    replace HK := HK.trans hd16 (by simp)
    replace Bg0 := Bg0.kept hd16 (by simp)
    replace BQ := BQ.kept hd16 (by simp)
    replace SU := SU.kept0 hd16
    clear hd16
    refine R.u 0 f22 rfl ht trivial (fun W hW => (E.fa 22 f22 U28 rfl wsz25_xg)) fun a23 f23 => ?_
    refine R.u 2 f23 rfl ht trivial (fun W hW => (E.move f23 rfl)) fun a24 f24 => ?_
    refine R.u 4 f24 rfl ht trivial (fun W hW => (E.move f24 rfl)) fun a25 f25 => ?_
    refine R.u 5 f25 rfl ht trivial (fun W hW => (E.rem f25 rfl rfl (by omega) (Int.tmod_eq_emod_of_nonneg (by omega)))) fun a26 f26 => ?_
    refine R.u 6 f26 rfl ht trivial (fun W hW => (E.conv f26 U5 U3 rfl (IntWalk.i64_in _ (by omega)))) fun a27 f27 => ?_
    clear f22 a20 f23 a23 f24 a24 f25 a25 f26 a26
    refine R.two 1 3 (by kernel_rfl) ?_ ?_
    ·skip
     refine O.val f27 rfl rfl (by decide) wantedN (by exact E.ld f27 U25 (BQ)) trivial fun a28 f28 => ?_
     refine R.one 3 (by kernel_rfl) ?_
     refine O.call f28 rfl rfl (by decide) wantedN (run_call Tryd.call35 (args1 f28 rfl)) (filterS_any c _ hc) ?_
     clear f27 a27
     rintro e w6 ⟨kc6, rfl⟩
     refine ⟨_, rfl, trivial, fun a29 f29 => ?_⟩
     have szw6 := kc6.size
     replace HK := HK.trans kc6 (by simp)
     replace Bg0 := Bg0.kept kc6 (by simp)
     replace BQ := BQ.kept kc6 (by simp)
     replace SU := SU.kept0 kc6
     clear f28 a28 kc6
     refine R.u 7 f29 rfl ht trivial (fun W hW => (E.build f29 (parts2 f29 rfl rfl) (wbl70_0_1_xg _ _))) fun a30 f30 => ?_
     refine R.one 8 (by kernel_rfl) ?_
     refine O.buildSlice f30 rfl wantedN (by decide) (parts1 f30 rfl) U25 wzi70_xg rfl rfl (wbs25_1_xg _ _) (fun _ _ => trivial) fun a31 w7 g6 N6 hSn f31 => ?_
     clear f29 a29 hSn
     have Bg6 := N6.blk
     have kg6 := N6.kept
     have log6 := N6.lo
     have ltg6 := Bg6.lt
     have szw7 := kg6.size
     have frg6 : w.heap.size ≤ g6 := Nat.le_trans HK.size log6
     have neg0_g6 : g0 ≠ g6 := by have := Bg0.lt; omega
     have negq_g6 : gq ≠ g6 := by have := BQ.lt; omega
     replace HK := HK.trans kg6 (by simp)
     replace Bg0 := Bg0.kept kg6 (by simp)
     replace BQ := BQ.kept kg6 (by simp)
     replace SU := SU.kept0 kg6
     clear N6 kg6
     refine R.one 9 (by kernel_rfl) ?_
     refine O.append f31 rfl wantedN (by decide) U25 wzib70_xg rfl rfl rfl rfl SU.own (Bg6.slN (size := 2) rfl) (by intro u hu; simp at hu; rcases hu with rfl | rfl <;> rfl) (by unfold maxLen; omega) (by omega) fun a32 w8 A8 c8 AP => ?_
     have szw8 := AP.kept.size
     have HKn := AP.grow SU HK
     have BQn := BQ.kept AP.kept (own_ne SU.own BQ (by decide))
     have Bg0n := Bg0.kept AP.kept (own_ne SU.own Bg0 (by decide))
     have SUn := AP.next SU HK.size
     refine ⟨trivial, fun f32 => ?_⟩
     clear f30 a30 f31 Bg6 HK SU BQ Bg0
     have HK := HKn
     have SU := SUn
     have BQ := BQn
     have Bg0 := Bg0n
     clear HKn SUn BQn Bg0n AP
     refine R.u 10 f32 rfl ht trivial (fun W hW => (E.fa 22 f32 U28 rfl wsz25_xg)) fun a33 f33 => ?_
     refine R.one 11 (by kernel_rfl) ?_
     refine OT.store f33 rfl wantedN wsz25_xg rfl rfl rfl BQ (by (simp [Value.cells]; done)) fun a34 w9 f34 NB9 ks9 => ?_
     have szw9 := ks9.size
     replace HK := HK.trans ks9 (ktr (by omega))
     replace Bg0 := Bg0.kept ks9 (by simp; omega)
     replace SU := fresh_blk SU ks9 BQ (by decide)
     replace BQ := NB9
     simp only [Value.cells, z1, z2, z3, Nat.reduceAdd, Nat.zero_add] at BQ
     clear f32 a32 ks9 f33 a33
     exact R.done (by kernel_rfl) (then_of (J := J17) (Q := fun _ _ _ => True) (by rw [hJ17]; exact ⟨l ++ [(filterS c, c % 2)], A8, c8, by unfold sub2; rw [if_pos (by assumption)], HK, Bg0, by rw [Pk.cells, List.length_append]; exact BQ, by rw [sub_cells, List.length_append]; exact SU, f34.sub (sub_cons rfl (sub_cons rfl (sub_cons rfl sn)))⟩))
    skip
    refine O.call f27 rfl rfl (by decide) wantedN (run_call Tryd.call35 (args1 f27 rfl)) (filterS_any c _ hc) ?_
    rintro e w6 ⟨kc6, rfl⟩
    refine ⟨_, rfl, trivial, fun a28 f28 => ?_⟩
    have szw6 := kc6.size
    replace HK := HK.trans kc6 (by simp)
    replace Bg0 := Bg0.kept kc6 (by simp)
    replace BQ := BQ.kept kc6 (by simp)
    replace SU := SU.kept0 kc6
    clear f27 a27 kc6
    refine R.u 7 f28 rfl ht trivial (fun W hW => (E.build f28 (parts2 f28 rfl rfl) (wbl70_0_1_xg _ _))) fun a29 f29 => ?_
    clear f28 a28
    refine R.two 1 8 (by kernel_rfl) ?_ ?_
    ·skip
     refine O.val f29 rfl rfl (by decide) wantedN (by exact E.ld f29 U25 (BQ)) trivial fun a30 f30 => ?_
     refine R.one 8 (by kernel_rfl) ?_
     refine O.buildSlice f30 rfl wantedN (by decide) (parts1 f30 rfl) U25 wzi70_xg rfl rfl (wbs25_1_xg _ _) (fun _ _ => trivial) fun a31 w7 g6 N6 hSn f31 => ?_
     clear f29 a29 hSn
     have Bg6 := N6.blk
     have kg6 := N6.kept
     have log6 := N6.lo
     have ltg6 := Bg6.lt
     have szw7 := kg6.size
     have frg6 : w.heap.size ≤ g6 := Nat.le_trans HK.size log6
     have neg0_g6 : g0 ≠ g6 := by have := Bg0.lt; omega
     have negq_g6 : gq ≠ g6 := by have := BQ.lt; omega
     replace HK := HK.trans kg6 (by simp)
     replace Bg0 := Bg0.kept kg6 (by simp)
     replace BQ := BQ.kept kg6 (by simp)
     replace SU := SU.kept0 kg6
     clear N6 kg6
     refine R.one 9 (by kernel_rfl) ?_
     refine O.append f31 rfl wantedN (by decide) U25 wzib70_xg rfl rfl rfl rfl SU.own (Bg6.slN (size := 2) rfl) (by intro u hu; simp at hu; rcases hu with rfl | rfl <;> rfl) (by unfold maxLen; omega) (by omega) fun a32 w8 A8 c8 AP => ?_
     have szw8 := AP.kept.size
     have HKn := AP.grow SU HK
     have BQn := BQ.kept AP.kept (own_ne SU.own BQ (by decide))
     have Bg0n := Bg0.kept AP.kept (own_ne SU.own Bg0 (by decide))
     have SUn := AP.next SU HK.size
     refine ⟨trivial, fun f32 => ?_⟩
     clear f30 a30 f31 Bg6 HK SU BQ Bg0
     have HK := HKn
     have SU := SUn
     have BQ := BQn
     have Bg0 := Bg0n
     clear HKn SUn BQn Bg0n AP
     refine R.u 10 f32 rfl ht trivial (fun W hW => (E.fa 22 f32 U28 rfl wsz25_xg)) fun a33 f33 => ?_
     refine R.one 11 (by kernel_rfl) ?_
     refine OT.store f33 rfl wantedN wsz25_xg rfl rfl rfl BQ (by (simp [Value.cells]; done)) fun a34 w9 f34 NB9 ks9 => ?_
     have szw9 := ks9.size
     replace HK := HK.trans ks9 (ktr (by omega))
     replace Bg0 := Bg0.kept ks9 (by simp; omega)
     replace SU := fresh_blk SU ks9 BQ (by decide)
     replace BQ := NB9
     simp only [Value.cells, z1, z2, z3, Nat.reduceAdd, Nat.zero_add] at BQ
     clear f32 a32 ks9 f33 a33
     exact R.done (by kernel_rfl) (then_of (J := J17) (Q := fun _ _ _ => True) (by rw [hJ17]; exact ⟨l ++ [(filterS c, c % 2)], A8, c8, by unfold sub2; rw [if_pos (by assumption)], HK, Bg0, by rw [Pk.cells, List.length_append]; exact BQ, by rw [sub_cells, List.length_append]; exact SU, f34.sub (sub_cons rfl (sub_cons rfl (sub_cons rfl sn)))⟩))
    skip
    refine O.buildSlice f29 rfl wantedN (by decide) (parts1 f29 rfl) U25 wzi70_xg rfl rfl (wbs25_1_xg _ _) (fun _ _ => trivial) fun a30 w7 g6 N6 hSn f30 => ?_
    clear hSn
    have Bg6 := N6.blk
    have kg6 := N6.kept
    have log6 := N6.lo
    have ltg6 := Bg6.lt
    have szw7 := kg6.size
    have frg6 : w.heap.size ≤ g6 := Nat.le_trans HK.size log6
    have neg0_g6 : g0 ≠ g6 := by have := Bg0.lt; omega
    have negq_g6 : gq ≠ g6 := by have := BQ.lt; omega
    replace HK := HK.trans kg6 (by simp)
    replace Bg0 := Bg0.kept kg6 (by simp)
    replace BQ := BQ.kept kg6 (by simp)
    replace SU := SU.kept0 kg6
    clear N6 kg6
    refine R.one 1 (by kernel_rfl) ?_
    refine O.val f30 rfl rfl (by decide) wantedN (by exact E.ld f30 U25 (BQ)) trivial fun a31 f31 => ?_
    refine R.one 9 (by kernel_rfl) ?_
    refine O.append f31 rfl wantedN (by decide) U25 wzib70_xg rfl rfl rfl rfl SU.own (Bg6.slN (size := 2) rfl) (by intro u hu; simp at hu; rcases hu with rfl | rfl <;> rfl) (by unfold maxLen; omega) (by omega) fun a32 w8 A8 c8 AP => ?_
    have szw8 := AP.kept.size
    have HKn := AP.grow SU HK
    have BQn := BQ.kept AP.kept (own_ne SU.own BQ (by decide))
    have Bg0n := Bg0.kept AP.kept (own_ne SU.own Bg0 (by decide))
    have SUn := AP.next SU HK.size
    refine ⟨trivial, fun f32 => ?_⟩
    clear f29 a29 f30 a30 f31 Bg6 HK SU BQ Bg0
    have HK := HKn
    have SU := SUn
    have BQ := BQn
    have Bg0 := Bg0n
    clear HKn SUn BQn Bg0n AP
    refine R.u 10 f32 rfl ht trivial (fun W hW => (E.fa 22 f32 U28 rfl wsz25_xg)) fun a33 f33 => ?_
    refine R.one 11 (by kernel_rfl) ?_
    refine OT.store f33 rfl wantedN wsz25_xg rfl rfl rfl BQ (by (simp [Value.cells]; done)) fun a34 w9 f34 NB9 ks9 => ?_
    have szw9 := ks9.size
    replace HK := HK.trans ks9 (ktr (by omega))
    replace Bg0 := Bg0.kept ks9 (by simp; omega)
    replace SU := fresh_blk SU ks9 BQ (by decide)
    replace BQ := NB9
    simp only [Value.cells, z1, z2, z3, Nat.reduceAdd, Nat.zero_add] at BQ
    clear f32 a32 ks9 f33 a33
    exact R.done (by kernel_rfl) (then_of (J := J17) (Q := fun _ _ _ => True) (by rw [hJ17]; exact ⟨l ++ [(filterS c, c % 2)], A8, c8, by unfold sub2; rw [if_pos (by assumption)], HK, Bg0, by rw [Pk.cells, List.length_append]; exact BQ, by rw [sub_cells, List.length_append]; exact SU, f34.sub (sub_cons rfl (sub_cons rfl (sub_cons rfl sn)))⟩))
   refine C.condF f22 rfl ?_
   exact wp_skip (then_of (J := J17) (Q := fun _ _ _ => True) (by rw [hJ17]; exact ⟨l, Aq, cq, by unfold sub2; rw [if_neg (by assumption)], HK, Bg0, BQ, SU, f22.sub (sub_cons rfl (sub_cons rfl (sub_cons rfl sn)))⟩))
  intro a18 w5 hj
  rw [hJ17] at hj
  clear hJ17 J17
  obtain ⟨l2, A2, c2, hl2, HK, Bg0, BQ, SU, f18⟩ := hj
  try clear f17
  replace BQ : Blk w5 gq 28 #[.int .i64 8, .bool false, .bool false, .int .i64 0, .int .i64 (b % 7 + 1), .string em, .slice none 0 0, .int .i64 0, .string em, .bool false, .int .i64 0, .bool false, .string em, .slice none 0 0, .int .i64 0, .bool false, .bool false, .bool false, .string em, .slice none 0 0, .bool false, .int .i64 0, .slice A2 l2.length c2, .slice none 0 0] := BQ
  have hll2 : l2.length ≤ 2 := by rw [hl2]; unfold sub2; split <;> simp [hll]
  obtain ⟨J19, hJ19⟩ : ∃ J : Act → World → Prop, J = fun a W => ∃ (l3 : List (ByteArray × Int)) (A3 : Option Addr) (c3 : Nat), l3 = sub3 c l2 ∧ Kept [] w W ∧ Blk W g0 28 zeroPk ∧ Blk W gq 28 (({ kind := 8, id := b % 7 + 1, subs := l3 } : Pk).cells { s0 with ua := A3, uc := c3 }) ∧ Fresh w W 70 2 A3 l3.length c3 (subCells l3) ∧ Fr 130 a [(10, .pointer (some ⟨g0, 0, none⟩)), (13, .pointer (some ⟨gq, 0, none⟩))] := ⟨_, rfl⟩
  refine C.cut J19 ?_ ?_
  ·skip
   refine wp_seq_k fun K15 hK15 => C.region ?_
   refine L.mv f18 fun a19 f19 => ?_
   refine L.va f19 (E.rem f19 rfl rfl (by omega) (Int.tmod_eq_emod_of_nonneg (by omega))) fun a20 f20 => ?_
   refine L.va f20 (E.eq f20) fun a21 f21 => ?_
   refine wpList_nil (hK15 _ _ ?_)
   have f22 := f21.sub (sc 10 (sc 13 (sc 77 sn)))
   clear f18 a18 f19 a19 f20 a20 f21
   refine f22.splitD 77 rfl (fun h9 f23 => ?_) (fun h9 f23 => ?_)
   ·refine C.condT f23 rfl ?_
    refine C.region ?_
    refine L.fa 22 f23 U28 rfl wsz25_xg fun a24 f24 => ?_
    refine L.ld f24 U25 BQ fun a25 f25 => ?_
    refine L.va f25 (E.build f25 (parts2 f25 rfl rfl) (wbl70_0_1_xg _ _)) fun a26 f26 => ?_
    refine L.buildSlice f26 wantedN (by decide) (parts1 f26 rfl) U25 wzi70_xg rfl rfl (wbs25_1_xg _ _) fun a27 w6 g5 N5 f27 => ?_
    have Bg5 := N5.blk
    have kg5 := N5.kept
    have log5 := N5.lo
    have ltg5 := Bg5.lt
    have szw6 := kg5.size
    have frg5 : w.heap.size ≤ g5 := Nat.le_trans HK.size log5
    have neg0_g5 : g0 ≠ g5 := by have := Bg0.lt; omega
    have negq_g5 : gq ≠ g5 := by have := BQ.lt; omega
    replace HK := HK.trans kg5 (by simp)
    replace Bg0 := Bg0.kept kg5 (by simp)
    replace BQ := BQ.kept kg5 (by simp)
    replace SU := SU.kept0 kg5
    clear f22 f23 a21 f24 a24 f25 a25 N5 kg5
    refine L.append f27 wantedN (by decide) U25 wzib70_xg rfl rfl rfl rfl SU.own (Bg5.slN (size := 2) rfl) (by intro u hu; simp at hu; rcases hu with rfl | rfl <;> rfl) (by unfold maxLen; omega) (by omega) fun a28 w7 A7 c7 AP f28 => ?_
    have szw7 := AP.kept.size
    have HKn := AP.grow SU HK
    have BQn := BQ.kept AP.kept (own_ne SU.own BQ (by decide))
    have Bg0n := Bg0.kept AP.kept (own_ne SU.own Bg0 (by decide))
    have SUn := AP.next SU HK.size
    clear f26 a26 f27 Bg5 HK SU BQ Bg0
    have HK := HKn
    have SU := SUn
    have BQ := BQn
    have Bg0 := Bg0n
    clear HKn SUn BQn Bg0n AP
    refine L.fa 22 f28 U28 rfl wsz25_xg fun a29 f29 => ?_
    refine L.store f29 wantedN wsz25_xg rfl rfl rfl BQ (by (simp [Value.cells]; done)) fun a30 w8 f30 NB8 ks8 => ?_
    have szw8 := ks8.size
    replace HK := HK.trans ks8 (ktr (by omega))
    replace Bg0 := Bg0.kept ks8 (by simp; omega)
    replace SU := fresh_blk SU ks8 BQ (by decide)
    replace BQ := NB8
    simp only [Value.cells, z1, z2, z3, Nat.reduceAdd, Nat.zero_add] at BQ
    clear f28 a28 ks8 f29 a29
    exact wpList_nil (then_of (J := J19) (Q := fun _ _ _ => True) (by rw [hJ19]; exact ⟨l2 ++ [(⟨#[97, 35]⟩, 1)], A7, c7, by unfold sub3; rw [if_pos (by assumption)], HK, Bg0, by rw [Pk.cells, List.length_append]; exact BQ, by rw [sub_cells, List.length_append]; exact SU, f30.sub (sub_cons rfl (sub_cons rfl sn))⟩))
   refine C.condF f23 rfl ?_
   exact wp_skip (then_of (J := J19) (Q := fun _ _ _ => True) (by rw [hJ19]; exact ⟨l2, A2, c2, by unfold sub3; rw [if_neg (by assumption)], HK, Bg0, BQ, SU, f23.sub (sub_cons rfl (sub_cons rfl sn))⟩))
  intro a19 w6 hj
  rw [hJ19] at hj
  clear hJ19 J19
  obtain ⟨l3, A3, c3, hl3, HK, Bg0, BQ, SU, f19⟩ := hj
  try clear f18
  refine wp_seq_k fun K16 hK16 => C.region ?_
  refine L.va f19 (by exact E.loadB f19 U28 rfl wsz28_xg rfl (BQ) rfl) fun a20 f20 => ?_
  refine L.storeR f20 wantedN wsz28_xg rfl rfl rfl Bg0 rfl rfl fun a21 w7 f21 NB7 ks7 => ?_
  have szw7 := ks7.size
  replace HK := HK.trans ks7 (ktr (by omega))
  replace BQ := BQ.kept ks7 (by simp; omega)
  replace SU := fresh_blk SU ks7 Bg0 (by decide)
  replace Bg0 := NB7
  clear f19 a19 ks7 f20 a20
  refine wpList_nil (hK16 _ _ ?_)
  have f22 := f21.sub (sc 10 sn)
  refine wp_ret ?_
  try simp only [Exit.inBlock, Exit.then]
  refine C.retC (P := Tryd.prog) (fn := Tryd.f15) f22 rfl rfl Bg0 U28 rfl wsz28_xg ?_
  exact ⟨{ s0 with ua := A3, uc := c3 }, by rw [seat_sub hm, ← hl, ← hl2, ← hl3], HK, by rw [seat_sub hm, ← hl, ← hl2, ← hl3]; exact ⟨Sl.nil _ _ _, Sl.nil _ _ _, Sl.nil _ _ _, SU.sl, Sl.nil _ _ _⟩⟩
 refine C.condF f16 rfl ?_
 refine wp_seq_k fun K17 hK17 => C.region ?_
 refine L.va f16 (E.eq f16) fun a17 f17 => ?_
 refine L.ag f17 fun a18 f18 => ?_
 refine wpList_nil (hK17 _ _ ?_)
 have f19 := f18.sub (sc 1 (sc 2 (sc 3 (sc 4 (sc 10 (sc 11 (sc 19 (sc 85 sn))))))))
 clear f15 f16 a15 f17 a17 f18
 refine f19.splitD 85 rfl (fun h10 f20 => ?_) (fun h10 f20 => ?_)
 ·refine C.condT f20 rfl ?_
  refine wp_seq_k fun K18 hK18 => C.region ?_
  refine L.mv f20 fun a21 f21 => ?_
  refine L.mv f21 fun a22 f22 => ?_
  refine L.cl f22 (run_call Tryd.call35 (args1 f22 rfl)) (filterS_any a0_ _ ha0_) ?_
  clear f19 f20 a18 f21 a21
  rintro e w4 ⟨kc4, rfl⟩
  refine ⟨_, rfl, fun a23 f23 => ?_⟩
  have szw4 := kc4.size
  replace HK := HK.trans kc4 (by simp)
  replace Bg0 := Bg0.kept kc4 (by simp)
  clear f22 a22 kc4
  refine L.va f23 (E.build f23 (parts1 f23 rfl) (wbl70_0_xg _)) fun a24 f24 => ?_
  refine L.mv f24 fun a25 f25 => ?_
  refine L.cl f25 (run_call Tryd.call35 (args1 f25 rfl)) (filterS_any c _ hc) ?_
  clear f23 a23 f24 a24
  rintro e w5 ⟨kc5, rfl⟩
  refine ⟨_, rfl, fun a26 f26 => ?_⟩
  have szw5 := kc5.size
  replace HK := HK.trans kc5 (by simp)
  replace Bg0 := Bg0.kept kc5 (by simp)
  clear f25 a25 kc5
  refine L.va f26 (E.build f26 (parts1 f26 rfl) (wbl70_0_xg _)) fun a27 f27 => ?_
  refine L.buildSlice f27 wantedN (by decide) (parts2 f27 rfl rfl) U25 wzi70_xg rfl rfl (wbs25_2_xg _ _ _ _) fun a28 w6 g5 N5 f28 => ?_
  have Bg5 := N5.blk
  have kg5 := N5.kept
  have log5 := N5.lo
  have ltg5 := Bg5.lt
  have szw6 := kg5.size
  have frg5 : w.heap.size ≤ g5 := Nat.le_trans HK.size log5
  have neg0_g5 : g0 ≠ g5 := by have := Bg0.lt; omega
  replace HK := HK.trans kg5 (by simp)
  replace Bg0 := Bg0.kept kg5 (by simp)
  clear f26 a26 N5 kg5
  refine L.mv f28 fun a29 f29 => ?_
  refine L.va f29 (E.rem f29 rfl rfl (by omega) (Int.tmod_eq_emod_of_nonneg (by omega))) fun a30 f30 => ?_
  refine L.va f30 (E.add f30 rfl rfl (IntWalk.u8_in _ (by omega))) fun a31 f31 => ?_
  refine L.va f31 (E.slLhi f31 U25 wsz70_xg rfl rfl (by omega) (by omega) ) fun a32 f32 => ?_
  refine L.va f32 (E.build f32 (parts3 f32 rfl rfl rfl) (wbl28_0_4_19_xg _ _ _ _ _)) fun a33 f33 => ?_
  refine L.storeR f33 wantedN wsz28_xg rfl rfl rfl Bg0 rfl rfl fun a34 w7 f34 NB7 ks7 => ?_
  have szw7 := ks7.size
  replace HK := HK.trans ks7 (ktr (by omega))
  replace Bg5 := Bg5.kept ks7 (by simp; omega)
  replace Bg0 := NB7
  clear f27 a27 f28 a28 f29 a29 f30 a30 f31 a31 f32 a32 ks7 f33 a33
  refine wpList_nil (hK18 _ _ ?_)
  have f35 := f34.sub (sc 10 sn)
  refine wp_ret ?_
  try simp only [Exit.inBlock, Exit.then]
  refine C.retC (P := Tryd.prog) (fn := Tryd.f15) f35 rfl rfl Bg0 U28 rfl wsz28_xg ?_
  clear f34
  refine ⟨{ s0 with ua := some ⟨g5, 0, none⟩, uc := 2 }, ?_, HK, ?_⟩
  ·rw [seat_uns (by assumption)]; unfold Pk.cells; simp only [uns_len]; rfl
  rw [seat_uns (by assumption)]; exact ⟨Sl.nil _ _ _, Sl.nil _ _ _, Sl.nil _ _ _, uns_sl Bg5, Sl.nil _ _ _⟩
 refine C.condF f20 rfl ?_
 refine wp_seq_k fun K19 hK19 => C.region ?_
 refine L.va f20 (E.eq f20) fun a21 f21 => ?_
 refine L.ag f21 fun a22 f22 => ?_
 refine wpList_nil (hK19 _ _ ?_)
 have f23 := f22.sub (sc 1 (sc 2 (sc 3 (sc 4 (sc 10 (sc 11 (sc 19 (sc 100 sn))))))))
 clear f19 f20 a18 f21 a21 f22
 refine f23.splitD 100 rfl (fun h11 f24 => ?_) (fun h11 f24 => ?_)
 ·refine C.condT f24 rfl ?_
  refine wp_seq_k fun K20 hK20 => C.region ?_
  refine L.mv f24 fun a25 f25 => ?_
  refine L.va f25 (E.build f25 (parts2 f25 rfl rfl) (wbl28_0_4_xg _ _)) fun a26 f26 => ?_
  refine L.storeR f26 wantedN wsz28_xg rfl rfl rfl Bg0 rfl rfl fun a27 w4 f27 NB4 ks4 => ?_
  have szw4 := ks4.size
  replace HK := HK.trans ks4 (ktr (by omega))
  replace Bg0 := NB4
  clear f23 f24 a22 f25 a25 ks4 f26 a26
  refine wpList_nil (hK20 _ _ ?_)
  have f28 := f27.sub (sc 10 sn)
  refine wp_ret ?_
  try simp only [Exit.inBlock, Exit.then]
  refine C.retC (P := Tryd.prog) (fn := Tryd.f15) f28 rfl rfl Bg0 U28 rfl wsz28_xg ?_
  exact ⟨s0, by rw [seat_a (by assumption)]; rfl, HK, by rw [seat_a (by assumption)]; exact ⟨Sl.nil _ _ _, Sl.nil _ _ _, Sl.nil _ _ _, Sl.nil _ _ _, Sl.nil _ _ _⟩⟩
 refine C.condF f24 rfl ?_
 refine wp_seq_k fun K21 hK21 => C.region ?_
 refine L.va f24 (E.eq f24) fun a25 f25 => ?_
 refine L.ag f25 fun a26 f26 => ?_
 refine wpList_nil (hK21 _ _ ?_)
 have f27 := f26.sub (sc 1 (sc 2 (sc 3 (sc 4 (sc 10 (sc 11 (sc 19 (sc 104 sn))))))))
 clear f23 f24 a22 f25 a25 f26
 refine f27.splitD 104 rfl (fun h12 f28 => ?_) (fun h12 f28 => ?_)
 ·refine C.condT f28 rfl ?_
  refine wp_seq_k fun K22 hK22 => C.region ?_
  refine L.mv f28 fun a29 f29 => ?_
  refine L.va f29 (E.build f29 (parts2 f29 rfl rfl) (wbl28_0_4_xg _ _)) fun a30 f30 => ?_
  refine L.storeR f30 wantedN wsz28_xg rfl rfl rfl Bg0 rfl rfl fun a31 w4 f31 NB4 ks4 => ?_
  have szw4 := ks4.size
  replace HK := HK.trans ks4 (ktr (by omega))
  replace Bg0 := NB4
  clear f27 f28 a26 f29 a29 ks4 f30 a30
  refine wpList_nil (hK22 _ _ ?_)
  have f32 := f31.sub (sc 10 sn)
  refine wp_ret ?_
  try simp only [Exit.inBlock, Exit.then]
  refine C.retC (P := Tryd.prog) (fn := Tryd.f15) f32 rfl rfl Bg0 U28 rfl wsz28_xg ?_
  exact ⟨s0, by rw [seat_r (by assumption)]; rfl, HK, by rw [seat_r (by assumption)]; exact ⟨Sl.nil _ _ _, Sl.nil _ _ _, Sl.nil _ _ _, Sl.nil _ _ _, Sl.nil _ _ _⟩⟩
 refine C.condF f28 rfl ?_
 refine wp_seq_k fun K23 hK23 => C.region ?_
 refine L.va f28 (E.eq f28) fun a29 f29 => ?_
 refine L.ag f29 fun a30 f30 => ?_
 refine wpList_nil (hK23 _ _ ?_)
 have f31 := f30.sub (sc 1 (sc 2 (sc 3 (sc 4 (sc 10 (sc 11 (sc 19 (sc 108 sn))))))))
 clear f27 f28 a26 f29 a29 f30
 refine f31.splitD 108 rfl (fun h13 f32 => ?_) (fun h13 f32 => ?_)
 ·refine C.condT f32 rfl ?_
  refine wp_seq_k fun K24 hK24 => C.region ?_
  refine L.mv f32 fun a33 f33 => ?_
  refine L.va f33 (E.build f33 (parts2 f33 rfl rfl) (wbl28_0_4_xg _ _)) fun a34 f34 => ?_
  refine L.storeR f34 wantedN wsz28_xg rfl rfl rfl Bg0 rfl rfl fun a35 w4 f35 NB4 ks4 => ?_
  have szw4 := ks4.size
  replace HK := HK.trans ks4 (ktr (by omega))
  replace Bg0 := NB4
  clear f31 f32 a30 f33 a33 ks4 f34 a34
  refine wpList_nil (hK24 _ _ ?_)
  have f36 := f35.sub (sc 10 sn)
  refine wp_ret ?_
  try simp only [Exit.inBlock, Exit.then]
  refine C.retC (P := Tryd.prog) (fn := Tryd.f15) f36 rfl rfl Bg0 U28 rfl wsz28_xg ?_
  exact ⟨s0, by rw [seat_p (by assumption)]; rfl, HK, by rw [seat_p (by assumption)]; exact ⟨Sl.nil _ _ _, Sl.nil _ _ _, Sl.nil _ _ _, Sl.nil _ _ _, Sl.nil _ _ _⟩⟩
 refine C.condF f32 rfl ?_
 refine wp_seq_k fun K25 hK25 => C.region ?_
 refine L.va f32 (E.eq f32) fun a33 f33 => ?_
 refine L.ag f33 fun a34 f34 => ?_
 refine wpList_nil (hK25 _ _ ?_)
 have f35 := f34.sub (sc 1 (sc 2 (sc 3 (sc 4 (sc 10 (sc 19 (sc 112 sn)))))))
 clear f31 f32 a30 f33 a33 f34
 refine f35.splitD 112 rfl (fun h14 f36 => ?_) (fun h14 f36 => ?_)
 ·refine C.condT f36 rfl ?_
  refine wp_seq_k fun K26 hK26 => C.region ?_
  refine L.mv f36 fun a37 f37 => ?_
  refine L.va f37 (E.rem f37 rfl rfl (by omega) (Int.tmod_eq_emod_of_nonneg (by omega))) fun a38 f38 => ?_
  refine L.va f38 (E.conv f38 U5 U3 rfl (IntWalk.i64_in _ (by omega))) fun a39 f39 => ?_
  refine L.va f39 (E.add f39 rfl rfl (IntWalk.i64_in _ (by omega))) fun a40 f40 => ?_
  refine L.va f40 (E.build f40 (parts2 f40 rfl rfl) (wbl28_0_4_xg _ _)) fun a41 f41 => ?_
  refine L.storeR f41 wantedN wsz28_xg rfl rfl rfl Bg0 rfl rfl fun a42 w4 f42 NB4 ks4 => ?_
  have szw4 := ks4.size
  replace HK := HK.trans ks4 (ktr (by omega))
  replace Bg0 := NB4
  clear f35 f36 a34 f37 a37 f38 a38 f39 a39 f40 a40 ks4 f41 a41
  refine wpList_nil (hK26 _ _ ?_)
  have f43 := f42.sub (sc 10 sn)
  refine wp_ret ?_
  try simp only [Exit.inBlock, Exit.then]
  refine C.retC (P := Tryd.prog) (fn := Tryd.f15) f43 rfl rfl Bg0 U28 rfl wsz28_xg ?_
  exact ⟨s0, by rw [seat_l (by assumption)]; rfl, HK, by rw [seat_l (by assumption)]; exact ⟨Sl.nil _ _ _, Sl.nil _ _ _, Sl.nil _ _ _, Sl.nil _ _ _, Sl.nil _ _ _⟩⟩
 refine C.condF f36 rfl ?_
 refine wp_seq_k fun K27 hK27 => C.region ?_
 refine L.va f36 (E.eq f36) fun a37 f37 => ?_
 refine L.ag f37 fun a38 f38 => ?_
 refine wpList_nil (hK27 _ _ ?_)
 have f39 := f38.sub (sc 1 (sc 2 (sc 3 (sc 4 (sc 10 (sc 19 (sc 119 sn)))))))
 clear f35 f36 a34 f37 a37 f38
 refine f39.splitD 119 rfl (fun h15 f40 => ?_) (fun h15 f40 => ?_)
 ·refine C.condT f40 rfl ?_
  refine wp_seq_k fun K28 hK28 => C.region ?_
  refine L.va f40 (E.build f40 (parts1 f40 rfl) (wbl28_0_xg _)) fun a41 f41 => ?_
  refine L.storeR f41 wantedN wsz28_xg rfl rfl rfl Bg0 rfl rfl fun a42 w4 f42 NB4 ks4 => ?_
  have szw4 := ks4.size
  replace HK := HK.trans ks4 (ktr (by omega))
  replace Bg0 := NB4
  clear f39 f40 a38 ks4 f41 a41
  refine wpList_nil (hK28 _ _ ?_)
  have f43 := f42.sub (sc 10 sn)
  refine wp_ret ?_
  try simp only [Exit.inBlock, Exit.then]
  refine C.retC (P := Tryd.prog) (fn := Tryd.f15) f43 rfl rfl Bg0 U28 rfl wsz28_xg ?_
  exact ⟨s0, by rw [seat_q (by assumption)]; rfl, HK, by rw [seat_q (by assumption)]; exact ⟨Sl.nil _ _ _, Sl.nil _ _ _, Sl.nil _ _ _, Sl.nil _ _ _, Sl.nil _ _ _⟩⟩
 refine C.condF f40 rfl ?_
 refine wp_seq_k fun K29 hK29 => C.region ?_
 refine L.va f40 (E.eq f40) fun a41 f41 => ?_
 refine L.ag f41 fun a42 f42 => ?_
 refine wpList_nil (hK29 _ _ ?_)
 have f43 := f42.sub (sc 1 (sc 2 (sc 3 (sc 4 (sc 10 (sc 122 sn))))))
 clear f39 f40 a38 f41 a41 f42
 refine f43.splitD 122 rfl (fun h16 f44 => ?_) (fun h16 f44 => ?_)
 ·refine C.condT f44 rfl ?_
  refine wp_seq_k fun K30 hK30 => C.region ?_
  refine L.mv f44 fun a45 f45 => ?_
  refine L.mv f45 fun a46 f46 => ?_
  refine L.mv f46 fun a47 f47 => ?_
  refine L.mv f47 fun a48 f48 => ?_
  refine L.cl f48 (run_call Tryd.call36 (args4 f48 rfl rfl rfl rfl)) (seatcon_any a0_ b c x A cx _ (SX.kept HK) ha0_ hb hc) ?_
  clear f43 f44 a42 f45 a45 f46 a46 f47 a47
  rintro e w4 ⟨kc4, rfl⟩
  refine ⟨_, rfl, fun a49 f49 => ?_⟩
  have szw4 := kc4.size
  replace HK := HK.trans kc4 (by simp)
  replace Bg0 := Bg0.kept kc4 (by simp)
  clear f48 a48 kc4
  refine L.storeR f49 wantedN wsz28_xg rfl rfl rfl Bg0 rfl rfl fun a50 w5 f50 NB5 ks5 => ?_
  have szw5 := ks5.size
  replace HK := HK.trans ks5 (ktr (by omega))
  replace Bg0 := NB5
  clear ks5 f49 a49
  refine wpList_nil (hK30 _ _ ?_)
  have f51 := f50.sub (sc 10 sn)
  refine wp_ret ?_
  try simp only [Exit.inBlock, Exit.then]
  refine C.retC (P := Tryd.prog) (fn := Tryd.f15) f51 rfl rfl Bg0 U28 rfl wsz28_xg ?_
  exact ⟨adC b c A cx, by rw [seat_con (by assumption)], HK, by rw [seat_con (by assumption)]; exact seatcon_in (SX.kept HK)⟩
 refine C.condF f44 rfl ?_
 refine wp_skip (hK2 _ _ ?_)
 have f45 := f44.sub (sc 10 sn)
 refine wp_seq_k fun K31 hK31 => C.region ?_
 refine L.va f45 (E.build f45 (parts1 f45 rfl) (wbl28_0_xg _)) fun a46 f46 => ?_
 refine L.storeR f46 wantedN wsz28_xg rfl rfl rfl Bg0 rfl rfl fun a47 w4 f47 NB4 ks4 => ?_
 have szw4 := ks4.size
 replace HK := HK.trans ks4 (ktr (by omega))
 replace Bg0 := NB4
 clear f43 f44 f45 a42 ks4 f46 a46
 refine wpList_nil (hK31 _ _ ?_)
 have f48 := f47.sub (sc 10 sn)
 refine wp_ret ?_
 try simp only [Exit.inBlock, Exit.then]
 refine C.retC (P := Tryd.prog) (fn := Tryd.f15) f48 rfl rfl Bg0 U28 rfl wsz28_xg ?_
 have hd : 14 ≤ k % 15 := by omega
 exact ⟨s0, by rw [seat_d hd]; rfl, HK, by rw [seat_d hd]; exact ⟨Sl.nil _ _ _, Sl.nil _ _ _, Sl.nil _ _ _, Sl.nil _ _ _, Sl.nil _ _ _⟩⟩
end Go.Proofs.YtigjafbbnocihaaDoor
namespace Go.Proofs.YtigjafbbnocihaaDoor
open Go.RowKit Go.Hub Go.Lib Go.Vl
theorem p7_tx : p7.all txB = true := by kernel_rfl
theorem p10_tx : p10.all txB = true := by kernel_rfl
theorem p5_tx : p5.all txB = true := by kernel_rfl
theorem getD_mem (l : List ByteArray) (i : Nat) (h : i < l.length) : l.getD i em ∈ l := List.mem_of_getElem? (list_at l i h)
theorem topic_mem (k : Int) : topicS k ∈ p7 := getD_mem p7 _ (by show _ < 7; omega)
theorem filter_mem (k : Int) : filterS k ∈ p10 := getD_mem p10 _ (by show _ < 10; omega)
theorem cli_mem (k : Int) : cliS k ∈ p5 := getD_mem p5 _ (by show _ < 5; omega)
theorem topic_tx (k : Int) : txB (topicS k) = true := List.all_eq_true.1 p7_tx _ (topic_mem k)
theorem filter_tx (k : Int) : txB (filterS k) = true := List.all_eq_true.1 p10_tx _ (filter_mem k)
theorem cli_tx (k : Int) : txB (cliS k) = true := List.all_eq_true.1 p5_tx _ (cli_mem k)
theorem p7_sz : ∀ s ∈ p7, s.size ≤ 10 := by decide
theorem p10_sz : ∀ s ∈ p10, s.size ≤ 10 := by decide
theorem p5_sz : ∀ s ∈ p5, s.size ≤ 10 := by decide
theorem topic_sz (k : Int) : (topicS k).size ≤ 10 := p7_sz _ (topic_mem k)
theorem filter_sz (k : Int) : (filterS k).size ≤ 10 := p10_sz _ (filter_mem k)
theorem cli_sz (k : Int) : (cliS k).size ≤ 10 := p5_sz _ (cli_mem k)
theorem tx_ah : txB ⟨#[97, 35]⟩ = true := by kernel_rfl
theorem tx_u : txB ⟨#[117]⟩ = true := by kernel_rfl
section
variable {k a b c : Int} {x : List UInt8}
theorem pub_right (hx : x.length ≤ 1000) (hb : 0 ≤ b) (hc : 0 ≤ c) : RightP (seatPub a b c x) := by
  have ht := topic_tx a
  have hz := topic_sz a
  unfold seatPub
  split
  · rename_i h
    refine ⟨by simp [inB], by simp [bareP, h], ?_, ?_⟩
    · simp [valB, numB, inB, ht, h]; omega
    simp [behindL, numB, h, lumpL_len, twoL_len, bytes_len]; omega
  rename_i h
  refine ⟨by simp [inB], by simp [bareP, h], ?_, ?_⟩
  · simp [valB, numB, inB, ht, h]; omega
  simp [behindL, numB, h, lumpL_len, twoL_len, bytes_len]; omega
theorem pub_len (hx : x.length ≤ 1000) : (seatPub a b c x).Len := by
  have hz := topic_sz a
  unfold seatPub
  split <;> exact ⟨by show x.length ≤ _; omega, by simp, by simp, by simp, by simp, by show (topicS a).size ≤ _; omega, em_le, em_le, em_le, by simp⟩
def subOk (l : List (ByteArray × Int)) : Prop := ∀ y ∈ l, txB y.1 = true ∧ (0 ≤ y.2 ∧ y.2 ≤ 2) ∧ y.1.size ≤ 10
theorem sub_ok : subOk (sub3 c (sub2 c [(filterS a, b % 3)])) := by
  have h1 : subOk [(filterS a, b % 3)] := fun y hy => by
    obtain rfl := List.mem_singleton.1 hy
    exact ⟨filter_tx a, by simp only; omega, filter_sz a⟩
  have h2 : subOk (sub2 c [(filterS a, b % 3)]) := by
    unfold sub2
    split
    · intro y hy
      rcases List.mem_append.1 hy with hy | hy
      · exact h1 y hy
      obtain rfl := List.mem_singleton.1 hy
      exact ⟨filter_tx c, by simp only; omega, filter_sz c⟩
    exact h1
  unfold sub3
  split
  · intro y hy
    rcases List.mem_append.1 hy with hy | hy
    · exact h2 y hy
    obtain rfl := List.mem_singleton.1 hy
    exact ⟨tx_ah, by decide, by decide⟩
  exact h2
theorem sub_num : 0 < (sub3 c (sub2 c [(filterS a, b % 3)])).length ∧ (sub3 c (sub2 c [(filterS a, b % 3)])).length ≤ 3 := by
  unfold sub3 sub2
  repeat' split
  all_goals simp
theorem flatS_le (kd : Int) (l : List (ByteArray × Int)) (h : subOk l) : (l.flatMap (subL kd)).length ≤ 13 * l.length := by
  induction l with
  | nil => simp
  | cons y r ih =>
    have h1 := ih fun z hz => h z (List.mem_cons_of_mem _ hz)
    have h2 := (h y (List.mem_cons_self ..)).2.2
    have h3 : (subL kd y).length ≤ 13 := by
      unfold subL
      rw [List.length_append, lumpL_len, bytes_len]
      split <;> simp <;> omega
    rw [List.flatMap_cons, List.length_append, List.length_cons]
    omega
theorem subB_of (m : Int) (l : List (ByteArray × Int)) (h : ∀ y ∈ l, txB y.1 = true ∧ 0 ≤ y.2 ∧ y.2 ≤ m) : subB m l = true := by
  unfold subB
  rw [List.all_eq_true]
  intro y hy
  obtain ⟨h1, h2, h3⟩ := h y hy
  rw [h1, Bool.true_and]
  exact inB_iff.2 ⟨h2, h3⟩
theorem num_8 (k : Int) (h : 4 ≤ k ∧ k ≤ 11) (i : Int) (l : List (ByteArray × Int)) : numB { kind := k, id := i, subs := l } = true := by
  unfold numB
  simp only
  rw [if_neg (by omega)]
  exact inB_iff.2 h
theorem subs_right (kd : Int) (hk : kd = 8 ∨ kd = 10) (i : Int) (hi : 1 ≤ i ∧ i ≤ 65535) (l : List (ByteArray × Int)) (h : subOk l) (h0 : kd = 10 → ∀ y ∈ l, y.2 = 0) (hn : 0 < l.length ∧ l.length ≤ 3) : RightP { kind := kd, id := i, subs := l } := by
  have hnum := num_8 kd (by omega) i l
  refine ⟨inB_iff.2 (by constructor <;> (show _ ≤ _) <;> simp only <;> omega), ?_, ?_, ?_⟩
  · unfold bareP
    simp only
    rw [if_neg (by omega), if_neg (by omega), if_neg (by omega), if_pos hk]
  · unfold valB
    rw [hnum]
    simp only [Bool.not_true, Bool.false_or]
    rw [inB_iff.2 hi, Bool.true_and]
    rcases hk with rfl | rfl
    · rw [if_neg (by decide), if_neg (by decide), if_neg (by decide), if_pos rfl, subB_of 2 l fun y hy => ⟨(h y hy).1, (h y hy).2.1⟩, Bool.true_and]
      exact decide_eq_true hn.1
    rw [if_neg (by decide), if_neg (by decide), if_neg (by decide), if_neg (by decide), if_pos rfl, subB_of 0 l fun y hy => ⟨(h y hy).1, by rw [h0 rfl y hy]; decide⟩, Bool.true_and]
    exact decide_eq_true hn.1
  unfold behindL
  rw [hnum]
  simp only
  rw [if_neg (by omega), if_neg (by omega), if_neg (by omega)]
  have := flatS_le kd l h
  simp only [if_true, reduceIte, List.nil_append, List.length_append, twoL_len, List.map_nil, List.length_nil]
  omega
theorem uns_ok : subOk (unsL a c) ∧ (∀ y ∈ unsL a c, y.2 = 0) ∧ 0 < (unsL a c).length ∧ (unsL a c).length ≤ 3 := by
  unfold unsL
  split
  · refine ⟨fun y hy => ?_, fun y hy => ?_, by simp, by simp⟩
    · obtain rfl := List.mem_singleton.1 hy
      exact ⟨filter_tx a, by simp only; omega, filter_sz a⟩
    obtain rfl := List.mem_singleton.1 hy
    rfl
  refine ⟨fun y hy => ?_, fun y hy => ?_, by simp, by simp⟩
  · simp only [List.mem_cons, List.not_mem_nil, or_false] at hy
    rcases hy with rfl | rfl
    · exact ⟨filter_tx a, by simp only; omega, filter_sz a⟩
    exact ⟨filter_tx c, by simp only; omega, filter_sz c⟩
  simp only [List.mem_cons, List.not_mem_nil, or_false] at hy
  rcases hy with rfl | rfl <;> rfl
theorem id_right (kd : Int) (hk : 4 ≤ kd ∧ kd ≤ 7) (i : Int) (hi : 1 ≤ i ∧ i ≤ 65535) : RightP { kind := kd, id := i } := by
  have hnum := num_8 kd (by omega) i []
  refine ⟨inB_iff.2 (by constructor <;> (show _ ≤ _) <;> simp only <;> omega), ?_, ?_, ?_⟩
  · unfold bareP
    rw [hnum]
    simp only
    rw [if_neg (by omega), if_neg (by omega), if_neg (by omega), if_neg (by omega), if_neg (by omega)]
    rfl
  · unfold valB
    rw [hnum]
    simp only [Bool.not_true, Bool.false_or]
    rw [inB_iff.2 hi, Bool.true_and, if_neg (by omega), if_neg (by omega), if_neg (by omega), if_neg (by omega), if_neg (by omega), if_neg (by omega)]
  unfold behindL
  rw [hnum]
  simp only
  rw [if_neg (by omega), if_neg (by omega), if_neg (by omega)]
  simp [twoL_len]
theorem id_len (kd i : Int) : Pk.Len { kind := kd, id := i } := ⟨by simp, by simp, by simp, by simp, by simp, em_le, em_le, em_le, em_le, by simp⟩
theorem subs_len (kd i : Int) (l : List (ByteArray × Int)) (h : subOk l) (hn : l.length ≤ 3) : Pk.Len { kind := kd, id := i, subs := l } := ⟨by simp, by simp, by simp, by show l.length ≤ _; omega, by simp, em_le, em_le, em_le, em_le, fun y hy => by have := (h y hy).2.2; omega⟩
theorem seatcon_right (hx : x.length ≤ 1000) (ha : 0 ≤ a) (hc : 0 ≤ c) : RightP (seatCon a b c x) := by
  have t1 := topic_tx c
  have z1 := topic_sz c
  have t2 := cli_tx a
  have z2 := cli_sz a
  have t3 := tx_u
  have t4 := txB_em
  have e1 : con1 a b c = { kind := 1, level := 4, client := cliS a, clean := (if cliS a = em then decide (0 < b % 9) else decide (b % 2 = 0)), keep := c % 5 } := by unfold con1; split <;> rfl
  obtain ⟨cl, hcl⟩ : ∃ cl : Bool, cl = (if cliS a = em then decide (0 < b % 9) else decide (b % 2 = 0)) := ⟨_, rfl⟩
  rw [← hcl] at e1
  unfold seatCon
  rw [e1]
  unfold con4 con3 con2
  have hk5 : 0 ≤ c % 5 ∧ c % 5 ≤ 65535 := by omega
  have hw3 : 0 ≤ a % 3 ∧ a % 3 ≤ 2 := by omega
  by_cases h1 : c % 3 = 0 <;> by_cases h2 : a % 8 = 7 <;> by_cases h3 : b % 10 = 9 <;> simp only [h1, h2, h3, if_true, if_false, reduceIte] <;>
    refine ⟨by simp [inB], by simp [bareP], ?_, ?_⟩ <;>
    (first | (simp [valB, numB, inB, t1, t2, t3, t4, hk5, hw3]; done) | (simp [valB, numB, inB, t1, t2, t3, t4, hk5, hw3]; omega) | (simp [behindL, connL, numB, lumpL_len, twoL_len, bytes_len]; omega))
theorem seatcon_len (hx : x.length ≤ 1000) : (seatCon a b c x).Len := by
  have z1 := topic_sz c
  have z2 := cli_sz a
  have hu : (⟨#[117]⟩ : ByteArray).size ≤ 1000000 := by decide
  have h0 : (con1 a b c).Len := by
    unfold con1
    split <;> exact ⟨by simp, by simp, by simp, by simp, by simp, em_le, by show (cliS a).size ≤ _; omega, em_le, em_le, by simp⟩
  have h1 : (con2 a b c x (con1 a b c)).Len := by
    unfold con2
    split
    · exact ⟨h0.pay, by show x.length ≤ _; omega, h0.pass, h0.subs, h0.codes, h0.topic, h0.client, by show (topicS c).size ≤ _; omega, h0.user, h0.each⟩
    exact h0
  have h2 : (con3 a (con2 a b c x (con1 a b c))).Len := by
    unfold con3
    split
    · exact ⟨h1.pay, h1.wp, h1.pass, h1.subs, h1.codes, h1.topic, h1.client, h1.wt, h1.user, h1.each⟩
    exact h1
  unfold seatCon con4
  split
  · exact ⟨h2.pay, h2.wp, by show x.length ≤ _; omega, h2.subs, h2.codes, h2.topic, h2.client, h2.wt, hu, h2.each⟩
  exact h2
theorem seat_right (hk : 0 ≤ k) (ha : 0 ≤ a) (hb : 0 ≤ b) (hc : 0 ≤ c) (hx : x.length ≤ 1000) : RightP (seatP k a b c x) ∧ (seatP k a b c x).Len := by
  obtain ⟨u1, u2, u3, u4⟩ := uns_ok (a := a) (c := c)
  have s1 := sub_num (a := a) (b := b) (c := c)
  unfold seatP
  repeat' split
  · exact ⟨pub_right hx hb hc, pub_len hx⟩
  · exact ⟨subs_right 8 (.inl rfl) _ (by omega) _ sub_ok (fun h => by omega) s1, subs_len _ _ _ sub_ok s1.2⟩
  · exact ⟨subs_right 10 (.inr rfl) _ (by omega) _ u1 (fun _ => u2) ⟨u3, u4⟩, subs_len _ _ _ u1 u4⟩
  · exact ⟨id_right 4 (by decide) _ (by omega), id_len _ _⟩
  · exact ⟨id_right 5 (by decide) _ (by omega), id_len _ _⟩
  · exact ⟨id_right 7 (by decide) _ (by omega), id_len _ _⟩
  · exact ⟨id_right 6 (by decide) _ (by omega), id_len _ _⟩
  · exact ⟨rightK 12 (by decide), kindLen 12⟩
  · exact ⟨seatcon_right hx ha hc, seatcon_len hx⟩
  exact ⟨rightK 14 (by decide), kindLen 14⟩
end
end Go.Proofs.YtigjafbbnocihaaDoor
namespace Go.Proofs.YtigjafbbnocihaaDoor
open Go.RowKit Go.Hub Go.Lib Go.Vl
theorem enc_le {p : Pk} (h : RightP p) : (encL p).length ≤ 8200 := by
  have h1 := h.len
  have h2 := szN_le ((behindL p).length : Int)
  unfold encL
  rw [List.length_append, List.length_cons, putL_len]
  omega
end Go.Proofs.YtigjafbbnocihaaDoor
namespace Go.Proofs.YtigjafbbnocihaaDoor
open Go.RowKit Go.Hub Go.Lib Go.Vl
theorem wsz28_xk : (Tryd.prog.info? 28).map (·.size) = some 24 := by kernel_rfl
set_option maxHeartbeats 1000000 in
theorem sbytes_any (p : Pk) (s : Ad) (w : World) (IP : p.In w s) (hL : p.Len) (hT : Tabs w) : Calls Tryd.prog 24 #[.agg (p.cells s)] w (fun e w' => Kept [] w w' ∧ ∃ A c, e = .returned (.slice A (putB p).1.length c) ∧ FB w w' A c (putB p).1) := by
 have HK : Kept [] w w := Kept.refl [] w
 refine C.enter Tryd.func24 rfl Tryd.ntmps24 rfl ?_
 intro a0 f0
 have f1 : Fr 11 a0 [(0, .agg (p.cells s))] := f0
 refine wp_seq_k fun K0 hK0 => C.region ?_
 refine L.box f1 wantedN (by decide) rfl rfl fun a2 w1 g0 N0 f2 => ?_
 have Bg0 := N0.blk
 have kg0 := N0.kept
 have log0 := N0.lo
 have ltg0 := Bg0.lt
 have szw1 := kg0.size
 have frg0 : w.heap.size ≤ g0 := Nat.le_trans HK.size log0
 replace HK := HK.trans kg0 (by simp)
 clear f0 N0 kg0
 refine L.ag f2 fun a3 f3 => ?_
 refine wpList_nil (hK0 _ _ ?_)
 have f4 := f3.sub (sc 1 sn)
 refine wp_seq_k fun K1 hK1 => C.region ?_
 refine L.va f4 (by exact E.loadB f4 U28 rfl wsz28_xk rfl (Bg0) rfl) fun a5 f5 => ?_
 refine L.cl f5 (run_call Tryd.call18 (args1 f5 rfl)) (wputR_any p s _ (IP.kept HK) hL (hT.old (HK.below (by simp) (Nat.le_refl _)))) ?_
 clear f1 a0 f2 a2 f3 f4 a3
 rintro e w2 ⟨kc2, A2, c2, rfl, F2⟩
 have szk := HK.size
 replace F2 := FB.lower F2 szk
 refine ⟨_, rfl, fun a6 f6 => ?_⟩
 have szw2 := kc2.size
 replace HK := HK.trans kc2 (by simp)
 replace Bg0 := Bg0.kept kc2 (by simp)
 clear f5 a5 kc2
 refine L.mv f6 fun a7 f7 => ?_
 refine L.va f7 (E.extract f7 rfl rfl) fun a8 f8 => ?_
 refine L.va f8 (E.extract f8 rfl rfl) fun a9 f9 => ?_
 refine L.ag f9 fun a10 f10 => ?_
 refine L.ag f10 fun a11 f11 => ?_
 refine wpList_nil (hK1 _ _ ?_)
 have f12 := f11.sub (sc 3 sn)
 refine wp_seq_k fun K2 hK2 => C.region ?_
 refine L.mv f12 fun a13 f13 => ?_
 refine L.ag f13 fun a14 f14 => ?_
 clear f6 a6 f7 a7 f8 a8 f9 a9 f10 a10 f11 f12 a11 f13 a13
 refine wpList_nil (hK2 _ _ ?_)
 have f15 := f14.sub (sc 2 sn)
 refine wp_ret ?_
 try simp only [Exit.inBlock, Exit.then]
 refine C.ret (P := Tryd.prog) (fn := Tryd.f24) f15 rfl rfl ?_
 exact ⟨HK, _, _, rfl, F2⟩
end Go.Proofs.YtigjafbbnocihaaDoor
namespace Go.Proofs.YtigjafbbnocihaaDoor
open Go.RowKit Go.Hub Go.Lib Go.Vl
theorem wzib5_xl : (Tryd.prog.info? 5).map (fun i => (i.zero, i.size, i.bytes)) = some (some (.int .u8 0), 1, 1) := by kernel_rfl
theorem wzi5_xl : (Tryd.prog.info? 5).map (fun i => (i.zero, i.size)) = some (some (.int .u8 0), 1) := by kernel_rfl
theorem wzi22_xl : (Tryd.prog.info? 22).map (fun i => (i.zero, i.size)) = some (some (.slice none 0 0), 1) := by kernel_rfl
theorem wbs22_1_xl (x0 : Int) : Instr.fill (fun i => some (i * 1, 1)) ((Array.range (1 * 1)).map fun j => (Value.cells (.int .u8 0))[j % (Value.cells (.int .u8 0)).size]!) [(0, .int .u8 x0)] = some #[.int .u8 x0] := by kernel_rfl
theorem wbs22_2_xl (x0 : Int) (x1 : Int) : Instr.fill (fun i => some (i * 1, 1)) ((Array.range (2 * 1)).map fun j => (Value.cells (.int .u8 0))[j % (Value.cells (.int .u8 0)).size]!) [(0, .int .u8 x0), (1, .int .u8 x1)] = some #[.int .u8 x0, .int .u8 x1] := by kernel_rfl
theorem wbs22_4_xl (x0 : Int) (x1 : Int) (x2 : Int) (x3 : Int) : Instr.fill (fun i => some (i * 1, 1)) ((Array.range (4 * 1)).map fun j => (Value.cells (.int .u8 0))[j % (Value.cells (.int .u8 0)).size]!) [(0, .int .u8 x0), (1, .int .u8 x1), (2, .int .u8 x2), (3, .int .u8 x3)] = some #[.int .u8 x0, .int .u8 x1, .int .u8 x2, .int .u8 x3] := by kernel_rfl
theorem wbs45_6_xl (x0 : Option Addr) (y0 z0 : Nat) (x1 : Option Addr) (y1 z1 : Nat) (x2 : Option Addr) (y2 z2 : Nat) (x3 : Option Addr) (y3 z3 : Nat) (x4 : Option Addr) (y4 z4 : Nat) (x5 : Option Addr) (y5 z5 : Nat) : Instr.fill (fun i => some (i * 1, 1)) ((Array.range (6 * 1)).map fun j => (Value.cells (.slice none 0 0))[j % (Value.cells (.slice none 0 0)).size]!) [(0, .slice x0 y0 z0), (1, .slice x1 y1 z1), (2, .slice x2 y2 z2), (3, .slice x3 y3 z3), (4, .slice x4 y4 z4), (5, .slice x5 y5 z5)] = some #[.slice x0 y0 z0, .slice x1 y1 z1, .slice x2 y2 z2, .slice x3 y3 z3, .slice x4 y4 z4, .slice x5 y5 z5] := by kernel_rfl
theorem wsz5_xl : (Tryd.prog.info? 5).map (·.size) = some 1 := by kernel_rfl
theorem wsz22_xl : (Tryd.prog.info? 22).map (·.size) = some 1 := by kernel_rfl
theorem wsz28_xl : (Tryd.prog.info? 28).map (·.size) = some 24 := by kernel_rfl
theorem hi_sl {W : World} {A : Option Addr} {l : List UInt8} {i : Nat} (S : Sl W A l.length 1 (l.map u8)) (h : i ≤ l.length) : Sl W A (i : Int).toNat 1 ((l.take i).map u8) := by
  rw [Int.toNat_natCast]
  exact ((Sl.bs S).head h).toSl
theorem lo_sl {W : World} {A : Option Addr} {c : Nat} {l : List UInt8} {i : Nat} (S : Sl W A l.length 1 (l.map u8)) (hc : l.length ≤ c) (h : i ≤ l.length) : Sl W (if c = (i : Int).toNat then A else A.map (·.add ((i : Int).toNat * 1))) (l.length - (i : Int).toNat) 1 ((l.drop i).map u8) := by
  rw [Int.toNat_natCast]
  exact ((Sl.bs S).cut h hc).toSl
theorem ix_cell {w : World} {b off i : Nat} {l : List UInt8} {x : UInt8} (S : Sl w (some ⟨b, off, none⟩) l.length 1 (l.map u8)) (hx : l[i]? = some x) : w.cell? ⟨b, off + (i : Int).toNat * 1, none⟩ = some (.int .u8 (x.toNat : Nat)) := by
  rw [Int.toNat_natCast, Nat.mul_one]
  exact byte_cell S rfl hx
theorem bd_xor (x y : Int) : 0 ≤ bits .xor .u8 x y ∧ bits .xor .u8 x y < 256 := by
  have := bd_u8 (wf_bits .xor .u8 x y)
  omega
theorem each_ap1 {w : World} {A : Option Addr} {c : Nat} {x : List UInt8} {k : Int} (S : Sl w A (1 + x.length) 1 ([.int .u8 k] ++ x.map u8)) (hc : 1 + x.length ≤ c) (hx : x.length ≤ 200) (hk : 0 ≤ k ∧ k < 256) : Each w (A, c, b8 k :: x) := by
  refine ⟨?_, by simp; omega, by simp; omega⟩
  have e : ([.int .u8 k] ++ x.map u8) = (b8 k :: x).map u8 := by simp [u8_of hk]
  rw [e] at S
  have e2 : (b8 k :: x).length = 1 + x.length := by simp; omega
  show Sl w A (b8 k :: x).length 1 _
  rw [e2]
  exact S
theorem each_six {w : World} {r0 r1 r2 r3 r4 r5 : Option Addr × Nat × List UInt8} (h0 : Each w r0) (h1 : Each w r1) (h2 : Each w r2) (h3 : Each w r3) (h4 : Each w r4) (h5 : Each w r5) : ∀ r ∈ [r0, r1, r2, r3, r4, r5], Sl w r.1 r.2.2.length 1 (r.2.2.map u8) ∧ r.2.2.length ≤ r.2.1 ∧ r.2.2.length ≤ 1000000 := fun r hr => by
  simp only [List.mem_cons, List.not_mem_nil, or_false] at hr
  rcases hr with rfl | rfl | rfl | rfl | rfl | rfl <;> assumption
theorem rem_nat {n d : Int} (hn : 0 ≤ n) (hd : 0 < d) : ∃ i : Nat, n % d = i ∧ (i : Int) < d := ⟨(n % d).toNat, by rw [Int.toNat_of_nonneg (Int.emod_nonneg _ (by omega))], by rw [Int.toNat_of_nonneg (Int.emod_nonneg _ (by omega))]; exact Int.emod_lt_of_pos _ hd⟩
theorem enc_ge {p : Pk} : 1 ≤ (encL p).length := by unfold encL; simp
theorem set_sl {w W : World} {A : Option Addr} {c ix jx : Nat} {l : List UInt8} {r : Int} (F : Fresh w W 5 1 A l.length c ((l.map u8).set jx (.int .u8 r))) (hj : jx = ix) (hr : 0 ≤ r ∧ r < 256) : Sl W A (l.set ix (b8 r)).length 1 ((l.set ix (b8 r)).map u8) := by
  subst hj
  have h := F.sl
  rw [List.length_set, List.map_set, u8_of hr]
  exact h
set_option maxRecDepth 100000 in
set_option maxHeartbeats 4000000 in
theorem reads_walk (raw : List UInt8) (A0 : Option Addr) (c0_ : Nat) (k a0_ b c : Int) (x : List UInt8) (A : Option Addr) (cx : Nat) (at_ v how : Int) (w : World) (hT : Tabs w) (SR : Sl w A0 raw.length 1 (raw.map u8)) (hcR : raw.length ≤ c0_) (SX : Sl w A x.length 1 (x.map u8)) (hk : 0 ≤ k ∧ k < 256) (ha0_ : 0 ≤ a0_ ∧ a0_ < 256) (hb : 0 ≤ b ∧ b < 256) (hc : 0 ≤ c ∧ c < 256) (hv : 0 ≤ v ∧ v < 256) (hhow : 0 ≤ how ∧ how < 256) (hat : 0 ≤ at_ ∧ at_ < 65536) : Calls Tryd.prog 4 #[.slice A0 raw.length c0_, .int .u8 k, .int .u8 a0_, .int .u8 b, .int .u8 c, .slice A x.length cx, .int .u16 at_, .int .u8 v, .int .u8 how] w (fun e w' => Kept [] w w' ∧ e = .returned (.bool true)) := by
 have HK : Kept [] w w := Kept.refl [] w
 refine C.enter Tryd.func4 rfl Tryd.ntmps4 rfl ?_
 intro a0 f0
 have f1 : Fr 141 a0 [(0, .slice A0 raw.length c0_), (1, .int .u8 k), (2, .int .u8 a0_), (3, .int .u8 b), (4, .int .u8 c), (5, .slice A x.length cx), (6, .int .u16 at_), (7, .int .u8 v), (8, .int .u8 how)] := f0
 refine wp_seq_k fun K0 hK0 => C.region ?_
 refine L.ag f1 fun a2 f2 => ?_
 refine wpList_nil (hK0 _ _ ?_)
 have f3 := f2.sub (sc 0 (sc 1 (sc 2 (sc 3 (sc 4 (sc 5 (sc 6 (sc 7 (sc 8 sn)))))))))
 refine wp_seq_k fun K1 hK1 => ?_
 refine wp_seq_k fun K2 hK2 => C.region ?_
 refine L.cl f3 (run_call Tryd.call13 (args0 f3)) (known_any _ (hT.old (HK.below (by simp) (Nat.le_refl _)))) ?_
 clear f0 f1 a0 f2
 rintro e w1 ⟨kc1, rfl⟩
 refine ⟨_, rfl, fun a4 f4 => ?_⟩
 have szw1 := kc1.size
 replace HK := HK.trans kc1 (by simp)
 clear f3 a2 kc1
 refine L.va f4 (E.not f4 rfl) fun a5 f5 => ?_
 refine wpList_nil (hK2 _ _ ?_)
 have f6 := f5.sub (sc 0 (sc 1 (sc 2 (sc 3 (sc 4 (sc 5 (sc 6 (sc 7 (sc 8 (sc 31 sn))))))))))
 refine C.condF f6 rfl ?_
 refine wp_skip (hK1 _ _ ?_)
 have f7 := f6.sub (sc 0 (sc 1 (sc 2 (sc 3 (sc 4 (sc 5 (sc 6 (sc 7 (sc 8 sn)))))))))
 refine wp_seq_k fun K3 hK3 => ?_
 refine wp_seq_k fun K4 hK4 => C.region ?_
 refine L.mv f7 fun a8 f8 => ?_
 refine L.va f8 (E.lenL f8 U22 rfl) fun a9 f9 => ?_
 refine L.va f9 (E.gtr f9 rfl rfl) fun a10 f10 => ?_
 refine L.mv f10 fun a11 f11 => ?_
 clear f4 a4 f5 f6 f7 a5 f8 a8 f9 a9 f10 a10
 refine f11.splitD 35 rfl (fun h0 f12 => ?_) (fun h0 f12 => ?_)
 ·refine L.run f12 (rest' := []) (by kernel_rfl) fun a13 f13 => ?_
  clear f11
  skip
  refine wpList_nil (hK4 _ _ ?_)
  have f14 := f13.sub (sub_cons (i := 0) (Fr.kept f13 (by kernel_rfl) rfl) (sub_cons (i := 1) (Fr.kept f13 (by kernel_rfl) rfl) (sub_cons (i := 2) (Fr.kept f13 (by kernel_rfl) rfl) (sub_cons (i := 3) (Fr.kept f13 (by kernel_rfl) rfl) (sub_cons (i := 4) (Fr.kept f13 (by kernel_rfl) rfl) (sub_cons (i := 5) (Fr.kept f13 (by kernel_rfl) rfl) (sub_cons (i := 6) (Fr.kept f13 (by kernel_rfl) rfl) (sub_cons (i := 7) (Fr.kept f13 (by kernel_rfl) rfl) (sub_cons (i := 8) (Fr.kept f13 (by kernel_rfl) rfl) (sub_cons (i := 39) (v := .bool true) (by kernel_rfl) sn))))))))))
  refine C.condT f14 rfl ?_
  refine wp_seq_k fun K5 hK5 => C.region ?_
  refine L.ag f14 fun a15 f15 => ?_
  refine wpList_nil (hK5 _ _ ?_)
  have f16 := f15.sub (sc 18 sn)
  refine wp_ret ?_
  try simp only [Exit.inBlock, Exit.then]
  refine C.ret (P := Tryd.prog) (fn := Tryd.f4) f16 rfl rfl ?_
  exact ⟨HK, rfl⟩
 refine L.mv f12 (hw := (f12.yes rfl rfl)) fun a13 f13 => ?_
 refine L.va f13 (E.lenL f13 U22 rfl) (hw := (f13.yes rfl rfl)) fun a14 f14 => ?_
 refine L.va f14 (E.gtr f14 rfl rfl) (hw := (f14.yes rfl rfl)) fun a15 f15 => ?_
 refine L.va f15 (E.pickF f15 rfl rfl) fun a16 f16 => ?_
 refine wpList_nil (hK4 _ _ ?_)
 have f17 := f16.sub (sc 0 (sc 1 (sc 2 (sc 3 (sc 4 (sc 5 (sc 6 (sc 7 (sc 8 (sc 39 sn))))))))))
 clear f11 f12 a11 f13 a13 f14 a14 f15 a15 f16
 refine f17.splitD 39 rfl (fun h1 f18 => ?_) (fun h1 f18 => ?_)
 ·refine C.condT f18 rfl ?_
  refine wp_seq_k fun K6 hK6 => C.region ?_
  refine L.ag f18 fun a19 f19 => ?_
  refine wpList_nil (hK6 _ _ ?_)
  have f20 := f19.sub (sc 18 sn)
  refine wp_ret ?_
  try simp only [Exit.inBlock, Exit.then]
  refine C.ret (P := Tryd.prog) (fn := Tryd.f4) f20 rfl rfl ?_
  exact ⟨HK, rfl⟩
 obtain ⟨rP, lP⟩ := seat_right (k := k) (a := a0_) (b := b) (c := c) (x := x) hk.1 ha0_.1 hb.1 hc.1 (by omega)
 have eP := enc_le rP
 have e2 := enc_ge (p := seatP k a0_ b c x)
 refine C.condF f18 rfl ?_
 refine wp_skip (hK3 _ _ ?_)
 have f19 := f18.sub (sc 0 (sc 1 (sc 2 (sc 3 (sc 4 (sc 5 (sc 6 (sc 7 (sc 8 sn)))))))))
 refine wp_seq_k fun K7 hK7 => C.region ?_
 refine L.mv f19 fun a20 f20 => ?_
 refine L.mv f20 fun a21 f21 => ?_
 refine L.mv f21 fun a22 f22 => ?_
 refine L.mv f22 fun a23 f23 => ?_
 refine L.mv f23 fun a24 f24 => ?_
 refine L.cl f24 (run_call Tryd.call15 (args5 f24 rfl rfl rfl rfl rfl)) (seat_any k a0_ b c x A cx _ (SX.kept HK) hk ha0_ hb hc) ?_
 clear f17 f18 f19 a16 f20 a20 f21 a21 f22 a22 f23 a23
 rintro e w2 ⟨sP, rfl, kc2, IP⟩
 refine ⟨_, rfl, fun a25 f25 => ?_⟩
 have szw2 := kc2.size
 replace HK := HK.trans kc2 (by simp)
 clear f24 a24 kc2
 have hC := sbytes_any (seatP k a0_ b c x) sP w2 IP lP (hT.old (HK.below (by simp) (Nat.le_refl _)))
 rw [putB_t (rightB_iff.2 rP)] at hC
 dsimp only at hC
 refine L.cl f25 (run_call Tryd.call24 (args1 f25 rfl)) hC ?_
 rintro e w3 ⟨kc3, AF, cF, rfl, F5⟩
 have szk := HK.size
 replace F5 := FB.lower F5 szk
 refine ⟨_, rfl, fun a26 f26 => ?_⟩
 have szw3 := kc3.size
 replace HK := HK.trans kc3 (by simp)
 replace IP := IP.kept kc3
 clear f25 a25 kc3
 refine L.ag f26 fun a27 f27 => ?_
 refine wpList_nil (hK7 _ _ ?_)
 have f28 := f27.sub (sc 0 (sc 2 (sc 3 (sc 6 (sc 7 (sc 8 (sc 19 sn)))))))
 refine wp_seq_k fun K8 hK8 => ?_
 have HK0 := HK
 obtain ⟨W6, hW6⟩ : ∃ W6, W6 = w3 := ⟨_, rfl⟩
 have HK0' := HK0
 have SI : Sl w3 AF (encL (seatP k a0_ b c x)).length 1 ((encL (seatP k a0_ b c x)).map u8) := F5.sl
 have hcF := own_cap F5.own
 replace HK : Kept [] w3 w3 := Kept.refl [] _
 clear f26 a26 f27 hW6
 refine C.region ?_
 refine L.mv f28 fun a29 f29 => ?_
 refine L.append f29 wantedN (by decide) U22 wzib5_xl rfl rfl rfl rfl (Own.nil _ _ _) (SI.kept HK) (u8_one) (by unfold maxLen; omega) (by omega) fun a30 w4 AM cM AP4 f30 => ?_
 have kap4 : Kept [] w3 w4 := by simpa [Value.ownBlock] using AP4.kept
 have FQ : FB w3 w4 AM cM (encL (seatP k a0_ b c x)) := by have h := AP4.next (Fresh.nil w3 w3 _ _) (by omega); simpa only [FB, Nat.zero_add, List.nil_append] using h
 simp only [Nat.zero_add] at f30
 have szw4 := kap4.size
 replace HK := HK.trans kap4 (by simp)
 clear f28 a27 f29 a29 kap4
 refine L.ag f30 fun a31 f31 => ?_
 refine wpList_nil (hK8 _ _ ?_)
 have f32 := f31.sub (sc 0 (sc 2 (sc 3 (sc 6 (sc 7 (sc 8 (sc 19 (sc 20 sn))))))))
 obtain ⟨J16, hJ16⟩ : ∃ J : Act → World → Prop, J = fun a W => ∃ (lq : List UInt8) (Aq : Option Addr) (cq : Nat), Kept [] w3 W ∧ Sl W Aq lq.length 1 (lq.map u8) ∧ lq.length ≤ cq ∧ lq.length ≤ 10000 ∧ Fr 141 a [(0, .slice A0 raw.length c0_), (2, .int .u8 a0_), (3, .int .u8 b), (7, .int .u8 v), (19, .slice AF (encL (seatP k a0_ b c x)).length cF), (20, .slice Aq lq.length cq)] := ⟨_, rfl⟩
 clear f30 a30 f31
 refine C.cut J16 ?_ ?_
 ·skip
  refine wp_seq_k fun K9 hK9 => C.region ?_
  refine L.mv f32 fun a33 f33 => ?_
  refine L.va f33 (E.rem f33 rfl rfl (by omega) (Int.tmod_eq_emod_of_nonneg (by omega))) fun a34 f34 => ?_
  refine wpList_nil (hK9 _ _ ?_)
  have f35 := f34.sub (sc 0 (sc 2 (sc 3 (sc 6 (sc 7 (sc 19 (sc 20 (sc 50 sn))))))))
  refine wp_block ?_
  refine wp_seq_k fun K10 hK10 => C.region ?_
  refine L.va f35 (E.eq f35) fun a36 f36 => ?_
  refine L.ag f36 fun a37 f37 => ?_
  refine wpList_nil (hK10 _ _ ?_)
  have f38 := f37.sub (sc 0 (sc 2 (sc 3 (sc 6 (sc 7 (sc 19 (sc 20 (sc 50 (sc 54 sn)))))))))
  clear f32 a31 f33 a33 f34 f35 a34 f36 a36 f37
  refine f38.splitD 54 rfl (fun h2 f39 => ?_) (fun h2 f39 => ?_)
  ·refine C.condT f39 rfl ?_
   obtain ⟨bq, oq, rfl⟩ := FQ.sl.addr (by omega)
   have FQo := FQ.own
   refine C.region ?_
   refine L.mv f39 fun a40 f40 => ?_
   refine L.mv f40 fun a41 f41 => ?_
   refine L.va f41 (E.conv f41 U43 U3 rfl (IntWalk.i64_in _ (by omega))) fun a42 f42 => ?_
   refine L.mv f42 fun a43 f43 => ?_
   refine L.va f43 (E.lenL f43 U22 rfl) fun a44 f44 => ?_
   refine L.va f44 (E.rem f44 rfl rfl (by omega) (Int.tmod_eq_emod_of_nonneg (by omega))) fun a45 f45 => ?_
   obtain ⟨ix, hix, hixl⟩ := rem_nat (n := at_) (d := ((encL (seatP k a0_ b c x)).length : Int)) hat.1 (by omega)
   have f46 := f45.as (i := 61) (v' := .int .i64 (ix : Int)) rfl (by rw [hix])
   clear f38 f39 a37 f40 a40 f41 a41 f42 a42 f43 a43 f44 a44 f45
   obtain ⟨e, he⟩ : ∃ e, (encL (seatP k a0_ b c x))[ix]? = some e := ⟨_, List.getElem?_eq_getElem (by omega)⟩
   refine L.va f46 (E.indexA f46 (by rfl) U22 wsz5_xl rfl rfl (by omega) (by omega)) fun a47 f47 => ?_
   refine L.va f47 (by exact E.load f47 U5 rfl rfl (ix_cell FQ.sl he)) fun a48 f48 => ?_
   refine L.mv f48 fun a49 f49 => ?_
   refine L.va f49 (E.xor f49 rfl rfl rfl) fun a50 f50 => ?_
   refine L.va f50 (E.indexA f50 (by rfl) U22 wsz5_xl rfl rfl (by omega) (by omega)) fun a51 f51 => ?_
   refine L.storeF f51 wantedN wsz5_xl rfl FQ (j := (ix : Int).toNat * 1) rfl (by rw [List.length_map]; omega) rfl rfl fun a52 w5 f52 FS ks loS => ?_
   have szw5 := ks.size
   replace HK := HK.nn ks loS
   clear f46 a45 f47 a47 f48 a48 f49 a49 f50 a50 f51 a51 ks FQ
   exact wpList_nil (then_of (J := J16) (Q := fun _ _ _ => True) (by rw [hJ16]; exact ⟨(encL (seatP k a0_ b c x)).set ix (b8 (bits .xor .u8 ((e.toNat : Nat) : Int) v)), _, cM, HK, set_sl FS (by simp) (bd_xor _ _), by rw [List.length_set]; exact own_cap FQo, by rw [List.length_set]; omega, f52.sub (sub_cons rfl (sub_cons rfl (sub_cons rfl (sub_cons rfl (sub_cons rfl (sub_cons (by rw [List.length_set]; rfl) sn))))))⟩))
  refine C.condF f39 rfl ?_
  refine wp_seq_k fun K11 hK11 => C.region ?_
  refine L.va f39 (E.eq f39) fun a40 f40 => ?_
  refine L.ag f40 fun a41 f41 => ?_
  refine wpList_nil (hK11 _ _ ?_)
  have f42 := f41.sub (sc 0 (sc 2 (sc 3 (sc 6 (sc 7 (sc 19 (sc 20 (sc 50 (sc 67 sn)))))))))
  clear f38 f39 a37 f40 a40 f41
  refine f42.splitD 67 rfl (fun h3 f43 => ?_) (fun h3 f43 => ?_)
  ·refine C.condT f43 rfl ?_
   have hcM := own_cap FQ.own
   refine C.region ?_
   refine L.mv f43 fun a44 f44 => ?_
   refine L.mv f44 fun a45 f45 => ?_
   refine L.va f45 (E.conv f45 U43 U3 rfl (IntWalk.i64_in _ (by omega))) fun a46 f46 => ?_
   refine L.mv f46 fun a47 f47 => ?_
   refine L.va f47 (E.lenL f47 U22 rfl) fun a48 f48 => ?_
   refine L.va f48 (E.rem f48 rfl rfl (by omega) (Int.tmod_eq_emod_of_nonneg (by omega))) fun a49 f49 => ?_
   obtain ⟨ix, hix, hixl⟩ := rem_nat (n := at_) (d := ((encL (seatP k a0_ b c x)).length : Int)) hat.1 (by omega)
   have f50 := f49.as (i := 74) (v' := .int .i64 (ix : Int)) rfl (by rw [hix])
   clear f42 f43 a41 f44 a44 f45 a45 f46 a46 f47 a47 f48 a48 f49
   obtain ⟨e, he⟩ : ∃ e, (encL (seatP k a0_ b c x))[ix]? = some e := ⟨_, List.getElem?_eq_getElem (by omega)⟩
   refine L.va f50 (E.slLhi f50 U22 wsz5_xl rfl rfl (by omega) (by omega)) fun a51 f51 => ?_
   obtain ⟨A2, c2, hv_, SA2, hcA2⟩ := cut_hi (k := ix) (hi := (ix : Int)) FQ.sl (Kept.refl [] _) (own_cap FQ.own) rfl (by omega)
   have f52 := f51.as (i := 75) (v' := .slice A2 ((encL (seatP k a0_ b c x)).take ix).length c2) rfl hv_
   clear f50 a49 f51 hv_
   refine L.ag f52 fun a53 f53 => ?_
   exact wpList_nil (then_of (J := J16) (Q := fun _ _ _ => True) (by rw [hJ16]; exact ⟨(encL (seatP k a0_ b c x)).take ix, A2, c2, HK, SA2.toSl, hcA2, by rw [List.length_take]; omega, f53.sub (sub_cons rfl (sub_cons rfl (sub_cons rfl (sub_cons rfl (sub_cons rfl (sub_cons rfl sn))))))⟩))
  refine C.condF f43 rfl ?_
  refine wp_seq_k fun K12 hK12 => C.region ?_
  refine L.va f43 (E.eq f43) fun a44 f44 => ?_
  refine L.ag f44 fun a45 f45 => ?_
  refine wpList_nil (hK12 _ _ ?_)
  have f46 := f45.sub (sc 0 (sc 2 (sc 3 (sc 6 (sc 7 (sc 19 (sc 20 (sc 76 sn))))))))
  clear f42 f43 a41 f44 a44 f45
  refine f46.splitD 76 rfl (fun h4 f47 => ?_) (fun h4 f47 => ?_)
  ·refine C.condT f47 rfl ?_
   refine wp_seq_k fun K13 hK13 => C.region ?_
   refine L.mv f47 fun a48 f48 => ?_
   refine L.va f48 (E.conv f48 U43 U3 rfl (IntWalk.i64_in _ (by omega))) fun a49 f49 => ?_
   refine L.mv f49 fun a50 f50 => ?_
   refine L.va f50 (E.lenL f50 U22 rfl) fun a51 f51 => ?_
   refine L.va f51 (E.add f51 rfl rfl (IntWalk.i64_in _ (by omega))) fun a52 f52 => ?_
   refine L.va f52 (E.rem f52 rfl rfl (by omega) (Int.tmod_eq_emod_of_nonneg (by omega))) fun a53 f53 => ?_
   obtain ⟨ix, hix, hixl⟩ := rem_nat (n := at_) (d := ((encL (seatP k a0_ b c x)).length : Int) + 1) hat.1 (by omega)
   have f54 := f53.as (i := 83) (v' := .int .i64 (ix : Int)) rfl (by rw [hix])
   clear f46 f47 a45 f48 a48 f49 a49 f50 a50 f51 a51 f52 a52 f53
   refine L.ag f54 fun a55 f55 => ?_
   refine wpList_nil (hK13 _ _ ?_)
   have f56 := f55.sub (sc 0 (sc 2 (sc 3 (sc 7 (sc 19 (sc 20 (sc 21 sn)))))))
   have HKq := HK
   have SQ0 := FQ.sl
   have hcQ := own_cap FQ.own
   replace HK : Kept [] w4 w4 := Kept.refl [] _
   have FZ := FB.nil w4 w4
   have hd15 : Kept [] w4 (w4.drewN 1) := (Kept.refl _ _).drewN 1
   refine R.beginT (S := fun _ => True) (by kernel_rfl) (by kernel_rfl) trivial fun ht => ?_
   obtain ⟨w5, hww5⟩ : ∃ W, W = w4.drewN 1 := ⟨_, rfl⟩
   rw [← hww5] at hd15 ⊢
   clear f54 a53 f55 hww5
   have szw5 := hd15.size
   replace HK := HK.trans hd15 (by simp)
   replace FZ := FZ.kept0 hd15
   clear hd15
   refine R.u 0 f56 rfl ht trivial (fun W hW => (E.move f56 rfl)) fun a57 f57 => ?_
   refine R.u 1 f57 rfl ht trivial (fun W hW => (E.move f57 rfl)) fun a58 f58 => ?_
   refine R.u 2 f58 rfl ht trivial (fun W hW => (E.slLhi f58 U22 wsz5_xl rfl rfl (by omega) (by omega) )) fun a59 f59 => ?_
   refine R.u 4 f59 rfl ht trivial (fun W hW => (E.move f59 rfl)) fun a60 f60 => ?_
   refine R.u 7 f60 rfl ht trivial (fun W hW => (E.move f60 rfl)) fun a61 f61 => ?_
   refine R.u 8 f61 rfl ht trivial (fun W hW => (E.move f61 rfl)) fun a62 f62 => ?_
   refine R.u 9 f62 rfl ht trivial (fun W hW => (E.slLlo f62 U22 wsz5_xl rfl rfl (by omega) (by omega) )) fun a63 f63 => ?_
   clear f56 a55 f57 a57 f58 a58 f59 a59 f60 a60 f61 a61 f62 a62
   refine R.two 3 5 (by kernel_rfl) ?_ ?_
   ·skip
    refine O.append f63 rfl wantedN (by decide) U22 wzib5_xl rfl rfl rfl rfl (Own.nil _ _ _) ((hi_sl SQ0 (by omega)).kept HK) u8_one (by simp [maxLen]; omega) (by simp; omega) fun a64 w6 A6 c6 AP => ?_
    have kapn : Kept [] w5 w6 := by simpa [Value.ownBlock] using AP.kept
    have szw6 := kapn.size
    have hix2 : (ix : Int).toNat = ((encL (seatP k a0_ b c x)).take ix).length := by rw [List.length_take]; omega
    have FN6 : FB w4 w6 A6 c6 ((encL (seatP k a0_ b c x)).take ix) := by have h := AP.next (Fresh.nil w4 _ _ _) HK.size; rw [Nat.zero_add, List.nil_append, hix2] at h; exact h
    replace HK := HK.trans kapn (by simp)
    refine ⟨trivial, fun f64 => ?_⟩
    clear f63 kapn AP
    have f65 := f64.as (i := 87) (v' := .slice A6 ((encL (seatP k a0_ b c x)).take ix).length c6) rfl (by rw [Nat.zero_add, hix2])
    clear f64 hix2
    refine R.one 5 (by kernel_rfl) ?_
    refine O.buildSlice f65 rfl wantedN (by decide) (parts1 f65 rfl) U22 wzi5_xl rfl rfl (wbs22_1_xl _) (fun _ _ => trivial) fun a66 w7 g6 N6 hSn f66 => ?_
    clear hSn
    have Bg6 := N6.blk
    have kg6 := N6.kept
    have log6 := N6.lo
    have ltg6 := Bg6.lt
    have szw7 := kg6.size
    have frg6 : w4.heap.size ≤ g6 := Nat.le_trans HK.size log6
    replace HK := HK.trans kg6 (by simp)
    replace FN6 := FN6.kept0 kg6
    clear N6 kg6
    refine R.one 6 (by kernel_rfl) ?_
    refine O.append f66 rfl wantedN (by decide) U22 wzib5_xl rfl rfl rfl rfl FN6.own (Bg6.slN (size := 1) rfl) (by intro u hu; simp at hu; subst hu; rfl) (by (simp [maxLen]; omega)) (by (simp [maxLen]; omega)) fun a67 w8 A8 c8 AP8 => ?_
    have FN8 := AP8.nextB FN6 HK.size ([b8 v]) ((by simp [u8_of hv])) (rfl)
    have kap8 := AP8.kept
    have szw8 := kap8.size
    replace HK := FN6.rel HK kap8
    refine ⟨trivial, fun f67 => ?_⟩
    clear f65 a64 f66 a66 kap8 AP8 FN6
    have f68 := f67.as (i := 90) rfl (sl_lenF FN8 (rfl))
    refine R.one 10 (by kernel_rfl) ?_
    refine O.append f68 rfl wantedN (by decide) U22 wzib5_xl rfl rfl rfl rfl FN8.own ((lo_sl SQ0 hcQ (by omega)).kept HK) (u8_one) (by (simp [maxLen]; omega)) (by (simp [maxLen]; omega)) fun a69 w9 A9 c9 AP9 => ?_
    have FN9 := AP9.nextB FN8 HK.size ((encL (seatP k a0_ b c x)).drop ix) (rfl) ((by rw [List.length_drop]; omega))
    have kap9 := AP9.kept
    have szw9 := kap9.size
    replace HK := FN8.rel HK kap9
    refine ⟨trivial, fun f69 => ?_⟩
    clear f67 f68 a67 kap9 AP9 FN8
    have f70 := f69.as (i := 94) rfl (sl_lenF FN9 ((by rw [List.length_drop]; omega)))
    refine R.u 11 f70 rfl ht trivial (fun W hW => (E.assign f70 rfl)) fun a71 f71 => ?_
    exact R.done (by kernel_rfl) (then_of (J := J16) (Q := fun _ _ _ => True) (by rw [hJ16]; exact ⟨_, _, _, HKq.trans HK (by simp), FN9.sl, own_cap FN9.own, by simp; omega, f71.sub (sub_cons rfl (sub_cons rfl (sub_cons rfl (sub_cons rfl (sub_cons rfl (sub_cons rfl sn))))))⟩))
   skip
   refine O.buildSlice f63 rfl wantedN (by decide) (parts1 f63 rfl) U22 wzi5_xl rfl rfl (wbs22_1_xl _) (fun _ _ => trivial) fun a64 w6 g5 N5 hSn f64 => ?_
   clear hSn
   have Bg5 := N5.blk
   have kg5 := N5.kept
   have log5 := N5.lo
   have ltg5 := Bg5.lt
   have szw6 := kg5.size
   have frg5 : w4.heap.size ≤ g5 := Nat.le_trans HK.size log5
   replace HK := HK.trans kg5 (by simp)
   replace FZ := FZ.kept0 kg5
   clear N5 kg5
   refine R.one 3 (by kernel_rfl) ?_
   refine O.append f64 rfl wantedN (by decide) U22 wzib5_xl rfl rfl rfl rfl (Own.nil _ _ _) ((hi_sl SQ0 (by omega)).kept HK) u8_one (by simp [maxLen]; omega) (by simp; omega) fun a65 w7 A7 c7 AP => ?_
   have kapn : Kept [] w6 w7 := by simpa [Value.ownBlock] using AP.kept
   have szw7 := kapn.size
   have hix2 : (ix : Int).toNat = ((encL (seatP k a0_ b c x)).take ix).length := by rw [List.length_take]; omega
   have FN7 : FB w4 w7 A7 c7 ((encL (seatP k a0_ b c x)).take ix) := by have h := AP.next (Fresh.nil w4 _ _ _) HK.size; rw [Nat.zero_add, List.nil_append, hix2] at h; exact h
   replace HK := HK.trans kapn (by simp)
   replace Bg5 := Bg5.kept kapn (by simp)
   refine ⟨trivial, fun f65 => ?_⟩
   clear f63 a63 f64 kapn AP
   have f66 := f65.as (i := 87) (v' := .slice A7 ((encL (seatP k a0_ b c x)).take ix).length c7) rfl (by rw [Nat.zero_add, hix2])
   clear f65 hix2
   refine R.one 6 (by kernel_rfl) ?_
   refine O.append f66 rfl wantedN (by decide) U22 wzib5_xl rfl rfl rfl rfl FN7.own (Bg5.slN (size := 1) rfl) (by intro u hu; simp at hu; subst hu; rfl) (by (simp [maxLen]; omega)) (by (simp [maxLen]; omega)) fun a67 w8 A8 c8 AP8 => ?_
   have FN8 := AP8.nextB FN7 HK.size ([b8 v]) ((by simp [u8_of hv])) (rfl)
   have kap8 := AP8.kept
   have szw8 := kap8.size
   replace HK := FN7.rel HK kap8
   refine ⟨trivial, fun f67 => ?_⟩
   clear f66 a65 kap8 AP8 FN7
   have f68 := f67.as (i := 90) rfl (sl_lenF FN8 (rfl))
   refine R.one 10 (by kernel_rfl) ?_
   refine O.append f68 rfl wantedN (by decide) U22 wzib5_xl rfl rfl rfl rfl FN8.own ((lo_sl SQ0 hcQ (by omega)).kept HK) (u8_one) (by (simp [maxLen]; omega)) (by (simp [maxLen]; omega)) fun a69 w9 A9 c9 AP9 => ?_
   have FN9 := AP9.nextB FN8 HK.size ((encL (seatP k a0_ b c x)).drop ix) (rfl) ((by rw [List.length_drop]; omega))
   have kap9 := AP9.kept
   have szw9 := kap9.size
   replace HK := FN8.rel HK kap9
   refine ⟨trivial, fun f69 => ?_⟩
   clear f67 f68 a67 kap9 AP9 FN8
   have f70 := f69.as (i := 94) rfl (sl_lenF FN9 ((by rw [List.length_drop]; omega)))
   refine R.u 11 f70 rfl ht trivial (fun W hW => (E.assign f70 rfl)) fun a71 f71 => ?_
   exact R.done (by kernel_rfl) (then_of (J := J16) (Q := fun _ _ _ => True) (by rw [hJ16]; exact ⟨_, _, _, HKq.trans HK (by simp), FN9.sl, own_cap FN9.own, by simp; omega, f71.sub (sub_cons rfl (sub_cons rfl (sub_cons rfl (sub_cons rfl (sub_cons rfl (sub_cons rfl sn))))))⟩))
  refine C.condF f47 rfl ?_
  obtain ⟨bq, oq, rfl⟩ := FQ.sl.addr (by omega)
  have FQo := FQ.own
  refine C.region ?_
  refine L.mv f47 fun a48 f48 => ?_
  refine L.mv f48 fun a49 f49 => ?_
  refine L.va f49 (E.indexA f49 (by rfl) U22 wsz5_xl rfl rfl (by omega) (by omega)) fun a50 f50 => ?_
  refine L.storeF f50 wantedN wsz5_xl rfl FQ (j := (0 : Int).toNat * 1) rfl (by rw [List.length_map]; omega) rfl rfl fun a51 w5 f51 FS ks loS => ?_
  have szw5 := ks.size
  replace HK := HK.nn ks loS
  clear f46 f47 a45 f48 a48 f49 a49 f50 a50 ks FQ
  exact wpList_nil (then_of (J := J16) (Q := fun _ _ _ => True) (by rw [hJ16]; exact ⟨(encL (seatP k a0_ b c x)).set 0 (b8 v), _, cM, HK, set_sl FS rfl hv, by rw [List.length_set]; exact own_cap FQo, by rw [List.length_set]; omega, f51.sub (sub_cons rfl (sub_cons rfl (sub_cons rfl (sub_cons rfl (sub_cons rfl (sub_cons (by rw [List.length_set]; rfl) sn))))))⟩))
 intro a33 w5 hj
 rw [hJ16] at hj
 clear hJ16 J16
 obtain ⟨lq, Aq, cq, HK, SQ, hcq, hlq, f33⟩ := hj
 try clear f32
 have SI1 := SI.kept HK
 have SR1 := (SR.kept HK0).kept HK
 have HKn := HK0.trans HK (by simp)
 clear HK
 have HK := HKn
 clear HKn
 refine wp_seq_k fun K14 hK14 => ?_
 obtain ⟨J17, hJ17⟩ : ∃ J : Act → World → Prop, J = fun a W => ∃ (R : List (Option Addr × Nat × List UInt8)) (AR : Option Addr) (cR : Nat), R.length ≤ 6 ∧ Sl W AR R.length 1 (R.map fun r => Value.slice r.1 r.2.2.length r.2.1) ∧ (∀ r ∈ R, Sl W r.1 r.2.2.length 1 (r.2.2.map u8) ∧ r.2.2.length ≤ r.2.1 ∧ r.2.2.length ≤ 1000000) ∧ Kept [] w W ∧ Fr 141 a [(108, .slice AR R.length cR), (109, .int .i64 R.length), (110, .int .i64 0)] := ⟨_, rfl⟩
 refine C.cut J17 ?_ ?_
 ·skip
  refine C.region ?_
  refine L.mv f33 fun a34 f34 => ?_
  refine L.mv f34 fun a35 f35 => ?_
  refine L.mv f35 fun a36 f36 => ?_
  refine L.mv f36 fun a37 f37 => ?_
  refine L.buildSlice f37 wantedN (by decide) (parts2 f37 rfl rfl) U22 wzi5_xl rfl rfl (wbs22_2_xl _ _) fun a38 w6 g5 N5 f38 => ?_
  have Bg5 := N5.blk
  have kg5 := N5.kept
  have log5 := N5.lo
  have ltg5 := Bg5.lt
  have szw6 := kg5.size
  have frg5 : w.heap.size ≤ g5 := Nat.le_trans HK.size log5
  have FXg5_SQ := fun hn => sl_far SQ log5 hn
  have FXg5_SI1 := fun hn => sl_far SI1 log5 hn
  have FXg5_SR1 := fun hn => sl_far SR1 log5 hn
  replace HK := HK.trans kg5 (by simp)
  replace SQ := SQ.kept kg5
  replace SI1 := SI1.kept kg5
  replace SR1 := SR1.kept kg5
  clear f33 a33 f34 a34 f35 a35 f36 a36 N5 kg5
  refine L.mv f38 fun a39 f39 => ?_
  refine L.mv f39 fun a40 f40 => ?_
  refine L.mv f40 fun a41 f41 => ?_
  refine L.buildSlice f41 wantedN (by decide) (parts4 f41 rfl rfl rfl rfl) U22 wzi5_xl rfl rfl (wbs22_4_xl _ _ _ _) fun a42 w7 g6 N6 f42 => ?_
  have Bg6 := N6.blk
  have kg6 := N6.kept
  have log6 := N6.lo
  have ltg6 := Bg6.lt
  have szw7 := kg6.size
  have frg6 : w.heap.size ≤ g6 := Nat.le_trans HK.size log6
  have neg5_g6 : g5 ≠ g6 := by have := Bg5.lt; omega
  have FXg6_SQ := fun hn => sl_far SQ log6 hn
  have FXg6_SI1 := fun hn => sl_far SI1 log6 hn
  have FXg6_SR1 := fun hn => sl_far SR1 log6 hn
  replace HK := HK.trans kg6 (by simp)
  replace SQ := SQ.kept kg6
  replace SI1 := SI1.kept kg6
  replace SR1 := SR1.kept kg6
  replace Bg5 := Bg5.kept kg6 (by simp)
  clear f37 a37 f38 a38 f39 a39 f40 a40 N6 kg6
  refine L.mv f42 fun a43 f43 => ?_
  refine L.buildSlice f43 wantedN (by decide) (parts1 f43 rfl) U22 wzi5_xl rfl rfl (wbs22_1_xl _) fun a44 w8 g7 N7 f44 => ?_
  have OW := N7.own (k := 1) (size := 1) rfl (by decide)
  have Bg7 := N7.blk
  have kg7 := N7.kept
  have log7 := N7.lo
  have ltg7 := Bg7.lt
  have szw8 := kg7.size
  have frg7 : w.heap.size ≤ g7 := Nat.le_trans HK.size log7
  have neg5_g7 : g5 ≠ g7 := by have := Bg5.lt; omega
  have neg6_g7 : g6 ≠ g7 := by have := Bg6.lt; omega
  have FXg7_SQ := fun hn => sl_far SQ log7 hn
  have FXg7_SI1 := fun hn => sl_far SI1 log7 hn
  have FXg7_SR1 := fun hn => sl_far SR1 log7 hn
  replace HK := HK.trans kg7 (by simp)
  replace SQ := SQ.kept kg7
  replace SI1 := SI1.kept kg7
  replace SR1 := SR1.kept kg7
  replace Bg5 := Bg5.kept kg7 (by simp)
  replace Bg6 := Bg6.kept kg7 (by simp)
  clear f41 a41 f42 a42 N7 kg7
  refine L.mv f44 fun a45 f45 => ?_
  refine L.append f45 wantedN (by decide) U22 wzib5_xl rfl rfl rfl rfl (OW) (SR1) (u8_one) (by unfold maxLen; omega) (by omega) fun a46 w9 A6 c6 AP9 f46 => ?_
  have kap9 : Kept [g7] w8 w9 := by simpa [Value.ownBlock] using AP9.kept
  have S6 := Sl.of_own AP9.own
  have hc6 := own_cap AP9.own
  clear f43 a43 f44 a44 f45 a45 OW
  have szw9 := kap9.size
  replace HK := HK.trans kap9 (ktr (by omega))
  replace SQ := sl_keptF SQ kap9 FXg7_SQ
  replace SI1 := sl_keptF SI1 kap9 FXg7_SI1
  replace SR1 := sl_keptF SR1 kap9 FXg7_SR1
  replace Bg5 := Bg5.kept kap9 (by simp; omega)
  replace Bg6 := Bg6.kept kap9 (by simp; omega)
  clear kap9
  refine L.buildSlice f46 wantedN (by decide) (parts6 f46 rfl rfl rfl rfl rfl rfl) U45 wzi22_xl rfl rfl (wbs45_6_xl _ _ _ _ _ _ _ _ _ _ _ _ _ _ _ _ _ _) fun a47 w10 g9 N9 f47 => ?_
  have Bg9 := N9.blk
  have kg9 := N9.kept
  have log9 := N9.lo
  have ltg9 := Bg9.lt
  have szw10 := kg9.size
  have frg9 : w.heap.size ≤ g9 := Nat.le_trans HK.size log9
  have neg5_g9 : g5 ≠ g9 := by have := Bg5.lt; omega
  have neg6_g9 : g6 ≠ g9 := by have := Bg6.lt; omega
  have FXg9_SQ := fun hn => sl_far SQ log9 hn
  have FXg9_SI1 := fun hn => sl_far SI1 log9 hn
  have FXg9_SR1 := fun hn => sl_far SR1 log9 hn
  replace HK := HK.trans kg9 (by simp)
  replace SQ := SQ.kept kg9
  replace SI1 := SI1.kept kg9
  replace SR1 := SR1.kept kg9
  replace Bg5 := Bg5.kept kg9 (by simp)
  replace Bg6 := Bg6.kept kg9 (by simp)
  replace S6 := S6.kept kg9
  clear N9 kg9
  refine L.va f47 (E.lenL f47 U45 rfl) fun a48 f48 => ?_
  refine L.mv f48 fun a49 f49 => ?_
  have SRW : Sl w10 (some ⟨g9, 0, none⟩) ([(A0, c0_, raw), (AF, cF, encL (seatP k a0_ b c x)), (Aq, cq, lq), (some ⟨g5, 0, none⟩, 2, [b8 v, 0]), (some ⟨g6, 0, none⟩, 4, [b8 v, 2, b8 a0_, b8 b]), (A6, c6, b8 v :: raw)] : List (Option Addr × Nat × List UInt8)).length 1 (([(A0, c0_, raw), (AF, cF, encL (seatP k a0_ b c x)), (Aq, cq, lq), (some ⟨g5, 0, none⟩, 2, [b8 v, 0]), (some ⟨g6, 0, none⟩, 4, [b8 v, 2, b8 a0_, b8 b]), (A6, c6, b8 v :: raw)] : List (Option Addr × Nat × List UInt8)).map fun r => Value.slice r.1 r.2.2.length r.2.1) := by have h := Bg9.slN (n := 6) (size := 1) rfl; have hz : (b8 v :: raw).length = 1 + raw.length := (by simp; omega); simp only [List.map_cons, List.map_nil, hz]; exact h
  exact wpList_nil (then_of (J := J17) (Q := fun _ _ _ => True) (by rw [hJ17]; exact ⟨[(A0, c0_, raw), (AF, cF, encL (seatP k a0_ b c x)), (Aq, cq, lq), (some ⟨g5, 0, none⟩, 2, [b8 v, 0]), (some ⟨g6, 0, none⟩, 4, [b8 v, 2, b8 a0_, b8 b]), (A6, c6, b8 v :: raw)], _, _, Nat.le_refl _, SRW, each_six ⟨SR1, hcR, by show raw.length ≤ _; omega⟩ ⟨SI1, hcF, by show (encL (seatP k a0_ b c x)).length ≤ _; omega⟩ ⟨SQ, hcq, by show lq.length ≤ _; omega⟩ (each_lit Bg5 [b8 v, 0] (by simp [u8_of hv, u8_of ha0_, u8_of hb] <;> (rfl)) (by simp) (by simp)) (each_lit Bg6 [b8 v, 2, b8 a0_, b8 b] (by simp [u8_of hv, u8_of ha0_, u8_of hb] <;> (rfl)) (by simp) (by simp)) (each_ap1 S6 hc6 (by omega) hv), HK, f49.sub (sub_cons rfl (sub_cons rfl (sub_cons rfl sn)))⟩))
 intro a34 w6 hj
 rw [hJ17] at hj
 clear hJ17 J17
 obtain ⟨R, AR, cR, hR6, SRW, SE, HK, f34⟩ := hj
 try clear f33
 have HK1 := Kept.refl [] w6
 refine wp_block ?_
 refine C.loop (fun gk a W => ∃ k_ : Nat, k_ + gk = R.length ∧ Kept [] w W ∧ Kept [] w6 W ∧ Fr 141 a [(108, .slice AR R.length cR), (109, .int .i64 R.length), (110, .int .i64 k_)]) (R.length) ?_ ?_
 ·exact ⟨0, by omega, HK, HK1, f34.sub (sub_cons rfl (sub_cons rfl (sub_cons rfl sn)))⟩
 intro gk16 a35 w7 hI KL15 hKL15
 obtain ⟨k_, hk_, HK, HK1, f35⟩ := hI
 try clear f34
 refine wp_seq_k fun K16 hK16 => C.region ?_
 refine L.va f35 (E.lss f35 rfl rfl) fun a36 f36 => ?_
 refine wpList_nil (hK16 _ _ ?_)
 have f37 := f36.sub (sc 108 (sc 109 (sc 110 (sc 111 sn))))
 refine wp_seq_k fun K17 hK17 => ?_
 clear f35 a35 f36
 refine f37.splitD 111 rfl (fun h5 f38 => ?_) (fun h5 f38 => ?_)
 ·obtain ⟨d, hd⟩ := some_at R k_ (by omega)
  obtain ⟨hd1, hd2, hd3⟩ := SE d (List.mem_of_getElem? hd)
  obtain ⟨bk, off, hA⟩ := SRW.addr (by omega)
  have hcell := row_cell SRW hA hd
  refine C.condT f38 rfl ?_
  refine wp_skip (hK17 _ _ ?_)
  have f39 := f38.sub (sc 108 (sc 109 (sc 110 sn)))
  refine wp_seq_k fun K18 hK18 => ?_
  refine wp_block ?_
  refine wp_seq_k fun K19 hK19 => C.region ?_
  refine L.va f39 (E.indexA f39 (by assumption) U45 wsz22_xl rfl rfl (by omega) (by omega)) fun a40 f40 => ?_
  refine L.va f40 (by exact E.load f40 U22 rfl rfl (hcell _ HK1)) fun a41 f41 => ?_
  refine L.ag f41 fun a42 f42 => ?_
  refine wpList_nil (hK19 _ _ ?_)
  have f43 := f42.sub (sc 23 (sc 108 (sc 109 (sc 110 sn))))
  refine wp_seq_k fun K20 hK20 => C.region ?_
  refine L.mv f43 fun a44 f44 => ?_
  refine L.cl f44 (run_call Tryd.call23 (args1 f44 rfl)) (wread_any d.2.2 _ _ _ (hd1.kept HK1) hd2 hd3 (hT.old (HK.below (by simp) (Nat.le_refl _)))) ?_
  clear f37 f38 f39 a36 f40 a40 f41 a41 f42 f43 a42
  rintro e w8 ⟨kc8, hpl, ss, rfl, IN⟩
  refine ⟨_, rfl, fun a45 f45 => ?_⟩
  have szw8 := kc8.size
  replace HK := HK.trans kc8 (by simp)
  replace HK1 := HK1.trans kc8 (by simp)
  clear f44 a44 kc8
  refine L.mv f45 fun a46 f46 => ?_
  refine L.va f46 (E.extract f46 rfl rfl) fun a47 f47 => ?_
  refine L.va f47 (E.extract f47 rfl rfl) fun a48 f48 => ?_
  refine L.va f48 (E.extract f48 rfl rfl) fun a49 f49 => ?_
  refine L.alloc f49 wantedN (by decide) (z := (.agg #[(.int .i64 0), (.bool false), (.bool false), (.int .i64 0), (.int .i64 0), (.string ⟨#[]⟩), (.slice none 0 0), (.int .i64 0), (.string ⟨#[]⟩), (.bool false), (.int .i64 0), (.bool false), (.string ⟨#[]⟩), (.slice none 0 0), (.int .i64 0), (.bool false), (.bool false), (.bool false), (.string ⟨#[]⟩), (.slice none 0 0), (.bool false), (.int .i64 0), (.slice none 0 0), (.slice none 0 0)])) (fun _ => by kernel_rfl) rfl fun a50 w9 g8 N8 f50 => ?_
  have Bg8 := N8.blk
  have kg8 := N8.kept
  have log8 := N8.lo
  have ltg8 := Bg8.lt
  have szw9 := kg8.size
  have frg8 : w.heap.size ≤ g8 := Nat.le_trans HK.size log8
  have frg8_HK1 : w6.heap.size ≤ g8 := Nat.le_trans HK1.size log8
  have FIg8_IN := IN.far log8
  replace HK := HK.trans kg8 (by simp)
  replace HK1 := HK1.trans kg8 (by simp)
  replace IN := IN.kept kg8
  clear f45 a45 f46 a46 f47 a47 f48 a48 N8 kg8
  refine L.storeR f50 wantedN wsz28_xl rfl rfl rfl Bg8 rfl rfl fun a51 w10 f51 NB10 ks10 => ?_
  have szw10 := ks10.size
  replace HK := HK.trans ks10 (ktr (by omega))
  replace HK1 := HK1.trans ks10 (ktr (by omega))
  replace IN := IN.keptF ks10 FIg8_IN
  replace Bg8 := NB10
  clear f49 a49 ks10 f50 a50
  refine L.ag f51 fun a52 f52 => ?_
  refine L.ag f52 fun a53 f53 => ?_
  refine wpList_nil (hK20 _ _ ?_)
  have f54 := f53.sub (sc 23 (sc 24 (sc 25 (sc 26 (sc 108 (sc 109 (sc 110 sn)))))))
  refine wp_seq_k fun K21 hK21 => C.region ?_
  refine L.mv f54 fun a55 f55 => ?_
  refine L.cl f55 (run_call Tryd.call25 (args1 f55 rfl)) (wreadR2_any d.2.2 _ _ _ (hd1.kept HK1) hd2 hd3 (hT.old (HK.below (by simp) (Nat.le_refl _)))) ?_
  clear f51 a51 f52 a52 f53 f54 a53
  rintro e w11 ⟨kc11, hplR, ssR, rfl, INR⟩
  refine ⟨_, rfl, fun a56 f56 => ?_⟩
  have szw11 := kc11.size
  replace HK := HK.trans kc11 (by simp)
  replace HK1 := HK1.trans kc11 (by simp)
  replace IN := IN.kept kc11
  replace Bg8 := Bg8.kept kc11 (by simp)
  clear f55 a55 kc11
  refine L.mv f56 fun a57 f57 => ?_
  refine L.va f57 (E.extract f57 rfl rfl) fun a58 f58 => ?_
  refine L.va f58 (E.extract f58 rfl rfl) fun a59 f59 => ?_
  refine L.va f59 (E.extract f59 rfl rfl) fun a60 f60 => ?_
  refine L.alloc f60 wantedN (by decide) (z := (.agg #[(.int .i64 0), (.bool false), (.bool false), (.int .i64 0), (.int .i64 0), (.string ⟨#[]⟩), (.slice none 0 0), (.int .i64 0), (.string ⟨#[]⟩), (.bool false), (.int .i64 0), (.bool false), (.string ⟨#[]⟩), (.slice none 0 0), (.int .i64 0), (.bool false), (.bool false), (.bool false), (.string ⟨#[]⟩), (.slice none 0 0), (.bool false), (.int .i64 0), (.slice none 0 0), (.slice none 0 0)])) (fun _ => by kernel_rfl) rfl fun a61 w12 g11 N11 f61 => ?_
  have Bg11 := N11.blk
  have kg11 := N11.kept
  have log11 := N11.lo
  have ltg11 := Bg11.lt
  have szw12 := kg11.size
  have frg11 : w.heap.size ≤ g11 := Nat.le_trans HK.size log11
  have frg11_HK1 : w6.heap.size ≤ g11 := Nat.le_trans HK1.size log11
  have neg8_g11 : g8 ≠ g11 := by have := Bg8.lt; omega
  have FIg11_IN := IN.far log11
  have FIg11_INR := INR.far log11
  replace HK := HK.trans kg11 (by simp)
  replace HK1 := HK1.trans kg11 (by simp)
  replace IN := IN.kept kg11
  replace Bg8 := Bg8.kept kg11 (by simp)
  replace INR := INR.kept kg11
  clear f56 a56 f57 a57 f58 a58 f59 a59 N11 kg11
  refine L.storeR f61 wantedN wsz28_xl rfl rfl rfl Bg11 rfl rfl fun a62 w13 f62 NB13 ks13 => ?_
  have szw13 := ks13.size
  replace HK := HK.trans ks13 (ktr (by omega))
  replace HK1 := HK1.trans ks13 (ktr (by omega))
  replace IN := IN.keptF ks13 FIg11_IN
  replace Bg8 := Bg8.kept ks13 (by simp; omega)
  replace INR := INR.keptF ks13 FIg11_INR
  replace Bg11 := NB13
  clear f60 a60 ks13 f61 a61
  refine L.ag f62 fun a63 f63 => ?_
  refine L.ag f63 fun a64 f64 => ?_
  refine wpList_nil (hK21 _ _ ?_)
  have f65 := f64.sub (sc 24 (sc 25 (sc 26 (sc 27 (sc 28 (sc 29 (sc 108 (sc 109 (sc 110 sn)))))))))
  refine wp_seq_k fun K22 hK22 => C.region ?_
  refine L.mv f65 fun a66 f66 => ?_
  refine L.mv f66 fun a67 f67 => ?_
  refine L.va f67 (E.neq f67 rfl rfl) fun a68 f68 => ?_
  have f69 := f68.as (i := 128) (v' := .bool false) rfl (by simp)
  refine L.mv f69 fun a70 f70 => ?_
  clear f62 a62 f63 a63 f64 f65 a64 f66 a66 f67 a67 f68 f69 a68
  refine L.mv f70 (hw := (f70.yes rfl rfl)) fun a71 f71 => ?_
  refine L.mv f71 (hw := (f71.yes rfl rfl)) fun a72 f72 => ?_
  refine L.va f72 (E.neq f72 rfl rfl) (hw := (f72.yes rfl rfl)) fun a73 f73 => ?_
  have f74 := f73.as (i := 132) (v' := .bool false) rfl (by simp)
  refine L.va f74 (E.pickF f74 rfl rfl) fun a75 f75 => ?_
  refine L.mv f75 fun a76 f76 => ?_
  refine L.va f76 (by exact E.loadB f76 U28 rfl wsz28_xl rfl (Bg8) rfl) (hw := (f76.yes rfl rfl)) fun a77 f77 => ?_
  refine L.va f77 (by exact E.loadB f77 U28 rfl wsz28_xl rfl (Bg11) rfl) (hw := (f77.yes rfl rfl)) fun a78 f78 => ?_
  clear f70 a70 f71 a71 f72 a72 f73 f74 a73 f75 a75 f76 a76 f77 a77
  refine L.cl f78 (run_call Tryd.call22 (args2 f78 rfl rfl)) (sameR_any (readP d.2.2).1 (readP d.2.2).1 ss ssR _ IN INR hpl.subs hpl.codes) ?_ (hw := (f78.yes rfl rfl))
  rintro e w14 ⟨kc14, rfl⟩
  refine ⟨_, rfl, fun a79 f79 => ?_⟩
  have szw14 := kc14.size
  replace HK := HK.trans kc14 (by simp)
  replace HK1 := HK1.trans kc14 (by simp)
  replace IN := IN.kept kc14
  replace Bg8 := Bg8.kept kc14 (by simp)
  replace INR := INR.kept kc14
  replace Bg11 := Bg11.kept kc14 (by simp)
  clear f78 a78 kc14
  have f80 := f79.as (i := 137) (v' := .bool true) rfl (by rw [samePk_iff.2 rfl])
  refine L.va f80 (E.not f80 rfl) (hw := (f80.yes rfl rfl)) fun a81 f81 => ?_
  refine L.va f81 (E.pickF f81 rfl rfl) fun a82 f82 => ?_
  refine wpList_nil (hK22 _ _ ?_)
  have f83 := f82.sub (sc 108 (sc 109 (sc 110 (sc 139 sn))))
  refine C.condF f83 rfl ?_
  refine wp_skip (hK18 _ _ ?_)
  have f84 := f83.sub (sc 108 (sc 109 (sc 110 sn)))
  refine C.region ?_
  refine L.va f84 (E.add f84 rfl rfl (IntWalk.i64_in _ (by omega))) fun a85 f85 => ?_
  refine L.mv f85 fun a86 f86 => ?_
  clear f79 f80 a79 f81 a81 f82 f83 f84 a82 f85 a85
  refine wpList_nil (hKL15 _ _ (gk16 - 1) ?_ ?_)
  ·omega
  exact ⟨k_ + 1, by omega, HK, HK1, f86.sub (sub_cons rfl (sub_cons rfl (sub_cons rfl sn)))⟩
 refine C.condF f38 rfl ?_
 refine wp_exit (hK14 _ _ ?_)
 have f39 := f38.sub sn
 refine wp_seq_k fun K23 hK23 => C.region ?_
 refine L.ag f39 fun a40 f40 => ?_
 refine wpList_nil (hK23 _ _ ?_)
 have f41 := f40.sub (sc 18 sn)
 refine wp_ret ?_
 try simp only [Exit.inBlock, Exit.then]
 refine C.ret (P := Tryd.prog) (fn := Tryd.f4) f41 rfl rfl ?_
 exact ⟨HK, rfl⟩
end Go.Proofs.YtigjafbbnocihaaDoor
namespace Go.Proofs.YtigjafbbnocihaaDoor
open Go.RowKit Go.Hub Go.Lib Go.Shelf Go.ChangeShapes Go.WideShapes Go.Deep
theorem bd16r {k : Int} (h : (Lit.int .u16 k).wf = true) : 0 ≤ k ∧ k < 65536 := by have := bd_u16 h; omega
theorem reads_row {v0 v5 : Value} {k a b c at_ v how : Int} {w : World} (hT : Tabs w) (h0 : IsBs w v0) (w1 : (Lit.int .u8 k).wf = true) (w2 : (Lit.int .u8 a).wf = true) (w3 : (Lit.int .u8 b).wf = true) (w4 : (Lit.int .u8 c).wf = true) (h5 : IsBs w v5) (w6 : (Lit.int .u16 at_).wf = true) (w7 : (Lit.int .u8 v).wf = true) (w8 : (Lit.int .u8 how).wf = true) : Calls Tryd.prog 4 #[v0, .int .u8 k, .int .u8 a, .int .u8 b, .int .u8 c, v5, .int .u16 at_, .int .u8 v, .int .u8 how] w fun e w' => e = .returned (.bool true) ∧ Below w.heap.size w w' := by
  obtain ⟨us, A, c', rfl, h, hc⟩ := h0
  obtain ⟨us2, A2, c2, rfl, h2, _⟩ := h5
  exact (reads_walk us A c' k a b c us2 A2 c2 at_ v how w hT h hc h2 (bd8 w1) (bd8 w2) (bd8 w3) (bd8 w4) (bd8 w7) (bd8 w8) (bd16r w6)).mono fun _ _ => end_of
end Go.Proofs.YtigjafbbnocihaaDoor
