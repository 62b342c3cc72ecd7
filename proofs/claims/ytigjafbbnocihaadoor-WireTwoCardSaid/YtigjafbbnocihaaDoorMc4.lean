/- Merged by program (shrink.py): contracts and plain laws that the claim's statement uses, part 4. -/
import Derived.Test.YtigjafbbnocihaaDoorMc3
set_option linter.all false

namespace Go.Proofs.YtigjafbbnocihaaDoor
open Go.RowKit Go.Hub Go.Lib Go.Vl
theorem wzib70_xg : (Tryd.prog.info? 70).map (fun i => (i.zero, i.size, i.bytes)) = some (some (.agg #[(.string ⟨#[]⟩), (.int .i64 0)]), 2, 24) := by kernel_rfl
theorem wzi70_xg : (Tryd.prog.info? 70).map (fun i => (i.zero, i.size)) = some (some (.agg #[(.string ⟨#[]⟩), (.int .i64 0)]), 2) := by kernel_rfl
theorem wbs25_1_xg (x0_0 x0_1 : Value) : Instr.fill (fun i => some (i * 2, 2)) ((Array.range (1 * 2)).map fun j => (Value.cells (.agg #[(.string ⟨#[]⟩), (.int .i64 0)]))[j % (Value.cells (.agg #[(.string ⟨#[]⟩), (.int .i64 0)])).size]!) [(0, .agg #[x0_0, x0_1])] = some #[x0_0, x0_1] := by kernel_rfl
theorem wbs25_2_xg (x0_0 x0_1 : Value) (x1_0 x1_1 : Value) : Instr.fill (fun i => some (i * 2, 2)) ((Array.range (2 * 2)).map fun j => (Value.cells (.agg #[(.string ⟨#[]⟩), (.int .i64 0)]))[j % (Value.cells (.agg #[(.string ⟨#[]⟩), (.int .i64 0)])).size]!) [(0, .agg #[x0_0, x0_1]), (1, .agg #[x1_0, x1_1])] = some #[x0_0, x0_1, x1_0, x1_1] := by kernel_rfl
theorem wsz3_xg : (Tryd.prog.info? 3).map (·.size) = some 1 := by kernel_rfl
theorem wsz4_xg : (Tryd.prog.info? 4).map (·.size) = some 1 := by kernel_rfl
theorem wsz25_xg : (Tryd.prog.info? 25).map (·.size) = some 1 := by kernel_rfl
theorem wsz28_xg : (Tryd.prog.info? 28).map (·.size) = some 24 := by kernel_rfl
theorem wsz70_xg : (Tryd.prog.info? 70).map (·.size) = some 2 := by kernel_rfl
theorem wbl28_0_xg (x0 : Int) : Tryd.prog.built 28 [(0, .int .i64 x0)] = some #[.int .i64 x0, (.bool false), (.bool false), (.int .i64 0), (.int .i64 0), (.string ⟨#[]⟩), (.slice none 0 0), (.int .i64 0), (.string ⟨#[]⟩), (.bool false), (.int .i64 0), (.bool false), (.string ⟨#[]⟩), (.slice none 0 0), (.int .i64 0), (.bool false), (.bool false), (.bool false), (.string ⟨#[]⟩), (.slice none 0 0), (.bool false), (.int .i64 0), (.slice none 0 0), (.slice none 0 0)] := by kernel_rfl
theorem wbl28_0_4_xg (x0 : Int) (x1 : Int) : Tryd.prog.built 28 [(0, .int .i64 x0), (4, .int .i64 x1)] = some #[.int .i64 x0, (.bool false), (.bool false), (.int .i64 0), .int .i64 x1, (.string ⟨#[]⟩), (.slice none 0 0), (.int .i64 0), (.string ⟨#[]⟩), (.bool false), (.int .i64 0), (.bool false), (.string ⟨#[]⟩), (.slice none 0 0), (.int .i64 0), (.bool false), (.bool false), (.bool false), (.string ⟨#[]⟩), (.slice none 0 0), (.bool false), (.int .i64 0), (.slice none 0 0), (.slice none 0 0)] := by kernel_rfl
theorem wbl28_0_4_19_xg (x0 : Int) (x1 : Int) (x2 : Option Addr) (y2 z2 : Nat) : Tryd.prog.built 28 [(0, .int .i64 x0), (4, .int .i64 x1), (19, .slice x2 y2 z2)] = some #[.int .i64 x0, (.bool false), (.bool false), (.int .i64 0), .int .i64 x1, (.string ⟨#[]⟩), (.slice none 0 0), (.int .i64 0), (.string ⟨#[]⟩), (.bool false), (.int .i64 0), (.bool false), (.string ⟨#[]⟩), (.slice none 0 0), (.int .i64 0), (.bool false), (.bool false), (.bool false), (.string ⟨#[]⟩), (.slice none 0 0), (.bool false), (.int .i64 0), .slice x2 y2 z2, (.slice none 0 0)] := by kernel_rfl
theorem wbl28_0_5_6_3_2_xg (x0 : Int) (x1 : ByteArray) (x2 : Option Addr) (y2 z2 : Nat) (x3 : Int) (x4 : Bool) : Tryd.prog.built 28 [(0, .int .i64 x0), (5, .string x1), (6, .slice x2 y2 z2), (3, .int .i64 x3), (2, .bool x4)] = some #[.int .i64 x0, (.bool false), .bool x4, .int .i64 x3, (.int .i64 0), .string x1, .slice x2 y2 z2, (.int .i64 0), (.string ⟨#[]⟩), (.bool false), (.int .i64 0), (.bool false), (.string ⟨#[]⟩), (.slice none 0 0), (.int .i64 0), (.bool false), (.bool false), (.bool false), (.string ⟨#[]⟩), (.slice none 0 0), (.bool false), (.int .i64 0), (.slice none 0 0), (.slice none 0 0)] := by kernel_rfl
theorem wbl70_0_xg (x0 : ByteArray) : Tryd.prog.built 70 [(0, .string x0)] = some #[.string x0, (.int .i64 0)] := by kernel_rfl
theorem wbl70_0_1_xg (x0 : ByteArray) (x1 : Int) : Tryd.prog.built 70 [(0, .string x0), (1, .int .i64 x1)] = some #[.string x0, .int .i64 x1] := by kernel_rfl
def seatPub (a b c : Int) (x : List UInt8) : Pk := if 0 < b % 3 then { kind := 3, topic := topicS a, pay := x, qos := b % 3, retain := decide (c % 2 = 0), id := c % 5 + 1, dup := decide (c % 7 = 0) } else { kind := 3, topic := topicS a, pay := x, qos := b % 3, retain := decide (c % 2 = 0) }
def sub2 (c : Int) (l : List (ByteArray × Int)) : List (ByteArray × Int) := if c % 3 = 0 then l ++ [(filterS c, c % 2)] else l
def sub3 (c : Int) (l : List (ByteArray × Int)) : List (ByteArray × Int) := if c % 11 = 0 then l ++ [(⟨#[97, 35]⟩, 1)] else l
def unsL (a c : Int) : List (ByteArray × Int) := if c % 2 = 0 then [(filterS a, 0)] else [(filterS a, 0), (filterS c, 0)]
def seatP (k a b c : Int) (x : List UInt8) : Pk :=
  if k % 15 ≤ 3 then seatPub a b c x
  else if k % 15 ≤ 6 then { kind := 8, id := b % 7 + 1, subs := sub3 c (sub2 c [(filterS a, b % 3)]) }
  else if k % 15 = 7 then { kind := 10, id := b % 7 + 1, subs := unsL a c }
  else if k % 15 = 8 then { kind := 4, id := b % 7 + 1 }
  else if k % 15 = 9 then { kind := 5, id := b % 7 + 1 }
  else if k % 15 = 10 then { kind := 7, id := b % 7 + 1 }
  else if k % 15 = 11 then { kind := 6, id := c % 5 + 1 }
  else if k % 15 = 12 then { kind := 12 }
  else if k % 15 = 13 then seatCon a b c x
  else { kind := 14 }
section
variable {k a b c : Int} {x : List UInt8}
theorem seat_pub (h : k % 15 ≤ 3) : seatP k a b c x = if 0 < b % 3 then { kind := 3, topic := topicS a, pay := x, qos := b % 3, retain := decide (c % 2 = 0), id := c % 5 + 1, dup := decide (c % 7 = 0) } else { kind := 3, topic := topicS a, pay := x, qos := b % 3, retain := decide (c % 2 = 0) } := by unfold seatP; rw [if_pos h]; rfl
theorem seat_sub (h : 4 ≤ k % 15 ∧ k % 15 ≤ 6) : seatP k a b c x = { kind := 8, id := b % 7 + 1, subs := sub3 c (sub2 c [(filterS a, b % 3)]) } := by unfold seatP; rw [if_neg (by omega), if_pos h.2]
theorem seat_uns (h : k % 15 = 7) : seatP k a b c x = { kind := 10, id := b % 7 + 1, subs := unsL a c } := by unfold seatP; rw [if_neg (by omega), if_neg (by omega), if_pos h]
theorem seat_a (h : k % 15 = 8) : seatP k a b c x = { kind := 4, id := b % 7 + 1 } := by unfold seatP; rw [if_neg (by omega), if_neg (by omega), if_neg (by omega), if_pos h]
theorem seat_r (h : k % 15 = 9) : seatP k a b c x = { kind := 5, id := b % 7 + 1 } := by unfold seatP; rw [if_neg (by omega), if_neg (by omega), if_neg (by omega), if_neg (by omega), if_pos h]
theorem seat_p (h : k % 15 = 10) : seatP k a b c x = { kind := 7, id := b % 7 + 1 } := by unfold seatP; rw [if_neg (by omega), if_neg (by omega), if_neg (by omega), if_neg (by omega), if_neg (by omega), if_pos h]
theorem seat_l (h : k % 15 = 11) : seatP k a b c x = { kind := 6, id := c % 5 + 1 } := by unfold seatP; rw [if_neg (by omega), if_neg (by omega), if_neg (by omega), if_neg (by omega), if_neg (by omega), if_neg (by omega), if_pos h]
theorem seat_q (h : k % 15 = 12) : seatP k a b c x = { kind := 12 } := by unfold seatP; rw [if_neg (by omega), if_neg (by omega), if_neg (by omega), if_neg (by omega), if_neg (by omega), if_neg (by omega), if_neg (by omega), if_pos h]
theorem seat_con (h : k % 15 = 13) : seatP k a b c x = seatCon a b c x := by unfold seatP; rw [if_neg (by omega), if_neg (by omega), if_neg (by omega), if_neg (by omega), if_neg (by omega), if_neg (by omega), if_neg (by omega), if_neg (by omega), if_pos h]
theorem seat_d (h : 14 ≤ k % 15) : seatP k a b c x = { kind := 14 } := by unfold seatP; rw [if_neg (by omega), if_neg (by omega), if_neg (by omega), if_neg (by omega), if_neg (by omega), if_neg (by omega), if_neg (by omega), if_neg (by omega), if_neg (by omega)]
end
theorem uns_len (a c : Int) : (unsL a c).length = (1 + c % 2).toNat := by
  unfold unsL
  rcases (by omega : c % 2 = 0 ∨ c % 2 = 1) with h | h
  · rw [if_pos h, h]; rfl
  rw [if_neg (by omega), h]; rfl
theorem uns_sl {w : World} {g : Nat} {a c : Int} (B : Blk w g 70 #[.string (filterS a), .int .i64 0, .string (filterS c), .int .i64 0]) : Sl w (some ⟨g, 0, none⟩) (unsL a c).length 2 (subCells (unsL a c)) := by
  unfold unsL
  split
  · exact ⟨rfl, fun _ => ⟨g, 0, rfl, B.lt, fun j u hu => by
      rw [Nat.zero_add]
      refine B.cl ?_
      match j, hu with
      | 0, hu => exact hu
      | 1, hu => exact hu
      | n + 2, hu => simp [subCells] at hu⟩⟩
  exact B.slN (n := 2) (size := 2) rfl
theorem sub_cells (l : List (ByteArray × Int)) (x : ByteArray × Int) : subCells (l ++ [x]) = subCells l ++ [.string x.1, .int .i64 x.2] := by simp [subCells]
theorem su_one {w w1 w2 : World} {g : Nat} {s : ByteArray} {i : Int} (hs : w.heap.size ≤ w1.heap.size) (N : Newb w1 w2 g 70 #[.string s, .int .i64 i]) : Fresh w w2 70 2 (some ⟨g, 0, none⟩) ([(s, i)] : List (ByteArray × Int)).length 1 (subCells [(s, i)]) :=
  ⟨N.own (k := 1) (size := 2) rfl (by decide), fun b hb => by
    simp at hb
    subst hb
    exact Nat.le_trans hs N.lo⟩
set_option maxRecDepth 100000 in
set_option maxHeartbeats 8000000 in
theorem seat_any (k a0_ b c : Int) (x : List UInt8) (A : Option Addr) (cx : Nat) (w : World) (SX : Sl w A x.length 1 (x.map u8)) (hk : 0 ≤ k ∧ k < 256) (ha0_ : 0 ≤ a0_ ∧ a0_ < 256) (hb : 0 ≤ b ∧ b < 256) (hc : 0 ≤ c ∧ c < 256) : Calls Tryd.prog 15 #[.int .u8 k, .int .u8 a0_, .int .u8 b, .int .u8 c, .slice A x.length cx] w (SeatPost (seatP k a0_ b c x) w) := by
 have HK : Kept [] w w := Kept.refl [] w
 refine C.enter Tryd.func15 rfl Tryd.ntmps15 rfl ?_
 intro a0 f0
 have f1 : Fr 130 a0 [(0, .int .u8 k), (1, .int .u8 a0_), (2, .int .u8 b), (3, .int .u8 c), (4, .slice A x.length cx)] := f0
 refine wp_seq_k fun K0 hK0 => C.region ?_
 refine L.alloc f1 wantedN (by decide) (z := (.agg #[(.int .i64 0), (.bool false), (.bool false), (.int .i64 0), (.int .i64 0), (.string ⟨#[]⟩), (.slice none 0 0), (.int .i64 0), (.string ⟨#[]⟩), (.bool false), (.int .i64 0), (.bool false), (.string ⟨#[]⟩), (.slice none 0 0), (.int .i64 0), (.bool false), (.bool false), (.bool false), (.string ⟨#[]⟩), (.slice none 0 0), (.bool false), (.int .i64 0), (.slice none 0 0), (.slice none 0 0)])) (fun _ => by kernel_rfl) rfl fun a2 w1 g0 N0 f2 => ?_
 have Bg0 := N0.blk
 have kg0 := N0.kept
 have log0 := N0.lo
 have ltg0 := Bg0.lt
 have szw1 := kg0.size
 have frg0 : w.heap.size ≤ g0 := Nat.le_trans HK.size log0
 replace HK := HK.trans kg0 (by simp)
 clear N0 kg0
 refine wpList_nil (hK0 _ _ ?_)
 have f3 := f2.sub (sc 0 (sc 1 (sc 2 (sc 3 (sc 4 (sc 10 sn))))))
 refine wp_seq_k fun K1 hK1 => C.region ?_
 refine L.mv f3 fun a4 f4 => ?_
 refine L.va f4 (E.rem f4 rfl rfl (by omega) (Int.tmod_eq_emod_of_nonneg (by omega))) fun a5 f5 => ?_
 refine L.va f5 (E.conv f5 U5 U3 rfl (IntWalk.i64_in _ (by omega))) fun a6 f6 => ?_
 refine L.va f6 (E.add f6 rfl rfl (IntWalk.i64_in _ (by omega))) fun a7 f7 => ?_
 refine L.ag f7 fun a8 f8 => ?_
 clear f0 f1 a0 f2 f3 a2 f4 a4 f5 a5 f6 a6 f7 a7
 refine wpList_nil (hK1 _ _ ?_)
 have f9 := f8.sub (sc 0 (sc 1 (sc 2 (sc 3 (sc 4 (sc 10 (sc 11 sn)))))))
 refine wp_seq_k fun K2 hK2 => ?_
 refine wp_seq_k fun K3 hK3 => C.region ?_
 refine L.mv f9 fun a10 f10 => ?_
 refine L.va f10 (E.rem f10 rfl rfl (by omega) (Int.tmod_eq_emod_of_nonneg (by omega))) fun a11 f11 => ?_
 refine wpList_nil (hK3 _ _ ?_)
 have f12 := f11.sub (sc 1 (sc 2 (sc 3 (sc 4 (sc 10 (sc 11 (sc 19 sn)))))))
 refine wp_block ?_
 obtain ⟨J7, hJ7⟩ : ∃ J : Act → World → Prop, J = fun a W => Kept [] w W ∧ Blk W g0 28 zeroPk ∧ Fr 130 a [(1, .int .u8 a0_), (2, .int .u8 b), (3, .int .u8 c), (4, .slice A x.length cx), (10, .pointer (some ⟨g0, 0, none⟩)), (11, .int .i64 (b % 7 + 1)), (19, .int .u8 (k % 15)), (20, .bool (decide (k % 15 ≤ 3)))] := ⟨_, rfl⟩
 clear f8 f9 a8 f10 a10 f11
 refine C.cut J7 ?_ ?_
 ·skip
  refine wp_seq_k fun K4 hK4 => C.region ?_
  refine L.va f12 (E.eq f12) fun a13 f13 => ?_
  refine L.ag f13 fun a14 f14 => ?_
  refine wpList_nil (hK4 _ _ ?_)
  have f15 := f14.sub (sc 1 (sc 2 (sc 3 (sc 4 (sc 10 (sc 11 (sc 19 (sc 20 sn))))))))
  clear f12 a11 f13 a13 f14
  refine f15.splitD 20 rfl (fun h0 f16 => ?_) (fun h0 f16 => ?_)
  ·have hm := h0
   refine C.condT f16 rfl ?_
   exact wp_skip (then_of (J := J7) (Q := fun _ _ _ => True) (by rw [hJ7]; exact ⟨HK, Bg0, f16.sub (sub_cons rfl (sub_cons rfl (sub_cons rfl (sub_cons rfl (sub_cons rfl (sub_cons rfl (sub_cons rfl (sub_cons (by exact congrArg (fun t => some (Value.bool t)) (decide_eq_true (by omega : k % 15 ≤ 3)).symm) sn))))))))⟩))
  refine C.condF f16 rfl ?_
  refine wp_seq_k fun K5 hK5 => C.region ?_
  refine L.va f16 (E.eq f16) fun a17 f17 => ?_
  refine L.ag f17 fun a18 f18 => ?_
  refine wpList_nil (hK5 _ _ ?_)
  have f19 := f18.sub (sc 1 (sc 2 (sc 3 (sc 4 (sc 10 (sc 11 (sc 19 (sc 20 sn))))))))
  clear f15 f16 a14 f17 a17 f18
  refine f19.splitD 20 rfl (fun h1 f20 => ?_) (fun h1 f20 => ?_)
  ·have hm := h1
   refine C.condT f20 rfl ?_
   exact wp_skip (then_of (J := J7) (Q := fun _ _ _ => True) (by rw [hJ7]; exact ⟨HK, Bg0, f20.sub (sub_cons rfl (sub_cons rfl (sub_cons rfl (sub_cons rfl (sub_cons rfl (sub_cons rfl (sub_cons rfl (sub_cons (by exact congrArg (fun t => some (Value.bool t)) (decide_eq_true (by omega : k % 15 ≤ 3)).symm) sn))))))))⟩))
  refine C.condF f20 rfl ?_
  refine wp_seq_k fun K6 hK6 => C.region ?_
  refine L.va f20 (E.eq f20) fun a21 f21 => ?_
  refine L.ag f21 fun a22 f22 => ?_
  refine wpList_nil (hK6 _ _ ?_)
  have f23 := f22.sub (sc 1 (sc 2 (sc 3 (sc 4 (sc 10 (sc 11 (sc 19 (sc 20 sn))))))))
  clear f19 f20 a18 f21 a21 f22
  refine f23.splitD 20 rfl (fun h2 f24 => ?_) (fun h2 f24 => ?_)
  ·have hm := h2
   refine C.condT f24 rfl ?_
   exact wp_skip (then_of (J := J7) (Q := fun _ _ _ => True) (by rw [hJ7]; exact ⟨HK, Bg0, f24.sub (sub_cons rfl (sub_cons rfl (sub_cons rfl (sub_cons rfl (sub_cons rfl (sub_cons rfl (sub_cons rfl (sub_cons (by exact congrArg (fun t => some (Value.bool t)) (decide_eq_true (by omega : k % 15 ≤ 3)).symm) sn))))))))⟩))
  refine C.condF f24 rfl ?_
  refine C.region ?_
  refine L.va f24 (E.eq f24) fun a25 f25 => ?_
  refine L.ag f25 fun a26 f26 => ?_
  exact wpList_nil (then_of (J := J7) (Q := fun _ _ _ => True) (by rw [hJ7]; exact ⟨HK, Bg0, f26.sub (sub_cons rfl (sub_cons rfl (sub_cons rfl (sub_cons rfl (sub_cons rfl (sub_cons rfl (sub_cons rfl (sub_cons (by exact congrArg (fun t => some (Value.bool t)) (decide_eq_decide.2 (by omega))) sn))))))))⟩))
 intro a13 w2 hj
 rw [hJ7] at hj
 clear hJ7 J7
 obtain ⟨HK, Bg0, f13⟩ := hj
 try clear f12
 refine f13.splitD 20 rfl (fun h3 f14 => ?_) (fun h3 f14 => ?_)
 ·have hm := h3
  refine C.condT f14 rfl ?_
  refine wp_seq_k fun K7 hK7 => C.region ?_
  refine L.mv f14 fun a15 f15 => ?_
  refine L.cl f15 (run_call Tryd.call34 (args1 f15 rfl)) (topicS_any a0_ _ ha0_) ?_
  clear f13 f14 a13
  rintro e w3 ⟨kc3, rfl⟩
  refine ⟨_, rfl, fun a16 f16 => ?_⟩
  have szw3 := kc3.size
  replace HK := HK.trans kc3 (by simp)
  replace Bg0 := Bg0.kept kc3 (by simp)
  clear kc3
  refine L.mv f16 fun a17 f17 => ?_
  refine L.mv f17 fun a18 f18 => ?_
  refine L.va f18 (E.rem f18 rfl rfl (by omega) (Int.tmod_eq_emod_of_nonneg (by omega))) fun a19 f19 => ?_
  refine L.va f19 (E.conv f19 U5 U3 rfl (IntWalk.i64_in _ (by omega))) fun a20 f20 => ?_
  refine L.mv f20 fun a21 f21 => ?_
  refine L.va f21 (E.rem f21 rfl rfl (by omega) (Int.tmod_eq_emod_of_nonneg (by omega))) fun a22 f22 => ?_
  clear f15 a15 f16 a16 f17 a17 f18 a18 f19 a19 f20 a20 f21 a21
  refine L.va f22 (E.eq f22) fun a23 f23 => ?_
  refine L.va f23 (E.build f23 (parts5 f23 rfl rfl rfl rfl rfl) (wbl28_0_5_6_3_2_xg _ _ _ _ _ _ _)) fun a24 f24 => ?_
  refine L.alloc f24 wantedN (by decide) (z := (.agg #[(.int .i64 0), (.bool false), (.bool false), (.int .i64 0), (.int .i64 0), (.string ⟨#[]⟩), (.slice none 0 0), (.int .i64 0), (.string ⟨#[]⟩), (.bool false), (.int .i64 0), (.bool false), (.string ⟨#[]⟩), (.slice none 0 0), (.int .i64 0), (.bool false), (.bool false), (.bool false), (.string ⟨#[]⟩), (.slice none 0 0), (.bool false), (.int .i64 0), (.slice none 0 0), (.slice none 0 0)])) (fun _ => by kernel_rfl) rfl fun a25 w4 g3 N3 f25 => ?_
  have Bg3 := N3.blk
  have kg3 := N3.kept
  have log3 := N3.lo
  have ltg3 := Bg3.lt
  have szw4 := kg3.size
  have frg3 : w.heap.size ≤ g3 := Nat.le_trans HK.size log3
  have neg0_g3 : g0 ≠ g3 := by have := Bg0.lt; omega
  replace HK := HK.trans kg3 (by simp)
  replace Bg0 := Bg0.kept kg3 (by simp)
  clear N3 kg3
  refine L.storeR f25 wantedN wsz28_xg rfl rfl rfl Bg3 rfl rfl fun a26 w5 f26 NB5 ks5 => ?_
  have szw5 := ks5.size
  replace HK := HK.trans ks5 (ktr (by omega))
  replace Bg0 := Bg0.kept ks5 (by simp; omega)
  replace Bg3 := NB5
  clear ks5 f25 a25
  refine wpList_nil (hK7 _ _ ?_)
  have f27 := f26.sub (sc 3 (sc 10 (sc 12 sn)))
  refine wp_seq_k fun K8 hK8 => ?_
  refine wp_seq_k fun K9 hK9 => C.region ?_
  refine L.fa 3 f27 U28 rfl wsz3_xg fun a28 f28 => ?_
  refine L.ld f28 U3 Bg3 fun a29 f29 => ?_
  refine L.va f29 (E.gtr f29 rfl rfl) fun a30 f30 => ?_
  refine wpList_nil (hK9 _ _ ?_)
  have f31 := f30.sub (sc 3 (sc 10 (sc 12 (sc 37 sn))))
  clear f22 a22 f23 a23 f24 a24 f26 f27 a26 f28 a28 f29 a29 f30
  refine f31.splitD 37 rfl (fun h4 f32 => ?_) (fun h4 f32 => ?_)
  ·refine C.condT f32 rfl ?_
   refine C.region ?_
   refine L.mv f32 fun a33 f33 => ?_
   refine L.va f33 (E.rem f33 rfl rfl (by omega) (Int.tmod_eq_emod_of_nonneg (by omega))) fun a34 f34 => ?_
   refine L.va f34 (E.conv f34 U5 U3 rfl (IntWalk.i64_in _ (by omega))) fun a35 f35 => ?_
   refine L.va f35 (E.add f35 rfl rfl (IntWalk.i64_in _ (by omega))) fun a36 f36 => ?_
   refine L.mv f36 fun a37 f37 => ?_
   refine L.va f37 (E.rem f37 rfl rfl (by omega) (Int.tmod_eq_emod_of_nonneg (by omega))) fun a38 f38 => ?_
   refine L.va f38 (E.eq f38) fun a39 f39 => ?_
   clear f31 f32 a30 f33 a33 f34 a34 f35 a35 f36 a36 f37 a37 f38 a38
   refine L.fa 4 f39 U28 rfl wsz3_xg fun a40 f40 => ?_
   refine L.store f40 wantedN wsz3_xg rfl rfl rfl Bg3 (by (simp [Value.cells]; done)) fun a41 w6 f41 NB6 ks6 => ?_
   have szw6 := ks6.size
   replace HK := HK.trans ks6 (ktr (by omega))
   replace Bg0 := Bg0.kept ks6 (by simp; omega)
   replace Bg3 := NB6
   simp only [Value.cells, z1, z2, z3, Nat.reduceAdd, Nat.zero_add] at Bg3
   clear ks6 f40 a40
   refine L.fa 1 f41 U28 rfl wsz4_xg fun a42 f42 => ?_
   refine L.store f42 wantedN wsz4_xg rfl rfl rfl Bg3 (by (simp [Value.cells]; done)) fun a43 w7 f43 NB7 ks7 => ?_
   have szw7 := ks7.size
   replace HK := HK.trans ks7 (ktr (by omega))
   replace Bg0 := Bg0.kept ks7 (by simp; omega)
   replace Bg3 := NB7
   simp only [Value.cells, z1, z2, z3, Nat.reduceAdd, Nat.zero_add] at Bg3
   clear ks7 f42 a42
   refine wpList_nil (hK8 _ _ ?_)
   have f44 := f43.sub (sc 10 (sc 12 sn))
   refine wp_seq_k fun K10 hK10 => C.region ?_
   refine L.va f44 (by exact E.loadB f44 U28 rfl wsz28_xg rfl (Bg3) rfl) fun a45 f45 => ?_
   refine L.storeR f45 wantedN wsz28_xg rfl rfl rfl Bg0 rfl rfl fun a46 w8 f46 NB8 ks8 => ?_
   have szw8 := ks8.size
   replace HK := HK.trans ks8 (ktr (by omega))
   replace Bg3 := Bg3.kept ks8 (by simp; omega)
   replace Bg0 := NB8
   clear ks8 f45 a45
   refine wpList_nil (hK10 _ _ ?_)
   have f47 := f46.sub (sc 10 sn)
   refine wp_ret ?_
   try simp only [Exit.inBlock, Exit.then]
   refine C.retC (P := Tryd.prog) (fn := Tryd.f15) f47 rfl rfl Bg0 U28 rfl wsz28_xg ?_
   exact ⟨{ s0 with pa := A, pc := cx }, by rw [seat_pub hm, if_pos (by assumption)]; rfl, HK, by rw [seat_pub hm, if_pos (by assumption)]; exact ⟨SX.kept HK, Sl.nil _ _ _, Sl.nil _ _ _, Sl.nil _ _ _, Sl.nil _ _ _⟩⟩
  refine C.condF f32 rfl ?_
  refine wp_skip (hK8 _ _ ?_)
  have f33 := f32.sub (sc 10 (sc 12 sn))
  refine wp_seq_k fun K11 hK11 => C.region ?_
  refine L.va f33 (by exact E.loadB f33 U28 rfl wsz28_xg rfl (Bg3) rfl) fun a34 f34 => ?_
  refine L.storeR f34 wantedN wsz28_xg rfl rfl rfl Bg0 rfl rfl fun a35 w6 f35 NB6 ks6 => ?_
  have szw6 := ks6.size
  replace HK := HK.trans ks6 (ktr (by omega))
  replace Bg3 := Bg3.kept ks6 (by simp; omega)
  replace Bg0 := NB6
  clear ks6 f34 a34
  refine wpList_nil (hK11 _ _ ?_)
  have f36 := f35.sub (sc 10 sn)
  refine wp_ret ?_
  try simp only [Exit.inBlock, Exit.then]
  refine C.retC (P := Tryd.prog) (fn := Tryd.f15) f36 rfl rfl Bg0 U28 rfl wsz28_xg ?_
  exact ⟨{ s0 with pa := A, pc := cx }, by rw [seat_pub hm, if_neg (by assumption)]; rfl, HK, by rw [seat_pub hm, if_neg (by assumption)]; exact ⟨SX.kept HK, Sl.nil _ _ _, Sl.nil _ _ _, Sl.nil _ _ _, Sl.nil _ _ _⟩⟩
 refine C.condF f14 rfl ?_
 obtain ⟨J14, hJ14⟩ : ∃ J : Act → World → Prop, J = fun a W => Kept [] w W ∧ Blk W g0 28 zeroPk ∧ Fr 130 a [(1, .int .u8 a0_), (2, .int .u8 b), (3, .int .u8 c), (4, .slice A x.length cx), (10, .pointer (some ⟨g0, 0, none⟩)), (11, .int .i64 (b % 7 + 1)), (19, .int .u8 (k % 15)), (48, .bool (decide (k % 15 ≤ 6)))] := ⟨_, rfl⟩
 clear f13
 refine C.cut J14 ?_ ?_
 ·skip
  refine wp_seq_k fun K12 hK12 => C.region ?_
  refine L.va f14 (E.eq f14) fun a15 f15 => ?_
  refine L.ag f15 fun a16 f16 => ?_
  refine wpList_nil (hK12 _ _ ?_)
  have f17 := f16.sub (sc 1 (sc 2 (sc 3 (sc 4 (sc 10 (sc 11 (sc 19 (sc 48 sn))))))))
  clear f14 a13 f15 a15 f16
  refine f17.splitD 48 rfl (fun h5 f18 => ?_) (fun h5 f18 => ?_)
  ·have hm : 4 ≤ k % 15 ∧ k % 15 ≤ 6 := by omega
   refine C.condT f18 rfl ?_
   exact wp_skip (then_of (J := J14) (Q := fun _ _ _ => True) (by rw [hJ14]; exact ⟨HK, Bg0, f18.sub (sub_cons rfl (sub_cons rfl (sub_cons rfl (sub_cons rfl (sub_cons rfl (sub_cons rfl (sub_cons rfl (sub_cons (by exact congrArg (fun t => some (Value.bool t)) (decide_eq_true (by omega : k % 15 ≤ 6)).symm) sn))))))))⟩))
  refine C.condF f18 rfl ?_
  refine wp_seq_k fun K13 hK13 => C.region ?_
  refine L.va f18 (E.eq f18) fun a19 f19 => ?_
  refine L.ag f19 fun a20 f20 => ?_
  refine wpList_nil (hK13 _ _ ?_)
  have f21 := f20.sub (sc 1 (sc 2 (sc 3 (sc 4 (sc 10 (sc 11 (sc 19 (sc 48 sn))))))))
  clear f17 f18 a16 f19 a19 f20
  refine f21.splitD 48 rfl (fun h6 f22 => ?_) (fun h6 f22 => ?_)
  ·have hm : 4 ≤ k % 15 ∧ k % 15 ≤ 6 := by omega
   refine C.condT f22 rfl ?_
   exact wp_skip (then_of (J := J14) (Q := fun _ _ _ => True) (by rw [hJ14]; exact ⟨HK, Bg0, f22.sub (sub_cons rfl (sub_cons rfl (sub_cons rfl (sub_cons rfl (sub_cons rfl (sub_cons rfl (sub_cons rfl (sub_cons (by exact congrArg (fun t => some (Value.bool t)) (decide_eq_true (by omega : k % 15 ≤ 6)).symm) sn))))))))⟩))
  refine C.condF f22 rfl ?_
  refine C.region ?_
  refine L.va f22 (E.eq f22) fun a23 f23 => ?_
  refine L.ag f23 fun a24 f24 => ?_
  exact wpList_nil (then_of (J := J14) (Q := fun _ _ _ => True) (by rw [hJ14]; exact ⟨HK, Bg0, f24.sub (sub_cons rfl (sub_cons rfl (sub_cons rfl (sub_cons rfl (sub_cons rfl (sub_cons rfl (sub_cons rfl (sub_cons (by exact congrArg (fun t => some (Value.bool t)) (decide_eq_decide.2 (by omega))) sn))))))))⟩))
 intro a15 w3 hj
 rw [hJ14] at hj
 clear hJ14 J14
 obtain ⟨HK, Bg0, f15⟩ := hj
 try clear f14
 refine f15.splitD 48 rfl (fun h7 f16 => ?_) (fun h7 f16 => ?_)
 ·have hm : 4 ≤ k % 15 ∧ k % 15 ≤ 6 := by omega
  refine C.condT f16 rfl ?_
  obtain ⟨J15, hJ15⟩ : ∃ J : Act → World → Prop, J = fun a W => ∃ (gq : Nat) (l : List (ByteArray × Int)) (Aq : Option Addr) (cq : Nat), l = [(filterS a0_, b % 3)] ∧ gq ≠ g0 ∧ w.heap.size ≤ gq ∧ Kept [] w W ∧ Blk W g0 28 zeroPk ∧ Blk W gq 28 (({ kind := 8, id := b % 7 + 1, subs := l } : Pk).cells { s0 with ua := Aq, uc := cq }) ∧ Fresh w W 70 2 Aq l.length cq (subCells l) ∧ Fr 130 a [(3, .int .u8 c), (10, .pointer (some ⟨g0, 0, none⟩)), (13, .pointer (some ⟨gq, 0, none⟩))] := ⟨_, rfl⟩
  clear f15
  refine C.cut J15 ?_ ?_
  ·skip
   refine C.region ?_
   refine L.mv f16 fun a17 f17 => ?_
   refine L.mv f17 fun a18 f18 => ?_
   refine L.cl f18 (run_call Tryd.call35 (args1 f18 rfl)) (filterS_any a0_ _ ha0_) ?_
   clear f16 a15 f17 a17
   rintro e w4 ⟨kc4, rfl⟩
   refine ⟨_, rfl, fun a19 f19 => ?_⟩
   have szw4 := kc4.size
   replace HK := HK.trans kc4 (by simp)
   replace Bg0 := Bg0.kept kc4 (by simp)
   clear kc4
   refine L.mv f19 fun a20 f20 => ?_
   refine L.va f20 (E.rem f20 rfl rfl (by omega) (Int.tmod_eq_emod_of_nonneg (by omega))) fun a21 f21 => ?_
   refine L.va f21 (E.conv f21 U5 U3 rfl (IntWalk.i64_in _ (by omega))) fun a22 f22 => ?_
   refine L.va f22 (E.build f22 (parts2 f22 rfl rfl) (wbl70_0_1_xg _ _)) fun a23 f23 => ?_
   refine L.buildSlice f23 wantedN (by decide) (parts1 f23 rfl) U25 wzi70_xg rfl rfl (wbs25_1_xg _ _) fun a24 w5 g4 N4 f24 => ?_
   have SU := su_one HK.size N4
   have Bg4 := N4.blk
   have kg4 := N4.kept
   have log4 := N4.lo
   have ltg4 := Bg4.lt
   have szw5 := kg4.size
   have frg4 : w.heap.size ≤ g4 := Nat.le_trans HK.size log4
   have neg0_g4 : g0 ≠ g4 := by have := Bg0.lt; omega
   replace HK := HK.trans kg4 (by simp)
   replace Bg0 := Bg0.kept kg4 (by simp)
   clear N4 kg4
   refine L.va f24 (E.build f24 (parts3 f24 rfl rfl rfl) (wbl28_0_4_19_xg _ _ _ _ _)) fun a25 f25 => ?_
   clear f18 a18 f19 a19 f20 a20 f21 a21 f22 a22 f23 a23 f24 a24
   refine L.alloc f25 wantedN (by decide) (z := (.agg #[(.int .i64 0), (.bool false), (.bool false), (.int .i64 0), (.int .i64 0), (.string ⟨#[]⟩), (.slice none 0 0), (.int .i64 0), (.string ⟨#[]⟩), (.bool false), (.int .i64 0), (.bool false), (.string ⟨#[]⟩), (.slice none 0 0), (.int .i64 0), (.bool false), (.bool false), (.bool false), (.string ⟨#[]⟩), (.slice none 0 0), (.bool false), (.int .i64 0), (.slice none 0 0), (.slice none 0 0)])) (fun _ => by kernel_rfl) rfl fun a26 w6 g5 N5 f26 => ?_
   have Bg5 := N5.blk
   have kg5 := N5.kept
   have log5 := N5.lo
   have ltg5 := Bg5.lt
   have szw6 := kg5.size
   have frg5 : w.heap.size ≤ g5 := Nat.le_trans HK.size log5
   have neg0_g5 : g0 ≠ g5 := by have := Bg0.lt; omega
   have neg4_g5 : g4 ≠ g5 := by have := Bg4.lt; omega
   replace HK := HK.trans kg5 (by simp)
   replace Bg0 := Bg0.kept kg5 (by simp)
   replace Bg4 := Bg4.kept kg5 (by simp)
   replace SU := SU.kept0 kg5
   clear N5 kg5
   refine L.storeR f26 wantedN wsz28_xg rfl rfl rfl Bg5 rfl rfl fun a27 w7 f27 NB7 ks7 => ?_
   have szw7 := ks7.size
   replace HK := HK.trans ks7 (ktr (by omega))
   replace Bg0 := Bg0.kept ks7 (by simp; omega)
   replace Bg4 := Bg4.kept ks7 (by simp; omega)
   replace SU := fresh_blk SU ks7 Bg5 (by decide)
   replace Bg5 := NB7
   clear ks7 f26 a26
   exact wpList_nil (then_of (J := J15) (Q := fun _ _ _ => True) (by rw [hJ15]; exact ⟨g5, [(filterS a0_, b % 3)], some ⟨g4, 0, none⟩, 1, rfl, by omega, by omega, HK, Bg0, Bg5, SU, f27.sub (sub_cons rfl (sub_cons rfl (sub_cons rfl sn)))⟩))
  intro a17 w4 hj
  rw [hJ15] at hj
  clear hJ15 J15
  obtain ⟨gq, l, Aq, cq, hl, hne, hgq, HK, Bg0, BQ, SU, f17⟩ := hj
  try clear f16
  replace BQ : Blk w4 gq 28 #[.int .i64 8, .bool false, .bool false, .int .i64 0, .int .i64 (b % 7 + 1), .string em, .slice none 0 0, .int .i64 0, .string em, .bool false, .int .i64 0, .bool false, .string em, .slice none 0 0, .int .i64 0, .bool false, .bool false, .bool false, .string em, .slice none 0 0, .bool false, .int .i64 0, .slice Aq l.length cq, .slice none 0 0] := BQ
  have hne2 : g0 ≠ gq := fun e => hne e.symm
  have hll : l.length = 1 := by rw [hl]; rfl
  obtain ⟨J17, hJ17⟩ : ∃ J : Act → World → Prop, J = fun a W => ∃ (l2 : List (ByteArray × Int)) (A2 : Option Addr) (c2 : Nat), l2 = sub2 c l ∧ Kept [] w W ∧ Blk W g0 28 zeroPk ∧ Blk W gq 28 (({ kind := 8, id := b % 7 + 1, subs := l2 } : Pk).cells { s0 with ua := A2, uc := c2 }) ∧ Fresh w W 70 2 A2 l2.length c2 (subCells l2) ∧ Fr 130 a [(3, .int .u8 c), (10, .pointer (some ⟨g0, 0, none⟩)), (13, .pointer (some ⟨gq, 0, none⟩))] := ⟨_, rfl⟩
  refine C.cut J17 ?_ ?_
  ·skip
   refine wp_seq_k fun K14 hK14 => C.region ?_
   refine L.mv f17 fun a18 f18 => ?_
   refine L.va f18 (E.rem f18 rfl rfl (by omega) (Int.tmod_eq_emod_of_nonneg (by omega))) fun a19 f19 => ?_
   refine L.va f19 (E.eq f19) fun a20 f20 => ?_
   refine wpList_nil (hK14 _ _ ?_)
   have f21 := f20.sub (sc 3 (sc 10 (sc 13 (sc 63 sn))))
   clear f17 a17 f18 a18 f19 a19 f20
   refine f21.splitD 63 rfl (fun h8 f22 => ?_) (fun h8 f22 => ?_)
   ·refine C.condT f22 rfl ?_
    have hd16 : Kept [] w4 (w4.drewN 1) := (Kept.refl _ _).drewN 1
    refine R.beginT (S := fun _ => True) (by kernel_rfl) (by kernel_rfl) trivial fun ht => ?_
    obtain ⟨w5, hww5⟩ : ∃ W, W = w4.drewN 1 := ⟨_, rfl⟩
    rw [← hww5] at hd16 ⊢
    clear hww5
    have szw5 := hd16.size
    replace HK := HK.trans hd16 (by simp)
    replace Bg0 := Bg0.kept hd16 (by simp)
    replace BQ := BQ.kept hd16 (by simp)
    replace SU := SU.kept0 hd16
    clear hd16
    refine R.u 0 f22 rfl ht trivial (fun W hW => (E.fa 22 f22 U28 rfl wsz25_xg)) fun a23 f23 => ?_
    refine R.u 2 f23 rfl ht trivial (fun W hW => (E.move f23 rfl)) fun a24 f24 => ?_
    refine R.u 4 f24 rfl ht trivial (fun W hW => (E.move f24 rfl)) fun a25 f25 => ?_
    refine R.u 5 f25 rfl ht trivial (fun W hW => (E.rem f25 rfl rfl (by omega) (Int.tmod_eq_emod_of_nonneg (by omega)))) fun a26 f26 => ?_
    refine R.u 6 f26 rfl ht trivial (fun W hW => (E.conv f26 U5 U3 rfl (IntWalk.i64_in _ (by omega)))) fun a27 f27 => ?_
    clear f21 f22 a20 f23 a23 f24 a24 f25 a25 f26 a26
    refine R.two 1 3 (by kernel_rfl) ?_ ?_
    ·skip
     refine O.val f27 rfl rfl (by decide) wantedN (by exact E.ld f27 U25 (BQ)) trivial fun a28 f28 => ?_
     refine R.one 3 (by kernel_rfl) ?_
     refine O.call f28 rfl rfl (by decide) wantedN (run_call Tryd.call35 (args1 f28 rfl)) (filterS_any c _ hc) ?_
     clear f27 a27
     rintro e w6 ⟨kc6, rfl⟩
     refine ⟨_, rfl, trivial, fun a29 f29 => ?_⟩
     have szw6 := kc6.size
     replace HK := HK.trans kc6 (by simp)
     replace Bg0 := Bg0.kept kc6 (by simp)
     replace BQ := BQ.kept kc6 (by simp)
     replace SU := SU.kept0 kc6
     clear kc6
     refine R.u 7 f29 rfl ht trivial (fun W hW => (E.build f29 (parts2 f29 rfl rfl) (wbl70_0_1_xg _ _))) fun a30 f30 => ?_
     refine R.one 8 (by kernel_rfl) ?_
     refine O.buildSlice f30 rfl wantedN (by decide) (parts1 f30 rfl) U25 wzi70_xg rfl rfl (wbs25_1_xg _ _) (fun _ _ => trivial) fun a31 w7 g6 N6 hSn f31 => ?_
     clear hSn
     have Bg6 := N6.blk
     have kg6 := N6.kept
     have log6 := N6.lo
     have ltg6 := Bg6.lt
     have szw7 := kg6.size
     have frg6 : w.heap.size ≤ g6 := Nat.le_trans HK.size log6
     have neg0_g6 : g0 ≠ g6 := by have := Bg0.lt; omega
     have negq_g6 : gq ≠ g6 := by have := BQ.lt; omega
     replace HK := HK.trans kg6 (by simp)
     replace Bg0 := Bg0.kept kg6 (by simp)
     replace BQ := BQ.kept kg6 (by simp)
     replace SU := SU.kept0 kg6
     clear N6 kg6
     refine R.one 9 (by kernel_rfl) ?_
     refine O.append f31 rfl wantedN (by decide) U25 wzib70_xg rfl rfl rfl rfl SU.own (Bg6.slN (size := 2) rfl) (by intro u hu; simp at hu; rcases hu with rfl | rfl <;> rfl) (by unfold maxLen; omega) (by omega) fun a32 w8 A8 c8 AP => ?_
     have szw8 := AP.kept.size
     have HKn := AP.grow SU HK
     have BQn := BQ.kept AP.kept (own_ne SU.own BQ (by decide))
     have Bg0n := Bg0.kept AP.kept (own_ne SU.own Bg0 (by decide))
     have SUn := AP.next SU HK.size
     refine ⟨trivial, fun f32 => ?_⟩
     clear f31 Bg6 HK SU BQ Bg0
     have HK := HKn
     have SU := SUn
     have BQ := BQn
     have Bg0 := Bg0n
     clear HKn SUn BQn Bg0n AP
     refine R.u 10 f32 rfl ht trivial (fun W hW => (E.fa 22 f32 U28 rfl wsz25_xg)) fun a33 f33 => ?_
     refine R.one 11 (by kernel_rfl) ?_
     refine OT.store f33 rfl wantedN wsz25_xg rfl rfl rfl BQ (by (simp [Value.cells]; done)) fun a34 w9 f34 NB9 ks9 => ?_
     have szw9 := ks9.size
     replace HK := HK.trans ks9 (ktr (by omega))
     replace Bg0 := Bg0.kept ks9 (by simp; omega)
     replace SU := fresh_blk SU ks9 BQ (by decide)
     replace BQ := NB9
     simp only [Value.cells, z1, z2, z3, Nat.reduceAdd, Nat.zero_add] at BQ
     clear ks9 f33 a33
     exact R.done (by kernel_rfl) (then_of (J := J17) (Q := fun _ _ _ => True) (by rw [hJ17]; exact ⟨l ++ [(filterS c, c % 2)], A8, c8, by unfold sub2; rw [if_pos (by assumption)], HK, Bg0, by rw [Pk.cells, List.length_append]; exact BQ, by rw [sub_cells, List.length_append]; exact SU, f34.sub (sub_cons rfl (sub_cons rfl (sub_cons rfl sn)))⟩))
    skip
    refine O.call f27 rfl rfl (by decide) wantedN (run_call Tryd.call35 (args1 f27 rfl)) (filterS_any c _ hc) ?_
    rintro e w6 ⟨kc6, rfl⟩
    refine ⟨_, rfl, trivial, fun a28 f28 => ?_⟩
    have szw6 := kc6.size
    replace HK := HK.trans kc6 (by simp)
    replace Bg0 := Bg0.kept kc6 (by simp)
    replace BQ := BQ.kept kc6 (by simp)
    replace SU := SU.kept0 kc6
    clear kc6
    refine R.u 7 f28 rfl ht trivial (fun W hW => (E.build f28 (parts2 f28 rfl rfl) (wbl70_0_1_xg _ _))) fun a29 f29 => ?_
    clear f27 a27 f28 a28
    refine R.two 1 8 (by kernel_rfl) ?_ ?_
    ·skip
     refine O.val f29 rfl rfl (by decide) wantedN (by exact E.ld f29 U25 (BQ)) trivial fun a30 f30 => ?_
     refine R.one 8 (by kernel_rfl) ?_
     refine O.buildSlice f30 rfl wantedN (by decide) (parts1 f30 rfl) U25 wzi70_xg rfl rfl (wbs25_1_xg _ _) (fun _ _ => trivial) fun a31 w7 g6 N6 hSn f31 => ?_
     clear hSn
     have Bg6 := N6.blk
     have kg6 := N6.kept
     have log6 := N6.lo
     have ltg6 := Bg6.lt
     have szw7 := kg6.size
     have frg6 : w.heap.size ≤ g6 := Nat.le_trans HK.size log6
     have neg0_g6 : g0 ≠ g6 := by have := Bg0.lt; omega
     have negq_g6 : gq ≠ g6 := by have := BQ.lt; omega
     replace HK := HK.trans kg6 (by simp)
     replace Bg0 := Bg0.kept kg6 (by simp)
     replace BQ := BQ.kept kg6 (by simp)
     replace SU := SU.kept0 kg6
     clear N6 kg6
     refine R.one 9 (by kernel_rfl) ?_
     refine O.append f31 rfl wantedN (by decide) U25 wzib70_xg rfl rfl rfl rfl SU.own (Bg6.slN (size := 2) rfl) (by intro u hu; simp at hu; rcases hu with rfl | rfl <;> rfl) (by unfold maxLen; omega) (by omega) fun a32 w8 A8 c8 AP => ?_
     have szw8 := AP.kept.size
     have HKn := AP.grow SU HK
     have BQn := BQ.kept AP.kept (own_ne SU.own BQ (by decide))
     have Bg0n := Bg0.kept AP.kept (own_ne SU.own Bg0 (by decide))
     have SUn := AP.next SU HK.size
     refine ⟨trivial, fun f32 => ?_⟩
     clear f31 Bg6 HK SU BQ Bg0
     have HK := HKn
     have SU := SUn
     have BQ := BQn
     have Bg0 := Bg0n
     clear HKn SUn BQn Bg0n AP
     refine R.u 10 f32 rfl ht trivial (fun W hW => (E.fa 22 f32 U28 rfl wsz25_xg)) fun a33 f33 => ?_
     refine R.one 11 (by kernel_rfl) ?_
     refine OT.store f33 rfl wantedN wsz25_xg rfl rfl rfl BQ (by (simp [Value.cells]; done)) fun a34 w9 f34 NB9 ks9 => ?_
     have szw9 := ks9.size
     replace HK := HK.trans ks9 (ktr (by omega))
     replace Bg0 := Bg0.kept ks9 (by simp; omega)
     replace SU := fresh_blk SU ks9 BQ (by decide)
     replace BQ := NB9
     simp only [Value.cells, z1, z2, z3, Nat.reduceAdd, Nat.zero_add] at BQ
     clear ks9 f33 a33
     exact R.done (by kernel_rfl) (then_of (J := J17) (Q := fun _ _ _ => True) (by rw [hJ17]; exact ⟨l ++ [(filterS c, c % 2)], A8, c8, by unfold sub2; rw [if_pos (by assumption)], HK, Bg0, by rw [Pk.cells, List.length_append]; exact BQ, by rw [sub_cells, List.length_append]; exact SU, f34.sub (sub_cons rfl (sub_cons rfl (sub_cons rfl sn)))⟩))
    skip
    refine O.buildSlice f29 rfl wantedN (by decide) (parts1 f29 rfl) U25 wzi70_xg rfl rfl (wbs25_1_xg _ _) (fun _ _ => trivial) fun a30 w7 g6 N6 hSn f30 => ?_
    clear hSn
    have Bg6 := N6.blk
    have kg6 := N6.kept
    have log6 := N6.lo
    have ltg6 := Bg6.lt
    have szw7 := kg6.size
    have frg6 : w.heap.size ≤ g6 := Nat.le_trans HK.size log6
    have neg0_g6 : g0 ≠ g6 := by have := Bg0.lt; omega
    have negq_g6 : gq ≠ g6 := by have := BQ.lt; omega
    replace HK := HK.trans kg6 (by simp)
    replace Bg0 := Bg0.kept kg6 (by simp)
    replace BQ := BQ.kept kg6 (by simp)
    replace SU := SU.kept0 kg6
    clear N6 kg6
    refine R.one 1 (by kernel_rfl) ?_
    refine O.val f30 rfl rfl (by decide) wantedN (by exact E.ld f30 U25 (BQ)) trivial fun a31 f31 => ?_
    refine R.one 9 (by kernel_rfl) ?_
    refine O.append f31 rfl wantedN (by decide) U25 wzib70_xg rfl rfl rfl rfl SU.own (Bg6.slN (size := 2) rfl) (by intro u hu; simp at hu; rcases hu with rfl | rfl <;> rfl) (by unfold maxLen; omega) (by omega) fun a32 w8 A8 c8 AP => ?_
    have szw8 := AP.kept.size
    have HKn := AP.grow SU HK
    have BQn := BQ.kept AP.kept (own_ne SU.own BQ (by decide))
    have Bg0n := Bg0.kept AP.kept (own_ne SU.own Bg0 (by decide))
    have SUn := AP.next SU HK.size
    refine ⟨trivial, fun f32 => ?_⟩
    clear f31 Bg6 HK SU BQ Bg0
    have HK := HKn
    have SU := SUn
    have BQ := BQn
    have Bg0 := Bg0n
    clear HKn SUn BQn Bg0n AP
    refine R.u 10 f32 rfl ht trivial (fun W hW => (E.fa 22 f32 U28 rfl wsz25_xg)) fun a33 f33 => ?_
    refine R.one 11 (by kernel_rfl) ?_
    refine OT.store f33 rfl wantedN wsz25_xg rfl rfl rfl BQ (by (simp [Value.cells]; done)) fun a34 w9 f34 NB9 ks9 => ?_
    have szw9 := ks9.size
    replace HK := HK.trans ks9 (ktr (by omega))
    replace Bg0 := Bg0.kept ks9 (by simp; omega)
    replace SU := fresh_blk SU ks9 BQ (by decide)
    replace BQ := NB9
    simp only [Value.cells, z1, z2, z3, Nat.reduceAdd, Nat.zero_add] at BQ
    clear ks9 f33 a33
    exact R.done (by kernel_rfl) (then_of (J := J17) (Q := fun _ _ _ => True) (by rw [hJ17]; exact ⟨l ++ [(filterS c, c % 2)], A8, c8, by unfold sub2; rw [if_pos (by assumption)], HK, Bg0, by rw [Pk.cells, List.length_append]; exact BQ, by rw [sub_cells, List.length_append]; exact SU, f34.sub (sub_cons rfl (sub_cons rfl (sub_cons rfl sn)))⟩))
   refine C.condF f22 rfl ?_
   exact wp_skip (then_of (J := J17) (Q := fun _ _ _ => True) (by rw [hJ17]; exact ⟨l, Aq, cq, by unfold sub2; rw [if_neg (by assumption)], HK, Bg0, BQ, SU, f22.sub (sub_cons rfl (sub_cons rfl (sub_cons rfl sn)))⟩))
  intro a18 w5 hj
  rw [hJ17] at hj
  clear hJ17 J17
  obtain ⟨l2, A2, c2, hl2, HK, Bg0, BQ, SU, f18⟩ := hj
  try clear f17
  replace BQ : Blk w5 gq 28 #[.int .i64 8, .bool false, .bool false, .int .i64 0, .int .i64 (b % 7 + 1), .string em, .slice none 0 0, .int .i64 0, .string em, .bool false, .int .i64 0, .bool false, .string em, .slice none 0 0, .int .i64 0, .bool false, .bool false, .bool false, .string em, .slice none 0 0, .bool false, .int .i64 0, .slice A2 l2.length c2, .slice none 0 0] := BQ
  have hll2 : l2.length ≤ 2 := by rw [hl2]; unfold sub2; split <;> simp [hll]
  obtain ⟨J19, hJ19⟩ : ∃ J : Act → World → Prop, J = fun a W => ∃ (l3 : List (ByteArray × Int)) (A3 : Option Addr) (c3 : Nat), l3 = sub3 c l2 ∧ Kept [] w W ∧ Blk W g0 28 zeroPk ∧ Blk W gq 28 (({ kind := 8, id := b % 7 + 1, subs := l3 } : Pk).cells { s0 with ua := A3, uc := c3 }) ∧ Fresh w W 70 2 A3 l3.length c3 (subCells l3) ∧ Fr 130 a [(10, .pointer (some ⟨g0, 0, none⟩)), (13, .pointer (some ⟨gq, 0, none⟩))] := ⟨_, rfl⟩
  refine C.cut J19 ?_ ?_
  ·skip
   refine wp_seq_k fun K15 hK15 => C.region ?_
   refine L.mv f18 fun a19 f19 => ?_
   refine L.va f19 (E.rem f19 rfl rfl (by omega) (Int.tmod_eq_emod_of_nonneg (by omega))) fun a20 f20 => ?_
   refine L.va f20 (E.eq f20) fun a21 f21 => ?_
   refine wpList_nil (hK15 _ _ ?_)
   have f22 := f21.sub (sc 10 (sc 13 (sc 77 sn)))
   clear f18 a18 f19 a19 f20 a20 f21
   refine f22.splitD 77 rfl (fun h9 f23 => ?_) (fun h9 f23 => ?_)
   ·refine C.condT f23 rfl ?_
    refine C.region ?_
    refine L.fa 22 f23 U28 rfl wsz25_xg fun a24 f24 => ?_
    refine L.ld f24 U25 BQ fun a25 f25 => ?_
    refine L.va f25 (E.build f25 (parts2 f25 rfl rfl) (wbl70_0_1_xg _ _)) fun a26 f26 => ?_
    refine L.buildSlice f26 wantedN (by decide) (parts1 f26 rfl) U25 wzi70_xg rfl rfl (wbs25_1_xg _ _) fun a27 w6 g5 N5 f27 => ?_
    have Bg5 := N5.blk
    have kg5 := N5.kept
    have log5 := N5.lo
    have ltg5 := Bg5.lt
    have szw6 := kg5.size
    have frg5 : w.heap.size ≤ g5 := Nat.le_trans HK.size log5
    have neg0_g5 : g0 ≠ g5 := by have := Bg0.lt; omega
    have negq_g5 : gq ≠ g5 := by have := BQ.lt; omega
    replace HK := HK.trans kg5 (by simp)
    replace Bg0 := Bg0.kept kg5 (by simp)
    replace BQ := BQ.kept kg5 (by simp)
    replace SU := SU.kept0 kg5
    clear N5 kg5
    refine L.append f27 wantedN (by decide) U25 wzib70_xg rfl rfl rfl rfl SU.own (Bg5.slN (size := 2) rfl) (by intro u hu; simp at hu; rcases hu with rfl | rfl <;> rfl) (by unfold maxLen; omega) (by omega) fun a28 w7 A7 c7 AP f28 => ?_
    have szw7 := AP.kept.size
    have HKn := AP.grow SU HK
    have BQn := BQ.kept AP.kept (own_ne SU.own BQ (by decide))
    have Bg0n := Bg0.kept AP.kept (own_ne SU.own Bg0 (by decide))
    have SUn := AP.next SU HK.size
    clear f27 Bg5 HK SU BQ Bg0
    have HK := HKn
    have SU := SUn
    have BQ := BQn
    have Bg0 := Bg0n
    clear HKn SUn BQn Bg0n AP
    refine L.fa 22 f28 U28 rfl wsz25_xg fun a29 f29 => ?_
    refine L.store f29 wantedN wsz25_xg rfl rfl rfl BQ (by (simp [Value.cells]; done)) fun a30 w8 f30 NB8 ks8 => ?_
    have szw8 := ks8.size
    replace HK := HK.trans ks8 (ktr (by omega))
    replace Bg0 := Bg0.kept ks8 (by simp; omega)
    replace SU := fresh_blk SU ks8 BQ (by decide)
    replace BQ := NB8
    simp only [Value.cells, z1, z2, z3, Nat.reduceAdd, Nat.zero_add] at BQ
    clear ks8 f29 a29
    exact wpList_nil (then_of (J := J19) (Q := fun _ _ _ => True) (by rw [hJ19]; exact ⟨l2 ++ [(⟨#[97, 35]⟩, 1)], A7, c7, by unfold sub3; rw [if_pos (by assumption)], HK, Bg0, by rw [Pk.cells, List.length_append]; exact BQ, by rw [sub_cells, List.length_append]; exact SU, f30.sub (sub_cons rfl (sub_cons rfl sn))⟩))
   refine C.condF f23 rfl ?_
   exact wp_skip (then_of (J := J19) (Q := fun _ _ _ => True) (by rw [hJ19]; exact ⟨l2, A2, c2, by unfold sub3; rw [if_neg (by assumption)], HK, Bg0, BQ, SU, f23.sub (sub_cons rfl (sub_cons rfl sn))⟩))
  intro a19 w6 hj
  rw [hJ19] at hj
  clear hJ19 J19
  obtain ⟨l3, A3, c3, hl3, HK, Bg0, BQ, SU, f19⟩ := hj
  try clear f18
  refine wp_seq_k fun K16 hK16 => C.region ?_
  refine L.va f19 (by exact E.loadB f19 U28 rfl wsz28_xg rfl (BQ) rfl) fun a20 f20 => ?_
  refine L.storeR f20 wantedN wsz28_xg rfl rfl rfl Bg0 rfl rfl fun a21 w7 f21 NB7 ks7 => ?_
  have szw7 := ks7.size
  replace HK := HK.trans ks7 (ktr (by omega))
  replace BQ := BQ.kept ks7 (by simp; omega)
  replace SU := fresh_blk SU ks7 Bg0 (by decide)
  replace Bg0 := NB7
  clear ks7 f20 a20
  refine wpList_nil (hK16 _ _ ?_)
  have f22 := f21.sub (sc 10 sn)
  refine wp_ret ?_
  try simp only [Exit.inBlock, Exit.then]
  refine C.retC (P := Tryd.prog) (fn := Tryd.f15) f22 rfl rfl Bg0 U28 rfl wsz28_xg ?_
  exact ⟨{ s0 with ua := A3, uc := c3 }, by rw [seat_sub hm, ← hl, ← hl2, ← hl3], HK, by rw [seat_sub hm, ← hl, ← hl2, ← hl3]; exact ⟨Sl.nil _ _ _, Sl.nil _ _ _, Sl.nil _ _ _, SU.sl, Sl.nil _ _ _⟩⟩
 refine C.condF f16 rfl ?_
 refine wp_seq_k fun K17 hK17 => C.region ?_
 refine L.va f16 (E.eq f16) fun a17 f17 => ?_
 refine L.ag f17 fun a18 f18 => ?_
 refine wpList_nil (hK17 _ _ ?_)
 have f19 := f18.sub (sc 1 (sc 2 (sc 3 (sc 4 (sc 10 (sc 11 (sc 19 (sc 85 sn))))))))
 clear f15 f16 a15 f17 a17 f18
 refine f19.splitD 85 rfl (fun h10 f20 => ?_) (fun h10 f20 => ?_)
 ·refine C.condT f20 rfl ?_
  refine wp_seq_k fun K18 hK18 => C.region ?_
  refine L.mv f20 fun a21 f21 => ?_
  refine L.mv f21 fun a22 f22 => ?_
  refine L.cl f22 (run_call Tryd.call35 (args1 f22 rfl)) (filterS_any a0_ _ ha0_) ?_
  clear f19 f20 a18 f21 a21
  rintro e w4 ⟨kc4, rfl⟩
  refine ⟨_, rfl, fun a23 f23 => ?_⟩
  have szw4 := kc4.size
  replace HK := HK.trans kc4 (by simp)
  replace Bg0 := Bg0.kept kc4 (by simp)
  clear kc4
  refine L.va f23 (E.build f23 (parts1 f23 rfl) (wbl70_0_xg _)) fun a24 f24 => ?_
  refine L.mv f24 fun a25 f25 => ?_
  refine L.cl f25 (run_call Tryd.call35 (args1 f25 rfl)) (filterS_any c _ hc) ?_
  clear f22 a22 f23 a23 f24 a24
  rintro e w5 ⟨kc5, rfl⟩
  refine ⟨_, rfl, fun a26 f26 => ?_⟩
  have szw5 := kc5.size
  replace HK := HK.trans kc5 (by simp)
  replace Bg0 := Bg0.kept kc5 (by simp)
  clear kc5
  refine L.va f26 (E.build f26 (parts1 f26 rfl) (wbl70_0_xg _)) fun a27 f27 => ?_
  refine L.buildSlice f27 wantedN (by decide) (parts2 f27 rfl rfl) U25 wzi70_xg rfl rfl (wbs25_2_xg _ _ _ _) fun a28 w6 g5 N5 f28 => ?_
  have Bg5 := N5.blk
  have kg5 := N5.kept
  have log5 := N5.lo
  have ltg5 := Bg5.lt
  have szw6 := kg5.size
  have frg5 : w.heap.size ≤ g5 := Nat.le_trans HK.size log5
  have neg0_g5 : g0 ≠ g5 := by have := Bg0.lt; omega
  replace HK := HK.trans kg5 (by simp)
  replace Bg0 := Bg0.kept kg5 (by simp)
  clear N5 kg5
  refine L.mv f28 fun a29 f29 => ?_
  refine L.va f29 (E.rem f29 rfl rfl (by omega) (Int.tmod_eq_emod_of_nonneg (by omega))) fun a30 f30 => ?_
  refine L.va f30 (E.add f30 rfl rfl (IntWalk.u8_in _ (by omega))) fun a31 f31 => ?_
  refine L.va f31 (E.slLhi f31 U25 wsz70_xg rfl rfl (by omega) (by omega) ) fun a32 f32 => ?_
  clear f25 a25 f26 a26 f27 a27 f28 a28 f29 a29 f30 a30 f31 a31
  refine L.va f32 (E.build f32 (parts3 f32 rfl rfl rfl) (wbl28_0_4_19_xg _ _ _ _ _)) fun a33 f33 => ?_
  refine L.storeR f33 wantedN wsz28_xg rfl rfl rfl Bg0 rfl rfl fun a34 w7 f34 NB7 ks7 => ?_
  have szw7 := ks7.size
  replace HK := HK.trans ks7 (ktr (by omega))
  replace Bg5 := Bg5.kept ks7 (by simp; omega)
  replace Bg0 := NB7
  clear ks7 f33 a33
  refine wpList_nil (hK18 _ _ ?_)
  have f35 := f34.sub (sc 10 sn)
  refine wp_ret ?_
  try simp only [Exit.inBlock, Exit.then]
  refine C.retC (P := Tryd.prog) (fn := Tryd.f15) f35 rfl rfl Bg0 U28 rfl wsz28_xg ?_
  clear f32 a32 f34
  refine ⟨{ s0 with ua := some ⟨g5, 0, none⟩, uc := 2 }, ?_, HK, ?_⟩
  ·rw [seat_uns (by assumption)]; unfold Pk.cells; simp only [uns_len]; rfl
  rw [seat_uns (by assumption)]; exact ⟨Sl.nil _ _ _, Sl.nil _ _ _, Sl.nil _ _ _, uns_sl Bg5, Sl.nil _ _ _⟩
 refine C.condF f20 rfl ?_
 refine wp_seq_k fun K19 hK19 => C.region ?_
 refine L.va f20 (E.eq f20) fun a21 f21 => ?_
 refine L.ag f21 fun a22 f22 => ?_
 refine wpList_nil (hK19 _ _ ?_)
 have f23 := f22.sub (sc 1 (sc 2 (sc 3 (sc 4 (sc 10 (sc 11 (sc 19 (sc 100 sn))))))))
 clear f19 f20 a18 f21 a21 f22
 refine f23.splitD 100 rfl (fun h11 f24 => ?_) (fun h11 f24 => ?_)
 ·refine C.condT f24 rfl ?_
  refine wp_seq_k fun K20 hK20 => C.region ?_
  refine L.mv f24 fun a25 f25 => ?_
  refine L.va f25 (E.build f25 (parts2 f25 rfl rfl) (wbl28_0_4_xg _ _)) fun a26 f26 => ?_
  refine L.storeR f26 wantedN wsz28_xg rfl rfl rfl Bg0 rfl rfl fun a27 w4 f27 NB4 ks4 => ?_
  have szw4 := ks4.size
  replace HK := HK.trans ks4 (ktr (by omega))
  replace Bg0 := NB4
  clear ks4 f26 a26
  refine wpList_nil (hK20 _ _ ?_)
  have f28 := f27.sub (sc 10 sn)
  refine wp_ret ?_
  try simp only [Exit.inBlock, Exit.then]
  refine C.retC (P := Tryd.prog) (fn := Tryd.f15) f28 rfl rfl Bg0 U28 rfl wsz28_xg ?_
  exact ⟨s0, by rw [seat_a (by assumption)]; rfl, HK, by rw [seat_a (by assumption)]; exact ⟨Sl.nil _ _ _, Sl.nil _ _ _, Sl.nil _ _ _, Sl.nil _ _ _, Sl.nil _ _ _⟩⟩
 refine C.condF f24 rfl ?_
 refine wp_seq_k fun K21 hK21 => C.region ?_
 refine L.va f24 (E.eq f24) fun a25 f25 => ?_
 refine L.ag f25 fun a26 f26 => ?_
 refine wpList_nil (hK21 _ _ ?_)
 have f27 := f26.sub (sc 1 (sc 2 (sc 3 (sc 4 (sc 10 (sc 11 (sc 19 (sc 104 sn))))))))
 clear f23 f24 a22 f25 a25 f26
 refine f27.splitD 104 rfl (fun h12 f28 => ?_) (fun h12 f28 => ?_)
 ·refine C.condT f28 rfl ?_
  refine wp_seq_k fun K22 hK22 => C.region ?_
  refine L.mv f28 fun a29 f29 => ?_
  refine L.va f29 (E.build f29 (parts2 f29 rfl rfl) (wbl28_0_4_xg _ _)) fun a30 f30 => ?_
  refine L.storeR f30 wantedN wsz28_xg rfl rfl rfl Bg0 rfl rfl fun a31 w4 f31 NB4 ks4 => ?_
  have szw4 := ks4.size
  replace HK := HK.trans ks4 (ktr (by omega))
  replace Bg0 := NB4
  clear ks4 f30 a30
  refine wpList_nil (hK22 _ _ ?_)
  have f32 := f31.sub (sc 10 sn)
  refine wp_ret ?_
  try simp only [Exit.inBlock, Exit.then]
  refine C.retC (P := Tryd.prog) (fn := Tryd.f15) f32 rfl rfl Bg0 U28 rfl wsz28_xg ?_
  exact ⟨s0, by rw [seat_r (by assumption)]; rfl, HK, by rw [seat_r (by assumption)]; exact ⟨Sl.nil _ _ _, Sl.nil _ _ _, Sl.nil _ _ _, Sl.nil _ _ _, Sl.nil _ _ _⟩⟩
 refine C.condF f28 rfl ?_
 refine wp_seq_k fun K23 hK23 => C.region ?_
 refine L.va f28 (E.eq f28) fun a29 f29 => ?_
 refine L.ag f29 fun a30 f30 => ?_
 refine wpList_nil (hK23 _ _ ?_)
 have f31 := f30.sub (sc 1 (sc 2 (sc 3 (sc 4 (sc 10 (sc 11 (sc 19 (sc 108 sn))))))))
 clear f27 f28 a26 f29 a29 f30
 refine f31.splitD 108 rfl (fun h13 f32 => ?_) (fun h13 f32 => ?_)
 ·refine C.condT f32 rfl ?_
  refine wp_seq_k fun K24 hK24 => C.region ?_
  refine L.mv f32 fun a33 f33 => ?_
  refine L.va f33 (E.build f33 (parts2 f33 rfl rfl) (wbl28_0_4_xg _ _)) fun a34 f34 => ?_
  refine L.storeR f34 wantedN wsz28_xg rfl rfl rfl Bg0 rfl rfl fun a35 w4 f35 NB4 ks4 => ?_
  have szw4 := ks4.size
  replace HK := HK.trans ks4 (ktr (by omega))
  replace Bg0 := NB4
  clear ks4 f34 a34
  refine wpList_nil (hK24 _ _ ?_)
  have f36 := f35.sub (sc 10 sn)
  refine wp_ret ?_
  try simp only [Exit.inBlock, Exit.then]
  refine C.retC (P := Tryd.prog) (fn := Tryd.f15) f36 rfl rfl Bg0 U28 rfl wsz28_xg ?_
  exact ⟨s0, by rw [seat_p (by assumption)]; rfl, HK, by rw [seat_p (by assumption)]; exact ⟨Sl.nil _ _ _, Sl.nil _ _ _, Sl.nil _ _ _, Sl.nil _ _ _, Sl.nil _ _ _⟩⟩
 refine C.condF f32 rfl ?_
 refine wp_seq_k fun K25 hK25 => C.region ?_
 refine L.va f32 (E.eq f32) fun a33 f33 => ?_
 refine L.ag f33 fun a34 f34 => ?_
 refine wpList_nil (hK25 _ _ ?_)
 have f35 := f34.sub (sc 1 (sc 2 (sc 3 (sc 4 (sc 10 (sc 19 (sc 112 sn)))))))
 clear f31 f32 a30 f33 a33 f34
 refine f35.splitD 112 rfl (fun h14 f36 => ?_) (fun h14 f36 => ?_)
 ·refine C.condT f36 rfl ?_
  refine wp_seq_k fun K26 hK26 => C.region ?_
  refine L.mv f36 fun a37 f37 => ?_
  refine L.va f37 (E.rem f37 rfl rfl (by omega) (Int.tmod_eq_emod_of_nonneg (by omega))) fun a38 f38 => ?_
  refine L.va f38 (E.conv f38 U5 U3 rfl (IntWalk.i64_in _ (by omega))) fun a39 f39 => ?_
  refine L.va f39 (E.add f39 rfl rfl (IntWalk.i64_in _ (by omega))) fun a40 f40 => ?_
  refine L.va f40 (E.build f40 (parts2 f40 rfl rfl) (wbl28_0_4_xg _ _)) fun a41 f41 => ?_
  refine L.storeR f41 wantedN wsz28_xg rfl rfl rfl Bg0 rfl rfl fun a42 w4 f42 NB4 ks4 => ?_
  have szw4 := ks4.size
  replace HK := HK.trans ks4 (ktr (by omega))
  replace Bg0 := NB4
  clear ks4 f41 a41
  refine wpList_nil (hK26 _ _ ?_)
  have f43 := f42.sub (sc 10 sn)
  refine wp_ret ?_
  try simp only [Exit.inBlock, Exit.then]
  refine C.retC (P := Tryd.prog) (fn := Tryd.f15) f43 rfl rfl Bg0 U28 rfl wsz28_xg ?_
  exact ⟨s0, by rw [seat_l (by assumption)]; rfl, HK, by rw [seat_l (by assumption)]; exact ⟨Sl.nil _ _ _, Sl.nil _ _ _, Sl.nil _ _ _, Sl.nil _ _ _, Sl.nil _ _ _⟩⟩
 refine C.condF f36 rfl ?_
 refine wp_seq_k fun K27 hK27 => C.region ?_
 refine L.va f36 (E.eq f36) fun a37 f37 => ?_
 refine L.ag f37 fun a38 f38 => ?_
 refine wpList_nil (hK27 _ _ ?_)
 have f39 := f38.sub (sc 1 (sc 2 (sc 3 (sc 4 (sc 10 (sc 19 (sc 119 sn)))))))
 clear f35 f36 a34 f37 a37 f38
 refine f39.splitD 119 rfl (fun h15 f40 => ?_) (fun h15 f40 => ?_)
 ·refine C.condT f40 rfl ?_
  refine wp_seq_k fun K28 hK28 => C.region ?_
  refine L.va f40 (E.build f40 (parts1 f40 rfl) (wbl28_0_xg _)) fun a41 f41 => ?_
  refine L.storeR f41 wantedN wsz28_xg rfl rfl rfl Bg0 rfl rfl fun a42 w4 f42 NB4 ks4 => ?_
  have szw4 := ks4.size
  replace HK := HK.trans ks4 (ktr (by omega))
  replace Bg0 := NB4
  clear ks4 f41 a41
  refine wpList_nil (hK28 _ _ ?_)
  have f43 := f42.sub (sc 10 sn)
  refine wp_ret ?_
  try simp only [Exit.inBlock, Exit.then]
  refine C.retC (P := Tryd.prog) (fn := Tryd.f15) f43 rfl rfl Bg0 U28 rfl wsz28_xg ?_
  exact ⟨s0, by rw [seat_q (by assumption)]; rfl, HK, by rw [seat_q (by assumption)]; exact ⟨Sl.nil _ _ _, Sl.nil _ _ _, Sl.nil _ _ _, Sl.nil _ _ _, Sl.nil _ _ _⟩⟩
 refine C.condF f40 rfl ?_
 refine wp_seq_k fun K29 hK29 => C.region ?_
 refine L.va f40 (E.eq f40) fun a41 f41 => ?_
 refine L.ag f41 fun a42 f42 => ?_
 refine wpList_nil (hK29 _ _ ?_)
 have f43 := f42.sub (sc 1 (sc 2 (sc 3 (sc 4 (sc 10 (sc 122 sn))))))
 clear f39 f40 a38 f41 a41 f42
 refine f43.splitD 122 rfl (fun h16 f44 => ?_) (fun h16 f44 => ?_)
 ·refine C.condT f44 rfl ?_
  refine wp_seq_k fun K30 hK30 => C.region ?_
  refine L.mv f44 fun a45 f45 => ?_
  refine L.mv f45 fun a46 f46 => ?_
  refine L.mv f46 fun a47 f47 => ?_
  refine L.mv f47 fun a48 f48 => ?_
  refine L.cl f48 (run_call Tryd.call36 (args4 f48 rfl rfl rfl rfl)) (seatcon_any a0_ b c x A cx _ (SX.kept HK) ha0_ hb hc) ?_
  clear f43 f44 a42 f45 a45 f46 a46 f47 a47
  rintro e w4 ⟨kc4, rfl⟩
  refine ⟨_, rfl, fun a49 f49 => ?_⟩
  have szw4 := kc4.size
  replace HK := HK.trans kc4 (by simp)
  replace Bg0 := Bg0.kept kc4 (by simp)
  clear kc4
  refine L.storeR f49 wantedN wsz28_xg rfl rfl rfl Bg0 rfl rfl fun a50 w5 f50 NB5 ks5 => ?_
  have szw5 := ks5.size
  replace HK := HK.trans ks5 (ktr (by omega))
  replace Bg0 := NB5
  clear ks5 f49 a49
  refine wpList_nil (hK30 _ _ ?_)
  have f51 := f50.sub (sc 10 sn)
  refine wp_ret ?_
  try simp only [Exit.inBlock, Exit.then]
  refine C.retC (P := Tryd.prog) (fn := Tryd.f15) f51 rfl rfl Bg0 U28 rfl wsz28_xg ?_
  exact ⟨adC b c A cx, by rw [seat_con (by assumption)], HK, by rw [seat_con (by assumption)]; exact seatcon_in (SX.kept HK)⟩
 refine C.condF f44 rfl ?_
 refine wp_skip (hK2 _ _ ?_)
 have f45 := f44.sub (sc 10 sn)
 refine wp_seq_k fun K31 hK31 => C.region ?_
 refine L.va f45 (E.build f45 (parts1 f45 rfl) (wbl28_0_xg _)) fun a46 f46 => ?_
 refine L.storeR f46 wantedN wsz28_xg rfl rfl rfl Bg0 rfl rfl fun a47 w4 f47 NB4 ks4 => ?_
 have szw4 := ks4.size
 replace HK := HK.trans ks4 (ktr (by omega))
 replace Bg0 := NB4
 clear ks4 f46 a46
 refine wpList_nil (hK31 _ _ ?_)
 have f48 := f47.sub (sc 10 sn)
 refine wp_ret ?_
 try simp only [Exit.inBlock, Exit.then]
 refine C.retC (P := Tryd.prog) (fn := Tryd.f15) f48 rfl rfl Bg0 U28 rfl wsz28_xg ?_
 have hd : 14 ≤ k % 15 := by omega
 exact ⟨s0, by rw [seat_d hd]; rfl, HK, by rw [seat_d hd]; exact ⟨Sl.nil _ _ _, Sl.nil _ _ _, Sl.nil _ _ _, Sl.nil _ _ _, Sl.nil _ _ _⟩⟩
end Go.Proofs.YtigjafbbnocihaaDoor
namespace Go.Proofs.YtigjafbbnocihaaDoor
open Go.RowKit Go.Hub Go.Lib Go.Vl
theorem p7_tx : p7.all txB = true := by kernel_rfl
theorem p10_tx : p10.all txB = true := by kernel_rfl
theorem p5_tx : p5.all txB = true := by kernel_rfl
theorem getD_mem (l : List ByteArray) (i : Nat) (h : i < l.length) : l.getD i em ∈ l := List.mem_of_getElem? (list_at l i h)
theorem topic_mem (k : Int) : topicS k ∈ p7 := getD_mem p7 _ (by show _ < 7; omega)
theorem filter_mem (k : Int) : filterS k ∈ p10 := getD_mem p10 _ (by show _ < 10; omega)
theorem cli_mem (k : Int) : cliS k ∈ p5 := getD_mem p5 _ (by show _ < 5; omega)
theorem topic_tx (k : Int) : txB (topicS k) = true := List.all_eq_true.1 p7_tx _ (topic_mem k)
theorem filter_tx (k : Int) : txB (filterS k) = true := List.all_eq_true.1 p10_tx _ (filter_mem k)
theorem cli_tx (k : Int) : txB (cliS k) = true := List.all_eq_true.1 p5_tx _ (cli_mem k)
theorem p7_sz : ∀ s ∈ p7, s.size ≤ 10 := by decide
theorem p10_sz : ∀ s ∈ p10, s.size ≤ 10 := by decide
theorem p5_sz : ∀ s ∈ p5, s.size ≤ 10 := by decide
theorem topic_sz (k : Int) : (topicS k).size ≤ 10 := p7_sz _ (topic_mem k)
theorem filter_sz (k : Int) : (filterS k).size ≤ 10 := p10_sz _ (filter_mem k)
theorem cli_sz (k : Int) : (cliS k).size ≤ 10 := p5_sz _ (cli_mem k)
theorem tx_ah : txB ⟨#[97, 35]⟩ = true := by kernel_rfl
theorem tx_u : txB ⟨#[117]⟩ = true := by kernel_rfl
section
variable {k a b c : Int} {x : List UInt8}
theorem pub_right (hx : x.length ≤ 1000) (hb : 0 ≤ b) (hc : 0 ≤ c) : RightP (seatPub a b c x) := by
  have ht := topic_tx a
  have hz := topic_sz a
  unfold seatPub
  split
  · rename_i h
    refine ⟨by simp [inB], by simp [bareP, h], ?_, ?_⟩
    · simp [valB, numB, inB, ht, h]; omega
    simp [behindL, numB, h, lumpL_len, twoL_len, bytes_len]; omega
  rename_i h
  refine ⟨by simp [inB], by simp [bareP, h], ?_, ?_⟩
  · simp [valB, numB, inB, ht, h]; omega
  simp [behindL, numB, h, lumpL_len, twoL_len, bytes_len]; omega
theorem pub_len (hx : x.length ≤ 1000) : (seatPub a b c x).Len := by
  have hz := topic_sz a
  unfold seatPub
  split <;> exact ⟨by show x.length ≤ _; omega, by simp, by simp, by simp, by simp, by show (topicS a).size ≤ _; omega, em_le, em_le, em_le, by simp⟩
def subOk (l : List (ByteArray × Int)) : Prop := ∀ y ∈ l, txB y.1 = true ∧ (0 ≤ y.2 ∧ y.2 ≤ 2) ∧ y.1.size ≤ 10
theorem sub_ok : subOk (sub3 c (sub2 c [(filterS a, b % 3)])) := by
  have h1 : subOk [(filterS a, b % 3)] := fun y hy => by
    obtain rfl := List.mem_singleton.1 hy
    exact ⟨filter_tx a, by simp only; omega, filter_sz a⟩
  have h2 : subOk (sub2 c [(filterS a, b % 3)]) := by
    unfold sub2
    split
    · intro y hy
      rcases List.mem_append.1 hy with hy | hy
      · exact h1 y hy
      obtain rfl := List.mem_singleton.1 hy
      exact ⟨filter_tx c, by simp only; omega, filter_sz c⟩
    exact h1
  unfold sub3
  split
  · intro y hy
    rcases List.mem_append.1 hy with hy | hy
    · exact h2 y hy
    obtain rfl := List.mem_singleton.1 hy
    exact ⟨tx_ah, by decide, by decide⟩
  exact h2
theorem sub_num : 0 < (sub3 c (sub2 c [(filterS a, b % 3)])).length ∧ (sub3 c (sub2 c [(filterS a, b % 3)])).length ≤ 3 := by
  unfold sub3 sub2
  repeat' split
  all_goals simp
theorem flatS_le (kd : Int) (l : List (ByteArray × Int)) (h : subOk l) : (l.flatMap (subL kd)).length ≤ 13 * l.length := by
  induction l with
  | nil => simp
  | cons y r ih =>
    have h1 := ih fun z hz => h z (List.mem_cons_of_mem _ hz)
    have h2 := (h y (List.mem_cons_self ..)).2.2
    have h3 : (subL kd y).length ≤ 13 := by
      unfold subL
      rw [List.length_append, lumpL_len, bytes_len]
      split <;> simp <;> omega
    rw [List.flatMap_cons, List.length_append, List.length_cons]
    omega
theorem subB_of (m : Int) (l : List (ByteArray × Int)) (h : ∀ y ∈ l, txB y.1 = true ∧ 0 ≤ y.2 ∧ y.2 ≤ m) : subB m l = true := by
  unfold subB
  rw [List.all_eq_true]
  intro y hy
  obtain ⟨h1, h2, h3⟩ := h y hy
  rw [h1, Bool.true_and]
  exact inB_iff.2 ⟨h2, h3⟩
theorem num_8 (k : Int) (h : 4 ≤ k ∧ k ≤ 11) (i : Int) (l : List (ByteArray × Int)) : numB { kind := k, id := i, subs := l } = true := by
  unfold numB
  simp only
  rw [if_neg (by omega)]
  exact inB_iff.2 h
theorem subs_right (kd : Int) (hk : kd = 8 ∨ kd = 10) (i : Int) (hi : 1 ≤ i ∧ i ≤ 65535) (l : List (ByteArray × Int)) (h : subOk l) (h0 : kd = 10 → ∀ y ∈ l, y.2 = 0) (hn : 0 < l.length ∧ l.length ≤ 3) : RightP { kind := kd, id := i, subs := l } := by
  have hnum := num_8 kd (by omega) i l
  refine ⟨inB_iff.2 (by constructor <;> (show _ ≤ _) <;> simp only <;> omega), ?_, ?_, ?_⟩
  · unfold bareP
    simp only
    rw [if_neg (by omega), if_neg (by omega), if_neg (by omega), if_pos hk]
  · unfold valB
    rw [hnum]
    simp only [Bool.not_true, Bool.false_or]
    rw [inB_iff.2 hi, Bool.true_and]
    rcases hk with rfl | rfl
    · rw [if_neg (by decide), if_neg (by decide), if_neg (by decide), if_pos rfl, subB_of 2 l fun y hy => ⟨(h y hy).1, (h y hy).2.1⟩, Bool.true_and]
      exact decide_eq_true hn.1
    rw [if_neg (by decide), if_neg (by decide), if_neg (by decide), if_neg (by decide), if_pos rfl, subB_of 0 l fun y hy => ⟨(h y hy).1, by rw [h0 rfl y hy]; decide⟩, Bool.true_and]
    exact decide_eq_true hn.1
  unfold behindL
  rw [hnum]
  simp only
  rw [if_neg (by omega), if_neg (by omega), if_neg (by omega)]
  have := flatS_le kd l h
  simp only [if_true, reduceIte, List.nil_append, List.length_append, twoL_len, List.map_nil, List.length_nil]
  omega
theorem uns_ok : subOk (unsL a c) ∧ (∀ y ∈ unsL a c, y.2 = 0) ∧ 0 < (unsL a c).length ∧ (unsL a c).length ≤ 3 := by
  unfold unsL
  split
  · refine ⟨fun y hy => ?_, fun y hy => ?_, by simp, by simp⟩
    · obtain rfl := List.mem_singleton.1 hy
      exact ⟨filter_tx a, by simp only; omega, filter_sz a⟩
    obtain rfl := List.mem_singleton.1 hy
    rfl
  refine ⟨fun y hy => ?_, fun y hy => ?_, by simp, by simp⟩
  · simp only [List.mem_cons, List.not_mem_nil, or_false] at hy
    rcases hy with rfl | rfl
    · exact ⟨filter_tx a, by simp only; omega, filter_sz a⟩
    exact ⟨filter_tx c, by simp only; omega, filter_sz c⟩
  simp only [List.mem_cons, List.not_mem_nil, or_false] at hy
  rcases hy with rfl | rfl <;> rfl
theorem id_right (kd : Int) (hk : 4 ≤ kd ∧ kd ≤ 7) (i : Int) (hi : 1 ≤ i ∧ i ≤ 65535) : RightP { kind := kd, id := i } := by
  have hnum := num_8 kd (by omega) i []
  refine ⟨inB_iff.2 (by constructor <;> (show _ ≤ _) <;> simp only <;> omega), ?_, ?_, ?_⟩
  · unfold bareP
    rw [hnum]
    simp only
    rw [if_neg (by omega), if_neg (by omega), if_neg (by omega), if_neg (by omega), if_neg (by omega)]
    rfl
  · unfold valB
    rw [hnum]
    simp only [Bool.not_true, Bool.false_or]
    rw [inB_iff.2 hi, Bool.true_and, if_neg (by omega), if_neg (by omega), if_neg (by omega), if_neg (by omega), if_neg (by omega), if_neg (by omega)]
  unfold behindL
  rw [hnum]
  simp only
  rw [if_neg (by omega), if_neg (by omega), if_neg (by omega)]
  simp [twoL_len]
theorem id_len (kd i : Int) : Pk.Len { kind := kd, id := i } := ⟨by simp, by simp, by simp, by simp, by simp, em_le, em_le, em_le, em_le, by simp⟩
theorem subs_len (kd i : Int) (l : List (ByteArray × Int)) (h : subOk l) (hn : l.length ≤ 3) : Pk.Len { kind := kd, id := i, subs := l } := ⟨by simp, by simp, by simp, by show l.length ≤ _; omega, by simp, em_le, em_le, em_le, em_le, fun y hy => by have := (h y hy).2.2; omega⟩
theorem seatcon_right (hx : x.length ≤ 1000) (ha : 0 ≤ a) (hc : 0 ≤ c) : RightP (seatCon a b c x) := by
  have t1 := topic_tx c
  have z1 := topic_sz c
  have t2 := cli_tx a
  have z2 := cli_sz a
  have t3 := tx_u
  have t4 := txB_em
  have e1 : con1 a b c = { kind := 1, level := 4, client := cliS a, clean := (if cliS a = em then decide (0 < b % 9) else decide (b % 2 = 0)), keep := c % 5 } := by unfold con1; split <;> rfl
  obtain ⟨cl, hcl⟩ : ∃ cl : Bool, cl = (if cliS a = em then decide (0 < b % 9) else decide (b % 2 = 0)) := ⟨_, rfl⟩
  rw [← hcl] at e1
  unfold seatCon
  rw [e1]
  unfold con4 con3 con2
  have hk5 : 0 ≤ c % 5 ∧ c % 5 ≤ 65535 := by omega
  have hw3 : 0 ≤ a % 3 ∧ a % 3 ≤ 2 := by omega
  by_cases h1 : c % 3 = 0 <;> by_cases h2 : a % 8 = 7 <;> by_cases h3 : b % 10 = 9 <;> simp only [h1, h2, h3, if_true, if_false, reduceIte] <;>
    refine ⟨by simp [inB], by simp [bareP], ?_, ?_⟩ <;>
    (first | (simp [valB, numB, inB, t1, t2, t3, t4, hk5, hw3]; done) | (simp [valB, numB, inB, t1, t2, t3, t4, hk5, hw3]; omega) | (simp [behindL, connL, numB, lumpL_len, twoL_len, bytes_len]; omega))
theorem seatcon_len (hx : x.length ≤ 1000) : (seatCon a b c x).Len := by
  have z1 := topic_sz c
  have z2 := cli_sz a
  have hu : (⟨#[117]⟩ : ByteArray).size ≤ 1000000 := by decide
  have h0 : (con1 a b c).Len := by
    unfold con1
    split <;> exact ⟨by simp, by simp, by simp, by simp, by simp, em_le, by show (cliS a).size ≤ _; omega, em_le, em_le, by simp⟩
  have h1 : (con2 a b c x (con1 a b c)).Len := by
    unfold con2
    split
    · exact ⟨h0.pay, by show x.length ≤ _; omega, h0.pass, h0.subs, h0.codes, h0.topic, h0.client, by show (topicS c).size ≤ _; omega, h0.user, h0.each⟩
    exact h0
  have h2 : (con3 a (con2 a b c x (con1 a b c))).Len := by
    unfold con3
    split
    · exact ⟨h1.pay, h1.wp, h1.pass, h1.subs, h1.codes, h1.topic, h1.client, h1.wt, h1.user, h1.each⟩
    exact h1
  unfold seatCon con4
  split
  · exact ⟨h2.pay, h2.wp, by show x.length ≤ _; omega, h2.subs, h2.codes, h2.topic, h2.client, h2.wt, hu, h2.each⟩
  exact h2
theorem seat_right (hk : 0 ≤ k) (ha : 0 ≤ a) (hb : 0 ≤ b) (hc : 0 ≤ c) (hx : x.length ≤ 1000) : RightP (seatP k a b c x) ∧ (seatP k a b c x).Len := by
  obtain ⟨u1, u2, u3, u4⟩ := uns_ok (a := a) (c := c)
  have s1 := sub_num (a := a) (b := b) (c := c)
  unfold seatP
  repeat' split
  · exact ⟨pub_right hx hb hc, pub_len hx⟩
  · exact ⟨subs_right 8 (.inl rfl) _ (by omega) _ sub_ok (fun h => by omega) s1, subs_len _ _ _ sub_ok s1.2⟩
  · exact ⟨subs_right 10 (.inr rfl) _ (by omega) _ u1 (fun _ => u2) ⟨u3, u4⟩, subs_len _ _ _ u1 u4⟩
  · exact ⟨id_right 4 (by decide) _ (by omega), id_len _ _⟩
  · exact ⟨id_right 5 (by decide) _ (by omega), id_len _ _⟩
  · exact ⟨id_right 7 (by decide) _ (by omega), id_len _ _⟩
  · exact ⟨id_right 6 (by decide) _ (by omega), id_len _ _⟩
  · exact ⟨rightK 12 (by decide), kindLen 12⟩
  · exact ⟨seatcon_right hx ha hc, seatcon_len hx⟩
  exact ⟨rightK 14 (by decide), kindLen 14⟩
end
end Go.Proofs.YtigjafbbnocihaaDoor
namespace Go.Proofs.YtigjafbbnocihaaDoor
open Go.RowKit Go.Hub Go.Lib Go.Vl
theorem wzib5_xi : (Tryd.prog.info? 5).map (fun i => (i.zero, i.size, i.bytes)) = some (some (.int .u8 0), 1, 1) := by kernel_rfl
theorem wsz28_xi : (Tryd.prog.info? 28).map (·.size) = some 24 := by kernel_rfl
theorem enc_le {p : Pk} (h : RightP p) : (encL p).length ≤ 8200 := by
  have h1 := h.len
  have h2 := szN_le ((behindL p).length : Int)
  unfold encL
  rw [List.length_append, List.length_cons, putL_len]
  omega
theorem two_end {p q : Pk} (hp : RightP p) (hq : RightP q) : (decide ((⟨(encL p).toArray⟩ : ByteArray) = ⟨(encL q).toArray⟩) == samePk p q) = true := by
  by_cases h : p = q
  · subst h
    rw [samePk_iff.2 rfl, decide_eq_true rfl]
    rfl
  rw [samePk_f h, decide_eq_false]
  · rfl
  intro e
  exact h (enc_inj hp hq (bytes_eq.1 e))
set_option maxRecDepth 100000 in
set_option maxHeartbeats 4000000 in
theorem two_walk (k a0_ b c j : Int) (x : List UInt8) (A : Option Addr) (cx : Nat) (w : World) (hT : Tabs w) (SX : Sl w A x.length 1 (x.map u8)) (hk : 0 ≤ k ∧ k < 256) (ha0_ : 0 ≤ a0_ ∧ a0_ < 256) (hb : 0 ≤ b ∧ b < 256) (hc : 0 ≤ c ∧ c < 256) (hj : 0 ≤ j ∧ j < 256) : Calls Tryd.prog 7 #[.int .u8 k, .int .u8 a0_, .int .u8 b, .int .u8 c, .int .u8 j, .slice A x.length cx] w (fun e w' => Kept [] w w' ∧ e = .returned (.bool true)) := by
 have HK : Kept [] w w := Kept.refl [] w
 refine C.enter Tryd.func7 rfl Tryd.ntmps7 rfl ?_
 intro a0 f0
 have f1 : Fr 89 a0 [(0, .int .u8 k), (1, .int .u8 a0_), (2, .int .u8 b), (3, .int .u8 c), (4, .int .u8 j), (5, .slice A x.length cx)] := f0
 refine wp_seq_k fun K0 hK0 => C.region ?_
 refine L.ag f1 fun a2 f2 => ?_
 refine wpList_nil (hK0 _ _ ?_)
 have f3 := f2.sub (sc 0 (sc 1 (sc 2 (sc 3 (sc 4 (sc 5 sn))))))
 refine wp_seq_k fun K1 hK1 => ?_
 refine wp_seq_k fun K2 hK2 => C.region ?_
 refine L.cl f3 (run_call Tryd.call13 (args0 f3)) (known_any _ (hT.old (HK.below (by simp) (Nat.le_refl _)))) ?_
 clear f0 f1 a0 f2
 rintro e w1 ⟨kc1, rfl⟩
 refine ⟨_, rfl, fun a4 f4 => ?_⟩
 have szw1 := kc1.size
 replace HK := HK.trans kc1 (by simp)
 clear kc1
 refine L.va f4 (E.not f4 rfl) fun a5 f5 => ?_
 refine wpList_nil (hK2 _ _ ?_)
 have f6 := f5.sub (sc 0 (sc 1 (sc 2 (sc 3 (sc 4 (sc 5 (sc 23 sn)))))))
 refine C.condF f6 rfl ?_
 refine wp_skip (hK1 _ _ ?_)
 have f7 := f6.sub (sc 0 (sc 1 (sc 2 (sc 3 (sc 4 (sc 5 sn))))))
 refine wp_seq_k fun K3 hK3 => ?_
 refine wp_seq_k fun K4 hK4 => C.region ?_
 refine L.mv f7 fun a8 f8 => ?_
 refine L.va f8 (E.lenL f8 U22 rfl) fun a9 f9 => ?_
 refine L.va f9 (E.gtr f9 rfl rfl) fun a10 f10 => ?_
 refine wpList_nil (hK4 _ _ ?_)
 have f11 := f10.sub (sc 0 (sc 1 (sc 2 (sc 3 (sc 4 (sc 5 (sc 26 sn)))))))
 clear f3 a2 f4 a4 f5 f6 f7 a5 f8 a8 f9 a9 f10
 refine f11.splitD 26 rfl (fun h0 f12 => ?_) (fun h0 f12 => ?_)
 ·refine C.condT f12 rfl ?_
  refine wp_seq_k fun K5 hK5 => C.region ?_
  refine L.ag f12 fun a13 f13 => ?_
  refine wpList_nil (hK5 _ _ ?_)
  have f14 := f13.sub (sc 12 sn)
  refine wp_ret ?_
  try simp only [Exit.inBlock, Exit.then]
  refine C.ret (P := Tryd.prog) (fn := Tryd.f7) f14 rfl rfl ?_
  exact ⟨HK, rfl⟩
 obtain ⟨rP, lP⟩ := seat_right (k := k) (a := a0_) (b := b) (c := c) (x := x) hk.1 ha0_.1 hb.1 hc.1 (by omega)
 obtain ⟨rQ, lQ⟩ := seat_right (k := j) (a := b) (b := c) (c := a0_) (x := x) hj.1 hb.1 hc.1 ha0_.1 (by omega)
 have eP := enc_le rP
 have eQ := enc_le rQ
 refine C.condF f12 rfl ?_
 refine wp_skip (hK3 _ _ ?_)
 have f13 := f12.sub (sc 0 (sc 1 (sc 2 (sc 3 (sc 4 (sc 5 sn))))))
 refine wp_seq_k fun K6 hK6 => C.region ?_
 refine L.mv f13 fun a14 f14 => ?_
 refine L.mv f14 fun a15 f15 => ?_
 refine L.mv f15 fun a16 f16 => ?_
 refine L.mv f16 fun a17 f17 => ?_
 refine L.mv f17 fun a18 f18 => ?_
 refine L.cl f18 (run_call Tryd.call15 (args5 f18 rfl rfl rfl rfl rfl)) (seat_any k a0_ b c x A cx _ (SX.kept HK) hk ha0_ hb hc) ?_
 clear f11 f12 f13 a10 f14 a14 f15 a15 f16 a16 f17 a17
 rintro e w2 ⟨sP, rfl, kc2, IP⟩
 refine ⟨_, rfl, fun a19 f19 => ?_⟩
 have szw2 := kc2.size
 replace HK := HK.trans kc2 (by simp)
 clear kc2
 refine L.mv f19 fun a20 f20 => ?_
 refine L.mv f20 fun a21 f21 => ?_
 refine L.mv f21 fun a22 f22 => ?_
 refine L.mv f22 fun a23 f23 => ?_
 refine L.mv f23 fun a24 f24 => ?_
 refine L.cl f24 (run_call Tryd.call15 (args5 f24 rfl rfl rfl rfl rfl)) (seat_any j b c a0_ x A cx _ (SX.kept HK) hj hb hc ha0_) ?_
 clear f18 a18 f19 a19 f20 a20 f21 a21 f22 a22 f23 a23
 rintro e w3 ⟨sQ, rfl, kc3, IQ⟩
 refine ⟨_, rfl, fun a25 f25 => ?_⟩
 have szw3 := kc3.size
 replace HK := HK.trans kc3 (by simp)
 replace IP := IP.kept kc3
 clear kc3
 refine L.alloc f25 wantedN (by decide) (z := (.agg #[(.int .i64 0), (.bool false), (.bool false), (.int .i64 0), (.int .i64 0), (.string ⟨#[]⟩), (.slice none 0 0), (.int .i64 0), (.string ⟨#[]⟩), (.bool false), (.int .i64 0), (.bool false), (.string ⟨#[]⟩), (.slice none 0 0), (.int .i64 0), (.bool false), (.bool false), (.bool false), (.string ⟨#[]⟩), (.slice none 0 0), (.bool false), (.int .i64 0), (.slice none 0 0), (.slice none 0 0)])) (fun _ => by kernel_rfl) rfl fun a26 w4 g3 N3 f26 => ?_
 have Bg3 := N3.blk
 have kg3 := N3.kept
 have log3 := N3.lo
 have ltg3 := Bg3.lt
 have szw4 := kg3.size
 have frg3 : w.heap.size ≤ g3 := Nat.le_trans HK.size log3
 have FIg3_IP := IP.far log3
 have FIg3_IQ := IQ.far log3
 replace HK := HK.trans kg3 (by simp)
 replace IP := IP.kept kg3
 replace IQ := IQ.kept kg3
 clear N3 kg3
 refine L.alloc f26 wantedN (by decide) (z := (.agg #[(.int .i64 0), (.bool false), (.bool false), (.int .i64 0), (.int .i64 0), (.string ⟨#[]⟩), (.slice none 0 0), (.int .i64 0), (.string ⟨#[]⟩), (.bool false), (.int .i64 0), (.bool false), (.string ⟨#[]⟩), (.slice none 0 0), (.int .i64 0), (.bool false), (.bool false), (.bool false), (.string ⟨#[]⟩), (.slice none 0 0), (.bool false), (.int .i64 0), (.slice none 0 0), (.slice none 0 0)])) (fun _ => by kernel_rfl) rfl fun a27 w5 g4 N4 f27 => ?_
 have Bg4 := N4.blk
 have kg4 := N4.kept
 have log4 := N4.lo
 have ltg4 := Bg4.lt
 have szw5 := kg4.size
 have frg4 : w.heap.size ≤ g4 := Nat.le_trans HK.size log4
 have neg3_g4 : g3 ≠ g4 := by have := Bg3.lt; omega
 have FIg4_IP := IP.far log4
 have FIg4_IQ := IQ.far log4
 replace HK := HK.trans kg4 (by simp)
 replace IP := IP.kept kg4
 replace IQ := IQ.kept kg4
 replace Bg3 := Bg3.kept kg4 (by simp)
 clear N4 kg4
 refine L.storeR f27 wantedN wsz28_xi rfl rfl rfl Bg3 rfl rfl fun a28 w6 f28 NB6 ks6 => ?_
 have szw6 := ks6.size
 replace HK := HK.trans ks6 (ktr (by omega))
 replace IP := IP.keptF ks6 FIg3_IP
 replace IQ := IQ.keptF ks6 FIg3_IQ
 replace Bg4 := Bg4.kept ks6 (by simp; omega)
 replace Bg3 := NB6
 clear ks6 f27 a27
 refine L.storeR f28 wantedN wsz28_xi rfl rfl rfl Bg4 rfl rfl fun a29 w7 f29 NB7 ks7 => ?_
 have szw7 := ks7.size
 replace HK := HK.trans ks7 (ktr (by omega))
 replace IP := IP.keptF ks7 FIg4_IP
 replace IQ := IQ.keptF ks7 FIg4_IQ
 replace Bg3 := Bg3.kept ks7 (by simp; omega)
 replace Bg4 := NB7
 clear ks7 f28 a28
 refine wpList_nil (hK6 _ _ ?_)
 have f30 := f29.sub (sc 13 (sc 14 sn))
 refine wp_seq_k fun K7 hK7 => C.region ?_
 refine L.va f30 (by exact E.loadB f30 U28 rfl wsz28_xi rfl (Bg3) rfl) fun a31 f31 => ?_
 have hC := (wput_any (seatP k a0_ b c x) sP w7 IP lP (hT.old (HK.below (by simp) (Nat.le_refl _)))).mono (fun _ _ h => putV_of (v := (encL (seatP k a0_ b c x), 0)) (putB_t (rightB_iff.2 rP)) h)
 refine L.cl f31 (run_call Tryd.call17 (args1 f31 rfl)) hC ?_
 clear f24 a24 f25 a25 f26 a26 f29 f30 a29
 rintro e w8 ⟨kc8, AF6, cF6, rfl, F6⟩
 refine ⟨_, rfl, fun a32 f32 => ?_⟩
 have szw8 := kc8.size
 replace HK := HK.trans kc8 (by simp)
 replace IP := IP.kept kc8
 replace IQ := IQ.kept kc8
 replace Bg3 := Bg3.kept kc8 (by simp)
 replace Bg4 := Bg4.kept kc8 (by simp)
 clear kc8
 refine L.mv f32 fun a33 f33 => ?_
 refine L.va f33 (E.extract f33 rfl rfl) fun a34 f34 => ?_
 refine L.va f34 (E.extract f34 rfl rfl) fun a35 f35 => ?_
 refine L.ag f35 fun a36 f36 => ?_
 refine L.ag f36 fun a37 f37 => ?_
 refine wpList_nil (hK7 _ _ ?_)
 have f38 := f37.sub (sc 13 (sc 14 (sc 15 (sc 16 sn))))
 refine wp_seq_k fun K8 hK8 => C.region ?_
 refine L.va f38 (by exact E.loadB f38 U28 rfl wsz28_xi rfl (Bg4) rfl) fun a39 f39 => ?_
 clear f31 a31 f32 a32 f33 a33 f34 a34 f35 a35 f36 a36 f37 f38 a37
 have hC := (wput_any (seatP j b c a0_ x) sQ w8 IQ lQ (hT.old (HK.below (by simp) (Nat.le_refl _)))).mono (fun _ _ h => putV_of (v := (encL (seatP j b c a0_ x), 0)) (putB_t (rightB_iff.2 rQ)) h)
 refine L.cl f39 (run_call Tryd.call17 (args1 f39 rfl)) hC ?_
 rintro e w9 ⟨kc9, AF7, cF7, rfl, F7⟩
 refine ⟨_, rfl, fun a40 f40 => ?_⟩
 have szw9 := kc9.size
 replace HK := HK.trans kc9 (by simp)
 replace IP := IP.kept kc9
 replace IQ := IQ.kept kc9
 replace Bg3 := Bg3.kept kc9 (by simp)
 replace Bg4 := Bg4.kept kc9 (by simp)
 replace F6 := F6.kept0 kc9
 clear kc9
 refine L.mv f40 fun a41 f41 => ?_
 refine L.va f41 (E.extract f41 rfl rfl) fun a42 f42 => ?_
 refine L.va f42 (E.extract f42 rfl rfl) fun a43 f43 => ?_
 refine L.ag f43 fun a44 f44 => ?_
 refine L.ag f44 fun a45 f45 => ?_
 refine wpList_nil (hK8 _ _ ?_)
 have f46 := f45.sub (sc 13 (sc 14 (sc 15 (sc 16 (sc 17 (sc 18 sn))))))
 refine wp_seq_k fun K9 hK9 => ?_
 have HK0 := HK
 replace HK : Kept [] w9 w9 := Kept.refl [] _
 have FZ := FB.nil w9 w9
 have FI6 := F6
 have FI7 := F7
 refine C.region ?_
 refine L.mv f46 fun a47 f47 => ?_
 clear f39 a39 f40 a40 f41 a41 f42 a42 f43 a43 f44 a44 f45 f46 a45
 refine L.append f47 wantedN (by decide) U22 wzib5_xi rfl rfl rfl rfl FZ.own (FI6.sl.kept HK) (u8_one) (by (simp [maxLen]; omega)) (by (simp [maxLen]; omega)) fun a48 w10 A10 c10 AP10 f48 => ?_
 have FN10 := AP10.nextB FZ HK.size (encL (seatP k a0_ b c x)) (rfl) (rfl)
 have kap10 := AP10.kept
 have szw10 := kap10.size
 replace HK := FZ.rel HK kap10
 clear f47 a47 kap10 AP10 FZ
 have f49 := f48.as (i := 51) rfl (sl_lenF FN10 (rfl))
 refine L.mv f49 fun a50 f50 => ?_
 refine L.append f50 wantedN (by decide) U22 wzib5_xi rfl rfl rfl rfl FN10.own (FI7.sl.kept HK) (u8_one) (by (simp [maxLen]; omega)) (by (simp [maxLen]; omega)) fun a51 w11 A11 c11 AP11 f51 => ?_
 have FN11 := AP11.nextB FN10 HK.size (encL (seatP j b c a0_ x)) (rfl) (rfl)
 have kap11 := AP11.kept
 have szw11 := kap11.size
 replace HK := FN10.rel HK kap11
 clear f50 a50 kap11 AP11 FN10
 have f52 := f51.as (i := 53) rfl (sl_lenF FN11 (rfl))
 have hcN := own_cap FN11.own
 have SN := FN11.sl
 replace IP := IP.kept HK
 replace IQ := IQ.kept HK
 replace Bg3 := Bg3.kept HK (by simp)
 replace Bg4 := Bg4.kept HK (by simp)
 replace F6 := F6.kept0 HK
 replace F7 := F7.kept0 HK
 have HKn := HK0.trans HK (by simp)
 clear HK
 have HK := HKn
 clear HKn
 have hex : readP (([] ++ encL (seatP k a0_ b c x)) ++ encL (seatP j b c a0_ x)) = (seatP k a0_ b c x, ((encL (seatP k a0_ b c x)).length : Int), 0) := read_enc rP _
 have hC := (wread_any (([] ++ encL (seatP k a0_ b c x)) ++ encL (seatP j b c a0_ x)) A11 c11 w11 SN hcN (by simp only [List.nil_append, List.length_append]; omega) (hT.old (HK.below (by simp) (Nat.le_refl _)))).mono (fun _ _ h => readV_of (v := (seatP k a0_ b c x, ((encL (seatP k a0_ b c x)).length : Int), 0)) hex h)
 refine L.cl f52 (run_call Tryd.call23 (args1 f52 rfl)) hC ?_
 clear f48 f49 a48 f51
 rintro e w12 ⟨kc12, hpl12, ss, rfl, IR⟩
 refine ⟨_, rfl, fun a53 f53 => ?_⟩
 have szw12 := kc12.size
 replace HK := HK.trans kc12 (by simp)
 replace IP := IP.kept kc12
 replace IQ := IQ.kept kc12
 replace Bg3 := Bg3.kept kc12 (by simp)
 replace Bg4 := Bg4.kept kc12 (by simp)
 replace F6 := F6.kept0 kc12
 replace F7 := F7.kept0 kc12
 clear kc12
 refine L.mv f53 fun a54 f54 => ?_
 refine L.va f54 (E.extract f54 rfl rfl) fun a55 f55 => ?_
 refine L.va f55 (E.extract f55 rfl rfl) fun a56 f56 => ?_
 refine L.va f56 (E.extract f56 rfl rfl) fun a57 f57 => ?_
 refine L.alloc f57 wantedN (by decide) (z := (.agg #[(.int .i64 0), (.bool false), (.bool false), (.int .i64 0), (.int .i64 0), (.string ⟨#[]⟩), (.slice none 0 0), (.int .i64 0), (.string ⟨#[]⟩), (.bool false), (.int .i64 0), (.bool false), (.string ⟨#[]⟩), (.slice none 0 0), (.int .i64 0), (.bool false), (.bool false), (.bool false), (.string ⟨#[]⟩), (.slice none 0 0), (.bool false), (.int .i64 0), (.slice none 0 0), (.slice none 0 0)])) (fun _ => by kernel_rfl) rfl fun a58 w13 g12 N12 f58 => ?_
 have Bg12 := N12.blk
 have kg12 := N12.kept
 have log12 := N12.lo
 have ltg12 := Bg12.lt
 have szw13 := kg12.size
 have frg12 : w.heap.size ≤ g12 := Nat.le_trans HK.size log12
 have neg3_g12 : g3 ≠ g12 := by have := Bg3.lt; omega
 have neg4_g12 : g4 ≠ g12 := by have := Bg4.lt; omega
 have FIg12_IP := IP.far log12
 have FIg12_IQ := IQ.far log12
 have FIg12_IR := IR.far log12
 replace HK := HK.trans kg12 (by simp)
 replace IP := IP.kept kg12
 replace IQ := IQ.kept kg12
 replace Bg3 := Bg3.kept kg12 (by simp)
 replace Bg4 := Bg4.kept kg12 (by simp)
 replace F6 := F6.kept0 kg12
 replace F7 := F7.kept0 kg12
 replace IR := IR.kept kg12
 clear N12 kg12
 refine L.storeR f58 wantedN wsz28_xi rfl rfl rfl Bg12 rfl rfl fun a59 w14 f59 NB14 ks14 => ?_
 have szw14 := ks14.size
 replace HK := HK.trans ks14 (ktr (by omega))
 replace IP := IP.keptF ks14 FIg12_IP
 replace IQ := IQ.keptF ks14 FIg12_IQ
 replace Bg3 := Bg3.kept ks14 (by simp; omega)
 replace Bg4 := Bg4.kept ks14 (by simp; omega)
 replace F6 := F6.keptB ks14 Bg12 (by decide)
 replace F7 := F7.keptB ks14 Bg12 (by decide)
 replace IR := IR.keptF ks14 FIg12_IR
 replace Bg12 := NB14
 clear ks14 f58 a58
 refine L.ag f59 fun a60 f60 => ?_
 clear f52 a51 f53 a53 f54 a54 f55 a55 f56 a56 f57 a57 f59 a59
 refine L.ag f60 fun a61 f61 => ?_
 refine wpList_nil (hK9 _ _ ?_)
 have f62 := f61.sub (sc 13 (sc 14 (sc 15 (sc 16 (sc 17 (sc 18 (sc 19 (sc 20 (sc 21 sn)))))))))
 refine wp_seq_k fun K10 hK10 => ?_
 refine wp_seq_k fun K11 hK11 => C.region ?_
 refine L.mv f62 fun a63 f63 => ?_
 refine L.va f63 (E.neq f63 rfl rfl) fun a64 f64 => ?_
 refine L.mv f64 fun a65 f65 => ?_
 have f66 := f65.as (i := 60) (v' := .bool false) rfl (by simp)
 refine L.mv f66 (hw := (f66.yes rfl rfl)) fun a67 f67 => ?_
 refine L.va f67 (E.neq f67 rfl rfl) (hw := (f67.yes rfl rfl)) fun a68 f68 => ?_
 clear f60 a60 f61 f62 a61 f63 a63 f64 a64 f65 f66 a65 f67 a67
 refine L.va f68 (E.pickF f68 rfl rfl) fun a69 f69 => ?_
 refine L.mv f69 fun a70 f70 => ?_
 have f71 := f70.as (i := 64) (v' := .bool false) rfl (by simp)
 refine L.mv f71 (hw := (f71.yes rfl rfl)) fun a72 f72 => ?_
 refine L.va f72 (E.neq f72 rfl rfl) (hw := (f72.yes rfl rfl)) fun a73 f73 => ?_
 refine L.va f73 (E.pickF f73 rfl rfl) fun a74 f74 => ?_
 refine L.mv f74 fun a75 f75 => ?_
 have f76 := f75.as (i := 68) (v' := .bool false) rfl (by simp)
 clear f68 a68 f69 a69 f70 f71 a70 f72 a72 f73 a73 f74 a74 f75
 refine L.mv f76 (hw := (f76.yes rfl rfl)) fun a77 f77 => ?_
 refine L.mv f77 (hw := (f77.yes rfl rfl)) fun a78 f78 => ?_
 refine L.va f78 (E.lenL f78 U22 rfl) (hw := (f78.yes rfl rfl)) fun a79 f79 => ?_
 refine L.va f79 (E.neq f79 rfl rfl) (hw := (f79.yes rfl rfl)) fun a80 f80 => ?_
 refine L.va f80 (E.pickF f80 rfl rfl) fun a81 f81 => ?_
 refine L.mv f81 fun a82 f82 => ?_
 have f83 := f82.as (i := 74) (v' := .bool false) rfl (by simp)
 refine L.va f83 (by exact E.loadB f83 U28 rfl wsz28_xi rfl (Bg12) rfl) (hw := (f83.yes rfl rfl)) fun a84 f84 => ?_
 clear f76 a75 f77 a77 f78 a78 f79 a79 f80 a80 f81 a81 f82 f83 a82
 refine L.va f84 (by exact E.loadB f84 U28 rfl wsz28_xi rfl (Bg3) rfl) (hw := (f84.yes rfl rfl)) fun a85 f85 => ?_
 refine L.cl f85 (run_call Tryd.call22 (args2 f85 rfl rfl)) (sameR_any (seatP k a0_ b c x) (seatP k a0_ b c x) ss sP _ IR IP lP.subs lP.codes) ?_ (hw := (f85.yes rfl rfl))
 clear f84 a84
 rintro e w15 ⟨kc15, rfl⟩
 refine ⟨_, rfl, fun a86 f86 => ?_⟩
 have szw15 := kc15.size
 replace HK := HK.trans kc15 (by simp)
 replace IP := IP.kept kc15
 replace IQ := IQ.kept kc15
 replace Bg3 := Bg3.kept kc15 (by simp)
 replace Bg4 := Bg4.kept kc15 (by simp)
 replace F6 := F6.kept0 kc15
 replace F7 := F7.kept0 kc15
 replace IR := IR.kept kc15
 replace Bg12 := Bg12.kept kc15 (by simp)
 clear kc15
 refine L.va f86 (E.not f86 rfl) (hw := (f86.yes rfl rfl)) fun a87 f87 => ?_
 refine L.va f87 (E.pickF f87 rfl rfl) fun a88 f88 => ?_
 have f89 := f88.as (i := 79) (v' := .bool false) rfl (by rw [samePk_iff.2 rfl]; rfl)
 refine wpList_nil (hK11 _ _ ?_)
 have f90 := f89.sub (sc 13 (sc 14 (sc 15 (sc 17 (sc 79 sn)))))
 refine C.condF f90 rfl ?_
 refine wp_skip (hK10 _ _ ?_)
 have f91 := f90.sub (sc 13 (sc 14 (sc 15 (sc 17 sn))))
 refine wp_seq_k fun K12 hK12 => ?_
 refine R.beginT (S := fun W => Kept [] w15 W) (by kernel_rfl) (by kernel_rfl) (by exact (Kept.refl _ _).drewN 1) fun ht => ?_
 have hS11 : Kept [] w15 (w15.drewN 1) := (Kept.refl _ _).drewN 1
 have hd11 : Kept [] w15 (w15.drewN 1) := (Kept.refl _ _).drewN 1
 obtain ⟨w16, hww16⟩ : ∃ W, W = w15.drewN 1 := ⟨_, rfl⟩
 rw [← hww16] at hS11 hd11 ⊢
 clear hww16
 have szw16 := hS11.size
 refine R.u 0 f91 rfl ht hS11 (fun W hW => (E.move f91 rfl)) fun a92 f92 => ?_
 refine R.u 1 f92 rfl ht hS11 (fun W hW => (E.toStr f92 rfl U22 U5 U9 ((F6.sl.kept hW)))) fun a93 f93 => ?_
 refine R.u 2 f93 rfl ht hS11 (fun W hW => (E.move f93 rfl)) fun a94 f94 => ?_
 clear f85 a85 f86 a86 f87 a87 f88 f89 f90 f91 a88 f92 a92 f93 a93
 refine R.u 3 f94 rfl ht hS11 (fun W hW => (E.toStr f94 rfl U22 U5 U9 ((F7.sl.kept hW)))) fun a95 f95 => ?_
 refine R.u 4 f95 rfl ht hS11 (fun W hW => (E.eqlS f95 rfl rfl)) fun a96 f96 => ?_
 refine R.u 5 f96 rfl ht hS11 (fun W hW => (by exact E.loadB f96 U28 rfl wsz28_xi rfl (Bg3.kept hW (by simp)) rfl)) fun a97 f97 => ?_
 refine R.u 6 f97 rfl ht hS11 (fun W hW => (by exact E.loadB f97 U28 rfl wsz28_xi rfl (Bg4.kept hW (by simp)) rfl)) fun a98 f98 => ?_
 refine R.call 7 f98 rfl rfl (by decide) (by kernel_rfl) wantedN (run_call Tryd.call21 (args2 f98 rfl rfl)) (same_any (seatP k a0_ b c x) (seatP j b c a0_ x) sP sQ _ (IP.kept hS11) (IQ.kept hS11) lP.subs lP.codes) ?_
 clear f94 a94 f95 a95 f96 a96 f97 a97
 rintro e w17 ⟨kc17, rfl⟩
 replace hS11 := hS11.trans kc17 (by simp)
 refine ⟨_, rfl, hS11, fun a99 f99 => ?_⟩
 have szw17 := kc17.size
 clear kc17
 refine R.u 8 f99 rfl ht hS11 (fun W hW => (E.eqlB f99 U4 rfl rfl)) fun a100 f100 => ?_
 refine R.u 9 f100 rfl ht hS11 (fun W hW => (E.assign f100 rfl)) fun a101 f101 => ?_
 have szw17r := hS11.size
 replace HK := HK.trans hS11 (by simp)
 replace IP := IP.kept hS11
 replace IQ := IQ.kept hS11
 replace Bg3 := Bg3.kept hS11 (by simp)
 replace Bg4 := Bg4.kept hS11 (by simp)
 replace F6 := F6.kept0 hS11
 replace F7 := F7.kept0 hS11
 replace IR := IR.kept hS11
 replace Bg12 := Bg12.kept hS11 (by simp)
 clear hS11
 refine R.done (by kernel_rfl) (hK12 _ _ ?_)
 have f102 := f101.sub (sc 12 sn)
 refine wp_ret ?_
 try simp only [Exit.inBlock, Exit.then]
 refine C.ret (P := Tryd.prog) (fn := Tryd.f7) f102 rfl rfl ?_
 exact ⟨HK, by rw [two_end rP rQ]⟩
end Go.Proofs.YtigjafbbnocihaaDoor
namespace Go.Proofs.YtigjafbbnocihaaDoor
open Go.RowKit Go.Hub Go.Lib Go.Shelf Go.ChangeShapes Go.WideShapes Go.Deep
theorem two_row {k a b c j : Int} {v : Value} {w : World} (hT : Tabs w) (w0 : (Lit.int .u8 k).wf = true) (w1 : (Lit.int .u8 a).wf = true) (w2 : (Lit.int .u8 b).wf = true) (w3 : (Lit.int .u8 c).wf = true) (w4 : (Lit.int .u8 j).wf = true) (h : IsBs w v) : Calls Tryd.prog 7 #[.int .u8 k, .int .u8 a, .int .u8 b, .int .u8 c, .int .u8 j, v] w fun e w' => e = .returned (.bool true) ∧ Below w.heap.size w w' := by
  obtain ⟨us, A, c', rfl, h, _⟩ := h
  exact (two_walk k a b c j us A c' w hT h (bd8 w0) (bd8 w1) (bd8 w2) (bd8 w3) (bd8 w4)).mono fun _ _ => end_of
end Go.Proofs.YtigjafbbnocihaaDoor
