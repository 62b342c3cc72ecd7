/- Merged by program (shrink.py): contracts and plain laws that the claim's statement uses, part 6. -/
import Derived.Test.YtkdeedhjkjffpaaMc5
set_option linter.all false

namespace Go.Proofs.Ytkdeedhjkjffpaa
open Go.RowKit Go.Hub Go.Lib Go.Vl
theorem wzib46_xg : (Try.prog.info? 46).map (fun i => (i.zero, i.size, i.bytes)) = some (some (.agg #[(.string ⟨#[]⟩), (.int .i64 0)]), 2, 24) := by kernel_rfl
theorem wzi46_xg : (Try.prog.info? 46).map (fun i => (i.zero, i.size)) = some (some (.agg #[(.string ⟨#[]⟩), (.int .i64 0)]), 2) := by kernel_rfl
theorem wbs31_1_xg (x0_0 x0_1 : Value) : Instr.fill (fun i => some (i * 2, 2)) ((Array.range (1 * 2)).map fun j => (Value.cells (.agg #[(.string ⟨#[]⟩), (.int .i64 0)]))[j % (Value.cells (.agg #[(.string ⟨#[]⟩), (.int .i64 0)])).size]!) [(0, .agg #[x0_0, x0_1])] = some #[x0_0, x0_1] := by kernel_rfl
theorem wbs31_2_xg (x0_0 x0_1 : Value) (x1_0 x1_1 : Value) : Instr.fill (fun i => some (i * 2, 2)) ((Array.range (2 * 2)).map fun j => (Value.cells (.agg #[(.string ⟨#[]⟩), (.int .i64 0)]))[j % (Value.cells (.agg #[(.string ⟨#[]⟩), (.int .i64 0)])).size]!) [(0, .agg #[x0_0, x0_1]), (1, .agg #[x1_0, x1_1])] = some #[x0_0, x0_1, x1_0, x1_1] := by kernel_rfl
theorem wsz3_xg : (Try.prog.info? 3).map (·.size) = some 1 := by kernel_rfl
theorem wsz4_xg : (Try.prog.info? 4).map (·.size) = some 1 := by kernel_rfl
theorem wsz31_xg : (Try.prog.info? 31).map (·.size) = some 1 := by kernel_rfl
theorem wsz34_xg : (Try.prog.info? 34).map (·.size) = some 24 := by kernel_rfl
theorem wsz46_xg : (Try.prog.info? 46).map (·.size) = some 2 := by kernel_rfl
theorem wbl34_0_xg (x0 : Int) : Try.prog.built 34 [(0, .int .i64 x0)] = some #[.int .i64 x0, (.bool false), (.bool false), (.int .i64 0), (.int .i64 0), (.string ⟨#[]⟩), (.slice none 0 0), (.int .i64 0), (.string ⟨#[]⟩), (.bool false), (.int .i64 0), (.bool false), (.string ⟨#[]⟩), (.slice none 0 0), (.int .i64 0), (.bool false), (.bool false), (.bool false), (.string ⟨#[]⟩), (.slice none 0 0), (.bool false), (.int .i64 0), (.slice none 0 0), (.slice none 0 0)] := by kernel_rfl
theorem wbl34_0_4_xg (x0 : Int) (x1 : Int) : Try.prog.built 34 [(0, .int .i64 x0), (4, .int .i64 x1)] = some #[.int .i64 x0, (.bool false), (.bool false), (.int .i64 0), .int .i64 x1, (.string ⟨#[]⟩), (.slice none 0 0), (.int .i64 0), (.string ⟨#[]⟩), (.bool false), (.int .i64 0), (.bool false), (.string ⟨#[]⟩), (.slice none 0 0), (.int .i64 0), (.bool false), (.bool false), (.bool false), (.string ⟨#[]⟩), (.slice none 0 0), (.bool false), (.int .i64 0), (.slice none 0 0), (.slice none 0 0)] := by kernel_rfl
theorem wbl34_0_4_19_xg (x0 : Int) (x1 : Int) (x2 : Option Addr) (y2 z2 : Nat) : Try.prog.built 34 [(0, .int .i64 x0), (4, .int .i64 x1), (19, .slice x2 y2 z2)] = some #[.int .i64 x0, (.bool false), (.bool false), (.int .i64 0), .int .i64 x1, (.string ⟨#[]⟩), (.slice none 0 0), (.int .i64 0), (.string ⟨#[]⟩), (.bool false), (.int .i64 0), (.bool false), (.string ⟨#[]⟩), (.slice none 0 0), (.int .i64 0), (.bool false), (.bool false), (.bool false), (.string ⟨#[]⟩), (.slice none 0 0), (.bool false), (.int .i64 0), .slice x2 y2 z2, (.slice none 0 0)] := by kernel_rfl
theorem wbl34_0_5_6_3_2_xg (x0 : Int) (x1 : ByteArray) (x2 : Option Addr) (y2 z2 : Nat) (x3 : Int) (x4 : Bool) : Try.prog.built 34 [(0, .int .i64 x0), (5, .string x1), (6, .slice x2 y2 z2), (3, .int .i64 x3), (2, .bool x4)] = some #[.int .i64 x0, (.bool false), .bool x4, .int .i64 x3, (.int .i64 0), .string x1, .slice x2 y2 z2, (.int .i64 0), (.string ⟨#[]⟩), (.bool false), (.int .i64 0), (.bool false), (.string ⟨#[]⟩), (.slice none 0 0), (.int .i64 0), (.bool false), (.bool false), (.bool false), (.string ⟨#[]⟩), (.slice none 0 0), (.bool false), (.int .i64 0), (.slice none 0 0), (.slice none 0 0)] := by kernel_rfl
theorem wbl46_0_xg (x0 : ByteArray) : Try.prog.built 46 [(0, .string x0)] = some #[.string x0, (.int .i64 0)] := by kernel_rfl
theorem wbl46_0_1_xg (x0 : ByteArray) (x1 : Int) : Try.prog.built 46 [(0, .string x0), (1, .int .i64 x1)] = some #[.string x0, .int .i64 x1] := by kernel_rfl
theorem kept_same {B : Nat} {w w' : World} (hk : Kept [] w w') : Same [5, 46, 3] B w w' := Same.of_kept hk (by simp)
theorem Cs.of_sl {E : List TypeId} {B : Nat} {w : World} {A : Option Addr} {n size : Nat} {xs : List Value} (h : Sl w A n size xs) (ht : ∀ b, A.map (·.block) = some b → Typ w b E) : Cs E B w A n size xs :=
  ⟨h.1, fun hn => by
    obtain ⟨b, off, e, hb, hc⟩ := h.2 hn
    subst e
    exact ⟨b, off, rfl, hb, .inr (ht b rfl), hc⟩⟩
theorem typ_blk {w : World} {g t : Nat} {cs : Array Value} (B : Blk w g t cs) (h : t ∈ [5, 46, 3]) : ∀ b, (some (⟨g, 0, none⟩ : Addr)).map (·.block) = some b → Typ w b [5, 46, 3] := fun b hb => by
  injection hb with hb
  subst hb
  exact ⟨cs, t, _, B, h⟩
def SeatS (B : Nat) (p : Pk) (w : World) (e : Ending) (w' : World) : Prop := ∃ s, e = .returned (.agg (p.cells s)) ∧ Kept [] w w' ∧ PkS B w' p s
def seatPub (a b c : Int) (x : List UInt8) : Pk := if 0 < b % 3 then { kind := 3, topic := topicS a, pay := x, qos := b % 3, retain := decide (c % 2 = 0), id := c % 5 + 1, dup := decide (c % 7 = 0) } else { kind := 3, topic := topicS a, pay := x, qos := b % 3, retain := decide (c % 2 = 0) }
def sub2 (c : Int) (l : List (ByteArray × Int)) : List (ByteArray × Int) := if c % 3 = 0 then l ++ [(filterS c, c % 2)] else l
def sub3 (c : Int) (l : List (ByteArray × Int)) : List (ByteArray × Int) := if c % 11 = 0 then l ++ [(⟨#[97, 35]⟩, 1)] else l
def unsL (a c : Int) : List (ByteArray × Int) := if c % 2 = 0 then [(filterS a, 0)] else [(filterS a, 0), (filterS c, 0)]
def seatP (k a b c : Int) (x : List UInt8) : Pk :=
  if k % 15 ≤ 3 then seatPub a b c x
  else if k % 15 ≤ 6 then { kind := 8, id := b % 7 + 1, subs := sub3 c (sub2 c [(filterS a, b % 3)]) }
  else if k % 15 = 7 then { kind := 10, id := b % 7 + 1, subs := unsL a c }
  else if k % 15 = 8 then { kind := 4, id := b % 7 + 1 }
  else if k % 15 = 9 then { kind := 5, id := b % 7 + 1 }
  else if k % 15 = 10 then { kind := 7, id := b % 7 + 1 }
  else if k % 15 = 11 then { kind := 6, id := c % 5 + 1 }
  else if k % 15 = 12 then { kind := 12 }
  else if k % 15 = 13 then seatCon a b c x
  else { kind := 14 }
section
variable {k a b c : Int} {x : List UInt8}
theorem seat_pub (h : k % 15 ≤ 3) : seatP k a b c x = if 0 < b % 3 then { kind := 3, topic := topicS a, pay := x, qos := b % 3, retain := decide (c % 2 = 0), id := c % 5 + 1, dup := decide (c % 7 = 0) } else { kind := 3, topic := topicS a, pay := x, qos := b % 3, retain := decide (c % 2 = 0) } := by unfold seatP; rw [if_pos h]; rfl
theorem seat_sub (h : 4 ≤ k % 15 ∧ k % 15 ≤ 6) : seatP k a b c x = { kind := 8, id := b % 7 + 1, subs := sub3 c (sub2 c [(filterS a, b % 3)]) } := by unfold seatP; rw [if_neg (by omega), if_pos h.2]
theorem seat_uns (h : k % 15 = 7) : seatP k a b c x = { kind := 10, id := b % 7 + 1, subs := unsL a c } := by unfold seatP; rw [if_neg (by omega), if_neg (by omega), if_pos h]
theorem seat_a (h : k % 15 = 8) : seatP k a b c x = { kind := 4, id := b % 7 + 1 } := by unfold seatP; rw [if_neg (by omega), if_neg (by omega), if_neg (by omega), if_pos h]
theorem seat_r (h : k % 15 = 9) : seatP k a b c x = { kind := 5, id := b % 7 + 1 } := by unfold seatP; rw [if_neg (by omega), if_neg (by omega), if_neg (by omega), if_neg (by omega), if_pos h]
theorem seat_p (h : k % 15 = 10) : seatP k a b c x = { kind := 7, id := b % 7 + 1 } := by unfold seatP; rw [if_neg (by omega), if_neg (by omega), if_neg (by omega), if_neg (by omega), if_neg (by omega), if_pos h]
theorem seat_l (h : k % 15 = 11) : seatP k a b c x = { kind := 6, id := c % 5 + 1 } := by unfold seatP; rw [if_neg (by omega), if_neg (by omega), if_neg (by omega), if_neg (by omega), if_neg (by omega), if_neg (by omega), if_pos h]
theorem seat_q (h : k % 15 = 12) : seatP k a b c x = { kind := 12 } := by unfold seatP; rw [if_neg (by omega), if_neg (by omega), if_neg (by omega), if_neg (by omega), if_neg (by omega), if_neg (by omega), if_neg (by omega), if_pos h]
theorem seat_con (h : k % 15 = 13) : seatP k a b c x = seatCon a b c x := by unfold seatP; rw [if_neg (by omega), if_neg (by omega), if_neg (by omega), if_neg (by omega), if_neg (by omega), if_neg (by omega), if_neg (by omega), if_neg (by omega), if_pos h]
theorem seat_d (h : 14 ≤ k % 15) : seatP k a b c x = { kind := 14 } := by unfold seatP; rw [if_neg (by omega), if_neg (by omega), if_neg (by omega), if_neg (by omega), if_neg (by omega), if_neg (by omega), if_neg (by omega), if_neg (by omega), if_neg (by omega)]
end
theorem uns_len (a c : Int) : (unsL a c).length = (1 + c % 2).toNat := by
  unfold unsL
  rcases (by omega : c % 2 = 0 ∨ c % 2 = 1) with h | h
  · rw [if_pos h, h]; rfl
  rw [if_neg (by omega), h]; rfl
theorem uns_sl {w : World} {g : Nat} {a c : Int} (B : Blk w g 46 #[.string (filterS a), .int .i64 0, .string (filterS c), .int .i64 0]) : Sl w (some ⟨g, 0, none⟩) (unsL a c).length 2 (subCells (unsL a c)) := by
  unfold unsL
  split
  · exact ⟨rfl, fun _ => ⟨g, 0, rfl, B.lt, fun j u hu => by
      rw [Nat.zero_add]
      refine B.cl ?_
      match j, hu with
      | 0, hu => exact hu
      | 1, hu => exact hu
      | n + 2, hu => simp [subCells] at hu⟩⟩
  exact B.slN (n := 2) (size := 2) rfl
theorem sub_cells (l : List (ByteArray × Int)) (x : ByteArray × Int) : subCells (l ++ [x]) = subCells l ++ [.string x.1, .int .i64 x.2] := by simp [subCells]
theorem su_one {w w1 w2 : World} {g : Nat} {s : ByteArray} {i : Int} (hs : w.heap.size ≤ w1.heap.size) (N : Newb w1 w2 g 46 #[.string s, .int .i64 i]) : Fresh w w2 46 2 (some ⟨g, 0, none⟩) ([(s, i)] : List (ByteArray × Int)).length 1 (subCells [(s, i)]) :=
  ⟨N.own (k := 1) (size := 2) rfl (by decide), fun b hb => by
    simp at hb
    subst hb
    exact Nat.le_trans hs N.lo⟩
set_option maxRecDepth 100000 in
set_option maxHeartbeats 8000000 in
theorem seat_any (B0 : Nat) (k a0_ b c : Int) (x : List UInt8) (A : Option Addr) (cx : Nat) (w : World) (SX : Bs [5, 46, 3] B0 w A x.length x) (hk : 0 ≤ k ∧ k < 256) (ha0_ : 0 ≤ a0_ ∧ a0_ < 256) (hb : 0 ≤ b ∧ b < 256) (hc : 0 ≤ c ∧ c < 256) : Calls Try.prog 20 #[.int .u8 k, .int .u8 a0_, .int .u8 b, .int .u8 c, .slice A x.length cx] w (SeatS B0 (seatP k a0_ b c x) w) := by
 have HK : Kept [] w w := Kept.refl [] w
 refine C.enter Try.func20 rfl Try.ntmps20 rfl ?_
 intro a0 f0
 have f1 : Fr 130 a0 [(0, .int .u8 k), (1, .int .u8 a0_), (2, .int .u8 b), (3, .int .u8 c), (4, .slice A x.length cx)] := f0
 refine C.sk fun K0 hK0 => ?_
 refine L.alloc f1 wantedN (by decide) (z := z34) (fun _ => by kernel_rfl) rfl fun a2 w1 g0 N0 f2 => ?_
 have Bg0 := N0.blk
 have kg0 := N0.kept
 have log0 := N0.lo
 have ltg0 := Bg0.lt
 have szw1 := kg0.size
 have frg0 : w.heap.size ≤ g0 := Nat.le_trans HK.size log0
 replace HK := HK.z kg0
 clear f0 N0 kg0
 have f3 := f2.sub (sc 0 (sc 1 (sc 2 (sc 3 (sc 4 (sc 10 sn))))))
 refine wpList_nil (hK0 _ _ (C.sk fun K1 hK1 => ?_))
 refine L.mv f3 fun a4 f4 => ?_
 refine L.va f4 (E.rem f4 rfl rfl (by omega) (Int.tmod_eq_emod_of_nonneg (by omega))) fun a5 f5 => ?_
 refine L.va f5 (E.conv f5 U5 U3 rfl (IntWalk.i64_in _ (by omega))) fun a6 f6 => ?_
 refine L.va f6 (E.add f6 rfl rfl (IntWalk.i64_in _ (by omega))) fun a7 f7 => ?_
 refine L.ag f7 fun a8 f8 => ?_
 refine wpList_nil (hK1 _ _ ?_)
 have f9 := f8.sub (sc 0 (sc 1 (sc 2 (sc 3 (sc 4 (sc 10 (sc 11 sn)))))))
 clear f1 a0 f2 f3 a2 f4 a4 f5 a5 f6 a6 f7 a7 f8
 refine wp_seq_k fun K2 hK2 => ?_
 refine C.sk fun K3 hK3 => ?_
 refine L.mv f9 fun a10 f10 => ?_
 refine L.va f10 (E.rem f10 rfl rfl (by omega) (Int.tmod_eq_emod_of_nonneg (by omega))) fun a11 f11 => ?_
 refine wpList_nil (hK3 _ _ ?_)
 have f12 := f11.sub (sc 1 (sc 2 (sc 3 (sc 4 (sc 10 (sc 11 (sc 19 sn)))))))
 refine wp_block ?_
 obtain ⟨J7, hJ7⟩ : ∃ J : Act → World → Prop, J = fun a W => Kept [] w W ∧ Blk W g0 34 zeroPk ∧ Fr 130 a [(1, .int .u8 a0_), (2, .int .u8 b), (3, .int .u8 c), (4, .slice A x.length cx), (10, .pointer (some ⟨g0, 0, none⟩)), (11, .int .i64 (b % 7 + 1)), (19, .int .u8 (k % 15)), (20, .bool (decide (k % 15 ≤ 3)))] := ⟨_, rfl⟩
 clear f9 a8 f10 a10 f11
 refine C.cut J7 ?_ ?_
 ·skip
  refine C.sk fun K4 hK4 => ?_
  refine L.va f12 (E.eq f12) fun a13 f13 => ?_
  refine L.ag f13 fun a14 f14 => ?_
  refine wpList_nil (hK4 _ _ ?_)
  have f15 := f14.sub (sc 1 (sc 2 (sc 3 (sc 4 (sc 10 (sc 11 (sc 19 (sc 20 sn))))))))
  clear f12 a11 f13 a13 f14
  refine f15.splitD 20 rfl (fun h0 f16 => ?_) (fun h0 f16 => ?_)
  ·have hm := h0
   refine C.condT f16 rfl ?_
   exact wp_skip (jn J7 (by rw [hJ7]; exact ⟨HK, Bg0, f16.sub (sx (sx (sx (sx (sx (sx (sx (sub_cons (by exact congrArg (fun t => some (Value.bool t)) (decide_eq_true (by omega : k % 15 ≤ 3)).symm) sn))))))))⟩))
  refine C.condF f16 rfl ?_
  refine C.sk fun K5 hK5 => ?_
  refine L.va f16 (E.eq f16) fun a17 f17 => ?_
  refine L.ag f17 fun a18 f18 => ?_
  refine wpList_nil (hK5 _ _ ?_)
  have f19 := f18.sub (sc 1 (sc 2 (sc 3 (sc 4 (sc 10 (sc 11 (sc 19 (sc 20 sn))))))))
  clear f15 f16 a14 f17 a17 f18
  refine f19.splitD 20 rfl (fun h1 f20 => ?_) (fun h1 f20 => ?_)
  ·have hm := h1
   refine C.condT f20 rfl ?_
   exact wp_skip (jn J7 (by rw [hJ7]; exact ⟨HK, Bg0, f20.sub (sx (sx (sx (sx (sx (sx (sx (sub_cons (by exact congrArg (fun t => some (Value.bool t)) (decide_eq_true (by omega : k % 15 ≤ 3)).symm) sn))))))))⟩))
  refine C.condF f20 rfl ?_
  refine C.sk fun K6 hK6 => ?_
  refine L.va f20 (E.eq f20) fun a21 f21 => ?_
  refine L.ag f21 fun a22 f22 => ?_
  refine wpList_nil (hK6 _ _ ?_)
  have f23 := f22.sub (sc 1 (sc 2 (sc 3 (sc 4 (sc 10 (sc 11 (sc 19 (sc 20 sn))))))))
  clear f19 f20 a18 f21 a21 f22
  refine f23.splitD 20 rfl (fun h2 f24 => ?_) (fun h2 f24 => ?_)
  ·have hm := h2
   refine C.condT f24 rfl ?_
   exact wp_skip (jn J7 (by rw [hJ7]; exact ⟨HK, Bg0, f24.sub (sx (sx (sx (sx (sx (sx (sx (sub_cons (by exact congrArg (fun t => some (Value.bool t)) (decide_eq_true (by omega : k % 15 ≤ 3)).symm) sn))))))))⟩))
  refine C.condF f24 rfl ?_
  refine C.region ?_
  refine L.va f24 (E.eq f24) fun a25 f25 => ?_
  refine L.ag f25 fun a26 f26 => ?_
  exact wpList_nil (jn J7 (by rw [hJ7]; exact ⟨HK, Bg0, f26.sub (sx (sx (sx (sx (sx (sx (sx (sub_cons (by exact congrArg (fun t => some (Value.bool t)) (decide_eq_decide.2 (by omega))) sn))))))))⟩))
 intro a13 w2 hj
 rw [hJ7] at hj
 clear hJ7 J7
 obtain ⟨HK, Bg0, f13⟩ := hj
 try clear f12
 refine f13.splitD 20 rfl (fun h3 f14 => ?_) (fun h3 f14 => ?_)
 ·have hm := h3
  refine C.condT f14 rfl ?_
  refine C.sk fun K7 hK7 => ?_
  refine L.mv f14 fun a15 f15 => ?_
  refine L.cl f15 (run_call Try.call19 (args1 f15 rfl)) (topicS_any a0_ _ ha0_) ?_
  clear f13 f14 a13
  rintro e w3 ⟨kc3, rfl⟩
  refine ⟨_, rfl, fun a16 f16 => ?_⟩
  have szw3 := kc3.size
  replace HK := HK.z kc3
  replace Bg0 := Bg0.z kc3
  clear f15 a15 kc3
  refine L.mv f16 fun a17 f17 => ?_
  refine L.mv f17 fun a18 f18 => ?_
  refine L.va f18 (E.rem f18 rfl rfl (by omega) (Int.tmod_eq_emod_of_nonneg (by omega))) fun a19 f19 => ?_
  refine L.va f19 (E.conv f19 U5 U3 rfl (IntWalk.i64_in _ (by omega))) fun a20 f20 => ?_
  refine L.mv f20 fun a21 f21 => ?_
  refine L.va f21 (E.rem f21 rfl rfl (by omega) (Int.tmod_eq_emod_of_nonneg (by omega))) fun a22 f22 => ?_
  refine L.va f22 (E.eq f22) fun a23 f23 => ?_
  clear f16 a16 f17 a17 f18 a18 f19 a19 f20 a20 f21 a21 f22 a22
  refine L.va f23 (E.build f23 (parts5 f23 rfl rfl rfl rfl rfl) (wbl34_0_5_6_3_2_xg _ _ _ _ _ _ _)) fun a24 f24 => ?_
  refine L.alloc f24 wantedN (by decide) (z := z34) (fun _ => by kernel_rfl) rfl fun a25 w4 g3 N3 f25 => ?_
  have Bg3 := N3.blk
  have kg3 := N3.kept
  have log3 := N3.lo
  have ltg3 := Bg3.lt
  have szw4 := kg3.size
  have frg3 : w.heap.size ≤ g3 := Nat.le_trans HK.size log3
  have neg0_g3 : g0 ≠ g3 := by have := Bg0.lt; omega
  replace HK := HK.z kg3
  replace Bg0 := Bg0.z kg3
  clear f23 a23 N3 kg3
  refine L.storeR f25 wantedN wsz34_xg rfl rfl rfl Bg3 rfl rfl fun a26 w5 f26 NB5 ks5 => ?_
  have szw5 := ks5.size
  replace HK := HK.trans ks5 (ktr (by omega))
  replace Bg0 := Bg0.kept ks5 (by simp; omega)
  replace Bg3 := NB5
  clear f24 a24 ks5 f25 a25
  refine wpList_nil (hK7 _ _ ?_)
  have f27 := f26.sub (sc 3 (sc 10 (sc 12 sn)))
  refine wp_seq_k fun K8 hK8 => ?_
  refine C.sk fun K9 hK9 => ?_
  refine L.fa 3 f27 U34 rfl wsz3_xg fun a28 f28 => ?_
  refine L.ld f28 U3 Bg3 fun a29 f29 => ?_
  refine L.va f29 (E.gtr f29 rfl rfl) fun a30 f30 => ?_
  refine wpList_nil (hK9 _ _ ?_)
  have f31 := f30.sub (sc 3 (sc 10 (sc 12 (sc 37 sn))))
  clear f26 f27 a26 f28 a28 f29 a29 f30
  refine f31.splitD 37 rfl (fun h4 f32 => ?_) (fun h4 f32 => ?_)
  ·refine C.condT f32 rfl ?_
   refine C.region ?_
   refine L.mv f32 fun a33 f33 => ?_
   refine L.va f33 (E.rem f33 rfl rfl (by omega) (Int.tmod_eq_emod_of_nonneg (by omega))) fun a34 f34 => ?_
   refine L.va f34 (E.conv f34 U5 U3 rfl (IntWalk.i64_in _ (by omega))) fun a35 f35 => ?_
   refine L.va f35 (E.add f35 rfl rfl (IntWalk.i64_in _ (by omega))) fun a36 f36 => ?_
   refine L.mv f36 fun a37 f37 => ?_
   refine L.va f37 (E.rem f37 rfl rfl (by omega) (Int.tmod_eq_emod_of_nonneg (by omega))) fun a38 f38 => ?_
   refine L.va f38 (E.eq f38) fun a39 f39 => ?_
   clear f31 f32 a30 f33 a33 f34 a34 f35 a35 f36 a36 f37 a37 f38 a38
   refine L.fa 4 f39 U34 rfl wsz3_xg fun a40 f40 => ?_
   refine L.store f40 wantedN wsz3_xg rfl rfl rfl Bg3 (by (simp [Value.cells]; done)) fun a41 w6 f41 NB6 ks6 => ?_
   have szw6 := ks6.size
   replace HK := HK.trans ks6 (ktr (by omega))
   replace Bg0 := Bg0.kept ks6 (by simp; omega)
   replace Bg3 := NB6
   simp only [Value.cells, z1, z2, z3, Nat.reduceAdd, Nat.zero_add] at Bg3
   clear f39 a39 ks6 f40 a40
   refine L.fa 1 f41 U34 rfl wsz4_xg fun a42 f42 => ?_
   refine L.store f42 wantedN wsz4_xg rfl rfl rfl Bg3 (by (simp [Value.cells]; done)) fun a43 w7 f43 NB7 ks7 => ?_
   have szw7 := ks7.size
   replace HK := HK.trans ks7 (ktr (by omega))
   replace Bg0 := Bg0.kept ks7 (by simp; omega)
   replace Bg3 := NB7
   simp only [Value.cells, z1, z2, z3, Nat.reduceAdd, Nat.zero_add] at Bg3
   clear f41 a41 ks7 f42 a42
   have f44 := f43.sub (sc 10 (sc 12 sn))
   refine wpList_nil (hK8 _ _ (C.sk fun K10 hK10 => ?_))
   refine L.va f44 (E.loadB f44 U34 rfl wsz34_xg rfl (Bg3) rfl) fun a45 f45 => ?_
   refine L.storeR f45 wantedN wsz34_xg rfl rfl rfl Bg0 rfl rfl fun a46 w8 f46 NB8 ks8 => ?_
   have szw8 := ks8.size
   replace HK := HK.trans ks8 (ktr (by omega))
   replace Bg3 := Bg3.kept ks8 (by simp; omega)
   replace Bg0 := NB8
   clear f43 f44 a43 ks8 f45 a45
   have f47 := f46.sub (sc 10 sn)
   refine wpList_nil (hK10 _ _ (wp_ret ?_)); (try simp only [xt, xb]); refine C.retC f47 rfl rfl Bg0 U34 rfl wsz34_xg ?_
   exact ⟨{ s0 with pa := A, pc := cx }, by rw [seat_pub hm, if_pos (by assumption)]; rfl, HK, by rw [seat_pub hm, if_pos (by assumption)]; exact ⟨SX.same (kept_same HK), Bs.nil _ _ _ _, Bs.nil _ _ _ _, Cs.nil _ _ _ _ _, Cs.nil _ _ _ _ _⟩⟩
  refine C.condF f32 rfl ?_
  refine wp_skip (hK8 _ _ ?_)
  have f33 := f32.sub (sc 10 (sc 12 sn))
  refine C.sk fun K11 hK11 => ?_
  refine L.va f33 (E.loadB f33 U34 rfl wsz34_xg rfl (Bg3) rfl) fun a34 f34 => ?_
  refine L.storeR f34 wantedN wsz34_xg rfl rfl rfl Bg0 rfl rfl fun a35 w6 f35 NB6 ks6 => ?_
  have szw6 := ks6.size
  replace HK := HK.trans ks6 (ktr (by omega))
  replace Bg3 := Bg3.kept ks6 (by simp; omega)
  replace Bg0 := NB6
  clear f31 f32 f33 a30 ks6 f34 a34
  have f36 := f35.sub (sc 10 sn)
  refine wpList_nil (hK11 _ _ (wp_ret ?_)); (try simp only [xt, xb]); refine C.retC f36 rfl rfl Bg0 U34 rfl wsz34_xg ?_
  exact ⟨{ s0 with pa := A, pc := cx }, by rw [seat_pub hm, if_neg (by assumption)]; rfl, HK, by rw [seat_pub hm, if_neg (by assumption)]; exact ⟨SX.same (kept_same HK), Bs.nil _ _ _ _, Bs.nil _ _ _ _, Cs.nil _ _ _ _ _, Cs.nil _ _ _ _ _⟩⟩
 refine C.condF f14 rfl ?_
 obtain ⟨J14, hJ14⟩ : ∃ J : Act → World → Prop, J = fun a W => Kept [] w W ∧ Blk W g0 34 zeroPk ∧ Fr 130 a [(1, .int .u8 a0_), (2, .int .u8 b), (3, .int .u8 c), (4, .slice A x.length cx), (10, .pointer (some ⟨g0, 0, none⟩)), (11, .int .i64 (b % 7 + 1)), (19, .int .u8 (k % 15)), (48, .bool (decide (k % 15 ≤ 6)))] := ⟨_, rfl⟩
 clear f13
 refine C.cut J14 ?_ ?_
 ·skip
  refine C.sk fun K12 hK12 => ?_
  refine L.va f14 (E.eq f14) fun a15 f15 => ?_
  refine L.ag f15 fun a16 f16 => ?_
  refine wpList_nil (hK12 _ _ ?_)
  have f17 := f16.sub (sc 1 (sc 2 (sc 3 (sc 4 (sc 10 (sc 11 (sc 19 (sc 48 sn))))))))
  clear f14 a13 f15 a15 f16
  refine f17.splitD 48 rfl (fun h5 f18 => ?_) (fun h5 f18 => ?_)
  ·have hm : 4 ≤ k % 15 ∧ k % 15 ≤ 6 := by omega
   refine C.condT f18 rfl ?_
   exact wp_skip (jn J14 (by rw [hJ14]; exact ⟨HK, Bg0, f18.sub (sx (sx (sx (sx (sx (sx (sx (sub_cons (by exact congrArg (fun t => some (Value.bool t)) (decide_eq_true (by omega : k % 15 ≤ 6)).symm) sn))))))))⟩))
  refine C.condF f18 rfl ?_
  refine C.sk fun K13 hK13 => ?_
  refine L.va f18 (E.eq f18) fun a19 f19 => ?_
  refine L.ag f19 fun a20 f20 => ?_
  refine wpList_nil (hK13 _ _ ?_)
  have f21 := f20.sub (sc 1 (sc 2 (sc 3 (sc 4 (sc 10 (sc 11 (sc 19 (sc 48 sn))))))))
  clear f17 f18 a16 f19 a19 f20
  refine f21.splitD 48 rfl (fun h6 f22 => ?_) (fun h6 f22 => ?_)
  ·have hm : 4 ≤ k % 15 ∧ k % 15 ≤ 6 := by omega
   refine C.condT f22 rfl ?_
   exact wp_skip (jn J14 (by rw [hJ14]; exact ⟨HK, Bg0, f22.sub (sx (sx (sx (sx (sx (sx (sx (sub_cons (by exact congrArg (fun t => some (Value.bool t)) (decide_eq_true (by omega : k % 15 ≤ 6)).symm) sn))))))))⟩))
  refine C.condF f22 rfl ?_
  refine C.region ?_
  refine L.va f22 (E.eq f22) fun a23 f23 => ?_
  refine L.ag f23 fun a24 f24 => ?_
  exact wpList_nil (jn J14 (by rw [hJ14]; exact ⟨HK, Bg0, f24.sub (sx (sx (sx (sx (sx (sx (sx (sub_cons (by exact congrArg (fun t => some (Value.bool t)) (decide_eq_decide.2 (by omega))) sn))))))))⟩))
 intro a15 w3 hj
 rw [hJ14] at hj
 clear hJ14 J14
 obtain ⟨HK, Bg0, f15⟩ := hj
 try clear f14
 refine f15.splitD 48 rfl (fun h7 f16 => ?_) (fun h7 f16 => ?_)
 ·have hm : 4 ≤ k % 15 ∧ k % 15 ≤ 6 := by omega
  refine C.condT f16 rfl ?_
  obtain ⟨J15, hJ15⟩ : ∃ J : Act → World → Prop, J = fun a W => ∃ (gq : Nat) (l : List (ByteArray × Int)) (Aq : Option Addr) (cq : Nat), l = [(filterS a0_, b % 3)] ∧ gq ≠ g0 ∧ w.heap.size ≤ gq ∧ Kept [] w W ∧ Blk W g0 34 zeroPk ∧ Blk W gq 34 (({ kind := 8, id := b % 7 + 1, subs := l } : Pk).cells { s0 with ua := Aq, uc := cq }) ∧ Fresh w W 46 2 Aq l.length cq (subCells l) ∧ Fr 130 a [(3, .int .u8 c), (10, .pointer (some ⟨g0, 0, none⟩)), (13, .pointer (some ⟨gq, 0, none⟩))] := ⟨_, rfl⟩
  clear f15
  refine C.cut J15 ?_ ?_
  ·skip
   refine C.region ?_
   refine L.mv f16 fun a17 f17 => ?_
   refine L.mv f17 fun a18 f18 => ?_
   refine L.cl f18 (run_call Try.call43 (args1 f18 rfl)) (filterS_any a0_ _ ha0_) ?_
   clear f16 a15 f17 a17
   rintro e w4 ⟨kc4, rfl⟩
   refine ⟨_, rfl, fun a19 f19 => ?_⟩
   have szw4 := kc4.size
   replace HK := HK.z kc4
   replace Bg0 := Bg0.z kc4
   clear f18 a18 kc4
   refine L.mv f19 fun a20 f20 => ?_
   refine L.va f20 (E.rem f20 rfl rfl (by omega) (Int.tmod_eq_emod_of_nonneg (by omega))) fun a21 f21 => ?_
   refine L.va f21 (E.conv f21 U5 U3 rfl (IntWalk.i64_in _ (by omega))) fun a22 f22 => ?_
   refine L.va f22 (E.build f22 (parts2 f22 rfl rfl) (wbl46_0_1_xg _ _)) fun a23 f23 => ?_
   refine L.buildSlice f23 wantedN (by decide) (parts1 f23 rfl) U31 wzi46_xg rfl rfl (wbs31_1_xg _ _) fun a24 w5 g4 N4 f24 => ?_
   have SU := su_one HK.size N4
   have Bg4 := N4.blk
   have kg4 := N4.kept
   have log4 := N4.lo
   have ltg4 := Bg4.lt
   have szw5 := kg4.size
   have frg4 : w.heap.size ≤ g4 := Nat.le_trans HK.size log4
   have neg0_g4 : g0 ≠ g4 := by have := Bg0.lt; omega
   replace HK := HK.z kg4
   replace Bg0 := Bg0.z kg4
   clear f19 a19 f20 a20 f21 a21 f22 a22 N4 kg4
   refine L.va f24 (E.build f24 (parts3 f24 rfl rfl rfl) (wbl34_0_4_19_xg _ _ _ _ _)) fun a25 f25 => ?_
   refine L.alloc f25 wantedN (by decide) (z := z34) (fun _ => by kernel_rfl) rfl fun a26 w6 g5 N5 f26 => ?_
   have Bg5 := N5.blk
   have kg5 := N5.kept
   have log5 := N5.lo
   have ltg5 := Bg5.lt
   have szw6 := kg5.size
   have frg5 : w.heap.size ≤ g5 := Nat.le_trans HK.size log5
   have neg0_g5 : g0 ≠ g5 := by have := Bg0.lt; omega
   have neg4_g5 : g4 ≠ g5 := by have := Bg4.lt; omega
   replace HK := HK.z kg5
   replace Bg0 := Bg0.z kg5
   replace Bg4 := Bg4.z kg5
   replace SU := SU.kept0 kg5
   clear f23 a23 f24 a24 N5 kg5
   refine L.storeR f26 wantedN wsz34_xg rfl rfl rfl Bg5 rfl rfl fun a27 w7 f27 NB7 ks7 => ?_
   have szw7 := ks7.size
   replace HK := HK.trans ks7 (ktr (by omega))
   replace Bg0 := Bg0.kept ks7 (by simp; omega)
   replace Bg4 := Bg4.kept ks7 (by simp; omega)
   replace SU := fresh_blk SU ks7 Bg5 (by decide)
   replace Bg5 := NB7
   clear f25 a25 ks7 f26 a26
   exact wpList_nil (jn J15 (by rw [hJ15]; exact ⟨g5, [(filterS a0_, b % 3)], some ⟨g4, 0, none⟩, 1, rfl, by omega, by omega, HK, Bg0, Bg5, SU, f27.sub (sx (sx (sx sn)))⟩))
  intro a17 w4 hj
  rw [hJ15] at hj
  clear hJ15 J15
  obtain ⟨gq, l, Aq, cq, hl, hne, hgq, HK, Bg0, BQ, SU, f17⟩ := hj
  try clear f16
  replace BQ : Blk w4 gq 34 #[.int .i64 8, .bool false, .bool false, .int .i64 0, .int .i64 (b % 7 + 1), .string em, .slice none 0 0, .int .i64 0, .string em, .bool false, .int .i64 0, .bool false, .string em, .slice none 0 0, .int .i64 0, .bool false, .bool false, .bool false, .string em, .slice none 0 0, .bool false, .int .i64 0, .slice Aq l.length cq, .slice none 0 0] := BQ
  have hne2 : g0 ≠ gq := fun e => hne e.symm
  have hll : l.length = 1 := by rw [hl]; rfl
  obtain ⟨J17, hJ17⟩ : ∃ J : Act → World → Prop, J = fun a W => ∃ (l2 : List (ByteArray × Int)) (A2 : Option Addr) (c2 : Nat), l2 = sub2 c l ∧ Kept [] w W ∧ Blk W g0 34 zeroPk ∧ Blk W gq 34 (({ kind := 8, id := b % 7 + 1, subs := l2 } : Pk).cells { s0 with ua := A2, uc := c2 }) ∧ Fresh w W 46 2 A2 l2.length c2 (subCells l2) ∧ Fr 130 a [(3, .int .u8 c), (10, .pointer (some ⟨g0, 0, none⟩)), (13, .pointer (some ⟨gq, 0, none⟩))] := ⟨_, rfl⟩
  refine C.cut J17 ?_ ?_
  ·skip
   refine C.sk fun K14 hK14 => ?_
   refine L.mv f17 fun a18 f18 => ?_
   refine L.va f18 (E.rem f18 rfl rfl (by omega) (Int.tmod_eq_emod_of_nonneg (by omega))) fun a19 f19 => ?_
   refine L.va f19 (E.eq f19) fun a20 f20 => ?_
   refine wpList_nil (hK14 _ _ ?_)
   have f21 := f20.sub (sc 3 (sc 10 (sc 13 (sc 63 sn))))
   clear f17 a17 f18 a18 f19 a19 f20
   refine f21.splitD 63 rfl (fun h8 f22 => ?_) (fun h8 f22 => ?_)
   ·refine C.condT f22 rfl ?_
    have hd16 : Kept [] w4 (w4.drewN 1) := (Kept.refl _ _).drewN 1
    refine R.beginT (S := fun _ => True) (by kernel_rfl) (by kernel_rfl) trivial fun ht => ?_
    obtain ⟨w5, hww5⟩ : ∃ W, W = w4.drewN 1 := ⟨_, rfl⟩
    rw [← hww5] at hd16 ⊢
    clear f21 hww5
    have szw5 := hd16.size
    replace HK := HK.z hd16
    replace Bg0 := Bg0.z hd16
    replace BQ := BQ.z hd16
    replace SU := SU.kept0 hd16
    clear hd16
    refine R.u 0 f22 rfl ht trivial (fun W hW => (E.fa 22 f22 U34 rfl wsz31_xg)) fun a23 f23 => ?_
    refine R.u 2 f23 rfl ht trivial (fun W hW => (E.move f23 rfl)) fun a24 f24 => ?_
    refine R.u 4 f24 rfl ht trivial (fun W hW => (E.move f24 rfl)) fun a25 f25 => ?_
    refine R.u 5 f25 rfl ht trivial (fun W hW => (E.rem f25 rfl rfl (by omega) (Int.tmod_eq_emod_of_nonneg (by omega)))) fun a26 f26 => ?_
    refine R.u 6 f26 rfl ht trivial (fun W hW => (E.conv f26 U5 U3 rfl (IntWalk.i64_in _ (by omega)))) fun a27 f27 => ?_
    clear f22 a20 f23 a23 f24 a24 f25 a25 f26 a26
    refine R.two 1 3 (by kernel_rfl) ?_ ?_
    ·skip
     refine O.val f27 rfl rfl (by decide) wantedN (by exact E.ld f27 U31 (BQ)) trivial fun a28 f28 => ?_
     refine R.one 3 (by kernel_rfl) ?_
     refine O.call f28 rfl rfl (by decide) wantedN (run_call Try.call43 (args1 f28 rfl)) (filterS_any c _ hc) ?_
     clear f27 a27
     rintro e w6 ⟨kc6, rfl⟩
     refine ⟨_, rfl, trivial, fun a29 f29 => ?_⟩
     have szw6 := kc6.size
     replace HK := HK.z kc6
     replace Bg0 := Bg0.z kc6
     replace BQ := BQ.z kc6
     replace SU := SU.kept0 kc6
     clear f28 a28 kc6
     refine R.u 7 f29 rfl ht trivial (fun W hW => (E.build f29 (parts2 f29 rfl rfl) (wbl46_0_1_xg _ _))) fun a30 f30 => ?_
     refine R.one 8 (by kernel_rfl) ?_
     refine O.buildSlice f30 rfl wantedN (by decide) (parts1 f30 rfl) U31 wzi46_xg rfl rfl (wbs31_1_xg _ _) (fun _ _ => trivial) fun a31 w7 g6 N6 hSn f31 => ?_
     clear f29 a29 hSn
     have Bg6 := N6.blk
     have kg6 := N6.kept
     have log6 := N6.lo
     have ltg6 := Bg6.lt
     have szw7 := kg6.size
     have frg6 : w.heap.size ≤ g6 := Nat.le_trans HK.size log6
     have neg0_g6 : g0 ≠ g6 := by have := Bg0.lt; omega
     have negq_g6 : gq ≠ g6 := by have := BQ.lt; omega
     replace HK := HK.z kg6
     replace Bg0 := Bg0.z kg6
     replace BQ := BQ.z kg6
     replace SU := SU.kept0 kg6
     clear N6 kg6
     refine R.one 9 (by kernel_rfl) ?_
     refine O.append f31 rfl wantedN (by decide) U31 wzib46_xg rfl rfl rfl rfl SU.own (Bg6.slN (size := 2) rfl) (by intro u hu; simp at hu; rcases hu with rfl | rfl <;> rfl) (by unfold maxLen; omega) (by omega) fun a32 w8 A8 c8 AP => ?_
     have szw8 := AP.kept.size
     have HKn := AP.grow SU HK
     have BQn := BQ.kept AP.kept (own_ne SU.own BQ (by decide))
     have Bg0n := Bg0.kept AP.kept (own_ne SU.own Bg0 (by decide))
     have SUn := AP.next SU HK.size
     refine ⟨trivial, fun f32 => ?_⟩
     clear f30 a30 f31 Bg6 HK SU BQ Bg0
     have HK := HKn
     have SU := SUn
     have BQ := BQn
     have Bg0 := Bg0n
     clear HKn SUn BQn Bg0n AP
     refine R.u 10 f32 rfl ht trivial (fun W hW => (E.fa 22 f32 U34 rfl wsz31_xg)) fun a33 f33 => ?_
     refine R.one 11 (by kernel_rfl) ?_
     refine OT.store f33 rfl wantedN wsz31_xg rfl rfl rfl BQ (by (simp [Value.cells]; done)) fun a34 w9 f34 NB9 ks9 => ?_
     have szw9 := ks9.size
     replace HK := HK.trans ks9 (ktr (by omega))
     replace Bg0 := Bg0.kept ks9 (by simp; omega)
     replace SU := fresh_blk SU ks9 BQ (by decide)
     replace BQ := NB9
     simp only [Value.cells, z1, z2, z3, Nat.reduceAdd, Nat.zero_add] at BQ
     clear f32 a32 ks9 f33 a33
     exact R.done (by kernel_rfl) (jn J17 (by rw [hJ17]; exact ⟨l ++ [(filterS c, c % 2)], A8, c8, by unfold sub2; rw [if_pos (by assumption)], HK, Bg0, by rw [Pk.cells, List.length_append]; exact BQ, by rw [sub_cells, List.length_append]; exact SU, f34.sub (sx (sx (sx sn)))⟩))
    skip
    refine O.call f27 rfl rfl (by decide) wantedN (run_call Try.call43 (args1 f27 rfl)) (filterS_any c _ hc) ?_
    rintro e w6 ⟨kc6, rfl⟩
    refine ⟨_, rfl, trivial, fun a28 f28 => ?_⟩
    have szw6 := kc6.size
    replace HK := HK.z kc6
    replace Bg0 := Bg0.z kc6
    replace BQ := BQ.z kc6
    replace SU := SU.kept0 kc6
    clear f27 a27 kc6
    refine R.u 7 f28 rfl ht trivial (fun W hW => (E.build f28 (parts2 f28 rfl rfl) (wbl46_0_1_xg _ _))) fun a29 f29 => ?_
    clear f28 a28
    refine R.two 1 8 (by kernel_rfl) ?_ ?_
    ·skip
     refine O.val f29 rfl rfl (by decide) wantedN (by exact E.ld f29 U31 (BQ)) trivial fun a30 f30 => ?_
     refine R.one 8 (by kernel_rfl) ?_
     refine O.buildSlice f30 rfl wantedN (by decide) (parts1 f30 rfl) U31 wzi46_xg rfl rfl (wbs31_1_xg _ _) (fun _ _ => trivial) fun a31 w7 g6 N6 hSn f31 => ?_
     clear f29 a29 hSn
     have Bg6 := N6.blk
     have kg6 := N6.kept
     have log6 := N6.lo
     have ltg6 := Bg6.lt
     have szw7 := kg6.size
     have frg6 : w.heap.size ≤ g6 := Nat.le_trans HK.size log6
     have neg0_g6 : g0 ≠ g6 := by have := Bg0.lt; omega
     have negq_g6 : gq ≠ g6 := by have := BQ.lt; omega
     replace HK := HK.z kg6
     replace Bg0 := Bg0.z kg6
     replace BQ := BQ.z kg6
     replace SU := SU.kept0 kg6
     clear N6 kg6
     refine R.one 9 (by kernel_rfl) ?_
     refine O.append f31 rfl wantedN (by decide) U31 wzib46_xg rfl rfl rfl rfl SU.own (Bg6.slN (size := 2) rfl) (by intro u hu; simp at hu; rcases hu with rfl | rfl <;> rfl) (by unfold maxLen; omega) (by omega) fun a32 w8 A8 c8 AP => ?_
     have szw8 := AP.kept.size
     have HKn := AP.grow SU HK
     have BQn := BQ.kept AP.kept (own_ne SU.own BQ (by decide))
     have Bg0n := Bg0.kept AP.kept (own_ne SU.own Bg0 (by decide))
     have SUn := AP.next SU HK.size
     refine ⟨trivial, fun f32 => ?_⟩
     clear f30 a30 f31 Bg6 HK SU BQ Bg0
     have HK := HKn
     have SU := SUn
     have BQ := BQn
     have Bg0 := Bg0n
     clear HKn SUn BQn Bg0n AP
     refine R.u 10 f32 rfl ht trivial (fun W hW => (E.fa 22 f32 U34 rfl wsz31_xg)) fun a33 f33 => ?_
     refine R.one 11 (by kernel_rfl) ?_
     refine OT.store f33 rfl wantedN wsz31_xg rfl rfl rfl BQ (by (simp [Value.cells]; done)) fun a34 w9 f34 NB9 ks9 => ?_
     have szw9 := ks9.size
     replace HK := HK.trans ks9 (ktr (by omega))
     replace Bg0 := Bg0.kept ks9 (by simp; omega)
     replace SU := fresh_blk SU ks9 BQ (by decide)
     replace BQ := NB9
     simp only [Value.cells, z1, z2, z3, Nat.reduceAdd, Nat.zero_add] at BQ
     clear f32 a32 ks9 f33 a33
     exact R.done (by kernel_rfl) (jn J17 (by rw [hJ17]; exact ⟨l ++ [(filterS c, c % 2)], A8, c8, by unfold sub2; rw [if_pos (by assumption)], HK, Bg0, by rw [Pk.cells, List.length_append]; exact BQ, by rw [sub_cells, List.length_append]; exact SU, f34.sub (sx (sx (sx sn)))⟩))
    skip
    refine O.buildSlice f29 rfl wantedN (by decide) (parts1 f29 rfl) U31 wzi46_xg rfl rfl (wbs31_1_xg _ _) (fun _ _ => trivial) fun a30 w7 g6 N6 hSn f30 => ?_
    clear hSn
    have Bg6 := N6.blk
    have kg6 := N6.kept
    have log6 := N6.lo
    have ltg6 := Bg6.lt
    have szw7 := kg6.size
    have frg6 : w.heap.size ≤ g6 := Nat.le_trans HK.size log6
    have neg0_g6 : g0 ≠ g6 := by have := Bg0.lt; omega
    have negq_g6 : gq ≠ g6 := by have := BQ.lt; omega
    replace HK := HK.z kg6
    replace Bg0 := Bg0.z kg6
    replace BQ := BQ.z kg6
    replace SU := SU.kept0 kg6
    clear N6 kg6
    refine R.one 1 (by kernel_rfl) ?_
    refine O.val f30 rfl rfl (by decide) wantedN (by exact E.ld f30 U31 (BQ)) trivial fun a31 f31 => ?_
    refine R.one 9 (by kernel_rfl) ?_
    refine O.append f31 rfl wantedN (by decide) U31 wzib46_xg rfl rfl rfl rfl SU.own (Bg6.slN (size := 2) rfl) (by intro u hu; simp at hu; rcases hu with rfl | rfl <;> rfl) (by unfold maxLen; omega) (by omega) fun a32 w8 A8 c8 AP => ?_
    have szw8 := AP.kept.size
    have HKn := AP.grow SU HK
    have BQn := BQ.kept AP.kept (own_ne SU.own BQ (by decide))
    have Bg0n := Bg0.kept AP.kept (own_ne SU.own Bg0 (by decide))
    have SUn := AP.next SU HK.size
    refine ⟨trivial, fun f32 => ?_⟩
    clear f29 a29 f30 a30 f31 Bg6 HK SU BQ Bg0
    have HK := HKn
    have SU := SUn
    have BQ := BQn
    have Bg0 := Bg0n
    clear HKn SUn BQn Bg0n AP
    refine R.u 10 f32 rfl ht trivial (fun W hW => (E.fa 22 f32 U34 rfl wsz31_xg)) fun a33 f33 => ?_
    refine R.one 11 (by kernel_rfl) ?_
    refine OT.store f33 rfl wantedN wsz31_xg rfl rfl rfl BQ (by (simp [Value.cells]; done)) fun a34 w9 f34 NB9 ks9 => ?_
    have szw9 := ks9.size
    replace HK := HK.trans ks9 (ktr (by omega))
    replace Bg0 := Bg0.kept ks9 (by simp; omega)
    replace SU := fresh_blk SU ks9 BQ (by decide)
    replace BQ := NB9
    simp only [Value.cells, z1, z2, z3, Nat.reduceAdd, Nat.zero_add] at BQ
    clear f32 a32 ks9 f33 a33
    exact R.done (by kernel_rfl) (jn J17 (by rw [hJ17]; exact ⟨l ++ [(filterS c, c % 2)], A8, c8, by unfold sub2; rw [if_pos (by assumption)], HK, Bg0, by rw [Pk.cells, List.length_append]; exact BQ, by rw [sub_cells, List.length_append]; exact SU, f34.sub (sx (sx (sx sn)))⟩))
   refine C.condF f22 rfl ?_
   exact wp_skip (jn J17 (by rw [hJ17]; exact ⟨l, Aq, cq, by unfold sub2; rw [if_neg (by assumption)], HK, Bg0, BQ, SU, f22.sub (sx (sx (sx sn)))⟩))
  intro a18 w5 hj
  rw [hJ17] at hj
  clear hJ17 J17
  obtain ⟨l2, A2, c2, hl2, HK, Bg0, BQ, SU, f18⟩ := hj
  try clear f17
  replace BQ : Blk w5 gq 34 #[.int .i64 8, .bool false, .bool false, .int .i64 0, .int .i64 (b % 7 + 1), .string em, .slice none 0 0, .int .i64 0, .string em, .bool false, .int .i64 0, .bool false, .string em, .slice none 0 0, .int .i64 0, .bool false, .bool false, .bool false, .string em, .slice none 0 0, .bool false, .int .i64 0, .slice A2 l2.length c2, .slice none 0 0] := BQ
  have hll2 : l2.length ≤ 2 := by rw [hl2]; unfold sub2; split <;> simp [hll]
  obtain ⟨J19, hJ19⟩ : ∃ J : Act → World → Prop, J = fun a W => ∃ (l3 : List (ByteArray × Int)) (A3 : Option Addr) (c3 : Nat), l3 = sub3 c l2 ∧ Kept [] w W ∧ Blk W g0 34 zeroPk ∧ Blk W gq 34 (({ kind := 8, id := b % 7 + 1, subs := l3 } : Pk).cells { s0 with ua := A3, uc := c3 }) ∧ Fresh w W 46 2 A3 l3.length c3 (subCells l3) ∧ Fr 130 a [(10, .pointer (some ⟨g0, 0, none⟩)), (13, .pointer (some ⟨gq, 0, none⟩))] := ⟨_, rfl⟩
  refine C.cut J19 ?_ ?_
  ·skip
   refine C.sk fun K15 hK15 => ?_
   refine L.mv f18 fun a19 f19 => ?_
   refine L.va f19 (E.rem f19 rfl rfl (by omega) (Int.tmod_eq_emod_of_nonneg (by omega))) fun a20 f20 => ?_
   refine L.va f20 (E.eq f20) fun a21 f21 => ?_
   refine wpList_nil (hK15 _ _ ?_)
   have f22 := f21.sub (sc 10 (sc 13 (sc 77 sn)))
   clear f18 a18 f19 a19 f20 a20 f21
   refine f22.splitD 77 rfl (fun h9 f23 => ?_) (fun h9 f23 => ?_)
   ·refine C.condT f23 rfl ?_
    refine C.region ?_
    refine L.fa 22 f23 U34 rfl wsz31_xg fun a24 f24 => ?_
    refine L.ld f24 U31 BQ fun a25 f25 => ?_
    refine L.va f25 (E.build f25 (parts2 f25 rfl rfl) (wbl46_0_1_xg _ _)) fun a26 f26 => ?_
    refine L.buildSlice f26 wantedN (by decide) (parts1 f26 rfl) U31 wzi46_xg rfl rfl (wbs31_1_xg _ _) fun a27 w6 g5 N5 f27 => ?_
    have Bg5 := N5.blk
    have kg5 := N5.kept
    have log5 := N5.lo
    have ltg5 := Bg5.lt
    have szw6 := kg5.size
    have frg5 : w.heap.size ≤ g5 := Nat.le_trans HK.size log5
    have neg0_g5 : g0 ≠ g5 := by have := Bg0.lt; omega
    have negq_g5 : gq ≠ g5 := by have := BQ.lt; omega
    replace HK := HK.z kg5
    replace Bg0 := Bg0.z kg5
    replace BQ := BQ.z kg5
    replace SU := SU.kept0 kg5
    clear f22 f23 a21 f24 a24 f25 a25 N5 kg5
    refine L.append f27 wantedN (by decide) U31 wzib46_xg rfl rfl rfl rfl SU.own (Bg5.slN (size := 2) rfl) (by intro u hu; simp at hu; rcases hu with rfl | rfl <;> rfl) (by unfold maxLen; omega) (by omega) fun a28 w7 A7 c7 AP f28 => ?_
    have szw7 := AP.kept.size
    have HKn := AP.grow SU HK
    have BQn := BQ.kept AP.kept (own_ne SU.own BQ (by decide))
    have Bg0n := Bg0.kept AP.kept (own_ne SU.own Bg0 (by decide))
    have SUn := AP.next SU HK.size
    clear f26 a26 f27 Bg5 HK SU BQ Bg0
    have HK := HKn
    have SU := SUn
    have BQ := BQn
    have Bg0 := Bg0n
    clear HKn SUn BQn Bg0n AP
    refine L.fa 22 f28 U34 rfl wsz31_xg fun a29 f29 => ?_
    refine L.store f29 wantedN wsz31_xg rfl rfl rfl BQ (by (simp [Value.cells]; done)) fun a30 w8 f30 NB8 ks8 => ?_
    have szw8 := ks8.size
    replace HK := HK.trans ks8 (ktr (by omega))
    replace Bg0 := Bg0.kept ks8 (by simp; omega)
    replace SU := fresh_blk SU ks8 BQ (by decide)
    replace BQ := NB8
    simp only [Value.cells, z1, z2, z3, Nat.reduceAdd, Nat.zero_add] at BQ
    clear f28 a28 ks8 f29 a29
    exact wpList_nil (jn J19 (by rw [hJ19]; exact ⟨l2 ++ [(⟨#[97, 35]⟩, 1)], A7, c7, by unfold sub3; rw [if_pos (by assumption)], HK, Bg0, by rw [Pk.cells, List.length_append]; exact BQ, by rw [sub_cells, List.length_append]; exact SU, f30.sub (sx (sx sn))⟩))
   refine C.condF f23 rfl ?_
   exact wp_skip (jn J19 (by rw [hJ19]; exact ⟨l2, A2, c2, by unfold sub3; rw [if_neg (by assumption)], HK, Bg0, BQ, SU, f23.sub (sx (sx sn))⟩))
  intro a19 w6 hj
  rw [hJ19] at hj
  clear hJ19 J19
  obtain ⟨l3, A3, c3, hl3, HK, Bg0, BQ, SU, f19⟩ := hj
  try clear f18
  refine C.sk fun K16 hK16 => ?_
  refine L.va f19 (E.loadB f19 U34 rfl wsz34_xg rfl (BQ) rfl) fun a20 f20 => ?_
  refine L.storeR f20 wantedN wsz34_xg rfl rfl rfl Bg0 rfl rfl fun a21 w7 f21 NB7 ks7 => ?_
  have szw7 := ks7.size
  replace HK := HK.trans ks7 (ktr (by omega))
  replace BQ := BQ.kept ks7 (by simp; omega)
  replace SU := fresh_blk SU ks7 Bg0 (by decide)
  replace Bg0 := NB7
  clear f19 a19 ks7 f20 a20
  have f22 := f21.sub (sc 10 sn)
  refine wpList_nil (hK16 _ _ (wp_ret ?_)); (try simp only [xt, xb]); refine C.retC f22 rfl rfl Bg0 U34 rfl wsz34_xg ?_
  exact ⟨{ s0 with ua := A3, uc := c3 }, by rw [seat_sub hm, ← hl, ← hl2, ← hl3], HK, by rw [seat_sub hm, ← hl, ← hl2, ← hl3]; exact ⟨Bs.nil _ _ _ _, Bs.nil _ _ _ _, Bs.nil _ _ _ _, Cs.of_own SU.own (by simp), Cs.nil _ _ _ _ _⟩⟩
 refine C.condF f16 rfl ?_
 refine C.sk fun K17 hK17 => ?_
 refine L.va f16 (E.eq f16) fun a17 f17 => ?_
 refine L.ag f17 fun a18 f18 => ?_
 refine wpList_nil (hK17 _ _ ?_)
 have f19 := f18.sub (sc 1 (sc 2 (sc 3 (sc 4 (sc 10 (sc 11 (sc 19 (sc 85 sn))))))))
 clear f15 f16 a15 f17 a17 f18
 refine f19.splitD 85 rfl (fun h10 f20 => ?_) (fun h10 f20 => ?_)
 ·refine C.condT f20 rfl ?_
  refine C.sk fun K18 hK18 => ?_
  refine L.mv f20 fun a21 f21 => ?_
  refine L.mv f21 fun a22 f22 => ?_
  refine L.cl f22 (run_call Try.call43 (args1 f22 rfl)) (filterS_any a0_ _ ha0_) ?_
  clear f19 f20 a18 f21 a21
  rintro e w4 ⟨kc4, rfl⟩
  refine ⟨_, rfl, fun a23 f23 => ?_⟩
  have szw4 := kc4.size
  replace HK := HK.z kc4
  replace Bg0 := Bg0.z kc4
  clear f22 a22 kc4
  refine L.va f23 (E.build f23 (parts1 f23 rfl) (wbl46_0_xg _)) fun a24 f24 => ?_
  refine L.mv f24 fun a25 f25 => ?_
  refine L.cl f25 (run_call Try.call43 (args1 f25 rfl)) (filterS_any c _ hc) ?_
  clear f23 a23 f24 a24
  rintro e w5 ⟨kc5, rfl⟩
  refine ⟨_, rfl, fun a26 f26 => ?_⟩
  have szw5 := kc5.size
  replace HK := HK.z kc5
  replace Bg0 := Bg0.z kc5
  clear f25 a25 kc5
  refine L.va f26 (E.build f26 (parts1 f26 rfl) (wbl46_0_xg _)) fun a27 f27 => ?_
  refine L.buildSlice f27 wantedN (by decide) (parts2 f27 rfl rfl) U31 wzi46_xg rfl rfl (wbs31_2_xg _ _ _ _) fun a28 w6 g5 N5 f28 => ?_
  have Bg5 := N5.blk
  have kg5 := N5.kept
  have log5 := N5.lo
  have ltg5 := Bg5.lt
  have szw6 := kg5.size
  have frg5 : w.heap.size ≤ g5 := Nat.le_trans HK.size log5
  have neg0_g5 : g0 ≠ g5 := by have := Bg0.lt; omega
  replace HK := HK.z kg5
  replace Bg0 := Bg0.z kg5
  clear f26 a26 N5 kg5
  refine L.mv f28 fun a29 f29 => ?_
  refine L.va f29 (E.rem f29 rfl rfl (by omega) (Int.tmod_eq_emod_of_nonneg (by omega))) fun a30 f30 => ?_
  refine L.va f30 (E.add f30 rfl rfl (IntWalk.u8_in _ (by omega))) fun a31 f31 => ?_
  refine L.va f31 (E.slLhi f31 U31 wsz46_xg rfl rfl (by omega) (by omega) ) fun a32 f32 => ?_
  refine L.va f32 (E.build f32 (parts3 f32 rfl rfl rfl) (wbl34_0_4_19_xg _ _ _ _ _)) fun a33 f33 => ?_
  refine L.storeR f33 wantedN wsz34_xg rfl rfl rfl Bg0 rfl rfl fun a34 w7 f34 NB7 ks7 => ?_
  have szw7 := ks7.size
  replace HK := HK.trans ks7 (ktr (by omega))
  replace Bg5 := Bg5.kept ks7 (by simp; omega)
  replace Bg0 := NB7
  clear f27 a27 f28 a28 f29 a29 f30 a30 f31 a31 f32 a32 ks7 f33 a33
  have f35 := f34.sub (sc 10 sn)
  refine wpList_nil (hK18 _ _ (wp_ret ?_)); (try simp only [xt, xb]); refine C.retC f35 rfl rfl Bg0 U34 rfl wsz34_xg ?_
  clear f34
  refine ⟨{ s0 with ua := some ⟨g5, 0, none⟩, uc := 2 }, ?_, HK, ?_⟩
  ·rw [seat_uns (by assumption)]; unfold Pk.cells; simp only [uns_len]; rfl
  rw [seat_uns (by assumption)]; exact ⟨Bs.nil _ _ _ _, Bs.nil _ _ _ _, Bs.nil _ _ _ _, Cs.of_sl (uns_sl Bg5) (typ_blk Bg5 (by simp)), Cs.nil _ _ _ _ _⟩
 refine C.condF f20 rfl ?_
 refine C.sk fun K19 hK19 => ?_
 refine L.va f20 (E.eq f20) fun a21 f21 => ?_
 refine L.ag f21 fun a22 f22 => ?_
 refine wpList_nil (hK19 _ _ ?_)
 have f23 := f22.sub (sc 1 (sc 2 (sc 3 (sc 4 (sc 10 (sc 11 (sc 19 (sc 100 sn))))))))
 clear f19 f20 a18 f21 a21 f22
 refine f23.splitD 100 rfl (fun h11 f24 => ?_) (fun h11 f24 => ?_)
 ·refine C.condT f24 rfl ?_
  refine C.sk fun K20 hK20 => ?_
  refine L.mv f24 fun a25 f25 => ?_
  refine L.va f25 (E.build f25 (parts2 f25 rfl rfl) (wbl34_0_4_xg _ _)) fun a26 f26 => ?_
  refine L.storeR f26 wantedN wsz34_xg rfl rfl rfl Bg0 rfl rfl fun a27 w4 f27 NB4 ks4 => ?_
  have szw4 := ks4.size
  replace HK := HK.trans ks4 (ktr (by omega))
  replace Bg0 := NB4
  clear f23 f24 a22 f25 a25 ks4 f26 a26
  have f28 := f27.sub (sc 10 sn)
  refine wpList_nil (hK20 _ _ (wp_ret ?_)); (try simp only [xt, xb]); refine C.retC f28 rfl rfl Bg0 U34 rfl wsz34_xg ?_
  exact ⟨s0, by rw [seat_a (by assumption)]; rfl, HK, by rw [seat_a (by assumption)]; exact ⟨Bs.nil _ _ _ _, Bs.nil _ _ _ _, Bs.nil _ _ _ _, Cs.nil _ _ _ _ _, Cs.nil _ _ _ _ _⟩⟩
 refine C.condF f24 rfl ?_
 refine C.sk fun K21 hK21 => ?_
 refine L.va f24 (E.eq f24) fun a25 f25 => ?_
 refine L.ag f25 fun a26 f26 => ?_
 refine wpList_nil (hK21 _ _ ?_)
 have f27 := f26.sub (sc 1 (sc 2 (sc 3 (sc 4 (sc 10 (sc 11 (sc 19 (sc 104 sn))))))))
 clear f23 f24 a22 f25 a25 f26
 refine f27.splitD 104 rfl (fun h12 f28 => ?_) (fun h12 f28 => ?_)
 ·refine C.condT f28 rfl ?_
  refine C.sk fun K22 hK22 => ?_
  refine L.mv f28 fun a29 f29 => ?_
  refine L.va f29 (E.build f29 (parts2 f29 rfl rfl) (wbl34_0_4_xg _ _)) fun a30 f30 => ?_
  refine L.storeR f30 wantedN wsz34_xg rfl rfl rfl Bg0 rfl rfl fun a31 w4 f31 NB4 ks4 => ?_
  have szw4 := ks4.size
  replace HK := HK.trans ks4 (ktr (by omega))
  replace Bg0 := NB4
  clear f27 f28 a26 f29 a29 ks4 f30 a30
  have f32 := f31.sub (sc 10 sn)
  refine wpList_nil (hK22 _ _ (wp_ret ?_)); (try simp only [xt, xb]); refine C.retC f32 rfl rfl Bg0 U34 rfl wsz34_xg ?_
  exact ⟨s0, by rw [seat_r (by assumption)]; rfl, HK, by rw [seat_r (by assumption)]; exact ⟨Bs.nil _ _ _ _, Bs.nil _ _ _ _, Bs.nil _ _ _ _, Cs.nil _ _ _ _ _, Cs.nil _ _ _ _ _⟩⟩
 refine C.condF f28 rfl ?_
 refine C.sk fun K23 hK23 => ?_
 refine L.va f28 (E.eq f28) fun a29 f29 => ?_
 refine L.ag f29 fun a30 f30 => ?_
 refine wpList_nil (hK23 _ _ ?_)
 have f31 := f30.sub (sc 1 (sc 2 (sc 3 (sc 4 (sc 10 (sc 11 (sc 19 (sc 108 sn))))))))
 clear f27 f28 a26 f29 a29 f30
 refine f31.splitD 108 rfl (fun h13 f32 => ?_) (fun h13 f32 => ?_)
 ·refine C.condT f32 rfl ?_
  refine C.sk fun K24 hK24 => ?_
  refine L.mv f32 fun a33 f33 => ?_
  refine L.va f33 (E.build f33 (parts2 f33 rfl rfl) (wbl34_0_4_xg _ _)) fun a34 f34 => ?_
  refine L.storeR f34 wantedN wsz34_xg rfl rfl rfl Bg0 rfl rfl fun a35 w4 f35 NB4 ks4 => ?_
  have szw4 := ks4.size
  replace HK := HK.trans ks4 (ktr (by omega))
  replace Bg0 := NB4
  clear f31 f32 a30 f33 a33 ks4 f34 a34
  have f36 := f35.sub (sc 10 sn)
  refine wpList_nil (hK24 _ _ (wp_ret ?_)); (try simp only [xt, xb]); refine C.retC f36 rfl rfl Bg0 U34 rfl wsz34_xg ?_
  exact ⟨s0, by rw [seat_p (by assumption)]; rfl, HK, by rw [seat_p (by assumption)]; exact ⟨Bs.nil _ _ _ _, Bs.nil _ _ _ _, Bs.nil _ _ _ _, Cs.nil _ _ _ _ _, Cs.nil _ _ _ _ _⟩⟩
 refine C.condF f32 rfl ?_
 refine C.sk fun K25 hK25 => ?_
 refine L.va f32 (E.eq f32) fun a33 f33 => ?_
 refine L.ag f33 fun a34 f34 => ?_
 refine wpList_nil (hK25 _ _ ?_)
 have f35 := f34.sub (sc 1 (sc 2 (sc 3 (sc 4 (sc 10 (sc 19 (sc 112 sn)))))))
 clear f31 f32 a30 f33 a33 f34
 refine f35.splitD 112 rfl (fun h14 f36 => ?_) (fun h14 f36 => ?_)
 ·refine C.condT f36 rfl ?_
  refine C.sk fun K26 hK26 => ?_
  refine L.mv f36 fun a37 f37 => ?_
  refine L.va f37 (E.rem f37 rfl rfl (by omega) (Int.tmod_eq_emod_of_nonneg (by omega))) fun a38 f38 => ?_
  refine L.va f38 (E.conv f38 U5 U3 rfl (IntWalk.i64_in _ (by omega))) fun a39 f39 => ?_
  refine L.va f39 (E.add f39 rfl rfl (IntWalk.i64_in _ (by omega))) fun a40 f40 => ?_
  refine L.va f40 (E.build f40 (parts2 f40 rfl rfl) (wbl34_0_4_xg _ _)) fun a41 f41 => ?_
  refine L.storeR f41 wantedN wsz34_xg rfl rfl rfl Bg0 rfl rfl fun a42 w4 f42 NB4 ks4 => ?_
  have szw4 := ks4.size
  replace HK := HK.trans ks4 (ktr (by omega))
  replace Bg0 := NB4
  clear f35 f36 a34 f37 a37 f38 a38 f39 a39 f40 a40 ks4 f41 a41
  have f43 := f42.sub (sc 10 sn)
  refine wpList_nil (hK26 _ _ (wp_ret ?_)); (try simp only [xt, xb]); refine C.retC f43 rfl rfl Bg0 U34 rfl wsz34_xg ?_
  exact ⟨s0, by rw [seat_l (by assumption)]; rfl, HK, by rw [seat_l (by assumption)]; exact ⟨Bs.nil _ _ _ _, Bs.nil _ _ _ _, Bs.nil _ _ _ _, Cs.nil _ _ _ _ _, Cs.nil _ _ _ _ _⟩⟩
 refine C.condF f36 rfl ?_
 refine C.sk fun K27 hK27 => ?_
 refine L.va f36 (E.eq f36) fun a37 f37 => ?_
 refine L.ag f37 fun a38 f38 => ?_
 refine wpList_nil (hK27 _ _ ?_)
 have f39 := f38.sub (sc 1 (sc 2 (sc 3 (sc 4 (sc 10 (sc 19 (sc 119 sn)))))))
 clear f35 f36 a34 f37 a37 f38
 refine f39.splitD 119 rfl (fun h15 f40 => ?_) (fun h15 f40 => ?_)
 ·refine C.condT f40 rfl ?_
  refine C.sk fun K28 hK28 => ?_
  refine L.va f40 (E.build f40 (parts1 f40 rfl) (wbl34_0_xg _)) fun a41 f41 => ?_
  refine L.storeR f41 wantedN wsz34_xg rfl rfl rfl Bg0 rfl rfl fun a42 w4 f42 NB4 ks4 => ?_
  have szw4 := ks4.size
  replace HK := HK.trans ks4 (ktr (by omega))
  replace Bg0 := NB4
  clear f39 f40 a38 ks4 f41 a41
  have f43 := f42.sub (sc 10 sn)
  refine wpList_nil (hK28 _ _ (wp_ret ?_)); (try simp only [xt, xb]); refine C.retC f43 rfl rfl Bg0 U34 rfl wsz34_xg ?_
  exact ⟨s0, by rw [seat_q (by assumption)]; rfl, HK, by rw [seat_q (by assumption)]; exact ⟨Bs.nil _ _ _ _, Bs.nil _ _ _ _, Bs.nil _ _ _ _, Cs.nil _ _ _ _ _, Cs.nil _ _ _ _ _⟩⟩
 refine C.condF f40 rfl ?_
 refine C.sk fun K29 hK29 => ?_
 refine L.va f40 (E.eq f40) fun a41 f41 => ?_
 refine L.ag f41 fun a42 f42 => ?_
 refine wpList_nil (hK29 _ _ ?_)
 have f43 := f42.sub (sc 1 (sc 2 (sc 3 (sc 4 (sc 10 (sc 122 sn))))))
 clear f39 f40 a38 f41 a41 f42
 refine f43.splitD 122 rfl (fun h16 f44 => ?_) (fun h16 f44 => ?_)
 ·refine C.condT f44 rfl ?_
  refine C.sk fun K30 hK30 => ?_
  refine L.mv f44 fun a45 f45 => ?_
  refine L.mv f45 fun a46 f46 => ?_
  refine L.mv f46 fun a47 f47 => ?_
  refine L.mv f47 fun a48 f48 => ?_
  refine L.cl f48 (run_call Try.call44 (args4 f48 rfl rfl rfl rfl)) (seatcon_any a0_ b c x A cx _ (SX.same (kept_same HK)).toSl ha0_ hb hc) ?_
  clear f43 f44 a42 f45 a45 f46 a46 f47 a47
  rintro e w4 ⟨kc4, rfl⟩
  refine ⟨_, rfl, fun a49 f49 => ?_⟩
  have szw4 := kc4.size
  replace HK := HK.z kc4
  replace Bg0 := Bg0.z kc4
  clear f48 a48 kc4
  refine L.storeR f49 wantedN wsz34_xg rfl rfl rfl Bg0 rfl rfl fun a50 w5 f50 NB5 ks5 => ?_
  have szw5 := ks5.size
  replace HK := HK.trans ks5 (ktr (by omega))
  replace Bg0 := NB5
  clear ks5 f49 a49
  have f51 := f50.sub (sc 10 sn)
  refine wpList_nil (hK30 _ _ (wp_ret ?_)); (try simp only [xt, xb]); refine C.retC f51 rfl rfl Bg0 U34 rfl wsz34_xg ?_
  exact ⟨adC b c A cx, by rw [seat_con (by assumption)], HK, by rw [seat_con (by assumption)]; exact seatcon_ok (SX.same (kept_same HK))⟩
 refine C.condF f44 rfl ?_
 refine wp_skip (hK2 _ _ ?_)
 have f45 := f44.sub (sc 10 sn)
 refine C.sk fun K31 hK31 => ?_
 refine L.va f45 (E.build f45 (parts1 f45 rfl) (wbl34_0_xg _)) fun a46 f46 => ?_
 refine L.storeR f46 wantedN wsz34_xg rfl rfl rfl Bg0 rfl rfl fun a47 w4 f47 NB4 ks4 => ?_
 have szw4 := ks4.size
 replace HK := HK.trans ks4 (ktr (by omega))
 replace Bg0 := NB4
 clear f43 f44 f45 a42 ks4 f46 a46
 have f48 := f47.sub (sc 10 sn)
 refine wpList_nil (hK31 _ _ (wp_ret ?_)); (try simp only [xt, xb]); refine C.retC f48 rfl rfl Bg0 U34 rfl wsz34_xg ?_
 have hd : 14 ≤ k % 15 := by omega
 exact ⟨s0, by rw [seat_d hd]; rfl, HK, by rw [seat_d hd]; exact ⟨Bs.nil _ _ _ _, Bs.nil _ _ _ _, Bs.nil _ _ _ _, Cs.nil _ _ _ _ _, Cs.nil _ _ _ _ _⟩⟩
end Go.Proofs.Ytkdeedhjkjffpaa
namespace Go.Proofs.Ytkdeedhjkjffpaa
open Go.RowKit Go.Hub Go.Lib Go.Vl
theorem em_le : em.size ≤ 1000000 := by decide
theorem rightK (k : Int) (h : 12 ≤ k ∧ k ≤ 14) : RightP { kind := k } := by
  have hn : numB { kind := k } = false := by simp [numB, inB]; omega
  refine ⟨inB_iff.2 (by constructor <;> (show _ ≤ _) <;> simp <;> omega), ?_, ?_, ?_⟩
  · unfold bareP
    simp only
    rw [if_neg (by omega), if_neg (by omega), if_neg (by omega), if_neg (by omega), if_neg (by omega), if_neg (by rw [hn]; decide)]
  · unfold valB
    rw [hn]
    simp only
    rw [if_neg (by omega), if_neg (by omega), if_neg (by omega), if_neg (by omega), if_neg (by omega), if_neg (by omega)]
    rfl
  unfold behindL
  simp only
  rw [if_neg (by omega), if_neg (by omega), if_neg (by omega), hn]
  simp
theorem kindLen (k : Int) : Pk.Len { kind := k } := ⟨by simp, by simp, by simp, by simp, by simp, em_le, em_le, em_le, em_le, by simp⟩
theorem p7_tx : p7.all txB = true := by kernel_rfl
theorem p10_tx : p10.all txB = true := by kernel_rfl
theorem p5_tx : p5.all txB = true := by kernel_rfl
theorem getD_mem (l : List ByteArray) (i : Nat) (h : i < l.length) : l.getD i em ∈ l := List.mem_of_getElem? (list_at l i h)
theorem topic_mem (k : Int) : topicS k ∈ p7 := getD_mem p7 _ (by show _ < 7; omega)
theorem filter_mem (k : Int) : filterS k ∈ p10 := getD_mem p10 _ (by show _ < 10; omega)
theorem cli_mem (k : Int) : cliS k ∈ p5 := getD_mem p5 _ (by show _ < 5; omega)
theorem topic_tx (k : Int) : txB (topicS k) = true := List.all_eq_true.1 p7_tx _ (topic_mem k)
theorem filter_tx (k : Int) : txB (filterS k) = true := List.all_eq_true.1 p10_tx _ (filter_mem k)
theorem cli_tx (k : Int) : txB (cliS k) = true := List.all_eq_true.1 p5_tx _ (cli_mem k)
theorem p7_sz : ∀ s ∈ p7, s.size ≤ 10 := by decide
theorem p10_sz : ∀ s ∈ p10, s.size ≤ 10 := by decide
theorem p5_sz : ∀ s ∈ p5, s.size ≤ 10 := by decide
theorem topic_sz (k : Int) : (topicS k).size ≤ 10 := p7_sz _ (topic_mem k)
theorem filter_sz (k : Int) : (filterS k).size ≤ 10 := p10_sz _ (filter_mem k)
theorem cli_sz (k : Int) : (cliS k).size ≤ 10 := p5_sz _ (cli_mem k)
theorem tx_ah : txB ⟨#[97, 35]⟩ = true := by kernel_rfl
theorem tx_u : txB ⟨#[117]⟩ = true := by kernel_rfl
section
variable {k a b c : Int} {x : List UInt8}
theorem pub_right (hx : x.length ≤ 1000) (hb : 0 ≤ b) (hc : 0 ≤ c) : RightP (seatPub a b c x) := by
  have ht := topic_tx a
  have hz := topic_sz a
  unfold seatPub
  split
  · rename_i h
    refine ⟨by simp [inB], by simp [bareP, h], ?_, ?_⟩
    · simp [valB, numB, inB, ht, h]; omega
    simp [behindL, numB, h, lumpL_len, twoL_len, bytes_len]; omega
  rename_i h
  refine ⟨by simp [inB], by simp [bareP, h], ?_, ?_⟩
  · simp [valB, numB, inB, ht, h]; omega
  simp [behindL, numB, h, lumpL_len, twoL_len, bytes_len]; omega
theorem pub_len (hx : x.length ≤ 1000) : (seatPub a b c x).Len := by
  have hz := topic_sz a
  unfold seatPub
  split <;> exact ⟨by show x.length ≤ _; omega, by simp, by simp, by simp, by simp, by show (topicS a).size ≤ _; omega, em_le, em_le, em_le, by simp⟩
def subOk (l : List (ByteArray × Int)) : Prop := ∀ y ∈ l, txB y.1 = true ∧ (0 ≤ y.2 ∧ y.2 ≤ 2) ∧ y.1.size ≤ 10
theorem sub_ok : subOk (sub3 c (sub2 c [(filterS a, b % 3)])) := by
  have h1 : subOk [(filterS a, b % 3)] := fun y hy => by
    obtain rfl := List.mem_singleton.1 hy
    exact ⟨filter_tx a, by simp only; omega, filter_sz a⟩
  have h2 : subOk (sub2 c [(filterS a, b % 3)]) := by
    unfold sub2
    split
    · intro y hy
      rcases List.mem_append.1 hy with hy | hy
      · exact h1 y hy
      obtain rfl := List.mem_singleton.1 hy
      exact ⟨filter_tx c, by simp only; omega, filter_sz c⟩
    exact h1
  unfold sub3
  split
  · intro y hy
    rcases List.mem_append.1 hy with hy | hy
    · exact h2 y hy
    obtain rfl := List.mem_singleton.1 hy
    exact ⟨tx_ah, by decide, by decide⟩
  exact h2
theorem sub_num : 0 < (sub3 c (sub2 c [(filterS a, b % 3)])).length ∧ (sub3 c (sub2 c [(filterS a, b % 3)])).length ≤ 3 := by
  unfold sub3 sub2
  repeat' split
  all_goals simp
theorem flatS_le (kd : Int) (l : List (ByteArray × Int)) (h : subOk l) : (l.flatMap (subL kd)).length ≤ 13 * l.length := by
  induction l with
  | nil => simp
  | cons y r ih =>
    have h1 := ih fun z hz => h z (List.mem_cons_of_mem _ hz)
    have h2 := (h y (List.mem_cons_self ..)).2.2
    have h3 : (subL kd y).length ≤ 13 := by
      unfold subL
      rw [List.length_append, lumpL_len, bytes_len]
      split <;> simp <;> omega
    rw [List.flatMap_cons, List.length_append, List.length_cons]
    omega
theorem subB_of (m : Int) (l : List (ByteArray × Int)) (h : ∀ y ∈ l, txB y.1 = true ∧ 0 ≤ y.2 ∧ y.2 ≤ m) : subB m l = true := by
  unfold subB
  rw [List.all_eq_true]
  intro y hy
  obtain ⟨h1, h2, h3⟩ := h y hy
  rw [h1, Bool.true_and]
  exact inB_iff.2 ⟨h2, h3⟩
theorem num_8 (k : Int) (h : 4 ≤ k ∧ k ≤ 11) (i : Int) (l : List (ByteArray × Int)) : numB { kind := k, id := i, subs := l } = true := by
  unfold numB
  simp only
  rw [if_neg (by omega)]
  exact inB_iff.2 h
theorem subs_right (kd : Int) (hk : kd = 8 ∨ kd = 10) (i : Int) (hi : 1 ≤ i ∧ i ≤ 65535) (l : List (ByteArray × Int)) (h : subOk l) (h0 : kd = 10 → ∀ y ∈ l, y.2 = 0) (hn : 0 < l.length ∧ l.length ≤ 3) : RightP { kind := kd, id := i, subs := l } := by
  have hnum := num_8 kd (by omega) i l
  refine ⟨inB_iff.2 (by constructor <;> (show _ ≤ _) <;> simp only <;> omega), ?_, ?_, ?_⟩
  · unfold bareP
    simp only
    rw [if_neg (by omega), if_neg (by omega), if_neg (by omega), if_pos hk]
  · unfold valB
    rw [hnum]
    simp only [Bool.not_true, Bool.false_or]
    rw [inB_iff.2 hi, Bool.true_and]
    rcases hk with rfl | rfl
    · rw [if_neg (by decide), if_neg (by decide), if_neg (by decide), if_pos rfl, subB_of 2 l fun y hy => ⟨(h y hy).1, (h y hy).2.1⟩, Bool.true_and]
      exact decide_eq_true hn.1
    rw [if_neg (by decide), if_neg (by decide), if_neg (by decide), if_neg (by decide), if_pos rfl, subB_of 0 l fun y hy => ⟨(h y hy).1, by rw [h0 rfl y hy]; decide⟩, Bool.true_and]
    exact decide_eq_true hn.1
  unfold behindL
  rw [hnum]
  simp only
  rw [if_neg (by omega), if_neg (by omega), if_neg (by omega)]
  have := flatS_le kd l h
  simp only [if_true, reduceIte, List.nil_append, List.length_append, twoL_len, List.map_nil, List.length_nil]
  omega
theorem unsS_ok : subOk (unsL a c) ∧ (∀ y ∈ unsL a c, y.2 = 0) ∧ 0 < (unsL a c).length ∧ (unsL a c).length ≤ 3 := by
  unfold unsL
  split
  · refine ⟨fun y hy => ?_, fun y hy => ?_, by simp, by simp⟩
    · obtain rfl := List.mem_singleton.1 hy
      exact ⟨filter_tx a, by simp only; omega, filter_sz a⟩
    obtain rfl := List.mem_singleton.1 hy
    rfl
  refine ⟨fun y hy => ?_, fun y hy => ?_, by simp, by simp⟩
  · simp only [List.mem_cons, List.not_mem_nil, or_false] at hy
    rcases hy with rfl | rfl
    · exact ⟨filter_tx a, by simp only; omega, filter_sz a⟩
    exact ⟨filter_tx c, by simp only; omega, filter_sz c⟩
  simp only [List.mem_cons, List.not_mem_nil, or_false] at hy
  rcases hy with rfl | rfl <;> rfl
theorem id_right (kd : Int) (hk : 4 ≤ kd ∧ kd ≤ 7) (i : Int) (hi : 1 ≤ i ∧ i ≤ 65535) : RightP { kind := kd, id := i } := by
  have hnum := num_8 kd (by omega) i []
  refine ⟨inB_iff.2 (by constructor <;> (show _ ≤ _) <;> simp only <;> omega), ?_, ?_, ?_⟩
  · unfold bareP
    rw [hnum]
    simp only
    rw [if_neg (by omega), if_neg (by omega), if_neg (by omega), if_neg (by omega), if_neg (by omega)]
    rfl
  · unfold valB
    rw [hnum]
    simp only [Bool.not_true, Bool.false_or]
    rw [inB_iff.2 hi, Bool.true_and, if_neg (by omega), if_neg (by omega), if_neg (by omega), if_neg (by omega), if_neg (by omega), if_neg (by omega)]
  unfold behindL
  rw [hnum]
  simp only
  rw [if_neg (by omega), if_neg (by omega), if_neg (by omega)]
  simp [twoL_len]
theorem id_len (kd i : Int) : Pk.Len { kind := kd, id := i } := ⟨by simp, by simp, by simp, by simp, by simp, em_le, em_le, em_le, em_le, by simp⟩
theorem subs_len (kd i : Int) (l : List (ByteArray × Int)) (h : subOk l) (hn : l.length ≤ 3) : Pk.Len { kind := kd, id := i, subs := l } := ⟨by simp, by simp, by simp, by show l.length ≤ _; omega, by simp, em_le, em_le, em_le, em_le, fun y hy => by have := (h y hy).2.2; omega⟩
theorem seatcon_right (hx : x.length ≤ 1000) (ha : 0 ≤ a) (hc : 0 ≤ c) : RightP (seatCon a b c x) := by
  have t1 := topic_tx c
  have z1 := topic_sz c
  have t2 := cli_tx a
  have z2 := cli_sz a
  have t3 := tx_u
  have t4 := txB_em
  have e1 : con1 a b c = { kind := 1, level := 4, client := cliS a, clean := (if cliS a = em then decide (0 < b % 9) else decide (b % 2 = 0)), keep := c % 5 } := by unfold con1; split <;> rfl
  obtain ⟨cl, hcl⟩ : ∃ cl : Bool, cl = (if cliS a = em then decide (0 < b % 9) else decide (b % 2 = 0)) := ⟨_, rfl⟩
  rw [← hcl] at e1
  unfold seatCon
  rw [e1]
  unfold con4 con3 con2
  have hk5 : 0 ≤ c % 5 ∧ c % 5 ≤ 65535 := by omega
  have hw3 : 0 ≤ a % 3 ∧ a % 3 ≤ 2 := by omega
  by_cases h1 : c % 3 = 0 <;> by_cases h2 : a % 8 = 7 <;> by_cases h3 : b % 10 = 9 <;> simp only [h1, h2, h3, if_true, if_false, reduceIte] <;>
    refine ⟨by simp [inB], by simp [bareP], ?_, ?_⟩ <;>
    (first | (simp [valB, numB, inB, t1, t2, t3, t4, hk5, hw3]; done) | (simp [valB, numB, inB, t1, t2, t3, t4, hk5, hw3]; omega) | (simp [behindL, connL, numB, lumpL_len, twoL_len, bytes_len]; omega))
theorem seatcon_len (hx : x.length ≤ 1000) : (seatCon a b c x).Len := by
  have z1 := topic_sz c
  have z2 := cli_sz a
  have hu : (⟨#[117]⟩ : ByteArray).size ≤ 1000000 := by decide
  have h0 : (con1 a b c).Len := by
    unfold con1
    split <;> exact ⟨by simp, by simp, by simp, by simp, by simp, em_le, by show (cliS a).size ≤ _; omega, em_le, em_le, by simp⟩
  have h1 : (con2 a b c x (con1 a b c)).Len := by
    unfold con2
    split
    · exact ⟨h0.pay, by show x.length ≤ _; omega, h0.pass, h0.subs, h0.codes, h0.topic, h0.client, by show (topicS c).size ≤ _; omega, h0.user, h0.each⟩
    exact h0
  have h2 : (con3 a (con2 a b c x (con1 a b c))).Len := by
    unfold con3
    split
    · exact ⟨h1.pay, h1.wp, h1.pass, h1.subs, h1.codes, h1.topic, h1.client, h1.wt, h1.user, h1.each⟩
    exact h1
  unfold seatCon con4
  split
  · exact ⟨h2.pay, h2.wp, by show x.length ≤ _; omega, h2.subs, h2.codes, h2.topic, h2.client, h2.wt, hu, h2.each⟩
  exact h2
theorem seat_right (hk : 0 ≤ k) (ha : 0 ≤ a) (hb : 0 ≤ b) (hc : 0 ≤ c) (hx : x.length ≤ 1000) : RightP (seatP k a b c x) ∧ (seatP k a b c x).Len := by
  obtain ⟨u1, u2, u3, u4⟩ := unsS_ok (a := a) (c := c)
  have s1 := sub_num (a := a) (b := b) (c := c)
  unfold seatP
  repeat' split
  · exact ⟨pub_right hx hb hc, pub_len hx⟩
  · exact ⟨subs_right 8 (.inl rfl) _ (by omega) _ sub_ok (fun h => by omega) s1, subs_len _ _ _ sub_ok s1.2⟩
  · exact ⟨subs_right 10 (.inr rfl) _ (by omega) _ u1 (fun _ => u2) ⟨u3, u4⟩, subs_len _ _ _ u1 u4⟩
  · exact ⟨id_right 4 (by decide) _ (by omega), id_len _ _⟩
  · exact ⟨id_right 5 (by decide) _ (by omega), id_len _ _⟩
  · exact ⟨id_right 7 (by decide) _ (by omega), id_len _ _⟩
  · exact ⟨id_right 6 (by decide) _ (by omega), id_len _ _⟩
  · exact ⟨rightK 12 (by decide), kindLen 12⟩
  · exact ⟨seatcon_right hx ha hc, seatcon_len hx⟩
  exact ⟨rightK 14 (by decide), kindLen 14⟩
end
end Go.Proofs.Ytkdeedhjkjffpaa
namespace Go.Proofs.Ytkdeedhjkjffpaa
open Go.RowKit Go.Hub Go.Lib Go.Vl
theorem wsz9_za : (Try.prog.info? 9).map (·.size) = some 1 := by kernel_rfl
theorem wsz28_za : (Try.prog.info? 28).map (·.size) = some 1 := by kernel_rfl
theorem wsz30_za : (Try.prog.info? 30).map (·.size) = some 4 := by kernel_rfl
theorem wsz31_za : (Try.prog.info? 31).map (·.size) = some 1 := by kernel_rfl
theorem wsz32_za : (Try.prog.info? 32).map (·.size) = some 1 := by kernel_rfl
theorem wsz46_za : (Try.prog.info? 46).map (·.size) = some 2 := by kernel_rfl
def _root_.Go.Hub.Pk.Reach (p : Pk) : Prop := p.topic.size ≤ 140737488355328 ∧ p.pay.length ≤ 140737488355328 ∧ p.client.size ≤ 140737488355328 ∧ p.user.size ≤ 140737488355328 ∧ p.pass.length ≤ 140737488355328 ∧ p.wt.size ≤ 140737488355328 ∧ p.wp.length ≤ 140737488355328
structure LightP (p : Pk) : Prop where
  subs : p.subs.length ≤ 10
  codes : p.codes.length ≤ 20
  sum : p.topic.size + p.pay.length + p.client.size + p.user.size + p.pass.length + p.wt.size + p.wp.length ≤ 300
  each : ∀ x ∈ p.subs, x.1.size ≤ 60
theorem take_all {l : List (ByteArray × Int)} {i : Nat} {d : ByteArray × Int} (h : ∀ x ∈ l.take i, x.1.size ≤ 60) (hd : l[i]? = some d) (h2 : d.1.size ≤ 60) : ∀ x ∈ l.take (i + 1), x.1.size ≤ 60 := fun x hx => by
  rw [List.take_add_one, hd] at hx
  rcases List.mem_append.1 hx with hx | hx
  · exact h x hx
  simp at hx
  subst hx
  exact h2
set_option maxHeartbeats 2000000 in
theorem light_any (p : Pk) (s : Ad) (w : World) (IP : p.In w s) (hr : p.Reach) : Calls Try.prog 9 #[.agg (p.cells s)] w (fun e w' => Kept [] w w' ∧ ∃ b, e = .returned (.bool b) ∧ (b = true → LightP p)) := by
 have HK : Kept [] w w := Kept.refl [] w
 obtain ⟨r1, r2, r3, r4, r5, r6, r7⟩ := hr
 refine C.enter Try.func9 rfl Try.ntmps9 rfl ?_
 intro a0 f0
 have f1 : Fr 61 a0 [(0, .agg (p.cells s))] := f0
 refine C.sk fun K0 hK0 => ?_
 refine L.box f1 wantedN (by decide) rfl rfl fun a2 w1 g0 N0 f2 => ?_
 have Bg0 := N0.blk
 have kg0 := N0.kept
 have log0 := N0.lo
 have ltg0 := Bg0.lt
 have szw1 := kg0.size
 have frg0 : w.heap.size ≤ g0 := Nat.le_trans HK.size log0
 replace HK := HK.z kg0
 clear f0 N0 kg0
 refine L.ag f2 fun a3 f3 => ?_
 refine wpList_nil (hK0 _ _ ?_)
 have f4 := f3.sub (sc 1 sn)
 refine wp_seq_k fun K1 hK1 => ?_
 refine wp_seq_k fun K2 hK2 => ?_
 replace Bg0 : Blk w1 g0 34 #[.int .i64 p.kind, .bool p.dup, .bool p.retain, .int .i64 p.qos, .int .i64 p.id, .string p.topic, .slice s.pa p.pay.length s.pc, .int .i64 p.level, .string p.client, .bool p.clean, .int .i64 p.keep, .bool p.hasWill, .string p.wt, .slice s.wa p.wp.length s.wc, .int .i64 p.wq, .bool p.wr, .bool p.hasUser, .bool p.hasPass, .string p.user, .slice s.sa p.pass.length s.sc, .bool p.present, .int .i64 p.code, .slice s.ua p.subs.length s.uc, .slice s.ca p.codes.length s.cc] := Bg0
 refine C.region ?_
 refine L.fa 22 f4 U34 rfl wsz31_za fun a5 f5 => ?_
 refine L.ld f5 U31 Bg0 fun a6 f6 => ?_
 refine L.va f6 (E.lenL f6 U31 rfl) fun a7 f7 => ?_
 refine L.va f7 (E.gtr f7 rfl rfl) fun a8 f8 => ?_
 refine L.mv f8 fun a9 f9 => ?_
 clear f1 a0 f2 a2 f3 f4 a3 f5 a5 f6 a6 f7 a7 f8 a8
 refine f9.splitD 8 rfl (fun h0 f10 => ?_) (fun h0 f10 => ?_)
 ·refine L.run f10 (rest' := []) (by kernel_rfl) fun a11 f11 => ?_
  clear f9
  refine wpList_nil (hK2 _ _ ?_)
  have f12 := f11.sub (scR f11 1 (sv 45 (.bool true) sn))
  refine C.condT f12 rfl ?_
  refine C.sk fun K3 hK3 => ?_
  refine L.ag f12 fun a13 f13 => ?_
  have f14 := f13.sub (sc 2 sn)
  refine wpList_nil (hK3 _ _ (wp_ret ?_)); (try simp only [xt, xb]); refine C.ret f14 rfl rfl ?_
  exact ⟨HK, false, rfl, fun h => by cases h⟩
 refine L.fa 23 f10 U34 rfl wsz32_za (hw := (f10.yes rfl rfl)) fun a11 f11 => ?_
 refine L.ld f11 U32 Bg0 (hw := (f11.yes rfl rfl)) fun a12 f12 => ?_
 refine L.va f12 (E.lenL f12 U32 rfl) (hw := (f12.yes rfl rfl)) fun a13 f13 => ?_
 refine L.va f13 (E.gtr f13 rfl rfl) (hw := (f13.yes rfl rfl)) fun a14 f14 => ?_
 refine L.va f14 (E.pickF f14 rfl rfl) fun a15 f15 => ?_
 refine L.mv f15 fun a16 f16 => ?_
 clear f9 f10 a9 f11 a11 f12 a12 f13 a13 f14 a14 f15 a15
 refine f16.splitD 14 rfl (fun h1 f17 => ?_) (fun h1 f17 => ?_)
 ·refine L.run f17 (rest' := []) (by kernel_rfl) fun a18 f18 => ?_
  clear f16
  refine wpList_nil (hK2 _ _ ?_)
  have f19 := f18.sub (scR f18 1 (sv 45 (.bool true) sn))
  refine C.condT f19 rfl ?_
  refine C.sk fun K4 hK4 => ?_
  refine L.ag f19 fun a20 f20 => ?_
  have f21 := f20.sub (sc 2 sn)
  refine wpList_nil (hK4 _ _ (wp_ret ?_)); (try simp only [xt, xb]); refine C.ret f21 rfl rfl ?_
  exact ⟨HK, false, rfl, fun h => by cases h⟩
 refine L.fa 5 f17 U34 rfl wsz9_za (hw := (f17.yes rfl rfl)) fun a18 f18 => ?_
 refine L.ld f18 U9 Bg0 (hw := (f18.yes rfl rfl)) fun a19 f19 => ?_
 refine L.va f19 (E.lenS f19 U9 rfl) (hw := (f19.yes rfl rfl)) fun a20 f20 => ?_
 refine L.fa 6 f20 U34 rfl wsz28_za (hw := (f20.yes rfl rfl)) fun a21 f21 => ?_
 refine L.ld f21 U28 Bg0 (hw := (f21.yes rfl rfl)) fun a22 f22 => ?_
 refine L.va f22 (E.lenL f22 U28 rfl) (hw := (f22.yes rfl rfl)) fun a23 f23 => ?_
 refine L.va f23 (E.add f23 rfl rfl (IntWalk.i64_in _ (by omega))) (hw := (f23.yes rfl rfl)) fun a24 f24 => ?_
 clear f16 f17 a16 f18 a18 f19 a19 f20 a20 f21 a21 f22 a22 f23 a23
 refine L.fa 8 f24 U34 rfl wsz9_za (hw := (f24.yes rfl rfl)) fun a25 f25 => ?_
 refine L.ld f25 U9 Bg0 (hw := (f25.yes rfl rfl)) fun a26 f26 => ?_
 refine L.va f26 (E.lenS f26 U9 rfl) (hw := (f26.yes rfl rfl)) fun a27 f27 => ?_
 refine L.va f27 (E.add f27 rfl rfl (IntWalk.i64_in _ (by omega))) (hw := (f27.yes rfl rfl)) fun a28 f28 => ?_
 refine L.fa 18 f28 U34 rfl wsz9_za (hw := (f28.yes rfl rfl)) fun a29 f29 => ?_
 refine L.ld f29 U9 Bg0 (hw := (f29.yes rfl rfl)) fun a30 f30 => ?_
 refine L.va f30 (E.lenS f30 U9 rfl) (hw := (f30.yes rfl rfl)) fun a31 f31 => ?_
 clear f24 a24 f25 a25 f26 a26 f27 a27 f28 a28 f29 a29 f30 a30
 refine L.va f31 (E.add f31 rfl rfl (IntWalk.i64_in _ (by omega))) (hw := (f31.yes rfl rfl)) fun a32 f32 => ?_
 refine L.fa 19 f32 U34 rfl wsz28_za (hw := (f32.yes rfl rfl)) fun a33 f33 => ?_
 refine L.ld f33 U28 Bg0 (hw := (f33.yes rfl rfl)) fun a34 f34 => ?_
 refine L.va f34 (E.lenL f34 U28 rfl) (hw := (f34.yes rfl rfl)) fun a35 f35 => ?_
 refine L.va f35 (E.add f35 rfl rfl (IntWalk.i64_in _ (by omega))) (hw := (f35.yes rfl rfl)) fun a36 f36 => ?_
 refine L.fa 12 f36 U34 rfl wsz30_za (hw := (f36.yes rfl rfl)) fun a37 f37 => ?_
 refine L.fa 0 f37 U30 rfl wsz9_za (hw := (f37.yes rfl rfl)) fun a38 f38 => ?_
 clear f31 a31 f32 a32 f33 a33 f34 a34 f35 a35 f36 a36 f37 a37
 refine L.ld f38 U9 Bg0 (hw := (f38.yes rfl rfl)) fun a39 f39 => ?_
 refine L.va f39 (E.lenS f39 U9 rfl) (hw := (f39.yes rfl rfl)) fun a40 f40 => ?_
 refine L.va f40 (E.add f40 rfl rfl (IntWalk.i64_in _ (by omega))) (hw := (f40.yes rfl rfl)) fun a41 f41 => ?_
 refine L.fa 12 f41 U34 rfl wsz30_za (hw := (f41.yes rfl rfl)) fun a42 f42 => ?_
 refine L.fa 1 f42 U30 rfl wsz28_za (hw := (f42.yes rfl rfl)) fun a43 f43 => ?_
 refine L.ld f43 U28 Bg0 (hw := (f43.yes rfl rfl)) fun a44 f44 => ?_
 refine L.va f44 (E.lenL f44 U28 rfl) (hw := (f44.yes rfl rfl)) fun a45 f45 => ?_
 clear f38 a38 f39 a39 f40 a40 f41 a41 f42 a42 f43 a43 f44 a44
 refine L.va f45 (E.add f45 rfl rfl (IntWalk.i64_in _ (by omega))) (hw := (f45.yes rfl rfl)) fun a46 f46 => ?_
 refine L.va f46 (E.gtr f46 rfl rfl) (hw := (f46.yes rfl rfl)) fun a47 f47 => ?_
 refine L.va f47 (E.pickF f47 rfl rfl) fun a48 f48 => ?_
 refine wpList_nil (hK2 _ _ ?_)
 have f49 := f48.sub (sc 1 (sc 45 sn))
 clear f45 a45 f46 a46 f47 a47 f48
 refine f49.splitD 45 rfl (fun h2 f50 => ?_) (fun h2 f50 => ?_)
 ·refine C.condT f50 rfl ?_
  refine C.sk fun K5 hK5 => ?_
  refine L.ag f50 fun a51 f51 => ?_
  have f52 := f51.sub (sc 2 sn)
  refine wpList_nil (hK5 _ _ (wp_ret ?_)); (try simp only [xt, xb]); refine C.ret f52 rfl rfl ?_
  exact ⟨HK, false, rfl, fun h => by cases h⟩
 refine C.condF f50 rfl ?_
 refine wp_skip (hK1 _ _ ?_)
 have f51 := f50.sub (sc 1 sn)
 refine wp_seq_k fun K6 hK6 => ?_
 refine C.sk fun K7 hK7 => ?_
 refine L.ag f51 fun a52 f52 => ?_
 refine wpList_nil (hK7 _ _ ?_)
 have f53 := f52.sub (sc 1 (sc 3 sn))
 refine wp_block ?_
 clear f49 f50 f51 a48 f52
 refine C.loop (fun gk a W => ∃ i : Nat, i + gk = p.subs.length ∧ Kept [] w W ∧ Blk W g0 34 #[.int .i64 p.kind, .bool p.dup, .bool p.retain, .int .i64 p.qos, .int .i64 p.id, .string p.topic, .slice s.pa p.pay.length s.pc, .int .i64 p.level, .string p.client, .bool p.clean, .int .i64 p.keep, .bool p.hasWill, .string p.wt, .slice s.wa p.wp.length s.wc, .int .i64 p.wq, .bool p.wr, .bool p.hasUser, .bool p.hasPass, .string p.user, .slice s.sa p.pass.length s.sc, .bool p.present, .int .i64 p.code, .slice s.ua p.subs.length s.uc, .slice s.ca p.codes.length s.cc] ∧ (∀ x ∈ p.subs.take i, x.1.size ≤ 60) ∧ Fr 61 a [(1, .pointer (some ⟨g0, 0, none⟩)), (3, .int .i64 i)]) (p.subs.length) ?_ ?_
 ·exact ⟨0, by omega, HK, Bg0, by simp, f53.sub (sx (sx sn))⟩
 intro gk9 a54 w2 hI KL8 hKL8
 obtain ⟨i, hi, HK, Bg0, hall, f54⟩ := hI
 try clear f53
 refine wp_seq_k fun K9 hK9 => ?_
 refine C.sk fun K10 hK10 => ?_
 refine L.mv f54 fun a55 f55 => ?_
 refine L.fa 22 f55 U34 rfl wsz31_za fun a56 f56 => ?_
 refine L.ld f56 U31 Bg0 fun a57 f57 => ?_
 refine L.va f57 (E.lenL f57 U31 rfl) fun a58 f58 => ?_
 refine L.va f58 (E.lss f58 rfl rfl) fun a59 f59 => ?_
 refine wpList_nil (hK10 _ _ ?_)
 have f60 := f59.sub (sc 1 (sc 3 (sc 50 sn)))
 clear f54 a54 f55 a55 f56 a56 f57 a57 f58 a58 f59
 refine f60.splitD 50 rfl (fun h3 f61 => ?_) (fun h3 f61 => ?_)
 ·obtain ⟨d, hd⟩ := some_at p.subs i (by omega)
  obtain ⟨bk, off, hA⟩ := IP.subs.addr (by omega)
  refine C.condT f61 rfl ?_
  refine wp_skip (hK9 _ _ ?_)
  have f62 := f61.sub (sc 1 (sc 3 sn))
  refine wp_seq_k fun K11 hK11 => ?_
  refine wp_block ?_
  refine C.sk fun K12 hK12 => ?_
  refine L.fa 22 f62 U34 rfl wsz31_za fun a63 f63 => ?_
  refine L.ld f63 U31 Bg0 fun a64 f64 => ?_
  refine L.mv f64 fun a65 f65 => ?_
  refine L.va f65 (E.indexA f65 (by assumption) U31 wsz46_za rfl rfl (by omega) (by omega)) fun a66 f66 => ?_
  refine L.va f66 (E.fa 0 f66 Try.underlying46 rfl wsz9_za) fun a67 f67 => ?_
  refine L.va f67 (E.load f67 U9 rfl rfl (sub_cell0 (IP.subs.kept HK) hA hd)) fun a68 f68 => ?_
  clear f60 f61 f62 a59 f63 a63 f64 a64 f65 a65 f66 a66 f67 a67
  refine L.va f68 (E.lenS f68 U9 rfl) fun a69 f69 => ?_
  refine L.va f69 (E.gtr f69 rfl rfl) fun a70 f70 => ?_
  refine wpList_nil (hK12 _ _ ?_)
  have f71 := f70.sub (sc 1 (sc 3 (sc 60 sn)))
  clear f68 a68 f69 a69 f70
  refine f71.splitD 60 rfl (fun h4 f72 => ?_) (fun h4 f72 => ?_)
  ·refine C.condT f72 rfl ?_
   refine C.sk fun K13 hK13 => ?_
   refine L.ag f72 fun a73 f73 => ?_
   have f74 := f73.sub (sc 2 sn)
   refine wpList_nil (hK13 _ _ (wp_ret ?_)); (try simp only [xt, xb]); refine C.ret f74 rfl rfl ?_
   exact ⟨HK, false, rfl, fun h => by cases h⟩
  have hd60 := h4
  refine C.condF f72 rfl ?_
  refine wp_skip (hK11 _ _ ?_)
  have f73 := f72.sub (sc 1 (sc 3 sn))
  refine C.region ?_
  refine L.mv f73 fun a74 f74 => ?_
  refine L.va f74 (E.add f74 rfl rfl (IntWalk.i64_in _ (by omega))) fun a75 f75 => ?_
  refine L.ag f75 fun a76 f76 => ?_
  clear f71 f72 f73 a70 f74 a74 f75 a75
  refine wpList_nil (hKL8 _ _ (gk9 - 1) ?_ ?_)
  ·omega
  exact ⟨i + 1, by omega, HK, Bg0, take_all hall hd (by omega), f76.sub (sx (sx sn))⟩
 refine C.condF f61 rfl ?_
 refine wp_exit (hK6 _ _ ?_)
 have f62 := f61.sub sn
 refine C.sk fun K14 hK14 => ?_
 refine L.ag f62 fun a63 f63 => ?_
 have f64 := f63.sub (sc 2 sn)
 refine wpList_nil (hK14 _ _ (wp_ret ?_)); (try simp only [xt, xb]); refine C.ret f64 rfl rfl ?_
 exact ⟨HK, true, rfl, fun _ => ⟨by omega, by omega, by omega, by have e : i = p.subs.length := (by omega); subst e; rw [List.take_length] at hall; exact hall⟩⟩
end Go.Proofs.Ytkdeedhjkjffpaa
namespace Go.Proofs.Ytkdeedhjkjffpaa
open Go.RowKit Go.Hub Go.Lib Go.WideShapes Go.ChangeMaps
theorem wzi3_ub : (Try.prog.info? 3).map (fun i => (i.zero, i.size)) = some (some (.int .i64 0), 1) := by kernel_rfl
theorem wbs32_2_ub (x0 : Int) (x1 : Int) : Instr.fill (fun i => some (i * 1, 1)) ((Array.range (2 * 1)).map fun j => (Value.cells (.int .i64 0))[j % (Value.cells (.int .i64 0)).size]!) [(0, .int .i64 x0), (1, .int .i64 x1)] = some #[.int .i64 x0, .int .i64 x1] := by kernel_rfl
theorem wbs32_4_ub (x0 : Int) (x1 : Int) (x2 : Int) (x3 : Int) : Instr.fill (fun i => some (i * 1, 1)) ((Array.range (4 * 1)).map fun j => (Value.cells (.int .i64 0))[j % (Value.cells (.int .i64 0)).size]!) [(0, .int .i64 x0), (1, .int .i64 x1), (2, .int .i64 x2), (3, .int .i64 x3)] = some #[.int .i64 x0, .int .i64 x1, .int .i64 x2, .int .i64 x3] := by kernel_rfl
theorem wsz3_ub : (Try.prog.info? 3).map (·.size) = some 1 := by kernel_rfl
theorem wsz5_ub : (Try.prog.info? 5).map (·.size) = some 1 := by kernel_rfl
theorem wsz28_ub : (Try.prog.info? 28).map (·.size) = some 1 := by kernel_rfl
theorem wsz34_ub : (Try.prog.info? 34).map (·.size) = some 24 := by kernel_rfl
theorem wbl34_0_ub (x0 : Int) : Try.prog.built 34 [(0, .int .i64 x0)] = some #[.int .i64 x0, (.bool false), (.bool false), (.int .i64 0), (.int .i64 0), (.string ⟨#[]⟩), (.slice none 0 0), (.int .i64 0), (.string ⟨#[]⟩), (.bool false), (.int .i64 0), (.bool false), (.string ⟨#[]⟩), (.slice none 0 0), (.int .i64 0), (.bool false), (.bool false), (.bool false), (.string ⟨#[]⟩), (.slice none 0 0), (.bool false), (.int .i64 0), (.slice none 0 0), (.slice none 0 0)] := by kernel_rfl
theorem wbl34_0_17_18_ub (x0 : Int) (x1 : Bool) (x2 : Int) : Try.prog.built 34 [(0, .int .i64 x0), (17, .bool x1), (18, .int .i64 x2)] = some #[.int .i64 x0, (.bool false), (.bool false), (.int .i64 0), (.int .i64 0), (.string ⟨#[]⟩), (.slice none 0 0), (.int .i64 0), (.string ⟨#[]⟩), (.bool false), (.int .i64 0), (.bool false), (.string ⟨#[]⟩), (.slice none 0 0), (.int .i64 0), (.bool false), (.bool false), (.bool false), (.string ⟨#[]⟩), (.slice none 0 0), .bool x1, .int .i64 x2, (.slice none 0 0), (.slice none 0 0)] := by kernel_rfl
theorem wbl34_0_4_ub (x0 : Int) (x1 : Int) : Try.prog.built 34 [(0, .int .i64 x0), (4, .int .i64 x1)] = some #[.int .i64 x0, (.bool false), (.bool false), (.int .i64 0), .int .i64 x1, (.string ⟨#[]⟩), (.slice none 0 0), (.int .i64 0), (.string ⟨#[]⟩), (.bool false), (.int .i64 0), (.bool false), (.string ⟨#[]⟩), (.slice none 0 0), (.int .i64 0), (.bool false), (.bool false), (.bool false), (.string ⟨#[]⟩), (.slice none 0 0), (.bool false), (.int .i64 0), (.slice none 0 0), (.slice none 0 0)] := by kernel_rfl
theorem wbl34_0_4_20_ub (x0 : Int) (x1 : Int) (x2 : Option Addr) (y2 z2 : Nat) : Try.prog.built 34 [(0, .int .i64 x0), (4, .int .i64 x1), (20, .slice x2 y2 z2)] = some #[.int .i64 x0, (.bool false), (.bool false), (.int .i64 0), .int .i64 x1, (.string ⟨#[]⟩), (.slice none 0 0), (.int .i64 0), (.string ⟨#[]⟩), (.bool false), (.int .i64 0), (.bool false), (.string ⟨#[]⟩), (.slice none 0 0), (.int .i64 0), (.bool false), (.bool false), (.bool false), (.string ⟨#[]⟩), (.slice none 0 0), (.bool false), (.int .i64 0), (.slice none 0 0), .slice x2 y2 z2] := by kernel_rfl
theorem wbl34_0_5_3_6_1_ub (x0 : Int) (x1 : ByteArray) (x2 : Int) (x3 : Option Addr) (y3 z3 : Nat) (x4 : Bool) : Try.prog.built 34 [(0, .int .i64 x0), (5, .string x1), (3, .int .i64 x2), (6, .slice x3 y3 z3), (1, .bool x4)] = some #[.int .i64 x0, .bool x4, (.bool false), .int .i64 x2, (.int .i64 0), .string x1, .slice x3 y3 z3, (.int .i64 0), (.string ⟨#[]⟩), (.bool false), (.int .i64 0), (.bool false), (.string ⟨#[]⟩), (.slice none 0 0), (.int .i64 0), (.bool false), (.bool false), (.bool false), (.string ⟨#[]⟩), (.slice none 0 0), (.bool false), (.int .i64 0), (.slice none 0 0), (.slice none 0 0)] := by kernel_rfl
structure Wd where
  inn : Bool
  k : Int
  a : Int
  b : Int
  c : Int
  p : Pk
  x : List UInt8
def SeatL (B : Nat) (w : World) (e : Ending) (w' : World) : Prop := ∃ p s, e = .returned (.agg (Pk.cells p s)) ∧ Kept [] w w' ∧ PkS B w' p s ∧ p.Len
def kindW (a : Int) : Int := if a = 0 then 4 else if a = 1 then 5 else if a = 2 then 7 else 6
theorem kw_cell {W : World} {g : Nat} {a : Int} (B : Blk W g 3 #[.int .i64 4, .int .i64 5, .int .i64 7, .int .i64 6]) (h : 0 ≤ a ∧ a < 4) : W.cell? ⟨g, 0 + a.toNat * 1, none⟩ = some (.int .i64 (kindW a)) := by
  have : a = 0 ∨ a = 1 ∨ a = 2 ∨ a = 3 := by omega
  rcases this with rfl | rfl | rfl | rfl <;> exact B.cl rfl
def codW (a c : Int) : List Int := if c % 2 = 0 then [a % 3] else [a % 3, 128]
theorem cod_len (a c : Int) : (codW a c).length = (1 + c % 2).toNat := by
  unfold codW
  rcases (by omega : c % 2 = 0 ∨ c % 2 = 1) with h | h
  · rw [if_pos h, h]; rfl
  rw [if_neg (by omega), h]; rfl
theorem cod_sl {w : World} {g : Nat} {a c : Int} (B : Blk w g 3 #[.int .i64 (a % 3), .int .i64 128]) : Sl w (some ⟨g, 0, none⟩) (codW a c).length 1 (codeCells (codW a c)) := by
  unfold codW
  split
  · exact ⟨rfl, fun _ => ⟨g, 0, rfl, B.lt, fun j u hu => by
      rw [Nat.zero_add]
      refine B.cl ?_
      match j, hu with
      | 0, hu => exact hu
      | n + 1, hu => simp [codeCells] at hu⟩⟩
  exact B.slN (n := 2) (size := 1) rfl
theorem len_cod (i a c : Int) : Pk.Len { kind := 9, id := i, codes := codW a c } := by
  have : (codW a c).length ≤ 1000000 := by rw [cod_len]; omega
  constructor <;> first | exact Nat.zero_le _ | exact this | decide | exact fun x hx => absurd hx (by simp)
theorem len_flat (p : Pk) (h : p.pay = [] ∧ p.wp = [] ∧ p.pass = [] ∧ p.subs = [] ∧ p.codes = [] ∧ p.topic = ⟨#[]⟩ ∧ p.client = ⟨#[]⟩ ∧ p.wt = ⟨#[]⟩ ∧ p.user = ⟨#[]⟩) : p.Len := by
  obtain ⟨h1, h2, h3, h4, h5, h6, h7, h8, h9⟩ := h
  constructor <;> simp only [h1, h2, h3, h4, h5, h6, h7, h8, h9] <;> first | exact Nat.zero_le _ | decide | exact fun x hx => absurd hx (by simp)
theorem topicS_le (k : Int) : (topicS k).size ≤ 1000 := by
  unfold topicS
  rw [List.getD_eq_getElem?_getD]
  cases h : p7[(k % 7).toNat]? with
  | none => decide
  | some t =>
    have := List.mem_of_getElem? h
    revert this
    show t ∈ p7 → t.size ≤ 1000
    unfold p7
    intro this
    simp only [List.mem_cons, List.not_mem_nil, or_false] at this
    rcases this with rfl | rfl | rfl | rfl | rfl | rfl | rfl <;> decide
theorem take_len (l : List UInt8) : (l.take 1).length = (min (l.length : Int) 1).toNat := by
  rw [List.length_take]
  omega
theorem bs_take {E : List TypeId} {B : Nat} {w : World} {A : Option Addr} {l : List UInt8} (h : Bs E B w A l.length l) : Bs E B w A (l.take 1).length (l.take 1) :=
  ⟨rfl, fun hn => by
    have hl : 0 < l.length := by rw [List.length_take] at hn; omega
    obtain ⟨b, off, e, hb, ht, hc⟩ := h.2 hl
    exact ⟨b, off, e, hb, ht, fun j x hx => hc j x (by
      rw [List.getElem?_take] at hx
      split at hx
      · exact hx
      cases hx)⟩⟩
theorem len_pubW (q i : Int) (du : Bool) (t : ByteArray) (x : List UInt8) (hx : x.length ≤ 1000) (ht : t.size ≤ 1000) : Pk.Len { kind := 3, topic := t, qos := q, pay := x.take 1, dup := du, id := i } := by
  have h1 : (x.take 1).length ≤ 1000000 := by rw [List.length_take]; omega
  have h2 : t.size ≤ 1000000 := by omega
  constructor <;> first | exact Nat.zero_le _ | exact h1 | exact h2 | decide | exact fun x hx => absurd hx (by simp)
set_option maxRecDepth 100000 in
set_option maxHeartbeats 4000000 in
theorem word_any (B0 : Nat) (d : Wd) (sd : Ad) (xA : Option Addr) (xc : Nat) (w : World) (hB0 : B0 ≤ w.heap.size) (SX : Bs [5, 46, 3] B0 w xA d.x.length d.x) (hxc : d.x.length ≤ xc) (hk : 0 ≤ d.k ∧ d.k < 256) (ha : 0 ≤ d.a ∧ d.a < 256) (hb : 0 ≤ d.b ∧ d.b < 256) (hc : 0 ≤ d.c ∧ d.c < 256) (hx : d.x.length ≤ 1000) : Calls Try.prog 10 #[.agg #[.bool d.inn, .int .u8 d.k, .int .u8 d.a, .int .u8 d.b, .int .u8 d.c, .int .i64 d.p.kind, .bool d.p.dup, .bool d.p.retain, .int .i64 d.p.qos, .int .i64 d.p.id, .string d.p.topic, .slice sd.pa d.p.pay.length sd.pc, .int .i64 d.p.level, .string d.p.client, .bool d.p.clean, .int .i64 d.p.keep, .bool d.p.hasWill, .string d.p.wt, .slice sd.wa d.p.wp.length sd.wc, .int .i64 d.p.wq, .bool d.p.wr, .bool d.p.hasUser, .bool d.p.hasPass, .string d.p.user, .slice sd.sa d.p.pass.length sd.sc, .bool d.p.present, .int .i64 d.p.code, .slice sd.ua d.p.subs.length sd.uc, .slice sd.ca d.p.codes.length sd.cc, .slice xA d.x.length xc]] w (SeatL B0 w) := by
 have HK : Kept [] w w := Kept.refl [] w
 refine C.enter Try.func10 rfl Try.ntmps10 rfl ?_
 intro a0 f0
 have f1 : Fr 105 a0 [(0, .agg #[.bool d.inn, .int .u8 d.k, .int .u8 d.a, .int .u8 d.b, .int .u8 d.c, .int .i64 d.p.kind, .bool d.p.dup, .bool d.p.retain, .int .i64 d.p.qos, .int .i64 d.p.id, .string d.p.topic, .slice sd.pa d.p.pay.length sd.pc, .int .i64 d.p.level, .string d.p.client, .bool d.p.clean, .int .i64 d.p.keep, .bool d.p.hasWill, .string d.p.wt, .slice sd.wa d.p.wp.length sd.wc, .int .i64 d.p.wq, .bool d.p.wr, .bool d.p.hasUser, .bool d.p.hasPass, .string d.p.user, .slice sd.sa d.p.pass.length sd.sc, .bool d.p.present, .int .i64 d.p.code, .slice sd.ua d.p.subs.length sd.uc, .slice sd.ca d.p.codes.length sd.cc, .slice xA d.x.length xc])] := f0
 refine C.sk fun K0 hK0 => ?_
 refine L.box f1 wantedN (by decide) rfl rfl fun a2 w1 g0 N0 f2 => ?_
 have Bg0 := N0.blk
 have kg0 := N0.kept
 have log0 := N0.lo
 have ltg0 := Bg0.lt
 have szw1 := kg0.size
 have frg0 : w.heap.size ≤ g0 := Nat.le_trans HK.size log0
 replace HK := HK.z kg0
 clear f0 N0 kg0
 refine L.alloc f2 wantedN (by decide) (z := z34) (fun _ => by kernel_rfl) rfl fun a3 w2 g1 N1 f3 => ?_
 have Bg1 := N1.blk
 have kg1 := N1.kept
 have log1 := N1.lo
 have ltg1 := Bg1.lt
 have szw2 := kg1.size
 have frg1 : w.heap.size ≤ g1 := Nat.le_trans HK.size log1
 have neg0_g1 : g0 ≠ g1 := by have := Bg0.lt; omega
 replace HK := HK.z kg1
 replace Bg0 := Bg0.z kg1
 clear f1 a0 N1 kg1
 have f4 := f3.sub (sc 1 (sc 2 sn))
 refine wpList_nil (hK0 _ _ (C.sk fun K1 hK1 => ?_))
 refine L.fa 3 f4 U36 rfl wsz5_ub fun a5 f5 => ?_
 refine L.ld f5 U5 Bg0 fun a6 f6 => ?_
 refine L.va f6 (E.rem f6 rfl rfl (by omega) (Int.tmod_eq_emod_of_nonneg (by omega))) fun a7 f7 => ?_
 refine L.va f7 (E.conv f7 U5 U3 rfl (IntWalk.i64_in _ (by omega))) fun a8 f8 => ?_
 refine L.va f8 (E.add f8 rfl rfl (IntWalk.i64_in _ (by omega))) fun a9 f9 => ?_
 refine L.ag f9 fun a10 f10 => ?_
 clear f2 a2 f3 f4 a3 f5 a5 f6 a6 f7 a7 f8 a8 f9 a9
 refine wpList_nil (hK1 _ _ ?_)
 have f11 := f10.sub (sc 1 (sc 2 (sc 3 sn)))
 refine wp_seq_k fun K2 hK2 => ?_
 refine C.sk fun K3 hK3 => ?_
 refine L.fa 1 f11 U36 rfl wsz5_ub fun a12 f12 => ?_
 refine L.ld f12 U5 Bg0 fun a13 f13 => ?_
 refine L.va f13 (E.rem f13 rfl rfl (by omega) (Int.tmod_eq_emod_of_nonneg (by omega))) fun a14 f14 => ?_
 refine wpList_nil (hK3 _ _ ?_)
 have f15 := f14.sub (sc 1 (sc 2 (sc 3 (sc 12 sn))))
 refine wp_block ?_
 refine C.sk fun K4 hK4 => ?_
 refine L.va f15 (E.eq f15) fun a16 f16 => ?_
 refine L.ag f16 fun a17 f17 => ?_
 refine wpList_nil (hK4 _ _ ?_)
 have f18 := f17.sub (sc 1 (sc 2 (sc 3 (sc 12 (sc 13 sn)))))
 clear f10 f11 a10 f12 a12 f13 a13 f14 f15 a14 f16 a16 f17
 refine f18.splitD 13 rfl (fun h0 f19 => ?_) (fun h0 f19 => ?_)
 ·refine C.condT f19 rfl ?_
  refine C.sk fun K5 hK5 => ?_
  refine L.fa 2 f19 U36 rfl wsz5_ub fun a20 f20 => ?_
  refine L.ld f20 U5 Bg0 fun a21 f21 => ?_
  refine L.va f21 (E.rem f21 rfl rfl (by omega) (Int.tmod_eq_emod_of_nonneg (by omega))) fun a22 f22 => ?_
  refine L.va f22 (E.eq f22) fun a23 f23 => ?_
  refine L.fa 3 f23 U36 rfl wsz5_ub fun a24 f24 => ?_
  refine L.ld f24 U5 Bg0 fun a25 f25 => ?_
  refine L.va f25 (E.rem f25 rfl rfl (by omega) (Int.tmod_eq_emod_of_nonneg (by omega))) fun a26 f26 => ?_
  clear f18 f19 a17 f20 a20 f21 a21 f22 a22 f23 a23 f24 a24 f25 a25
  refine L.va f26 (E.quo f26 rfl rfl (by omega) (IntWalk.u8_quo _ _ ⟨by omega, by omega, by omega⟩)) fun a27 f27 => ?_
  refine L.va f27 (E.conv f27 U5 U3 rfl (IntWalk.i64_in _ (by omega))) fun a28 f28 => ?_
  refine L.va f28 (E.build f28 (parts3 f28 rfl rfl rfl) (wbl34_0_17_18_ub _ _ _)) fun a29 f29 => ?_
  refine L.storeR f29 wantedN wsz34_ub rfl rfl rfl Bg1 rfl rfl fun a30 w3 f30 NB3 ks3 => ?_
  have szw3 := ks3.size
  replace HK := HK.trans ks3 (ktr (by omega))
  replace Bg0 := Bg0.kept ks3 (by simp; omega)
  replace Bg1 := NB3
  clear f26 a26 f27 a27 f28 a28 ks3 f29 a29
  have f31 := f30.sub (sc 2 sn)
  refine wpList_nil (hK5 _ _ (wp_ret ?_)); (try simp only [xt, xb]); refine C.retC f31 rfl rfl Bg1 U34 rfl wsz34_ub ?_
  exact ⟨{ kind := 2, present := decide (d.a % 3 = 0), code := d.b % 8 / 7 }, s0, rfl, HK, (PkO.ok (flat_o _ _ (by simp))), (len_flat _ (by simp))⟩
 refine C.condF f19 rfl ?_
 refine C.sk fun K6 hK6 => ?_
 refine L.va f19 (E.eq f19) fun a20 f20 => ?_
 refine L.ag f20 fun a21 f21 => ?_
 refine wpList_nil (hK6 _ _ ?_)
 have f22 := f21.sub (sc 1 (sc 2 (sc 3 (sc 12 (sc 25 sn)))))
 clear f18 f19 a17 f20 a20 f21
 refine f22.splitD 25 rfl (fun h1 f23 => ?_) (fun h1 f23 => ?_)
 ·refine C.condT f23 rfl ?_
  refine wp_seq_k fun K7 hK7 => ?_
  have hd6 : Kept [] w2 (w2.drewN 1) := (Kept.refl _ _).drewN 1
  refine RB.begin (S := fun W => (Kept [] w W) ∧ (Blk W g0 36 #[.bool d.inn, .int .u8 d.k, .int .u8 d.a, .int .u8 d.b, .int .u8 d.c, .int .i64 d.p.kind, .bool d.p.dup, .bool d.p.retain, .int .i64 d.p.qos, .int .i64 d.p.id, .string d.p.topic, .slice sd.pa d.p.pay.length sd.pc, .int .i64 d.p.level, .string d.p.client, .bool d.p.clean, .int .i64 d.p.keep, .bool d.p.hasWill, .string d.p.wt, .slice sd.wa d.p.wp.length sd.wc, .int .i64 d.p.wq, .bool d.p.wr, .bool d.p.hasUser, .bool d.p.hasPass, .string d.p.user, .slice sd.sa d.p.pass.length sd.sc, .bool d.p.present, .int .i64 d.p.code, .slice sd.ua d.p.subs.length sd.uc, .slice sd.ca d.p.codes.length sd.cc, .slice xA d.x.length xc])) 16 (by kernel_rfl) ⟨HK.z hd6, Bg0.z hd6⟩ ?_
  obtain ⟨w3, hww3⟩ : ∃ W, W = w2.drewN 1 := ⟨_, rfl⟩
  rw [← hww3] at hd6 ⊢
  clear f22 hww3
  have szw3 := hd6.size
  replace HK := HK.z hd6
  replace Bg0 := Bg0.z hd6
  replace Bg1 := Bg1.z hd6
  clear hd6
  refine RB.tk 0 f23 rfl ⟨HK, Bg0⟩ (fun W hW => (E.fa 3 f23 U36 rfl wsz5_ub)) fun a24 f24 => ?_
  refine RB.tk 1 f24 rfl ⟨HK, Bg0⟩ (fun W hW => (E.ld f24 U5 (hW.2))) fun a25 f25 => ?_
  refine RB.tk 2 f25 rfl ⟨HK, Bg0⟩ (fun W hW => (E.rem f25 rfl rfl (by omega) (Int.tmod_eq_emod_of_nonneg (by omega)))) fun a26 f26 => ?_
  refine RB.tk 3 f26 rfl ⟨HK, Bg0⟩ (fun W hW => (E.conv f26 U5 U3 rfl (IntWalk.i64_in _ (by omega)))) fun a27 f27 => ?_
  refine RB.tk 4 f27 rfl ⟨HK, Bg0⟩ (fun W hW => (E.add f27 rfl rfl (IntWalk.i64_in _ (by omega)))) fun a28 f28 => ?_
  refine RB.tk 5 f28 rfl ⟨HK, Bg0⟩ (fun W hW => (E.fa 2 f28 U36 rfl wsz5_ub)) fun a29 f29 => ?_
  refine RB.tk 6 f29 rfl ⟨HK, Bg0⟩ (fun W hW => (E.ld f29 U5 (hW.2))) fun a30 f30 => ?_
  clear f23 a21 f24 a24 f25 a25 f26 a26 f27 a27 f28 a28 f29 a29
  refine RB.tk 7 f30 rfl ⟨HK, Bg0⟩ (fun W hW => (E.rem f30 rfl rfl (by omega) (Int.tmod_eq_emod_of_nonneg (by omega)))) fun a31 f31 => ?_
  refine RB.tk 8 f31 rfl ⟨HK, Bg0⟩ (fun W hW => (E.conv f31 U5 U3 rfl (IntWalk.i64_in _ (by omega)))) fun a32 f32 => ?_
  refine RB.tk 10 f32 rfl ⟨HK, Bg0⟩ (fun W hW => (E.fa 4 f32 U36 rfl wsz5_ub)) fun a33 f33 => ?_
  refine RB.tk 11 f33 rfl ⟨HK, Bg0⟩ (fun W hW => (E.ld f33 U5 (hW.2))) fun a34 f34 => ?_
  refine RB.tk 12 f34 rfl ⟨HK, Bg0⟩ (fun W hW => (E.rem f34 rfl rfl (by omega) (Int.tmod_eq_emod_of_nonneg (by omega)))) fun a35 f35 => ?_
  refine RB.tk 13 f35 rfl ⟨HK, Bg0⟩ (fun W hW => (E.add f35 rfl rfl (IntWalk.u8_in _ (by omega)))) fun a36 f36 => ?_
  refine RB.one 9 (by kernel_rfl) (by kernel_rfl) ?_
  refine O.buildSlice f36 rfl wantedN (by decide) (parts2 f36 rfl rfl) U32 wzi3_ub rfl rfl (wbs32_2_ub _ _) (fun _ hk => ⟨HK.z hk, Bg0.z hk⟩) fun a37 w4 g3 N3 hSn f37 => ?_
  clear f30 a30 f31 a31 f32 a32 f33 a33 f34 a34 f35 a35 hSn
  have Bg3 := N3.blk
  have kg3 := N3.kept
  have log3 := N3.lo
  have ltg3 := Bg3.lt
  have szw4 := kg3.size
  have frg3 : w.heap.size ≤ g3 := Nat.le_trans HK.size log3
  have neg0_g3 : g0 ≠ g3 := by have := Bg0.lt; omega
  have neg1_g3 : g1 ≠ g3 := by have := Bg1.lt; omega
  replace HK := HK.z kg3
  replace Bg0 := Bg0.z kg3
  replace Bg1 := Bg1.z kg3
  clear N3 kg3
  refine RB.tk 14 f37 rfl ⟨HK, Bg0⟩ (fun W hW => (E.slLhi f37 U32 wsz3_ub rfl rfl (by omega) (by omega) )) fun a38 f38 => ?_
  refine RB.tk 15 f38 rfl ⟨HK, Bg0⟩ (fun W hW => (E.build f38 (parts3 f38 rfl rfl rfl) (wbl34_0_4_20_ub _ _ _ _ _))) fun a39 f39 => ?_
  refine RB.stop (by kernel_rfl) ?_
  refine R.one 16 (by kernel_rfl) ?_
  refine OT.storeR f39 rfl wantedN wsz34_ub rfl rfl rfl Bg1 rfl rfl fun a40 w5 f40 NB5 ks5 => ?_
  have szw5 := ks5.size
  replace HK := HK.trans ks5 (ktr (by omega))
  replace Bg0 := Bg0.kept ks5 (by simp; omega)
  replace Bg3 := Bg3.kept ks5 (by simp; omega)
  replace Bg1 := NB5
  clear f36 a36 f37 a37 f38 a38 ks5 f39 a39
  refine R.done (by kernel_rfl) (hK7 _ _ ?_)
  have f41 := f40.sub (sc 2 sn)
  refine wp_ret ?_; (try simp only [xt, xb]); refine C.retC f41 rfl rfl Bg1 U34 rfl wsz34_ub ?_
  clear f40
  refine ⟨{ kind := 9, id := d.b % 7 + 1, codes := codW d.a d.c }, { s0 with ca := some ⟨g3, 0, none⟩, cc := 2 }, ?_, HK, ?_, ?_⟩
  ·unfold Pk.cells; simp only [cod_len]; rfl
  ·exact ⟨Bs.nil _ _ _ _, Bs.nil _ _ _ _, Bs.nil _ _ _ _, Cs.nil _ _ _ _ _, Cs.of_sl (cod_sl Bg3) (typ_blk Bg3 (by simp))⟩
  exact len_cod _ _ _
 refine C.condF f23 rfl ?_
 refine C.sk fun K8 hK8 => ?_
 refine L.va f23 (E.eq f23) fun a24 f24 => ?_
 refine L.ag f24 fun a25 f25 => ?_
 refine wpList_nil (hK8 _ _ ?_)
 have f26 := f25.sub (sc 1 (sc 2 (sc 3 (sc 12 (sc 43 sn)))))
 clear f22 f23 a21 f24 a24 f25
 refine f26.splitD 43 rfl (fun h2 f27 => ?_) (fun h2 f27 => ?_)
 ·refine C.condT f27 rfl ?_
  refine C.sk fun K9 hK9 => ?_
  refine L.fa 3 f27 U36 rfl wsz5_ub fun a28 f28 => ?_
  refine L.ld f28 U5 Bg0 fun a29 f29 => ?_
  refine L.va f29 (E.rem f29 rfl rfl (by omega) (Int.tmod_eq_emod_of_nonneg (by omega))) fun a30 f30 => ?_
  refine L.va f30 (E.conv f30 U5 U3 rfl (IntWalk.i64_in _ (by omega))) fun a31 f31 => ?_
  refine L.va f31 (E.add f31 rfl rfl (IntWalk.i64_in _ (by omega))) fun a32 f32 => ?_
  refine L.va f32 (E.build f32 (parts2 f32 rfl rfl) (wbl34_0_4_ub _ _)) fun a33 f33 => ?_
  refine L.storeR f33 wantedN wsz34_ub rfl rfl rfl Bg1 rfl rfl fun a34 w3 f34 NB3 ks3 => ?_
  have szw3 := ks3.size
  replace HK := HK.trans ks3 (ktr (by omega))
  replace Bg0 := Bg0.kept ks3 (by simp; omega)
  replace Bg1 := NB3
  clear f26 f27 a25 f28 a28 f29 a29 f30 a30 f31 a31 f32 a32 ks3 f33 a33
  have f35 := f34.sub (sc 2 sn)
  refine wpList_nil (hK9 _ _ (wp_ret ?_)); (try simp only [xt, xb]); refine C.retC f35 rfl rfl Bg1 U34 rfl wsz34_ub ?_
  exact ⟨{ kind := 11, id := d.b % 7 + 1 }, s0, rfl, HK, (PkO.ok (flat_o _ _ (by simp))), (len_flat _ (by simp))⟩
 refine C.condF f27 rfl ?_
 refine C.sk fun K10 hK10 => ?_
 refine L.va f27 (E.eq f27) fun a28 f28 => ?_
 refine L.ag f28 fun a29 f29 => ?_
 refine wpList_nil (hK10 _ _ ?_)
 have f30 := f29.sub (sc 1 (sc 2 (sc 3 (sc 12 (sc 51 sn)))))
 clear f26 f27 a25 f28 a28 f29
 refine f30.splitD 51 rfl (fun h3 f31 => ?_) (fun h3 f31 => ?_)
 ·refine C.condT f31 rfl ?_
  refine C.sk fun K11 hK11 => ?_
  refine L.buildSlice f31 wantedN (by decide) (parts4 f31 rfl rfl rfl rfl) U32 wzi3_ub rfl rfl (wbs32_4_ub _ _ _ _) fun a32 w3 g2 N2 f32 => ?_
  have Bg2 := N2.blk
  have kg2 := N2.kept
  have log2 := N2.lo
  have ltg2 := Bg2.lt
  have szw3 := kg2.size
  have frg2 : w.heap.size ≤ g2 := Nat.le_trans HK.size log2
  have neg0_g2 : g0 ≠ g2 := by have := Bg0.lt; omega
  have neg1_g2 : g1 ≠ g2 := by have := Bg1.lt; omega
  replace HK := HK.z kg2
  replace Bg0 := Bg0.z kg2
  replace Bg1 := Bg1.z kg2
  clear f30 N2 kg2
  refine L.fa 2 f32 U36 rfl wsz5_ub fun a33 f33 => ?_
  refine L.ld f33 U5 Bg0 fun a34 f34 => ?_
  refine L.va f34 (E.rem f34 rfl rfl (by omega) (Int.tmod_eq_emod_of_nonneg (by omega))) fun a35 f35 => ?_
  refine L.va f35 (E.indexA f35 (by rfl) U32 wsz3_ub rfl rfl (by omega) (by omega)) fun a36 f36 => ?_
  refine L.va f36 (E.load f36 U3 rfl rfl (kw_cell Bg2 (show 0 ≤ d.a % 4 ∧ d.a % 4 < 4 by omega))) fun a37 f37 => ?_
  refine L.mv f37 fun a38 f38 => ?_
  clear f31 a29 f32 a32 f33 a33 f34 a34 f35 a35 f36 a36 f37 a37
  refine L.va f38 (E.build f38 (parts2 f38 rfl rfl) (wbl34_0_4_ub _ _)) fun a39 f39 => ?_
  refine L.storeR f39 wantedN wsz34_ub rfl rfl rfl Bg1 rfl rfl fun a40 w4 f40 NB4 ks4 => ?_
  have szw4 := ks4.size
  replace HK := HK.trans ks4 (ktr (by omega))
  replace Bg0 := Bg0.kept ks4 (by simp; omega)
  replace Bg2 := Bg2.kept ks4 (by simp; omega)
  replace Bg1 := NB4
  clear f38 a38 ks4 f39 a39
  have f41 := f40.sub (sc 2 sn)
  refine wpList_nil (hK11 _ _ (wp_ret ?_)); (try simp only [xt, xb]); refine C.retC f41 rfl rfl Bg1 U34 rfl wsz34_ub ?_
  exact ⟨{ kind := kindW (d.a % 4), id := d.b % 4 + 1 }, s0, rfl, HK, (PkO.ok (flat_o _ _ (by simp))), (len_flat _ (by simp))⟩
 refine C.condF f31 rfl ?_
 refine C.sk fun K12 hK12 => ?_
 refine L.va f31 (E.eq f31) fun a32 f32 => ?_
 refine L.ag f32 fun a33 f33 => ?_
 refine wpList_nil (hK12 _ _ ?_)
 have f34 := f33.sub (sc 1 (sc 2 (sc 3 (sc 12 (sc 61 sn)))))
 clear f30 f31 a29 f32 a32 f33
 refine f34.splitD 61 rfl (fun h4 f35 => ?_) (fun h4 f35 => ?_)
 ·refine C.condT f35 rfl ?_
  refine C.sk fun K13 hK13 => ?_
  refine L.va f35 (E.build f35 (parts1 f35 rfl) (wbl34_0_ub _)) fun a36 f36 => ?_
  refine L.storeR f36 wantedN wsz34_ub rfl rfl rfl Bg1 rfl rfl fun a37 w3 f37 NB3 ks3 => ?_
  have szw3 := ks3.size
  replace HK := HK.trans ks3 (ktr (by omega))
  replace Bg0 := Bg0.kept ks3 (by simp; omega)
  replace Bg1 := NB3
  clear f34 f35 a33 ks3 f36 a36
  have f38 := f37.sub (sc 2 sn)
  refine wpList_nil (hK13 _ _ (wp_ret ?_)); (try simp only [xt, xb]); refine C.retC f38 rfl rfl Bg1 U34 rfl wsz34_ub ?_
  exact ⟨{ kind := 13 }, s0, rfl, HK, (PkO.ok (flat_o _ _ (by simp))), (len_flat _ (by simp))⟩
 refine C.condF f35 rfl ?_
 obtain ⟨J15, hJ15⟩ : ∃ J : Act → World → Prop, J = fun a W => ∃ bb : Bool, (bb = false → True) ∧ Kept [] w W ∧ Blk W g0 36 #[.bool d.inn, .int .u8 d.k, .int .u8 d.a, .int .u8 d.b, .int .u8 d.c, .int .i64 d.p.kind, .bool d.p.dup, .bool d.p.retain, .int .i64 d.p.qos, .int .i64 d.p.id, .string d.p.topic, .slice sd.pa d.p.pay.length sd.pc, .int .i64 d.p.level, .string d.p.client, .bool d.p.clean, .int .i64 d.p.keep, .bool d.p.hasWill, .string d.p.wt, .slice sd.wa d.p.wp.length sd.wc, .int .i64 d.p.wq, .bool d.p.wr, .bool d.p.hasUser, .bool d.p.hasPass, .string d.p.user, .slice sd.sa d.p.pass.length sd.sc, .bool d.p.present, .int .i64 d.p.code, .slice sd.ua d.p.subs.length sd.uc, .slice sd.ca d.p.codes.length sd.cc, .slice xA d.x.length xc] ∧ Blk W g1 34 (({} : Pk).cells s0) ∧ Fr 105 a [(1, .pointer (some ⟨g0, 0, none⟩)), (2, .pointer (some ⟨g1, 0, none⟩)), (3, .int .i64 (d.b % 4 + 1)), (64, .bool bb)] := ⟨_, rfl⟩
 clear f34
 refine C.cut J15 ?_ ?_
 ·skip
  refine C.sk fun K14 hK14 => ?_
  refine L.va f35 (E.eq f35) fun a36 f36 => ?_
  refine L.ag f36 fun a37 f37 => ?_
  refine wpList_nil (hK14 _ _ ?_)
  have f38 := f37.sub (sc 1 (sc 2 (sc 3 (sc 12 (sc 64 sn)))))
  clear f35 a33 f36 a36 f37
  refine f38.splitD 64 rfl (fun h5 f39 => ?_) (fun h5 f39 => ?_)
  ·refine C.condT f39 rfl ?_
   exact wp_skip (jn J15 (by rw [hJ15]; exact ⟨_, fun _ => trivial, HK, Bg0, Bg1, f39.sub (sr rfl (sr rfl (sr rfl (sr rfl sn))))⟩))
  refine C.condF f39 rfl ?_
  refine C.region ?_
  refine L.va f39 (E.eq f39) fun a40 f40 => ?_
  refine L.ag f40 fun a41 f41 => ?_
  exact wpList_nil (jn J15 (by rw [hJ15]; exact ⟨_, fun _ => trivial, HK, Bg0, Bg1, f41.sub (sr rfl (sr rfl (sr rfl (sr rfl sn))))⟩))
 intro a36 w3 hj
 rw [hJ15] at hj
 clear hJ15 J15
 obtain ⟨bb, _, HK, Bg0, Bg1, f36⟩ := hj
 try clear f35
 refine f36.split 64 rfl (fun h6 f37 => ?_) (fun h6 f37 => ?_)
 ·refine C.condT f37 rfl ?_
  obtain ⟨J16, hJ16⟩ : ∃ J : Act → World → Prop, J = fun a W => ∃ g4 : Nat, g4 ≠ g1 ∧ w.heap.size ≤ g4 ∧ Kept [] w W ∧ Blk W g1 34 (({} : Pk).cells s0) ∧ Blk W g4 34 (({ kind := 3, topic := topicS (d.a % 2), qos := d.c % 3, pay := d.x.take 1, dup := decide (1 < d.a % 4) } : Pk).cells { s0 with pa := xA, pc := xc }) ∧ Fr 105 a [(2, .pointer (some ⟨g1, 0, none⟩)), (3, .int .i64 (d.b % 4 + 1)), (4, .pointer (some ⟨g4, 0, none⟩))] := ⟨_, rfl⟩
  clear f36
  refine C.cut J16 ?_ ?_
  ·skip
   have hd15 : Kept [] w3 (w3.drewN 1) := (Kept.refl _ _).drewN 1
   refine RB.begin (S := fun W => (Kept [] w W) ∧ (Blk W g0 36 #[.bool d.inn, .int .u8 d.k, .int .u8 d.a, .int .u8 d.b, .int .u8 d.c, .int .i64 d.p.kind, .bool d.p.dup, .bool d.p.retain, .int .i64 d.p.qos, .int .i64 d.p.id, .string d.p.topic, .slice sd.pa d.p.pay.length sd.pc, .int .i64 d.p.level, .string d.p.client, .bool d.p.clean, .int .i64 d.p.keep, .bool d.p.hasWill, .string d.p.wt, .slice sd.wa d.p.wp.length sd.wc, .int .i64 d.p.wq, .bool d.p.wr, .bool d.p.hasUser, .bool d.p.hasPass, .string d.p.user, .slice sd.sa d.p.pass.length sd.sc, .bool d.p.present, .int .i64 d.p.code, .slice sd.ua d.p.subs.length sd.uc, .slice sd.ca d.p.codes.length sd.cc, .slice xA d.x.length xc])) 21 (by kernel_rfl) ⟨HK.z hd15, Bg0.z hd15⟩ ?_
   obtain ⟨w4, hww4⟩ : ∃ W, W = w3.drewN 1 := ⟨_, rfl⟩
   rw [← hww4] at hd15 ⊢
   clear hww4
   have szw4 := hd15.size
   replace HK := HK.z hd15
   replace Bg0 := Bg0.z hd15
   replace Bg1 := Bg1.z hd15
   clear hd15
   refine RB.tk 0 f37 rfl ⟨HK, Bg0⟩ (fun W hW => (E.fa 2 f37 U36 rfl wsz5_ub)) fun a38 f38 => ?_
   refine RB.tk 1 f38 rfl ⟨HK, Bg0⟩ (fun W hW => (E.ld f38 U5 (hW.2))) fun a39 f39 => ?_
   refine RB.tk 2 f39 rfl ⟨HK, Bg0⟩ (fun W hW => (E.rem f39 rfl rfl (by omega) (Int.tmod_eq_emod_of_nonneg (by omega)))) fun a40 f40 => ?_
   refine RB.tk 4 f40 rfl ⟨HK, Bg0⟩ (fun W hW => (E.fa 4 f40 U36 rfl wsz5_ub)) fun a41 f41 => ?_
   refine RB.tk 5 f41 rfl ⟨HK, Bg0⟩ (fun W hW => (E.ld f41 U5 (hW.2))) fun a42 f42 => ?_
   refine RB.tk 6 f42 rfl ⟨HK, Bg0⟩ (fun W hW => (E.rem f42 rfl rfl (by omega) (Int.tmod_eq_emod_of_nonneg (by omega)))) fun a43 f43 => ?_
   refine RB.tk 7 f43 rfl ⟨HK, Bg0⟩ (fun W hW => (E.conv f43 U5 U3 rfl (IntWalk.i64_in _ (by omega)))) fun a44 f44 => ?_
   clear f37 a36 f38 a38 f39 a39 f40 a40 f41 a41 f42 a42 f43 a43
   refine RB.tk 8 f44 rfl ⟨HK, Bg0⟩ (fun W hW => (E.fa 29 f44 U36 rfl wsz28_ub)) fun a45 f45 => ?_
   refine RB.tk 9 f45 rfl ⟨HK, Bg0⟩ (fun W hW => (E.ld f45 U28 (hW.2))) fun a46 f46 => ?_
   refine RB.tk 10 f46 rfl ⟨HK, Bg0⟩ (fun W hW => (E.fa 29 f46 U36 rfl wsz28_ub)) fun a47 f47 => ?_
   refine RB.tk 11 f47 rfl ⟨HK, Bg0⟩ (fun W hW => (E.ld f47 U28 (hW.2))) fun a48 f48 => ?_
   refine RB.tk 12 f48 rfl ⟨HK, Bg0⟩ (fun W hW => (E.lenL f48 U28 rfl)) fun a49 f49 => ?_
   refine RB.tk 13 f49 rfl ⟨HK, Bg0⟩ (fun W hW => (E.min f49 rfl rfl)) fun a50 f50 => ?_
   refine RB.tk 14 f50 rfl ⟨HK, Bg0⟩ (fun W hW => (E.slLhi f50 U28 wsz5_ub rfl rfl (by omega) (by omega) )) fun a51 f51 => ?_
   clear f44 a44 f45 a45 f46 a46 f47 a47 f48 a48 f49 a49 f50 a50
   refine RB.tk 15 f51 rfl ⟨HK, Bg0⟩ (fun W hW => (E.fa 2 f51 U36 rfl wsz5_ub)) fun a52 f52 => ?_
   refine RB.tk 16 f52 rfl ⟨HK, Bg0⟩ (fun W hW => (E.ld f52 U5 (hW.2))) fun a53 f53 => ?_
   refine RB.tk 17 f53 rfl ⟨HK, Bg0⟩ (fun W hW => (E.rem f53 rfl rfl (by omega) (Int.tmod_eq_emod_of_nonneg (by omega)))) fun a54 f54 => ?_
   refine RB.tk 18 f54 rfl ⟨HK, Bg0⟩ (fun W hW => (E.gtr f54 rfl rfl)) fun a55 f55 => ?_
   clear f51 a51 f52 a52 f53 a53 f54 a54
   refine RB.two 3 20 (by kernel_rfl) (by kernel_rfl) ?_ ?_
   ·skip
    refine O.call f55 rfl rfl (by decide) wantedN (run_call Try.call19 (args1 f55 rfl)) (topicS_any (d.a % 2) _ (by omega)) ?_
    rintro e w5 ⟨kc5, rfl⟩
    have szw5 := kc5.size
    replace HK := HK.z kc5
    replace Bg0 := Bg0.z kc5
    replace Bg1 := Bg1.z kc5
    refine ⟨_, rfl, ⟨HK, Bg0⟩, fun a56 f56 => ?_⟩
    clear f55 a55 kc5
    refine RB.tk 19 f56 rfl ⟨HK, Bg0⟩ (fun W hW => (E.build f56 (parts5 f56 rfl rfl rfl rfl rfl) (wbl34_0_5_3_6_1_ub _ _ _ _ _ _ _))) fun a57 f57 => ?_
    refine RB.one 20 (by kernel_rfl) (by kernel_rfl) ?_
    refine O.alloc f57 rfl wantedN (by decide) (z := z34) (fun _ => by kernel_rfl) rfl (fun _ hk => ⟨HK.z hk, Bg0.z hk⟩) fun a58 w6 g5 N5 hSn f58 => ?_
    clear f56 a56 hSn
    have Bg5 := N5.blk
    have kg5 := N5.kept
    have log5 := N5.lo
    have ltg5 := Bg5.lt
    have szw6 := kg5.size
    have frg5 : w.heap.size ≤ g5 := Nat.le_trans HK.size log5
    have neg0_g5 : g0 ≠ g5 := by have := Bg0.lt; omega
    have neg1_g5 : g1 ≠ g5 := by have := Bg1.lt; omega
    replace HK := HK.z kg5
    replace Bg0 := Bg0.z kg5
    replace Bg1 := Bg1.z kg5
    clear N5 kg5
    refine RB.stop (by kernel_rfl) ?_
    refine R.one 21 (by kernel_rfl) ?_
    refine OT.storeR f58 rfl wantedN wsz34_ub rfl rfl rfl Bg5 rfl rfl fun a59 w7 f59 NB7 ks7 => ?_
    have szw7 := ks7.size
    replace HK := HK.trans ks7 (ktr (by omega))
    replace Bg0 := Bg0.kept ks7 (by simp; omega)
    replace Bg1 := Bg1.kept ks7 (by simp; omega)
    replace Bg5 := NB7
    clear f57 a57 ks7 f58 a58
    exact R.done (by kernel_rfl) (jn J16 (by rw [hJ16]; exact ⟨g5, by omega, by omega, HK, Bg1, (by unfold Pk.cells; simp only [take_len]; exact Bg5), f59.sub (sx (sx (sx sn)))⟩))
   skip
   refine O.alloc f55 rfl wantedN (by decide) (z := z34) (fun _ => by kernel_rfl) rfl (fun _ hk => ⟨HK.z hk, Bg0.z hk⟩) fun a56 w5 g4 N4 hSn f56 => ?_
   clear hSn
   have Bg4 := N4.blk
   have kg4 := N4.kept
   have log4 := N4.lo
   have ltg4 := Bg4.lt
   have szw5 := kg4.size
   have frg4 : w.heap.size ≤ g4 := Nat.le_trans HK.size log4
   have neg0_g4 : g0 ≠ g4 := by have := Bg0.lt; omega
   have neg1_g4 : g1 ≠ g4 := by have := Bg1.lt; omega
   replace HK := HK.z kg4
   replace Bg0 := Bg0.z kg4
   replace Bg1 := Bg1.z kg4
   clear N4 kg4
   refine RB.call 3 f56 rfl rfl (by decide) (by kernel_rfl) (by kernel_rfl) wantedN (run_call Try.call19 (args1 f56 rfl)) (topicS_any (d.a % 2) _ (by omega)) ?_
   clear f55 a55
   rintro e w6 ⟨kc6, rfl⟩
   have szw6 := kc6.size
   replace HK := HK.z kc6
   replace Bg0 := Bg0.z kc6
   replace Bg1 := Bg1.z kc6
   replace Bg4 := Bg4.z kc6
   refine ⟨_, rfl, ⟨HK, Bg0⟩, fun a57 f57 => ?_⟩
   clear f56 a56 kc6
   refine RB.tk 19 f57 rfl ⟨HK, Bg0⟩ (fun W hW => (E.build f57 (parts5 f57 rfl rfl rfl rfl rfl) (wbl34_0_5_3_6_1_ub _ _ _ _ _ _ _))) fun a58 f58 => ?_
   refine RB.stop (by kernel_rfl) ?_
   refine R.one 21 (by kernel_rfl) ?_
   refine OT.storeR f58 rfl wantedN wsz34_ub rfl rfl rfl Bg4 rfl rfl fun a59 w7 f59 NB7 ks7 => ?_
   have szw7 := ks7.size
   replace HK := HK.trans ks7 (ktr (by omega))
   replace Bg0 := Bg0.kept ks7 (by simp; omega)
   replace Bg1 := Bg1.kept ks7 (by simp; omega)
   replace Bg4 := NB7
   clear f57 a57 ks7 f58 a58
   exact R.done (by kernel_rfl) (jn J16 (by rw [hJ16]; exact ⟨g4, by omega, by omega, HK, Bg1, (by unfold Pk.cells; simp only [take_len]; exact Bg4), f59.sub (sx (sx (sx sn)))⟩))
  intro a38 w4 hj
  rw [hJ16] at hj
  clear hJ16 J16
  obtain ⟨g4, ne4, lo4, HK, Bg1, Bg4, f38⟩ := hj
  try clear f37
  replace Bg4 : Blk w4 g4 34 #[.int .i64 3, .bool (decide (1 < d.a % 4)), .bool false, .int .i64 (d.c % 3), .int .i64 0, .string (topicS (d.a % 2)), .slice xA (d.x.take 1).length xc, .int .i64 0, .string ⟨#[]⟩, .bool false, .int .i64 0, .bool false, .string ⟨#[]⟩, .slice none 0 0, .int .i64 0, .bool false, .bool false, .bool false, .string ⟨#[]⟩, .slice none 0 0, .bool false, .int .i64 0, .slice none 0 0, .slice none 0 0] := Bg4
  refine wp_seq_k fun K15 hK15 => ?_
  refine C.sk fun K16 hK16 => ?_
  refine L.fa 3 f38 U34 rfl wsz3_ub fun a39 f39 => ?_
  refine L.ld f39 U3 Bg4 fun a40 f40 => ?_
  refine L.va f40 (E.gtr f40 rfl rfl) fun a41 f41 => ?_
  refine wpList_nil (hK16 _ _ ?_)
  have f42 := f41.sub (sc 2 (sc 3 (sc 4 (sc 89 sn))))
  clear f38 a38 f39 a39 f40 a40 f41
  refine f42.splitD 89 rfl (fun h7 f43 => ?_) (fun h7 f43 => ?_)
  ·refine C.condT f43 rfl ?_
   refine C.region ?_
   refine L.mv f43 fun a44 f44 => ?_
   refine L.fa 4 f44 U34 rfl wsz3_ub fun a45 f45 => ?_
   refine L.store f45 wantedN wsz3_ub rfl rfl rfl Bg4 (by (simp [Value.cells]; done)) fun a46 w5 f46 NB5 ks5 => ?_
   have szw5 := ks5.size
   replace HK := HK.trans ks5 (ktr (by omega))
   replace Bg1 := Bg1.kept ks5 (by simp; omega)
   replace Bg4 := NB5
   simp only [Value.cells, z1, z2, z3, Nat.reduceAdd, Nat.zero_add] at Bg4
   clear f42 f43 a41 f44 a44 ks5 f45 a45
   have f47 := f46.sub (sc 2 (sc 4 sn))
   refine wpList_nil (hK15 _ _ (C.sk fun K17 hK17 => ?_))
   refine L.va f47 (E.loadB f47 U34 rfl wsz34_ub rfl (Bg4) rfl) fun a48 f48 => ?_
   refine L.storeR f48 wantedN wsz34_ub rfl rfl rfl Bg1 rfl rfl fun a49 w6 f49 NB6 ks6 => ?_
   have szw6 := ks6.size
   replace HK := HK.trans ks6 (ktr (by omega))
   replace Bg4 := Bg4.kept ks6 (by simp; omega)
   replace Bg1 := NB6
   clear f46 f47 a46 ks6 f48 a48
   have f50 := f49.sub (sc 2 sn)
   refine wpList_nil (hK17 _ _ (wp_ret ?_)); (try simp only [xt, xb]); refine C.retC f50 rfl rfl Bg1 U34 rfl wsz34_ub ?_
   clear f49
   refine ⟨{ kind := 3, topic := topicS (d.a % 2), qos := d.c % 3, pay := d.x.take 1, dup := decide (1 < d.a % 4), id := d.b % 4 + 1 }, { s0 with pa := xA, pc := xc }, ?_, HK, ?_, ?_⟩
   ·rfl
   ·exact ⟨bs_take (SX.same (kept_same HK)), Bs.nil _ _ _ _, Bs.nil _ _ _ _, Cs.nil _ _ _ _ _, Cs.nil _ _ _ _ _⟩
   exact len_pubW _ _ _ _ _ hx (topicS_le _)
  refine C.condF f43 rfl ?_
  refine wp_skip (hK15 _ _ ?_)
  have f44 := f43.sub (sc 2 (sc 4 sn))
  refine C.sk fun K18 hK18 => ?_
  refine L.va f44 (E.loadB f44 U34 rfl wsz34_ub rfl (Bg4) rfl) fun a45 f45 => ?_
  refine L.storeR f45 wantedN wsz34_ub rfl rfl rfl Bg1 rfl rfl fun a46 w5 f46 NB5 ks5 => ?_
  have szw5 := ks5.size
  replace HK := HK.trans ks5 (ktr (by omega))
  replace Bg4 := Bg4.kept ks5 (by simp; omega)
  replace Bg1 := NB5
  clear f42 f43 f44 a41 ks5 f45 a45
  have f47 := f46.sub (sc 2 sn)
  refine wpList_nil (hK18 _ _ (wp_ret ?_)); (try simp only [xt, xb]); refine C.retC f47 rfl rfl Bg1 U34 rfl wsz34_ub ?_
  clear f46
  refine ⟨{ kind := 3, topic := topicS (d.a % 2), qos := d.c % 3, pay := d.x.take 1, dup := decide (1 < d.a % 4) }, { s0 with pa := xA, pc := xc }, ?_, HK, ?_, ?_⟩
  ·rfl
  ·exact ⟨bs_take (SX.same (kept_same HK)), Bs.nil _ _ _ _, Bs.nil _ _ _ _, Cs.nil _ _ _ _ _, Cs.nil _ _ _ _ _⟩
  exact len_pubW _ _ _ _ _ hx (topicS_le _)
 refine C.condF f37 rfl ?_
 refine wp_skip (hK2 _ _ ?_)
 have f38 := f37.sub (sc 1 (sc 2 sn))
 refine C.sk fun K19 hK19 => ?_
 refine L.fa 1 f38 U36 rfl wsz5_ub fun a39 f39 => ?_
 refine L.ld f39 U5 Bg0 fun a40 f40 => ?_
 refine L.va f40 (E.quo f40 rfl rfl (by omega) (IntWalk.u8_quo _ _ ⟨by omega, by omega, by omega⟩)) fun a41 f41 => ?_
 refine L.fa 2 f41 U36 rfl wsz5_ub fun a42 f42 => ?_
 refine L.ld f42 U5 Bg0 fun a43 f43 => ?_
 refine L.fa 3 f43 U36 rfl wsz5_ub fun a44 f44 => ?_
 clear f36 f37 f38 a36 f39 a39 f40 a40 f41 a41 f42 a42 f43 a43
 refine L.ld f44 U5 Bg0 fun a45 f45 => ?_
 refine L.fa 4 f45 U36 rfl wsz5_ub fun a46 f46 => ?_
 refine L.ld f46 U5 Bg0 fun a47 f47 => ?_
 refine L.fa 29 f47 U36 rfl wsz28_ub fun a48 f48 => ?_
 refine L.ld f48 U28 Bg0 fun a49 f49 => ?_
 refine L.cl f49 (run_call Try.call20 (args5 f49 rfl rfl rfl rfl rfl)) (seat_any B0 (d.k / 10) d.a d.b d.c d.x xA xc _ (SX.same (kept_same HK)) (by omega) ha hb hc) ?_
 clear f44 a44 f45 a45 f46 a46 f47 a47 f48 a48
 rintro e w4 ⟨sq, rfl, kc4, PS⟩
 refine ⟨_, rfl, fun a50 f50 => ?_⟩
 have szw4 := kc4.size
 replace HK := HK.z kc4
 replace Bg0 := Bg0.z kc4
 replace Bg1 := Bg1.z kc4
 clear f49 a49 kc4
 refine L.storeR f50 wantedN wsz34_ub rfl rfl rfl Bg1 rfl rfl fun a51 w5 f51 NB5 ks5 => ?_
 have szw5 := ks5.size
 replace HK := HK.trans ks5 (ktr (by omega))
 replace Bg0 := Bg0.kept ks5 (by simp; omega)
 replace PS := PkS.keptT PS ks5 (NoPk.blk Bg1 (by decide)) (by intro y hy; obtain rfl := List.mem_singleton.1 hy; omega)
 replace Bg1 := NB5
 clear ks5 f50 a50
 have f52 := f51.sub (sc 2 sn)
 refine wpList_nil (hK19 _ _ (wp_ret ?_)); (try simp only [xt, xb]); refine C.retC f52 rfl rfl Bg1 U34 rfl wsz34_ub ?_
 exact ⟨_, sq, rfl, HK, PS, (seat_right (by omega) (by omega) (by omega) (by omega) hx).2⟩
end Go.Proofs.Ytkdeedhjkjffpaa
namespace Go.Proofs.Ytkdeedhjkjffpaa
open Go.RowKit Go.Hub Go.Lib Go.WideShapes Go.ChangeMaps
theorem TrIn.keptX {B g x : Nat} {t : Tr} {m : TrM} {w w' : World} (h : TrIn B w g t m) (hk : Kept [x] w w') (hx : x ∉ m.fp g) (hn : NoPk w [x]) : TrIn B w' g t m := by
  have ne : ∀ y, y ∈ m.fp g → y ∉ [x] := fun y hy hm => by
    obtain rfl := List.mem_singleton.1 hm
    exact hx hy
  exact ⟨h.e1, h.e2, h.e3, h.e4, h.bt.kept hk (ne _ (fp_mem.2 (.inl rfl))), Own.kept h.rt hk (fun b hb => ne _ (fp_mem.2 (.inr (.inr (.inr (.inl ((own_block _ _ _ _).1 hb))))))), Own.kept h.rs hk (fun b hb => ne _ (fp_mem.2 (.inr (.inr (.inr (.inr (.inl ((own_block _ _ _ _).1 hb)))))))), Own.kept h.ru hk (fun b hb => ne _ (fp_mem.2 (.inr (.inr (.inr (.inr (.inr ((own_block _ _ _ _).1 hb)))))))), IsAss.kept h.mo hk (ne _ (fp_mem.2 (.inr (.inl rfl)))), IsAss.kept h.mf hk (ne _ (fp_mem.2 (.inr (.inr (.inl rfl))))), h.nof, h.tu, h.tn, h.un, h.lo, h.ps.keptT hk hn, h.pf.keptT hk hn, h.len⟩
theorem TrIn.noPk {B g : Nat} {t : Tr} {m : TrM} {w : World} (h : TrIn B w g t m) : NoPk w (m.fp g) := fun y hy hlt ht => by
  rcases fp_mem.1 hy with rfl | rfl | rfl | e | e | e
  · exact h.bt.not_typ (by decide) ht
  · exact ht.not_map (IsAss.mapB h.mo)
  · exact ht.not_map (IsAss.mapB h.mf)
  · exact NoPk.own h.rt y (by simpa using (own_block _ _ _ _).2 e) hlt ht
  · exact NoPk.own h.rs y (by simpa using (own_block _ _ _ _).2 e) hlt ht
  exact NoPk.own h.ru y (by simpa using (own_block _ _ _ _).2 e) hlt ht
theorem TrIn.fp_lt {B g : Nat} {t : Tr} {m : TrM} {w : World} (h : TrIn B w g t m) : ∀ x ∈ m.fp g, x < w.heap.size := fun x hx => by
  rcases fp_mem.1 hx with rfl | rfl | rfl | e | e | e
  · exact h.bt.lt
  · exact IsAss.lt h.mo
  · exact IsAss.lt h.mf
  · exact own_lt h.rt _ e
  · exact own_lt h.rs _ e
  exact own_lt h.ru _ e
end Go.Proofs.Ytkdeedhjkjffpaa
namespace Go.Proofs.Ytkdeedhjkjffpaa
open Go.RowKit Go.Hub Go.Lib Go.WideShapes Go.ChangeMaps
theorem wsz4_uc : (Try.prog.info? 4).map (·.size) = some 1 := by kernel_rfl
theorem wsz28_uc : (Try.prog.info? 28).map (·.size) = some 1 := by kernel_rfl
theorem wsz34_uc : (Try.prog.info? 34).map (·.size) = some 24 := by kernel_rfl
theorem wsz36_uc : (Try.prog.info? 36).map (·.size) = some 30 := by kernel_rfl
structure WdA where
  d : Wd
  s : Ad
  A : Option Addr
  c : Nat
def wdA (x : WdA) : Array Value := #[.bool x.d.inn, .int .u8 x.d.k, .int .u8 x.d.a, .int .u8 x.d.b, .int .u8 x.d.c, .int .i64 x.d.p.kind, .bool x.d.p.dup, .bool x.d.p.retain, .int .i64 x.d.p.qos, .int .i64 x.d.p.id, .string x.d.p.topic, .slice x.s.pa x.d.p.pay.length x.s.pc, .int .i64 x.d.p.level, .string x.d.p.client, .bool x.d.p.clean, .int .i64 x.d.p.keep, .bool x.d.p.hasWill, .string x.d.p.wt, .slice x.s.wa x.d.p.wp.length x.s.wc, .int .i64 x.d.p.wq, .bool x.d.p.wr, .bool x.d.p.hasUser, .bool x.d.p.hasPass, .string x.d.p.user, .slice x.s.sa x.d.p.pass.length x.s.sc, .bool x.d.p.present, .int .i64 x.d.p.code, .slice x.s.ua x.d.p.subs.length x.s.uc, .slice x.s.ca x.d.p.codes.length x.s.cc, .slice x.A x.d.x.length x.c]
def wdc (x : WdA) : List Value := (wdA x).toList
structure WdOk (w : World) (x : WdA) : Prop where
  k1 : 0 ≤ x.d.k ∧ x.d.k < 256
  a1 : 0 ≤ x.d.a ∧ x.d.a < 256
  b1 : 0 ≤ x.d.b ∧ x.d.b < 256
  c1 : 0 ≤ x.d.c ∧ x.d.c < 256
  pk : PkS w.heap.size w x.d.p x.s
  re : x.d.p.Reach
  xs : Bs [5, 46, 3] w.heap.size w x.A x.d.x.length x.d.x
  xc : x.d.x.length ≤ x.c
theorem wd_at {w : World} {A : Option Addr} {l : List WdA} (h : Sl w A l.length 30 (l.flatMap wdc)) {b off k : Nat} {x : WdA} (hA : A = some ⟨b, off, none⟩) (hx : l[k]? = some x) : w.rangeAt b (off + (k : Int).toNat * 30) (wdA x).toList := by
  have hk := (List.getElem?_eq_some_iff.1 hx).1
  rw [Int.toNat_natCast]
  refine h.row (by omega) hA fun j u hj => ?_
  exact flat_at wdc 30 (fun _ => rfl) l k x hx j u hj
theorem word_row {w : World} {g t : Nat} {d : Wd} {s : Ad} {A : Option Addr} {c : Nat} (B : Blk w g t #[.bool d.inn, .int .u8 d.k, .int .u8 d.a, .int .u8 d.b, .int .u8 d.c, .int .i64 d.p.kind, .bool d.p.dup, .bool d.p.retain, .int .i64 d.p.qos, .int .i64 d.p.id, .string d.p.topic, .slice s.pa d.p.pay.length s.pc, .int .i64 d.p.level, .string d.p.client, .bool d.p.clean, .int .i64 d.p.keep, .bool d.p.hasWill, .string d.p.wt, .slice s.wa d.p.wp.length s.wc, .int .i64 d.p.wq, .bool d.p.wr, .bool d.p.hasUser, .bool d.p.hasPass, .string d.p.user, .slice s.sa d.p.pass.length s.sc, .bool d.p.present, .int .i64 d.p.code, .slice s.ua d.p.subs.length s.uc, .slice s.ca d.p.codes.length s.cc, .slice A d.x.length c]) : w.rangeAt g (0 + 5) (d.p.cells s).toList := fun j u hj => by
  have hj' := (List.getElem?_eq_some_iff.1 hj).1
  have : (d.p.cells s).size = 24 := rfl
  rw [Array.length_toList, this] at hj'
  refine B.cl ?_
  have e : (#[.bool d.inn, .int .u8 d.k, .int .u8 d.a, .int .u8 d.b, .int .u8 d.c, .int .i64 d.p.kind, .bool d.p.dup, .bool d.p.retain, .int .i64 d.p.qos, .int .i64 d.p.id, .string d.p.topic, .slice s.pa d.p.pay.length s.pc, .int .i64 d.p.level, .string d.p.client, .bool d.p.clean, .int .i64 d.p.keep, .bool d.p.hasWill, .string d.p.wt, .slice s.wa d.p.wp.length s.wc, .int .i64 d.p.wq, .bool d.p.wr, .bool d.p.hasUser, .bool d.p.hasPass, .string d.p.user, .slice s.sa d.p.pass.length s.sc, .bool d.p.present, .int .i64 d.p.code, .slice s.ua d.p.subs.length s.uc, .slice s.ca d.p.codes.length s.cc, .slice A d.x.length c] : Array Value).toList = [.bool d.inn, .int .u8 d.k, .int .u8 d.a, .int .u8 d.b, .int .u8 d.c] ++ ((d.p.cells s).toList ++ [.slice A d.x.length c]) := rfl
  rw [e, List.getElem?_append_right (by show 5 ≤ _; omega), List.getElem?_append_left (by show _ - 5 < _; rw [Array.length_toList, this]; omega)]
  rw [show 0 + 5 + j - [Value.bool d.inn, .int .u8 d.k, .int .u8 d.a, .int .u8 d.b, .int .u8 d.c].length = j by show 0 + 5 + j - 5 = j; omega]
  exact hj
theorem right_id {p : Pk} (hr : RightP p) : (Lit.int .i64 p.id).wf = true := by
  have : 0 ≤ p.id ∧ p.id ≤ 65535 := by
    cases hn : numB p with
    | true => exact id_ok hr hn
    | false =>
      have h3 : p.kind = 3 → ¬ 0 < p.qos := fun e c => by
        rw [numB_3 e] at hn
        simp at hn
        omega
      have h4 : ¬ (4 ≤ p.kind ∧ p.kind ≤ 11) := fun c => by rw [numB_t c] at hn; cases hn
      have : p.id = 0 := by
        conv => lhs; rw [hr.bare]
        unfold bareP
        rcases kind_cases hr.kd with e | e | e | e | e | e | e | e | e | e | e | e | e | e <;> first | (exfalso; omega) | (simp [e, hn]; done) | (have := h3 e; simp [e, hn]; omega)
      omega
  exact wf_small this.1 (by omega)
theorem light_len {p : Pk} (h : LightP p) : p.Len := by
  obtain ⟨a, b, c, d⟩ := h
  exact ⟨by omega, by omega, by omega, by omega, by omega, by omega, by omega, by omega, by omega, fun x hx => by have := d x hx; omega⟩
section
variable {w w' : World} {L : List Nat} {B g : Nat} {t : Tr} {m : TrM} {r : Rt} {m' : RtM}
theorem TrIn.keptL (h : TrIn B w g t m) (hk : Kept L w w') (hx : ∀ y ∈ L, y ∉ m.fp g) (hn : NoPk w L) : TrIn B w' g t m := by
  have hg : ∀ y, y ∈ m.fp g → y ∉ L := fun y hy hl => hx y hl hy
  exact ⟨h.e1, h.e2, h.e3, h.e4, h.bt.kept hk (hg _ fp_g), Own.kept h.rt hk (fun b hb => hg _ (fp_ownRT hb)), Own.kept h.rs hk (fun b hb => hg _ (fp_ownRS hb)), Own.kept h.ru hk (fun b hb => hg _ (fp_ownRU hb)), IsAss.kept h.mo hk (hg _ fp_o), IsAss.kept h.mf hk (hg _ fp_f), h.nof, h.tu, h.tn, h.un, h.lo, h.ps.keptT hk hn, h.pf.keptT hk hn, h.len⟩
theorem RtIn.keptL (h : RtIn B w g r m') (hk : Kept L w w') (hx : ∀ y ∈ L, y ∉ m'.fp g) (hn : NoPk w L) (hb : ∀ y ∈ L, B ≤ y) : RtIn B w' g r m' := by
  have hg : ∀ y, y ∈ m'.fp g → y ∉ L := fun y hy hl => hx y hl hy
  exact ⟨h.e1, h.e2, h.bt.kept hk (hg _ rp_g), Own.kept h.ro hk (fun b hc => hg _ (rp_ownO hc)), Own.kept h.rq hk (fun b hc => hg _ (rp_ownQ hc)), IsAss.kept h.mr hk (hg _ rp_r), IsAss.kept h.mg hk (hg _ rp_m), h.nof, h.oq, h.lo, h.ps.keptT hk hn hb, h.pq.keptT hk hn hb, h.len⟩
theorem RtIn.noPk (h : RtIn B w g r m') : NoPk w (m'.fp g) := fun y hy hlt ht => by
  rcases rp_mem.1 hy with rfl | rfl | rfl | h1 | h1
  · exact NoPk.blk h.bt (by decide) _ (by simp) hlt ht
  · exact NoPk.map h.mr _ (by simp) hlt ht
  · exact NoPk.map h.mg _ (by simp) hlt ht
  · exact NoPk.own h.ro _ (by simpa using (own_block _ _ _ _).2 h1) hlt ht
  exact NoPk.own h.rq _ (by simpa using (own_block _ _ _ _).2 h1) hlt ht
end
set_option maxHeartbeats 4000000 in
theorem plays_any (c : Bool) (l : List WdA) (Al : Option Addr) (cl : Nat) (w : World) (SL : Sl w Al l.length 30 (l.flatMap wdc)) (hW : ∀ d ∈ l, WdOk w d) (hll : l.length ≤ maxLen) : Calls Try.prog 3 #[.bool c, .slice Al l.length cl] w (fun e w' => Kept [] w w' ∧ e = .returned (.bool true)) := by
 have HK : Kept [] w w := Kept.refl [] w
 unfold maxLen at hll
 refine C.enter Try.func3 rfl Try.ntmps3 rfl ?_
 intro a0 f0
 have f1 : Fr 69 a0 [(0, .bool c), (1, .slice Al l.length cl)] := f0
 refine C.sk fun K0 hK0 => ?_
 refine L.ag f1 fun a2 f2 => ?_
 refine wpList_nil (hK0 _ _ ?_)
 have f3 := f2.sub (sc 0 (sc 1 sn))
 refine wp_seq_k fun K1 hK1 => ?_
 refine C.sk fun K2 hK2 => ?_
 refine L.cl f3 (run_call Try.call6 (args0 f3)) (known_any _) ?_
 clear f0 f1 a0 f2
 rintro e w1 ⟨kc1, rfl⟩
 refine ⟨_, rfl, fun a4 f4 => ?_⟩
 have szw1 := kc1.size
 replace HK := HK.z kc1
 clear f3 a2 kc1
 have f5 := f4.as (i := 10) (v' := .bool true) rfl (by rfl)
 refine L.va f5 (E.not f5 rfl) fun a6 f6 => ?_
 refine wpList_nil (hK2 _ _ ?_)
 have f7 := f6.sub (sc 0 (sc 1 (sc 11 sn)))
 refine C.condF f7 rfl ?_
 refine wp_skip (hK1 _ _ ?_)
 have f8 := f7.sub (sc 0 (sc 1 sn))
 refine wp_seq_k fun K3 hK3 => ?_
 refine C.sk fun K4 hK4 => ?_
 refine L.mv f8 fun a9 f9 => ?_
 refine L.va f9 (E.lenL f9 Try.underlying22 rfl) fun a10 f10 => ?_
 refine L.va f10 (E.gtr f10 rfl rfl) fun a11 f11 => ?_
 refine wpList_nil (hK4 _ _ ?_)
 have f12 := f11.sub (sc 0 (sc 1 (sc 14 sn)))
 clear f4 f5 a4 f6 f7 f8 a6 f9 a9 f10 a10 f11
 refine f12.splitD 14 rfl (fun h0 f13 => ?_) (fun h0 f13 => ?_)
 ·refine C.condT f13 rfl ?_
  refine C.sk fun K5 hK5 => ?_
  refine L.ag f13 fun a14 f14 => ?_
  have f15 := f14.sub (sc 4 sn)
  refine wpList_nil (hK5 _ _ (wp_ret ?_)); (try simp only [xt, xb]); refine C.ret f15 rfl rfl ?_
  exact ⟨HK, rfl⟩
 refine C.condF f13 rfl ?_
 refine wp_skip (hK3 _ _ ?_)
 have f14 := f13.sub (sc 0 (sc 1 sn))
 refine C.sk fun K6 hK6 => ?_
 refine L.mv f14 fun a15 f15 => ?_
 refine L.cl f15 (run_call Try.call7 (args1 f15 rfl)) (new_any w.heap.size c _ HK.size) ?_
 clear f12 f13 f14 a11
 rintro e w2 ⟨g, m0, rfl, T, hn0, kc2⟩
 refine ⟨_, rfl, fun a16 f16 => ?_⟩
 have szw2 := kc2.size
 replace HK := HK.z kc2
 clear f15 a15 kc2
 have ltT := TrIn.fp_lt T
 refine L.mv f16 fun a17 f17 => ?_
 refine L.cl f17 (run_call Try.call8 (args1 f17 rfl)) (newR_any w.heap.size c _ HK.size) ?_
 clear f16 a16
 rintro e w3 ⟨h, n0, rfl, RR, hn1, kc3, nwR⟩
 refine ⟨_, rfl, fun a18 f18 => ?_⟩
 have szw3 := kc3.size
 replace HK := HK.z kc3
 replace T := TrIn.kept0 T kc3
 clear f17 a17 kc3
 have dj0 : ∀ y ∈ m0.fp g, y ∉ n0.fp h := fun y hy hx => by have h1 := ltT y hy; have h2 := nwR y hx; omega
 refine L.ag f18 fun a19 f19 => ?_
 refine L.ag f19 fun a20 f20 => ?_
 refine wpList_nil (hK6 _ _ ?_)
 have f21 := f20.sub (sc 1 (sc 5 (sc 6 sn)))
 refine wp_seq_k fun K7 hK7 => ?_
 refine C.sk fun K8 hK8 => ?_
 refine L.ag f21 fun a22 f22 => ?_
 refine wpList_nil (hK8 _ _ ?_)
 have f23 := f22.sub (sc 1 (sc 5 (sc 6 (sc 7 sn))))
 refine wp_block ?_
 clear f18 a18 f19 a19 f20 f21 a20 f22
 refine C.loop (fun gk a W => ∃ (k : Nat) (t : Tr) (m : TrM) (r : Rt) (m' : RtM), k + gk = l.length ∧ m.n ≤ k ∧ m'.n ≤ k ∧ Kept [] w W ∧ TrIn w.heap.size W g t m ∧ RtIn w.heap.size W h r m' ∧ (∀ y ∈ m.fp g, y ∉ m'.fp h) ∧ Sim t r ∧ Fr 69 a [(1, .slice Al l.length cl), (5, .pointer (some ⟨g, 0, none⟩)), (6, .pointer (some ⟨h, 0, none⟩)), (7, .int .i64 k)]) (l.length) ?_ ?_
 ·exact ⟨0, Tr.new c, m0, Rt.new c, n0, by omega, by omega, by omega, HK, T, RR, dj0, Sim.new c, f23.sub (sx (sx (sx (sx sn))))⟩
 intro gk10 a24 w4 hI KL9 hKL9
 obtain ⟨k, t, m, r, m', hk, hmn, hmn', HK, T, RR, dj, sim, f24⟩ := hI
 try clear f23
 have szl := HK.size
 have loT := T.lo
 have loR := RR.lo
 refine wp_seq_k fun K10 hK10 => ?_
 refine C.sk fun K11 hK11 => ?_
 refine L.mv f24 fun a25 f25 => ?_
 refine L.mv f25 fun a26 f26 => ?_
 refine L.va f26 (E.lenL f26 Try.underlying22 rfl) fun a27 f27 => ?_
 refine L.va f27 (E.lss f27 rfl rfl) fun a28 f28 => ?_
 refine wpList_nil (hK11 _ _ ?_)
 have f29 := f28.sub (sc 1 (sc 5 (sc 6 (sc 7 (sc 22 sn)))))
 clear f24 a24 f25 a25 f26 a26 f27 a27 f28
 refine f29.splitD 22 rfl (fun h1 f30 => ?_) (fun h1 f30 => ?_)
 ·obtain ⟨x, hx⟩ : ∃ x, l[k]? = some x := ⟨l[k]'(by omega), List.getElem?_eq_getElem _⟩
  obtain ⟨b, off, hA⟩ := SL.addr (by omega)
  obtain ⟨ok1, ok2, ok3, ok4, okp, okr, okx, okc⟩ := hW x (List.mem_of_getElem? hx)
  refine C.condT f30 rfl ?_
  refine wp_skip (hK10 _ _ ?_)
  have f31 := f30.sub (sc 1 (sc 5 (sc 6 (sc 7 sn))))
  refine wp_seq_k fun K12 hK12 => ?_
  refine wp_block ?_
  refine C.sk fun K13 hK13 => ?_
  refine L.mv f31 fun a32 f32 => ?_
  refine L.mv f32 fun a33 f33 => ?_
  refine L.va f33 (E.indexA f33 (by assumption) Try.underlying22 wsz36_uc rfl rfl (by omega) (by omega)) fun a34 f34 => ?_
  refine L.va f34 (E.loadR f34 U36 rfl wsz36_uc rfl (wd_at (SL.kept HK) hA hx) rfl) fun a35 f35 => ?_
  refine L.alloc f35 wantedN (by decide) (z := z36) (fun _ => by kernel_rfl) rfl fun a36 w5 g4 N4 f36 => ?_
  have Bg4 := N4.blk
  have kg4 := N4.kept
  have log4 := N4.lo
  have ltg4 := Bg4.lt
  have szw5 := kg4.size
  have frg4 : w.heap.size ≤ g4 := Nat.le_trans HK.size log4
  have nfTg4 : g4 ∉ m.fp g := fun h => by have := TrIn.fp_lt T _ h; omega
  have nfRg4 : g4 ∉ m'.fp h := fun h => by have := RtIn.fp_lt RR _ h; omega
  replace HK := HK.z kg4
  replace T := TrIn.kept0 T kg4
  replace RR := RtIn.kept0 RR kg4
  clear f29 f30 f31 a28 f32 a32 f33 a33 f34 a34 N4 kg4
  refine L.storeR f36 wantedN wsz36_uc rfl rfl rfl Bg4 rfl rfl fun a37 w6 f37 NB6 ks6 => ?_
  have szw6 := ks6.size
  replace HK := HK.trans ks6 (fun x hx hlt => by obtain rfl := List.mem_singleton.1 hx; exfalso; omega)
  replace T := TrIn.keptX T ks6 nfTg4 (NoPk.blk Bg4 (by decide))
  replace RR := RtIn.keptN RR ks6 nfRg4 (NoPk.blk Bg4 (by decide)) (by omega)
  replace Bg4 := NB6
  clear f35 a35 ks6 f36 a36
  refine wpList_nil (hK13 _ _ ?_)
  have f38 := f37.sub (sc 1 (sc 5 (sc 6 (sc 7 (sc 8 sn)))))
  refine wp_seq_k fun K14 hK14 => ?_
  refine wp_seq_k fun K15 hK15 => ?_
  replace Bg4 : Blk w6 g4 36 #[.bool x.d.inn, .int .u8 x.d.k, .int .u8 x.d.a, .int .u8 x.d.b, .int .u8 x.d.c, .int .i64 x.d.p.kind, .bool x.d.p.dup, .bool x.d.p.retain, .int .i64 x.d.p.qos, .int .i64 x.d.p.id, .string x.d.p.topic, .slice x.s.pa x.d.p.pay.length x.s.pc, .int .i64 x.d.p.level, .string x.d.p.client, .bool x.d.p.clean, .int .i64 x.d.p.keep, .bool x.d.p.hasWill, .string x.d.p.wt, .slice x.s.wa x.d.p.wp.length x.s.wc, .int .i64 x.d.p.wq, .bool x.d.p.wr, .bool x.d.p.hasUser, .bool x.d.p.hasPass, .string x.d.p.user, .slice x.s.sa x.d.p.pass.length x.s.sc, .bool x.d.p.present, .int .i64 x.d.p.code, .slice x.s.ua x.d.p.subs.length x.s.uc, .slice x.s.ca x.d.p.codes.length x.s.cc, .slice x.A x.d.x.length x.c] := Bg4
  refine C.region ?_
  refine L.fa 29 f38 U36 rfl wsz28_uc fun a39 f39 => ?_
  refine L.ld f39 U28 Bg4 fun a40 f40 => ?_
  refine L.va f40 (E.lenL f40 U28 rfl) fun a41 f41 => ?_
  refine L.va f41 (E.gtr f41 rfl rfl) fun a42 f42 => ?_
  refine L.mv f42 fun a43 f43 => ?_
  clear f37 f38 a37 f39 a39 f40 a40 f41 a41 f42 a42
  refine f43.splitD 33 rfl (fun h2 f44 => ?_) (fun h2 f44 => ?_)
  ·refine L.run f44 (rest' := []) (by kernel_rfl) fun a45 f45 => ?_
   clear f43
   refine wpList_nil (hK15 _ _ ?_)
   have f46 := f45.sub (scR f45 1 (scR f45 5 (scR f45 6 (scR f45 7 (scR f45 8 (sv 38 (.bool true) sn))))))
   refine C.condT f46 rfl ?_
   refine C.sk fun K16 hK16 => ?_
   refine L.ag f46 fun a47 f47 => ?_
   have f48 := f47.sub (sc 4 sn)
   refine wpList_nil (hK16 _ _ (wp_ret ?_)); (try simp only [xt, xb]); refine C.ret f48 rfl rfl ?_
   exact ⟨HK, rfl⟩
  have hx20 := h2
  refine L.fa 5 f44 U36 rfl wsz34_uc (hw := (f44.yes rfl rfl)) fun a45 f45 => ?_
  refine L.va f45 (E.loadR f45 U34 rfl wsz34_uc rfl (word_row Bg4) rfl) (hw := (f45.yes rfl rfl)) fun a46 f46 => ?_
  refine L.cl f46 (run_call Try.call9 (args1 f46 rfl)) (light_any x.d.p x.s _ ((PkS.kept0 okp HK).toIn) okr) ?_ (hw := (f46.yes rfl rfl))
  clear f43 f44 a43 f45 a45
  rintro e w7 ⟨kc7, lb, rfl, hlb⟩
  refine ⟨_, rfl, fun a47 f47 => ?_⟩
  have szw7 := kc7.size
  replace HK := HK.z kc7
  replace T := TrIn.kept0 T kc7
  replace RR := RtIn.kept0 RR kc7
  replace Bg4 := Bg4.z kc7
  clear f46 a46 kc7
  refine L.va f47 (E.not f47 rfl) (hw := (f47.yes rfl rfl)) fun a48 f48 => ?_
  refine L.va f48 (E.pickF f48 rfl rfl) fun a49 f49 => ?_
  refine wpList_nil (hK15 _ _ ?_)
  have f50 := f49.sub (sc 1 (sc 5 (sc 6 (sc 7 (sc 8 (sc 38 sn))))))
  clear f47 a47 f48 a48 f49
  refine f50.splitNB 38 rfl (fun h3 f51 => ?_) (fun h3 f51 => ?_)
  ·refine C.condT f51 rfl ?_
   refine C.sk fun K17 hK17 => ?_
   refine L.ag f51 fun a52 f52 => ?_
   have f53 := f52.sub (sc 4 sn)
   refine wpList_nil (hK17 _ _ (wp_ret ?_)); (try simp only [xt, xb]); refine C.ret f53 rfl rfl ?_
   exact ⟨HK, rfl⟩
  have hLP := hlb (by simpa using h3)
  refine C.condF f51 rfl ?_
  refine wp_skip (hK14 _ _ ?_)
  have f52 := f51.sub (sc 1 (sc 5 (sc 6 (sc 7 (sc 8 sn)))))
  refine C.sk fun K18 hK18 => ?_
  refine L.va f52 (E.loadB f52 U36 rfl wsz36_uc rfl (Bg4) rfl) fun a53 f53 => ?_
  refine L.cl f53 (run_call Try.call10 (args1 f53 rfl)) (word_any w.heap.size x.d x.s x.A x.c _ HK.size (okx.same (kept_same HK)) okc ok1 ok2 ok3 ok4 (by omega)) ?_
  clear f50 f51 f52 a49
  rintro e w8 ⟨p, s, rfl, kc8, PP, hL⟩
  refine ⟨_, rfl, fun a54 f54 => ?_⟩
  have szw8 := kc8.size
  replace HK := HK.z kc8
  replace T := TrIn.kept0 T kc8
  replace RR := RtIn.kept0 RR kc8
  replace Bg4 := Bg4.z kc8
  clear f53 a53 kc8
  refine L.alloc f54 wantedN (by decide) (z := z34) (fun _ => by kernel_rfl) rfl fun a55 w9 g8 N8 f55 => ?_
  have Bg8 := N8.blk
  have kg8 := N8.kept
  have log8 := N8.lo
  have ltg8 := Bg8.lt
  have szw9 := kg8.size
  have frg8 : w.heap.size ≤ g8 := Nat.le_trans HK.size log8
  have neg4_g8 : g4 ≠ g8 := by have := Bg4.lt; omega
  have nfTg8 : g8 ∉ m.fp g := fun h => by have := TrIn.fp_lt T _ h; omega
  have nfRg8 : g8 ∉ m'.fp h := fun h => by have := RtIn.fp_lt RR _ h; omega
  replace HK := HK.z kg8
  replace T := TrIn.kept0 T kg8
  replace RR := RtIn.kept0 RR kg8
  replace Bg4 := Bg4.z kg8
  replace PP := PkS.kept0 PP kg8
  clear N8 kg8
  refine L.storeR f55 wantedN wsz34_uc rfl rfl rfl Bg8 rfl rfl fun a56 w10 f56 NB10 ks10 => ?_
  have szw10 := ks10.size
  replace HK := HK.trans ks10 (fun x hx hlt => by obtain rfl := List.mem_singleton.1 hx; exfalso; omega)
  replace T := TrIn.keptX T ks10 nfTg8 (NoPk.blk Bg8 (by decide))
  replace RR := RtIn.keptN RR ks10 nfRg8 (NoPk.blk Bg8 (by decide)) (by omega)
  replace Bg4 := Bg4.kept ks10 (by simp; omega)
  replace PP := PkS.keptT PP ks10 (NoPk.blk Bg8 (by decide)) (by intro y hy; obtain rfl := List.mem_singleton.1 hy; omega)
  replace Bg8 := NB10
  clear f54 a54 ks10 f55 a55
  refine wpList_nil (hK18 _ _ ?_)
  have f57 := f56.sub (sc 1 (sc 5 (sc 6 (sc 7 (sc 8 (sc 9 sn))))))
  obtain ⟨J15, hJ15⟩ : ∃ J : Act → World → Prop, J = fun a W => ∃ (p : Pk) (s : Ad) (gq gx : Nat), PkS w.heap.size W p s ∧ p.Len ∧ Blk W gq 34 (p.cells s) ∧ Blk W gx 36 #[.bool x.d.inn, .int .u8 x.d.k, .int .u8 x.d.a, .int .u8 x.d.b, .int .u8 x.d.c, .int .i64 x.d.p.kind, .bool x.d.p.dup, .bool x.d.p.retain, .int .i64 x.d.p.qos, .int .i64 x.d.p.id, .string x.d.p.topic, .slice x.s.pa x.d.p.pay.length x.s.pc, .int .i64 x.d.p.level, .string x.d.p.client, .bool x.d.p.clean, .int .i64 x.d.p.keep, .bool x.d.p.hasWill, .string x.d.p.wt, .slice x.s.wa x.d.p.wp.length x.s.wc, .int .i64 x.d.p.wq, .bool x.d.p.wr, .bool x.d.p.hasUser, .bool x.d.p.hasPass, .string x.d.p.user, .slice x.s.sa x.d.p.pass.length x.s.sc, .bool x.d.p.present, .int .i64 x.d.p.code, .slice x.s.ua x.d.p.subs.length x.s.uc, .slice x.s.ca x.d.p.codes.length x.s.cc, .slice x.A x.d.x.length x.c] ∧ w.heap.size ≤ gq ∧ w.heap.size ≤ gx ∧ gq ≠ gx ∧ gq ∉ m.fp g ∧ gq ∉ m'.fp h ∧ Kept [] w W ∧ TrIn w.heap.size W g t m ∧ RtIn w.heap.size W h r m' ∧ Fr 69 a [(1, .slice Al l.length cl), (5, .pointer (some ⟨g, 0, none⟩)), (6, .pointer (some ⟨h, 0, none⟩)), (7, .int .i64 k), (8, .pointer (some ⟨gx, 0, none⟩)), (9, .pointer (some ⟨gq, 0, none⟩))] := ⟨_, rfl⟩
  clear f56
  refine C.cut J15 ?_ ?_
  ·skip
   refine wp_seq_k fun K19 hK19 => ?_
   replace Bg8 : Blk w10 g8 34 (p.cells s) := Bg8
   refine C.region ?_
   refine L.mv f57 fun a58 f58 => ?_
   refine L.va f58 (E.rem f58 rfl rfl (by omega) (Int.tmod_eq_emod_of_nonneg (by omega))) fun a59 f59 => ?_
   refine L.va f59 (E.eq f59) fun a60 f60 => ?_
   refine wpList_nil (hK19 _ _ ?_)
   have f61 := f60.sub (sc 1 (sc 5 (sc 6 (sc 7 (sc 8 (sc 9 (sc 43 sn)))))))
   clear f57 a56 f58 a58 f59 a59 f60
   refine f61.splitD 43 rfl (fun h4 f62 => ?_) (fun h4 f62 => ?_)
   ·have h43 := h4
    refine C.condT f62 rfl ?_
    refine C.region ?_
    refine L.fa 5 f62 U36 rfl wsz34_uc fun a63 f63 => ?_
    refine L.va f63 (E.loadR f63 U34 rfl wsz34_uc rfl (word_row Bg4) rfl) fun a64 f64 => ?_
    refine L.storeR f64 wantedN wsz34_uc rfl rfl rfl Bg8 rfl rfl fun a65 w11 f65 NB11 ks11 => ?_
    have szw11 := ks11.size
    replace HK := HK.trans ks11 (fun x hx hlt => by obtain rfl := List.mem_singleton.1 hx; exfalso; omega)
    replace T := TrIn.keptX T ks11 nfTg8 (NoPk.blk Bg8 (by decide))
    replace RR := RtIn.keptN RR ks11 nfRg8 (NoPk.blk Bg8 (by decide)) (by omega)
    replace Bg4 := Bg4.kept ks11 (by simp; omega)
    replace PP := PkS.keptT PP ks11 (NoPk.blk Bg8 (by decide)) (by intro y hy; obtain rfl := List.mem_singleton.1 hy; omega)
    replace Bg8 := NB11
    clear f61 f62 a60 f63 a63 ks11 f64 a64
    exact wpList_nil (jn J15 (by rw [hJ15]; exact ⟨x.d.p, x.s, g8, g4, (PkS.kept0 okp HK), (light_len hLP), Bg8, Bg4, by omega, by omega, by omega, nfTg8, nfRg8, HK, T, RR, f65.sub (sx (sx (sx (sx (sx (sx sn))))))⟩))
   refine C.condF f62 rfl ?_
   exact wp_skip (jn J15 (by rw [hJ15]; exact ⟨p, s, g8, g4, PP, hL, Bg8, Bg4, by omega, by omega, by omega, nfTg8, nfRg8, HK, T, RR, f62.sub (sx (sx (sx (sx (sx (sx sn))))))⟩))
  intro a58 w11 hj
  rw [hJ15] at hj
  clear hJ15 J15
  obtain ⟨p, s, gq, gx, PP, hL, Bgq, Bgx, logq, logx, neqx, nfTgq, nfRgq, HK, T, RR, f58⟩ := hj
  try clear f57
  have szc := HK.size
  refine wp_seq_k fun K20 hK20 => ?_
  refine C.sk fun K21 hK21 => ?_
  refine L.va f58 (E.loadB f58 U34 rfl wsz34_uc rfl (Bgq) rfl) fun a59 f59 => ?_
  refine L.cl f59 (run_call Try.call11 (args1 f59 rfl)) (rightR_any p s _ PP.toIn hL) ?_
  clear f58 a58
  rintro e w12 ⟨kc12, rfl⟩
  refine ⟨_, rfl, fun a60 f60 => ?_⟩
  have szw12 := kc12.size
  replace HK := HK.z kc12
  replace T := TrIn.kept0 T kc12
  replace RR := RtIn.kept0 RR kc12
  replace PP := PkS.kept0 PP kc12
  replace Bgq := Bgq.z kc12
  replace Bgx := Bgx.z kc12
  clear f59 a59 kc12
  refine L.va f60 (E.not f60 rfl) fun a61 f61 => ?_
  refine wpList_nil (hK21 _ _ ?_)
  have f62 := f61.sub (sc 1 (sc 5 (sc 6 (sc 7 (sc 8 (sc 9 (sc 48 sn)))))))
  clear f60 a60 f61
  refine f62.splitNB 48 rfl (fun h5 f63 => ?_) (fun h5 f63 => ?_)
  ·refine C.condT f63 rfl ?_
   refine wp_exit (hK12 _ _ ?_)
   have f64 := f63.sub (sc 1 (sc 5 (sc 6 (sc 7 sn))))
   refine C.region ?_
   refine L.mv f64 fun a65 f65 => ?_
   refine L.va f65 (E.add f65 rfl rfl (IntWalk.i64_in _ (by omega))) fun a66 f66 => ?_
   refine L.ag f66 fun a67 f67 => ?_
   clear f62 f63 f64 a61 f65 a65 f66 a66
   refine wpList_nil (hKL9 _ _ (gk10 - 1) ?_ ?_)
   ·omega
   exact ⟨k + 1, t, m, r, m', by omega, by omega, by omega, HK, T, RR, dj, sim, by simpa using f67.sub (sx (sx (sx (sx sn))))⟩
  have hr : RightP p := rightB_iff.1 ((rightR_is p).symm.trans h5)
  have hid := right_id hr
  refine C.condF f63 rfl ?_
  refine wp_skip (hK20 _ _ ?_)
  have f64 := f63.sub (sc 1 (sc 5 (sc 6 (sc 7 (sc 8 (sc 9 sn))))))
  obtain ⟨J21, hJ21⟩ : ∃ J : Act → World → Prop, J = fun a W => ∃ (t : Tr) (m : TrM) (r : Rt) (m' : RtM), m.n ≤ k + 1 ∧ m'.n ≤ k + 1 ∧ Kept [] w W ∧ TrIn w.heap.size W g t m ∧ RtIn w.heap.size W h r m' ∧ (∀ y ∈ m.fp g, y ∉ m'.fp h) ∧ Sim t r ∧ Fr 69 a [(1, .slice Al l.length cl), (5, .pointer (some ⟨g, 0, none⟩)), (6, .pointer (some ⟨h, 0, none⟩)), (7, .int .i64 k)] := ⟨_, rfl⟩
  clear f62 f63
  refine C.cut J21 ?_ ?_
  ·skip
   refine C.sk fun K22 hK22 => ?_
   refine L.fa 0 f64 U36 rfl wsz4_uc fun a65 f65 => ?_
   refine L.ld f65 U4 Bgx fun a66 f66 => ?_
   refine wpList_nil (hK22 _ _ ?_)
   have f67 := f66.sub (sc 1 (sc 5 (sc 6 (sc 7 (sc 9 (sc 50 sn))))))
   clear f64 a61 f65 a65 f66
   refine f67.split 50 rfl (fun h6 f68 => ?_) (fun h6 f68 => ?_)
   ·refine C.condT f68 rfl ?_
    refine C.sk fun K23 hK23 => ?_
    refine L.mv f68 fun a69 f69 => ?_
    refine L.va f69 (E.loadB f69 U34 rfl wsz34_uc rfl (Bgq) rfl) fun a70 f70 => ?_
    have npT := T.noPk
    have npR := RR.noPk
    have loT := T.lo
    have loR := RR.lo
    have ltR := RR.fp_lt
    refine L.cl f70 (run_call Try.call12 (args2 f70 rfl rfl)) (in_any p s hid w.heap.size g t m _ T (by omega) PP hL) ?_
    clear f67 f68 a66 f69 a69
    rintro e w13 ⟨rfl, m2, T2, up2, kc13, nw2, _⟩
    refine ⟨_, rfl, fun a71 f71 => ?_⟩
    have szw13 := kc13.size
    replace HK := HK.trans kc13 (fun x hx hlt => by have := loT x hx; omega)
    replace RR := RtIn.keptL RR kc13 (fun y hy hx => dj y hy hx) npT loT
    replace PP := PkS.keptT PP kc13 npT loT
    replace Bgq := Bgq.kept kc13 nfTgq
    clear f70 a70 kc13
    have dj2 : ∀ y ∈ m2.fp g, y ∉ m'.fp h := fun y hy hx => (nw2 y hy).elim (fun h => dj y h hx) (fun h => by have := ltR y hx; omega)
    clear dj
    have dj := dj2
    have T := T2
    have hup := up2
    clear dj2 T2 up2
    refine wpList_nil (hK23 _ _ ?_)
    have f72 := f71.sub (sc 1 (sc 5 (sc 6 (sc 7 (sc 9 sn)))))
    refine C.region ?_
    refine L.mv f72 fun a73 f73 => ?_
    refine L.va f73 (E.loadB f73 U34 rfl wsz34_uc rfl (Bgq) rfl) fun a74 f74 => ?_
    have npT := T.noPk
    have npR := RR.noPk
    have loT := T.lo
    have loR := RR.lo
    have ltT := T.fp_lt
    refine L.cl f74 (run_call Try.call13 (args2 f74 rfl rfl)) (tinR_any p s hid w.heap.size h r m' _ RR (by omega) (by omega) PP hL) ?_
    clear f71 f72 a71 f73 a73
    rintro e w14 ⟨rfl, n2, R2, upR, kc14, nwR⟩
    refine ⟨_, rfl, fun a75 f75 => ?_⟩
    have szw14 := kc14.size
    replace HK := HK.trans kc14 (fun x hx hlt => by have := loR x hx; omega)
    replace PP := PkS.keptT PP kc14 npR loR
    replace Bgq := Bgq.kept kc14 nfRgq
    replace T := TrIn.keptL T kc14 (fun y hy hx => dj y hx hy) npR
    clear f74 a74 kc14
    have djR : ∀ y ∈ m2.fp g, y ∉ n2.fp h := fun y hy hx => (nwR y hx).elim (fun h => dj y hy h) (fun h => by have := ltT y hy; omega)
    clear dj
    have dj := djR
    have RR := R2
    clear djR R2
    have sim2 := sim.in_ hr
    exact wpList_nil (jn J21 (by rw [hJ21]; exact ⟨t.inT p, m2, r.inR p, n2, by omega, by omega, HK, T, RR, dj, sim2, f75.sub (sx (sx (sx (sx sn))))⟩))
   refine C.condF f68 rfl ?_
   refine wp_seq_k fun K24 hK24 => ?_
   have hd19 : Kept [] w12 (w12.drewN 1) := (Kept.refl _ _).drewN 1
   refine R.beginT (S := fun W => (Blk W gq 34 (p.cells s))) (by kernel_rfl) (by kernel_rfl) (Bgq.z hd19) fun ht => ?_
   obtain ⟨w13, hww13⟩ : ∃ W, W = w12.drewN 1 := ⟨_, rfl⟩
   rw [← hww13] at hd19 ⊢
   clear f67 hww13
   have szw13 := hd19.size
   replace HK := HK.z hd19
   replace T := TrIn.kept0 T hd19
   replace RR := RtIn.kept0 RR hd19
   replace PP := PkS.kept0 PP hd19
   replace Bgq := Bgq.z hd19
   replace Bgx := Bgx.z hd19
   clear hd19
   refine R.u 0 f68 rfl ht Bgq (fun W hW => (E.move f68 rfl)) fun a69 f69 => ?_
   refine R.u 1 f69 rfl ht Bgq (fun W hW => (E.loadB f69 U34 rfl wsz34_uc rfl (hW) rfl)) fun a70 f70 => ?_
   refine R.u 3 f70 rfl ht Bgq (fun W hW => (E.move f70 rfl)) fun a71 f71 => ?_
   refine R.u 4 f71 rfl ht Bgq (fun W hW => (E.loadB f71 U34 rfl wsz34_uc rfl (hW) rfl)) fun a72 f72 => ?_
   have npT := T.noPk
   have npR := RR.noPk
   have loT := T.lo
   have loR := RR.lo
   have ltR := RR.fp_lt
   refine R.call 2 f72 rfl rfl (by decide) (by kernel_rfl) wantedN (run_call Try.call14 (args2 f72 rfl rfl)) (out_any p s hid w.heap.size g t m _ T (by omega) PP hL) ?_
   clear f68 a66 f69 a69 f70 a70 f71 a71
   rintro e w14 ⟨rfl, m2, T2, up2, kc14, nw2, _⟩
   have szw14 := kc14.size
   replace HK := HK.trans kc14 (fun x hx hlt => by have := loT x hx; omega)
   replace RR := RtIn.keptL RR kc14 (fun y hy hx => dj y hy hx) npT loT
   replace PP := PkS.keptT PP kc14 npT loT
   replace Bgq := Bgq.kept kc14 nfTgq
   refine ⟨_, rfl, Bgq, fun a73 f73 => ?_⟩
   clear f72 a72 kc14
   have dj2 : ∀ y ∈ m2.fp g, y ∉ m'.fp h := fun y hy hx => (nw2 y hy).elim (fun h => dj y h hx) (fun h => by have := ltR y hx; omega)
   clear dj
   have dj := dj2
   have T := T2
   have hup := up2
   clear dj2 T2 up2
   have npT := T.noPk
   have npR := RR.noPk
   have loT := T.lo
   have loR := RR.lo
   have ltT := T.fp_lt
   refine R.call 5 f73 rfl rfl (by decide) (by kernel_rfl) wantedN (run_call Try.call15 (args2 f73 rfl rfl)) (outR_any p s hid w.heap.size h r m' _ RR (by omega) (by omega) PP hL) ?_
   rintro e w15 ⟨rfl, n2, R2, upR, kc15, nwR⟩
   have szw15 := kc15.size
   replace HK := HK.trans kc15 (fun x hx hlt => by have := loR x hx; omega)
   replace PP := PkS.keptT PP kc15 npR loR
   replace Bgq := Bgq.kept kc15 nfRgq
   replace T := TrIn.keptL T kc15 (fun y hy hx => dj y hx hy) npR
   refine ⟨_, rfl, Bgq, fun a74 f74 => ?_⟩
   clear f73 a73 kc15
   have djR : ∀ y ∈ m2.fp g, y ∉ n2.fp h := fun y hy hx => (nwR y hx).elim (fun h => dj y hy h) (fun h => by have := ltT y hy; omega)
   clear dj
   have dj := djR
   have RR := R2
   clear djR R2
   obtain ⟨hso, sim2⟩ := sim.out_ hr
   refine R.u 6 f74 rfl ht Bgq (fun W hW => (E.neqB f74 U4 rfl rfl)) fun a75 f75 => ?_
   have f76 := f75.as (i := 63) (v' := .bool false) rfl (by rw [hso]; simp)
   refine R.done (by kernel_rfl) (hK24 _ _ ?_)
   have f77 := f76.sub (sc 1 (sc 5 (sc 6 (sc 7 (sc 63 sn)))))
   refine C.condF f77 rfl ?_
   exact wp_skip (jn J21 (by rw [hJ21]; exact ⟨(t.outT p).2, m2, (r.outR p).2, n2, by omega, by omega, HK, T, RR, dj, sim2, f77.sub (sx (sx (sx (sx sn))))⟩))
  intro a65 w13 hj
  rw [hJ21] at hj
  clear hJ21 J21
  obtain ⟨t, m, r, m', hmn, hmn', HK, T, RR, dj, sim, f65⟩ := hj
  try clear f64
  have szd := HK.size
  refine C.sk fun K25 hK25 => ?_
  refine L.mv f65 fun a66 f66 => ?_
  refine L.cl f66 (run_call Try.call16 (args1 f66 rfl)) (owed_any w.heap.size g t m _ T (by omega)) ?_
  clear f65 a65
  rintro e w14 ⟨kc14, rfl⟩
  refine ⟨_, rfl, fun a67 f67 => ?_⟩
  have szw14 := kc14.size
  replace HK := HK.z kc14
  replace T := TrIn.kept0 T kc14
  replace RR := RtIn.kept0 RR kc14
  clear f66 a66 kc14
  refine L.mv f67 fun a68 f68 => ?_
  refine L.cl f68 (run_call Try.call17 (args1 f68 rfl)) (owedR_any w.heap.size h r m' _ RR (by omega)) ?_
  clear f67 a67
  rintro e w15 ⟨kc15, rfl⟩
  refine ⟨_, rfl, fun a69 f69 => ?_⟩
  have szw15 := kc15.size
  replace HK := HK.z kc15
  replace T := TrIn.kept0 T kc15
  replace RR := RtIn.kept0 RR kc15
  clear f68 a68 kc15
  refine L.va f69 (E.neq f69 rfl rfl) fun a70 f70 => ?_
  have f71 := f70.as (i := 68) (v' := .bool false) rfl (by rw [sim.owed_]; simp)
  refine wpList_nil (hK25 _ _ ?_)
  have f72 := f71.sub (sc 1 (sc 5 (sc 6 (sc 7 (sc 68 sn)))))
  refine C.condF f72 rfl ?_
  refine wp_skip (hK12 _ _ ?_)
  have f73 := f72.sub (sc 1 (sc 5 (sc 6 (sc 7 sn))))
  refine C.region ?_
  refine L.mv f73 fun a74 f74 => ?_
  refine L.va f74 (E.add f74 rfl rfl (IntWalk.i64_in _ (by omega))) fun a75 f75 => ?_
  refine L.ag f75 fun a76 f76 => ?_
  clear f69 a69 f70 f71 f72 f73 a70 f74 a74 f75 a75
  refine wpList_nil (hKL9 _ _ (gk10 - 1) ?_ ?_)
  ·omega
  exact ⟨k + 1, t, m, r, m', by omega, by omega, by omega, HK, T, RR, dj, sim, by simpa using f76.sub (sx (sx (sx (sx sn))))⟩
 refine C.condF f30 rfl ?_
 refine wp_exit (hK7 _ _ ?_)
 have f31 := f30.sub sn
 refine C.sk fun K26 hK26 => ?_
 refine L.ag f31 fun a32 f32 => ?_
 have f33 := f32.sub (sc 4 sn)
 refine wpList_nil (hK26 _ _ (wp_ret ?_)); (try simp only [xt, xb]); refine C.ret f33 rfl rfl ?_
 exact ⟨HK, rfl⟩
end Go.Proofs.Ytkdeedhjkjffpaa
namespace Go.Hub
open Go.RowKit Go.ChangeShapes Go.WideShapes Go.Deep
section
variable {H : Type} {enc : TypeId × Value → H} {P : Program} {w : World} {spare : Nat → Bool} {held : Bool}
theorem spot0 {b off : Nat} {s : Option Nat} {v : Value} (h : w.cell? ⟨b, off, s⟩ = some v) : s = none := World.cell?_spot h
theorem open_seq {M : Type} {t e size : Nat} {v : Value} {d : DataW H} {p : List MemPlace} {rel : List Value → M → Prop} (hsz : P.cellsOf e = size) (hpos : 0 < size) (ht : P.underlying t = some (.slice e))
    (hv : ∃ a len cap, v = .slice a len cap) (h : DataW.Trod enc P w 0 spare held t v d p) (hel : ∀ n cs y, DataW.trod enc P w 0 spare held n e cs = some y → ∃ m, rel cs m) :
    ∃ A len cap xs ms, v = .slice A len cap ∧ len ≤ cap ∧ cap ≤ maxLen ∧ ms.length = len ∧ Rds w w.heap.size size A len xs ∧ Seq size rel xs ms := by
  obtain ⟨a, len, cap, rfl⟩ := hv
  obtain ⟨fuel, hf⟩ := h
  rcases open_slice ht hf with ⟨hcs, _⟩ | ⟨a', len', cap', m, n, D, Pl, hcs, _, hl, hm, hmm, _, hi⟩
  · simp [Value.cells] at hcs
    obtain ⟨rfl, rfl, rfl⟩ := hcs
    exact ⟨none, 0, 0, [], [], rfl, Nat.le_refl _, by simp [maxLen], rfl, Rds.nil _ _ _ _, Seq.nil _ _⟩
  · simp [Value.cells] at hcs
    obtain ⟨rfl, rfl, rfl⟩ := hcs
    obtain ⟨b, off, s⟩ := a'
    have hlm : len ≤ m := by rw [hmm]; split <;> omega
    have key : ∀ k, k ≤ len → ∃ xs ms, ms.length = k ∧ Seq size rel xs ms ∧ (0 < k → s = none ∧ b < w.heap.size ∧ ∀ j u, xs[j]? = some u → w.cell? ⟨b, off + j, none⟩ = some u) := by
      intro k
      induction k with
      | zero => exact fun _ => ⟨[], [], rfl, Seq.nil _ _, fun h => absurd h (by omega)⟩
      | succ k ih =>
        intro hk
        obtain ⟨xs, ms, h1, h2, h3⟩ := ih (by omega)
        obtain ⟨cs', hc, htr⟩ := hi k (by omega)
        rw [hsz] at hc
        obtain ⟨_, hcl, hat⟩ := World.cells?_some hc
        obtain ⟨mm, hmm'⟩ := hel _ _ _ htr
        have hs : s = none ∧ b < w.heap.size := by
          rcases Nat.eq_zero_or_pos k with h0 | h0
          · subst h0
            have h00 := hat 0 hpos
            have e0 : cs'[0]? = some (cs'[0]'(by omega)) := List.getElem?_eq_getElem (by omega)
            rw [e0, Nat.zero_mul] at h00
            have h01 : w.cell? ⟨b, off, s⟩ = some (cs'[0]'(by omega)) := by simpa [Addr.add] using h00
            exact ⟨spot0 h01, World.block_lt_of_cell? w _ h01⟩
          · exact ⟨(h3 h0).1, (h3 h0).2.1⟩
        obtain ⟨rfl, hbw⟩ := hs
        refine ⟨xs ++ cs', ms ++ [mm], by simp [h1], h2.append (Seq.one hcl hmm'), fun _ => ⟨rfl, hbw, fun j u hu => ?_⟩⟩
        rcases Nat.lt_or_ge j xs.length with hj | hj
        · rw [List.getElem?_append_left hj] at hu
          have hk0 : 0 < k := by
            rcases Nat.eq_zero_or_pos k with h0 | h0
            · have := h2.1; rw [h1, h0] at this; omega
            · exact h0
          exact (h3 hk0).2.2 j u hu
        · rw [List.getElem?_append_right hj] at hu
          have hlt : j - xs.length < cs'.length := by
            rcases Nat.lt_or_ge (j - xs.length) cs'.length with h | h
            · exact h
            · rw [List.getElem?_eq_none h] at hu; cases hu
          have := hat (j - xs.length) (by omega)
          rw [hu, add_none, add_none] at this
          have e1 := h2.1
          rw [h1] at e1
          rw [show off + k * size + (j - xs.length) = off + j from by omega] at this
          exact this
    obtain ⟨xs, ms, h1, h2, h3⟩ := key len (Nat.le_refl _)
    refine ⟨_, len, cap, xs, ms, rfl, hl, hm, h1, ⟨by rw [h2.1, h1], fun hp => ?_⟩, h2⟩
    obtain ⟨rfl, hb, hc⟩ := h3 hp
    exact ⟨b, off, rfl, hb, hc⟩
theorem open_bytes {t e n : Nat} {cs : List Value} {y : DataW H × List MemPlace} (E : List TypeId) (ht : P.underlying t = some (.slice e)) (he : P.underlying e = some (.int .u8)) (hsz : P.cellsOf e = 1)
    (h : DataW.trod enc P w 0 spare held n t cs = some y) : ∃ A c l, cs = [.slice A l.length c] ∧ l.length ≤ maxLen ∧ Bs E w.heap.size w A l.length l := by
  rcases open_ints ht he hsz h with ⟨rfl, _⟩ | ⟨a, len, cap, zs, rfl, _, hl, hm, hz, _, hc, hw⟩
  · exact ⟨none, 0, [], rfl, by simp [maxLen], Bs.nil _ _ _ _⟩
  · have hzl : len ≤ zs.length := by rw [hz]; split <;> omega
    have hlen : ((zs.take len).map fun z => UInt8.ofNat z.toNat).length = len := by simp; omega
    refine ⟨some a, cap, (zs.take len).map fun z => UInt8.ofNat z.toNat, by rw [hlen], by rw [hlen]; omega, ?_⟩
    rw [hlen]
    refine ⟨hlen, fun hp => ?_⟩
    obtain ⟨b, off, s⟩ := a
    have h0 := hc 0 (by omega)
    have h01 : w.cell? ⟨b, off, s⟩ = some (.int .u8 (zs.getD 0 0)) := by simpa [Addr.add] using h0
    obtain rfl := spot0 h01
    have hbw := World.block_lt_of_cell? w _ h01
    refine ⟨b, off, rfl, hbw, .inl hbw, fun j x hx => ?_⟩
    simp only [List.getElem?_map, Option.map_eq_some_iff] at hx
    obtain ⟨z, hz2, rfl⟩ := hx
    have hj : j < len := by
      rcases Nat.lt_or_ge j len with h | h
      · exact h
      · rw [List.getElem?_take, if_neg (by omega)] at hz2; cases hz2
    rw [List.getElem?_take, if_pos hj] at hz2
    have := hc j (by omega)
    rw [add_none] at this
    rw [this]
    have hzw := bd_u8 (hw z (List.mem_of_getElem? hz2))
    have e1 : zs.getD j 0 = z := by simp [List.getD_eq_getElem?_getD, hz2]
    rw [e1]
    unfold u8
    rw [UInt8.toNat_ofNat']
    congr 2
    omega
end
end Go.Hub
namespace Go.Hub
open Go.RowKit Go.ChangeShapes Go.WideShapes Go.Deep
theorem weights_all {H : Type} {P : Program} {e : TypeId} : ∀ {ds : List (DataW H)} {d : DataW H}, d ∈ ds → ∀ {q : Nat}, q ∈ d.weights P e → q ∈ DataW.weightsAll P e ds
  | a :: r, d, h, q, hq => by
    simp only [DataW.weightsAll, List.mem_append]
    rcases List.mem_cons.1 h with rfl | h
    · exact .inl hq
    exact .inr (weights_all h hq)
section
variable {H : Type} {enc : TypeId × Value → H} {P : Program} {w : World} {spare : Nat → Bool} {held : Bool}
theorem open_seqZ {R : Nat} {M : Type} {t e size : Nat} {v : Value} {d : DataW H} {p : List MemPlace} {rel : List Value → M → Prop} (hsz : P.cellsOf e = size) (hpos : 0 < size) (ht : P.underlying t = some (.slice e))
    (hv : ∃ a len cap, v = .slice a len cap) (h : DataW.Trod enc P w 0 spare held t v d p) (hz : ∀ k ∈ d.weights P t, k ≤ R) (hel : ∀ n cs y, DataW.trod enc P w 0 spare held n e cs = some y → (∀ k ∈ y.1.weights P e, k ≤ R) → ∃ m, rel cs m) :
    ∃ A len cap xs ms, v = .slice A len cap ∧ len ≤ cap ∧ cap ≤ maxLen ∧ ms.length = len ∧ Rds w w.heap.size size A len xs ∧ Seq size rel xs ms := by
  obtain ⟨a, len, cap, rfl⟩ := hv
  obtain ⟨fuel, hf⟩ := h
  rcases open_slice ht hf with ⟨hcs, _⟩ | ⟨a', len', cap', m, n, D, Pl, hcs, _, hl, hm, hmm, hx, hi⟩
  · simp [Value.cells] at hcs
    obtain ⟨rfl, rfl, rfl⟩ := hcs
    exact ⟨none, 0, 0, [], [], rfl, Nat.le_refl _, by simp [maxLen], rfl, Rds.nil _ _ _ _, Seq.nil _ _⟩
  simp [Value.cells] at hcs
  obtain ⟨rfl, rfl, rfl⟩ := hcs
  obtain ⟨b, off, s⟩ := a'
  have hlm : len ≤ m := by rw [hmm]; split <;> omega
  injection hx with hd _
  subst hd
  simp only [DataW.weights, ht] at hz
  have key : ∀ k, k ≤ len → ∃ xs ms, ms.length = k ∧ Seq size rel xs ms ∧ (0 < k → s = none ∧ b < w.heap.size ∧ ∀ j u, xs[j]? = some u → w.cell? ⟨b, off + j, none⟩ = some u) := by
    intro k
    induction k with
    | zero => exact fun _ => ⟨[], [], rfl, Seq.nil _ _, fun h => absurd h (by omega)⟩
    | succ k ih =>
      intro hk
      obtain ⟨xs, ms, h1, h2, h3⟩ := ih (by omega)
      obtain ⟨cs', hc, htr⟩ := hi k (by omega)
      rw [hsz] at hc
      obtain ⟨_, hcl, hat⟩ := World.cells?_some hc
      obtain ⟨mm, hmm'⟩ := hel _ _ _ htr fun q hq => hz q (List.mem_cons_of_mem _ (List.mem_append_left _ (weights_all (List.mem_map.2 ⟨k, List.mem_range.2 (by omega), rfl⟩) hq)))
      have hs : s = none ∧ b < w.heap.size := by
        rcases Nat.eq_zero_or_pos k with h0 | h0
        · subst h0
          have h00 := hat 0 hpos
          have e0 : cs'[0]? = some (cs'[0]'(by omega)) := List.getElem?_eq_getElem (by omega)
          rw [e0, Nat.zero_mul] at h00
          have h01 : w.cell? ⟨b, off, s⟩ = some (cs'[0]'(by omega)) := by simpa [Addr.add] using h00
          exact ⟨spot0 h01, World.block_lt_of_cell? w _ h01⟩
        exact ⟨(h3 h0).1, (h3 h0).2.1⟩
      obtain ⟨rfl, hbw⟩ := hs
      refine ⟨xs ++ cs', ms ++ [mm], by simp [h1], h2.append (Seq.one hcl hmm'), fun _ => ⟨rfl, hbw, fun j u hu => ?_⟩⟩
      rcases Nat.lt_or_ge j xs.length with hj | hj
      · rw [List.getElem?_append_left hj] at hu
        have hk0 : 0 < k := by
          rcases Nat.eq_zero_or_pos k with h0 | h0
          · have := h2.1; rw [h1, h0] at this; omega
          exact h0
        exact (h3 hk0).2.2 j u hu
      rw [List.getElem?_append_right hj] at hu
      have hlt : j - xs.length < cs'.length := by
        rcases Nat.lt_or_ge (j - xs.length) cs'.length with h | h
        · exact h
        rw [List.getElem?_eq_none h] at hu; cases hu
      have := hat (j - xs.length) (by omega)
      rw [hu, add_none, add_none] at this
      have e1 := h2.1
      rw [h1] at e1
      rw [show off + k * size + (j - xs.length) = off + j from by omega] at this
      exact this
  obtain ⟨xs, ms, h1, h2, h3⟩ := key len (Nat.le_refl _)
  refine ⟨_, len, cap, xs, ms, rfl, hl, hm, h1, ⟨by rw [h2.1, h1], fun hp => ?_⟩, h2⟩
  obtain ⟨rfl, hb, hc⟩ := h3 hp
  exact ⟨b, off, rfl, hb, hc⟩
theorem open_bytesC {t e n : Nat} {cs : List Value} {y : DataW H × List MemPlace} (E : List TypeId) (ht : P.underlying t = some (.slice e)) (he : P.underlying e = some (.int .u8)) (hsz : P.cellsOf e = 1)
    (h : DataW.trod enc P w 0 spare held n t cs = some y) : ∃ A c l, cs = [.slice A l.length c] ∧ l.length ≤ c ∧ c ≤ maxLen ∧ Bs E w.heap.size w A l.length l := by
  rcases open_ints ht he hsz h with ⟨rfl, _⟩ | ⟨a, len, cap, zs, rfl, _, hl, hm, hz, _, hc, hw⟩
  · exact ⟨none, 0, [], rfl, Nat.le_refl _, by simp [maxLen], Bs.nil _ _ _ _⟩
  have hzl : len ≤ zs.length := by rw [hz]; split <;> omega
  have hlen : ((zs.take len).map fun z => UInt8.ofNat z.toNat).length = len := by simp; omega
  refine ⟨some a, cap, (zs.take len).map fun z => UInt8.ofNat z.toNat, by rw [hlen], by rw [hlen]; omega, by omega, ?_⟩
  rw [hlen]
  refine ⟨hlen, fun hp => ?_⟩
  obtain ⟨b, off, s⟩ := a
  have h0 := hc 0 (by omega)
  have h01 : w.cell? ⟨b, off, s⟩ = some (.int .u8 (zs.getD 0 0)) := by simpa [Addr.add] using h0
  obtain rfl := spot0 h01
  have hbw := World.block_lt_of_cell? w _ h01
  refine ⟨b, off, rfl, hbw, .inl hbw, fun j x hx => ?_⟩
  simp only [List.getElem?_map, Option.map_eq_some_iff] at hx
  obtain ⟨z, hz2, rfl⟩ := hx
  have hj : j < len := by
    rcases Nat.lt_or_ge j len with h | h
    · exact h
    rw [List.getElem?_take, if_neg (by omega)] at hz2; cases hz2
  rw [List.getElem?_take, if_pos hj] at hz2
  have := hc j (by omega)
  rw [add_none] at this
  rw [this]
  have hzw := bd_u8 (hw z (List.mem_of_getElem? hz2))
  have e1 : zs.getD j 0 = z := by simp [List.getD_eq_getElem?_getD, hz2]
  rw [e1]
  unfold u8
  rw [UInt8.toNat_ofNat']
  congr 2
  omega
end
end Go.Hub
set_option maxRecDepth 100000
namespace Go.Proofs.Ytkdeedhjkjffpaa
open Go.RowKit Go.Hub Go.ChangeShapes Go.WideShapes Go.Deep
def _root_.Go.Hub.Pk.Fits (p : Pk) : Prop := p.pay.length ≤ maxLen ∧ p.wp.length ≤ maxLen ∧ p.pass.length ≤ maxLen ∧ p.subs.length ≤ maxLen ∧ p.codes.length ≤ maxLen
section
variable {H : Type} {enc : TypeId × Value → H} {w : World} {spare : Nat → Bool} {held : Bool}
theorem open_sub (n : Nat) (cs : List Value) (y : DataW H × List MemPlace) (h : DataW.trod enc Try.prog w 0 spare held n 46 cs = some y) : ∃ s : ByteArray × Int, cs = [.string s.1, .int .i64 s.2] := by
  obtain ⟨ys, n', _, _, hcl, hyl, hf⟩ := DataW.trod_struct Try.underlying46 h
  have hcells : Try.prog.cellsOf 46 = 2 := by kernel_rfl
  rw [hcells] at hcl
  match cs, hcl with
  | [v0, v1], _ =>
    have c9 : Try.prog.cellsOf 9 = 1 := by kernel_rfl
    have c3 : Try.prog.cellsOf 3 = 1 := by kernel_rfl
    have f0 : DataW.trod enc Try.prog w 0 spare held n' 9 [v0] = ys[0]? := by have := hf 0 _ rfl; simpa [c9] using this
    have f1 : DataW.trod enc Try.prog w 0 spare held n' 3 [v1] = ys[1]? := by have := hf 1 _ rfl; simpa [c3] using this
    have l2 : ys.length = 2 := hyl
    rw [List.getElem?_eq_getElem (by omega)] at f0 f1
    obtain ⟨s, e0, _, _⟩ := DataW.trod_string U9 f0
    obtain ⟨q, e1, _, _⟩ := DataW.trod_int U3 f1
    simp at e0 e1
    subst e0 e1
    exact ⟨(s, q), rfl⟩
theorem open_int1 (n : Nat) (cs : List Value) (y : DataW H × List MemPlace) (h : DataW.trod enc Try.prog w 0 spare held n 3 cs = some y) : ∃ q : Int, cs = [.int .i64 q] := by
  obtain ⟨q, e1, _, _⟩ := DataW.trod_int U3 h
  exact ⟨q, e1⟩
theorem seq_subs {xs : List Value} {ms : List (ByteArray × Int)} (h : Seq 2 (fun cs s => cs = [.string s.1, .int .i64 s.2]) xs ms) : xs = subCells ms := by
  induction ms generalizing xs with
  | nil => have := h.1; simp at this; subst this; rfl
  | cons m r ih =>
    have h0 := h.2 0 m rfl
    have hd := ih (h.drop 1)
    simp at h0
    have e : xs = xs.take 2 ++ xs.drop 2 := (List.take_append_drop 2 xs).symm
    rw [e, h0]
    simp at hd
    rw [hd]
    simp [subCells]
theorem seq_codes {xs : List Value} {ms : List Int} (h : Seq 1 (fun cs q => cs = [.int .i64 q]) xs ms) : xs = codeCells ms := by
  induction ms generalizing xs with
  | nil => have := h.1; simp at this; subst this; rfl
  | cons m r ih =>
    have h0 := h.2 0 m rfl
    have hd := ih (h.drop 1)
    simp at h0
    have e : xs = xs.take 1 ++ xs.drop 1 := (List.take_append_drop 1 xs).symm
    rw [e, h0]
    simp at hd
    rw [List.drop_one, hd]
    simp [codeCells]
theorem cs_of_rds {E : List TypeId} {A : Option Addr} {n size : Nat} {xs : List Value} (h : Rds w w.heap.size size A n xs) : Cs E w.heap.size w A n size xs :=
  ⟨h.1, fun hn => by
    obtain ⟨b, off, e, hb, hc⟩ := h.2 hn
    exact ⟨b, off, e, hb, .inl hb, hc⟩⟩
theorem trod_slice1 {t e n : Nat} {v : Value} {y : DataW H × List MemPlace} (hu : Try.prog.underlying t = some (.slice e)) (h : DataW.trod enc Try.prog w 0 spare held n t [v] = some y) : ∃ a len cap, v = .slice a len cap := by
  rcases open_slice hu h with ⟨hcs, _⟩ | ⟨a', len', cap', m, n, D, Pl, hcs, _⟩
  · simp at hcs; exact ⟨_, _, _, hcs⟩
  simp at hcs; exact ⟨_, _, _, hcs⟩
theorem open_packet (n : Nat) (cs : List Value) (y : DataW H × List MemPlace) (h : DataW.trod enc Try.prog w 0 spare held n 34 cs = some y) : ∃ p s, cs = (Pk.cells p s).toList ∧ p.Ok [5, 46, 3] w.heap.size w s ∧ p.Fits := by
  obtain ⟨ys, n', _, _, hcl, hyl, hf⟩ := DataW.trod_struct U34 h
  have hcells : Try.prog.cellsOf 34 = 24 := by kernel_rfl
  rw [hcells] at hcl
  match cs, hcl with
  | [v0, v1, v2, v3, v4, v5, v6, v7, v8, v9, v10, v11, v12, v13, v14, v15, v16, v17, v18, v19, v20, v21, v22, v23], _ =>
    have k3 : Try.prog.cellsOf 3 = 1 := by kernel_rfl
    have k4 : Try.prog.cellsOf 4 = 1 := by kernel_rfl
    have k9 : Try.prog.cellsOf 9 = 1 := by kernel_rfl
    have k22 : Try.prog.cellsOf 28 = 1 := by kernel_rfl
    have k24 : Try.prog.cellsOf 30 = 4 := by kernel_rfl
    have k25 : Try.prog.cellsOf 31 = 1 := by kernel_rfl
    have k26 : Try.prog.cellsOf 32 = 1 := by kernel_rfl
    have l21 : ys.length = 21 := hyl
    have f0 : DataW.trod enc Try.prog w 0 spare held n' 3 [v0] = ys[0]? := by have := hf 0 _ rfl; simpa [k3] using this
    rw [List.getElem?_eq_getElem (by omega)] at f0
    have f1 : DataW.trod enc Try.prog w 0 spare held n' 4 [v1] = ys[1]? := by have := hf 1 _ rfl; simpa [k4] using this
    rw [List.getElem?_eq_getElem (by omega)] at f1
    have f2 : DataW.trod enc Try.prog w 0 spare held n' 4 [v2] = ys[2]? := by have := hf 2 _ rfl; simpa [k4] using this
    rw [List.getElem?_eq_getElem (by omega)] at f2
    have f3 : DataW.trod enc Try.prog w 0 spare held n' 3 [v3] = ys[3]? := by have := hf 3 _ rfl; simpa [k3] using this
    rw [List.getElem?_eq_getElem (by omega)] at f3
    have f4 : DataW.trod enc Try.prog w 0 spare held n' 3 [v4] = ys[4]? := by have := hf 4 _ rfl; simpa [k3] using this
    rw [List.getElem?_eq_getElem (by omega)] at f4
    have f5 : DataW.trod enc Try.prog w 0 spare held n' 9 [v5] = ys[5]? := by have := hf 5 _ rfl; simpa [k9] using this
    rw [List.getElem?_eq_getElem (by omega)] at f5
    have f6 : DataW.trod enc Try.prog w 0 spare held n' 28 [v6] = ys[6]? := by have := hf 6 _ rfl; simpa [k22] using this
    rw [List.getElem?_eq_getElem (by omega)] at f6
    have f7 : DataW.trod enc Try.prog w 0 spare held n' 3 [v7] = ys[7]? := by have := hf 7 _ rfl; simpa [k3] using this
    rw [List.getElem?_eq_getElem (by omega)] at f7
    have f8 : DataW.trod enc Try.prog w 0 spare held n' 9 [v8] = ys[8]? := by have := hf 8 _ rfl; simpa [k9] using this
    rw [List.getElem?_eq_getElem (by omega)] at f8
    have f9 : DataW.trod enc Try.prog w 0 spare held n' 4 [v9] = ys[9]? := by have := hf 9 _ rfl; simpa [k4] using this
    rw [List.getElem?_eq_getElem (by omega)] at f9
    have f10 : DataW.trod enc Try.prog w 0 spare held n' 3 [v10] = ys[10]? := by have := hf 10 _ rfl; simpa [k3] using this
    rw [List.getElem?_eq_getElem (by omega)] at f10
    have f11 : DataW.trod enc Try.prog w 0 spare held n' 4 [v11] = ys[11]? := by have := hf 11 _ rfl; simpa [k4] using this
    rw [List.getElem?_eq_getElem (by omega)] at f11
    have f12 : DataW.trod enc Try.prog w 0 spare held n' 30 [v12, v13, v14, v15] = ys[12]? := by have := hf 12 _ rfl; simpa [k24] using this
    rw [List.getElem?_eq_getElem (by omega)] at f12
    have f13 : DataW.trod enc Try.prog w 0 spare held n' 4 [v16] = ys[13]? := by have := hf 13 _ rfl; simpa [k4] using this
    rw [List.getElem?_eq_getElem (by omega)] at f13
    have f14 : DataW.trod enc Try.prog w 0 spare held n' 4 [v17] = ys[14]? := by have := hf 14 _ rfl; simpa [k4] using this
    rw [List.getElem?_eq_getElem (by omega)] at f14
    have f15 : DataW.trod enc Try.prog w 0 spare held n' 9 [v18] = ys[15]? := by have := hf 15 _ rfl; simpa [k9] using this
    rw [List.getElem?_eq_getElem (by omega)] at f15
    have f16 : DataW.trod enc Try.prog w 0 spare held n' 28 [v19] = ys[16]? := by have := hf 16 _ rfl; simpa [k22] using this
    rw [List.getElem?_eq_getElem (by omega)] at f16
    have f17 : DataW.trod enc Try.prog w 0 spare held n' 4 [v20] = ys[17]? := by have := hf 17 _ rfl; simpa [k4] using this
    rw [List.getElem?_eq_getElem (by omega)] at f17
    have f18 : DataW.trod enc Try.prog w 0 spare held n' 3 [v21] = ys[18]? := by have := hf 18 _ rfl; simpa [k3] using this
    rw [List.getElem?_eq_getElem (by omega)] at f18
    have f19 : DataW.trod enc Try.prog w 0 spare held n' 31 [v22] = ys[19]? := by have := hf 19 _ rfl; simpa [k25] using this
    rw [List.getElem?_eq_getElem (by omega)] at f19
    have f20 : DataW.trod enc Try.prog w 0 spare held n' 32 [v23] = ys[20]? := by have := hf 20 _ rfl; simpa [k26] using this
    rw [List.getElem?_eq_getElem (by omega)] at f20
    obtain ⟨zs, n2, _, _, _, hzl, hg⟩ := DataW.trod_struct U30 f12
    have l4 : zs.length = 4 := hzl
    have g0 : DataW.trod enc Try.prog w 0 spare held n2 9 [v12] = zs[0]? := by have := hg 0 _ rfl; simpa [k9] using this
    have g1 : DataW.trod enc Try.prog w 0 spare held n2 28 [v13] = zs[1]? := by have := hg 1 _ rfl; simpa [k22] using this
    have g2 : DataW.trod enc Try.prog w 0 spare held n2 3 [v14] = zs[2]? := by have := hg 2 _ rfl; simpa [k3] using this
    have g3 : DataW.trod enc Try.prog w 0 spare held n2 4 [v15] = zs[3]? := by have := hg 3 _ rfl; simpa [k4] using this
    rw [List.getElem?_eq_getElem (by omega)] at g0 g1 g2 g3
    obtain ⟨x0, e0, _, _⟩ := DataW.trod_int U3 f0
    obtain ⟨x1, e1, _⟩ := DataW.trod_bool U4 f1
    obtain ⟨x2, e2, _⟩ := DataW.trod_bool U4 f2
    obtain ⟨x3, e3, _, _⟩ := DataW.trod_int U3 f3
    obtain ⟨x4, e4, _, _⟩ := DataW.trod_int U3 f4
    obtain ⟨x5, e5, _, _⟩ := DataW.trod_string U9 f5
    obtain ⟨A6, c6, x6, e6, l6, o6⟩ := open_bytes [5, 46, 3] U28 U5 (by kernel_rfl) f6
    obtain ⟨x7, e7, _, _⟩ := DataW.trod_int U3 f7
    obtain ⟨x8, e8, _, _⟩ := DataW.trod_string U9 f8
    obtain ⟨x9, e9, _⟩ := DataW.trod_bool U4 f9
    obtain ⟨x10, e10, _, _⟩ := DataW.trod_int U3 f10
    obtain ⟨x11, e11, _⟩ := DataW.trod_bool U4 f11
    obtain ⟨x16, e16, _⟩ := DataW.trod_bool U4 f13
    obtain ⟨x17, e17, _⟩ := DataW.trod_bool U4 f14
    obtain ⟨x18, e18, _, _⟩ := DataW.trod_string U9 f15
    obtain ⟨A19, c19, x19, e19, l19, o19⟩ := open_bytes [5, 46, 3] U28 U5 (by kernel_rfl) f16
    obtain ⟨x20, e20, _⟩ := DataW.trod_bool U4 f17
    obtain ⟨x21, e21, _, _⟩ := DataW.trod_int U3 f18
    obtain ⟨a22, l22_, d22, e22⟩ := trod_slice1 U31 f19
    obtain ⟨a23, l23_, d23, e23⟩ := trod_slice1 U32 f20
    obtain ⟨x12, e12, _, _⟩ := DataW.trod_string U9 g0
    obtain ⟨A13, c13, x13, e13, l13, o13⟩ := open_bytes [5, 46, 3] U28 U5 (by kernel_rfl) g1
    obtain ⟨x14, e14, _, _⟩ := DataW.trod_int U3 g2
    obtain ⟨x15, e15, _⟩ := DataW.trod_bool U4 g3
    subst e22 e23
    obtain ⟨A22, m22, c22, xs22, x22, q22, ha22, hb22, hl22, r22, s22⟩ := open_seq (rel := fun cs (s : ByteArray × Int) => cs = [.string s.1, .int .i64 s.2]) (show Try.prog.cellsOf 46 = 2 by kernel_rfl) (by omega) U31 ⟨_, _, _, rfl⟩ ⟨_, f19⟩ open_sub
    obtain ⟨A23, m23, c23, xs23, x23, q23, ha23, hb23, hl23, r23, s23⟩ := open_seq (rel := fun cs (q : Int) => cs = [.int .i64 q]) (show Try.prog.cellsOf 3 = 1 by kernel_rfl) (by omega) U32 ⟨_, _, _, rfl⟩ ⟨_, f20⟩ open_int1
    rw [q22, q23]
    rw [seq_subs s22] at r22
    rw [seq_codes s23] at r23
    subst hl22 hl23
    simp at e0 e1 e2 e3 e4 e5 e6 e7 e8 e9 e10 e11 e12 e13 e14 e15 e16 e17 e18 e19 e20 e21
    subst e0 e1 e2 e3 e4 e5 e6 e7 e8 e9 e10 e11 e12 e13 e14 e15 e16 e17 e18 e19 e20 e21
    exact ⟨⟨x0, x1, x2, x3, x4, x5, x6, x7, x8, x9, x10, x11, x12, x13, x14, x15, x16, x17, x18, x19, x20, x21, x22, x23⟩, ⟨A6, c6, A13, c13, A19, c19, A22, c22, A23, c23⟩, rfl, ⟨o6, o13, o19, cs_of_rds r22, cs_of_rds r23⟩, l6, l13, l19, Nat.le_trans ha22 hb22, Nat.le_trans ha23 hb23⟩
theorem size_str {n : Nat} {s : ByteArray} {y : DataW H × List MemPlace} (h : DataW.trod enc Try.prog w 0 spare held n 9 [.string s] = some y) (hz : ∀ k ∈ y.1.weights Try.prog 9, k ≤ reachBytes) : s.size ≤ 140737488355328 := by
  obtain ⟨r, e1, rfl, _⟩ := DataW.trod_string U9 h
  simp at e1
  subst e1
  have := hz s.data.toList.length (by simp [DataW.weights])
  have h2 := reachBytes_lt
  have e : s.data.toList.length = s.size := by simp
  omega
theorem size_bytes {n : Nat} {A : Option Addr} {m c : Nat} {y : DataW H × List MemPlace} (h : DataW.trod enc Try.prog w 0 spare held n 28 [.slice A m c] = some y) (hz : ∀ k ∈ y.1.weights Try.prog 28, k ≤ reachBytes) : m ≤ 140737488355328 := by
  rcases open_slice U28 h with ⟨hcs, _⟩ | ⟨a, len, cap, q, n2, D, Pl, hcs, _, _, _, _, rfl, _⟩
  · simp at hcs; omega
  simp at hcs
  obtain ⟨_, rfl, _⟩ := hcs
  have hb : Try.prog.bytesOf 5 = 1 := by kernel_rfl
  have := hz ((m + (q - m)) * 1) (by simp [DataW.weights, hb])
  have h2 := reachBytes_lt
  omega
theorem each {t : TypeId} {fs : Array Field} {n : Nat} {cs : List Value} {y : DataW H × List MemPlace} (ht : Try.prog.underlying t = some (.struct fs)) (h : DataW.trod enc Try.prog w 0 spare held n t cs = some y) (hz : ∀ k ∈ y.1.weights Try.prog t, k ≤ reachBytes)
    (i : Nat) (f : Field) (hf : fs[i]? = some f) : ∃ n' z, DataW.trod enc Try.prog w 0 spare held n' f.type ((cs.drop f.offset).take (Try.prog.cellsOf f.type)) = some z ∧ ∀ k ∈ z.1.weights Try.prog f.type, k ≤ reachBytes := by
  obtain ⟨ys, n', _, rfl, _, hyl, hg⟩ := DataW.trod_struct ht h
  have hi : i < ys.length := by rw [hyl]; exact (Array.getElem?_eq_some_iff.1 hf).1
  have hy : ys[i]? = some ys[i] := List.getElem?_eq_getElem hi
  refine ⟨n', ys[i], by rw [hg i f hf, hy], fun k hk => hz k ?_⟩
  simp only [DataW.weights, ht]
  exact DataW.weights_mem_each (j := i) (t := f.type) (d := ys[i].1) (by simp [← Array.getElem?_toList] at hf ⊢; exact ⟨f, hf, rfl⟩) (by simp [hy]) k hk
theorem reach_of {n : Nat} {p : Pk} {s : Ad} {y : DataW H × List MemPlace} (h : DataW.trod enc Try.prog w 0 spare held n 34 (Pk.cells p s).toList = some y) (hz : ∀ k ∈ y.1.weights Try.prog 34, k ≤ reachBytes) : p.Reach := by
  have k9 : Try.prog.cellsOf 9 = 1 := by kernel_rfl
  have k22 : Try.prog.cellsOf 28 = 1 := by kernel_rfl
  have k24 : Try.prog.cellsOf 30 = 4 := by kernel_rfl
  obtain ⟨_, _, a5, b5⟩ := each U34 h hz 5 _ rfl
  obtain ⟨_, _, a6, b6⟩ := each U34 h hz 6 _ rfl
  obtain ⟨_, _, a8, b8⟩ := each U34 h hz 8 _ rfl
  obtain ⟨n12, z12, a12, b12⟩ := each U34 h hz 12 _ rfl
  obtain ⟨_, _, a15, b15⟩ := each U34 h hz 15 _ rfl
  obtain ⟨_, _, a16, b16⟩ := each U34 h hz 16 _ rfl
  have a12' : DataW.trod enc Try.prog w 0 spare held n12 30 [.string p.wt, .slice s.wa p.wp.length s.wc, .int .i64 p.wq, .bool p.wr] = some z12 := by simpa [k24, Pk.cells] using a12
  obtain ⟨_, _, c0, d0⟩ := each (y := z12) U30 a12' b12 0 _ rfl
  obtain ⟨_, _, c1, d1⟩ := each (y := z12) U30 a12' b12 1 _ rfl
  exact ⟨size_str (s := p.topic) (by simpa [k9, Pk.cells] using a5) b5, size_bytes (A := s.pa) (c := s.pc) (by simpa [k22, Pk.cells] using a6) b6, size_str (s := p.client) (by simpa [k9, Pk.cells] using a8) b8, size_str (s := p.user) (by simpa [k9, Pk.cells] using a15) b15, size_bytes (A := s.sa) (c := s.sc) (by simpa [k22, Pk.cells] using a16) b16, size_str (s := p.wt) (by simpa [k9] using c0) d0, size_bytes (A := s.wa) (c := s.wc) (by simpa [k22] using c1) d1⟩
theorem trod_u8 {n : Nat} {v : Value} {y : DataW H × List MemPlace} (h : DataW.trod enc Try.prog w 0 spare held n 5 [v] = some y) : ∃ q : Int, v = .int .u8 q ∧ 0 ≤ q ∧ q < 256 := by
  obtain ⟨q, e1, _, hw⟩ := DataW.trod_int U5 h
  simp at e1
  have := bd_u8 hw
  exact ⟨q, e1, by omega⟩
theorem open_word (n : Nat) (cs : List Value) (y : DataW H × List MemPlace) (h : DataW.trod enc Try.prog w 0 spare held n 36 cs = some y) (hz : ∀ k ∈ y.1.weights Try.prog 36, k ≤ reachBytes) : ∃ x : WdA, cs = wdc x ∧ WdOk w x := by
  have hp0 := each (i := 5) U36 h hz
  obtain ⟨ys, n', _, _, hcl, hyl, hf⟩ := DataW.trod_struct U36 h
  have hcells : Try.prog.cellsOf 36 = 30 := by kernel_rfl
  rw [hcells] at hcl
  have l7 : ys.length = 7 := hyl
  have k4 : Try.prog.cellsOf 4 = 1 := by kernel_rfl
  have k5 : Try.prog.cellsOf 5 = 1 := by kernel_rfl
  have k34 : Try.prog.cellsOf 34 = 24 := by kernel_rfl
  have k28 : Try.prog.cellsOf 28 = 1 := by kernel_rfl
  match cs, hcl with
  | [v0, v1, v2, v3, v4, p0, p1, p2, p3, p4, p5, p6, p7, p8, p9, p10, p11, p12, p13, p14, p15, p16, p17, p18, p19, p20, p21, p22, p23, v6], _ =>
    have f0 : DataW.trod enc Try.prog w 0 spare held n' 4 [v0] = ys[0]? := by have := hf 0 _ rfl; simpa [k4] using this
    have f1 : DataW.trod enc Try.prog w 0 spare held n' 5 [v1] = ys[1]? := by have := hf 1 _ rfl; simpa [k5] using this
    have f2 : DataW.trod enc Try.prog w 0 spare held n' 5 [v2] = ys[2]? := by have := hf 2 _ rfl; simpa [k5] using this
    have f3 : DataW.trod enc Try.prog w 0 spare held n' 5 [v3] = ys[3]? := by have := hf 3 _ rfl; simpa [k5] using this
    have f4 : DataW.trod enc Try.prog w 0 spare held n' 5 [v4] = ys[4]? := by have := hf 4 _ rfl; simpa [k5] using this
    have f6 : DataW.trod enc Try.prog w 0 spare held n' 28 [v6] = ys[6]? := by have := hf 6 _ rfl; simpa [k28] using this
    rw [List.getElem?_eq_getElem (by omega)] at f0 f1 f2 f3 f4 f6
    obtain ⟨n5, z5, a5, b5⟩ := hp0 _ rfl
    have a5' : DataW.trod enc Try.prog w 0 spare held n5 34 [p0, p1, p2, p3, p4, p5, p6, p7, p8, p9, p10, p11, p12, p13, p14, p15, p16, p17, p18, p19, p20, p21, p22, p23] = some z5 := by simpa [k34] using a5
    clear a5 hp0 h hz hf
    obtain ⟨x0, e0, _⟩ := DataW.trod_bool U4 f0
    obtain ⟨x1, e1, w1⟩ := trod_u8 f1
    obtain ⟨x2, e2, w2⟩ := trod_u8 f2
    obtain ⟨x3, e3, w3⟩ := trod_u8 f3
    obtain ⟨x4, e4, w4⟩ := trod_u8 f4
    obtain ⟨p, s, ep, hok, _⟩ := open_packet _ _ _ a5'
    have a6 : DataW.trod enc Try.prog w 0 spare held n5 34 (Pk.cells p s).toList = some z5 := by rw [← ep]; exact a5'
    have hre := reach_of a6 b5
    obtain ⟨A, c, x, ex, hl, _, hb⟩ := open_bytesC [5, 46, 3] U28 U5 (by kernel_rfl) f6
    simp at e0 ex
    refine ⟨⟨⟨x0, x1, x2, x3, x4, p, x⟩, s, A, c⟩, ?_, ⟨w1, w2, w3, w4, hok, hre, hb, hl⟩⟩
    have e9 : wdc ⟨⟨x0, x1, x2, x3, x4, p, x⟩, s, A, c⟩ = [.bool x0, .int .u8 x1, .int .u8 x2, .int .u8 x3, .int .u8 x4] ++ ((Pk.cells p s).toList ++ [.slice A x.length c]) := rfl
    rw [e9, ← ep, e0, e1, e2, e3, e4, ex]
    rfl
theorem seqc {M : Type} {size : Nat} {cell : M → List Value} {R : M → Prop} : ∀ (ms : List M) (xs : List Value), Seq size (fun cs m => cs = cell m ∧ R m) xs ms → xs = ms.flatMap cell ∧ ∀ m ∈ ms, R m
  | [], xs, h => by
    have := h.1
    simp at this
    exact ⟨by simp [this], by simp⟩
  | m :: r, xs, h => by
    have h0 := h.2 0 m rfl
    rw [Nat.zero_mul, List.drop_zero] at h0
    have h1 := h.drop 1
    rw [Nat.one_mul] at h1
    obtain ⟨i1, i2⟩ := seqc r _ h1
    refine ⟨?_, fun y hy => ?_⟩
    · rw [List.flatMap_cons, ← h0.1, ← i1, List.take_append_drop]
    rcases List.mem_cons.1 hy with rfl | hy
    · exact h0.2
    exact i2 y hy
def IsWords (w : World) (v : Value) : Prop := ∃ l A c, v = .slice A (l : List WdA).length c ∧ l.length ≤ maxLen ∧ Sl w A l.length 30 (l.flatMap wdc) ∧ ∀ d ∈ l, WdOk w d
theorem open_words {r : Reach} {b0 : Nat} {v : Value} {d : DataW H} {p : List MemPlace} (hv : Value.okWide Try.prog w r b0 22 v) (h : DataW.Trod enc Try.prog w 0 spare held 22 v d p) (hz : ∀ k ∈ d.weights Try.prog 22, k ≤ reachBytes) : IsWords w v := by
  obtain ⟨A, m, q, xs, l, rfl, hm, hq, hl, rd, s⟩ := open_seqZ (rel := fun cs x => cs = wdc x ∧ WdOk w x) (show Try.prog.cellsOf 36 = 30 by kernel_rfl) (by omega) Try.underlying22 (okWide_slice Try.underlying22 hv) h hz open_word
  subst hl
  obtain ⟨e, hall⟩ := seqc l xs s
  rw [e] at rd
  exact ⟨l, A, q, rfl, by omega, Sl.of_rds rd, hall⟩
end
theorem plays_row {w : World} (a0 : Bool) {v1 : Value} (h1 : IsWords w v1) : Calls Try.prog 3 #[.bool a0, v1] w (fun e w' => e = .returned (.bool true) ∧ Below w.heap.size w w') := by
  obtain ⟨l, A, c, rfl, hm, hs, hall⟩ := h1
  exact (plays_any a0 l A c w hs hall hm).mono fun e w' h => ⟨h.2, h.1.below0⟩
end Go.Proofs.Ytkdeedhjkjffpaa
